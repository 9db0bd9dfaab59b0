import Derived.Test.YtknihldkhedpkaaGreatDoorYYG10
import Derived.Test.YtknihldkhedpkaaGreatDoorYYG22
import Derived.LoopNIn
import Derived.LoopIn
import Derived.Shelf.Abstract
import Derived.Shelf.RegionOpen
import Derived.Test.YtknihldkhedpkaaGreatDoorYYG14
import Derived.Test.YtknihldkhedpkaaGreatDoorYYG1
import Derived.Test.YtknihldkhedpkaaGreatDoorYYG7
set_option linter.all false
set_option maxHeartbeats 16000000
set_option maxRecDepth 100000
section
namespace Go.Proofs.YtknihldkhedpkaaGreatDoor.Two
open Go.RowKit Go.Lib
open Go.Proofs.YtknihldkhedpkaaGreatDoorW.PrintWords Go.Proofs.YtknihldkhedpkaaGreatDoorW.PrintLast Go.Proofs.YtknihldkhedpkaaGreatDoor.PT
attribute [local go_sem] Oper.semAt_some
structure Reader (L:Nat→List It) (A:Nat→Option Addr) where
 P:World→Prop
 base:Nat
 rd:∀w,P w→∀i,i<2→Kd.C oW w (A i) (L i).length (L i)
 below:∀w w',P w→Below w.heap.size w w'→P w'
 st:∀B w w',base≤B→P w→yj B w w'→P w'
def PI (L:Nat→List It) (A:Nat→Option Addr) (j:Nat) (v:Value):Option It→Prop
 | none=>v=.pointer none
 | some x=>∃ad p,A j=some ad∧v=.pointer (some (ad.add (p*6)))∧(L j)[p]?=some x
theorem PI.at_ {L:Nat→List It} {A:Nat→Option Addr} {j p:Nat} {ad:Addr} (hp:p<(L j).length) (hA:A j=some ad):PI L A j (.pointer (some (ad.add (p*6)))) (some ((L j)[p]'hp)):=⟨ad,p,hA,rfl,List.getElem?_eq_getElem hp⟩
theorem PI.oi {L:Nat→List It} {A:Nat→Option Addr} {j:Nat} {v:Value} {o:Option It} {w:World} (hr:Kd.C oW w (A j) (L j).length (L j)) (h:PI L A j v o):OI w v o:=by
 cases o with
 | none=>exact h
 | some x=>
  obtain⟨ad,p,hA,rfl,hx⟩:=h;obtain⟨hp,hxp⟩:=List.getElem?_eq_some_iff.1 hx;obtain⟨WO,A4,c4,A5,c5,e,r0,r1,r2,r3,r4,r5,l4,g4,l5,g5⟩:=uQ hr (p:Int) (by omega) (by omega)
  have hrd:aI (L j) (p:Int)=x:=by rw[← hxp];simp[aI,hp]
  rw[hrd] at r0 r1 r2 r3 r4 r5 l4 g4 l5 g5;rw[Int.toNat_natCast] at r0 r1 r2 r3 r4 r5;rw[hA] at e;obtain rfl:=Option.some.inj e;exact⟨_,A4,c4,A5,c5,rfl,r0,r1,r2,r3,r4,r5,l4,g4,l5,g5⟩
def Rw (L:Nat→List It) (A:Nat→Option Addr) (rs:List Rd) (pre:List nL) (x:nL) (W:World):Prop :=
 (∃rest,rs=pre.map nL.rd++x.rd::rest)∧∃p0 p1,W.heap[x.g]?=some (.cells #[p0,p1] 95 (0,0))∧PI L A 0 p0 x.a∧PI L A 1 p1 x.b
structure KpG (R:World→Prop) (S:Nat→Prop) (A C:World):Prop where
 low:R A→R C
 same:∀k,S k→C.heap[k]?=A.heap[k]?
 nums:∀(k:Nat) (cs:Array Value),A.heap[k]?=some (Obj.cells cs 3 (0,0))→C.heap[k]?=some (Obj.cells cs 3 (0,0))
structure SN (L:Nat→List It) (A:Nat→Option Addr) (c:Nat→Nat) (R:Reader L A) (b1 b2 br:Nat) (wx:World):Prop where
 low:R.P wx
 x1:wx.heap[b1]?=some (.cells #[.func (.func 51) #[] #[]] 93 (0,0))
 x2:wx.heap[b2]?=some (.cells #[.slice (some ⟨br,0,none⟩) 2 2] 75 (0,0))
 xr:wx.heap[br]?=some (.cells #[.slice (A 0) (L 0).length (c 0),.slice (A 1) (L 1).length (c 1)] 25 (0,0))
section
variable {L : Nat → List It} {A : Nat → Option Addr} {c : Nat → Nat} {R : Reader L A} {b1 b2 br : Nat} {wx wy : World}
theorem SN.below (h:SN L A c R b1 b2 br wx) (hb:Below wx.heap.size wx wy):SN L A c R b1 b2 br wy :=
 ⟨R.below _ _ h.low hb,aD h.x1 hb,aD h.x2 hb,aD h.xr hb⟩
theorem SN.st (h:SN L A c R b1 b2 br wx) {B:Nat} (hs:yj B wx wy) (h0:R.base≤B) (h1:b1<B) (h2:b2<B) (h3:br<B):SN L A c R b1 b2 br wy :=
 ⟨R.st B _ _ h0 h.low hs,hs.keep h.x1 h1,hs.keep h.x2 h2,hs.keep h.xr h3⟩
theorem SN.kp (h:SN L A c R b1 b2 br wx) (hk:KpG R.P (fun k=>k=b1∨k=b2∨k=br) wx wy):SN L A c R b1 b2 br wy :=
 ⟨hk.low h.low,(hk.same _ (.inl rfl)).trans h.x1,(hk.same _ (.inr (.inl rfl))).trans h.x2,(hk.same _ (.inr (.inr rfl))).trans h.xr⟩
end
structure Po (L:Nat→List It) (A:Nat→Option Addr) (c:Nat→Nat) (R:Reader L A) (b1 b2 br B ga:Nat) (rs:List Rd) (J:List nL→World→Prop) (pre:List nL) (p:Nat→Nat) (g:Nat) (wx:World):Prop where
 am:SN L A c R b1 b2 br wx
 at_:wx.heap[ga]?=some (.cells #[.int .i64 (p 0),.int .i64 (p 1)] 3 (0,0))
 hB:B≤ga
 j:J pre wx
 rs:rs=pre.map nL.rd++eY L g p
 left:jO L p≤g
 le:∀i,i<2→p i≤(L i).length
theorem Po.below {L:Nat→List It} {A:Nat→Option Addr} {c:Nat→Nat} {R:Reader L A} {b1 b2 br B ga:Nat} {rs:List Rd} {J:List nL→World→Prop} {pre:List nL} {p:Nat→Nat} {g:Nat} {wx wy:World}
  (h:Po L A c R b1 b2 br B ga rs J pre p g wx) (hJ:∀pre A C,J pre A→yj B A C→J pre C) (hb:Below wx.heap.size wx wy):Po L A c R b1 b2 br B ga rs J pre p g wy :=
 ⟨h.am.below hb,aD h.at_ hb,h.hB,hJ _ _ _ h.j (yj.below hb),h.rs,h.left,h.le⟩
def CX (L:Nat→List It) (A:Nat→Option Addr) (c:Nat→Nat) (R:Reader L A) (b1 b2 br B ga gh:Nat) (J:List nL→World→Prop) (pre:List nL) (p:Nat→Nat) (k:ByteArray) (i:Nat) (wx:World):Prop :=
 SN L A c R b1 b2 br wx∧∃q:Nat→Nat,wx.heap[ga]?=some (.cells #[.int .i64 (q 0),.int .i64 (q 1)] 3 (0,0))∧(∀j,j<i→q j=fB L p k j)∧(∀j,i≤j→q j=p j) ∧
  ∃P:Nat→Value,wx.heap[gh]?=some (.cells #[P 0,P 1] 95 (0,0))∧(∀j,j<i→PI L A j (P j) (eO L p k j))∧(∀j,i≤j→P j=.pointer none)∧J pre wx
abbrev Hd (wr:World) (b1 ga i:Nat) (pv:Nat) (P:Addr) (x:It) (A4:Option Addr) (c4:Nat) (A5:Option Addr) (c5:Nat) (w':World):Prop :=
 w'.cell? ⟨b1,0,none⟩=some (.func (.func 51) #[] #[])∧w'.cell? ⟨ga,i,none⟩=some (.int .i64 pv)∧w'.cell? P=some (.int .i64 x.f0)∧w'.cell? ⟨P.block,P.off+1,none⟩=some (.string x.f1)∧w'.cell? ⟨P.block,P.off+2,none⟩=some (.string x.f2)∧w'.cell? ⟨P.block,P.off+3,none⟩=some (.int .i64 x.f3)∧w'.cell? ⟨P.block,P.off+4,none⟩=some (.slice A4 x.f4.length c4)∧w'.cell? ⟨P.block,P.off+5,none⟩=some (.slice A5 x.f5.length c5)∧ah (Below wr.heap.size wr w')
section
variable {L : Nat → List It} {A : Nat → Option Addr} {c : Nat → Nat} {R : Reader L A} {b1 b2 br B ga gh : Nat} {J : List nL → World → Prop} {pre : List nL} {p : Nat → Nat} {k : ByteArray} {i : Nat} {wx wy : World}
theorem CX.same (h:CX L A c R b1 b2 br B ga gh J pre p k i wx) (hJ:∀pre A C,J pre A→yj B A C→J pre C) (hn:eO L p k i=none) (hb:Below wx.heap.size wx wy):CX L A c R b1 b2 br B ga gh J pre p k (i+1) wy:=by
 obtain⟨am,q,hat,hq1,hq2,P,hP,hP1,hP2,hj⟩:=h;refine⟨am.below hb,q,aD hat hb,fun j hj2=>?_,fun j hj2=>hq2 j (by omega),P,aD hP hb,fun j hj2=>?_,fun j hj2=>hP2 j (by omega),hJ _ _ _ hj (yj.below hb)⟩
 ·rcases Nat.lt_or_ge j i with h|h
  ·exact hq1 j h
  ·obtain rfl:j=i:=by omega
   rw[hq2 j (Nat.le_refl _)];unfold fB;rw[hn];simp
 ·rcases Nat.lt_or_ge j i with h|h
  ·exact hP1 j h
  ·obtain rfl:j=i:=by omega
   rw[hn];exact hP2 j (Nat.le_refl _)
theorem CX.step {x:It} {v:Value} (h:CX L A c R b1 b2 br B ga gh J pre p k i wx) (hi:i<2) (hJ:∀pre A C,J pre A→yj B A C→J pre C) (hn:eO L p k i=some x) (hb:Below wx.heap.size wx wy) (hv:PI L A i v (some x)) (hga:B≤ga) (hgh:B≤gh) (hne:ga≠gh) (h0:R.base≤B) (h1:b1<B) (h2:b2<B) (h3:br<B) :
  CX L A c R b1 b2 br B ga gh J pre p k (i+1) ((wy.setCell ⟨gh,i,none⟩ v).setCell ⟨ga,i,none⟩ (.int .i64 ((p i:Int)+1))):=by
 obtain⟨am,q,hat,hq1,hq2,P,hP,hP1,hP2,hj⟩:=h;have hP':=aD hP hb;have hat':=gX (aD hat hb) (p:=⟨gh,i,none⟩) hne v;have s1:=yj.set hP' (.inr rfl) hgh i v;have s2:=yj.set hat' (.inl rfl) hga i (.int .i64 ((p i:Int)+1));have s3:=((yj.below (B:=B) hb).trans s1).trans s2;refine⟨am.st s3 h0 h1 h2 h3,fun j=>if j=i then p i+1 else q j,?_,fun j hj2=>?_,fun j hj2=>?_,fun j=>if j=i then v else P j,?_,fun j hj2=>?_,fun j hj2=>?_,hJ _ _ _ hj s3⟩
 ·rw[dD hat']
  rcases (show i=0∨i=1 by omega) with rfl|rfl <;> simp
 ·dsimp only;by_cases e:j=i
  ·subst e;rw[if_pos rfl];unfold fB;rw[hn];simp
  ·rw[if_neg e];exact hq1 j (by omega)
 ·dsimp only;rw[if_neg (by omega)];exact hq2 j (by omega)
 ·refine gX ?_ (fun e=>hne e.symm) _;rw[dD hP']
  rcases (show i=0∨i=1 by omega) with rfl|rfl <;> simp
 ·dsimp only;by_cases e:j=i
  ·subst e;rw[if_pos rfl,hn];exact hv
  ·rw[if_neg e];exact hP1 j (by omega)
 ·dsimp only;rw[if_neg (by omega)];exact hP2 j (by omega)
end
section
variable {wr w' w2 : World} {b1 ga i pv : Nat} {P : Addr} {x : It} {A4 : Option Addr} {c4 : Nat} {A5 : Option Addr} {c5 : Nat}
theorem gY (h:Hd wr b1 ga i pv P x A4 c4 A5 c5 w') (hb:Below w'.heap.size w' w2):Hd wr b1 ga i pv P x A4 c4 A5 c5 w2:=by
 obtain⟨h0,h1,h2,h3,h4,h5,h6,h7,h8⟩:=h;exact⟨aj hb h0,aj hb h1,aj hb h2,aj hb h3,aj hb h4,aj hb h5,aj hb h6,aj hb h7,⟨h8.out.trans (hb.mono h8.out.size)⟩⟩
end
theorem ach:(Tryz.prog.info? 3).map (fun i=>(i.zero,i.size,i.bytes))=some (some (.int .i64 0),1,8):=by kernel_rfl
theorem aci:(Tryz.prog.info? 95).map (fun i=>(i.zero,i.size,i.bytes))=some (some (.pointer none),1,8):=by kernel_rfl
theorem afj (w:World):(Instr.makeSlice 113 (.int .i64 2) (.int .i64 2)).run Tryz.prog w=.ok (.slice (some ⟨w.heap.size,0,none⟩) 2 2) (w.alloc (.cells #[.int .i64 0,.int .i64 0] 3)):=by
 obtain⟨i0,hi,hz0,hz1,hz2⟩:=info_parts ach;exact (run_makeSlice w 113 3 i0 _ Tryz.underlying113 hi hz0 .i64 .i64 2 2 (by decide) (by decide) (by rw[hz1];decide) (by rw[hz2];decide) (by decide)).trans (by rw[hz1];first|rfl|(simp[madeCells];done)|kernel_rfl)
theorem acj (w:World):(Instr.makeSlice 94 (.int .i64 2) (.int .i64 2)).run Tryz.prog w=.ok (.slice (some ⟨w.heap.size,0,none⟩) 2 2) (w.alloc (.cells #[.pointer none,.pointer none] 95)):=by
 obtain⟨i0,hi,hz0,hz1,hz2⟩:=info_parts aci;exact (run_makeSlice w 94 95 i0 _ Tryz.underlying94 hi hz0 .i64 .i64 2 2 (by decide) (by decide) (by rw[hz1];decide) (by rw[hz2];decide) (by decide)).trans (by rw[hz1];first|rfl|(simp[madeCells];done)|kernel_rfl)
theorem wX (L:Nat→List It) (A:Nat→Option Addr) (c:Nat→Nat) (R:Reader L A) (w:World) (b1 b2 br:Nat)
  (hc:∀i,i<2→(L i).length≤c i) (hl:∀i,i<2→(L i).length≤65536) (hS:∀i,i<2→∀x∈L i,x.f1.size≤1023)
  (hx:SN L A c R b1 b2 br w) (h0:R.base≤w.heap.size) :
  Fx Tryz.prog 87 #[.pointer (some ⟨b2,0,none⟩),.pointer (some ⟨b1,0,none⟩)] encR (Rw L A (eY L (jO L (fun _=>0)) (fun _=>0))) (yj w.heap.size) (KpG R.P (fun k=>k=b1∨k=b2∨k=br))
   (fun xs=>xs.map nL.rd=eY L (jO L (fun _=>0)) (fun _=>0)) w:=by
 intro l J X W hW hJ hY hJ0
 obtain⟨rs,hrs⟩:∃rs,eY L (jO L (fun _=>0)) (fun _=>0)=rs:=⟨_,rfl⟩
 obtain⟨B,hBB⟩:∃B,w.heap.size=B:=⟨_,rfl⟩
 have h1:=bD hx.x1;have h2:=bD hx.x2;have h3:=bD hx.xr;rw[hBB] at h0 h1 h2 h3;have WG:=hx.below hW;have hBW:B≤W.heap.size:=hBB▸hW.size;rw[hrs] at hY ⊢;rw[hBB] at hJ;clear hx hW;have y1:=ak WG.x1 0;have y2:=ak WG.x2 0;have HAm:=ah.mk WG;have HJ:=ah.mk hJ;have HY:=ah.mk hY;have HJ0:=ah.mk hJ0;have Wy:=ah.mk hrs;clear WG hJ hY hJ0 hrs;have m1:=afj;have m2:=acj
 go_enter Tryz.func87,Tryz.ntmps87
 go_wp2_with fail
 have hM0:Po L A c R b1 b2 br B W.heap.size rs J [] (fun _=>0) (jO L (fun _=>0)) (W.alloc (.cells #[.int .i64 0,.int .i64 0] 3)) :=
  ⟨HAm.out.below ((Below.refl _ _).alloc (Nat.le_refl _) _),bK W _,hBW,HJ.out _ _ _ HJ0.out (yj.below ((Below.refl _ _).alloc (Nat.le_refl _) _)),Wy.out.symm,Nat.le_refl _,fun _ _=>Nat.zero_le _⟩
 have HM0:=ah.mk hM0;clear hM0 m1
 go_loopg [5] (jO L (fun _=>0)) (fun g s5 wr=>∃pre p,ah (Po L A c R b1 b2 br B W.heap.size rs J pre p g wr))
 case atStart=>exact⟨_,_,HM0⟩
 case round=>
  obtain⟨pre,p,HM⟩:=hrel;clear HM0 HJ0 y1 y2 HAm;have y1:=ak HM.out.am.x1 0;have y2:=ak HM.out.am.x2 0
  go_wp2_with fail
  obtain⟨gq,rfl⟩:∃gq,gq=gk:=⟨_,rfl⟩
  obtain⟨wq,rfl⟩:∃wq,wq=wr:=⟨_,rfl⟩
  go_loopg [17,5,6] 2 (fun g s17 s5 s6 wx=>∃i:Nat,2 - i≤g∧i≤2∧s17=.int .i64 i∧s5=.string ((jL L p i).getD ⟨#[]⟩)∧s6=.bool (jL L p i).isSome∧ah (Po L A c R b1 b2 br B W.heap.size rs J pre p gq wx))
  case atStart=>exact⟨0,by omega,by omega,rfl,rfl,rfl,HM⟩
  case round=>
   obtain⟨i,hig,hi3,rfl,rfl,rfl,xA⟩:=hrel;clear HM y1 y2;by_cases hi:i<2
   ·rcases (show i=0∨i=1 by omega) with rfl|rfl
    ·have y1:wr.cell? ⟨b1,0,none⟩=some (.func (.func 51) #[] #[]):=ak xA.out.am.x1 0;have y3:wr.cell? ⟨br,0,none⟩=some (.slice (A 0) (L 0).length (c 0)):=ak xA.out.am.xr 0;have y4:wr.cell? ⟨W.heap.size,0,none⟩=some (.int .i64 (p 0)):=ak xA.out.at_ 0;by_cases hp:p 0<(L 0).length
     ·have d1:decide ((p 0:Int)<((L 0).length:Int))=true:=decide_eq_true (by omega);have d2:decide (p 0<(L 0).length)=true:=decide_eq_true hp;obtain⟨ad,hA,_⟩:=(R.rd _ xA.out.am.low 0 (by omega)).2.2 (by omega);have hoi:=PI.at_ (L:=L) (A:=A) (j:=0) hp hA;have Pp:=R.rd _ xA.out.am.low 0 (by omega);have hgx:(L 0)[p 0]?=some ((L 0)[p 0]'hp):=List.getElem?_eq_getElem hp;have hsx:=hS 0 (by omega) _ (List.getElem_mem hp);have hlx:=hl 0 (by omega)
      obtain⟨x,hx⟩:∃x,(L 0)[p 0]'hp=x:=⟨_,rfl⟩
      rw[hx] at hoi hgx hsx;obtain⟨WO,A4,c4,A5,c5,e,r0,r1,r2,r3,r4,r5,l4,g4,l5,g5⟩:=PI.oi Pp hoi
      injection e with e
      obtain rfl:=Option.some.inj e;rw[hA] at y3;have HX:=ah.mk hgx;clear hoi hx e l4 g4 l5 g5 hgx
      cases hk:jL L p 0 with
      | none=>
       have HN:ah (jL L p (0+1)=some (ko x)):=⟨by unfold jL;rw[HX.out];dsimp only;rw[hk]⟩
       have HK:=ah.mk hk;clear hk
       go_wp2_with fail
       go_quiet (fail)
       go_wp2_with fail
       go_region_held3 (fun w'=>Hd wr b1 W.heap.size 0 (p 0) (ad.add (p 0*6)) x A4 c4 A5 c5 w')
        (first|(refine gY ⟨y1,y4,r0,r1,r2,r3,r4,r5,⟨Below.refl _ _⟩⟩ ?_;(repeat (first|exact Below.refl _ _|apply au|apply bC));done)|(go_split_ands;exact gY ⟨by assumption,by assumption,by assumption,by assumption,by assumption,by assumption,by assumption,by assumption,by assumption⟩ (by assumption)))
        (first|(go_at_call 51;refine (iT x _ _ _ (by omega)).mono ?_;rintro e w2 ⟨rfl,hb2⟩))
       go_split_ands
       go_wp2_with fail
       go_roundg (1 - 0)
       case measure=>omega
       case rel=>exact⟨0+1,by omega,by omega,by first|rfl|simp,by rw[HN.out];rfl,by rw[HN.out];rfl,⟨xA.out.below HJ.out (ah.out (by assumption))⟩⟩
      | some k=>
       cases hlt:Op.bytesLess (jq 47 0 x.f1).toList k.toList with
       | false=>
        have HN:ah (jL L p (0+1)=some k):=⟨by unfold jL;rw[HX.out];dsimp only;rw[hk];dsimp only;rw[if_neg (show ¬Op.bytesLess (ko x).toList k.toList=true by unfold ko;rw[hlt];decide)]⟩
        have HK:=ah.mk hk;clear hk
        go_wp2_with fail
        go_region_held3 (fun w'=>Hd wr b1 W.heap.size 0 (p 0) (ad.add (p 0*6)) x A4 c4 A5 c5 w')
         (first|(refine gY ⟨y1,y4,r0,r1,r2,r3,r4,r5,⟨Below.refl _ _⟩⟩ ?_;(repeat (first|exact Below.refl _ _|apply au|apply bC));done)|(go_split_ands;exact gY ⟨by assumption,by assumption,by assumption,by assumption,by assumption,by assumption,by assumption,by assumption,by assumption⟩ (by assumption)))
         (first|(go_at_call 51;refine (iT x _ _ _ (by omega)).mono ?_;rintro e w2 ⟨rfl,hb2⟩))
        go_split_ands
        go_wp2_with fail
        go_roundg (1 - 0)
        case measure=>omega
        case rel=>exact⟨0+1,by omega,by omega,by first|rfl|simp,by rw[HN.out];rfl,by rw[HN.out];rfl,⟨xA.out.below HJ.out (ah.out (by assumption))⟩⟩
       | true=>
        have HN:ah (jL L p (0+1)=some (ko x)):=⟨by unfold jL;rw[HX.out];dsimp only;rw[hk];dsimp only;rw[if_pos (show Op.bytesLess (ko x).toList k.toList=true by unfold ko;rw[hlt])]⟩
        have HK:=ah.mk hk;clear hk
        go_wp2_with fail
        go_region_held3 (fun w'=>Hd wr b1 W.heap.size 0 (p 0) (ad.add (p 0*6)) x A4 c4 A5 c5 w')
         (first|(refine gY ⟨y1,y4,r0,r1,r2,r3,r4,r5,⟨Below.refl _ _⟩⟩ ?_;(repeat (first|exact Below.refl _ _|apply au|apply bC));done)|(go_split_ands;exact gY ⟨by assumption,by assumption,by assumption,by assumption,by assumption,by assumption,by assumption,by assumption,by assumption⟩ (by assumption)))
         (first|(go_at_call 51;refine (iT x _ _ _ (by omega)).mono ?_;rintro e w2 ⟨rfl,hb2⟩))
        go_split_ands
        go_wp2_with fail
        obtain⟨wv,hwv⟩:∃wv,w2=wv:=⟨_,rfl⟩
        subst hwv
        go_region_held3 (fun w'=>Hd wr b1 W.heap.size 0 (p 0) (ad.add (p 0*6)) x A4 c4 A5 c5 w')
         (first|(go_split_ands;refine gY ⟨by assumption,by assumption,by assumption,by assumption,by assumption,by assumption,by assumption,by assumption,by assumption⟩ ?_;first|assumption|exact bC (Below.refl _ _)))
         (first|(go_at_call 51;refine (iT x _ _ _ (by omega)).mono ?_;rintro e w2 ⟨rfl,hb2⟩))
        go_split_ands
        go_wp2_with fail
        go_roundg (1 - 0)
        case measure=>omega
        case rel=>exact⟨0+1,by omega,by omega,by first|rfl|simp,by rw[HN.out];rfl,by rw[HN.out];rfl,⟨xA.out.below HJ.out (ah.out (by assumption))⟩⟩
     ·have d1:decide ((p 0:Int)<((L 0).length:Int))=false:=decide_eq_false (by omega);have d2:decide (p 0<(L 0).length)=false:=decide_eq_false hp
      have HN:ah (jL L p (0+1)=jL L p 0):=⟨by
       have:(L 0)[p 0]?=none:=List.getElem?_eq_none (by omega)
       show (match (L 0)[p 0]? with|none=>jL L p 0|some x=>_)=_
       rw[this]⟩
      go_wp2_with fail
      go_quiet (fail)
      go_wp2_with fail
      go_roundg (1 - 0)
      case measure=>omega
      case rel=>exact⟨0+1,by omega,by omega,by first|rfl|simp,by rw[HN.out],by rw[HN.out],⟨xA.out.below HJ.out (by repeat (first|exact Below.refl _ _|apply au|apply bC))⟩⟩
    ·have y1:wr.cell? ⟨b1,0,none⟩=some (.func (.func 51) #[] #[]):=ak xA.out.am.x1 0;have y3:wr.cell? ⟨br,1,none⟩=some (.slice (A 1) (L 1).length (c 1)):=ak xA.out.am.xr 1;have y4:wr.cell? ⟨W.heap.size,1,none⟩=some (.int .i64 (p 1)):=ak xA.out.at_ 1;by_cases hp:p 1<(L 1).length
     ·have d1:decide ((p 1:Int)<((L 1).length:Int))=true:=decide_eq_true (by omega);have d2:decide (p 1<(L 1).length)=true:=decide_eq_true hp;obtain⟨ad,hA,_⟩:=(R.rd _ xA.out.am.low 1 (by omega)).2.2 (by omega);have hoi:=PI.at_ (L:=L) (A:=A) (j:=1) hp hA;have Pp:=R.rd _ xA.out.am.low 1 (by omega);have hgx:(L 1)[p 1]?=some ((L 1)[p 1]'hp):=List.getElem?_eq_getElem hp;have hsx:=hS 1 (by omega) _ (List.getElem_mem hp);have hlx:=hl 1 (by omega)
      obtain⟨x,hx⟩:∃x,(L 1)[p 1]'hp=x:=⟨_,rfl⟩
      rw[hx] at hoi hgx hsx;obtain⟨WO,A4,c4,A5,c5,e,r0,r1,r2,r3,r4,r5,l4,g4,l5,g5⟩:=PI.oi Pp hoi
      injection e with e
      obtain rfl:=Option.some.inj e;rw[hA] at y3;have HX:=ah.mk hgx;clear hoi hx e l4 g4 l5 g5 hgx
      cases hk:jL L p 1 with
      | none=>
       have HN:ah (jL L p (1+1)=some (ko x)):=⟨by unfold jL;rw[HX.out];dsimp only;rw[hk]⟩
       have HK:=ah.mk hk;clear hk
       go_wp2_with fail
       go_quiet (fail)
       go_wp2_with fail
       go_region_held3 (fun w'=>Hd wr b1 W.heap.size 1 (p 1) (ad.add (p 1*6)) x A4 c4 A5 c5 w')
        (first|(refine gY ⟨y1,y4,r0,r1,r2,r3,r4,r5,⟨Below.refl _ _⟩⟩ ?_;(repeat (first|exact Below.refl _ _|apply au|apply bC));done)|(go_split_ands;exact gY ⟨by assumption,by assumption,by assumption,by assumption,by assumption,by assumption,by assumption,by assumption,by assumption⟩ (by assumption)))
        (first|(go_at_call 51;refine (iT x _ _ _ (by omega)).mono ?_;rintro e w2 ⟨rfl,hb2⟩))
       go_split_ands
       go_wp2_with fail
       go_roundg (1 - 1)
       case measure=>omega
       case rel=>exact⟨1+1,by omega,by omega,by first|rfl|simp,by rw[HN.out];rfl,by rw[HN.out];rfl,⟨xA.out.below HJ.out (ah.out (by assumption))⟩⟩
      | some k=>
       cases hlt:Op.bytesLess (jq 47 0 x.f1).toList k.toList with
       | false=>
        have HN:ah (jL L p (1+1)=some k):=⟨by unfold jL;rw[HX.out];dsimp only;rw[hk];dsimp only;rw[if_neg (show ¬Op.bytesLess (ko x).toList k.toList=true by unfold ko;rw[hlt];decide)]⟩
        have HK:=ah.mk hk;clear hk
        go_wp2_with fail
        go_region_held3 (fun w'=>Hd wr b1 W.heap.size 1 (p 1) (ad.add (p 1*6)) x A4 c4 A5 c5 w')
         (first|(refine gY ⟨y1,y4,r0,r1,r2,r3,r4,r5,⟨Below.refl _ _⟩⟩ ?_;(repeat (first|exact Below.refl _ _|apply au|apply bC));done)|(go_split_ands;exact gY ⟨by assumption,by assumption,by assumption,by assumption,by assumption,by assumption,by assumption,by assumption,by assumption⟩ (by assumption)))
         (first|(go_at_call 51;refine (iT x _ _ _ (by omega)).mono ?_;rintro e w2 ⟨rfl,hb2⟩))
        go_split_ands
        go_wp2_with fail
        go_roundg (1 - 1)
        case measure=>omega
        case rel=>exact⟨1+1,by omega,by omega,by first|rfl|simp,by rw[HN.out];rfl,by rw[HN.out];rfl,⟨xA.out.below HJ.out (ah.out (by assumption))⟩⟩
       | true=>
        have HN:ah (jL L p (1+1)=some (ko x)):=⟨by unfold jL;rw[HX.out];dsimp only;rw[hk];dsimp only;rw[if_pos (show Op.bytesLess (ko x).toList k.toList=true by unfold ko;rw[hlt])]⟩
        have HK:=ah.mk hk;clear hk
        go_wp2_with fail
        go_region_held3 (fun w'=>Hd wr b1 W.heap.size 1 (p 1) (ad.add (p 1*6)) x A4 c4 A5 c5 w')
         (first|(refine gY ⟨y1,y4,r0,r1,r2,r3,r4,r5,⟨Below.refl _ _⟩⟩ ?_;(repeat (first|exact Below.refl _ _|apply au|apply bC));done)|(go_split_ands;exact gY ⟨by assumption,by assumption,by assumption,by assumption,by assumption,by assumption,by assumption,by assumption,by assumption⟩ (by assumption)))
         (first|(go_at_call 51;refine (iT x _ _ _ (by omega)).mono ?_;rintro e w2 ⟨rfl,hb2⟩))
        go_split_ands
        go_wp2_with fail
        obtain⟨wv,hwv⟩:∃wv,w2=wv:=⟨_,rfl⟩
        subst hwv
        go_region_held3 (fun w'=>Hd wr b1 W.heap.size 1 (p 1) (ad.add (p 1*6)) x A4 c4 A5 c5 w')
         (first|(go_split_ands;refine gY ⟨by assumption,by assumption,by assumption,by assumption,by assumption,by assumption,by assumption,by assumption,by assumption⟩ ?_;first|assumption|exact bC (Below.refl _ _)))
         (first|(go_at_call 51;refine (iT x _ _ _ (by omega)).mono ?_;rintro e w2 ⟨rfl,hb2⟩))
        go_split_ands
        go_wp2_with fail
        go_roundg (1 - 1)
        case measure=>omega
        case rel=>exact⟨1+1,by omega,by omega,by first|rfl|simp,by rw[HN.out];rfl,by rw[HN.out];rfl,⟨xA.out.below HJ.out (ah.out (by assumption))⟩⟩
     ·have d1:decide ((p 1:Int)<((L 1).length:Int))=false:=decide_eq_false (by omega);have d2:decide (p 1<(L 1).length)=false:=decide_eq_false hp
      have HN:ah (jL L p (1+1)=jL L p 1):=⟨by
       have:(L 1)[p 1]?=none:=List.getElem?_eq_none (by omega)
       show (match (L 1)[p 1]? with|none=>jL L p 1|some x=>_)=_
       rw[this]⟩
      go_wp2_with fail
      go_quiet (fail)
      go_wp2_with fail
      go_roundg (1 - 1)
      case measure=>omega
      case rel=>exact⟨1+1,by omega,by omega,by first|rfl|simp,by rw[HN.out],by rw[HN.out],⟨xA.out.below HJ.out (by repeat (first|exact Below.refl _ _|apply au|apply bC))⟩⟩
   ·obtain rfl:i=2:=by omega
    have hM1:=xA.out
    cases hk:jL L p 2 with
    | none=>
     have hr:eY L gq p=[]:=by
      cases gq with
      | zero=>rfl
      | succ n=>rw[eY,hk]
     have HF:ah (∃xs,xs.map nL.rd=rs∧J xs wr):=⟨pre,by rw[hM1.rs,hr,List.append_nil],hM1.j⟩
     clear hM1 hk hr
     go_wp2_with fail
     refine bodyPost_ret (results_none rfl _ _ _) rfl ?_;exact .inl ⟨⟨_,rfl⟩,HF.out⟩
    | some k=>
     have HK:=ah.mk hk;have y2:wr.cell? ⟨b2,0,none⟩=some (.slice (some ⟨br,0,none⟩) 2 2):=ak hM1.am.x2 0;have hz:=(Below.refl wr.heap.size wr).alloc (Nat.le_refl _) (.cells #[.pointer none,.pointer none] 95);have y5:(wr.alloc (.cells #[.pointer none,.pointer none] 95)).cell? ⟨b2,0,none⟩=some (.slice (some ⟨br,0,none⟩) 2 2):=aj hz y2
     have hM2:CX L A c R b1 b2 br B W.heap.size wr.heap.size J pre p k 0 (wr.alloc (.cells #[.pointer none,.pointer none] 95)) :=
      ⟨hM1.am.below hz,p,aD hM1.at_ hz,fun j hj=>absurd hj (Nat.not_lt_zero _),fun _ _=>rfl,fun _=>.pointer none,bK wr _,fun j hj=>absurd hj (Nat.not_lt_zero _),fun _ _=>rfl,HJ.out _ _ _ hM1.j (yj.below hz)⟩
     have La:=ah.mk hM2;have Si:=ah.mk hM1.rs;have HLf:=ah.mk hM1.left;have HLe:=ah.mk hM1.le;have hhB:B≤wr.heap.size:=Nat.le_trans hM1.hB (Nat.le_of_lt (bD hM1.at_));have HaB:=ah.mk hM1.hB;clear hk hM1 hz hM2
     go_wp2_with fail
     clear y5 y2 xA
     obtain⟨wh,rfl⟩:∃wh,wh=wr:=⟨_,rfl⟩
     go_loopg [63] 2 (fun g s63 wx=>∃i:Nat,2 - i≤g∧i≤2∧s63=.int .i64 i∧ah (CX L A c R b1 b2 br B W.heap.size wh.heap.size J pre p k i wx))
     case atStart=>exact⟨0,by omega,by omega,rfl,La⟩
     case round=>
      obtain⟨i,hig,hi3,rfl,JX⟩:=hrel;clear La;by_cases hi:i<2
      ·rcases (show i=0∨i=1 by omega) with rfl|rfl
       ·have hM3:=JX.out;obtain⟨am,q,hat,hq1,hq2,P,hP,hP1,hP2,hj⟩:=hM3;have hqi:q 0=p 0:=hq2 0 (Nat.le_refl _);have y1:wr.cell? ⟨b1,0,none⟩=some (.func (.func 51) #[] #[]):=ak am.x1 0;have y3:wr.cell? ⟨br,0,none⟩=some (.slice (A 0) (L 0).length (c 0)):=ak am.xr 0;have y4:wr.cell? ⟨W.heap.size,0,none⟩=some (.int .i64 (p 0)):=(ak hat 0).trans (by rw[← hqi];rfl);have z1:wr.cell? ⟨wh.heap.size,0,none⟩=some (.pointer none):=(ak hP 0).trans (by rw[← hP2 0 (Nat.le_refl _)];rfl);have hne:W.heap.size≠wh.heap.size:=Vg hat hP (by decide);by_cases hp:p 0<(L 0).length
        ·have d1:decide ((p 0:Int)<((L 0).length:Int))=true:=decide_eq_true (by omega);have d2:decide (p 0<(L 0).length)=true:=decide_eq_true hp;obtain⟨ad,hA,_⟩:=(R.rd _ am.low 0 (by omega)).2.2 (by omega);have hoi:=PI.at_ (L:=L) (A:=A) (j:=0) hp hA;have Pp:=R.rd _ am.low 0 (by omega);have hgx:(L 0)[p 0]?=some ((L 0)[p 0]'hp):=List.getElem?_eq_getElem hp;have hsx:=hS 0 (by omega) _ (List.getElem_mem hp);have hlx:=hl 0 (by omega)
         obtain⟨x,hx⟩:∃x,(L 0)[p 0]'hp=x:=⟨_,rfl⟩
         rw[hx] at hoi hgx hsx;have HOI:=ah.mk hoi;obtain⟨WO,A4,c4,A5,c5,e,r0,r1,r2,r3,r4,r5,l4,g4,l5,g5⟩:=PI.oi Pp hoi
         injection e with e
         obtain rfl:=Option.some.inj e;rw[hA] at y3;have HX:=ah.mk hgx;clear hoi hx e l4 g4 l5 g5 hgx am hat hq1 hq2 hP hP1 hP2 hj hqi
         have hwp:IntKind.i64.wrap ((p 0:Int)+1)=(p 0:Int)+1:=by rw[IntKind.wrap_i64];omega
         cases he:((jq 47 0 x.f1).toList == k.toList) with
         | false=>
          have HH:ah (eO L p k 0=none):=⟨by unfold eO;rw[HX.out];dsimp only;rw[if_neg (show ¬((ko x).toList == k.toList)=true by unfold ko;rw[he];decide)]⟩
          go_wp2_with fail
          go_region_held3 (fun w'=>Hd wr b1 W.heap.size 0 (p 0) (ad.add (p 0*6)) x A4 c4 A5 c5 w')
           (first|(refine gY ⟨y1,y4,r0,r1,r2,r3,r4,r5,⟨Below.refl _ _⟩⟩ ?_;(repeat (first|exact Below.refl _ _|apply au|apply bC));done)|(go_split_ands;exact gY ⟨by assumption,by assumption,by assumption,by assumption,by assumption,by assumption,by assumption,by assumption,by assumption⟩ (by assumption)))
           (first|(go_at_call 51;refine (iT x _ _ _ (by omega)).mono ?_;rintro e w2 ⟨rfl,hb2⟩))
          go_split_ands
          go_wp2_with fail
          go_roundg (1 - 0)
          case measure=>omega
          case rel=>exact⟨0+1,by omega,by omega,by first|rfl|simp,⟨JX.out.same HJ.out HH.out (ah.out (by assumption))⟩⟩
         | true=>
          have HH:ah (eO L p k 0=some x):=⟨by unfold eO;rw[HX.out];dsimp only;rw[if_pos (show ((ko x).toList == k.toList)=true by unfold ko;rw[he])]⟩
          go_wp2_with fail
          go_region_held3 (fun w'=>Hd wr b1 W.heap.size 0 (p 0) (ad.add (p 0*6)) x A4 c4 A5 c5 w')
           (first|(refine gY ⟨y1,y4,r0,r1,r2,r3,r4,r5,⟨Below.refl _ _⟩⟩ ?_;(repeat (first|exact Below.refl _ _|apply au|apply bC));done)|(go_split_ands;exact gY ⟨by assumption,by assumption,by assumption,by assumption,by assumption,by assumption,by assumption,by assumption,by assumption⟩ (by assumption)))
           (first|(go_at_call 51;refine (iT x _ _ _ (by omega)).mono ?_;rintro e w2 ⟨rfl,hb2⟩))
          go_split_ands
          have HW2:ah (Below wr.heap.size wr w2):=by assumption
          obtain⟨am,q,hat,hq1,hq2,P,hP,hP1,hP2,hj⟩:=JX.out;have hP':=aD hP HW2.out;have z2:w2.cell? ⟨wh.heap.size,0,none⟩=some (.pointer none):=(ak hP' 0).trans (by rw[← hP2 0 (Nat.le_refl _)];rfl);have z3:=av hP' 0;have hat':=gX (aD hat HW2.out) (p:=⟨wh.heap.size,0,none⟩) hne (.pointer (some (ad.add (p 0*6))));have z4:(w2.setCell ⟨wh.heap.size,0,none⟩ (.pointer (some (ad.add (p 0*6))))).cell? ⟨W.heap.size,0,none⟩=some (.int .i64 (p 0)):=(ak hat' 0).trans (by rw[← hq2 0 (Nat.le_refl _)];rfl);have z5:=av hat' 0;clear am hat hq1 hq2 hP hP1 hP2 hj hP' hat'
          go_wp2_with fail
          go_roundg (1 - 0)
          case measure=>omega
          case rel=>exact⟨0+1,by omega,by omega,by first|rfl|simp,⟨JX.out.step (by omega) HJ.out HH.out HW2.out HOI.out HaB.out hhB hne h0 h1 h2 h3⟩⟩
        ·have d1:decide ((p 0:Int)<((L 0).length:Int))=false:=decide_eq_false (by omega);have d2:decide (p 0<(L 0).length)=false:=decide_eq_false hp
         have HH:ah (eO L p k 0=none):=⟨by
          unfold eO
          rw[List.getElem?_eq_none (by omega)]⟩
         clear am hat hq1 hq2 hP hP1 hP2 hj hqi
         go_wp2_with fail
         go_quiet (fail)
         go_wp2_with fail
         go_roundg (1 - 0)
         case measure=>omega
         case rel=>exact⟨0+1,by omega,by omega,by first|rfl|simp,⟨JX.out.same HJ.out HH.out (by repeat (first|exact Below.refl _ _|apply au|apply bC))⟩⟩
       ·have hM3:=JX.out;obtain⟨am,q,hat,hq1,hq2,P,hP,hP1,hP2,hj⟩:=hM3;have hqi:q 1=p 1:=hq2 1 (Nat.le_refl _);have y1:wr.cell? ⟨b1,0,none⟩=some (.func (.func 51) #[] #[]):=ak am.x1 0;have y3:wr.cell? ⟨br,1,none⟩=some (.slice (A 1) (L 1).length (c 1)):=ak am.xr 1;have y4:wr.cell? ⟨W.heap.size,1,none⟩=some (.int .i64 (p 1)):=(ak hat 1).trans (by rw[← hqi];rfl);have z1:wr.cell? ⟨wh.heap.size,1,none⟩=some (.pointer none):=(ak hP 1).trans (by rw[← hP2 1 (Nat.le_refl _)];rfl);have hne:W.heap.size≠wh.heap.size:=Vg hat hP (by decide);by_cases hp:p 1<(L 1).length
        ·have d1:decide ((p 1:Int)<((L 1).length:Int))=true:=decide_eq_true (by omega);have d2:decide (p 1<(L 1).length)=true:=decide_eq_true hp;obtain⟨ad,hA,_⟩:=(R.rd _ am.low 1 (by omega)).2.2 (by omega);have hoi:=PI.at_ (L:=L) (A:=A) (j:=1) hp hA;have Pp:=R.rd _ am.low 1 (by omega);have hgx:(L 1)[p 1]?=some ((L 1)[p 1]'hp):=List.getElem?_eq_getElem hp;have hsx:=hS 1 (by omega) _ (List.getElem_mem hp);have hlx:=hl 1 (by omega)
         obtain⟨x,hx⟩:∃x,(L 1)[p 1]'hp=x:=⟨_,rfl⟩
         rw[hx] at hoi hgx hsx;have HOI:=ah.mk hoi;obtain⟨WO,A4,c4,A5,c5,e,r0,r1,r2,r3,r4,r5,l4,g4,l5,g5⟩:=PI.oi Pp hoi
         injection e with e
         obtain rfl:=Option.some.inj e;rw[hA] at y3;have HX:=ah.mk hgx;clear hoi hx e l4 g4 l5 g5 hgx am hat hq1 hq2 hP hP1 hP2 hj hqi
         have hwp:IntKind.i64.wrap ((p 1:Int)+1)=(p 1:Int)+1:=by rw[IntKind.wrap_i64];omega
         cases he:((jq 47 0 x.f1).toList == k.toList) with
         | false=>
          have HH:ah (eO L p k 1=none):=⟨by unfold eO;rw[HX.out];dsimp only;rw[if_neg (show ¬((ko x).toList == k.toList)=true by unfold ko;rw[he];decide)]⟩
          go_wp2_with fail
          go_region_held3 (fun w'=>Hd wr b1 W.heap.size 1 (p 1) (ad.add (p 1*6)) x A4 c4 A5 c5 w')
           (first|(refine gY ⟨y1,y4,r0,r1,r2,r3,r4,r5,⟨Below.refl _ _⟩⟩ ?_;(repeat (first|exact Below.refl _ _|apply au|apply bC));done)|(go_split_ands;exact gY ⟨by assumption,by assumption,by assumption,by assumption,by assumption,by assumption,by assumption,by assumption,by assumption⟩ (by assumption)))
           (first|(go_at_call 51;refine (iT x _ _ _ (by omega)).mono ?_;rintro e w2 ⟨rfl,hb2⟩))
          go_split_ands
          go_wp2_with fail
          go_roundg (1 - 1)
          case measure=>omega
          case rel=>exact⟨1+1,by omega,by omega,by first|rfl|simp,⟨JX.out.same HJ.out HH.out (ah.out (by assumption))⟩⟩
         | true=>
          have HH:ah (eO L p k 1=some x):=⟨by unfold eO;rw[HX.out];dsimp only;rw[if_pos (show ((ko x).toList == k.toList)=true by unfold ko;rw[he])]⟩
          go_wp2_with fail
          go_region_held3 (fun w'=>Hd wr b1 W.heap.size 1 (p 1) (ad.add (p 1*6)) x A4 c4 A5 c5 w')
           (first|(refine gY ⟨y1,y4,r0,r1,r2,r3,r4,r5,⟨Below.refl _ _⟩⟩ ?_;(repeat (first|exact Below.refl _ _|apply au|apply bC));done)|(go_split_ands;exact gY ⟨by assumption,by assumption,by assumption,by assumption,by assumption,by assumption,by assumption,by assumption,by assumption⟩ (by assumption)))
           (first|(go_at_call 51;refine (iT x _ _ _ (by omega)).mono ?_;rintro e w2 ⟨rfl,hb2⟩))
          go_split_ands
          have HW2:ah (Below wr.heap.size wr w2):=by assumption
          obtain⟨am,q,hat,hq1,hq2,P,hP,hP1,hP2,hj⟩:=JX.out;have hP':=aD hP HW2.out;have z2:w2.cell? ⟨wh.heap.size,1,none⟩=some (.pointer none):=(ak hP' 1).trans (by rw[← hP2 1 (Nat.le_refl _)];rfl);have z3:=av hP' 1;have hat':=gX (aD hat HW2.out) (p:=⟨wh.heap.size,1,none⟩) hne (.pointer (some (ad.add (p 1*6))));have z4:(w2.setCell ⟨wh.heap.size,1,none⟩ (.pointer (some (ad.add (p 1*6))))).cell? ⟨W.heap.size,1,none⟩=some (.int .i64 (p 1)):=(ak hat' 1).trans (by rw[← hq2 1 (Nat.le_refl _)];rfl);have z5:=av hat' 1;clear am hat hq1 hq2 hP hP1 hP2 hj hP' hat'
          go_wp2_with fail
          go_roundg (1 - 1)
          case measure=>omega
          case rel=>exact⟨1+1,by omega,by omega,by first|rfl|simp,⟨JX.out.step (by omega) HJ.out HH.out HW2.out HOI.out HaB.out hhB hne h0 h1 h2 h3⟩⟩
        ·have d1:decide ((p 1:Int)<((L 1).length:Int))=false:=decide_eq_false (by omega);have d2:decide (p 1<(L 1).length)=false:=decide_eq_false hp
         have HH:ah (eO L p k 1=none):=⟨by
          unfold eO
          rw[List.getElem?_eq_none (by omega)]⟩
         clear am hat hq1 hq2 hP hP1 hP2 hj hqi
         go_wp2_with fail
         go_quiet (fail)
         go_wp2_with fail
         go_roundg (1 - 1)
         case measure=>omega
         case rel=>exact⟨1+1,by omega,by omega,by first|rfl|simp,⟨JX.out.same HJ.out HH.out (by repeat (first|exact Below.refl _ _|apply au|apply bC))⟩⟩
      ·obtain rfl:i=2:=by omega
       go_upto_region 17 with (fail)
       obtain⟨am,q,hat,hq1,_,P,hP,hP1,_,hj⟩:=JX.out
       have afk:wr.heap[W.heap.size]?=some (.cells #[.int .i64 (fB L p k 0),.int .i64 (fB L p k 1)] 3 (0,0)):=by
        rw[← hq1 0 (by omega),← hq1 1 (by omega)];exact hat
       obtain⟨gn,hgn⟩:∃gn,gq=gn+1:=by
        cases gq with
        | zero=>
         have:=uR HK.out;have:=HLf.out;omega
        | succ n=>exact⟨n,rfl⟩
       have acn:rs=pre.map nL.rd++(k,eO L p k 0,eO L p k 1)::eY L gn (fB L p k):=by
        rw[Si.out,hgn,eY,HK.out]
       have hgood:Rw L A rs pre ⟨k,wh.heap.size,eO L p k 0,eO L p k 1⟩ wr:=⟨⟨_,acn⟩,P 0,P 1,hP,hP1 0 (by omega),hP1 1 (by omega)⟩
       obtain⟨fn,tmps,assign,body,hy,hR⟩:=HY.out pre _ wr hj hgood
       have hlf:jO L (fB L p k)≤gn:=by
        have h1:=uR HK.out;have h2:=HLf.out;omega
       have hle2:∀j,j<2→fB L p k j≤(L j).length:=fun j hj3=>by
        have h1:=HLe.out j hj3;unfold fB eO
        cases hz:(L j)[p j]? with
        | none=>
         rw[if_neg (by simp)];exact h1
        | some x=>
         rcases Nat.lt_or_ge (p j) (L j).length with h|h
         ·have hb:∀b:Bool,(if b=true then p j+1 else p j)≤(L j).length:=fun b=>by cases b <;> simp <;> omega
          exact hb _
         ·rw[List.getElem?_eq_none h] at hz;cases hz
       have hmid:∀W',J (pre++[⟨k,wh.heap.size,eO L p k 0,eO L p k 1⟩]) W'→KpG R.P (fun k=>k=b1∨k=b2∨k=br) wr W'→Po L A c R b1 b2 br B W.heap.size rs J (pre++[⟨k,wh.heap.size,eO L p k 0,eO L p k 1⟩]) (fB L p k) gn W':=fun W' hj' hk'=>
        ⟨am.kp hk',hk'.nums _ _ afk,HaB.out,hj',by rw[acn,List.map_append,List.append_assoc];rfl,hlf,hle2⟩
       have HMD:=ah.mk hmid;have hGG:=ah.mk (show gn+1=gq from hgn.symm);clear am hat hq1 hP hP1 hj afk acn hgood hlf hle2 hmid hgn;dsimp only[encR] at hy;refine (wpIn_wide (n:=1)).1 ?_
       gi_wp2
       refine hR.mono ?_;rintro e W' (⟨rfl,hJ',hk'⟩|⟨ch,rfl,hX⟩);rotate_left
       ·exact⟨rfl,.inr ⟨ch,rfl,hX⟩⟩
       have akB:=ah.mk (HMD.out W' hJ' hk');clear hJ' hk' hR hy
       gi_wp2
       go_wp2_with fail
       go_roundg gn
       case measure=>have:=hGG.out;omega
       case rel=>exact⟨_,_,akB⟩
theorem Ic (L:Nat→List It) (A:Nat→Option Addr) (c:Nat→Nat) (w0 w:World) (b1 b2 br:Nat)
  (hL:∀i,i<2→Kd.C oW w0 (A i) (L i).length (L i)) (hc:∀i,i<2→(L i).length≤c i) (hl:∀i,i<2→(L i).length≤65536) (hS:∀i,i<2→∀x∈L i,x.f1.size≤1023)
  (hx:Am L A c w0 b1 b2 br w) (h0:w0.heap.size≤w.heap.size) :
  Fx Tryz.prog 87 #[.pointer (some ⟨b2,0,none⟩),.pointer (some ⟨b1,0,none⟩)] encR (QA (eY L (jO L (fun _=>0)) (fun _=>0)) w0) (yj w.heap.size) (KpR w0.heap.size (fun k=>k=b1∨k=b2∨k=br))
   (fun xs=>xs.map nL.rd=eY L (jO L (fun _=>0)) (fun _=>0)) w:=by
 intro l J X W hW hJ hY hJ0;refine wX L A c ⟨fun W=>Below w0.heap.size w0 W,w0.heap.size,fun W h i hi=>Kd.aC (hL i hi) h,fun _ _ h hb=>h.trans (hb.mono h.size),fun B w w' hB h hs=>hs.low hB h (Nat.le_refl _)⟩ w b1 b2 br hc hl hS ⟨hx.low,hx.x1,hx.x2,hx.xr⟩ h0 l J X W hW hJ (fun pre x C hj hg=>?_) hJ0;obtain⟨h1,p0,p1,h2,h3,h4⟩:=hg;obtain⟨fn,t,as_,b,e1,e2⟩:=hY pre x C hj ⟨h1,p0,p1,h2,PI.oi (hL 0 (by omega)) h3,PI.oi (hL 1 (by omega)) h4⟩;refine⟨fn,t,as_,b,e1,e2.mono fun e D hh=>?_⟩
 rcases hh with⟨h1,h2,h3⟩|h
 ·exact .inl ⟨h1,h2,fun h=>h.trans h3.low,h3.same,h3.nums⟩
 ·exact .inr h
end Go.Proofs.YtknihldkhedpkaaGreatDoor.Two
end
section
namespace Go.Proofs.YtknihldkhedpkaaGreatDoor
open Go.RowKit
section
variable {P : Program}
theorem wY {ops:Array Oper} {Q:Exit→Act→World→Prop} {l n:Nat} (hQ:¬LetsOut Q):∀(rest:List Oper) (a:Act) (w:World),(∀o∈rest,∀c,o.op≠.defer c)→wpList P ops Q rest a w→wpListIn (Fence.wide.inRound l) n P ops Q rest a w
 | [],a,w,_,h=>h
 | o::rest,a,w,hd,h=>by
  have ih:=fun a w=>wY (l:=l) (n:=n) (ops:=ops) hQ rest a w (fun o ho=>hd o (List.mem_cons_of_mem _ ho))
  rw[wpList] at h;rw[wpListIn];by_cases hw:Region.wanted o (yielded ops a.tmps)=true
  ·rw[if_pos hw] at h ⊢
   rcases h with h|h
   ·refine⟨fun _ _=>trivial,?_⟩;rw[Oper.semAt_eq _ _ _ (hd o List.mem_cons_self)];exact wF ih h
   ·exact absurd h.2 hQ
  ·rw[if_neg hw] at h ⊢;exact⟨fun _ _=>trivial,ih _ _ h⟩
theorem sU {id:Nat} {Q:Exit→Act→World→Prop} {a:Act} {w:World} {ls:List Oper} {l n:Nat} (hd:DJ ls=true) (hQ:¬LetsOut Q)
  (h:wpList P ls.toArray Q ls a w):(Code.region id ls.toArray false).wpIn (Fence.wide.inRound l) n P Q a w:=by
 refine wpIn_region_list (wY hQ _ a w ?_ (by simpa using h));intro o ho;exact wG hd o (by simpa using ho)
end
end Go.Proofs.YtknihldkhedpkaaGreatDoor
end
section
namespace Go.Proofs.YtknihldkhedpkaaGreatDoor.PT
open Go.RowKit Go.Proofs.YtknihldkhedpkaaGreatDoor Go.Proofs.YtknihldkhedpkaaGreatDoorW.PrintWords Go.Proofs.YtknihldkhedpkaaGreatDoorW.PrintLast Go.Proofs.YtknihldkhedpkaaGreatDoorW.PrintMore
attribute [local go_sem] nQ nR qz qA lU lV nS nT
def gy.f (bY:Int) (bW:ByteArray) (cB:ByteArray) (bR:Int) (bN:List (dx)) (bO:List Int):Option (Int × ByteArray × ByteArray × Int × (List (dx)) × List Int):=(nJ.f bN).bind fun Cn=>((jh.f bO).bind fun Co=>(some (bY,bW,cB,bR,Cn,Co)))
def gy.T1:Bool × List (List Nat × List Nat):=(true,[([],[]),([0],[0]),([1],[1]),([],[]),([3],[3]),([4,2],[4]),([0,1,2,3,4],[]),([6,2,5,0,1,2,3,4],[2,6]),([0,1,2,3,4,5,6,7],[]),([8,5,7,0,1,2,3,4,5,6,7],[5,8])])
def gy.B1:List Nat:=[0,1,3,0,8,31,31,127,255,511]
theorem gy.akC:sj .any (opsOf Tryz.f122 1)=gy.T1:=by kernel_rfl
theorem gy.afl:vw gy.T1.2 gy.B1=true:=by kernel_rfl
theorem gy.calls (bY:Int) (bW:ByteArray) (cB:ByteArray) (bR:Int) (fO:Option Addr) (dU:Nat) (bN:List (dx)) (dS:Option Addr) (dQ:Nat) (bO:List Int) (r1:Int) (r2:ByteArray) (r3:ByteArray) (r4:Int) (r5:List (dx)) (r6:List Int) (w:World) (o8:Kd.C cO w fO bN.length bN) (qy:bN.length≤dU) (p9:Kd.C (Kd.int .u8) w dS bO.length bO) (rY:bO.length≤dQ) (h:gy.f bY bW cB bR bN bO=some (r1,r2,r3,r4,r5,r6)) :
  Calls Tryz.prog 122 #[.agg #[.int .i64 bY,.string bW,.string cB,.int .i64 bR,.slice fO bN.length dU,.slice dS bO.length dQ]] w fun e w'=>∃v4_ v5_:Value,e=.returned (.agg #[.int .i64 r1,.string r2,.string r3,.int .i64 r4,v4_,v5_])∧Kd.R cO 117 w' w.heap.size (fun _=>True) v4_ r5∧Kd.R (Kd.int .u8) 5 w' w.heap.size (fun _=>True) v5_ r6∧Below w.heap.size w w':=by
 have OT:=Tryz.underlying29;have uE:=ah.mk o8;have CW:=ah.mk qy;clear o8 qy;have Ag:=ah.mk p9;have EZ:=ah.mk rY;clear p9 rY;have HB:=ah.mk (Below.refl w.heap.size w);have H:((nJ.f bN).bind fun Cn=>((jh.f bO).bind fun Co=>(some (bY,bW,cB,bR,Cn,Co))))=some (r1,r2,r3,r4,r5,r6):=h;clear h;replace H:=Option.bind_eq_some_iff.mp H;obtain⟨Cn,Q0,H⟩:=H;replace H:((jh.f bO).bind fun Co=>(some (bY,bW,cB,bR,Cn,Co)))=some (r1,r2,r3,r4,r5,r6):=H;have A2:=ah.mk Q0;clear Q0;replace H:=Option.bind_eq_some_iff.mp H;obtain⟨Co,Q5,H⟩:=H;replace H:(some (bY,bW,cB,bR,Cn,Co))=some (r1,r2,r3,r4,r5,r6):=H;have A3:=ah.mk Q5;clear Q5;simp only[Option.some.injEq,Prod.mk.injEq] at H;obtain⟨rfl,rfl,rfl,rfl,rfl,rfl⟩:=H
 go_enter Tryz.func122,Tryz.ntmps122
 try go_wp2_with (first|((with_reducible refine eZ (N:=1) rfl ?_);refine eu ?hg (N:=1) ?hd (cs:=#[.int .i64 bY,.string bW,.string cB,.int .i64 bR,.slice fO bN.length dU,.slice dS bO.length dQ]) (t:=29) ?hr ?_;(case hd=>rfl);(case hg=>rfl);(case hr=>first|(go_simp;done)|(go_simp;rfl));intro jZ hg w4 dV hb;have eF:=ah.mk (bM (by repeat (first|(with_reducible first|exact HB.out|apply ay|apply au|apply aA)|exact HB.out)) hb);have fG:=ah.mk (dV);have gN:=ah.mk ((by rw[hg];exact (bf (by repeat (first|(with_reducible first|exact HB.out|apply ay|apply au|apply aA)|exact HB.out))):w.heap.size≤jZ));have jE:=ah.mk ((by rw[hg];exact (bf (by repeat (first|(with_reducible first|exact HB.out|apply ay|apply au|apply aA)|exact HB.out))):w.heap.size≤jZ));clear HB;have HB:=eF;have eH:=fG;have amX:=gN;have CY:=jE;clear eF fG gN jE;clear hb dV hg)|((with_reducible refine eZ (N:=2) rfl ?_);refine eu ?hg (N:=2) ?hd (cs:=#[.int .i64 0,.string (⟨#[]⟩:ByteArray),.string (⟨#[]⟩:ByteArray),.int .i64 0,.slice none 0 0,.slice none 0 0]) (t:=29) ?hr ?_;(case hd=>rfl);(case hg=>rfl);(case hr=>first|(go_simp;done)|(go_simp;rfl));intro kS hg w5 dV hb;have eF:=ah.mk (aD (g:=jZ) (o:=.cells #[.int .i64 bY,.string bW,.string cB,.int .i64 bR,.slice fO bN.length dU,.slice dS bO.length dQ] 29 (0,0)) (by (with_reducible repeat (first|refine bB ?_ _|refine bG ?_|refine aJ ?_ _));exact eH.out) hb);have fG:=ah.mk (bM (by repeat (first|(with_reducible first|exact HB.out|apply ay|apply au|apply aA|refine aN ?_ CY.out)|exact HB.out)) hb);have gN:=ah.mk (dV);have jE:=ah.mk ((by rw[hg];exact (bf (by repeat (first|(with_reducible first|exact HB.out|apply ay|apply au|apply aA|refine aN ?_ CY.out)|exact HB.out))):w.heap.size≤kS));have uF:=ah.mk ((by rw[hg];exact (bf (by repeat (first|(with_reducible first|exact HB.out|apply ay|apply au|apply aA|refine aN ?_ CY.out)|exact HB.out))):w.heap.size≤kS));have yE:=ah.mk ((by rw[hg];exact Nat.ne_of_lt (bD (g:=jZ) (o:=.cells #[.int .i64 bY,.string bW,.string cB,.int .i64 bR,.slice fO bN.length dU,.slice dS bO.length dQ] 29 (0,0)) (by (with_reducible repeat (first|refine bB ?_ _|refine bG ?_|refine aJ ?_ _));exact eH.out)):jZ≠kS));have Ai:=ah.mk ((by rw[hg];exact Nat.ne_of_gt (bD (g:=jZ) (o:=.cells #[.int .i64 bY,.string bW,.string cB,.int .i64 bR,.slice fO bN.length dU,.slice dS bO.length dQ] 29 (0,0)) (by (with_reducible repeat (first|refine bB ?_ _|refine bG ?_|refine aJ ?_ _));exact eH.out)):kS≠jZ));clear eH;clear HB;have eH:=eF;have HB:=fG;have kT:=gN;have amY:=jE;have MZ:=uF;have Cq:=yE;have uI:=Ai;clear eF fG gN jE uF yE Ai;clear hb dV hg))
 have eF:=ah.mk (bG eH.out);have fG:=ah.mk (bG kT.out);have gN:=ah.mk (aA HB.out);clear eH;clear kT;clear HB;have eH:=eF;have kT:=fG;have HB:=gN;clear eF fG gN;refine kW (n:=10) (S:=fun w'=>w'.cell? ⟨jZ,0,none⟩=some (.int .i64 bY)∧w'.cell? ⟨jZ,1,none⟩=some (.string bW)∧w'.cell? ⟨jZ,2,none⟩=some (.string cB)∧w'.cell? ⟨jZ,3,none⟩=some (.int .i64 bR)∧w'.cell? ⟨jZ,4,none⟩=some (.slice fO bN.length dU)∧w'.cell? ⟨jZ,5,none⟩=some (.slice dS bO.length dQ)) (ds:=[7,9]) #[false,false,false,false,false,false,false,false,false,false] (by kernel_rfl) rfl rfl ⟨(ak eH.out 0).trans rfl,(ak eH.out 1).trans rfl,(ak eH.out 2).trans rfl,(ak eH.out 3).trans rfl,(ak eH.out 4).trans rfl,(ak eH.out 5).trans rfl⟩ (fun hHeld=>?_);refine xP gy.akC gy.afl (fun su Va=>?_);generalize w5.drew=w6 at eH kT HB hHeld ⊢;refine bA (i:=0) (N:=some 3) (v:=?_) (a':=?_) #[true,false,false,false,false,false,false,false,false,false] rfl rfl (jd su.out (by kernel_rfl)) (fun _ _ _ h=>h) (Or.inl ⟨by rfl,?_⟩) ?_ ?_;rotate_left
 ·intro w'
  go_simp
  with_reducible rfl
 rotate_left
 ·simp only[Act.put,aYa,aYb,aYc,aG,aH];rfl
 refine bA (i:=3) (N:=some 6) (v:=?_) (a':=?_) #[true,false,false,true,false,false,false,false,false,false] rfl rfl (jd su.out (by kernel_rfl)) (fun _ _ _ h=>h) (Or.inl ⟨by rfl,?_⟩) ?_ ?_;rotate_left
 ·intro w'
  go_simp
  with_reducible rfl
 rotate_left
 ·simp only[Act.put,aYa,aYb,aYc,aG,aH];rfl
 refine dM (i:=1) (N:=some 4) (v:=?_) (a':=?_) #[true,true,false,true,false,false,false,false,false,false] rfl rfl (qc su.out Va.out (by kernel_rfl)) (fun _ _ _ h=>h) (Or.inl ⟨by rfl,?_⟩) hHeld ?_ ?_;rotate_left
 ·rintro w' ⟨s0,s1,s2,s3,s4,s5⟩
  go_simp
  with_reducible rfl
 rotate_left
 ·simp only[Act.put,aYa,aYb,aYc,aG,aH];rfl
 refine dM (i:=4) (N:=some 7) (v:=?_) (a':=?_) #[true,true,false,true,true,false,false,false,false,false] rfl rfl (qc su.out Va.out (by kernel_rfl)) (fun _ _ _ h=>h) (Or.inl ⟨by rfl,?_⟩) hHeld ?_ ?_;rotate_left
 ·rintro w' ⟨s0,s1,s2,s3,s4,s5⟩
  go_simp
  with_reducible rfl
 rotate_left
 ·simp only[Act.put,aYa,aYb,aYc,aG,aH];rfl
 refine kg (i:=2) (N:=some 5) #[true,true,true,true,true,false,false,false,false,false] rfl rfl (wU su.out (by kernel_rfl)) (by decide) (fun K hK=>?_);refine mq Tryz.func91 (by kernel_rfl) rfl #[.slice fO bN.length dU] (by rfl) rfl rfl (by (try simp only[List.map_toArray,List.map_cons,List.map_nil]);first|done|rfl|(simp only[List.length_drop,List.length_take];rfl)) ?_
 with_reducible refine (nJ.calls _ _ bN Cn _ ?iW ?iX A2.out).mono ?_
 (case iW=>repeat (first|exact (Kd.aC uE.out HB.out)|(with_reducible refine Kd.dW ?_ _)|(with_reducible refine Kd.dL ?_ _)|(with_reducible refine Kd.fV ?_)))
 (case iX=>exact CW.out)
 rintro e w7 ⟨apy,rfl,ho0,hb⟩;refine⟨_,rfl,?_⟩;have eF:=ah.mk (Kd.fC ho0 (bf (by repeat (first|(with_reducible first|exact HB.out|apply ay|apply au|apply aA|refine aN ?_ CY.out|refine aN ?_ MZ.out)|exact HB.out))));have fG:=ah.mk (aD (g:=jZ) (o:=.cells #[.int .i64 bY,.string bW,.string cB,.int .i64 bR,.slice fO bN.length dU,.slice dS bO.length dQ] 29 (0,0)) (by (with_reducible repeat (first|refine bB ?_ _|refine bG ?_|refine aJ ?_ _));exact eH.out) hb);have gN:=ah.mk (aD (g:=kS) (o:=.cells #[.int .i64 0,.string (⟨#[]⟩:ByteArray),.string (⟨#[]⟩:ByteArray),.int .i64 0,.slice none 0 0,.slice none 0 0] 29 (0,0)) (by (with_reducible repeat (first|refine bB ?_ _|refine bG ?_|refine aJ ?_ _));exact kT.out) hb);have jE:=ah.mk (bM (by repeat (first|(with_reducible first|exact HB.out|apply ay|apply au|apply aA|refine aN ?_ CY.out|refine aN ?_ MZ.out)|exact HB.out)) hb);clear eH;clear kT;clear HB;have M0:=eF;have eH:=fG;have kT:=gN;have HB:=jE;clear eF fG gN jE
 (try clear hb)
 (try clear hb2)
 (try clear hk)
 (try clear hi)
 (try clear ho0)
 refine hK.out _ _ ⟨(ak eH.out 0).trans rfl,(ak eH.out 1).trans rfl,(ak eH.out 2).trans rfl,(ak eH.out 3).trans rfl,(ak eH.out 4).trans rfl,(ak eH.out 5).trans rfl⟩ (fun hHeld=>?_);clear hK K;refine eB (a':=?_) ?_ ?_;rotate_left
 ·show Act.put _ (some 5) _=_
  simp only[Act.put,aYa,aYb,aYc,aG,aH];rfl
 refine bA (i:=6) (N:=some 9) (v:=?_) (a':=?_) #[true,true,true,true,true,false,true,false,false,false] rfl rfl (jd su.out (by kernel_rfl)) (fun _ _ _ h=>h) (Or.inl ⟨by rfl,?_⟩) ?_ ?_;rotate_left
 ·intro w'
  go_simp
  with_reducible rfl
 rotate_left
 ·simp only[Act.put,aYa,aYb,aYc,aG,aH];rfl
 refine kg (i:=5) (N:=some 8) #[true,true,true,true,true,true,true,false,false,false] rfl rfl (wU su.out (by kernel_rfl)) (by decide) (fun K hK=>?_);refine mq Tryz.func143 (by kernel_rfl) rfl #[.slice dS bO.length dQ] (by rfl) rfl rfl (by (try simp only[List.map_toArray,List.map_cons,List.map_nil]);first|done|rfl|(simp only[List.length_drop,List.length_take];rfl)) ?_
 with_reducible refine (jh.calls _ _ bO Co _ ?iW ?iX A3.out).mono ?_
 (case iW=>repeat (first|exact (Kd.aC Ag.out HB.out)|(with_reducible refine Kd.dW ?_ _)|(with_reducible refine Kd.dL ?_ _)|(with_reducible refine Kd.fV ?_)))
 (case iX=>exact EZ.out)
 rintro e w8 ⟨v193,rfl,ho0,hb⟩;refine⟨_,rfl,?_⟩;have eF:=ah.mk (Kd.dh (by (with_reducible repeat (first|apply Kd.dz|apply Kd.dA|apply Kd.dO));exact M0.out) hb);have fG:=ah.mk (Kd.fC ho0 (bf (by repeat (first|(with_reducible first|exact HB.out|apply ay|apply au|apply aA|refine aN ?_ CY.out|refine aN ?_ MZ.out)|exact HB.out))));have gN:=ah.mk (aD (g:=jZ) (o:=.cells #[.int .i64 bY,.string bW,.string cB,.int .i64 bR,.slice fO bN.length dU,.slice dS bO.length dQ] 29 (0,0)) (by (with_reducible repeat (first|refine bB ?_ _|refine bG ?_|refine aJ ?_ _));exact eH.out) hb);have jE:=ah.mk (aD (g:=kS) (o:=.cells #[.int .i64 0,.string (⟨#[]⟩:ByteArray),.string (⟨#[]⟩:ByteArray),.int .i64 0,.slice none 0 0,.slice none 0 0] 29 (0,0)) (by (with_reducible repeat (first|refine bB ?_ _|refine bG ?_|refine aJ ?_ _));exact kT.out) hb);have uF:=ah.mk (bM (by repeat (first|(with_reducible first|exact HB.out|apply ay|apply au|apply aA|refine aN ?_ CY.out|refine aN ?_ MZ.out)|exact HB.out)) hb);clear M0;clear eH;clear kT;clear HB;have M0:=eF;have aav:=fG;have eH:=gN;have kT:=jE;have HB:=uF;clear eF fG gN jE uF
 (try clear hb)
 (try clear hb2)
 (try clear hk)
 (try clear hi)
 (try clear ho0)
 obtain⟨H8,ES,WB⟩:=Kd.bH M0.out
 (first|subst WB|(injection WB with f1_ f2_ f3_;have f4_:=f1_.symm;have f5_:=f3_.symm;clear f1_ f2_ f3_;subst f4_;subst f5_))
 obtain⟨Vh,Vi,afo⟩:=Kd.bH aav.out
 (first|subst afo|(injection afo with f1_ f2_ f3_;have f4_:=f1_.symm;have f5_:=f3_.symm;clear f1_ f2_ f3_;subst f4_;subst f5_))
 refine hK.out _ _ ⟨(ak eH.out 0).trans rfl,(ak eH.out 1).trans rfl,(ak eH.out 2).trans rfl,(ak eH.out 3).trans rfl,(ak eH.out 4).trans rfl,(ak eH.out 5).trans rfl⟩ (fun hHeld=>?_);clear hK K;refine eB (a':=?_) ?_ ?_;rotate_left
 ·show Act.put _ (some 8) _=_
  simp only[Act.put,aYa,aYb,aYc,aG,aH];rfl
 refine kC (i:=7) (N:=none) #[true,true,true,true,true,true,true,true,false,false] rfl rfl (wU su.out (by kernel_rfl)) (by decide) (fun K hK=>?_);have apz:w8.cell? ⟨jZ,4,none⟩=some (.slice fO bN.length dU):=(ak eH.out 4).trans rfl;have amZ:=av eH.out 4;have ahj:=uI.out;have ahk:=Cq.out;refine sM (w1:=?_) (by rfl) rfl ?_ ?_;rotate_left
 ·go_simp
  rfl
 refine hK.out _ _ ?_;clear hK K;refine bA (i:=8) (N:=some 10) (v:=?_) (a':=?_) #[true,true,true,true,true,true,true,true,true,false] rfl rfl (jd su.out (by kernel_rfl)) (fun _ _ _ h=>h) (Or.inl ⟨by rfl,?_⟩) ?_ ?_;rotate_left
 ·intro w'
  go_simp
  with_reducible rfl
 rotate_left
 ·simp only[Act.put,aYa,aYb,aYc,aG,aH];rfl
 refine kC (i:=9) (N:=none) #[true,true,true,true,true,true,true,true,true,true] rfl rfl (wU su.out (by kernel_rfl)) (by decide) (fun K hK=>?_);have apA:w8.cell? ⟨jZ,5,none⟩=some (.slice dS bO.length dQ):=(ak eH.out 5).trans rfl;have am0:=av eH.out 5;have ahl:=uI.out;have ahm:=Cq.out;refine sM (w1:=?_) (by rfl) rfl ?_ ?_;rotate_left
 ·go_simp
  rfl
 refine hK.out _ _ ?_;clear hK K;refine ku (DU su.out (by kernel_rfl)) ?_;have aff:=Cq.out;have afg:=uI.out;have Kh:w8.cell? ⟨jZ,0,none⟩=some (.int .i64 bY):=(ak eH.out 0).trans rfl;have Ki:w8.cell? ⟨jZ,1,none⟩=some (.string bW):=(ak eH.out 1).trans rfl;have Q6:w8.cell? ⟨jZ,2,none⟩=some (.string cB):=(ak eH.out 2).trans rfl;have Q7:w8.cell? ⟨jZ,3,none⟩=some (.int .i64 bR):=(ak eH.out 3).trans rfl;have Q8:w8.cell? ⟨jZ,4,none⟩=some (.slice fO bN.length dU):=(ak eH.out 4).trans rfl;have Q9:w8.cell? ⟨jZ,5,none⟩=some (.slice dS bO.length dQ):=(ak eH.out 5).trans rfl;have Kj:=av eH.out 0;have Kk:=av eH.out 1;have Ra:=av eH.out 2;have Rb:=av eH.out 3;have Rc:=av eH.out 4;have Rf:=av eH.out 5;have DL:w8.cell? ⟨kS,0,none⟩=some (.int .i64 0):=(ak kT.out 0).trans rfl;have DN:w8.cell? ⟨kS,1,none⟩=some (.string (⟨#[]⟩:ByteArray)):=(ak kT.out 1).trans rfl;have XU:w8.cell? ⟨kS,2,none⟩=some (.string (⟨#[]⟩:ByteArray)):=(ak kT.out 2).trans rfl;have XV:w8.cell? ⟨kS,3,none⟩=some (.int .i64 0):=(ak kT.out 3).trans rfl;have XW:w8.cell? ⟨kS,4,none⟩=some (.slice none 0 0):=(ak kT.out 4).trans rfl;have XY:w8.cell? ⟨kS,5,none⟩=some (.slice none 0 0):=(ak kT.out 5).trans rfl;have DR:=av kT.out 0;have DT:=av kT.out 1;have XZ:=av kT.out 2;have X0:=av kT.out 3;have X3:=av kT.out 4;have X6:=av kT.out 5
 try go_wp2
 refine bodyPost_ret (results_cell_row rfl _ _ kS 29 #[.int .i64 bY,.string bW,.string cB,.int .i64 bR,.slice H8 Cn.length ES,.slice Vh Co.length Vi] (0,0) _ rfl (by (with_reducible repeat (first|refine bB ?_ _|refine bG ?_|refine aJ ?_ _));refine gM (cs:=#[.int .i64 bY,.string bW,.string cB,.int .i64 bR,.slice H8 Cn.length ES,.slice none 0 0]) ?_ 5 _ rfl;(with_reducible repeat (first|refine bB ?_ _|refine bG ?_|refine aJ ?_ _));refine gM (cs:=#[.int .i64 bY,.string bW,.string cB,.int .i64 bR,.slice none 0 0,.slice none 0 0]) ?_ 4 _ rfl;(with_reducible repeat (first|refine bB ?_ _|refine bG ?_|refine aJ ?_ _));refine gM (cs:=#[.int .i64 bY,.string bW,.string cB,.int .i64 0,.slice none 0 0,.slice none 0 0]) ?_ 3 _ rfl;(with_reducible repeat (first|refine bB ?_ _|refine bG ?_|refine aJ ?_ _));refine gM (cs:=#[.int .i64 bY,.string bW,.string (⟨#[]⟩:ByteArray),.int .i64 0,.slice none 0 0,.slice none 0 0]) ?_ 2 _ rfl;(with_reducible repeat (first|refine bB ?_ _|refine bG ?_|refine aJ ?_ _));refine gM (cs:=#[.int .i64 bY,.string (⟨#[]⟩:ByteArray),.string (⟨#[]⟩:ByteArray),.int .i64 0,.slice none 0 0,.slice none 0 0]) ?_ 1 _ rfl;(with_reducible repeat (first|refine bB ?_ _|refine bG ?_|refine aJ ?_ _));refine gM (cs:=#[.int .i64 0,.string (⟨#[]⟩:ByteArray),.string (⟨#[]⟩:ByteArray),.int .i64 0,.slice none 0 0,.slice none 0 0]) ?_ 0 _ rfl;(with_reducible repeat (first|refine bB ?_ _|refine bG ?_|refine aJ ?_ _));refine gX ?_ uI.out _;(with_reducible repeat (first|refine bB ?_ _|refine bG ?_|refine aJ ?_ _));refine gX ?_ uI.out _;(with_reducible repeat (first|refine bB ?_ _|refine bG ?_|refine aJ ?_ _));exact kT.out) Tryz.underlying29 rfl (by kernel_rfl)) rfl ?_;exact⟨_,_,by first|rfl|(simp[aU,aV] <;> rfl)|(simp[*,aU,aV] <;> rfl),by (with_reducible repeat (first|apply Kd.dz|apply Kd.dA|apply Kd.dO));exact Kd.dJ (Kd.jk (p:=⟨kS,5,none⟩) (Kd.jk (p:=⟨kS,4,none⟩) (Kd.jk (p:=⟨kS,3,none⟩) (Kd.jk (p:=⟨kS,2,none⟩) (Kd.jk (p:=⟨kS,1,none⟩) (Kd.jk (p:=⟨kS,0,none⟩) (Kd.jk (p:=⟨jZ,5,none⟩) (Kd.jk (p:=⟨jZ,4,none⟩) (Kd.ow (Kd.ow M0.out eH.out (by decide)) kT.out (by decide)) (fun _ hk=>hk.1.2) (.slice H8 Cn.length ES)) (fun _ hk=>hk.1.2) (.slice Vh Co.length Vi)) (fun _ hk=>hk.2) (.int .i64 bY)) (fun _ hk=>hk.2) (.string bW)) (fun _ hk=>hk.2) (.string cB)) (fun _ hk=>hk.2) (.int .i64 bR)) (fun _ hk=>hk.2) (.slice H8 Cn.length ES)) (fun _ hk=>hk.2) (.slice Vh Co.length Vi)) (fun _ hk=>trivial),by (with_reducible repeat (first|apply Kd.dz|apply Kd.dA|apply Kd.dO));exact Kd.dJ (Kd.jk (p:=⟨kS,5,none⟩) (Kd.jk (p:=⟨kS,4,none⟩) (Kd.jk (p:=⟨kS,3,none⟩) (Kd.jk (p:=⟨kS,2,none⟩) (Kd.jk (p:=⟨kS,1,none⟩) (Kd.jk (p:=⟨kS,0,none⟩) (Kd.jk (p:=⟨jZ,5,none⟩) (Kd.jk (p:=⟨jZ,4,none⟩) (Kd.ow (Kd.ow aav.out eH.out (by decide)) kT.out (by decide)) (fun _ hk=>hk.1.2) (.slice H8 Cn.length ES)) (fun _ hk=>hk.1.2) (.slice Vh Co.length Vi)) (fun _ hk=>hk.2) (.int .i64 bY)) (fun _ hk=>hk.2) (.string bW)) (fun _ hk=>hk.2) (.string cB)) (fun _ hk=>hk.2) (.int .i64 bR)) (fun _ hk=>hk.2) (.slice H8 Cn.length ES)) (fun _ hk=>hk.2) (.slice Vh Co.length Vi)) (fun _ hk=>trivial),by repeat (first|(with_reducible first|exact HB.out|apply ay|apply au|apply aA|refine aN ?_ CY.out|refine aN ?_ MZ.out)|exact HB.out)⟩
end Go.Proofs.YtknihldkhedpkaaGreatDoor.PT
end
