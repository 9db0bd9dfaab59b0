import Derived.Test.YtknihldkhedpkaaGreatDoorUUG10
import Derived.Test.YtknihldkhedpkaaGreatDoorUUG20
import Derived.LoopNIn
import Derived.LoopIn
import Derived.Shelf.Abstract
import Derived.Shelf.RegionOpen
import Derived.Test.YtknihldkhedpkaaGreatDoorUUG13
import Derived.Test.YtknihldkhedpkaaGreatDoorUUG1
import Derived.Test.YtknihldkhedpkaaGreatDoorUUG7
set_option linter.all false
set_option maxHeartbeats 16000000
set_option maxRecDepth 100000
section
namespace Go.Proofs.YtknihldkhedpkaaGreatDoor.Two
open Go.RowKit Go.Lib
open Go.Proofs.YtknihldkhedpkaaGreatDoorW.PrintWords Go.Proofs.YtknihldkhedpkaaGreatDoorW.PrintLast Go.Proofs.YtknihldkhedpkaaGreatDoor.PT
attribute [local go_sem] Oper.semAt_some
structure Reader (L:Nat→List It) (A:Nat→Option Addr) where
 P:World→Prop
 base:Nat
 rd:∀w,P w→∀i,i<2→Kd.C om w (A i) (L i).length (L i)
 below:∀w w',P w→Below w.heap.size w w'→P w'
 st:∀B w w',base≤B→P w→zl B w w'→P w'
def PI (L:Nat→List It) (A:Nat→Option Addr) (j:Nat) (v:Value):Option It→Prop
 | none=>v=.pointer none
 | some x=>∃ad p,A j=some ad∧v=.pointer (some (ad.add (p*6)))∧(L j)[p]?=some x
theorem PI.at_ {L:Nat→List It} {A:Nat→Option Addr} {j p:Nat} {ad:Addr} (hp:p<(L j).length) (hA:A j=some ad):PI L A j (.pointer (some (ad.add (p*6)))) (some ((L j)[p]'hp)):=⟨ad,p,hA,rfl,List.getElem?_eq_getElem hp⟩
theorem PI.oi {L:Nat→List It} {A:Nat→Option Addr} {j:Nat} {v:Value} {o:Option It} {w:World} (hr:Kd.C om w (A j) (L j).length (L j)) (h:PI L A j v o):OI w v o:=by
 cases o with
 | none=>exact h
 | some x=>
  obtain⟨ad,p,hA,rfl,hx⟩:=h;obtain⟨hp,hxp⟩:=List.getElem?_eq_some_iff.1 hx;obtain⟨YE,A4,c4,A5,c5,e,r0,r1,r2,r3,r4,r5,l4,g4,l5,g5⟩:=oo hr (p:Int) aj aj
  have hrd:aJ (L j) (p:Int)=x:=by rw[← hxp];simp[aJ,hp]
  rw[hrd] at r0 r1 r2 r3 r4 r5 l4 g4 l5 g5;rw[Int.toNat_natCast] at r0 r1 r2 r3 r4 r5;rw[hA] at e;obtain rfl:=Option.some.inj e;exact⟨_,A4,c4,A5,c5,rfl,r0,r1,r2,r3,r4,r5,l4,g4,l5,g5⟩
def Tx (L:Nat→List It) (A:Nat→Option Addr) (rs:List Rd) (pre:List oG) (x:oG) (W:World):Prop :=
 (∃rest,rs=pre.map oG.rd++x.rd::rest)∧∃p0 p1,W.heap[x.g]?=some (.cells #[p0,p1] 95 (0,0))∧PI L A 0 p0 x.a∧PI L A 1 p1 x.b
structure KpG (R:World→Prop) (S:Nat→Prop) (A C:World):Prop where
 low:R A→R C
 same:∀k,S k→C.heap[k]?=A.heap[k]?
 nums:∀(k:Nat) (cs:Array Value),A.heap[k]?=some (Obj.cells cs 3 (0,0))→C.heap[k]?=some (Obj.cells cs 3 (0,0))
structure UJ (L:Nat→List It) (A:Nat→Option Addr) (c:Nat→Nat) (R:Reader L A) (b1 b2 br:Nat) (wx:World):Prop where
 low:R.P wx
 x1:wx.heap[b1]?=some (.cells #[.func (.func 51) #[] #[]] 93 (0,0))
 x2:wx.heap[b2]?=some (.cells #[.slice (some ⟨br,0,none⟩) 2 2] 75 (0,0))
 xr:wx.heap[br]?=some (.cells #[.slice (A 0) (L 0).length (c 0),.slice (A 1) (L 1).length (c 1)] 25 (0,0))
section
variable {L : Nat → List It} {A : Nat → Option Addr} {c : Nat → Nat} {R : Reader L A} {b1 b2 br : Nat} {wx wy : World}
theorem UJ.below (h:UJ L A c R b1 b2 br wx) (hb:Below wx.heap.size wx wy):UJ L A c R b1 b2 br wy :=
 ⟨R.below _ _ h.low hb,aG h.x1 hb,aG h.x2 hb,aG h.xr hb⟩
theorem UJ.st (h:UJ L A c R b1 b2 br wx) {B:Nat} (hs:zl B wx wy) (h0:R.base≤B) (h1:b1<B) (h2:b2<B) (h3:br<B):UJ L A c R b1 b2 br wy :=
 ⟨R.st B _ _ h0 h.low hs,hs.keep h.x1 h1,hs.keep h.x2 h2,hs.keep h.xr h3⟩
theorem UJ.kp (h:UJ L A c R b1 b2 br wx) (hk:KpG R.P (fun k=>k=b1∨k=b2∨k=br) wx wy):UJ L A c R b1 b2 br wy :=
 ⟨hk.low h.low,(hk.same _ (.inl rfl)).trans h.x1,(hk.same _ (.inr (.inl rfl))).trans h.x2,(hk.same _ (.inr (.inr rfl))).trans h.xr⟩
end
structure QW (L:Nat→List It) (A:Nat→Option Addr) (c:Nat→Nat) (R:Reader L A) (b1 b2 br B ga:Nat) (rs:List Rd) (J:List oG→World→Prop) (pre:List oG) (p:Nat→Nat) (g:Nat) (wx:World):Prop where
 am:UJ L A c R b1 b2 br wx
 at_:wx.heap[ga]?=some (.cells #[.int .i64 (p 0),.int .i64 (p 1)] 3 (0,0))
 hB:B≤ga
 j:J pre wx
 rs:rs=pre.map oG.rd++fI L g p
 left:kE L p≤g
 le:∀i,i<2→p i≤(L i).length
theorem QW.below {L:Nat→List It} {A:Nat→Option Addr} {c:Nat→Nat} {R:Reader L A} {b1 b2 br B ga:Nat} {rs:List Rd} {J:List oG→World→Prop} {pre:List oG} {p:Nat→Nat} {g:Nat} {wx wy:World}
  (h:QW L A c R b1 b2 br B ga rs J pre p g wx) (hJ:∀pre A C,J pre A→zl B A C→J pre C) (hb:Below wx.heap.size wx wy):QW L A c R b1 b2 br B ga rs J pre p g wy :=
 ⟨h.am.below hb,aG h.at_ hb,h.hB,hJ _ _ _ h.j (zl.below hb),h.rs,h.left,h.le⟩
def D7 (L:Nat→List It) (A:Nat→Option Addr) (c:Nat→Nat) (R:Reader L A) (b1 b2 br B ga gh:Nat) (J:List oG→World→Prop) (pre:List oG) (p:Nat→Nat) (k:ByteArray) (i:Nat) (wx:World):Prop :=
 UJ L A c R b1 b2 br wx∧∃q:Nat→Nat,wx.heap[ga]?=some (.cells #[.int .i64 (q 0),.int .i64 (q 1)] 3 (0,0))∧(∀j,j<i→q j=fO L p k j)∧(∀j,i≤j→q j=p j) ∧
  ∃P:Nat→Value,wx.heap[gh]?=some (.cells #[P 0,P 1] 95 (0,0))∧(∀j,j<i→PI L A j (P j) (fG L p k j))∧(∀j,i≤j→P j=.pointer none)∧J pre wx
abbrev Hd (wr:World) (b1 ga i:Nat) (pv:Nat) (P:Addr) (x:It) (A4:Option Addr) (c4:Nat) (A5:Option Addr) (c5:Nat) (w':World):Prop :=
 w'.cell? ⟨b1,0,none⟩=some (.func (.func 51) #[] #[])∧w'.cell? ⟨ga,i,none⟩=some (.int .i64 pv)∧w'.cell? P=some (.int .i64 x.f0)∧w'.cell? ⟨P.block,P.off+1,none⟩=some (.string x.f1)∧w'.cell? ⟨P.block,P.off+2,none⟩=some (.string x.f2)∧w'.cell? ⟨P.block,P.off+3,none⟩=some (.int .i64 x.f3)∧w'.cell? ⟨P.block,P.off+4,none⟩=some (.slice A4 x.f4.length c4)∧w'.cell? ⟨P.block,P.off+5,none⟩=some (.slice A5 x.f5.length c5)∧ah (Below wr.heap.size wr w')
section
variable {L : Nat → List It} {A : Nat → Option Addr} {c : Nat → Nat} {R : Reader L A} {b1 b2 br B ga gh : Nat} {J : List oG → World → Prop} {pre : List oG} {p : Nat → Nat} {k : ByteArray} {i : Nat} {wx wy : World}
theorem D7.same (h:D7 L A c R b1 b2 br B ga gh J pre p k i wx) (hJ:∀pre A C,J pre A→zl B A C→J pre C) (hn:fG L p k i=none) (hb:Below wx.heap.size wx wy):D7 L A c R b1 b2 br B ga gh J pre p k (i+1) wy:=by
 obtain⟨am,q,hat,hq1,hq2,P,hP,hP1,hP2,hj⟩:=h;refine⟨am.below hb,q,aG hat hb,fun j hj2=>?_,fun j hj2=>hq2 j aj,P,aG hP hb,fun j hj2=>?_,fun j hj2=>hP2 j aj,hJ _ _ _ hj (zl.below hb)⟩
 ·rcases Nat.lt_or_ge j i with h|h
  ·exact hq1 j h
  obtain rfl:j=i:=by omega
  rw[hq2 j (Nat.le_refl _)];unfold fO;rw[hn];simp
 rcases Nat.lt_or_ge j i with h|h
 ·exact hP1 j h
 obtain rfl:j=i:=by omega
 rw[hn];exact hP2 j (Nat.le_refl _)
theorem D7.step {x:It} {v:Value} (h:D7 L A c R b1 b2 br B ga gh J pre p k i wx) (hi:i<2) (hJ:∀pre A C,J pre A→zl B A C→J pre C) (hn:fG L p k i=some x) (hb:Below wx.heap.size wx wy) (hv:PI L A i v (some x)) (hga:B≤ga) (hgh:B≤gh) (hne:ga≠gh) (h0:R.base≤B) (h1:b1<B) (h2:b2<B) (h3:br<B) :
  D7 L A c R b1 b2 br B ga gh J pre p k (i+1) ((wy.setCell ⟨gh,i,none⟩ v).setCell ⟨ga,i,none⟩ (.int .i64 ((p i:Int)+1))):=by
 obtain⟨am,q,hat,hq1,hq2,P,hP,hP1,hP2,hj⟩:=h;have hP':=aG hP hb;have hat':=iL (aG hat hb) (p:=⟨gh,i,none⟩) hne v;have s1:=zl.set hP' (.inr rfl) hgh i v;have s2:=zl.set hat' (.inl rfl) hga i (.int .i64 ((p i:Int)+1));have s3:=((zl.below (B:=B) hb).trans s1).trans s2;refine⟨am.st s3 h0 h1 h2 h3,fun j=>if j=i then p i+1 else q j,?_,fun j hj2=>?_,fun j hj2=>?_,fun j=>if j=i then v else P j,?_,fun j hj2=>?_,fun j hj2=>?_,hJ _ _ _ hj s3⟩
 ·rw[dM hat']
  rcases (show i=0∨i=1 by omega) with rfl|rfl <;> simp
 ·dsimp only;by_cases e:j=i
  ·subst e;rw[if_pos rfl];unfold fO;rw[hn];simp
  rw[if_neg e];exact hq1 j aj
 ·dsimp only;rw[if_neg aj];exact hq2 j aj
 ·refine iL ?_ (fun e=>hne e.symm) _;rw[dM hP']
  rcases (show i=0∨i=1 by omega) with rfl|rfl <;> simp
 ·dsimp only;by_cases e:j=i
  ·subst e;rw[if_pos rfl,hn];exact hv
  rw[if_neg e];exact hP1 j aj
 dsimp only;rw[if_neg aj];exact hP2 j aj
end
section
variable {wr w' w2 : World} {b1 ga i pv : Nat} {P : Addr} {x : It} {A4 : Option Addr} {c4 : Nat} {A5 : Option Addr} {c5 : Nat}
theorem iM (h:Hd wr b1 ga i pv P x A4 c4 A5 c5 w') (hb:Below w'.heap.size w' w2):Hd wr b1 ga i pv P x A4 c4 A5 c5 w2:=by
 obtain⟨h0,h1,h2,h3,h4,h5,h6,h7,h8⟩:=h;exact⟨au hb h0,au hb h1,au hb h2,au hb h3,au hb h4,au hb h5,au hb h6,au hb h7,⟨h8.out.trans (hb.mono h8.out.size)⟩⟩
end
theorem adP:(Tryz.prog.info? 3).map (fun i=>(i.zero,i.size,i.bytes))=some (some (.int .i64 0),1,8):=by kernel_rfl
theorem adQ:(Tryz.prog.info? 95).map (fun i=>(i.zero,i.size,i.bytes))=some (some (.pointer none),1,8):=by kernel_rfl
theorem ahd (w:World):(Instr.makeSlice 113 (.int .i64 2) (.int .i64 2)).run Tryz.prog w=.ok (.slice (some ⟨w.heap.size,0,none⟩) 2 2) (w.alloc (.cells #[.int .i64 0,.int .i64 0] 3)):=by
 obtain⟨i0,hi,hz0,hz1,hz2⟩:=info_parts adP;exact (run_makeSlice w 113 3 i0 _ Tryz.underlying113 hi hz0 .i64 .i64 2 2 aD aD (by rw[hz1];decide) (by rw[hz2];decide) aD).trans (by rw[hz1];first|rfl|(simp[madeCells];done)|kernel_rfl)
theorem adR (w:World):(Instr.makeSlice 94 (.int .i64 2) (.int .i64 2)).run Tryz.prog w=.ok (.slice (some ⟨w.heap.size,0,none⟩) 2 2) (w.alloc (.cells #[.pointer none,.pointer none] 95)):=by
 obtain⟨i0,hi,hz0,hz1,hz2⟩:=info_parts adQ;exact (run_makeSlice w 94 95 i0 _ Tryz.underlying94 hi hz0 .i64 .i64 2 2 aD aD (by rw[hz1];decide) (by rw[hz2];decide) aD).trans (by rw[hz1];first|rfl|(simp[madeCells];done)|kernel_rfl)
theorem yc (L:Nat→List It) (A:Nat→Option Addr) (c:Nat→Nat) (R:Reader L A) (w:World) (b1 b2 br:Nat)
  (hc:∀i,i<2→(L i).length≤c i) (hl:∀i,i<2→(L i).length≤65536) (hS:∀i,i<2→∀x∈L i,x.f1.size≤1023)
  (hx:UJ L A c R b1 b2 br w) (h0:R.base≤w.heap.size) :
  GD Tryz.prog 87 #[.pointer (some ⟨b2,0,none⟩),.pointer (some ⟨b1,0,none⟩)] encR (Tx L A (fI L (kE L (fun _=>0)) (fun _=>0))) (zl w.heap.size) (KpG R.P (fun k=>k=b1∨k=b2∨k=br))
   (fun xs=>xs.map oG.rd=fI L (kE L (fun _=>0)) (fun _=>0)) w:=by
 intro l J X W hW hJ hY hJ0
 obtain⟨rs,hrs⟩:∃rs,fI L (kE L (fun _=>0)) (fun _=>0)=rs:=⟨_,rfl⟩
 obtain⟨B,hBB⟩:∃B,w.heap.size=B:=⟨_,rfl⟩
 have h1:=bE hx.x1;have h2:=bE hx.x2;have h3:=bE hx.xr;rw[hBB] at h0 h1 h2 h3;have Yx:=hx.below hW;have hBW:B≤W.heap.size:=hBB▸hW.size;rw[hrs] at hY ⊢;rw[hBB] at hJ;clear hx hW;have y1:=ak Yx.x1 0;have y2:=ak Yx.x2 0;have HAm:=ah.mk Yx;have HJ:=ah.mk hJ;have HY:=ah.mk hY;have HJ0:=ah.mk hJ0;have Yn:=ah.mk hrs;clear Yx hJ hY hJ0 hrs;have m1:=ahd;have m2:=adR
 go_enter Tryz.func87,Tryz.ntmps87
 go_wp2_with fail
 have hM0:QW L A c R b1 b2 br B W.heap.size rs J [] (fun _=>0) (kE L (fun _=>0)) (W.alloc (.cells #[.int .i64 0,.int .i64 0] 3)) :=
  ⟨HAm.out.below ((Below.refl _ _).alloc (Nat.le_refl _) _),bJ W _,hBW,HJ.out _ _ _ HJ0.out (zl.below ((Below.refl _ _).alloc (Nat.le_refl _) _)),Yn.out.symm,Nat.le_refl _,fun _ _=>Nat.zero_le _⟩
 have HM0:=ah.mk hM0;clear hM0 m1
 go_loopg [5] (kE L (fun _=>0)) (fun g s5 wr=>∃pre p,ah (QW L A c R b1 b2 br B W.heap.size rs J pre p g wr))
 case atStart=>exact⟨_,_,HM0⟩
 case round=>
  obtain⟨pre,p,HM⟩:=hrel;clear HM0 HJ0 y1 y2 HAm;have y1:=ak HM.out.am.x1 0;have y2:=ak HM.out.am.x2 0
  go_wp2_with fail
  obtain⟨gq,rfl⟩:∃gq,gq=gk:=⟨_,rfl⟩
  obtain⟨wq,rfl⟩:∃wq,wq=wr:=⟨_,rfl⟩
  go_loopg [17,5,6] 2 (fun g s17 s5 s6 wx=>∃i:Nat,2 - i≤g∧i≤2∧s17=.int .i64 i∧s5=.string ((ko L p i).getD ⟨#[]⟩)∧s6=.bool (ko L p i).isSome∧ah (QW L A c R b1 b2 br B W.heap.size rs J pre p gq wx))
  case atStart=>exact⟨0,by omega,by omega,rfl,rfl,rfl,HM⟩
  case round=>
   obtain⟨i,hig,hi3,rfl,rfl,rfl,yD⟩:=hrel;clear HM y1 y2;by_cases hi:i<2
   ·rcases (show i=0∨i=1 by omega) with rfl|rfl
    ·have y1:wr.cell? ⟨b1,0,none⟩=some (.func (.func 51) #[] #[]):=ak yD.out.am.x1 0;have y3:wr.cell? ⟨br,0,none⟩=some (.slice (A 0) (L 0).length (c 0)):=ak yD.out.am.xr 0;have y4:wr.cell? ⟨W.heap.size,0,none⟩=some (.int .i64 (p 0)):=ak yD.out.at_ 0;by_cases hp:p 0<(L 0).length
     ·have d1:decide ((p 0:Int)<((L 0).length:Int))=true:=decide_eq_true aj;have d2:decide (p 0<(L 0).length)=true:=decide_eq_true hp;obtain⟨ad,hA,_⟩:=(R.rd _ yD.out.am.low 0 aj).2.2 aj;have hoi:=PI.at_ (L:=L) (A:=A) (j:=0) hp hA;have QX:=R.rd _ yD.out.am.low 0 aj;have hgx:(L 0)[p 0]?=some ((L 0)[p 0]'hp):=List.getElem?_eq_getElem hp;have hsx:=hS 0 aj _ (List.getElem_mem hp);have hlx:=hl 0 aj
      obtain⟨x,hx⟩:∃x,(L 0)[p 0]'hp=x:=⟨_,rfl⟩
      rw[hx] at hoi hgx hsx;obtain⟨YE,A4,c4,A5,c5,e,r0,r1,r2,r3,r4,r5,l4,g4,l5,g5⟩:=PI.oi QX hoi
      injection e with e
      obtain rfl:=Option.some.inj e;rw[hA] at y3;have HX:=ah.mk hgx;clear hoi hx e l4 g4 l5 g5 hgx
      cases hk:ko L p 0 with
      | none=>
       have HN:ah (ko L p (0+1)=some (kV x)):=⟨by unfold ko;rw[HX.out];dsimp only;rw[hk]⟩
       have HK:=ah.mk hk;clear hk
       go_wp2_with fail
       go_quiet (fail)
       go_wp2_with fail
       go_region_held3 (fun w'=>Hd wr b1 W.heap.size 0 (p 0) (ad.add (p 0*6)) x A4 c4 A5 c5 w')
        (first|(refine iM ⟨y1,y4,r0,r1,r2,r3,r4,r5,⟨Below.refl _ _⟩⟩ ?_;(repeat (first|exact Below.refl _ _|apply av|apply bA));done)|(go_split_ands;exact iM ⟨by assumption,by assumption,by assumption,by assumption,by assumption,by assumption,by assumption,by assumption,by assumption⟩ (by assumption)))
        (first|(go_at_call 51;refine (jo x _ _ _ aj).mono ?_;rintro e w2 ⟨rfl,hb2⟩))
       go_split_ands
       go_wp2_with fail
       go_roundg (1 - 0)
       case measure=>omega
       case rel=>exact⟨0+1,by omega,by omega,by first|rfl|simp,by rw[HN.out];rfl,by rw[HN.out];rfl,⟨yD.out.below HJ.out (ah.out (by assumption))⟩⟩
      | some k=>
       cases hlt:Op.bytesLess (fV 47 0 x.f1).toList k.toList with
       | false=>
        have HN:ah (ko L p (0+1)=some k):=⟨by unfold ko;rw[HX.out];dsimp only;rw[hk];dsimp only;rw[if_neg (show ¬Op.bytesLess (kV x).toList k.toList=true by unfold kV;rw[hlt];decide)]⟩
        have HK:=ah.mk hk;clear hk
        go_wp2_with fail
        go_region_held3 (fun w'=>Hd wr b1 W.heap.size 0 (p 0) (ad.add (p 0*6)) x A4 c4 A5 c5 w')
         (first|(refine iM ⟨y1,y4,r0,r1,r2,r3,r4,r5,⟨Below.refl _ _⟩⟩ ?_;(repeat (first|exact Below.refl _ _|apply av|apply bA));done)|(go_split_ands;exact iM ⟨by assumption,by assumption,by assumption,by assumption,by assumption,by assumption,by assumption,by assumption,by assumption⟩ (by assumption)))
         (first|(go_at_call 51;refine (jo x _ _ _ aj).mono ?_;rintro e w2 ⟨rfl,hb2⟩))
        go_split_ands
        go_wp2_with fail
        go_roundg (1 - 0)
        case measure=>omega
        case rel=>exact⟨0+1,by omega,by omega,by first|rfl|simp,by rw[HN.out];rfl,by rw[HN.out];rfl,⟨yD.out.below HJ.out (ah.out (by assumption))⟩⟩
       | true=>
        have HN:ah (ko L p (0+1)=some (kV x)):=⟨by unfold ko;rw[HX.out];dsimp only;rw[hk];dsimp only;rw[if_pos (show Op.bytesLess (kV x).toList k.toList=true by unfold kV;rw[hlt])]⟩
        have HK:=ah.mk hk;clear hk
        go_wp2_with fail
        go_region_held3 (fun w'=>Hd wr b1 W.heap.size 0 (p 0) (ad.add (p 0*6)) x A4 c4 A5 c5 w')
         (first|(refine iM ⟨y1,y4,r0,r1,r2,r3,r4,r5,⟨Below.refl _ _⟩⟩ ?_;(repeat (first|exact Below.refl _ _|apply av|apply bA));done)|(go_split_ands;exact iM ⟨by assumption,by assumption,by assumption,by assumption,by assumption,by assumption,by assumption,by assumption,by assumption⟩ (by assumption)))
         (first|(go_at_call 51;refine (jo x _ _ _ aj).mono ?_;rintro e w2 ⟨rfl,hb2⟩))
        go_split_ands
        go_wp2_with fail
        obtain⟨wv,hwv⟩:∃wv,w2=wv:=⟨_,rfl⟩
        subst hwv
        go_region_held3 (fun w'=>Hd wr b1 W.heap.size 0 (p 0) (ad.add (p 0*6)) x A4 c4 A5 c5 w')
         (first|(go_split_ands;refine iM ⟨by assumption,by assumption,by assumption,by assumption,by assumption,by assumption,by assumption,by assumption,by assumption⟩ ?_;first|assumption|exact bA (Below.refl _ _)))
         (first|(go_at_call 51;refine (jo x _ _ _ aj).mono ?_;rintro e w2 ⟨rfl,hb2⟩))
        go_split_ands
        go_wp2_with fail
        go_roundg (1 - 0)
        case measure=>omega
        case rel=>exact⟨0+1,by omega,by omega,by first|rfl|simp,by rw[HN.out];rfl,by rw[HN.out];rfl,⟨yD.out.below HJ.out (ah.out (by assumption))⟩⟩
     have d1:decide ((p 0:Int)<((L 0).length:Int))=false:=decide_eq_false aj;have d2:decide (p 0<(L 0).length)=false:=decide_eq_false hp
     have HN:ah (ko L p (0+1)=ko L p 0):=⟨by
      have:(L 0)[p 0]?=none:=List.getElem?_eq_none aj
      show (match (L 0)[p 0]? with|none=>ko L p 0|some x=>_)=_
      rw[this]⟩
     go_wp2_with fail
     go_quiet (fail)
     go_wp2_with fail
     go_roundg (1 - 0)
     case measure=>omega
     case rel=>exact⟨0+1,by omega,by omega,by first|rfl|simp,by rw[HN.out],by rw[HN.out],⟨yD.out.below HJ.out (by repeat (first|exact Below.refl _ _|apply av|apply bA))⟩⟩
    have y1:wr.cell? ⟨b1,0,none⟩=some (.func (.func 51) #[] #[]):=ak yD.out.am.x1 0;have y3:wr.cell? ⟨br,1,none⟩=some (.slice (A 1) (L 1).length (c 1)):=ak yD.out.am.xr 1;have y4:wr.cell? ⟨W.heap.size,1,none⟩=some (.int .i64 (p 1)):=ak yD.out.at_ 1;by_cases hp:p 1<(L 1).length
    ·have d1:decide ((p 1:Int)<((L 1).length:Int))=true:=decide_eq_true aj;have d2:decide (p 1<(L 1).length)=true:=decide_eq_true hp;obtain⟨ad,hA,_⟩:=(R.rd _ yD.out.am.low 1 aj).2.2 aj;have hoi:=PI.at_ (L:=L) (A:=A) (j:=1) hp hA;have QX:=R.rd _ yD.out.am.low 1 aj;have hgx:(L 1)[p 1]?=some ((L 1)[p 1]'hp):=List.getElem?_eq_getElem hp;have hsx:=hS 1 aj _ (List.getElem_mem hp);have hlx:=hl 1 aj
     obtain⟨x,hx⟩:∃x,(L 1)[p 1]'hp=x:=⟨_,rfl⟩
     rw[hx] at hoi hgx hsx;obtain⟨YE,A4,c4,A5,c5,e,r0,r1,r2,r3,r4,r5,l4,g4,l5,g5⟩:=PI.oi QX hoi
     injection e with e
     obtain rfl:=Option.some.inj e;rw[hA] at y3;have HX:=ah.mk hgx;clear hoi hx e l4 g4 l5 g5 hgx
     cases hk:ko L p 1 with
     | none=>
      have HN:ah (ko L p (1+1)=some (kV x)):=⟨by unfold ko;rw[HX.out];dsimp only;rw[hk]⟩
      have HK:=ah.mk hk;clear hk
      go_wp2_with fail
      go_quiet (fail)
      go_wp2_with fail
      go_region_held3 (fun w'=>Hd wr b1 W.heap.size 1 (p 1) (ad.add (p 1*6)) x A4 c4 A5 c5 w')
       (first|(refine iM ⟨y1,y4,r0,r1,r2,r3,r4,r5,⟨Below.refl _ _⟩⟩ ?_;(repeat (first|exact Below.refl _ _|apply av|apply bA));done)|(go_split_ands;exact iM ⟨by assumption,by assumption,by assumption,by assumption,by assumption,by assumption,by assumption,by assumption,by assumption⟩ (by assumption)))
       (first|(go_at_call 51;refine (jo x _ _ _ aj).mono ?_;rintro e w2 ⟨rfl,hb2⟩))
      go_split_ands
      go_wp2_with fail
      go_roundg (1 - 1)
      case measure=>omega
      case rel=>exact⟨1+1,by omega,by omega,by first|rfl|simp,by rw[HN.out];rfl,by rw[HN.out];rfl,⟨yD.out.below HJ.out (ah.out (by assumption))⟩⟩
     | some k=>
      cases hlt:Op.bytesLess (fV 47 0 x.f1).toList k.toList with
      | false=>
       have HN:ah (ko L p (1+1)=some k):=⟨by unfold ko;rw[HX.out];dsimp only;rw[hk];dsimp only;rw[if_neg (show ¬Op.bytesLess (kV x).toList k.toList=true by unfold kV;rw[hlt];decide)]⟩
       have HK:=ah.mk hk;clear hk
       go_wp2_with fail
       go_region_held3 (fun w'=>Hd wr b1 W.heap.size 1 (p 1) (ad.add (p 1*6)) x A4 c4 A5 c5 w')
        (first|(refine iM ⟨y1,y4,r0,r1,r2,r3,r4,r5,⟨Below.refl _ _⟩⟩ ?_;(repeat (first|exact Below.refl _ _|apply av|apply bA));done)|(go_split_ands;exact iM ⟨by assumption,by assumption,by assumption,by assumption,by assumption,by assumption,by assumption,by assumption,by assumption⟩ (by assumption)))
        (first|(go_at_call 51;refine (jo x _ _ _ aj).mono ?_;rintro e w2 ⟨rfl,hb2⟩))
       go_split_ands
       go_wp2_with fail
       go_roundg (1 - 1)
       case measure=>omega
       case rel=>exact⟨1+1,by omega,by omega,by first|rfl|simp,by rw[HN.out];rfl,by rw[HN.out];rfl,⟨yD.out.below HJ.out (ah.out (by assumption))⟩⟩
      | true=>
       have HN:ah (ko L p (1+1)=some (kV x)):=⟨by unfold ko;rw[HX.out];dsimp only;rw[hk];dsimp only;rw[if_pos (show Op.bytesLess (kV x).toList k.toList=true by unfold kV;rw[hlt])]⟩
       have HK:=ah.mk hk;clear hk
       go_wp2_with fail
       go_region_held3 (fun w'=>Hd wr b1 W.heap.size 1 (p 1) (ad.add (p 1*6)) x A4 c4 A5 c5 w')
        (first|(refine iM ⟨y1,y4,r0,r1,r2,r3,r4,r5,⟨Below.refl _ _⟩⟩ ?_;(repeat (first|exact Below.refl _ _|apply av|apply bA));done)|(go_split_ands;exact iM ⟨by assumption,by assumption,by assumption,by assumption,by assumption,by assumption,by assumption,by assumption,by assumption⟩ (by assumption)))
        (first|(go_at_call 51;refine (jo x _ _ _ aj).mono ?_;rintro e w2 ⟨rfl,hb2⟩))
       go_split_ands
       go_wp2_with fail
       obtain⟨wv,hwv⟩:∃wv,w2=wv:=⟨_,rfl⟩
       subst hwv
       go_region_held3 (fun w'=>Hd wr b1 W.heap.size 1 (p 1) (ad.add (p 1*6)) x A4 c4 A5 c5 w')
        (first|(go_split_ands;refine iM ⟨by assumption,by assumption,by assumption,by assumption,by assumption,by assumption,by assumption,by assumption,by assumption⟩ ?_;first|assumption|exact bA (Below.refl _ _)))
        (first|(go_at_call 51;refine (jo x _ _ _ aj).mono ?_;rintro e w2 ⟨rfl,hb2⟩))
       go_split_ands
       go_wp2_with fail
       go_roundg (1 - 1)
       case measure=>omega
       case rel=>exact⟨1+1,by omega,by omega,by first|rfl|simp,by rw[HN.out];rfl,by rw[HN.out];rfl,⟨yD.out.below HJ.out (ah.out (by assumption))⟩⟩
    have d1:decide ((p 1:Int)<((L 1).length:Int))=false:=decide_eq_false aj;have d2:decide (p 1<(L 1).length)=false:=decide_eq_false hp
    have HN:ah (ko L p (1+1)=ko L p 1):=⟨by
     have:(L 1)[p 1]?=none:=List.getElem?_eq_none aj
     show (match (L 1)[p 1]? with|none=>ko L p 1|some x=>_)=_
     rw[this]⟩
    go_wp2_with fail
    go_quiet (fail)
    go_wp2_with fail
    go_roundg (1 - 1)
    case measure=>omega
    case rel=>exact⟨1+1,by omega,by omega,by first|rfl|simp,by rw[HN.out],by rw[HN.out],⟨yD.out.below HJ.out (by repeat (first|exact Below.refl _ _|apply av|apply bA))⟩⟩
   obtain rfl:i=2:=by omega
   have hM1:=yD.out
   cases hk:ko L p 2 with
   | none=>
    have hr:fI L gq p=[]:=by
     cases gq with
     | zero=>rfl
     | succ n=>rw[fI,hk]
    have HF:ah (∃xs,xs.map oG.rd=rs∧J xs wr):=⟨pre,by rw[hM1.rs,hr,List.append_nil],hM1.j⟩
    clear hM1 hk hr
    go_wp2_with fail
    refine bodyPost_ret (results_none rfl _ _ _) rfl ?_;exact .inl ⟨⟨_,rfl⟩,HF.out⟩
   | some k=>
    have HK:=ah.mk hk;have y2:wr.cell? ⟨b2,0,none⟩=some (.slice (some ⟨br,0,none⟩) 2 2):=ak hM1.am.x2 0;have hz:=(Below.refl wr.heap.size wr).alloc (Nat.le_refl _) (.cells #[.pointer none,.pointer none] 95);have y5:(wr.alloc (.cells #[.pointer none,.pointer none] 95)).cell? ⟨b2,0,none⟩=some (.slice (some ⟨br,0,none⟩) 2 2):=au hz y2
    have hM2:D7 L A c R b1 b2 br B W.heap.size wr.heap.size J pre p k 0 (wr.alloc (.cells #[.pointer none,.pointer none] 95)) :=
     ⟨hM1.am.below hz,p,aG hM1.at_ hz,fun j hj=>absurd hj (Nat.not_lt_zero _),fun _ _=>rfl,fun _=>.pointer none,bJ wr _,fun j hj=>absurd hj (Nat.not_lt_zero _),fun _ _=>rfl,HJ.out _ _ _ hM1.j (zl.below hz)⟩
    have MJ:=ah.mk hM2;have Yo:=ah.mk hM1.rs;have HLf:=ah.mk hM1.left;have HLe:=ah.mk hM1.le;have hhB:B≤wr.heap.size:=Nat.le_trans hM1.hB (Nat.le_of_lt (bE hM1.at_));have HaB:=ah.mk hM1.hB;clear hk hM1 hz hM2
    go_wp2_with fail
    clear y5 y2 yD
    obtain⟨wh,rfl⟩:∃wh,wh=wr:=⟨_,rfl⟩
    go_loopg [63] 2 (fun g s63 wx=>∃i:Nat,2 - i≤g∧i≤2∧s63=.int .i64 i∧ah (D7 L A c R b1 b2 br B W.heap.size wh.heap.size J pre p k i wx))
    case atStart=>exact⟨0,by omega,by omega,rfl,MJ⟩
    case round=>
     obtain⟨i,hig,hi3,rfl,K7⟩:=hrel;clear MJ;by_cases hi:i<2
     ·rcases (show i=0∨i=1 by omega) with rfl|rfl
      ·have hM3:=K7.out;obtain⟨am,q,hat,hq1,hq2,P,hP,hP1,hP2,hj⟩:=hM3;have hqi:q 0=p 0:=hq2 0 (Nat.le_refl _);have y1:wr.cell? ⟨b1,0,none⟩=some (.func (.func 51) #[] #[]):=ak am.x1 0;have y3:wr.cell? ⟨br,0,none⟩=some (.slice (A 0) (L 0).length (c 0)):=ak am.xr 0;have y4:wr.cell? ⟨W.heap.size,0,none⟩=some (.int .i64 (p 0)):=(ak hat 0).trans (by rw[← hqi];rfl);have z1:wr.cell? ⟨wh.heap.size,0,none⟩=some (.pointer none):=(ak hP 0).trans (by rw[← hP2 0 (Nat.le_refl _)];rfl);have hne:W.heap.size≠wh.heap.size:=Xc hat hP aD;by_cases hp:p 0<(L 0).length
       ·have d1:decide ((p 0:Int)<((L 0).length:Int))=true:=decide_eq_true aj;have d2:decide (p 0<(L 0).length)=true:=decide_eq_true hp;obtain⟨ad,hA,_⟩:=(R.rd _ am.low 0 aj).2.2 aj;have hoi:=PI.at_ (L:=L) (A:=A) (j:=0) hp hA;have QX:=R.rd _ am.low 0 aj;have hgx:(L 0)[p 0]?=some ((L 0)[p 0]'hp):=List.getElem?_eq_getElem hp;have hsx:=hS 0 aj _ (List.getElem_mem hp);have hlx:=hl 0 aj
        obtain⟨x,hx⟩:∃x,(L 0)[p 0]'hp=x:=⟨_,rfl⟩
        rw[hx] at hoi hgx hsx;have HOI:=ah.mk hoi;obtain⟨YE,A4,c4,A5,c5,e,r0,r1,r2,r3,r4,r5,l4,g4,l5,g5⟩:=PI.oi QX hoi
        injection e with e
        obtain rfl:=Option.some.inj e;rw[hA] at y3;have HX:=ah.mk hgx;clear hoi hx e l4 g4 l5 g5 hgx am hat hq1 hq2 hP hP1 hP2 hj hqi
        have hwp:IntKind.i64.wrap ((p 0:Int)+1)=(p 0:Int)+1:=by rw[IntKind.wrap_i64];omega
        cases he:((fV 47 0 x.f1).toList == k.toList) with
        | false=>
         have HH:ah (fG L p k 0=none):=⟨by unfold fG;rw[HX.out];dsimp only;rw[if_neg (show ¬((kV x).toList == k.toList)=true by unfold kV;rw[he];decide)]⟩
         go_wp2_with fail
         go_region_held3 (fun w'=>Hd wr b1 W.heap.size 0 (p 0) (ad.add (p 0*6)) x A4 c4 A5 c5 w')
          (first|(refine iM ⟨y1,y4,r0,r1,r2,r3,r4,r5,⟨Below.refl _ _⟩⟩ ?_;(repeat (first|exact Below.refl _ _|apply av|apply bA));done)|(go_split_ands;exact iM ⟨by assumption,by assumption,by assumption,by assumption,by assumption,by assumption,by assumption,by assumption,by assumption⟩ (by assumption)))
          (first|(go_at_call 51;refine (jo x _ _ _ aj).mono ?_;rintro e w2 ⟨rfl,hb2⟩))
         go_split_ands
         go_wp2_with fail
         go_roundg (1 - 0)
         case measure=>omega
         case rel=>exact⟨0+1,by omega,by omega,by first|rfl|simp,⟨K7.out.same HJ.out HH.out (ah.out (by assumption))⟩⟩
        | true=>
         have HH:ah (fG L p k 0=some x):=⟨by unfold fG;rw[HX.out];dsimp only;rw[if_pos (show ((kV x).toList == k.toList)=true by unfold kV;rw[he])]⟩
         go_wp2_with fail
         go_region_held3 (fun w'=>Hd wr b1 W.heap.size 0 (p 0) (ad.add (p 0*6)) x A4 c4 A5 c5 w')
          (first|(refine iM ⟨y1,y4,r0,r1,r2,r3,r4,r5,⟨Below.refl _ _⟩⟩ ?_;(repeat (first|exact Below.refl _ _|apply av|apply bA));done)|(go_split_ands;exact iM ⟨by assumption,by assumption,by assumption,by assumption,by assumption,by assumption,by assumption,by assumption,by assumption⟩ (by assumption)))
          (first|(go_at_call 51;refine (jo x _ _ _ aj).mono ?_;rintro e w2 ⟨rfl,hb2⟩))
         go_split_ands
         have HW2:ah (Below wr.heap.size wr w2):=by assumption
         obtain⟨am,q,hat,hq1,hq2,P,hP,hP1,hP2,hj⟩:=K7.out;have hP':=aG hP HW2.out;have z2:w2.cell? ⟨wh.heap.size,0,none⟩=some (.pointer none):=(ak hP' 0).trans (by rw[← hP2 0 (Nat.le_refl _)];rfl);have z3:=ay hP' 0;have hat':=iL (aG hat HW2.out) (p:=⟨wh.heap.size,0,none⟩) hne (.pointer (some (ad.add (p 0*6))));have z4:(w2.setCell ⟨wh.heap.size,0,none⟩ (.pointer (some (ad.add (p 0*6))))).cell? ⟨W.heap.size,0,none⟩=some (.int .i64 (p 0)):=(ak hat' 0).trans (by rw[← hq2 0 (Nat.le_refl _)];rfl);have z5:=ay hat' 0;clear am hat hq1 hq2 hP hP1 hP2 hj hP' hat'
         go_wp2_with fail
         go_roundg (1 - 0)
         case measure=>omega
         case rel=>exact⟨0+1,by omega,by omega,by first|rfl|simp,⟨K7.out.step aj HJ.out HH.out HW2.out HOI.out HaB.out hhB hne h0 h1 h2 h3⟩⟩
       have d1:decide ((p 0:Int)<((L 0).length:Int))=false:=decide_eq_false aj;have d2:decide (p 0<(L 0).length)=false:=decide_eq_false hp
       have HH:ah (fG L p k 0=none):=⟨by
        unfold fG
        rw[List.getElem?_eq_none aj]⟩
       clear am hat hq1 hq2 hP hP1 hP2 hj hqi
       go_wp2_with fail
       go_quiet (fail)
       go_wp2_with fail
       go_roundg (1 - 0)
       case measure=>omega
       case rel=>exact⟨0+1,by omega,by omega,by first|rfl|simp,⟨K7.out.same HJ.out HH.out (by repeat (first|exact Below.refl _ _|apply av|apply bA))⟩⟩
      have hM3:=K7.out;obtain⟨am,q,hat,hq1,hq2,P,hP,hP1,hP2,hj⟩:=hM3;have hqi:q 1=p 1:=hq2 1 (Nat.le_refl _);have y1:wr.cell? ⟨b1,0,none⟩=some (.func (.func 51) #[] #[]):=ak am.x1 0;have y3:wr.cell? ⟨br,1,none⟩=some (.slice (A 1) (L 1).length (c 1)):=ak am.xr 1;have y4:wr.cell? ⟨W.heap.size,1,none⟩=some (.int .i64 (p 1)):=(ak hat 1).trans (by rw[← hqi];rfl);have z1:wr.cell? ⟨wh.heap.size,1,none⟩=some (.pointer none):=(ak hP 1).trans (by rw[← hP2 1 (Nat.le_refl _)];rfl);have hne:W.heap.size≠wh.heap.size:=Xc hat hP aD;by_cases hp:p 1<(L 1).length
      ·have d1:decide ((p 1:Int)<((L 1).length:Int))=true:=decide_eq_true aj;have d2:decide (p 1<(L 1).length)=true:=decide_eq_true hp;obtain⟨ad,hA,_⟩:=(R.rd _ am.low 1 aj).2.2 aj;have hoi:=PI.at_ (L:=L) (A:=A) (j:=1) hp hA;have QX:=R.rd _ am.low 1 aj;have hgx:(L 1)[p 1]?=some ((L 1)[p 1]'hp):=List.getElem?_eq_getElem hp;have hsx:=hS 1 aj _ (List.getElem_mem hp);have hlx:=hl 1 aj
       obtain⟨x,hx⟩:∃x,(L 1)[p 1]'hp=x:=⟨_,rfl⟩
       rw[hx] at hoi hgx hsx;have HOI:=ah.mk hoi;obtain⟨YE,A4,c4,A5,c5,e,r0,r1,r2,r3,r4,r5,l4,g4,l5,g5⟩:=PI.oi QX hoi
       injection e with e
       obtain rfl:=Option.some.inj e;rw[hA] at y3;have HX:=ah.mk hgx;clear hoi hx e l4 g4 l5 g5 hgx am hat hq1 hq2 hP hP1 hP2 hj hqi
       have hwp:IntKind.i64.wrap ((p 1:Int)+1)=(p 1:Int)+1:=by rw[IntKind.wrap_i64];omega
       cases he:((fV 47 0 x.f1).toList == k.toList) with
       | false=>
        have HH:ah (fG L p k 1=none):=⟨by unfold fG;rw[HX.out];dsimp only;rw[if_neg (show ¬((kV x).toList == k.toList)=true by unfold kV;rw[he];decide)]⟩
        go_wp2_with fail
        go_region_held3 (fun w'=>Hd wr b1 W.heap.size 1 (p 1) (ad.add (p 1*6)) x A4 c4 A5 c5 w')
         (first|(refine iM ⟨y1,y4,r0,r1,r2,r3,r4,r5,⟨Below.refl _ _⟩⟩ ?_;(repeat (first|exact Below.refl _ _|apply av|apply bA));done)|(go_split_ands;exact iM ⟨by assumption,by assumption,by assumption,by assumption,by assumption,by assumption,by assumption,by assumption,by assumption⟩ (by assumption)))
         (first|(go_at_call 51;refine (jo x _ _ _ aj).mono ?_;rintro e w2 ⟨rfl,hb2⟩))
        go_split_ands
        go_wp2_with fail
        go_roundg (1 - 1)
        case measure=>omega
        case rel=>exact⟨1+1,by omega,by omega,by first|rfl|simp,⟨K7.out.same HJ.out HH.out (ah.out (by assumption))⟩⟩
       | true=>
        have HH:ah (fG L p k 1=some x):=⟨by unfold fG;rw[HX.out];dsimp only;rw[if_pos (show ((kV x).toList == k.toList)=true by unfold kV;rw[he])]⟩
        go_wp2_with fail
        go_region_held3 (fun w'=>Hd wr b1 W.heap.size 1 (p 1) (ad.add (p 1*6)) x A4 c4 A5 c5 w')
         (first|(refine iM ⟨y1,y4,r0,r1,r2,r3,r4,r5,⟨Below.refl _ _⟩⟩ ?_;(repeat (first|exact Below.refl _ _|apply av|apply bA));done)|(go_split_ands;exact iM ⟨by assumption,by assumption,by assumption,by assumption,by assumption,by assumption,by assumption,by assumption,by assumption⟩ (by assumption)))
         (first|(go_at_call 51;refine (jo x _ _ _ aj).mono ?_;rintro e w2 ⟨rfl,hb2⟩))
        go_split_ands
        have HW2:ah (Below wr.heap.size wr w2):=by assumption
        obtain⟨am,q,hat,hq1,hq2,P,hP,hP1,hP2,hj⟩:=K7.out;have hP':=aG hP HW2.out;have z2:w2.cell? ⟨wh.heap.size,1,none⟩=some (.pointer none):=(ak hP' 1).trans (by rw[← hP2 1 (Nat.le_refl _)];rfl);have z3:=ay hP' 1;have hat':=iL (aG hat HW2.out) (p:=⟨wh.heap.size,1,none⟩) hne (.pointer (some (ad.add (p 1*6))));have z4:(w2.setCell ⟨wh.heap.size,1,none⟩ (.pointer (some (ad.add (p 1*6))))).cell? ⟨W.heap.size,1,none⟩=some (.int .i64 (p 1)):=(ak hat' 1).trans (by rw[← hq2 1 (Nat.le_refl _)];rfl);have z5:=ay hat' 1;clear am hat hq1 hq2 hP hP1 hP2 hj hP' hat'
        go_wp2_with fail
        go_roundg (1 - 1)
        case measure=>omega
        case rel=>exact⟨1+1,by omega,by omega,by first|rfl|simp,⟨K7.out.step aj HJ.out HH.out HW2.out HOI.out HaB.out hhB hne h0 h1 h2 h3⟩⟩
      have d1:decide ((p 1:Int)<((L 1).length:Int))=false:=decide_eq_false aj;have d2:decide (p 1<(L 1).length)=false:=decide_eq_false hp
      have HH:ah (fG L p k 1=none):=⟨by
       unfold fG
       rw[List.getElem?_eq_none aj]⟩
      clear am hat hq1 hq2 hP hP1 hP2 hj hqi
      go_wp2_with fail
      go_quiet (fail)
      go_wp2_with fail
      go_roundg (1 - 1)
      case measure=>omega
      case rel=>exact⟨1+1,by omega,by omega,by first|rfl|simp,⟨K7.out.same HJ.out HH.out (by repeat (first|exact Below.refl _ _|apply av|apply bA))⟩⟩
     obtain rfl:i=2:=by omega
     go_upto_region 17 with (fail)
     obtain⟨am,q,hat,hq1,_,P,hP,hP1,_,hj⟩:=K7.out
     have ahe:wr.heap[W.heap.size]?=some (.cells #[.int .i64 (fO L p k 0),.int .i64 (fO L p k 1)] 3 (0,0)):=by
      rw[← hq1 0 aj,← hq1 1 aj];exact hat
     obtain⟨gn,hgn⟩:∃gn,gq=gn+1:=by
      cases gq with
      | zero=>
       have:=vN HK.out;have:=HLf.out;omega
      | succ n=>exact⟨n,rfl⟩
     have adS:rs=pre.map oG.rd++(k,fG L p k 0,fG L p k 1)::fI L gn (fO L p k):=by
      rw[Yo.out,hgn,fI,HK.out]
     have hgood:Tx L A rs pre ⟨k,wh.heap.size,fG L p k 0,fG L p k 1⟩ wr:=⟨⟨_,adS⟩,P 0,P 1,hP,hP1 0 aj,hP1 1 aj⟩
     obtain⟨fn,tmps,assign,body,hy,hR⟩:=HY.out pre _ wr hj hgood
     have hlf:kE L (fO L p k)≤gn:=by
      have h1:=vN HK.out;have h2:=HLf.out;omega
     have hle2:∀j,j<2→fO L p k j≤(L j).length:=fun j hj3=>by
      have h1:=HLe.out j hj3;unfold fO fG
      cases hz:(L j)[p j]? with
      | none=>
       rw[if_neg bK];exact h1
      | some x=>
       rcases Nat.lt_or_ge (p j) (L j).length with h|h
       ·have hb:∀b:Bool,(if b=true then p j+1 else p j)≤(L j).length:=fun b=>by cases b <;> simp <;> omega
        exact hb _
       rw[List.getElem?_eq_none h] at hz;cases hz
     have hmid:∀W',J (pre++[⟨k,wh.heap.size,fG L p k 0,fG L p k 1⟩]) W'→KpG R.P (fun k=>k=b1∨k=b2∨k=br) wr W'→QW L A c R b1 b2 br B W.heap.size rs J (pre++[⟨k,wh.heap.size,fG L p k 0,fG L p k 1⟩]) (fO L p k) gn W':=fun W' hj' hk'=>
      ⟨am.kp hk',hk'.nums _ _ ahe,HaB.out,hj',by rw[adS,List.map_append,List.append_assoc];rfl,hlf,hle2⟩
     have HMD:=ah.mk hmid;have hGG:=ah.mk (show gn+1=gq from hgn.symm);clear am hat hq1 hP hP1 hj ahe adS hgood hlf hle2 hmid hgn;dsimp only[encR] at hy;refine (wpIn_wide (n:=1)).1 ?_
     gi_wp2
     refine hR.mono ?_;rintro e W' (⟨rfl,hJ',hk'⟩|⟨ch,rfl,hX⟩);rotate_left
     ·exact⟨rfl,.inr ⟨ch,rfl,hX⟩⟩
     have am1:=ah.mk (HMD.out W' hJ' hk');clear hJ' hk' hR hy
     gi_wp2
     go_wp2_with fail
     go_roundg gn
     case measure=>have:=hGG.out;omega
     case rel=>exact⟨_,_,am1⟩
theorem Jl (L:Nat→List It) (A:Nat→Option Addr) (c:Nat→Nat) (w0 w:World) (b1 b2 br:Nat)
  (hL:∀i,i<2→Kd.C om w0 (A i) (L i).length (L i)) (hc:∀i,i<2→(L i).length≤c i) (hl:∀i,i<2→(L i).length≤65536) (hS:∀i,i<2→∀x∈L i,x.f1.size≤1023)
  (hx:Am L A c w0 b1 b2 br w) (h0:w0.heap.size≤w.heap.size) :
  GD Tryz.prog 87 #[.pointer (some ⟨b2,0,none⟩),.pointer (some ⟨b1,0,none⟩)] encR (Sd (fI L (kE L (fun _=>0)) (fun _=>0)) w0) (zl w.heap.size) (KpR w0.heap.size (fun k=>k=b1∨k=b2∨k=br))
   (fun xs=>xs.map oG.rd=fI L (kE L (fun _=>0)) (fun _=>0)) w:=by
 intro l J X W hW hJ hY hJ0;refine yc L A c ⟨fun W=>Below w0.heap.size w0 W,w0.heap.size,fun W h i hi=>Kd.aC (hL i hi) h,fun _ _ h hb=>h.trans (hb.mono h.size),fun B w w' hB h hs=>hs.low hB h (Nat.le_refl _)⟩ w b1 b2 br hc hl hS ⟨hx.low,hx.x1,hx.x2,hx.xr⟩ h0 l J X W hW hJ (fun pre x C hj hg=>?_) hJ0;obtain⟨h1,p0,p1,h2,h3,h4⟩:=hg;obtain⟨fn,t,as_,b,e1,e2⟩:=hY pre x C hj ⟨h1,p0,p1,h2,PI.oi (hL 0 aj) h3,PI.oi (hL 1 aj) h4⟩;refine⟨fn,t,as_,b,e1,e2.mono fun e D hh=>?_⟩
 rcases hh with⟨h1,h2,h3⟩|h
 ·exact .inl ⟨h1,h2,fun h=>h.trans h3.low,h3.same,h3.nums⟩
 exact .inr h
end Go.Proofs.YtknihldkhedpkaaGreatDoor.Two
end
section
namespace Go.Proofs.YtknihldkhedpkaaGreatDoor
open Go.RowKit
section
variable {P : Program}
theorem yg {ops:Array Oper} {Q:Exit→Act→World→Prop} {l n:Nat} (hQ:¬LetsOut Q):∀(rest:List Oper) (a:Act) (w:World),(∀o∈rest,∀c,o.op≠.defer c)→wpList P ops Q rest a w→wpListIn (Fence.wide.inRound l) n P ops Q rest a w
 | [],a,w,_,h=>h
 | o::rest,a,w,hd,h=>by
  have ih:=fun a w=>yg (l:=l) (n:=n) (ops:=ops) hQ rest a w (fun o ho=>hd o (List.mem_cons_of_mem _ ho))
  rw[wpList] at h;rw[wpListIn];by_cases hw:Region.wanted o (yielded ops a.tmps)=true
  ·rw[if_pos hw] at h ⊢
   rcases h with h|h
   ·refine⟨fun _ _=>trivial,?_⟩;rw[Oper.semAt_eq _ _ _ (hd o List.mem_cons_self)];exact xE ih h
   exact absurd h.2 hQ
  rw[if_neg hw] at h ⊢;exact⟨fun _ _=>trivial,ih _ _ h⟩
theorem uq {id:Nat} {Q:Exit→Act→World→Prop} {a:Act} {w:World} {ls:List Oper} {l n:Nat} (hd:EJ ls=true) (hQ:¬LetsOut Q)
  (h:wpList P ls.toArray Q ls a w):(Code.region id ls.toArray false).wpIn (Fence.wide.inRound l) n P Q a w:=by
 refine wpIn_region_list (yg hQ _ a w ?_ (by simpa using h));intro o ho;exact xG hd o (by simpa using ho)
end
end Go.Proofs.YtknihldkhedpkaaGreatDoor
end
section
namespace Go.Proofs.YtknihldkhedpkaaGreatDoor.PT
open Go.RowKit Go.Proofs.YtknihldkhedpkaaGreatDoor Go.Proofs.YtknihldkhedpkaaGreatDoorW.PrintWords Go.Proofs.YtknihldkhedpkaaGreatDoorW.PrintLast Go.Proofs.YtknihldkhedpkaaGreatDoorW.PrintMore
attribute [local go_sem] oJ oK rC rD mW mX oL oM
def gQ.f (dh:Int) (cO:ByteArray) (dz:ByteArray) (bX:Int) (bQ:List (dI)) (bU:List Int):Option (Int × ByteArray × ByteArray × Int × (List (dI)) × List Int):=(oC.f bQ).bind fun Du=>((jJ.f bU).bind fun Dv=>(some (dh,cO,dz,bX,Du,Dv)))
def gQ.T1:Bool × List (List Nat × List Nat):=(true,[([],[]),([0],[0]),([1],[1]),([],[]),([3],[3]),([4,2],[4]),([0,1,2,3,4],[]),([6,2,5,0,1,2,3,4],[2,6]),([0,1,2,3,4,5,6,7],[]),([8,5,7,0,1,2,3,4,5,6,7],[5,8])])
def gQ.B1:List Nat:=[0,1,3,0,8,31,31,127,255,511]
theorem gQ.am2:tJ .any (opsOf Tryz.f122 1)=gQ.T1:=by kernel_rfl
theorem gQ.ahf:vY gQ.T1.2 gQ.B1=true:=by kernel_rfl
theorem gQ.calls (dh:Int) (cO:ByteArray) (dz:ByteArray) (bX:Int) (gF:Option Addr) (eD:Nat) (bQ:List (dI)) (eB:Option Addr) (eu:Nat) (bU:List Int) (r1:Int) (r2:ByteArray) (r3:ByteArray) (r4:Int) (r5:List (dI)) (r6:List Int) (w:World) (qm:Kd.C dB w gF bQ.length bQ) (rA:bQ.length≤eD) (qK:Kd.C (Kd.int .u8) w eB bU.length bU) (tC:bU.length≤eu) (h:gQ.f dh cO dz bX bQ bU=some (r1,r2,r3,r4,r5,r6)) :
  Calls Tryz.prog 122 #[.agg #[.int .i64 dh,.string cO,.string dz,.int .i64 bX,.slice gF bQ.length eD,.slice eB bU.length eu]] w fun e w'=>∃v4_ v5_:Value,e=.returned (.agg #[.int .i64 r1,.string r2,.string r3,.int .i64 r4,v4_,v5_])∧Kd.R dB 117 w' w.heap.size (fun _=>True) v4_ r5∧Kd.R (Kd.int .u8) 5 w' w.heap.size (fun _=>True) v5_ r6∧Below w.heap.size w w':=by
 have Qq:=Tryz.underlying29;have vw:=ah.mk qm;have D6:=ah.mk rA;clear qm rA;have Bw:=ah.mk qK;have Gf:=ah.mk tC;clear qK tC;have HB:=ah.mk (Below.refl w.heap.size w);have H:((oC.f bQ).bind fun Du=>((jJ.f bU).bind fun Dv=>(some (dh,cO,dz,bX,Du,Dv))))=some (r1,r2,r3,r4,r5,r6):=h;clear h;replace H:=Option.bind_eq_some_iff.mp H;obtain⟨Du,Sz,H⟩:=H;replace H:((jJ.f bU).bind fun Dv=>(some (dh,cO,dz,bX,Du,Dv)))=some (r1,r2,r3,r4,r5,r6):=H;have A2:=ah.mk Sz;clear Sz;replace H:=Option.bind_eq_some_iff.mp H;obtain⟨Dv,SB,H⟩:=H;replace H:(some (dh,cO,dz,bX,Du,Dv))=some (r1,r2,r3,r4,r5,r6):=H;have A3:=ah.mk SB;clear SB;simp only[Option.some.injEq,Prod.mk.injEq] at H;obtain⟨rfl,rfl,rfl,rfl,rfl,rfl⟩:=H
 go_enter Tryz.func122,Tryz.ntmps122
 try go_wp2_with (first|((with_reducible refine fJ (N:=1) rfl ?_);refine fA ?hg (N:=1) ?hd (cs:=#[.int .i64 dh,.string cO,.string dz,.int .i64 bX,.slice gF bQ.length eD,.slice eB bU.length eu]) (t:=29) ?hr ?_;(case hd=>rfl);(case hg=>rfl);(case hr=>first|(go_simp;done)|(go_simp;rfl));intro kR hg w4 eH hb;have fD:=ah.mk (bO dL hb);have gy:=ah.mk (eH);have iE:=ah.mk ((by rw[hg];exact (bB dL):w.heap.size≤kR));have jS:=ah.mk ((by rw[hg];exact (bB dL):w.heap.size≤kR));clear HB;have HB:=fD;have fE:=gy;have apL:=iE;have D8:=jS;clear fD gy iE jS;clear hb eH hg)|((with_reducible refine fJ (N:=2) rfl ?_);refine fA ?hg (N:=2) ?hd (cs:=#[.int .i64 0,.string (⟨#[]⟩:ByteArray),.string (⟨#[]⟩:ByteArray),.int .i64 0,.slice none 0 0,.slice none 0 0]) (t:=29) ?hr ?_;(case hd=>rfl);(case hg=>rfl);(case hr=>first|(go_simp;done)|(go_simp;rfl));intro lU hg w5 eH hb;have fD:=ah.mk (aG (g:=kR) (o:=.cells #[.int .i64 dh,.string cO,.string dz,.int .i64 bX,.slice gF bQ.length eD,.slice eB bU.length eu] 29 (0,0)) (by (with_reducible repeat (first|refine bD ?_ _|refine bI ?_|refine aM ?_ _));exact fE.out) hb);have gy:=ah.mk (bO (by repeat (first|(with_reducible first|exact HB.out|apply aH|apply av|apply aI|refine aR ?_ D8.out)|exact HB.out)) hb);have iE:=ah.mk (eH);have jS:=ah.mk ((by rw[hg];exact (bB (by repeat (first|(with_reducible first|exact HB.out|apply aH|apply av|apply aI|refine aR ?_ D8.out)|exact HB.out))):w.heap.size≤lU));have vB:=ah.mk ((by rw[hg];exact (bB (by repeat (first|(with_reducible first|exact HB.out|apply aH|apply av|apply aI|refine aR ?_ D8.out)|exact HB.out))):w.heap.size≤lU));have zF:=ah.mk ((by rw[hg];exact Nat.ne_of_lt (bE (g:=kR) (o:=.cells #[.int .i64 dh,.string cO,.string dz,.int .i64 bX,.slice gF bQ.length eD,.slice eB bU.length eu] 29 (0,0)) (by (with_reducible repeat (first|refine bD ?_ _|refine bI ?_|refine aM ?_ _));exact fE.out)):kR≠lU));have BA:=ah.mk ((by rw[hg];exact Nat.ne_of_gt (bE (g:=kR) (o:=.cells #[.int .i64 dh,.string cO,.string dz,.int .i64 bX,.slice gF bQ.length eD,.slice eB bU.length eu] 29 (0,0)) (by (with_reducible repeat (first|refine bD ?_ _|refine bI ?_|refine aM ?_ _));exact fE.out)):lU≠kR));clear fE;clear HB;have fE:=fD;have HB:=gy;have lV:=iE;have apM:=jS;have OA:=vB;have Dw:=zF;have vE:=BA;clear fD gy iE jS vB zF BA;clear hb eH hg))
 have fD:=ah.mk (bI fE.out);have gy:=ah.mk (bI lV.out);have iE:=ah.mk (aI HB.out);clear fE;clear lV;clear HB;have fE:=fD;have lV:=gy;have HB:=iE;clear fD gy iE;refine kY (n:=10) (S:=fun w'=>w'.cell? ⟨kR,0,none⟩=some (.int .i64 dh)∧w'.cell? ⟨kR,1,none⟩=some (.string cO)∧w'.cell? ⟨kR,2,none⟩=some (.string dz)∧w'.cell? ⟨kR,3,none⟩=some (.int .i64 bX)∧w'.cell? ⟨kR,4,none⟩=some (.slice gF bQ.length eD)∧w'.cell? ⟨kR,5,none⟩=some (.slice eB bU.length eu)) (ds:=[7,9]) (aQ 10 0) aA rfl rfl ⟨(ak fE.out 0).trans rfl,(ak fE.out 1).trans rfl,(ak fE.out 2).trans rfl,(ak fE.out 3).trans rfl,(ak fE.out 4).trans rfl,(ak fE.out 5).trans rfl⟩ (fun hHeld=>?_);refine yQ gQ.am2 gQ.ahf (fun tK Xa=>?_);generalize w5.drew=w6 at fE lV HB hHeld ⊢;refine fP (i:=0) (N:=some 3) (v:=?_) (a':=?_) (aQ 10 1) rfl rfl (jE tK.out aA) (fun _ _ _ h=>h) (Or.inl ⟨by rfl,?_⟩) ?_ ?_;rotate_left
 ·intro w'
  go_simp
  with_reducible rfl
 rotate_left
 ·simp only[Act.put,aYa,aYb,aYc,dn,dA];rfl
 refine fP (i:=3) (N:=some 6) (v:=?_) (a':=?_) (aQ 10 9) rfl rfl (jE tK.out aA) (fun _ _ _ h=>h) (Or.inl ⟨by rfl,?_⟩) ?_ ?_;rotate_left
 ·intro w'
  go_simp
  with_reducible rfl
 rotate_left
 ·simp only[Act.put,aYa,aYb,aYc,dn,dA];rfl
 refine jZ (i:=1) (N:=some 4) (v:=?_) (a':=?_) (aQ 10 11) rfl rfl (qM tK.out Xa.out aA) (fun _ _ _ h=>h) (Or.inl ⟨by rfl,?_⟩) hHeld ?_ ?_;rotate_left
 ·rintro w' ⟨s0,s1,s2,s3,s4,s5⟩
  go_simp
  with_reducible rfl
 rotate_left
 ·simp only[Act.put,aYa,aYb,aYc,dn,dA];rfl
 refine jZ (i:=4) (N:=some 7) (v:=?_) (a':=?_) (aQ 10 27) rfl rfl (qM tK.out Xa.out aA) (fun _ _ _ h=>h) (Or.inl ⟨by rfl,?_⟩) hHeld ?_ ?_;rotate_left
 ·rintro w' ⟨s0,s1,s2,s3,s4,s5⟩
  go_simp
  with_reducible rfl
 rotate_left
 ·simp only[Act.put,aYa,aYb,aYc,dn,dA];rfl
 refine QT (i:=2) (N:=some 5) (aQ 10 31) rfl rfl (xX tK.out aA) aD (fun K hK=>?_);refine Gz Tryz.func91 aA rfl #[.slice gF bQ.length eD] (by rfl) rfl rfl nT ?_
 with_reducible refine (oC.calls _ _ bQ Du _ ?jy ?jA A2.out).mono ?_
 (case jy=>repeat (first|exact (Kd.aC vw.out HB.out)|(with_reducible refine Kd.eO ?_ _)|(with_reducible refine Kd.dV ?_ _)|(with_reducible refine Kd.gL ?_)))
 (case jA=>exact D6.out)
 rintro e w7 ⟨asy,rfl,ho0,hb⟩;refine⟨_,rfl,?_⟩;have fD:=ah.mk (Kd.fQ ho0 (bB (by repeat (first|(with_reducible first|exact HB.out|apply aH|apply av|apply aI|refine aR ?_ D8.out|refine aR ?_ OA.out)|exact HB.out))));have gy:=ah.mk (aG (g:=kR) (o:=.cells #[.int .i64 dh,.string cO,.string dz,.int .i64 bX,.slice gF bQ.length eD,.slice eB bU.length eu] 29 (0,0)) (by (with_reducible repeat (first|refine bD ?_ _|refine bI ?_|refine aM ?_ _));exact fE.out) hb);have iE:=ah.mk (aG (g:=lU) (o:=.cells #[.int .i64 0,.string (⟨#[]⟩:ByteArray),.string (⟨#[]⟩:ByteArray),.int .i64 0,.slice none 0 0,.slice none 0 0] 29 (0,0)) (by (with_reducible repeat (first|refine bD ?_ _|refine bI ?_|refine aM ?_ _));exact lV.out) hb);have jS:=ah.mk (bO (by repeat (first|(with_reducible first|exact HB.out|apply aH|apply av|apply aI|refine aR ?_ D8.out|refine aR ?_ OA.out)|exact HB.out)) hb);clear fE;clear lV;clear HB;have OB:=fD;have fE:=gy;have lV:=iE;have HB:=jS;clear fD gy iE jS
 (try clear hb)
 (try clear hb2)
 (try clear hk)
 (try clear hi)
 (try clear ho0)
 refine hK.out _ _ ⟨(ak fE.out 0).trans rfl,(ak fE.out 1).trans rfl,(ak fE.out 2).trans rfl,(ak fE.out 3).trans rfl,(ak fE.out 4).trans rfl,(ak fE.out 5).trans rfl⟩ (fun hHeld=>?_);clear hK K;refine fU 5 ?_;refine fP (i:=6) (N:=some 9) (v:=?_) (a':=?_) (aQ 10 95) rfl rfl (jE tK.out aA) (fun _ _ _ h=>h) (Or.inl ⟨by rfl,?_⟩) ?_ ?_;rotate_left
 ·intro w'
  go_simp
  with_reducible rfl
 rotate_left
 ·simp only[Act.put,aYa,aYb,aYc,dn,dA];rfl
 refine QT (i:=5) (N:=some 8) (aQ 10 127) rfl rfl (xX tK.out aA) aD (fun K hK=>?_);refine Gz Tryz.func143 aA rfl #[.slice eB bU.length eu] (by rfl) rfl rfl nT ?_
 with_reducible refine (jJ.calls _ _ bU Dv _ ?jy ?jA A3.out).mono ?_
 (case jy=>repeat (first|exact (Kd.aC Bw.out HB.out)|(with_reducible refine Kd.eO ?_ _)|(with_reducible refine Kd.dV ?_ _)|(with_reducible refine Kd.gL ?_)))
 (case jA=>exact Gf.out)
 rintro e w8 ⟨v193,rfl,ho0,hb⟩;refine⟨_,rfl,?_⟩;have fD:=ah.mk (Kd.dF (by (with_reducible repeat (first|apply Kd.dJ|apply Kd.dK|apply Kd.dY));exact OB.out) hb);have gy:=ah.mk (Kd.fQ ho0 (bB (by repeat (first|(with_reducible first|exact HB.out|apply aH|apply av|apply aI|refine aR ?_ D8.out|refine aR ?_ OA.out)|exact HB.out))));have iE:=ah.mk (aG (g:=kR) (o:=.cells #[.int .i64 dh,.string cO,.string dz,.int .i64 bX,.slice gF bQ.length eD,.slice eB bU.length eu] 29 (0,0)) (by (with_reducible repeat (first|refine bD ?_ _|refine bI ?_|refine aM ?_ _));exact fE.out) hb);have jS:=ah.mk (aG (g:=lU) (o:=.cells #[.int .i64 0,.string (⟨#[]⟩:ByteArray),.string (⟨#[]⟩:ByteArray),.int .i64 0,.slice none 0 0,.slice none 0 0] 29 (0,0)) (by (with_reducible repeat (first|refine bD ?_ _|refine bI ?_|refine aM ?_ _));exact lV.out) hb);have vB:=ah.mk (bO (by repeat (first|(with_reducible first|exact HB.out|apply aH|apply av|apply aI|refine aR ?_ D8.out|refine aR ?_ OA.out)|exact HB.out)) hb);clear OB;clear fE;clear lV;clear HB;have OB:=fD;have ab4:=gy;have fE:=iE;have lV:=jS;have HB:=vB;clear fD gy iE jS vB
 (try clear hb)
 (try clear hb2)
 (try clear hk)
 (try clear hi)
 (try clear ho0)
 obtain⟨Ji,Gg,Yu⟩:=Kd.bG OB.out
 (first|subst Yu|(injection Yu with f1_ f2_ f3_;have f4_:=f1_.symm;have f5_:=f3_.symm;clear f1_ f2_ f3_;subst f4_;subst f5_))
 obtain⟨Xd,Xe,ahi⟩:=Kd.bG ab4.out
 (first|subst ahi|(injection ahi with f1_ f2_ f3_;have f4_:=f1_.symm;have f5_:=f3_.symm;clear f1_ f2_ f3_;subst f4_;subst f5_))
 refine hK.out _ _ ⟨(ak fE.out 0).trans rfl,(ak fE.out 1).trans rfl,(ak fE.out 2).trans rfl,(ak fE.out 3).trans rfl,(ak fE.out 4).trans rfl,(ak fE.out 5).trans rfl⟩ (fun hHeld=>?_);clear hK K;refine fU 8 ?_;refine lS (i:=7) (N:=none) (aQ 10 255) rfl rfl (xX tK.out aA) aD (fun K hK=>?_);have asz:w8.cell? ⟨kR,4,none⟩=some (.slice gF bQ.length eD):=(ak fE.out 4).trans rfl;have apN:=ay fE.out 4;have ajF:=vE.out;have ajG:=Dw.out;refine tZ (w1:=?_) (by rfl) rfl ?_ ?_;rotate_left
 ·go_simp
  rfl
 refine hK.out _ _ ?_;clear hK K;refine fP (i:=8) (N:=some 10) (v:=?_) (a':=?_) (aQ 10 511) rfl rfl (jE tK.out aA) (fun _ _ _ h=>h) (Or.inl ⟨by rfl,?_⟩) ?_ ?_;rotate_left
 ·intro w'
  go_simp
  with_reducible rfl
 rotate_left
 ·simp only[Act.put,aYa,aYb,aYc,dn,dA];rfl
 refine lS (i:=9) (N:=none) (aQ 10 1023) rfl rfl (xX tK.out aA) aD (fun K hK=>?_);have asA:w8.cell? ⟨kR,5,none⟩=some (.slice eB bU.length eu):=(ak fE.out 5).trans rfl;have apO:=ay fE.out 5;have ajH:=vE.out;have ajI:=Dw.out;refine tZ (w1:=?_) (by rfl) rfl ?_ ?_;rotate_left
 ·go_simp
  rfl
 refine hK.out _ _ ?_;clear hK K;refine kK (EP tK.out aA) ?_;have agT:=Dw.out;have agU:=vE.out;have Ll:w8.cell? ⟨kR,0,none⟩=some (.int .i64 dh):=(ak fE.out 0).trans rfl;have Lm:w8.cell? ⟨kR,1,none⟩=some (.string cO):=(ak fE.out 1).trans rfl;have SE:w8.cell? ⟨kR,2,none⟩=some (.string dz):=(ak fE.out 2).trans rfl;have SF:w8.cell? ⟨kR,3,none⟩=some (.int .i64 bX):=(ak fE.out 3).trans rfl;have SG:w8.cell? ⟨kR,4,none⟩=some (.slice gF bQ.length eD):=(ak fE.out 4).trans rfl;have SH:w8.cell? ⟨kR,5,none⟩=some (.slice eB bU.length eu):=(ak fE.out 5).trans rfl;have Lp:=ay fE.out 0;have Lr:=ay fE.out 1;have SI:=ay fE.out 2;have SK:=ay fE.out 3;have SL:=ay fE.out 4;have SN:=ay fE.out 5;have EL:w8.cell? ⟨lU,0,none⟩=some (.int .i64 0):=(ak lV.out 0).trans rfl;have EM:w8.cell? ⟨lU,1,none⟩=some (.string (⟨#[]⟩:ByteArray)):=(ak lV.out 1).trans rfl;have Zp:w8.cell? ⟨lU,2,none⟩=some (.string (⟨#[]⟩:ByteArray)):=(ak lV.out 2).trans rfl;have Zq:w8.cell? ⟨lU,3,none⟩=some (.int .i64 0):=(ak lV.out 3).trans rfl;have Zr:w8.cell? ⟨lU,4,none⟩=some (.slice none 0 0):=(ak lV.out 4).trans rfl;have Zt:w8.cell? ⟨lU,5,none⟩=some (.slice none 0 0):=(ak lV.out 5).trans rfl;have EN:=ay lV.out 0;have EO:=ay lV.out 1;have Zu:=ay lV.out 2;have Zv:=ay lV.out 3;have Zw:=ay lV.out 4;have Zx:=ay lV.out 5
 try go_wp2
 refine bodyPost_ret (results_cell_row rfl _ _ lU 29 #[.int .i64 dh,.string cO,.string dz,.int .i64 bX,.slice Ji Du.length Gg,.slice Xd Dv.length Xe] (0,0) _ rfl (by (with_reducible repeat (first|refine bD ?_ _|refine bI ?_|refine aM ?_ _));refine iC (cs:=#[.int .i64 dh,.string cO,.string dz,.int .i64 bX,.slice Ji Du.length Gg,.slice none 0 0]) ?_ 5 _ rfl;(with_reducible repeat (first|refine bD ?_ _|refine bI ?_|refine aM ?_ _));refine iC (cs:=#[.int .i64 dh,.string cO,.string dz,.int .i64 bX,.slice none 0 0,.slice none 0 0]) ?_ 4 _ rfl;(with_reducible repeat (first|refine bD ?_ _|refine bI ?_|refine aM ?_ _));refine iC (cs:=#[.int .i64 dh,.string cO,.string dz,.int .i64 0,.slice none 0 0,.slice none 0 0]) ?_ 3 _ rfl;(with_reducible repeat (first|refine bD ?_ _|refine bI ?_|refine aM ?_ _));refine iC (cs:=#[.int .i64 dh,.string cO,.string (⟨#[]⟩:ByteArray),.int .i64 0,.slice none 0 0,.slice none 0 0]) ?_ 2 _ rfl;(with_reducible repeat (first|refine bD ?_ _|refine bI ?_|refine aM ?_ _));refine iC (cs:=#[.int .i64 dh,.string (⟨#[]⟩:ByteArray),.string (⟨#[]⟩:ByteArray),.int .i64 0,.slice none 0 0,.slice none 0 0]) ?_ 1 _ rfl;(with_reducible repeat (first|refine bD ?_ _|refine bI ?_|refine aM ?_ _));refine iC (cs:=#[.int .i64 0,.string (⟨#[]⟩:ByteArray),.string (⟨#[]⟩:ByteArray),.int .i64 0,.slice none 0 0,.slice none 0 0]) ?_ 0 _ rfl;(with_reducible repeat (first|refine bD ?_ _|refine bI ?_|refine aM ?_ _));refine iL ?_ vE.out _;(with_reducible repeat (first|refine bD ?_ _|refine bI ?_|refine aM ?_ _));refine iL ?_ vE.out _;(with_reducible repeat (first|refine bD ?_ _|refine bI ?_|refine aM ?_ _));exact lV.out) Tryz.underlying29 rfl aA) rfl ?_;exact⟨_,_,by first|rfl|(simp[aX,aY] <;> rfl)|(simp[*,aX,aY] <;> rfl),by (with_reducible repeat (first|apply Kd.dJ|apply Kd.dK|apply Kd.dY));exact Kd.dU (Kd.jK (p:=⟨lU,5,none⟩) (Kd.jK (p:=⟨lU,4,none⟩) (Kd.jK (p:=⟨lU,3,none⟩) (Kd.jK (p:=⟨lU,2,none⟩) (Kd.jK (p:=⟨lU,1,none⟩) (Kd.jK (p:=⟨lU,0,none⟩) (Kd.jK (p:=⟨kR,5,none⟩) (Kd.jK (p:=⟨kR,4,none⟩) (Kd.pz (Kd.pz OB.out fE.out aD) lV.out aD) (fun _ hk=>hk.1.2) (.slice Ji Du.length Gg)) (fun _ hk=>hk.1.2) (.slice Xd Dv.length Xe)) (fun _ hk=>hk.2) (.int .i64 dh)) (fun _ hk=>hk.2) (.string cO)) (fun _ hk=>hk.2) (.string dz)) (fun _ hk=>hk.2) (.int .i64 bX)) (fun _ hk=>hk.2) (.slice Ji Du.length Gg)) (fun _ hk=>hk.2) (.slice Xd Dv.length Xe)) (fun _ hk=>trivial),by (with_reducible repeat (first|apply Kd.dJ|apply Kd.dK|apply Kd.dY));exact Kd.dU (Kd.jK (p:=⟨lU,5,none⟩) (Kd.jK (p:=⟨lU,4,none⟩) (Kd.jK (p:=⟨lU,3,none⟩) (Kd.jK (p:=⟨lU,2,none⟩) (Kd.jK (p:=⟨lU,1,none⟩) (Kd.jK (p:=⟨lU,0,none⟩) (Kd.jK (p:=⟨kR,5,none⟩) (Kd.jK (p:=⟨kR,4,none⟩) (Kd.pz (Kd.pz ab4.out fE.out aD) lV.out aD) (fun _ hk=>hk.1.2) (.slice Ji Du.length Gg)) (fun _ hk=>hk.1.2) (.slice Xd Dv.length Xe)) (fun _ hk=>hk.2) (.int .i64 dh)) (fun _ hk=>hk.2) (.string cO)) (fun _ hk=>hk.2) (.string dz)) (fun _ hk=>hk.2) (.int .i64 bX)) (fun _ hk=>hk.2) (.slice Ji Du.length Gg)) (fun _ hk=>hk.2) (.slice Xd Dv.length Xe)) (fun _ hk=>trivial),by repeat (first|(with_reducible first|exact HB.out|apply aH|apply av|apply aI|refine aR ?_ D8.out|refine aR ?_ OA.out)|exact HB.out)⟩
end Go.Proofs.YtknihldkhedpkaaGreatDoor.PT
end
