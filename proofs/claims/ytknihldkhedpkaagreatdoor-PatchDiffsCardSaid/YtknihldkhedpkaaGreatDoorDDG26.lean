import Derived.Test.YtknihldkhedpkaaGreatDoorDDG18
import Derived.Test.YtknihldkhedpkaaGreatDoorDDG23
import Derived.Test.YtknihldkhedpkaaGreatDoorDDG21
import Derived.Test.YtknihldkhedpkaaGreatDoorDDG25
import Derived.Test.YtknihldkhedpkaaGreatDoorDDG15
set_option linter.all false
set_option maxHeartbeats 16000000
set_option maxRecDepth 100000
section
namespace Go.Proofs.YtknihldkhedpkaaGreatDoor
open Go.RowKit
open Go.Lib hiding bytesOf bytesOf_length bytesOf_take
open Go.Proofs.YtknihldkhedpkaaGreatDoorW.PrintWords Go.Proofs.YtknihldkhedpkaaGreatDoorW.PrintLast Go.Proofs.YtknihldkhedpkaaGreatDoor.PT
def RpD (a b:List It) (w:World) (e:Ending) (w':World):Prop:=Below w.heap.size w w'∧∃v,e=.returned (.tuple #[v,.int .i64 (oI a b).2])∧Kd.R (Kd.int .u8) 5 w' w.heap.size (fun _=>True) v (oI a b).1
theorem Yt {a b:List It} {w w':World} {n:Int} (h:oI a b=([],n)) (hb:Below w.heap.size w w'):RpD a b w (.returned (.tuple #[.slice none 0 0,.int .i64 n])) w':=⟨hb,.slice none 0 0,by rw[h],by rw[h];exact Kd.eD _ _ _ _ _⟩
structure Vm (w:World) (pb:Nat) (b0 g0:Int) (va:Value) (ps:List ByteArray) (S:List Ch) (W:World):Prop where
 di:DI w w.heap.size pb b0 g0 S W
 all:Kd.R Kd.string 9 W w.heap.size (fun _=>True) va ps
 hp:w.heap.size≤pb
section
variable {w W W1 : World} {pb : Nat} {b0 g0 : Int} {va : Value} {ps : List ByteArray} {S : List Ch}
theorem Vm.below (h:Vm w pb b0 g0 va ps S W) (hb:Below W.heap.size W W1):Vm w pb b0 g0 va ps S W1:=⟨h.di.below hb,Kd.bO h.all hb,h.hp⟩
theorem Vm.push {c:Ch} {v v1:Value} (h:Vm w pb b0 g0 va ps S W) (hv:W.heap[pb]?=some (.cells #[.int .i64 b0,.int .i64 g0,v] 24 (0,0))) (hr:Kd.R (uj w) 31 W w.heap.size (fun _=>True) v S)
  (hr1:Kd.R (uj w) 31 W1 w.heap.size (fun _=>True) v1 (S++[c])) (hg:W.grownBy W1 v.ownBlock):Vm w pb b0 g0 va ps (S++[c]) (W1.setCell ⟨pb,2,none⟩ v1):=by
 have hb:=(hg.block _ (bG hv) (gX hr hv (fun cs e=>by injection e with _ e;exact absurd e aH))).trans hv;exact⟨h.di.push hv hr hr1 hg (Nat.le_refl _) h.hp,Kd.oK (Kd.K3 h.all hr (by intro q hq;simp[Kd.string,Kd.scalar] at hq;subst hq;decide) hg) hb (by intro q hq;simp[Kd.string,Kd.scalar] at hq;subst hq;decide) 2 v1,h.hp⟩
end
theorem Vn {w:World} {b:Nat} {l0 l1:List It} {A0 A1:Option Addr} {c0 c1:Nat} (hk:w.heap[b]?=some (.cells #[.slice A0 l0.length c0,.slice A1 l1.length c1] 25 (0,0))) (hr0:Kd.C mV w A0 l0.length l0) (hc0:l0.length≤c0) (hr1:Kd.C mV w A1 l1.length l1) (hc1:l1.length≤c1) :
  Kd.C (Kd.slice 29 mV) w (some ⟨b,0,none⟩) 2 [l0,l1]:=by
 refine⟨rfl,by decide,fun _=>⟨_,rfl,fun j p hj=>?_⟩⟩
 rcases j with _|_|j
 ·obtain rfl:l0=p:=by simpa using hj
  refine⟨[.slice A0 l0.length c0],rfl,⟨A0,c0,rfl,hc0,hr0⟩,fun i x hx=>?_⟩
  obtain⟨rfl,rfl⟩:i=0∧Value.slice A0 l0.length c0=x:=by cases i with|zero=>exact⟨rfl,by simpa using hx⟩|succ i=>simp at hx
  exact ak hk 0
 ·obtain rfl:l1=p:=by simpa using hj
  refine⟨[.slice A1 l1.length c1],rfl,⟨A1,c1,rfl,hc1,hr1⟩,fun i x hx=>?_⟩
  obtain⟨rfl,rfl⟩:i=0∧Value.slice A1 l1.length c1=x:=by cases i with|zero=>exact⟨rfl,by simpa using hx⟩|succ i=>simp at hx
  exact ak hk 1
 simp at hj
theorem Lu (a b:List It) (ps:List ByteArray) (i:Nat) (hi:i<ps.length):jQ a b (ps.take (i+1))=jQ a b (ps.take i)++(nk ps[i] (stP a ps[i]) (stP b ps[i])).toList:=by
 unfold jQ;rw[List.take_succ_eq_append_getElem hi,List.flatMap_append];simp
theorem xR (a b:List It):∀ps:List ByteArray,(jQ a b ps).length≤ps.length
 | []=>Nat.le_refl _
 | p::ps=>by
  have ih:=xR a b ps;unfold jQ at ih ⊢;rw[List.flatMap_cons,List.length_append,List.length_cons]
  have:(nk p (stP a p) (stP b p)).toList.length≤1:=by cases nk p (stP a p) (stP b p) <;> simp
  omega
theorem N9 {l:List It} (hz:(dI l).2=0) (hf:l.all rH=true) (q:ByteArray) (h1:(stP l q).f0=1):Fits (stP l q)∧∃most ax,dL most (-1) 0 (stP l q).f4=some ax:=by
 unfold stP at h1 ⊢
 cases hs:st l (bs (bY 47 0 q)) with
 | none=>rw[hs] at h1;exact absurd h1 aH
 | some x=>
  rw[hs] at h1;have hm:=(yg hs).1;have hfl:=FN (iY hz).2 x hm h1;refine⟨um hz hf x hm h1,(x.f3+511) / 512,?_⟩
  show ∃ax,dL ((x.f3+511) / 512) (-1) 0 x.f4=some ax
  unfold dW at hfl;split at hfl
  ·cases hfl
  cases hr:gy x.f3 (-1) 0 x.f4 with
  | none=>rw[hr] at hfl;cases hfl
  | some p=>
   cases ha:dL ((x.f3+511) / 512) (-1) 0 x.f4 with
   | none=>rw[(Ae x.f3 x.f4 (-1) 0 aj).1.2 ha] at hr;cases hr
   | some a=>exact⟨a,rfl⟩
theorem aaW {a b:List It} (ha:(dI a).2=0) (hb:(dI b).2=0):oI a b=jC (ji (dI a).1) (ji (dI b).1) (qC a b):=by
 unfold oI;rw[if_neg (fun h=>h ha),if_neg (fun h=>h hb)]
theorem QW (A0:Option Addr) (c0:Nat) (old:List It) (A1:Option Addr) (c1:Nat) (goal:List It) (w:World)
  (hr0:Kd.C mV w A0 old.length old) (hc0:old.length≤c0) (hr1:Kd.C mV w A1 goal.length goal) (hc1:goal.length≤c1) (co:Came old) (cg:Came goal) :
  Calls Tryz.prog 12 #[.slice A0 old.length c0,.slice A1 goal.length c1] w fun e w'=>RpD old goal w e w':=by
 have S0:=ah.mk (fun (W:World) (hW:Below w.heap.size w W)=>J2 A0 c0 old W (Kd.aC hr0 hW) hc0 co.fit co.all (by have:=co.n;omega));have S1:=ah.mk (fun (W:World) (hW:Below w.heap.size w W)=>J2 A1 c1 goal W (Kd.aC hr1 hW) hc1 cg.fit cg.all (by have:=cg.n;omega));have nC:=ah.mk hr0;have HR1:=ah.mk hr1;clear hr0 hr1;by_cases hz0:(dI old).2=0
 ·by_cases hz1:(dI goal).2=0
  ·have hm:=aaW hz0 hz1;have hs0:=S0.out w (Below.refl _ _);have hs1:=S1.out;rw[hz0,if_pos rfl] at hs0;simp only[hz1,if_true] at hs1;have ra:=sO (iY hz0).2;have rb:=sO (iY hz1).2;have hla:=(iY hz0).1;have hlb:=(iY hz1).1;obtain⟨kp,hkp⟩:=(XZ ra rb aj aj).rounds
   have hvp:∀q∈(oG old goal).map (fun r=>bY 0 47 r.1),Vp q:=fun q hq=>by
    obtain⟨r,hr,rfl⟩:=List.mem_map.1 hq;exact (J5 (iY hz0).2 (iY hz1).2 hr).1
   have hpl:((oG old goal).map (fun r=>bY 0 47 r.1)).length≤8192:=by
    have h1:=Two.length (L:=jw old goal) (Two.jL (jw old goal) (fun _=>0)) (fun _=>0);have h2:Two.jL (jw old goal) (fun _=>0)=old.length+goal.length:=rfl;rw[List.length_map]
    show (Two.eO _ _ _).length≤_
    omega
   have hrd:=QN (iY hz0).2 (iY hz1).2;have hft:∀c∈qC old goal,wX c:=xY hz0 hz1 co.all cg.all _ [] (fun r hr=>Two.here hr) bB
   obtain⟨ps,hps⟩:∃ps,(oG old goal).map (fun r=>bY 0 47 r.1)=ps:=⟨_,rfl⟩
   rw[hps] at hkp hvp hpl hrd
   obtain⟨b0,hb0⟩:∃b,ji (dI old).1=b:=⟨_,rfl⟩
   obtain⟨g0,hg0⟩:∃b,ji (dI goal).1=b:=⟨_,rfl⟩
   rw[hb0] at hs0 hm;rw[hg0] at hs1 hm;have V5:=ah.mk hs0;have su:=ah.mk hs1;have HM:=ah.mk hm;have HKP:=ah.mk hkp;have HVP:=ah.mk hvp;have CW:=ah.mk hrd;have HFT:=ah.mk hft;have RA:=ah.mk ra;have RB:=ah.mk rb;have HZ:=ah.mk (And.intro hz0 hz1);have HCM:=ah.mk (And.intro co cg);clear S0 S1 hs0 hs1 hm hkp hvp hrd hft ra rb hz0 hz1 co cg hps hb0 hg0;have Cn:=ah.mk True.intro
   go_enter Tryz.func12,Tryz.ntmps12
   go_upto_region 7 with (first
    | (have _t:=Cn;go_at_call 28;refine V5.out.mono ?_;rintro e w1 ⟨rfl,hb⟩;have HB1:=ah.mk hb;clear hb;clear Cn)
    | (go_at_call 28;refine (su.out _ HB1.out).mono ?_;rintro e w2 ⟨rfl,hb⟩;have HB2:=ah.mk (HB1.out.trans (hb.mono HB1.out.size));clear hb))
   clear HB1 V5 su
   go_upto_region 8 with (fail)
   have hba:=HB2.out.alloc HB2.out.size (.cells #[.int .i64 b0,.int .i64 g0,.slice none 0 0] 24);have hbk:=bF w2 (.cells #[.int .i64 b0,.int .i64 g0,.slice none 0 0] 24)
   obtain⟨W3,hW3⟩:∃W3,w2.alloc (.cells #[.int .i64 b0,.int .i64 g0,.slice none 0 0] 24)=W3:=⟨_,rfl⟩
   obtain⟨pb,hpb⟩:∃pb,w2.heap.size=pb:=⟨_,rfl⟩
   have hwp:w.heap.size≤pb:=hpb▸HB2.out.size;rw[hW3,hpb] at hbk;rw[hW3] at hba;rw[hW3,hpb];have hb4:=hba.alloc hba.size (.cells #[.slice A0 old.length c0,.slice A1 goal.length c1] 25);have hk4:=bF W3 (.cells #[.slice A0 old.length c0,.slice A1 goal.length c1] 25);have hx4:=aN hbk (.cells #[.slice A0 old.length c0,.slice A1 goal.length c1] 25);have hpa:=PT.aA.calls kp (some ⟨W3.heap.size,0,none⟩) 2 [old,goal] ps _ (Vn hk4 (Kd.aC nC.out hb4) hc0 (Kd.aC HR1.out hb4) hc1) (Nat.le_refl _) HKP.out;have HPA:=ah.mk hpa;have iM:=ah.mk hb4;have IL:=ah.mk hx4;clear hba hbk hW3 hpb hb4 hk4 hx4 hpa HB2 HKP
   go_upto_region 9 with (go_at_call 35;refine HPA.out.mono ?_;rintro e w5 ⟨v5,rfl,yR,hb5⟩;obtain⟨Av,cv,hv5⟩:=Kd.bP yR;subst hv5;have HD5:=ah.mk (show Vm w pb b0 g0 (.slice Av ps.length cv) ps [] w5 from⟨⟨iM.out.trans (hb5.mono iM.out.size),(iM.out.trans (hb5.mono iM.out.size)).size,_,aJ IL.out hb5,Kd.eD _ _ _ _ _⟩,Kd.gD yR iM.out.size,hwp⟩);clear yR hb5)
   clear HPA iM IL
   go_wp2_with fail
   go_loopg [12] ps.length (fun g s12 wx=>∃i:Nat,i+g=ps.length∧s12=.int .i64 i∧ah (Vm w pb b0 g0 (.slice Av ps.length cv) ps (jQ old goal (ps.take i)) wx))
   case atStart=>exact⟨0,by omega,rfl,⟨HD5.out⟩⟩
   case round=>
    clear HD5;obtain⟨i,hig,rfl,HD⟩:=hrel;by_cases hi:i<ps.length
    ·have d1:decide ((i:Int)<(ps.length:Int))=true:=decide_eq_true aj;have d2:decide (i<ps.length)=true:=decide_eq_true hi;obtain⟨ad,hA,r0⟩:=Kd.lX (Kd.bU HD.out.all).2.2 (i:Int) aj aj
     have aiT:mP ByteArray.empty ps (i:Int)=ps[i]:=by simp[mP,hi]
     have hvq:=HVP.out ps[i] (List.getElem_mem hi);have hsn:=Lu old goal ps i hi;have hln:=xR old goal (ps.take i);rw[List.length_take] at hln
     obtain⟨q,hq⟩:∃q,ps[i]=q:=⟨_,rfl⟩
     rw[aiT,hq,Int.toNat_natCast] at r0;rw[hq] at hvq hsn;subst hA
     obtain⟨x,hx⟩:∃x,stP old q=x:=⟨_,rfl⟩
     obtain⟨y,hy⟩:∃y,stP goal q=y:=⟨_,rfl⟩
     obtain⟨S,hS⟩:∃S,jQ old goal (ps.take i)=S:=⟨_,rfl⟩
     have hsa:=Eo w A0 c0 old q wr nC.out hc0 HD.out.di.low RA.out hvq aj
     have hsb:=fun (W:World) (hW:Below w.heap.size w W)=>Eo w A1 c1 goal q W HR1.out hc1 hW RB.out hvq aj
     have hkx:x.f0=1→Fits x∧∃most ax,dL most (-1) 0 x.f4=some ax:=fun h1=>hx▸N9 HZ.out.1 HCM.out.1.all q (hx▸h1)
     have hky:y.f0=1→Fits y:=fun h1=>hy▸(N9 HZ.out.2 HCM.out.2.all q (hy▸h1)).1
     rw[hx] at hsa hsn;simp only[hy] at hsb hsn;rw[hS] at hsn hln HD;have OP:=ah.mk hsa;have IZ:=ah.mk hsb;have HSN:=ah.mk hsn;have an7:=ah.mk hkx;have an8:=ah.mk hky;have p0:(0≤(i:Int))=True:=eq_true aj;have p1:((i:Int)<(ps.length:Int))=True:=eq_true aj;clear aiT hvq hsn hsa hsb hx hy hS hq hkx hky
     go_upto_region 13 with (go_at_call 36;refine OP.out.mono ?_;rintro e w6 ⟨⟨X4,rZ,X5,sj,rfl,lx4,gx4,lx5,gx5⟩,hb6⟩;have GX4:=ah.mk gx4;have GX5:=ah.mk gx5;have oD:=ah.mk hb6;clear gx4 gx5 hb6)
     have zQ:=(Below.refl w6.heap.size w6).alloc (Nat.le_refl _) (.cells #[.int .i64 x.f0,.string x.f1,.string x.f2,.int .i64 x.f3,.slice X4 x.f4.length rZ,.slice X5 x.f5.length sj] 29);have GQ:=bF w6 (.cells #[.int .i64 x.f0,.string x.f1,.string x.f2,.int .i64 x.f3,.slice X4 x.f4.length rZ,.slice X5 x.f5.length sj] 29)
     obtain⟨W7,hW7⟩:∃W7,w6.alloc (.cells #[.int .i64 x.f0,.string x.f1,.string x.f2,.int .i64 x.f3,.slice X4 x.f4.length rZ,.slice X5 x.f5.length sj] 29)=W7:=⟨_,rfl⟩
     obtain⟨k1,hk1⟩:∃k1,w6.heap.size=k1:=⟨_,rfl⟩
     have r7:=au (oD.out.trans (zQ.mono oD.out.size)) r0;have hd7:=(HD.out.below oD.out).below zQ;rw[hW7,hk1] at GQ;rw[hW7] at r7 hd7;rw[hW7,hk1];have HD7:=ah.mk hd7;have HK7:=ah.mk GQ;clear zQ GQ hW7 hk1 hd7 r0 oD OP HD
     go_upto_region 15 with (go_at_call 36;refine (IZ.out _ HD7.out.di.low).mono ?_;rintro e w8 ⟨⟨Y4,kD,Y5,lJ,rfl,ly4,gy4,ly5,gy5⟩,Fe⟩;have Zj:=ah.mk gy4;have GY5:=ah.mk gy5;have Ec:=ah.mk Fe;clear gy4 gy5 Fe)
     have K7:=(Below.refl w8.heap.size w8).alloc (Nat.le_refl _) (.cells #[.int .i64 y.f0,.string y.f1,.string y.f2,.int .i64 y.f3,.slice Y4 y.f4.length kD,.slice Y5 y.f5.length lJ] 29);have hk9:=bF w8 (.cells #[.int .i64 y.f0,.string y.f1,.string y.f2,.int .i64 y.f3,.slice Y4 y.f4.length kD,.slice Y5 y.f5.length lJ] 29)
     obtain⟨W9,V3⟩:∃W9,w8.alloc (.cells #[.int .i64 y.f0,.string y.f1,.string y.f2,.int .i64 y.f3,.slice Y4 y.f4.length kD,.slice Y5 y.f5.length lJ] 29)=W9:=⟨_,rfl⟩
     obtain⟨k2,hk2⟩:∃k2,w8.heap.size=k2:=⟨_,rfl⟩
     have aaY:=Ec.out.trans (K7.mono Ec.out.size);have r9:=au aaY r7;have Uf:=HD7.out.below aaY;have hx9:=aJ HK7.out aaY;rw[V3,hk2] at hk9;rw[V3] at r9 Uf hx9;rw[V3,hk2];have HD9:=ah.mk Uf;have HKX:=ah.mk hx9;have aaZ:=ah.mk hk9;have hsa:=fu.calls x.f0 x.f1 x.f2 x.f3 X4 rZ x.f4 X5 sj x.f5 y.f0 y.f1 y.f2 y.f3 Y4 kD y.f4 Y5 lJ y.f5 (rV x y) W9 (Kd.aC GX4.out Uf.di.low) lx4 (Kd.aC GX5.out Uf.di.low) lx5 (Kd.aC Zj.out Uf.di.low) ly4 (Kd.aC GY5.out Uf.di.low) ly5 rfl;have IJ:=ah.mk hsa;clear K7 hk9 V3 hk2 aaY Uf hx9 r7 hsa Ec IZ HD7 HK7;have LX:=ah.mk (And.intro lx4 lx5)
     obtain⟨sm,hsm⟩:∃b,rV x y=b:=⟨_,rfl⟩
     rw[hsm] at IJ;have as1:=HSN
     cases sm with
     | true=>
      have HSQ:ah (jQ old goal (ps.take (i+1))=S):=⟨by rw[HSN.out];unfold nk;rw[if_pos hsm];simp⟩
      clear hsm HSN
      go_upto_region 11 with (first
       | (refine eX (.load 29 (.tmp 13)) rfl ?_;refine wpList_load_row rfl _ _ rfl k1 rfl 29 #[.int .i64 x.f0,.string x.f1,.string x.f2,.int .i64 x.f3,.slice X4 x.f4.length rZ,.slice X5 x.f5.length sj] (0,0) _ HKX.out Tryz.underlying29 rfl aD ?_)
       | (refine eX (.load 29 (.tmp 14)) rfl ?_;refine wpList_load_row rfl _ _ rfl k2 rfl 29 #[.int .i64 y.f0,.string y.f1,.string y.f2,.int .i64 y.f3,.slice Y4 y.f4.length kD,.slice Y5 y.f5.length lJ] (0,0) _ aaZ.out Tryz.underlying29 rfl aD ?_)
       | (go_at_call 37;refine IJ.out.mono ?_;rintro e Fh ⟨rfl,Oa⟩;have HDG:=ah.mk (show Vm w pb b0 g0 (.slice (some ad) ps.length cv) ps (jQ old goal (ps.take (i+1))) Fh by rw[HSQ.out];exact HD9.out.below Oa);clear Oa))
      clear r9
      go_wp2_with fail
      go_roundg (ps.length - (i+1))
      case measure=>omega
      case rel=>exact⟨i+1,by omega,by first|rfl|(push_cast;rfl)|simp,HDG⟩
     | false=>
      go_upto_region 16 with (first
       | (refine eX (.load 29 (.tmp 13)) rfl ?_;refine wpList_load_row rfl _ _ rfl k1 rfl 29 #[.int .i64 x.f0,.string x.f1,.string x.f2,.int .i64 x.f3,.slice X4 x.f4.length rZ,.slice X5 x.f5.length sj] (0,0) _ HKX.out Tryz.underlying29 rfl aD ?_)
       | (refine eX (.load 29 (.tmp 14)) rfl ?_;refine wpList_load_row rfl _ _ rfl k2 rfl 29 #[.int .i64 y.f0,.string y.f1,.string y.f2,.int .i64 y.f3,.slice Y4 y.f4.length kD,.slice Y5 y.f5.length lJ] (0,0) _ aaZ.out Tryz.underlying29 rfl aD ?_)
       | (go_at_call 37;refine IJ.out.mono ?_;rintro e Fh ⟨rfl,Oa⟩;have aa1:=ah.mk (HD9.out.below Oa);have QX:=ah.mk (aJ HKX.out Oa);have Lv:=ah.mk (aJ aaZ.out Oa);have r10:=au Oa r9;clear Oa))
      clear r9 HD9 HKX aaZ IJ;have x0:Fh.cell? ⟨k1,0,none⟩=some (.int .i64 x.f0):=ak QX.out 0;have y0:Fh.cell? ⟨k2,0,none⟩=some (.int .i64 y.f0):=ak Lv.out 0;by_cases hy0:y.f0=0
      ·have b0':(y.f0 == 0)=true:=beq_iff_eq.2 hy0
       have HSQ:ah (jQ old goal (ps.take (i+1))=S++[⟨1,⟨0,q,⟨#[]⟩,0,[],[]⟩,[]⟩]):=⟨by rw[HSN.out];unfold nk;rw[if_neg (by rw[hsm];decide),if_pos hy0];rfl⟩
       clear hsm hy0 HSN
       go_wp2_with fail
       clear x0 y0;have hdr:=bf (Below.refl Fh.heap.size Fh)
       obtain⟨Wd,hWd⟩:∃Wd,Fh.drew=Wd:=⟨_,rfl⟩
       rw[hWd] at hdr;have Ml:=ah.mk (aa1.out.below hdr);obtain⟨va,hva,hra⟩:=Ml.out.di.box;obtain⟨Au,nu,cu,hvu⟩:=fU hra;subst hvu;have qA:=ah.mk hva;have rE:=ah.mk hra;have z2:Wd.cell? ⟨pb,2,none⟩=some (.slice Au nu cu):=ak hva 2
       have hS:Wd.cell? ⟨pb,2,none⟩=some (.slice Au nu cu)∧Wd.cell? (ad.add i)=some (.string q):=⟨z2,au hdr r10⟩
       have IZ:=ah.mk (show ∀W':World,(W'.cell? ⟨pb,2,none⟩=some (.slice Au nu cu)∧W'.cell? (ad.add i)=some (.string q))→∀{W''},Below W'.heap.size W' W''→(W''.cell? ⟨pb,2,none⟩=some (.slice Au nu cu)∧W''.cell? (ad.add i)=some (.string q)) from fun W' h W'' hb=>by
        obtain⟨s0,s1⟩:=h
        exact⟨au hb s0,au hb s1⟩)
       have DU:=Ml;have Ls:=ah.mk (oH (w0:=w) (w:=Wd) (base:=w.heap.size) (ok:=fun _=>False) (x:=⟨1,⟨0,q,⟨#[]⟩,0,[],[]⟩,[]⟩) (Kd.jr (Kd.eD _ _ _ _ _)) (Kd.jr (Kd.eD _ _ _ _ _)) (Kd.jr (Kd.eD _ _ _ _ _)));clear hdr hva hra z2;refine jJ (n:=12) (S:=fun w'=>w'.cell? ⟨pb,2,none⟩=some (.slice Au nu cu)∧w'.cell? (ad.add i)=some (.string q)) (ds:=[9,11]) (aM 12 0) aD rfl rfl (by rw[hWd];exact hS) (fun hHeld=>?_);rw[hWd] at hHeld ⊢;clear hWd hS;refine bA 0 73 (aM 12 1) ?_;refine gG 1 74 (aM 12 3) rfl hHeld (by rintro w' ⟨s0,s1⟩;go_simp;with_reducible rfl) ?_;refine bA 2 75 (aM 12 7) ?_;refine bA 3 76 (aM 12 15) ?_;refine bA 4 77 (aM 12 31) ?_;refine gG 5 78 (aM 12 63) rfl hHeld (by rintro w' ⟨s0,s1⟩;go_simp;with_reducible rfl) ?_;refine bA 6 79 (aM 12 127) ?_;refine bA 7 80 (aM 12 255) ?_;refine mD 8 (some 81) (aM 12 511) (fun K hK=>?_);refine pW (v:=.slice (some ⟨Wd.heap.size,0,none⟩) 1 1) (w1:=Wd.alloc (.cells #[.int .i64 1,.int .i64 0,.string q,.string ⟨#[]⟩,.int .i64 0,.slice none 0 0,.slice none 0 0,.slice none 0 0] 31)) (by rfl) rfl ?_ ?_
       ·go_simp
        try rfl
       have hal:=(Below.refl Wd.heap.size Wd).alloc (Nat.le_refl _) (.cells #[.int .i64 1,.int .i64 0,.string q,.string ⟨#[]⟩,.int .i64 0,.slice none 0 0,.slice none 0 0,.slice none 0 0] 31);refine hK.out _ _ (IZ.out _ hHeld hal) (fun hHeld=>?_);clear hK K hal;refine fH 81 ?_;refine kX (i:=9) (N:=some 82) (aM 12 1023) rfl rfl aD aH (fun K hK=>?_);refine Kd.gU (uj w) (w0:=Wd) w.heap.size (by rfl) (.tmp 74) (.tmp 81) 22 31 (.agg #[.int .i64 0,.int .i64 0,.string ⟨#[]⟩,.string ⟨#[]⟩,.int .i64 0,.slice none 0 0,.slice none 0 0,.slice none 0 0]) 128 rfl Tryz.underlying22 tX rfl (by show 0<8;decide) aH (.slice Au nu cu) S ⟨1,⟨0,q,⟨#[]⟩,0,[],[]⟩,[]⟩ [.int .i64 1,.int .i64 0,.string q,.string ⟨#[]⟩,.int .i64 0,.slice none 0 0,.slice none 0 0,.slice none 0 0] (fun _=>True) (fun _=>False) rfl rfl Ls.out (fun _ h=>h.elim) (fun _ _=>trivial) rE.out ((Below.refl _ _).mono DU.out.di.big) DU.out.di.big aj ?_;intro v1 w1 hr1 _hb hg1 qd;have hbx:=(hg1.block _ (bG qA.out) (gX rE.out qA.out (fun cs e=>by injection e with _ e;exact absurd e aH))).trans qA.out;have ER:=ah.mk (DU.out.push qA.out rE.out hr1 hg1);obtain⟨wP,DV,wQ,hv1⟩:=fU hr1;subst hv1;have QU:w1.cell? ⟨pb,2,none⟩=some (.slice Au nu cu):=ak hbx 2;have f10:=ay hbx 2;have l10:=bG hbx;clear hr1 _hb hg1 qd hbx;refine hK.out _ _ ?_;clear hK K hHeld;refine fH 82 ?_;refine bA 10 83 (aM 12 2047) ?_;refine kX (i:=11) (N:=none) (aM 12 4095) rfl rfl aD aH (fun K hK=>?_);refine rG (w1:=w1.setCell ⟨pb,2,none⟩ (.slice wP DV wQ)) (by rfl) rfl ?_ ?_
       ·go_simp
       refine hK.out _ _ ?_;clear hK K;refine jK aD ?_;have HDG:=ah.mk (show Vm w pb b0 g0 (.slice (some ad) ps.length cv) ps (jQ old goal (ps.take (i+1))) (w1.setCell ⟨pb,2,none⟩ (.slice wP DV wQ)) by rw[HSQ.out];exact ER.out);clear ER QU f10 l10
       go_wp2_with fail
       go_roundg (ps.length - (i+1))
       case measure=>omega
       case rel=>exact⟨i+1,by omega,by first|rfl|(push_cast;rfl)|simp,HDG⟩
      have b0':(y.f0 == 0)=false:=beq_eq_false_iff_ne.2 hy0;by_cases hb:x.f0=1∧y.f0=1
      ·have b1:(x.f0 == 1)=true:=beq_iff_eq.2 hb.1;have b2:(y.f0 == 1)=true:=beq_iff_eq.2 hb.2
       have HSQ:ah (jQ old goal (ps.take (i+1))=S++[uh x y]):=⟨by rw[HSN.out];unfold nk;rw[if_neg (by rw[hsm];decide),if_neg hy0,if_pos hb];rfl⟩
       obtain⟨hfx,most,ax,hax⟩:=an7.out hb.1;have P8:=ah.mk hfx;have HFY:=ah.mk (an8.out hb.2);have HAX:=ah.mk hax;clear hsm hy0 hb HSN hfx hax
       go_wp2_with fail
       clear x0 y0;have hdr:=bf (Below.refl Fh.heap.size Fh)
       obtain⟨Wd,hWd⟩:∃Wd,Fh.drew=Wd:=⟨_,rfl⟩
       rw[hWd] at hdr;have Ml:=ah.mk (aa1.out.below hdr);obtain⟨va,hva,hra⟩:=Ml.out.di.box;obtain⟨Au,nu,cu,hvu⟩:=fU hra;subst hvu;have qA:=ah.mk hva;have rE:=ah.mk hra;have z2:Wd.cell? ⟨pb,2,none⟩=some (.slice Au nu cu):=ak hva 2
       have hS:Wd.cell? ⟨pb,2,none⟩=some (.slice Au nu cu)∧Wd.cell? ⟨k1,0,none⟩=some (.int .i64 x.f0)∧Wd.cell? ⟨k1,1,none⟩=some (.string x.f1)∧Wd.cell? ⟨k1,2,none⟩=some (.string x.f2)∧Wd.cell? ⟨k1,3,none⟩=some (.int .i64 x.f3)∧Wd.cell? ⟨k1,4,none⟩=some (.slice X4 x.f4.length rZ)∧Wd.cell? ⟨k1,5,none⟩=some (.slice X5 x.f5.length sj)∧Wd.cell? ⟨k2,0,none⟩=some (.int .i64 y.f0)∧Wd.cell? ⟨k2,1,none⟩=some (.string y.f1)∧Wd.cell? ⟨k2,2,none⟩=some (.string y.f2)∧Wd.cell? ⟨k2,3,none⟩=some (.int .i64 y.f3)∧Wd.cell? ⟨k2,4,none⟩=some (.slice Y4 y.f4.length kD)∧Wd.cell? ⟨k2,5,none⟩=some (.slice Y5 y.f5.length lJ):=⟨z2,au hdr (ak QX.out 0),au hdr (ak QX.out 1),au hdr (ak QX.out 2),au hdr (ak QX.out 3),au hdr (ak QX.out 4),au hdr (ak QX.out 5),au hdr (ak Lv.out 0),au hdr (ak Lv.out 1),au hdr (ak Lv.out 2),au hdr (ak Lv.out 3),au hdr (ak Lv.out 4),au hdr (ak Lv.out 5)⟩
       have IZ:=ah.mk (show ∀W':World,(W'.cell? ⟨pb,2,none⟩=some (.slice Au nu cu)∧W'.cell? ⟨k1,0,none⟩=some (.int .i64 x.f0)∧W'.cell? ⟨k1,1,none⟩=some (.string x.f1)∧W'.cell? ⟨k1,2,none⟩=some (.string x.f2)∧W'.cell? ⟨k1,3,none⟩=some (.int .i64 x.f3)∧W'.cell? ⟨k1,4,none⟩=some (.slice X4 x.f4.length rZ)∧W'.cell? ⟨k1,5,none⟩=some (.slice X5 x.f5.length sj)∧W'.cell? ⟨k2,0,none⟩=some (.int .i64 y.f0)∧W'.cell? ⟨k2,1,none⟩=some (.string y.f1)∧W'.cell? ⟨k2,2,none⟩=some (.string y.f2)∧W'.cell? ⟨k2,3,none⟩=some (.int .i64 y.f3)∧W'.cell? ⟨k2,4,none⟩=some (.slice Y4 y.f4.length kD)∧W'.cell? ⟨k2,5,none⟩=some (.slice Y5 y.f5.length lJ))→∀{W''},Below W'.heap.size W' W''→(W''.cell? ⟨pb,2,none⟩=some (.slice Au nu cu)∧W''.cell? ⟨k1,0,none⟩=some (.int .i64 x.f0)∧W''.cell? ⟨k1,1,none⟩=some (.string x.f1)∧W''.cell? ⟨k1,2,none⟩=some (.string x.f2)∧W''.cell? ⟨k1,3,none⟩=some (.int .i64 x.f3)∧W''.cell? ⟨k1,4,none⟩=some (.slice X4 x.f4.length rZ)∧W''.cell? ⟨k1,5,none⟩=some (.slice X5 x.f5.length sj)∧W''.cell? ⟨k2,0,none⟩=some (.int .i64 y.f0)∧W''.cell? ⟨k2,1,none⟩=some (.string y.f1)∧W''.cell? ⟨k2,2,none⟩=some (.string y.f2)∧W''.cell? ⟨k2,3,none⟩=some (.int .i64 y.f3)∧W''.cell? ⟨k2,4,none⟩=some (.slice Y4 y.f4.length kD)∧W''.cell? ⟨k2,5,none⟩=some (.slice Y5 y.f5.length lJ)) from fun W' h W'' hb=>by
        obtain⟨s0,s1,s2,s3,s4,s5,s6,s7,s8,s9,s10,s11,s12⟩:=h
        exact⟨au hb s0,au hb s1,au hb s2,au hb s3,au hb s4,au hb s5,au hb s6,au hb s7,au hb s8,au hb s9,au hb s10,au hb s11,au hb s12⟩)
       skip
       clear hdr hva hra z2;refine jJ (n:=9) (S:=fun w'=>w'.cell? ⟨pb,2,none⟩=some (.slice Au nu cu)∧w'.cell? ⟨k1,0,none⟩=some (.int .i64 x.f0)∧w'.cell? ⟨k1,1,none⟩=some (.string x.f1)∧w'.cell? ⟨k1,2,none⟩=some (.string x.f2)∧w'.cell? ⟨k1,3,none⟩=some (.int .i64 x.f3)∧w'.cell? ⟨k1,4,none⟩=some (.slice X4 x.f4.length rZ)∧w'.cell? ⟨k1,5,none⟩=some (.slice X5 x.f5.length sj)∧w'.cell? ⟨k2,0,none⟩=some (.int .i64 y.f0)∧w'.cell? ⟨k2,1,none⟩=some (.string y.f1)∧w'.cell? ⟨k2,2,none⟩=some (.string y.f2)∧w'.cell? ⟨k2,3,none⟩=some (.int .i64 y.f3)∧w'.cell? ⟨k2,4,none⟩=some (.slice Y4 y.f4.length kD)∧w'.cell? ⟨k2,5,none⟩=some (.slice Y5 y.f5.length lJ)) (ds:=[6,8]) (aM 9 0) aD rfl rfl (by rw[hWd];exact hS) (fun hHeld=>?_);rw[hWd] at hHeld ⊢;clear hWd hS;refine bA 0 93 (aM 9 1) ?_;refine gG 1 94 (aM 9 3) rfl hHeld (by rintro w' ⟨s0,s1,s2,s3,s4,s5,s6,s7,s8,s9,s10,s11,s12⟩;go_simp;with_reducible rfl) ?_;refine gG 2 95 (aM 9 7) rfl hHeld (by rintro w' ⟨s0,s1,s2,s3,s4,s5,s6,s7,s8,s9,s10,s11,s12⟩;go_simp;with_reducible rfl) ?_;refine gG 3 96 (aM 9 15) rfl hHeld (by rintro w' ⟨s0,s1,s2,s3,s4,s5,s6,s7,s8,s9,s10,s11,s12⟩;go_simp;with_reducible rfl) ?_;refine mD 4 (some 97) (aM 9 31) (fun K hK=>?_);refine mW Tryz.func38 #[.agg #[.int .i64 x.f0,.string x.f1,.string x.f2,.int .i64 x.f3,.slice X4 x.f4.length rZ,.slice X5 x.f5.length sj],.agg #[.int .i64 y.f0,.string y.f1,.string y.f2,.int .i64 y.f3,.slice Y4 y.f4.length kD,.slice Y5 y.f5.length lJ]] ?_;have hlw:=Ml.out.di.low;refine (K6 x y X4 rZ X5 sj Y4 kD Y5 lJ Wd P8.out HFY.out most ax HAX.out lx4 (Kd.aC GX4.out hlw) lx5 (Kd.aC GX5.out hlw) ly4 (Kd.aC Zj.out hlw) ly5 (Kd.aC GY5.out hlw)).mono ?_;rintro e Wz ⟨v6,v7,rfl,h6,h7,hbz⟩;refine⟨_,rfl,?_⟩;have Yp:=ah.mk (show ∀k,Wd.heap.size≤k→True∧some k≠(Value.slice Au nu cu).ownBlock from fun k hk=>⟨trivial,fun e=>by have:=Kd.H7 rE.out k e.symm;omega⟩);have HVY:=ah.mk (aJ qA.out hbz);have HRY:=ah.mk (Kd.bO rE.out hbz);have DU:=ah.mk (Ml.out.below hbz);have Ls:=ah.mk (oH (w0:=w) (w:=Wz) (base:=w.heap.size) (ok:=fun k=>Wd.heap.size≤k) (x:=uh x y) (Kd.mH ly4 Zj.out) (Kd.jr (Kd.gD (Kd.dX (Kd.ig h6) (fun k hk=>hk.2.1)) Ml.out.di.big)) (Kd.jr (Kd.gD (Kd.dX (Kd.ig h7) (fun k hk=>hk.2.1)) Ml.out.di.big)));refine hK.out _ _ (IZ.out _ hHeld hbz) (fun hHeld=>?_);clear hK K h6 h7 hbz hlw qA rE;have qA:=HVY;have rE:=HRY;clear HVY HRY;refine fH 97 ?_;refine mD 5 (some 98) (aM 9 63) (fun K hK=>?_);refine pW (v:=.slice (some ⟨Wz.heap.size,0,none⟩) 1 1) (w1:=Wz.alloc (.cells #[.int .i64 3,.int .i64 1,.string y.f1,.string ⟨#[]⟩,.int .i64 y.f3,.slice Y4 y.f4.length kD,v6,v7] 31)) (by rfl) rfl ?_ ?_
       ·go_simp
        try rfl
       have hal:=(Below.refl Wz.heap.size Wz).alloc (Nat.le_refl _) (.cells #[.int .i64 3,.int .i64 1,.string y.f1,.string ⟨#[]⟩,.int .i64 y.f3,.slice Y4 y.f4.length kD,v6,v7] 31);refine hK.out _ _ (IZ.out _ hHeld hal) (fun hHeld=>?_);clear hK K hal;refine fH 98 ?_;refine kX (i:=6) (N:=some 99) (aM 9 127) rfl rfl aD aH (fun K hK=>?_);refine Kd.gU (uj w) (w0:=Wz) w.heap.size (by rfl) (.tmp 94) (.tmp 98) 22 31 (.agg #[.int .i64 0,.int .i64 0,.string ⟨#[]⟩,.string ⟨#[]⟩,.int .i64 0,.slice none 0 0,.slice none 0 0,.slice none 0 0]) 128 rfl Tryz.underlying22 tX rfl (by show 0<8;decide) aH (.slice Au nu cu) S (uh x y) [.int .i64 3,.int .i64 1,.string y.f1,.string ⟨#[]⟩,.int .i64 y.f3,.slice Y4 y.f4.length kD,v6,v7] (fun _=>True) (fun k=>Wd.heap.size≤k) rfl rfl Ls.out Yp.out (fun _ _=>trivial) rE.out ((Below.refl _ _).mono DU.out.di.big) DU.out.di.big aj ?_;intro v1 w1 hr1 _hb hg1 qd;have hbx:=(hg1.block _ (bG qA.out) (gX rE.out qA.out (fun cs e=>by injection e with _ e;exact absurd e aH))).trans qA.out;have ER:=ah.mk (DU.out.push qA.out rE.out hr1 hg1);obtain⟨wP,DV,wQ,hv1⟩:=fU hr1;subst hv1;have QU:w1.cell? ⟨pb,2,none⟩=some (.slice Au nu cu):=ak hbx 2;have f10:=ay hbx 2;have l10:=bG hbx;clear hr1 _hb hg1 qd hbx;refine hK.out _ _ ?_;clear hK K hHeld;refine fH 99 ?_;refine bA 7 100 (aM 9 255) ?_;refine kX (i:=8) (N:=none) (aM 9 511) rfl rfl aD aH (fun K hK=>?_);refine rG (w1:=w1.setCell ⟨pb,2,none⟩ (.slice wP DV wQ)) (by rfl) rfl ?_ ?_
       ·go_simp
       refine hK.out _ _ ?_;clear hK K;refine jK aD ?_;have HDG:=ah.mk (show Vm w pb b0 g0 (.slice (some ad) ps.length cv) ps (jQ old goal (ps.take (i+1))) (w1.setCell ⟨pb,2,none⟩ (.slice wP DV wQ)) by rw[HSQ.out];exact ER.out);clear ER QU f10 l10
       go_wp2_with fail
       go_roundg (ps.length - (i+1))
       case measure=>omega
       case rel=>exact⟨i+1,by omega,by first|rfl|(push_cast;rfl)|simp,HDG⟩
      have hb3:(x.f0 == 1)=true∧(y.f0 == 1)=false∨(x.f0 == 1)=false:=by
       by_cases h1:x.f0=1
       ·exact .inl ⟨beq_iff_eq.2 h1,beq_eq_false_iff_ne.2 (fun h2=>hb ⟨h1,h2⟩)⟩
       exact .inr (beq_eq_false_iff_ne.2 h1)
      have HSQ:ah (jQ old goal (ps.take (i+1))=S++[⟨2,y,[]⟩]):=⟨by rw[HSN.out];unfold nk;rw[if_neg (by rw[hsm];decide),if_neg hy0,if_neg hb];rfl⟩
      clear hsm hy0 hb HSN
      rcases hb3 with⟨b1,b2⟩|b1
      ·go_upto_region 14 with (fail)
       clear x0 y0;have DU:=aa1;obtain⟨va,hva,hra⟩:=DU.out.di.box;obtain⟨Au,nu,cu,hvu⟩:=fU hra;subst hvu;have qA:=ah.mk hva;have rE:=ah.mk hra;have z2:Fh.cell? ⟨pb,2,none⟩=some (.slice Au nu cu):=ak hva 2;have Ls:=ah.mk (oH (w0:=w) (w:=Fh) (base:=w.heap.size) (ok:=fun _=>False) (x:=⟨2,y,[]⟩) (Kd.mH ly4 Zj.out) (Kd.mH ly5 GY5.out) (Kd.jr (Kd.eD _ _ _ _ _)));clear hva hra
       go_upto_region 11 with (first
        | (refine eX (.load 29 (.tmp 14)) rfl ?_;refine wpList_load_row rfl _ _ rfl k2 rfl 29 #[.int .i64 y.f0,.string y.f1,.string y.f2,.int .i64 y.f3,.slice Y4 y.f4.length kD,.slice Y5 y.f5.length lJ] (0,0) _ Lv.out Tryz.underlying29 rfl aD ?_)
        | ((with_reducible refine bQ (b:=.append) (xs:=#[.tmp 59,.tmp 62]) rfl ?_);at_builtin;refine Kd.gJ (uj w) (w0:=w) w.heap.size rfl (.tmp 59) (.tmp 62) 22 31 (.agg #[.int .i64 0,.int .i64 0,.string ⟨#[]⟩,.string ⟨#[]⟩,.int .i64 0,.slice none 0 0,.slice none 0 0,.slice none 0 0]) 128 rfl Tryz.underlying22 tX rfl (by show 0<8;decide) aH (.slice Au nu cu) S ⟨2,y,[]⟩ [.int .i64 2,.int .i64 y.f0,.string y.f1,.string y.f2,.int .i64 y.f3,.slice Y4 y.f4.length kD,.slice Y5 y.f5.length lJ,.slice none 0 0] (fun _=>True) (fun _=>False) rfl rfl Ls.out (fun _ h=>h.elim) (fun _ _=>trivial) rE.out DU.out.di.low DU.out.di.big aj ?_;intro v1 w1 hr1 _hb hg1 qd;have hbx:=(hg1.block _ (bG qA.out) (gX rE.out qA.out (fun cs e=>by injection e with _ e;exact absurd e aH))).trans qA.out;have ER:=ah.mk (DU.out.push qA.out rE.out hr1 hg1);obtain⟨wP,DV,wQ,hv1⟩:=fU hr1;subst hv1;have QU:w1.cell? ⟨pb,2,none⟩=some (.slice Au nu cu):=ak hbx 2;have f10:=ay hbx 2;have l10:=bG hbx;clear hr1 _hb hg1 qd hbx z2))
       have HDG:=ah.mk (show Vm w pb b0 g0 (.slice (some ad) ps.length cv) ps (jQ old goal (ps.take (i+1))) (w1.setCell ⟨pb,2,none⟩ (.slice wP DV wQ)) by rw[HSQ.out];exact ER.out);clear ER QU f10 l10
       go_wp2_with fail
       go_roundg (ps.length - (i+1))
       case measure=>omega
       case rel=>exact⟨i+1,by omega,by first|rfl|(push_cast;rfl)|simp,HDG⟩
      go_upto_region 14 with (fail)
      clear x0 y0;have DU:=aa1;obtain⟨va,hva,hra⟩:=DU.out.di.box;obtain⟨Au,nu,cu,hvu⟩:=fU hra;subst hvu;have qA:=ah.mk hva;have rE:=ah.mk hra;have z2:Fh.cell? ⟨pb,2,none⟩=some (.slice Au nu cu):=ak hva 2;have Ls:=ah.mk (oH (w0:=w) (w:=Fh) (base:=w.heap.size) (ok:=fun _=>False) (x:=⟨2,y,[]⟩) (Kd.mH ly4 Zj.out) (Kd.mH ly5 GY5.out) (Kd.jr (Kd.eD _ _ _ _ _)));clear hva hra
      go_upto_region 11 with (first
       | (refine eX (.load 29 (.tmp 14)) rfl ?_;refine wpList_load_row rfl _ _ rfl k2 rfl 29 #[.int .i64 y.f0,.string y.f1,.string y.f2,.int .i64 y.f3,.slice Y4 y.f4.length kD,.slice Y5 y.f5.length lJ] (0,0) _ Lv.out Tryz.underlying29 rfl aD ?_)
       | ((with_reducible refine bQ (b:=.append) (xs:=#[.tmp 59,.tmp 62]) rfl ?_);at_builtin;refine Kd.gJ (uj w) (w0:=w) w.heap.size rfl (.tmp 59) (.tmp 62) 22 31 (.agg #[.int .i64 0,.int .i64 0,.string ⟨#[]⟩,.string ⟨#[]⟩,.int .i64 0,.slice none 0 0,.slice none 0 0,.slice none 0 0]) 128 rfl Tryz.underlying22 tX rfl (by show 0<8;decide) aH (.slice Au nu cu) S ⟨2,y,[]⟩ [.int .i64 2,.int .i64 y.f0,.string y.f1,.string y.f2,.int .i64 y.f3,.slice Y4 y.f4.length kD,.slice Y5 y.f5.length lJ,.slice none 0 0] (fun _=>True) (fun _=>False) rfl rfl Ls.out (fun _ h=>h.elim) (fun _ _=>trivial) rE.out DU.out.di.low DU.out.di.big aj ?_;intro v1 w1 hr1 _hb hg1 qd;have hbx:=(hg1.block _ (bG qA.out) (gX rE.out qA.out (fun cs e=>by injection e with _ e;exact absurd e aH))).trans qA.out;have ER:=ah.mk (DU.out.push qA.out rE.out hr1 hg1);obtain⟨wP,DV,wQ,hv1⟩:=fU hr1;subst hv1;have QU:w1.cell? ⟨pb,2,none⟩=some (.slice Au nu cu):=ak hbx 2;have f10:=ay hbx 2;have l10:=bG hbx;clear hr1 _hb hg1 qd hbx z2))
      have HDG:=ah.mk (show Vm w pb b0 g0 (.slice (some ad) ps.length cv) ps (jQ old goal (ps.take (i+1))) (w1.setCell ⟨pb,2,none⟩ (.slice wP DV wQ)) by rw[HSQ.out];exact ER.out);clear ER QU f10 l10
      go_wp2_with fail
      go_roundg (ps.length - (i+1))
      case measure=>omega
      case rel=>exact⟨i+1,by omega,by first|rfl|(push_cast;rfl)|simp,HDG⟩
    obtain rfl:i=ps.length:=by omega
    have d1:decide ((ps.length:Int)<(ps.length:Int))=false:=decide_eq_false aj;have d2:decide (ps.length<ps.length)=false:=decide_eq_false hi;have hd:=HD.out;rw[List.take_length,CW.out] at hd;obtain⟨v,hv,FI⟩:=hd.di.box;have hft:=HFT.out;have hm:=HM.out
    obtain⟨D,hD⟩:∃D,qC old goal=D:=⟨_,rfl⟩
    rw[hD] at hd hft FI hm;obtain⟨Ac,cc,hvs⟩:=Kd.bP FI;subst hvs;obtain⟨_,hle,hcv⟩:=Kd.bU FI;have hpk:=QM b0 g0 Ac cc D wr (Kd.Yr (dm:=uj w) (d:=EA) rfl (fun x cs h=>Ji hd.di.low h) hcv) hle hft
    obtain⟨⟨r1,r2⟩,hq⟩:∃q,jC b0 g0 D=q:=⟨_,rfl⟩
    unfold RpC at hpk;rw[hq] at hm hpk;have EZ:=ah.mk hm;have Ya:=ah.mk hpk;have HV:=ah.mk hv;have HL:=ah.mk hd.di.low;clear hd FI hft hm hD hcv hpk hq hv HD
    go_wp2_with (first
     | (refine eX (.load 24 (.tmp 10)) rfl ?_;refine wpList_load_row rfl _ _ rfl pb rfl 24 _ (0,0) _ HV.out Tryz.underlying24 rfl aD ?_)
     | (go_at_call 14;refine Ya.out.mono ?_;rintro e Dq ⟨aiU,v11,rfl,aiV⟩;have aa2:=ah.mk aiU;have aa3:=ah.mk aiV;clear aiU aiV))
    go_ret2
    refine⟨HL.out.trans (aa2.out.mono HL.out.size),v11,(by rw[EZ.out];rfl),(by rw[EZ.out];exact Kd.gD aa3.out HL.out.size)⟩
  obtain⟨e0,he0⟩:∃e,(dI goal).2=e:=⟨_,rfl⟩
  have HM:=ah.mk (show oI old goal=([],e0) by unfold oI;rw[if_neg (fun h=>h hz0),if_pos hz1,he0]);have hs:=S0.out w (Below.refl _ _)
  have hs1:=fun W hW=>S1.out W hW
  rw[hz0,if_pos rfl] at hs;simp only[he0] at hs1;rw[he0] at hz1;simp only[if_neg hz1] at hs1;have hb2:(e0 != 0)=true:=bne_iff_ne.2 hz1;have HS:=ah.mk hs;have su:=ah.mk hs1;clear S0 S1 hs hs1 he0 hz0 hz1 co cg;have Cn:=ah.mk True.intro
  go_enter Tryz.func12,Tryz.ntmps12
  go_wp2_with (first
   | (have _t:=Cn;go_at_call 28;refine HS.out.mono ?_;rintro e w1 ⟨rfl,hb⟩;have HB1:=ah.mk hb;clear hb;clear Cn)
   | (go_at_call 28;refine (su.out _ HB1.out).mono ?_;rintro e w2 ⟨rfl,hb⟩;have HB2:=ah.mk (HB1.out.trans (hb.mono HB1.out.size));clear hb))
  go_ret2
  exact Yt HM.out HB2.out
 obtain⟨e0,he0⟩:∃e,(dI old).2=e:=⟨_,rfl⟩
 have HM:=ah.mk (show oI old goal=([],e0) by unfold oI;rw[if_pos hz0,he0]);have hs:=S0.out w (Below.refl _ _);rw[he0] at hz0 hs;rw[if_neg hz0] at hs;have hb2:(e0 != 0)=true:=bne_iff_ne.2 hz0;have HS:=ah.mk hs;clear S0 S1 hs he0 hz0 co cg
 go_enter Tryz.func12,Tryz.ntmps12
 go_wp2_with (go_at_call 28;refine HS.out.mono ?_;rintro e w1 ⟨rfl,hb⟩;have HB1:=ah.mk hb;clear hb)
 go_ret2
 exact Yt HM.out HB1.out
end Go.Proofs.YtknihldkhedpkaaGreatDoor
end
section
namespace Go.Proofs.YtknihldkhedpkaaGreatDoor
open Go.RowKit Go.Lib
open Go.Proofs.YtknihldkhedpkaaGreatDoorW.PrintWords Go.Proofs.YtknihldkhedpkaaGreatDoorW.PrintLast Go.Proofs.YtknihldkhedpkaaGreatDoor.PT
theorem J6 {A:Option Addr} {c:Nat} {l:List It} {w:World} (hr:Kd.C mV w A l.length l) (hc:l.length≤c) (h:Came l):Calls Tryz.prog 19 #[.slice A l.length c] w fun e w'=>∃v,e=.returned v∧Kd.S mV 29 w' w.heap.size (fun _=>True) v l∧Below w.heap.size w w' :=
 let ⟨k,hk⟩:=Ev.rounds (WY l h)
 cK.calls k A c l l w hr hc hk
theorem J7 {A A1:Option Addr} {c c1:Nat} {l:List It} {w:World} (hr:Kd.C mV w A l.length l) (hc:l.length≤c) (hr1:Kd.C mV w A1 l.length l) (hc1:l.length≤c1) (h:l.length<9223372036854775807):Calls Tryz.prog 24 #[.slice A l.length c,.slice A1 l.length c1] w fun e w'=>e=.returned (.bool true)∧Below w.heap.size w w' :=
 let ⟨k,hk⟩:=Ev.rounds (KW l h)
 aX.calls k A c l A1 c1 l true w hr hc hr1 hc1 hk
theorem Vo {A A1:Option Addr} {c c1:Nat} {l:List Int} {w:World} (hr:Kd.C (Kd.int .u8) w A l.length l) (hc:l.length≤c) (hr1:Kd.C (Kd.int .u8) w A1 l.length l) (hc1:l.length≤c1):Calls Tryz.prog 25 #[.slice A l.length c,.slice A1 l.length c1] w fun e w'=>e=.returned (.bool true)∧Below w.heap.size w w' :=
 (dF.calls A c l A1 c1 l true w hr hc hr1 hc1 (by unfold dF.f;simp)).mono fun e w' ⟨h,n,hn⟩=>⟨h,hn▸av (Below.refl _ _) n⟩
theorem Yu (n:Int) (w:World):Calls Tryz.prog 21 #[.int .i64 n] w fun e w'=>e=.returned (.int .i64 n)∧Below w.heap.size w w' :=
 (bV.calls n n w rfl).mono fun e w' ⟨h,n,hn⟩=>⟨h,hn▸av (Below.refl _ _) n⟩
end Go.Proofs.YtknihldkhedpkaaGreatDoor
end
