import Derived.Test.YtknihldkhedpkaaGreatDoorDDG11
import Derived.Test.YtknihldkhedpkaaGreatDoorDDG9
set_option linter.all false
set_option maxHeartbeats 16000000
set_option maxRecDepth 100000
section
namespace Go.Proofs.YtknihldkhedpkaaGreatDoor
open Go.RowKit Go.Lib
open Go.Proofs.YtknihldkhedpkaaGreatDoorW.PrintWords Go.Proofs.YtknihldkhedpkaaGreatDoorW.PrintLast Go.Proofs.YtknihldkhedpkaaGreatDoor.PT
theorem Df:∀(l o:List Ru),dO l o=true→∀r∈l,∃q∈o,r.f1≤q.f1
 | [],o,_,r,hr=>by cases hr
 | a::l,o,h,r,hr=>by
  rw[dO] at h
  obtain⟨s,hs⟩:∃s,o.dropWhile (fun q=>decide (q.f1<a.f1))=s:=⟨_,rfl⟩
  have hsub:∀q∈s,q∈o:=fun q hq=>(List.dropWhile_suffix _).subset (hs▸hq)
  rw[hs] at h
  cases s with
  | nil=>cases h
  | cons q s=>
   dsimp only at h;split at h
   ·cases h
   rcases List.mem_cons.1 hr with rfl|hr
   ·refine⟨q,hsub q bB,?_⟩;have hd:=List.head?_dropWhile_not (fun q:Ru=>decide (q.f1<r.f1)) o;rw[hs] at hd;simp at hd;exact hd
   obtain⟨q2,h2,h3⟩:=Df l _ h r hr;exact⟨q2,hsub q2 h2,h3⟩
theorem Ph {c:sF} {n m:Int} (h:jk c.f1=some n) (ha:iw c.f2 16522=some m) (hw:dO c.f2 c.f1.f4=true) (hd:(c.f1.f5.length:Int)=m*512) :
  (∀r∈c.f2,0≤r.f1∧r.f1≤1048576)∧0≤c.f1.f3∧c.f1.f3≤1099511627776∧Ea c.f2 c.f1.f3≤c.f1.f5.length:=by
 obtain⟨h0,h1,h2⟩:=xk h;obtain⟨a1,a2,a3,a4⟩:=uz h2 aj;obtain⟨b1,b2,b3,b4⟩:=uz ha aj;refine⟨fun r hr=>by have:=b4 r hr;omega,h0,by omega,?_⟩
 cases hn:c.f2.length with
 | zero=>
  rw[List.length_eq_zero_iff.1 hn]
  show (0:Int)≤_
  omega
 | succ k=>
  rw[zN hn];obtain⟨q,hq,hle⟩:=Df _ _ hw (c.f2[k]'aj) (List.getElem_mem _);have h3:=a4 q hq;have h4:=b2 (fun e=>by rw[e] at hn;cases hn);omega
theorem MK {l:List Ru} {m:Int} (ha:iw l 16522=some m):0≤m∧m≤20000:=by
 obtain⟨b1,b2,b3,b4⟩:=uz ha aj
 by_cases hl:l=[]
 ·rw[hl] at ha;have h3:(some (0:Int))=some m:=ha;cases h3;omega
 have:=b3 hl;omega
theorem UH (c:sF) (A4:Option Addr) (c4:Nat) (A5:Option Addr) (c5:Nat) (A6:Option Addr) (c6:Nat) (w:World) (h4:Kd.C dw w A4 c.f1.f4.length c.f1.f4) (l4:c.f1.f4.length≤c4) (h5:Kd.C (Kd.int .u8) w A5 c.f1.f5.length c.f1.f5) (l5:c.f1.f5.length≤c5)
  (h6:Kd.C dw w A6 c.f2.length c.f2) (l6:c.f2.length≤c6) (hl4:c.f1.f4.length≤140737488351232) (hl5:c.f1.f5.length≤140737488351232) (ML:c.f2.length≤140737488351232) :
  Calls Tryz.prog 102 #[.agg #[.int .i64 c.f0,.int .i64 c.f1.f0,.string c.f1.f1,.string c.f1.f2,.int .i64 c.f1.f3,.slice A4 c.f1.f4.length c4,.slice A5 c.f1.f5.length c5,.slice A6 c.f2.length c6]] w fun e w'=>e=.returned (.bool (ko c))∧Below w.heap.size w w':=by
 obtain⟨Y,hY⟩:∃Y,#[Value.int .i64 c.f0,.int .i64 c.f1.f0,.string c.f1.f1,.string c.f1.f2,.int .i64 c.f1.f3,.slice A4 c.f1.f4.length c4,.slice A5 c.f1.f5.length c5,.slice A6 c.f2.length c6]=Y:=⟨_,rfl⟩
 obtain⟨W1,hW1⟩:∃W1,w.alloc (.cells Y 31)=W1:=⟨_,rfl⟩
 have hbx:=bF w (.cells Y 31);have hb0:=(Below.refl w.heap.size w).alloc (Nat.le_refl _) (.cells Y 31);rw[hW1] at hbx hb0
 have z1:W1.cell? ⟨w.heap.size,1,none⟩=some (.int .i64 c.f1.f0):=by rw[ak hbx,← hY];rfl
 have z2:W1.cell? ⟨w.heap.size,2,none⟩=some (.string c.f1.f1):=by rw[ak hbx,← hY];rfl
 have z3:W1.cell? ⟨w.heap.size,3,none⟩=some (.string c.f1.f2):=by rw[ak hbx,← hY];rfl
 have z4:W1.cell? ⟨w.heap.size,4,none⟩=some (.int .i64 c.f1.f3):=by rw[ak hbx,← hY];rfl
 have z5:W1.cell? ⟨w.heap.size,5,none⟩=some (.slice A4 c.f1.f4.length c4):=by rw[ak hbx,← hY];rfl
 have z6:W1.cell? ⟨w.heap.size,6,none⟩=some (.slice A5 c.f1.f5.length c5):=by rw[ak hbx,← hY];rfl
 have z7:W1.cell? ⟨w.heap.size,7,none⟩=some (.slice A6 c.f2.length c6):=by rw[ak hbx,← hY];rfl
 have hY8:Y.size=8:=by rw[← hY];rfl
 rw[hY]
 obtain⟨W2,hW2⟩:∃W2,W1.alloc (.cells #[.int .i64 c.f1.f0,.string c.f1.f1,.string c.f1.f2,.int .i64 c.f1.f3,.slice A4 c.f1.f4.length c4,.slice A5 c.f1.f5.length c5] 29)=W2:=⟨_,rfl⟩
 have xq:=bF W1 (.cells #[.int .i64 c.f1.f0,.string c.f1.f1,.string c.f1.f2,.int .i64 c.f1.f3,.slice A4 c.f1.f4.length c4,.slice A5 c.f1.f5.length c5] 29);have hb1:=(Below.refl W1.heap.size W1).alloc (Nat.le_refl _) (.cells #[.int .i64 c.f1.f0,.string c.f1.f1,.string c.f1.f2,.int .i64 c.f1.f3,.slice A4 c.f1.f4.length c4,.slice A5 c.f1.f5.length c5] 29);rw[hW2] at xq hb1
 have x0:W2.cell? ⟨W1.heap.size,0,none⟩=some (.int .i64 c.f1.f0):=by rw[ak xq];rfl
 have x2:W2.cell? ⟨W1.heap.size,2,none⟩=some (.string c.f1.f2):=by rw[ak xq];rfl
 have x3:W2.cell? ⟨W1.heap.size,3,none⟩=some (.int .i64 c.f1.f3):=by rw[ak xq];rfl
 have x4:W2.cell? ⟨W1.heap.size,4,none⟩=some (.slice A4 c.f1.f4.length c4):=by rw[ak xq];rfl
 have x5:W2.cell? ⟨W1.heap.size,5,none⟩=some (.slice A5 c.f1.f5.length c5):=by rw[ak xq];rfl
 have zh:=ah.mk xq;have HB:=ah.mk (hb0.trans (hb1.mono hb0.size));have HR4:=ah.mk (Kd.aC (Kd.aC h4 hb0) hb1);have nE:=ah.mk (Kd.aC (Kd.aC h5 hb0) hb1);have qI:=ah.mk (Kd.aC (Kd.aC h6 hb0) hb1);have z8:=au hb1 z7;have cc:=Dc c.f1 A4 c4 (.slice A5 c.f1.f5.length c5) W2 HR4.out l4 hl4;clear hb0 hbx hb1 xq h4 h5 h6 hY hY8
 go_enter Tryz.func102,Tryz.ntmps102
 go_upto_region 2 with (fail)
 try rw[hW2]
 clear hW1 hW2 z1 z2 z3 z4 z5 z6 z7
 cases hsz:jk c.f1 with
 | none=>
  rw[hsz] at cc;simp only[Option.getD_none,Option.isSome_none,Option.getD_some,Option.isSome_some] at cc;have C:=ah.mk cc;have HE:=ah.mk (show ko c=false by unfold ko;rw[hsz]);clear cc hsz
  go_upto_region 3 with (first|(refine eX (.load 29 (.tmp 3)) rfl ?_;refine wpList_load_row rfl _ _ rfl W1.heap.size rfl 29 #[.int .i64 c.f1.f0,.string c.f1.f1,.string c.f1.f2,.int .i64 c.f1.f3,.slice A4 c.f1.f4.length c4,.slice A5 c.f1.f5.length c5] (0,0) _ zh.out Tryz.underlying29 rfl aD ?_)|(go_at_call 133;refine C.out.mono ?_;rintro e w2 ⟨rfl,hb2⟩;have HB2:=ah.mk (HB.out.trans (hb2.mono HB.out.size));have y0:=au hb2 x0;have y2:=au hb2 x2;have y3:=au hb2 x3;have y4:=au hb2 x4;have y5:=au hb2 x5;have y7:=au hb2 z8;have HR4:=ah.mk (Kd.aC HR4.out hb2);have nE:=ah.mk (Kd.aC nE.out hb2);have qI:=ah.mk (Kd.aC qI.out hb2);clear hb2))
  go_wp2_with fail
  go_ret
  exact⟨by rw[HE.out];rfl,HB2.out⟩
 | some n=>
  rw[hsz] at cc;simp only[Option.getD_none,Option.isSome_none,Option.getD_some,Option.isSome_some] at cc;have C:=ah.mk cc;have OD:=ah.mk hsz;have hn:=AY hsz;clear cc hsz
  go_upto_region 3 with (first|(refine eX (.load 29 (.tmp 3)) rfl ?_;refine wpList_load_row rfl _ _ rfl W1.heap.size rfl 29 #[.int .i64 c.f1.f0,.string c.f1.f1,.string c.f1.f2,.int .i64 c.f1.f3,.slice A4 c.f1.f4.length c4,.slice A5 c.f1.f5.length c5] (0,0) _ zh.out Tryz.underlying29 rfl aD ?_)|(go_at_call 133;refine C.out.mono ?_;rintro e w2 ⟨rfl,hb2⟩;have HB2:=ah.mk (HB.out.trans (hb2.mono HB.out.size));have y0:=au hb2 x0;have y2:=au hb2 x2;have y3:=au hb2 x3;have y4:=au hb2 x4;have y5:=au hb2 x5;have y7:=au hb2 z8;have HR4:=ah.mk (Kd.aC HR4.out hb2);have nE:=ah.mk (Kd.aC nE.out hb2);have qI:=ah.mk (Kd.aC qI.out hb2);clear hb2))
  clear x0 x2 x3 x4 x5 z8;by_cases k1:c.f1.f0=1
  ·have t1:(c.f1.f0 != 1)=false:=by rw[k1];rfl
   have K1:=ah.mk k1;clear k1;by_cases k2:c.f1.f2.size=0
   ·have t2:=AX k2;have K2:=ah.mk k2;clear k2
    have HE0:=ah.mk (show ko c=(match iw c.f2 16522 with
     | none=>false
     | some all=>dO c.f2 c.f1.f4 && (decide ((c.f1.f5.length:Int)=all*512) && ni c.f2 c.f1.f5 c.f1.f3)) by
      unfold ko;rw[OD.out];dsimp only;rw[if_neg (by intro h;rcases h with h|h;exact h K1.out;exact h K2.out)]
      cases iw c.f2 16522 <;> rfl)
    obtain⟨ap,hap⟩:∃ap,iw c.f2 16522=ap:=⟨_,rfl⟩
    have HA:=ah.mk hap;rw[hap] at HE0
    cases ap with
    | none=>
     have HE:=ah.mk (show ko c=false from HE0.out);clear hap
     go_upto_region 6 with ((go_at_call 136;refine (uy A6 c6 c.f2 16522 _ qI.out l6 ML aj aj).mono ?_;rw[HA.out];simp only[Option.getD_none,Option.isSome_none,Option.getD_some,Option.isSome_some];rintro e w3 ⟨rfl,hb3⟩;have HB3:=ah.mk (HB2.out.trans (hb3.mono HB2.out.size));have q3:=au hb3 y3;have q4:=au hb3 y4;have q5:=au hb3 y5;have q7:=au hb3 y7;have HR4:=ah.mk (Kd.aC HR4.out hb3);have nE:=ah.mk (Kd.aC nE.out hb3);have qI:=ah.mk (Kd.aC qI.out hb3);clear hb3))
     go_wp2_with fail
     go_ret
     exact⟨by rw[HE.out];rfl,HB3.out⟩
    | some m=>
     have hm:=MK hap;clear hap
     obtain⟨wn,hwn⟩:∃b,dO c.f2 c.f1.f4=b:=⟨_,rfl⟩
     have HWN:=ah.mk hwn;clear hwn
     cases wn with
     | false=>
      have HE:=ah.mk (show ko c=false by rw[HE0.out];dsimp only;rw[HWN.out];rfl)
      go_upto_region 6 with ((go_at_call 136;refine (uy A6 c6 c.f2 16522 _ qI.out l6 ML aj aj).mono ?_;rw[HA.out];simp only[Option.getD_none,Option.isSome_none,Option.getD_some,Option.isSome_some];rintro e w3 ⟨rfl,hb3⟩;have HB3:=ah.mk (HB2.out.trans (hb3.mono HB2.out.size));have q3:=au hb3 y3;have q4:=au hb3 y4;have q5:=au hb3 y5;have q7:=au hb3 y7;have HR4:=ah.mk (Kd.aC HR4.out hb3);have nE:=ah.mk (Kd.aC nE.out hb3);have qI:=ah.mk (Kd.aC qI.out hb3);clear hb3))
      go_wp2_with (go_at_call 137;refine (zO A6 c6 c.f2 A4 c4 c.f1.f4 _ qI.out l6 ML HR4.out l4 hl4).mono ?_;rw[HWN.out];rintro e w4 ⟨rfl,hb4⟩;have iM:=ah.mk (HB3.out.trans (hb4.mono HB3.out.size));have r3:=au hb4 q3;have r5:=au hb4 q5;have r7:=au hb4 q7;have nE:=ah.mk (Kd.aC nE.out hb4);have qI:=ah.mk (Kd.aC qI.out hb4);clear hb4)
      go_ret
      exact⟨by rw[HE.out];rfl,iM.out⟩
     | true=>
      by_cases hd:(c.f1.f5.length:Int)=m*512
      ·have hdb:((c.f1.f5.length:Int) == m*512)=true:=beq_iff_eq.2 hd;have OE:=ah.mk (Ph OD.out HA.out HWN.out hd);have HE:=ah.mk (show ko c=ni c.f2 c.f1.f5 c.f1.f3 by rw[HE0.out];dsimp only;rw[HWN.out,decide_eq_true hd];rfl);have HD:=ah.mk hd;clear hd
       go_upto_region 6 with ((go_at_call 136;refine (uy A6 c6 c.f2 16522 _ qI.out l6 ML aj aj).mono ?_;rw[HA.out];simp only[Option.getD_none,Option.isSome_none,Option.getD_some,Option.isSome_some];rintro e w3 ⟨rfl,hb3⟩;have HB3:=ah.mk (HB2.out.trans (hb3.mono HB2.out.size));have q3:=au hb3 y3;have q4:=au hb3 y4;have q5:=au hb3 y5;have q7:=au hb3 y7;have HR4:=ah.mk (Kd.aC HR4.out hb3);have nE:=ah.mk (Kd.aC nE.out hb3);have qI:=ah.mk (Kd.aC qI.out hb3);clear hb3))
       go_wp2_with (first|(go_at_call 137;refine (zO A6 c6 c.f2 A4 c4 c.f1.f4 _ qI.out l6 ML HR4.out l4 hl4).mono ?_;rw[HWN.out];rintro e w4 ⟨rfl,hb4⟩;have iM:=ah.mk (HB3.out.trans (hb4.mono HB3.out.size));have r3:=au hb4 q3;have r5:=au hb4 q5;have r7:=au hb4 q7;have nE:=ah.mk (Kd.aC nE.out hb4);have qI:=ah.mk (Kd.aC qI.out hb4);clear hb4)|(go_at_call 134;refine (Jo A6 c6 c.f2 A5 c5 c.f1.f5 c.f1.f3 _ qI.out l6 ML nE.out l5 hl5 OE.out.1 OE.out.2.1 OE.out.2.2.1 OE.out.2.2.2).mono ?_;rintro e w5 ⟨rfl,hb5⟩;have kW:=ah.mk (iM.out.trans (hb5.mono iM.out.size));clear hb5))
       go_ret
       exact⟨by rw[HE.out];rfl,kW.out⟩
      have hdb:((c.f1.f5.length:Int) == m*512)=false:=beq_eq_false_iff_ne.2 hd;have HE:=ah.mk (show ko c=false by rw[HE0.out];dsimp only;rw[HWN.out,decide_eq_false hd];rfl);have HD:=ah.mk hd;clear hd
      go_upto_region 6 with ((go_at_call 136;refine (uy A6 c6 c.f2 16522 _ qI.out l6 ML aj aj).mono ?_;rw[HA.out];simp only[Option.getD_none,Option.isSome_none,Option.getD_some,Option.isSome_some];rintro e w3 ⟨rfl,hb3⟩;have HB3:=ah.mk (HB2.out.trans (hb3.mono HB2.out.size));have q3:=au hb3 y3;have q4:=au hb3 y4;have q5:=au hb3 y5;have q7:=au hb3 y7;have HR4:=ah.mk (Kd.aC HR4.out hb3);have nE:=ah.mk (Kd.aC nE.out hb3);have qI:=ah.mk (Kd.aC qI.out hb3);clear hb3))
      go_wp2_with (go_at_call 137;refine (zO A6 c6 c.f2 A4 c4 c.f1.f4 _ qI.out l6 ML HR4.out l4 hl4).mono ?_;rw[HWN.out];rintro e w4 ⟨rfl,hb4⟩;have iM:=ah.mk (HB3.out.trans (hb4.mono HB3.out.size));have r3:=au hb4 q3;have r5:=au hb4 q5;have r7:=au hb4 q7;have nE:=ah.mk (Kd.aC nE.out hb4);have qI:=ah.mk (Kd.aC qI.out hb4);clear hb4)
      go_ret
      exact⟨by rw[HE.out];rfl,iM.out⟩
   have t2:=F3 k2;have HE:=ah.mk (show ko c=false by unfold ko;rw[OD.out];dsimp only;rw[if_pos (.inr k2)]);clear k2
   go_wp2_with fail
   go_ret
   exact⟨by rw[HE.out];rfl,HB2.out⟩
  have t1:(c.f1.f0 != 1)=true:=bne_iff_ne.2 k1;have HE:=ah.mk (show ko c=false by unfold ko;rw[OD.out];dsimp only;rw[if_pos (.inl k1)]);clear k1
  go_wp2_with fail
  go_ret
  exact⟨by rw[HE.out];rfl,HB2.out⟩
theorem Sr:∀a b:List UInt8,(Op.bytesLess a b || a == b) = !(Op.bytesLess b a)
 | [],[]=>rfl
 | [],_::_=>rfl
 | _::_,[]=>rfl
 | x::a,y::b=>by
  have ih:=Sr a b;rw[Op.bytesLess,Op.bytesLess];by_cases h1:x<y
  ·have h2:¬y<x:=by intro h;exact absurd (UInt8.lt_trans h1 h) (UInt8.lt_irrefl _)
   have h3:¬x=y:=by intro h;subst h;exact UInt8.lt_irrefl _ h1
   have h4:¬y=x:=fun h=>h3 h.symm
   simp[h1,h2,h3,h4]
  by_cases h2:y<x
  ·have h3:¬x=y:=by intro h;subst h;exact UInt8.lt_irrefl _ h2
   simp[h1,h2,h3]
  have h3:x=y:=UInt8.le_antisymm (UInt8.not_lt.1 h2) (UInt8.not_lt.1 h1);subst h3
  simpa [h1] using ih
theorem WA (b0 g0:Int) (A0:Option Addr) (c0:Nat) (l:List sF) (w:World) (hr:Kd.C EA w A0 l.length l) (hc:l.length≤c0) (hf:∀x∈l,wX x) (hl:l.length≤1048576) (h0:0≤b0) (h1:b0≤4294967295) (h2:0≤g0) (h3:g0≤4294967295) :
  Calls Tryz.prog 63 #[.agg #[.int .i64 b0,.int .i64 g0,.slice A0 l.length c0]] w fun e w'=>e=.returned (.bool (lu b0 g0 l))∧Below w.heap.size w w':=by
 obtain⟨P,hP⟩:∃P,#[Value.int .i64 b0,.int .i64 g0,.slice A0 l.length c0]=P:=⟨_,rfl⟩
 obtain⟨W0,hW0⟩:∃W0,w.alloc (.cells P 24)=W0:=⟨_,rfl⟩
 have hbx:=bF w (.cells P 24);have hb0:=(Below.refl w.heap.size w).alloc (Nat.le_refl _) (.cells P 24);rw[hW0] at hbx hb0
 have p0:W0.cell? ⟨w.heap.size,0,none⟩=some (.int .i64 b0):=by rw[ak hbx,← hP];rfl
 have p1:W0.cell? ⟨w.heap.size,1,none⟩=some (.int .i64 g0):=by rw[ak hbx,← hP];rfl
 have p2:W0.cell? ⟨w.heap.size,2,none⟩=some (.slice A0 l.length c0):=by rw[ak hbx,← hP];rfl
 have hP3:P.size=3:=by rw[← hP];rfl
 rw[hP];have HR:=ah.mk (Kd.aC hr hb0);have HF:=ah.mk hf;have HB0:=ah.mk hb0
 have HD0:ah (lu b0 g0 l=dY ⟨#[]⟩ l):=⟨by unfold lu;rw[decide_eq_true h0,decide_eq_true h1,decide_eq_true h2,decide_eq_true h3];simp⟩
 have d0:decide (b0<0)=false:=decide_eq_false aj;have d1:decide (4294967295<b0)=false:=decide_eq_false aj;have d2:decide (g0<0)=false:=decide_eq_false aj;have d3:decide (4294967295<g0)=false:=decide_eq_false aj;clear hr hf hb0 hbx hP
 go_enter Tryz.func63,Tryz.ntmps63
 go_wp2_with fail
 try rw[hW0]
 clear hW0 d0 d1 d2 d3 hP3 p0 p1 p2
 go_loopg [3,29] l.length (fun g s3 s29 wx=>∃(i:Nat) (last:ByteArray),i+g=l.length∧s29=.int .i64 i∧s3=.string last∧ah (dY last (l.drop i)=dY ⟨#[]⟩ l)∧ah (Below w.heap.size w wx)∧ah (Below W0.heap.size W0 wx))
 case atStart=>exact⟨0,⟨#[]⟩,by omega,rfl,rfl,⟨by rw[List.drop_zero]⟩,HB0,⟨Below.refl _ _⟩⟩
 case round=>
  clear HB0;obtain⟨i,last,hig,rfl,rfl,HG,HBw,HB⟩:=hrel;by_cases hi:i<l.length
  ·have hd:decide ((i:Int)<(l.length:Int))=true:=decide_eq_true aj;have hd2:decide (i<l.length)=true:=decide_eq_true hi;obtain⟨ad,A4,c4,A5,c5,A6,c6,hA,r0,r1,r2,r3,r4,r5,r6,r7,l4,g4,l5,g5,l6,g6⟩:=CY (Kd.aC HR.out HB.out) (i:Int) aj aj;rw[Int.toNat_natCast] at r0 r1 r2 r3 r4 r5 r6 r7
   have hrd:gV l (i:Int)=l[i]'hi:=by simp[gV,hi]
   have II:=ah.mk (HF.out (l[i]'hi) (List.getElem_mem hi));have hg0:=HG.out;rw[List.drop_eq_getElem_cons hi] at hg0
   obtain⟨c,hx⟩:∃c,l[i]'hi=c:=⟨_,rfl⟩
   rw[hrd,hx] at r0 r1 r2 r3 r4 r5 r6 r7 l4 g4 l5 g5 l6 g6;rw[hx] at hg0 II;rw[dY] at hg0;have IG:=ah.mk hg0;subst hA;clear hrd hx hg0 HG
   obtain⟨W1,hW1⟩:∃W1,wr.alloc (.cells #[.int .i64 c.f0,.int .i64 c.f1.f0,.string c.f1.f1,.string c.f1.f2,.int .i64 c.f1.f3,.slice A4 c.f1.f4.length c4,.slice A5 c.f1.f5.length c5,.slice A6 c.f2.length c6] 31)=W1:=⟨_,rfl⟩
   have hbx:=bF wr (.cells #[.int .i64 c.f0,.int .i64 c.f1.f0,.string c.f1.f1,.string c.f1.f2,.int .i64 c.f1.f3,.slice A4 c.f1.f4.length c4,.slice A5 c.f1.f5.length c5,.slice A6 c.f2.length c6] 31);have hb0:=(Below.refl wr.heap.size wr).alloc (Nat.le_refl _) (.cells #[.int .i64 c.f0,.int .i64 c.f1.f0,.string c.f1.f1,.string c.f1.f2,.int .i64 c.f1.f3,.slice A4 c.f1.f4.length c4,.slice A5 c.f1.f5.length c5,.slice A6 c.f2.length c6] 31);rw[hW1] at hbx hb0
   have z0:W1.cell? ⟨wr.heap.size,0,none⟩=some (.int .i64 c.f0):=by rw[ak hbx];rfl
   have z1:W1.cell? ⟨wr.heap.size,1,none⟩=some (.int .i64 c.f1.f0):=by rw[ak hbx];rfl
   have z2:W1.cell? ⟨wr.heap.size,2,none⟩=some (.string c.f1.f1):=by rw[ak hbx];rfl
   have z3:W1.cell? ⟨wr.heap.size,3,none⟩=some (.string c.f1.f2):=by rw[ak hbx];rfl
   have z4:W1.cell? ⟨wr.heap.size,4,none⟩=some (.int .i64 c.f1.f3):=by rw[ak hbx];rfl
   have z5:W1.cell? ⟨wr.heap.size,5,none⟩=some (.slice A4 c.f1.f4.length c4):=by rw[ak hbx];rfl
   have z6:W1.cell? ⟨wr.heap.size,6,none⟩=some (.slice A5 c.f1.f5.length c5):=by rw[ak hbx];rfl
   have z7:W1.cell? ⟨wr.heap.size,7,none⟩=some (.slice A6 c.f2.length c6):=by rw[ak hbx];rfl
   obtain⟨W2,hW2⟩:∃W2,W1.alloc (.cells #[.int .i64 c.f1.f0,.string c.f1.f1,.string c.f1.f2,.int .i64 c.f1.f3,.slice A4 c.f1.f4.length c4,.slice A5 c.f1.f5.length c5] 29)=W2:=⟨_,rfl⟩
   have xq:=bF W1 (.cells #[.int .i64 c.f1.f0,.string c.f1.f1,.string c.f1.f2,.int .i64 c.f1.f3,.slice A4 c.f1.f4.length c4,.slice A5 c.f1.f5.length c5] 29);have hb1:=(Below.refl W1.heap.size W1).alloc (Nat.le_refl _) (.cells #[.int .i64 c.f1.f0,.string c.f1.f1,.string c.f1.f2,.int .i64 c.f1.f3,.slice A4 c.f1.f4.length c4,.slice A5 c.f1.f5.length c5] 29);rw[hW2] at xq hb1
   have x1:W2.cell? ⟨W1.heap.size,1,none⟩=some (.string c.f1.f1):=by rw[ak xq];rfl
   have zz0:=au hb1 z0;have OH:=ah.mk xq;have WB:=ah.mk (aJ hbx hb1);have hbw:=hb0.trans (hb1.mono hb0.size);have HR4:=ah.mk (Kd.aC g4 hbw);have nE:=ah.mk (Kd.aC g5 hbw);have qI:=ah.mk (Kd.aC g6 hbw);have HBb:=ah.mk (HB.out.trans (hbw.mono HB.out.size));have zh:=ah.mk (HBw.out.trans (hbw.mono HBw.out.size));clear g4 g5 g6 hb0 hb1 hbw hbx xq
   obtain⟨wt,hwt⟩:∃b,eu c.f1.f1=b:=⟨_,rfl⟩
   have UJ:=ah.mk hwt
   cases wt with
   | false=>
    have HN:ah (dY ⟨#[]⟩ l=false):=⟨by rw[← IG.out,UJ.out];rfl⟩
    clear hwt
    go_wp2_with (go_at_call 100;refine (ql c.f1.f1 _ II.out.i.p).mono ?_;rw[UJ.out];rintro e w2 ⟨rfl,hb2⟩;have HB2:=ah.mk (zh.out.trans (hb2.mono zh.out.size));have EZ:=ah.mk hb2;have s1:=au hb2 x1;have s0:=au hb2 zz0;clear hb2)
    go_ret
    exact⟨by rw[HD0.out,HN.out];rfl,HB2.out⟩
   | true=>
    have hw1:=qJ hwt;clear hwt
    obtain⟨lt,hlt⟩:∃b,O9 last (mK c.f1.f1)=b:=⟨_,rfl⟩
    have MN:=ah.mk hlt;have hlq:=(Sr (bY 47 0 c.f1.f1).toList last.toList).trans (by rw[show Op.bytesLess last.toList (bY 47 0 c.f1.f1).toList=lt from hlt])
    obtain⟨bx,hbx⟩:∃b,Op.bytesLess (bY 47 0 c.f1.f1).toList last.toList=b:=⟨_,rfl⟩
    obtain⟨bq,hbq⟩:∃b,((bY 47 0 c.f1.f1).toList == last.toList)=b:=⟨_,rfl⟩
    rw[hbx,hbq] at hlq;clear hlt
    cases lt with
    | false=>
     have HN:ah (dY ⟨#[]⟩ l=false):=⟨by rw[← IG.out,UJ.out,MN.out];rfl⟩
     cases bx with
     | true=>
      clear hlq
      go_wp2_with (first|(go_at_call 100;refine (ql c.f1.f1 _ II.out.i.p).mono ?_;rw[UJ.out];rintro e w2 ⟨rfl,hb2⟩;have HB2:=ah.mk (zh.out.trans (hb2.mono zh.out.size));have EZ:=ah.mk hb2;have s1:=au hb2 x1;have s0:=au hb2 zz0;clear hb2)|(go_at_call 88;refine (ou c.f1.f1 _ aj).mono ?_;rintro e w3 ⟨rfl,hb3⟩;have HB3:=ah.mk (HB2.out.trans (hb3.mono HB2.out.size));have Ky:=ah.mk (EZ.out.trans (hb3.mono EZ.out.size));have q1:=au hb3 s1;have q0:=au hb3 s0;clear hb3))
      go_ret
      exact⟨by rw[HD0.out,HN.out];rfl,HB3.out⟩
     | false=>
      cases bq with
      | false=>cases hlq
      | true=>
       clear hlq
       go_wp2_with (first|(go_at_call 100;refine (ql c.f1.f1 _ II.out.i.p).mono ?_;rw[UJ.out];rintro e w2 ⟨rfl,hb2⟩;have HB2:=ah.mk (zh.out.trans (hb2.mono zh.out.size));have EZ:=ah.mk hb2;have s1:=au hb2 x1;have s0:=au hb2 zz0;clear hb2)|(go_at_call 88;refine (ou c.f1.f1 _ aj).mono ?_;rintro e w3 ⟨rfl,hb3⟩;have HB3:=ah.mk (HB2.out.trans (hb3.mono HB2.out.size));have Ky:=ah.mk (EZ.out.trans (hb3.mono EZ.out.size));have q1:=au hb3 s1;have q0:=au hb3 s0;clear hb3))
       go_ret
       exact⟨by rw[HD0.out,HN.out];rfl,HB3.out⟩
    | true=>
     obtain⟨rfl,rfl⟩:bx=false∧bq=false:=by cases bx <;> cases bq <;> first|exact⟨rfl,rfl⟩|cases hlq
     clear hlq
     go_upto_block 2 with (first|(go_at_call 100;refine (ql c.f1.f1 _ II.out.i.p).mono ?_;rw[UJ.out];rintro e w2 ⟨rfl,hb2⟩;have HB2:=ah.mk (zh.out.trans (hb2.mono zh.out.size));have EZ:=ah.mk hb2;have s1:=au hb2 x1;have s0:=au hb2 zz0;clear hb2)|(go_at_call 88;refine (ou c.f1.f1 _ aj).mono ?_;rintro e w3 ⟨rfl,hb3⟩;have HB3:=ah.mk (HB2.out.trans (hb3.mono HB2.out.size));have Ky:=ah.mk (EZ.out.trans (hb3.mono EZ.out.size));have q1:=au hb3 s1;have q0:=au hb3 s0;clear hb3)|(go_at_call 88;refine (ou c.f1.f1 _ aj).mono ?_;rintro e w4 ⟨rfl,hb4⟩;have iM:=ah.mk (HB3.out.trans (hb4.mono HB3.out.size));have HM4:=ah.mk (Ky.out.trans (hb4.mono Ky.out.size));have v0:=au hb4 q0;clear hb4))
     have ZF:=ah.mk (HBb.out.trans (HM4.out.mono HBb.out.size))
     obtain⟨wb,rfl⟩:∃wb,wb=w4:=⟨_,rfl⟩
     have hx1:=aJ WB.out HM4.out;have hx2:=aJ OH.out HM4.out;have HR4:=ah.mk (Kd.aC HR4.out HM4.out);have nE:=ah.mk (Kd.aC nE.out HM4.out);have qI:=ah.mk (Kd.aC qI.out HM4.out);clear hW1 hW2 x1 s1 q1 r0 r1 r2 r3 r4 r5 r6 r7 z0 z1 z2 z3 z4 z5 z6 z7 hbx hbq s0 q0 v0 zz0
     have z0:wb.cell? ⟨wr.heap.size,0,none⟩=some (.int .i64 c.f0):=by rw[ak hx1];rfl
     have z1:wb.cell? ⟨wr.heap.size,1,none⟩=some (.int .i64 c.f1.f0):=by rw[ak hx1];rfl
     have z2:wb.cell? ⟨wr.heap.size,2,none⟩=some (.string c.f1.f1):=by rw[ak hx1];rfl
     have z3:wb.cell? ⟨wr.heap.size,3,none⟩=some (.string c.f1.f2):=by rw[ak hx1];rfl
     have z4:wb.cell? ⟨wr.heap.size,4,none⟩=some (.int .i64 c.f1.f3):=by rw[ak hx1];rfl
     have z5:wb.cell? ⟨wr.heap.size,5,none⟩=some (.slice A4 c.f1.f4.length c4):=by rw[ak hx1];rfl
     have z6:wb.cell? ⟨wr.heap.size,6,none⟩=some (.slice A5 c.f1.f5.length c5):=by rw[ak hx1];rfl
     have z7:wb.cell? ⟨wr.heap.size,7,none⟩=some (.slice A6 c.f2.length c6):=by rw[ak hx1];rfl
     have x0:wb.cell? ⟨W1.heap.size,0,none⟩=some (.int .i64 c.f1.f0):=by rw[ak hx2];rfl
     have x1:wb.cell? ⟨W1.heap.size,1,none⟩=some (.string c.f1.f1):=by rw[ak hx2];rfl
     have x2:wb.cell? ⟨W1.heap.size,2,none⟩=some (.string c.f1.f2):=by rw[ak hx2];rfl
     have x3:wb.cell? ⟨W1.heap.size,3,none⟩=some (.int .i64 c.f1.f3):=by rw[ak hx2];rfl
     have x4:wb.cell? ⟨W1.heap.size,4,none⟩=some (.slice A4 c.f1.f4.length c4):=by rw[ak hx2];rfl
     have x5:wb.cell? ⟨W1.heap.size,5,none⟩=some (.slice A5 c.f1.f5.length c5):=by rw[ak hx2];rfl
     have qD:=ah.mk (Below.refl wb.heap.size wb);clear hx1 hx2
     go_cut [7] (fun v7 wd=>v7=.bool (kG c)∧ah (Below wb.heap.size wb wd))
     case first=>
      by_cases k1:c.f0=1
      ·have t1:(c.f0 == 1)=true:=beq_iff_eq.2 k1;have HK:=ah.mk k1;clear k1;by_cases h0:c.f2.length=0
       ·have b0:((c.f2.length:Int) == 0)=true:=beq_iff_eq.2 aj;have G0:=ah.mk h0;clear h0;by_cases h1:c.f1.f0=0
        ·have b1:(c.f1.f0 == 0)=true:=beq_iff_eq.2 h1;have G1:=ah.mk h1;clear h1;by_cases h2:c.f1.f3=0
         ·have b2:(c.f1.f3 == 0)=true:=beq_iff_eq.2 h2;have G2:=ah.mk h2;clear h2;by_cases h3:c.f1.f2.size=0
          ·have b3:=AX h3;have G3:=ah.mk h3;clear h3;by_cases h4:c.f1.f4.length=0
           ·have b4:((c.f1.f4.length:Int) == 0)=true:=beq_iff_eq.2 aj;have G4:=ah.mk h4;clear h4;by_cases h5:c.f1.f5.length=0
            ·have b5:((c.f1.f5.length:Int) == 0)=true:=beq_iff_eq.2 aj;have G5:=ah.mk h5;clear h5;have HE:=ah.mk (show kG c=true by unfold kG;rw[if_pos HK.out,decide_eq_true G0.out,decide_eq_true G1.out,decide_eq_true G2.out,decide_eq_true G3.out,decide_eq_true G4.out,decide_eq_true G5.out];rfl)
             go_wp2_with fail
             go_meet
             case rel=>exact⟨by rw[HE.out],qD⟩
            have b5:((c.f1.f5.length:Int) == 0)=false:=beq_eq_false_iff_ne.2 aj;have HE:=ah.mk (show kG c=false by unfold kG;rw[if_pos HK.out,decide_eq_true G0.out,decide_eq_true G1.out,decide_eq_true G2.out,decide_eq_true G3.out,decide_eq_true G4.out,decide_eq_false h5];simp);clear h5
            go_wp2_with fail
            go_meet
            case rel=>exact⟨by rw[HE.out],qD⟩
           have b4:((c.f1.f4.length:Int) == 0)=false:=beq_eq_false_iff_ne.2 aj;have HE:=ah.mk (show kG c=false by unfold kG;rw[if_pos HK.out,decide_eq_true G0.out,decide_eq_true G1.out,decide_eq_true G2.out,decide_eq_true G3.out,decide_eq_false h4];simp);clear h4
           go_wp2_with fail
           go_meet
           case rel=>exact⟨by rw[HE.out],qD⟩
          have b3:=F3 h3;have HE:=ah.mk (show kG c=false by unfold kG;rw[if_pos HK.out,decide_eq_true G0.out,decide_eq_true G1.out,decide_eq_true G2.out,decide_eq_false h3];simp);clear h3
          go_wp2_with fail
          go_meet
          case rel=>exact⟨by rw[HE.out],qD⟩
         have b2:(c.f1.f3 == 0)=false:=beq_eq_false_iff_ne.2 h2;have HE:=ah.mk (show kG c=false by unfold kG;rw[if_pos HK.out,decide_eq_true G0.out,decide_eq_true G1.out,decide_eq_false h2];simp);clear h2
         go_wp2_with fail
         go_meet
         case rel=>exact⟨by rw[HE.out],qD⟩
        have b1:(c.f1.f0 == 0)=false:=beq_eq_false_iff_ne.2 h1;have HE:=ah.mk (show kG c=false by unfold kG;rw[if_pos HK.out,decide_eq_true G0.out,decide_eq_false h1];simp);clear h1
        go_wp2_with fail
        go_meet
        case rel=>exact⟨by rw[HE.out],qD⟩
       have b0:((c.f2.length:Int) == 0)=false:=beq_eq_false_iff_ne.2 aj;have HE:=ah.mk (show kG c=false by unfold kG;rw[if_pos HK.out,decide_eq_false h0];simp);clear h0
       go_wp2_with fail
       go_meet
       case rel=>exact⟨by rw[HE.out],qD⟩
      have t1:(c.f0 == 1)=false:=beq_eq_false_iff_ne.2 k1;have EB:=ah.mk k1;clear k1;by_cases k2:c.f0=2
      ·have t2:(c.f0 == 2)=true:=beq_iff_eq.2 k2;have HK:=ah.mk k2;clear k2;by_cases h0:c.f2.length=0
       ·have b0:((c.f2.length:Int) == 0)=true:=beq_iff_eq.2 aj;have HE:=ah.mk (show kG c=fV c.f1 by unfold kG;rw[if_neg EB.out,if_pos HK.out,decide_eq_true h0];rfl);clear h0
        go_wp2_with (go_at_call 101;refine (Ww c.f1 A4 c4 A5 c5 _ HR4.out l4 nE.out l5 II.out.i II.out.i.r II.out.i.d aj).mono ?_;rintro e w6 ⟨rfl,hb6⟩;have oD:=ah.mk hb6;clear hb6)
        go_meet
        case rel=>exact⟨by rw[HE.out],oD⟩
       have b0:((c.f2.length:Int) == 0)=false:=beq_eq_false_iff_ne.2 aj;have HE:=ah.mk (show kG c=false by unfold kG;rw[if_neg EB.out,if_pos HK.out,decide_eq_false h0];rfl);clear h0
       go_wp2_with fail
       go_meet
       case rel=>exact⟨by rw[HE.out],qD⟩
      have t2:(c.f0 == 2)=false:=beq_eq_false_iff_ne.2 k2;have FT:=ah.mk k2;clear k2;by_cases k3:c.f0=3
      ·have t3:(c.f0 == 3)=true:=beq_iff_eq.2 k3;have HE:=ah.mk (show kG c=ko c by unfold kG;rw[if_neg EB.out,if_neg FT.out,if_pos k3]);clear k3
       go_wp2_with (go_at_call 102;refine (UH c A4 c4 A5 c5 A6 c6 _ HR4.out l4 nE.out l5 qI.out l6 II.out.i.r II.out.i.d II.out.s).mono ?_;rintro e w6 ⟨rfl,hb6⟩;have oD:=ah.mk hb6;clear hb6)
       go_meet
       case rel=>exact⟨by rw[HE.out],oD⟩
      have t3:(c.f0 == 3)=false:=beq_eq_false_iff_ne.2 k3;have HE:=ah.mk (show kG c=false by unfold kG;rw[if_neg EB.out,if_neg FT.out,if_neg k3]);clear k3
      go_wp2_with fail
      go_meet
      case rel=>exact⟨by rw[HE.out],qD⟩
     case rest=>
      obtain⟨rfl,Pb⟩:=hcut;have kW:=ah.mk (iM.out.trans (Pb.out.mono iM.out.size));have oD:=ah.mk (ZF.out.trans (Pb.out.mono ZF.out.size));clear Pb z0 z1 z2 z3 z4 z5 z6 z7 x0 x1 x2 x3 x4 x5 HR4 nE qI
      obtain⟨ok,hok⟩:∃b,kG c=b:=⟨_,rfl⟩
      rw[hok];have HOK:=ah.mk hok;clear hok
      cases ok with
      | false=>
       have HN:ah (dY ⟨#[]⟩ l=false):=⟨by rw[← IG.out,UJ.out,MN.out,HOK.out];rfl⟩
       go_wp2_with fail
       go_ret
       exact⟨by rw[HD0.out,HN.out];rfl,kW.out⟩
      | true=>
       have HN:ah (dY (mK c.f1.f1) (l.drop (i+1))=dY ⟨#[]⟩ l):=⟨by rw[← IG.out,UJ.out,MN.out,HOK.out];rfl⟩
       go_wp2_with fail
       go_roundg (l.length - (i+1))
       case measure=>omega
       case rel=>exact⟨i+1,mK c.f1.f1,by omega,by first|rfl|simp,rfl,HN,kW,oD⟩
  have hd:decide ((i:Int)<(l.length:Int))=false:=decide_eq_false aj
  have HN:ah (dY ⟨#[]⟩ l=true):=⟨by rw[← HG.out,List.drop_of_length_le aj];rfl⟩
  go_wp2_with fail
  go_ret
  exact⟨by rw[HD0.out,HN.out];rfl,HBw.out⟩
structure Pq (B:Nat) (w:World) (g:Nat) (v:Value) (out:List Int):Prop where
 blk:w.heap[g]?=some (.cells #[v] 109 (0,0))
 row:Kd.R (Kd.int .u8) 5 w B (fun _=>True) v out
 low:B≤g
theorem Pq.lt {B g:Nat} {w:World} {v:Value} {out:List Int} (H:Pq B w g v out):g<w.heap.size:=bG H.blk
theorem Pq.below {B g:Nat} {w w1:World} {v:Value} {out:List Int} (H:Pq B w g v out) (hb:Below w.heap.size w w1):Pq B w1 g v out:=⟨aJ H.blk hb,Kd.bO H.row hb,H.low⟩
theorem Pq.ne {B g:Nat} {w:World} {v:Value} {out:List Int} (H:Pq B w g v out):some g≠v.ownBlock:=Kd.uW H.row H.blk aH
theorem Pq.slice {B g:Nat} {w:World} {v:Value} {out:List Int} (H:Pq B w g v out):∃A c,v=.slice A out.length c:=Kd.bP H.row
theorem Pq.cell {B g:Nat} {w:World} {v:Value} {out:List Int} (H:Pq B w g v out):w.cell? ⟨g,0,none⟩=some v:=by rw[ak H.blk];rfl
theorem Pq.put {B g:Nat} {w w1:World} {v v1:Value} {out pY:List Int} (H:Pq B w g v out) (hg:w.grownBy w1 v.ownBlock) (ho:Kd.R (Kd.int .u8) 5 w1 B (fun _=>True) v1 pY) :
  Pq B (w1.setCell ⟨g,0,none⟩ v1) g v1 pY:=by
 have hb:=kM H.blk hg H.ne;exact⟨by have:=gB hb 0 v1;simpa using this,Kd.oK ho hb (by intro q hq;simp[Kd.int,Kd.scalar] at hq;subst hq;decide) 0 v1,H.low⟩
theorem Pq.cells {B g:Nat} {w w1:World} {v:Value} {out:List Int} (H:Pq B w g v out) (hg:w.grownBy w1 v.ownBlock) :
  w1.cell? ⟨g,0,none⟩=some v∧w1.frozen? ⟨g,0,none⟩=false∧g<w1.heap.size:=by
 have hb:=kM H.blk hg H.ne;exact⟨by rw[ak hb];rfl,ay hb 0,bG hb⟩
theorem Fr.Kz {B g:Nat} {w w1:World} {v:Value} {out:List Int} (H:Pq B w g v out) (hg:w.grownBy w1 v.ownBlock):Fr g w w1 :=
 ⟨hg.size,fun k o hk _ ht=>(hg.block k (bG hk) (fun e=>by
  obtain⟨inner,ho⟩:=Kd.F4 H.row;obtain⟨cs,hc⟩:=mM ho k e.symm;rw[hk] at hc
  injection hc with hc
  exact ht _ _ hc)).trans hk⟩
structure Pg (B:Nat) (w:World) (g b:Nat):Prop where
 blk:w.heap[g]?=some (.cells #[.slice (some ⟨b,0,none⟩) 8 8] 109 (0,0))
 arr:w.heap[b]?=some (.cells (nums .u8 kg).toArray 5 (8,9))
 low:B≤g
theorem Pg.below {B g b:Nat} {w w1:World} (H:Pg B w g b) (hb:Below w.heap.size w w1):Pg B w1 g b:=⟨aJ H.blk hb,aJ H.arr hb,H.low⟩
def Pa (B:Nat) (w:World) (g:Nat) (out:List Int):Prop:=(out=kg∧∃b,Pg B w g b)∨∃v,Pq B w g v out
theorem Pa.pq {B g:Nat} {w:World} {out:List Int} (H:Pa B w g out) (h:8<out.length):∃v,Pq B w g v out:=by
 rcases H with⟨rfl,_⟩|H
 ·exact absurd h aH
 exact H
theorem KA {w:World} {b:Nat} (h:w.heap[b]?=some (.cells (nums .u8 kg).toArray 5 (8,9))) (o:Obj):∀b',some (⟨b,0,none⟩:Addr)=some b'→∀(j:Nat) u,(nums .u8 kg)[j]?=some u→(w.alloc o).cell? (b'.add j)=some u:=by
 intro b' hb' j u hj
 injection hb' with hb'
 subst hb';have h1:(w.alloc o).cell? ⟨b,j,none⟩=(nums .u8 kg).toArray[j]?:=cell_of_row _ b j _ 5 (8,9) (aN h o);rw[add_plain,h1,List.getElem?_toArray];exact hj
theorem MO (w0 w:World) (g:Nat) (out:List Int) (x:Int) (m:Nat) (H:Pa w0.heap.size w g out) (hb:Below w0.heap.size w0 w) (hm:m≤8) (hl:out.length≤1099511627776) :
  Calls Tryz.prog 64 #[.pointer (some ⟨g,0,none⟩),.int .i64 x,.int .i64 m] w fun e w'=>e=.returned (.tuple #[])∧Pa w0.heap.size w' g (out++leB m x)∧Below w0.heap.size w0 w'∧Fr g w w':=by
 have HP:=ah.mk H;have HB:=ah.mk hb;obtain⟨i0,hi0,hz0,hz1,hz2⟩:=info_parts info5;have HI:=ah.mk (show _∧_∧_∧_ from⟨hi0,hz0,hz1,hz2⟩);clear H hb hi0 hz0 hz1 hz2
 go_enter Tryz.func64,Tryz.ntmps64
 go_wp2
 go_loopg [1,7] m (fun gk s1 s7 wx=>∃(i:Nat) (y:Int) (pY:List Int),i+gk=m∧s7=.int .i64 i∧s1=.int .i64 y∧ah (pY++leB gk y=out++leB m x)∧ah (pY.length=out.length+i)∧ah (Pa w0.heap.size wx g pY)∧ah (Below w0.heap.size w0 wx)∧ah (Fr g w wx))
 case atStart=>exact⟨0,x,out,by omega,rfl,rfl,⟨rfl⟩,⟨rfl⟩,HP,HB,⟨Fr.refl _ _⟩⟩
 case round=>
  clear HP HB;obtain⟨i,y,pY,hig,rfl,rfl,HE,hlen,HP,HB,HF⟩:=hrel
  cases gk with
  | zero=>
   have hd:decide ((i:Int)<(m:Int))=false:=decide_eq_false aj;have hd2:decide (i<m)=false:=decide_eq_false aj
   go_wp2
   go_end0
   have h:=HE.out;rw[leB,List.append_nil] at h;exact⟨rfl,by rw[← h];exact HP.out,HB.out,HF.out⟩
  | succ gk=>
   have hd:decide ((i:Int)<(m:Int))=true:=decide_eq_true aj;have hd2:decide (i<m)=true:=decide_eq_true aj
   have hl1:pY.length≤1099511627786:=by have:=hlen.out;omega
   rcases HP.out with⟨ho1,b,HG⟩|⟨v,HV⟩
   ·have zP:=ah.mk ho1;have HG0:=ah.mk HG
    have c0:wr.cell? ⟨g,0,none⟩=some (.slice (some ⟨b,0,none⟩) 8 8):=by rw[ak HG.blk];rfl
    clear ho1 HG HP
    go_wp2_with ((with_reducible refine bQ (b:=.append) (xs:=#[.tmp 13,.tmp 16]) rfl ?_);at_builtin;refine wpList_append_grows _ rfl (.tmp 13) (.tmp 16) 27 rfl 5 i0 (.int .u8 0) 1 1 Tryz.underlying27 HI.out.1 HI.out.2.1 HI.out.2.2.1 HI.out.2.2.2 rfl aH (some ⟨b,0,none⟩) 8 8 (nums .u8 kg) rfl (fun h=>by cases h) rfl ?hA ⟨wr.heap.size,0,none⟩ 1 1 [.int .u8 (y % 256)] rfl rfl ?hN (by simp[Value.oneCell']) aH aH aH ?_;(case hA=>exact KA HG0.out.arr _);(case hN=>exact Jp wr _ 5);intro v2 w2 ho hg;have HO:=ah.mk ho;have HG:=ah.mk hg;have hgb:=kM (aN HG0.out.blk (.cells #[Value.int .u8 (y % 256)] 5)) hg bB;have cF:w2.cell? ⟨g,0,none⟩=some (.slice (some ⟨b,0,none⟩) 8 8):=(by rw[ak hgb];rfl);have fF:=ay hgb 0;have lF:=bG hgb;have HGB:=ah.mk hgb;clear ho hg hgb;obtain⟨A2,c2,hv2⟩:=Jq HO.out;subst hv2)
    have hR:Kd.R (Kd.int .u8) 5 w2 w0.heap.size (fun _=>True) (.slice A2 9 c2) (kg++[y % 256]):=Kd.qm (uX HO.out (Nat.le_trans HB.out.size bB)) (fun _ _=>trivial);have hbel:Below w0.heap.size w0 w2:=xu (HB.out.alloc HB.out.size _) none (by rw[World.size_alloc];have:=HB.out.size;omega) HG.out bB;have HRR:=ah.mk hR;have HBL:=ah.mk hbel;clear hR hbel
    go_roundg gk
    case measure=>omega
    case rel=>exact⟨i+1,y / 256,pY++[y % 256],by omega,by first|rfl|simp,by first|rfl|simp,⟨by rw[← HE.out,leB,List.append_assoc];rfl⟩,⟨by rw[List.length_append,hlen.out];simp;omega⟩,
      ⟨.inr ⟨_,⟨by have:=gB HGB.out 0 (.slice A2 9 c2);simpa using this,by rw[zP.out];exact Kd.oK HRR.out HGB.out (by intro q hq;simp[Kd.int,Kd.scalar] at hq;subst hq;decide) 0 _,HG0.out.low⟩⟩⟩,⟨HBL.out.setCell HG0.out.low _⟩,⟨HF.out.trans ((Fr.of_below ((Below.refl _ _).alloc (Nat.le_refl _) _)).trans ((Fr.of_below (xw HG.out)).trans (Fr.set _ _ _)))⟩⟩
   obtain⟨A,c,hv⟩:=HV.slice;subst hv;have c0:=HV.cell;have HPV:=ah.mk HV;clear HV HP
   go_wp2_with ((with_reducible refine bQ (b:=.append) (xs:=#[.tmp 13,.tmp 16]) rfl ?_);at_builtin;refine Kd.gJ (Kd.int .u8) (w0:=w0) w0.heap.size rfl (.tmp 13) (.tmp 16) 27 5 (.int .u8 0) 1 rfl Tryz.underlying27 info5 rfl aH aj (.slice A pY.length c) pY (y % 256) [.int .u8 (y % 256)] (fun _=>True) (fun _=>False) rfl rfl ?aP (fun _ hk=>hk.elim) (fun _ _=>trivial) ?aO ?aB ?aS ?aL ?_;(case aP=>exact rfl);(case aB=>exact HB.out);(case aO=>exact HPV.out.row);(case aS=>exact HB.out.size);(case aL=>omega);intro v2 w2 ho hb hg _h;have HO:=ah.mk ho;have HG:=ah.mk hg;have HB1:=ah.mk hb;obtain⟨cF,fF,lF⟩:=HPV.out.cells hg;clear ho hb hg _h;obtain⟨A2,c2,hv2⟩:=Kd.bP HO.out;subst hv2)
   have hO:=HO.out;simp only[List.length_append,List.length_cons,List.length_nil,Nat.zero_add] at hO;have HO:=ah.mk hO;clear hO
   go_roundg gk
   case measure=>omega
   case rel=>exact⟨i+1,y / 256,pY++[y % 256],by omega,by first|rfl|simp,by first|rfl|simp,⟨by rw[← HE.out,leB,List.append_assoc];rfl⟩,⟨by rw[List.length_append,hlen.out];simp;omega⟩,⟨.inr ⟨_,HPV.out.put HG.out HO.out⟩⟩,⟨HB1.out.setCell HPV.out.low _⟩,⟨HF.out.trans ((Fr.Kz HPV.out HG.out).trans (Fr.set _ _ _))⟩⟩
theorem nL (w0 w:World) (g:Nat) (v:Value) (out:List Int) (x:Int) (m:Nat) (H:Pq w0.heap.size w g v out) (hb:Below w0.heap.size w0 w) (hm:m≤8) (h8:8<out.length) (hl:out.length≤1099511627776) :
  Calls Tryz.prog 64 #[.pointer (some ⟨g,0,none⟩),.int .i64 x,.int .i64 m] w fun e w'=>e=.returned (.tuple #[])∧(∃v',Pq w0.heap.size w' g v' (out++leB m x))∧Below w0.heap.size w0 w'∧Fr g w w':=by
 refine (MO w0 w g out x m (.inr ⟨v,H⟩) hb hm hl).mono ?_;rintro e w1 ⟨rfl,h1,h2,h3⟩;exact⟨rfl,h1.pq (by rw[List.length_append];omega),h2,h3⟩
theorem yc (w0 w:World) (g:Nat) (v:Value) (out:List Int) (s:ByteArray) (H:Pq w0.heap.size w g v out) (hb:Below w0.heap.size w0 w) (h8:8<out.length) (hl:out.length≤549755813888) (hs:s.size≤549755813888) :
  Calls Tryz.prog 103 #[.pointer (some ⟨g,0,none⟩),.string s] w fun e w'=>e=.returned (.tuple #[])∧(∃v',Pq w0.heap.size w' g v' (out++jW s))∧Below w0.heap.size w0 w'∧Fr g w w':=by
 have HP:=ah.mk H;have HB:=ah.mk hb;have hc:=nL w0 w g v out s.size 2 H hb aH h8 aj
 have hl2:(out++leB 2 (s.size:Int)).length=out.length+2:=by rw[List.length_append,aU]
 have hT:out++jW s=(out++leB 2 (s.size:Int))++bytesOf s:=by unfold jW;rw[List.append_assoc]
 rw[hT]
 obtain⟨o1,ho1⟩:∃o,out++leB 2 (s.size:Int)=o:=⟨_,rfl⟩
 rw[ho1] at hc hl2;rw[ho1];have HL:=ah.mk hl2;clear H hb hl2 ho1 hT
 go_enter Tryz.func103,Tryz.ntmps103
 go_wp2_with (first
  | (go_at_call 64;refine hc.mono ?_;rintro e w1 ⟨rfl,⟨v1,h1⟩,hb1,hf1⟩;have wT:=ah.mk h1;have HB1:=ah.mk hb1;have UK:=ah.mk hf1;have c0:=h1.cell;obtain⟨A,c,hv⟩:=h1.slice;clear h1 hb1 hf1 hc;subst hv)
  | ((with_reducible refine bQ (b:=.append) (xs:=#[.tmp 12,.tmp 13]) rfl ?_);at_builtin;refine uD (w0:=w0) w0.heap.size rfl (.tmp 12) (.tmp 13) 27 9 5 rfl Tryz.underlying27 Tryz.underlying9 info5 _ o1 s rfl rfl (AZ wT.out.row) HB1.out HB1.out.size (by have:=HL.out;omega) ?_;intro v2 w2 ho hb hg;have HO:=ah.mk (Ba ho);have HG:=ah.mk hg;have HB2:=ah.mk hb;obtain⟨cF,fF,lF⟩:=wT.out.cells hg;clear ho hb hg;obtain⟨A2,c2,hv2⟩:=Kd.bP HO.out;subst hv2))
 have hO:=HO.out;simp only[List.length_append] at hO
 go_end0
 exact⟨rfl,⟨_,wT.out.put HG.out hO⟩,HB2.out.setCell wT.out.low _,UK.out.trans ((Fr.Kz wT.out HG.out).trans (Fr.set _ _ _))⟩
theorem Dh (w0 w:World) (g:Nat) (v:Value) (out:List Int) (l:List Ru) (A0:Option Addr) (c0:Nat) (H:Pq w0.heap.size w g v out) (hb:Below w0.heap.size w0 w) (h8:8<out.length) (hl:out.length≤1073741824) (hs:l.length≤1048576) (hr:Kd.C dw w0 A0 l.length l) (hc:l.length≤c0) :
  Calls Tryz.prog 105 #[.pointer (some ⟨g,0,none⟩),.slice A0 l.length c0] w fun e w'=>e=.returned (.tuple #[])∧(∃v',Pq w0.heap.size w' g v' (out++jS l))∧Below w0.heap.size w0 w'∧Fr g w w':=by
 have hcc:=nL w0 w g v out l.length 4 H hb aH h8 aj
 have hl2:(out++leB 4 (l.length:Int)).length=out.length+4:=by rw[List.length_append,aU]
 have hT:out++jS l=(out++leB 4 (l.length:Int))++gQ l:=by unfold jS;rw[List.append_assoc]
 rw[hT]
 obtain⟨o4,pV⟩:∃o,out++leB 4 (l.length:Int)=o:=⟨_,rfl⟩
 rw[pV] at hcc hl2;rw[pV];have HR:=ah.mk hr;clear H hb pV hT hr
 go_enter Tryz.func105,Tryz.ntmps105
 go_wp2_with (go_at_call 64;refine hcc.mono ?_;rintro e w4 ⟨rfl,⟨v4,h4⟩,hb4,E8⟩;have MP:=ah.mk h4;have iM:=ah.mk hb4;have HF4:=ah.mk E8;clear h4 hb4 E8 hcc)
 go_loopg [12] l.length (fun gk s12 wx=>∃(i:Nat) (vi:Value) (oi:List Int),i+gk=l.length∧s12=.int .i64 i∧ah (o4++gQ (l.take i)=oi)∧ah (oi.length=o4.length+8*i)∧ah (Pq w0.heap.size wx g vi oi)∧ah (Below w0.heap.size w0 wx)∧ah (Fr g w wx))
 case atStart=>exact⟨0,v4,o4,by omega,rfl,⟨by simp[gQ]⟩,⟨by omega⟩,MP,iM,HF4⟩
 case round=>
  clear MP iM HF4;obtain⟨i,vi,oi,hig,rfl,HOi,HLi,WC,WE,HFi⟩:=hrel;by_cases hi:i<l.length
  ·have hd:decide ((i:Int)<(l.length:Int))=true:=decide_eq_true aj;have hd2:decide (i<l.length)=true:=decide_eq_true hi;obtain⟨ad,hA,r0,r1⟩:=FZ (Kd.aC HR.out WE.out) i hi
   obtain⟨ru,Mh⟩:∃r,l[i]'hi=r:=⟨_,rfl⟩
   rw[Mh] at r0 r1
   have hnx:gQ (l.take (i+1))=gQ (l.take i)++(leB 4 ru.f0++leB 4 ru.f1):=by
    unfold gQ;rw[List.take_succ_eq_append_getElem hi,Mh,List.flatMap_append];simp
   have HNX:=ah.mk hnx;subst hA
   obtain⟨W1,hW1⟩:∃W1,wr.alloc (.cells #[.int .i64 ru.f0,.int .i64 ru.f1] 117)=W1:=⟨_,rfl⟩
   have hba:=(Below.refl wr.heap.size wr).alloc (Nat.le_refl _) (.cells #[.int .i64 ru.f0,.int .i64 ru.f1] 117);have hW3:=bF wr (.cells #[.int .i64 ru.f0,.int .i64 ru.f1] 117);rw[hW1] at hba hW3
   have q0:W1.cell? ⟨wr.heap.size,0,none⟩=some (.int .i64 ru.f0):=by rw[ak hW3];rfl
   have hgw:wr.heap.size≠g:=by have:=WC.out.lt;omega
   have HW1:=ah.mk (WC.out.below hba);have HW2:=ah.mk (WE.out.trans (hba.mono WE.out.size));have HW3:=ah.mk hW3;have UK:=ah.mk (HFi.out.trans (Fr.of_below hba));have hli:oi.length=o4.length+8*i:=HLi.out
   have hle:oi.length≤1099511627776:=by omega
   have ag8:8<oi.length:=by omega
   clear hnx hba hW3 hli WC WE HFi
   go_wp2_with fail
   refine (nL w0 W1 g vi oi ru.f0 4 HW1.out HW2.out aH ag8 hle).mono ?_;rintro e w5 ⟨rfl,⟨v5,h5⟩,hb5,Mi⟩;have MQ:=ah.mk h5;have kW:=ah.mk hb5;have HF5:=ah.mk (UK.out.trans Mi);have yR:=Mi.cell HW3.out hgw aH
   have y1:w5.cell? ⟨wr.heap.size,1,none⟩=some (.int .i64 ru.f1):=by rw[ak yR];rfl
   have UL:(oi++leB 4 ru.f0).length=oi.length+4:=by rw[List.length_append,aU]
   obtain⟨o5,uY⟩:∃o,oi++leB 4 ru.f0=o:=⟨_,rfl⟩
   rw[uY] at UL MQ;have E9:=ah.mk uY;have HL5:=ah.mk UL
   have aeb:o5.length≤1099511627776:=by have:=HLi.out;omega
   have acP:8<o5.length:=by omega
   clear h5 hb5 Mi yR HW1 HW2 HW3 UL uY r0 r1 q0 hle ag8 hW1
   go_wp2_with fail
   refine (nL w0 w5 g v5 o5 ru.f1 4 MQ.out kW.out aH acP aeb).mono ?_;rintro e w6 ⟨rfl,⟨v6,h6⟩,hb6,MR⟩;have ZG:=ah.mk h6;have oD:=ah.mk hb6;have HF6:=ah.mk (HF5.out.trans MR);clear h6 hb6 MR MQ kW y1 aeb acP
   go_wp2_with fail
   go_roundg (l.length - (i+1))
   case measure=>omega
   case rel=>exact⟨i+1,v6,o5++leB 4 ru.f1,by omega,by first|rfl|simp,⟨by rw[HNX.out,← E9.out,← HOi.out];simp only[List.append_assoc]⟩,⟨by rw[List.length_append,aU,HL5.out,HLi.out];omega⟩,ZG,oD,HF6⟩
  have hd:decide ((i:Int)<(l.length:Int))=false:=decide_eq_false aj;have hd2:decide (i<l.length)=false:=decide_eq_false hi;have hE:l.take i=l:=List.take_of_length_le aj;have HE:=ah.mk hE;clear hE
  go_wp2_with fail
  go_end0
  exact⟨rfl,⟨vi,by rw[← HE.out,HOi.out];exact WC.out⟩,WE.out,HFi.out⟩
theorem lC (s:ByteArray):(jW s).length=s.size+2:=by unfold jW;rw[List.length_append,aU,Go.Proofs.YtknihldkhedpkaaGreatDoorW.PrintWords.bytesOf_length];omega
theorem uZ (l:List Ru):(gQ l).length=8*l.length:=by
 induction l with
 | nil=>rfl
 | cons r l ih=>unfold gQ at *;rw[List.flatMap_cons,List.length_append,ih,List.length_append,aU,aU,List.length_cons];omega
theorem lD (l:List Ru):(jS l).length=8*l.length+4:=by unfold jS;rw[List.length_append,aU,uZ];omega
theorem UM (w0 w:World) (g:Nat) (v0:Value) (o0:List Int) (x:It) (A4:Option Addr) (c4:Nat) (A5:Option Addr) (c5:Nat) (H:Pq w0.heap.size w g v0 o0) (hb:Below w0.heap.size w0 w) (h8:8<o0.length) (hl:o0.length≤268435456) (hs:Sm x)
  (h4:Kd.C dw w0 A4 x.f4.length x.f4) (h5:Kd.C (Kd.int .u8) w0 A5 x.f5.length x.f5) (l4:x.f4.length≤c4) (l5:x.f5.length≤c5) :
  Calls Tryz.prog 104 #[.pointer (some ⟨g,0,none⟩),.agg #[.int .i64 x.f0,.string x.f1,.string x.f2,.int .i64 x.f3,.slice A4 x.f4.length c4,.slice A5 x.f5.length c5]] w fun e w'=>e=.returned (.tuple #[])∧(∃v',Pq w0.heap.size w' g v' (o0++fA x))∧Below w0.heap.size w0 w'∧Fr g w w':=by
 obtain⟨W1,hW1⟩:∃W1,w.alloc (.cells #[.int .i64 x.f0,.string x.f1,.string x.f2,.int .i64 x.f3,.slice A4 x.f4.length c4,.slice A5 x.f5.length c5] 29)=W1:=⟨_,rfl⟩
 have hba:=(Below.refl w.heap.size w).alloc (Nat.le_refl _) (.cells #[.int .i64 x.f0,.string x.f1,.string x.f2,.int .i64 x.f3,.slice A4 x.f4.length c4,.slice A5 x.f5.length c5] 29);have hbk:=bF w (.cells #[.int .i64 x.f0,.string x.f1,.string x.f2,.int .i64 x.f3,.slice A4 x.f4.length c4,.slice A5 x.f5.length c5] 29);rw[hW1] at hba hbk
 have hgn:w.heap.size≠g:=by have:=H.lt;omega
 have amg:W1.cell? ⟨w.heap.size,0,none⟩=some (.int .i64 x.f0):=by rw[ak hbk];rfl
 have HP0:=ah.mk (H.below hba);have HB0:=ah.mk (hb.trans (hba.mono hb.size));have HF0:=ah.mk (Fr.of_below (g:=g) hba);have ZH:=ah.mk hbk;have HR4:=ah.mk h4;have nE:=ah.mk h5;have HS:=ah.mk hs;have hsp:=hs.p;have hst:=hs.t;have hsr:=hs.r;have hsd:=hs.d;clear H hb hba hbk hs h4 h5
 go_enter Tryz.func104,Tryz.ntmps104
 go_wp2_with fail
 try rw[hW1]
 refine (nL w0 W1 g v0 o0 x.f0 1 HP0.out HB0.out aH h8 aj).mono ?_;rintro e w1 ⟨rfl,⟨v1,h1⟩,hb1,hf1⟩;have UK:=ah.mk (HF0.out.trans hf1);have jH:=ah.mk (hf1.cell ZH.out hgn aH)
 have amh:w1.cell? ⟨w.heap.size,0,none⟩=some (.int .i64 x.f0):=by rw[ak jH.out];rfl
 have ami:w1.cell? ⟨w.heap.size,1,none⟩=some (.string x.f1):=by rw[ak jH.out];rfl
 clear hf1;clear hW1 amg
 have hl1:(o0++leB 1 x.f0).length=o0.length+1:=by rw[List.length_append];rw[aU]
 obtain⟨o1,ho1⟩:∃o,o0++leB 1 x.f0=o:=⟨_,rfl⟩
 rw[ho1] at hl1 h1;have wT:=ah.mk h1;have HB1:=ah.mk hb1;have zP:=ah.mk ho1
 have h81:8<o1.length:=by omega
 have hu1:o1.length≤278435456:=by omega
 clear h1 hb1 ho1 hl1
 go_wp2_with fail
 refine (yc w0 w1 g v1 o1 x.f1 wT.out HB1.out h81 aj aj).mono ?_;rintro e w2 ⟨rfl,⟨v2,h2⟩,hb2,hf2⟩;have FR:=ah.mk (UK.out.trans hf2);have jG:=ah.mk (hf2.cell jH.out hgn aH)
 have amj:w2.cell? ⟨w.heap.size,0,none⟩=some (.int .i64 x.f0):=by rw[ak jG.out];rfl
 have amk:w2.cell? ⟨w.heap.size,2,none⟩=some (.string x.f2):=by rw[ak jG.out];rfl
 have aml:w2.cell? ⟨w.heap.size,3,none⟩=some (.int .i64 x.f3):=by rw[ak jG.out];rfl
 clear hf2;clear amh ami
 have hl2:(o1++jW x.f1).length=o1.length+(x.f1.size+2):=by rw[List.length_append];rw[lC]
 obtain⟨o2,ho2⟩:∃o,o1++jW x.f1=o:=⟨_,rfl⟩
 rw[ho2] at hl2 h2;have wS:=ah.mk h2;have HB2:=ah.mk hb2;have yS:=ah.mk ho2
 have h82:8<o2.length:=by omega
 have hu2:o2.length≤288435456:=by omega
 clear h2 hb2 ho2 hl2;have HO:=ah.mk (show o0++(leB 1 x.f0++jW x.f1)=o2 by rw[← yS.out,← zP.out,List.append_assoc]);by_cases k1:x.f0=1
 ·have t1:(x.f0 == 1)=true:=beq_iff_eq.2 k1;have HK:=ah.mk k1;clear k1
  go_wp2_with fail
  refine (nL w0 w2 g v2 o2 x.f3 8 wS.out HB2.out aH h82 aj).mono ?_;rintro e w3 ⟨rfl,⟨v3,h3⟩,hb3,hf3⟩;have OC:=ah.mk (FR.out.trans hf3);have ug:=ah.mk (hf3.cell jG.out hgn aH)
  have amm:w3.cell? ⟨w.heap.size,4,none⟩=some (.slice A4 x.f4.length c4):=by rw[ak ug.out];rfl
  clear hf3;clear amj amk aml
  have hl3:(o2++leB 8 x.f3).length=o2.length+8:=by rw[List.length_append];rw[aU]
  obtain⟨o3,ho3⟩:∃o,o2++leB 8 x.f3=o:=⟨_,rfl⟩
  rw[ho3] at hl3 h3;have OJ:=ah.mk h3;have HB3:=ah.mk hb3;have Jr:=ah.mk ho3
  have h83:8<o3.length:=by omega
  have hu3:o3.length≤298435456:=by omega
  clear h3 hb3 ho3 hl3
  go_wp2_with fail
  refine (Dh w0 w3 g v3 o3 x.f4 A4 c4 OJ.out HB3.out h83 aj aj HR4.out l4).mono ?_;rintro e w4 ⟨rfl,⟨v4,h4⟩,hb4,E8⟩;have HF4:=ah.mk (OC.out.trans E8);have Fa:=ah.mk (E8.cell ug.out hgn aH)
  have arZ:w4.cell? ⟨w.heap.size,5,none⟩=some (.slice A5 x.f5.length c5):=by rw[ak Fa.out];rfl
  clear E8;clear amm
  have hl4:(o3++jS x.f4).length=o3.length+(8*x.f4.length+4):=by rw[List.length_append];rw[lD]
  obtain⟨o4,pV⟩:∃o,o3++jS x.f4=o:=⟨_,rfl⟩
  rw[pV] at hl4 h4;have MP:=ah.mk h4;have iM:=ah.mk hb4;have Di:=ah.mk pV
  have h84:8<o4.length:=by omega
  have hu4:o4.length≤308435456:=by omega
  clear h4 hb4 pV hl4
  have hfin:∀w' v',Pq w0.heap.size w' g v' (o4++x.f5)→Pq w0.heap.size w' g v' (o0++fA x):=by
   intro w' v' h;unfold fA;rw[if_pos HK.out];rw[← Di.out,← Jr.out,← HO.out] at h
   simpa only[List.append_assoc,jW,jS] using h
  have Bb:=ah.mk hfin;clear hfin;have c0:=MP.out.cell;obtain⟨A,c,hv⟩:=MP.out.slice;subst hv;have Pj:=ah.mk (MP.out.below (w1:=w4.drew) (bf (Below.refl _ _)));have Dj:=ah.mk (bf iM.out);have CW:=ah.mk (Kd.aC (Kd.aC nE.out iM.out) (bf (Below.refl w4.heap.size w4)));have Ze:=ah.mk (HF4.out.trans (Fr.of_below (g:=g) (bf (Below.refl w4.heap.size w4))))
  go_wp2_with fail
  go_region_law ((refine p9 (w0:=w0) .u8 w0.heap.size rfl (.tmp 28) (.tmp 30) 27 5 1 rfl Tryz.underlying27 info5 aH (.slice A o4.length c) o4 x.f5 A5 x.f5.length c5 (fun _=>True) rfl rfl (fun _ _=>trivial) Pj.out.row CW.out Dj.out Dj.out.size aj ?_;intro v7 w7 ho hb hg _h;have Eb:=ah.mk ho;have HG7:=ah.mk hg;have CX:=ah.mk hb;obtain⟨cF,fF,lF⟩:=Pj.out.cells hg;clear ho hb hg _h;obtain⟨A7,c7,hv7⟩:=Kd.bP Eb.out;subst hv7))
  all_goals (
   have hO:=Eb.out;simp only[List.length_append] at hO
   go_wp2_with fail
   go_end0
   exact⟨rfl,⟨_,Bb.out _ _ (Pj.out.put HG7.out hO)⟩,CX.out.setCell Pj.out.low _,Ze.out.trans ((Fr.Kz Pj.out HG7.out).trans (Fr.set _ _ _))⟩)
 have t1:(x.f0 == 1)=false:=beq_eq_false_iff_ne.2 k1;by_cases k3:x.f0=3∨x.f0=4
 ·have t3:(x.f0 == 3)=true∨((x.f0 == 3)=false∧(x.f0 == 4)=true):=by
   by_cases h:x.f0=3
   ·exact .inl (beq_iff_eq.2 h)
   exact .inr ⟨beq_eq_false_iff_ne.2 h,beq_iff_eq.2 aj⟩
  have HK:=ah.mk k3;have HKn:=ah.mk k1;clear k1 k3
  have hfin:∀w' v',Pq w0.heap.size w' g v' (o2++jW x.f2)→Pq w0.heap.size w' g v' (o0++fA x):=by
   intro w' v' h;unfold fA;rw[if_neg HKn.out,if_pos HK.out];rw[← HO.out] at h
   simpa only[List.append_assoc,jW,jS] using h
  have Bb:=ah.mk hfin;clear hfin
  rcases t3 with t3|⟨t3,t4⟩
  all_goals (
   go_wp2_with fail
   refine (yc w0 w2 g v2 o2 x.f2 wS.out HB2.out h82 aj aj).mono ?_;rintro e w3 ⟨rfl,⟨v3,h3⟩,hb3,hf3⟩;have OC:=ah.mk (FR.out.trans hf3);clear hf3
   go_wp2_with fail
   go_end0
   exact⟨rfl,⟨v3,Bb.out _ _ h3⟩,hb3,OC.out⟩)
 have t3:(x.f0 == 3)=false:=beq_eq_false_iff_ne.2 aj;have t4:(x.f0 == 4)=false:=beq_eq_false_iff_ne.2 aj
 have hfin:Pq w0.heap.size w2 g v2 (o0++fA x):=by
  have h:=wS.out;unfold fA;rw[if_neg k1,if_neg k3,List.append_nil];rw[← HO.out] at h
  simpa only[List.append_assoc,jW] using h
 have Bb:=ah.mk hfin;clear k1 k3 hfin
 go_wp2_with fail
 go_end0
 exact⟨rfl,⟨v2,Bb.out⟩,HB2.out,FR.out⟩
end Go.Proofs.YtknihldkhedpkaaGreatDoor
end
