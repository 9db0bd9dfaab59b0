import Derived.Test.YtknihldkhedpkaaGreatDoorYYG17
import Derived.Test.YtknihldkhedpkaaGreatDoorYYG15
set_option linter.all false
set_option maxHeartbeats 16000000
set_option maxRecDepth 100000
section
namespace Go.Proofs.YtknihldkhedpkaaGreatDoor
open Go.RowKit Go.Lib
open Go.Proofs.YtknihldkhedpkaaGreatDoorW.PrintWords Go.Proofs.YtknihldkhedpkaaGreatDoorW.PrintLast Go.Proofs.YtknihldkhedpkaaGreatDoor.PT
structure SmC (c:pR):Prop where
 i:Sm c.f1
 s:c.f2.length≤1048576
theorem Ma (w0 w:World) (g:Nat) (v0:Value) (o0:List Int) (c:pR) (A4:Option Addr) (c4:Nat) (A5:Option Addr) (c5:Nat) (A6:Option Addr) (c6:Nat) (H:Pq w0.heap.size w g v0 o0) (hb:Below w0.heap.size w0 w) (h8:8<o0.length) (hl:o0.length≤16777216) (hs:SmC c)
  (h4:Kd.C cO w0 A4 c.f1.f4.length c.f1.f4) (h5:Kd.C (Kd.int .u8) w0 A5 c.f1.f5.length c.f1.f5) (h6:Kd.C cO w0 A6 c.f2.length c.f2) (l4:c.f1.f4.length≤c4) (l5:c.f1.f5.length≤c5) (l6:c.f2.length≤c6) :
  Calls Tryz.prog 65 #[.pointer (some ⟨g,0,none⟩),.agg #[.int .i64 c.f0,.int .i64 c.f1.f0,.string c.f1.f1,.string c.f1.f2,.int .i64 c.f1.f3,.slice A4 c.f1.f4.length c4,.slice A5 c.f1.f5.length c5,.slice A6 c.f2.length c6]] w fun e w'=>e=.returned (.tuple #[])∧(∃v',Pq w0.heap.size w' g v' (o0++qB c))∧Below w0.heap.size w0 w'∧Fr g w w':=by
 obtain⟨W1,hW1⟩:∃W1,w.alloc (.cells #[.int .i64 c.f0,.int .i64 c.f1.f0,.string c.f1.f1,.string c.f1.f2,.int .i64 c.f1.f3,.slice A4 c.f1.f4.length c4,.slice A5 c.f1.f5.length c5,.slice A6 c.f2.length c6] 31)=W1:=⟨_,rfl⟩
 have hba:=(Below.refl w.heap.size w).alloc (Nat.le_refl _) (.cells #[.int .i64 c.f0,.int .i64 c.f1.f0,.string c.f1.f1,.string c.f1.f2,.int .i64 c.f1.f3,.slice A4 c.f1.f4.length c4,.slice A5 c.f1.f5.length c5,.slice A6 c.f2.length c6] 31);have hbk:=bK w (.cells #[.int .i64 c.f0,.int .i64 c.f1.f0,.string c.f1.f1,.string c.f1.f2,.int .i64 c.f1.f3,.slice A4 c.f1.f4.length c4,.slice A5 c.f1.f5.length c5,.slice A6 c.f2.length c6] 31);rw[hW1] at hba hbk
 have hgn:w.heap.size≠g:=by have:=H.lt;omega
 have ajz:W1.cell? ⟨w.heap.size,0,none⟩=some (.int .i64 c.f0):=by rw[ak hbk];rfl
 have HP0:=ah.mk (H.below hba);have HB0:=ah.mk (hb.trans (hba.mono hb.size));have Wu:=ah.mk (Fr.of_below (g:=g) hba);have Ld:=ah.mk hbk;have HR4:=ah.mk h4;have kE:=ah.mk h5;have sF:=ah.mk h6;have HS:=ah.mk hs;have hsp:=hs.i.p;have hst:=hs.i.t;have hsr:=hs.i.r;have hsd:=hs.i.d;have hss:=hs.s;clear H hb hba hbk hs h4 h5 h6
 go_enter Tryz.func65,Tryz.ntmps65
 go_wp2_with fail
 try rw[hW1]
 refine (ni w0 W1 g v0 o0 c.f0 1 HP0.out HB0.out (by decide) h8 (by omega)).mono ?_;rintro e w1 ⟨rfl,⟨v1,h1⟩,hb1,hf1⟩;have Hg:=ah.mk (Wu.out.trans hf1);have jC:=ah.mk (hf1.cell Ld.out hgn (by decide))
 have ajA:w1.cell? ⟨w.heap.size,0,none⟩=some (.int .i64 c.f0):=by rw[ak jC.out];rfl
 have ajB:w1.cell? ⟨w.heap.size,1,none⟩=some (.int .i64 c.f1.f0):=by rw[ak jC.out];rfl
 have ajC:w1.cell? ⟨w.heap.size,2,none⟩=some (.string c.f1.f1):=by rw[ak jC.out];rfl
 have ajD:w1.cell? ⟨w.heap.size,3,none⟩=some (.string c.f1.f2):=by rw[ak jC.out];rfl
 have ajE:w1.cell? ⟨w.heap.size,4,none⟩=some (.int .i64 c.f1.f3):=by rw[ak jC.out];rfl
 have ajF:w1.cell? ⟨w.heap.size,5,none⟩=some (.slice A4 c.f1.f4.length c4):=by rw[ak jC.out];rfl
 have ajG:w1.cell? ⟨w.heap.size,6,none⟩=some (.slice A5 c.f1.f5.length c5):=by rw[ak jC.out];rfl
 have ajH:w1.cell? ⟨w.heap.size,7,none⟩=some (.slice A6 c.f2.length c6):=by rw[ak jC.out];rfl
 clear hf1;clear hW1 ajz
 have hl1:(o0++leB 1 c.f0).length=o0.length+1:=by rw[List.length_append];rw[aZ]
 obtain⟨o1,ho1⟩:∃o,o0++leB 1 c.f0=o:=⟨_,rfl⟩
 rw[ho1] at hl1 h1;have xB:=ah.mk h1;have HB1:=ah.mk hb1;have Eb:=ah.mk ho1
 have h81:8<o1.length:=by omega
 have hu1:o1.length≤26777216:=by omega
 clear h1 hb1 ho1 hl1
 obtain⟨W2,hW2⟩:∃W2,w1.alloc (.cells #[.int .i64 c.f1.f0,.string c.f1.f1,.string c.f1.f2,.int .i64 c.f1.f3,.slice A4 c.f1.f4.length c4,.slice A5 c.f1.f5.length c5] 29)=W2:=⟨_,rfl⟩
 obtain⟨b2,abG⟩:∃b2,b2=w1.heap.size:=⟨_,rfl⟩
 have hbb:=(Below.refl w1.heap.size w1).alloc (Nat.le_refl _) (.cells #[.int .i64 c.f1.f0,.string c.f1.f1,.string c.f1.f2,.int .i64 c.f1.f3,.slice A4 c.f1.f4.length c4,.slice A5 c.f1.f5.length c5] 29);have hbx:=bK w1 (.cells #[.int .i64 c.f1.f0,.string c.f1.f1,.string c.f1.f2,.int .i64 c.f1.f3,.slice A4 c.f1.f4.length c4,.slice A5 c.f1.f5.length c5] 29);rw[hW2] at hbb hbx
 have hgx:b2≠g:=by have:=xB.out.lt;omega
 have HX2:=ah.mk (show W2.heap[b2]?=some (.cells #[.int .i64 c.f1.f0,.string c.f1.f1,.string c.f1.f2,.int .i64 c.f1.f3,.slice A4 c.f1.f4.length c4,.slice A5 c.f1.f5.length c5] 29 (0,0)) by rw[abG];exact hbx);have Dm:=ah.mk (xB.out.below hbb);have HB2:=ah.mk (HB1.out.trans (hbb.mono HB1.out.size));have En:=ah.mk (Hg.out.trans (Fr.of_below (g:=g) hbb));have iK:=ah.mk (aD jC.out hbb)
 have ajI:W2.cell? ⟨w.heap.size,0,none⟩=some (.int .i64 c.f0):=by rw[ak iK.out];rfl
 have ajJ:W2.cell? ⟨b2,1,none⟩=some (.string c.f1.f1):=by rw[ak HX2.out];rfl
 clear hbb hbx
 go_upto_region 3 with (fail)
 try rw[hW2]
 rw[← abG];clear hW2 abG ajA ajB ajC ajD ajE ajF ajG ajH;by_cases k1:c.f0=1
 ·have t1:(c.f0 == 1)=true:=beq_iff_eq.2 k1;have HK:=ah.mk k1;clear k1
  have hfin:∀w' v',Pq w0.heap.size w' g v' (o1++jf c.f1.f1)→Pq w0.heap.size w' g v' (o0++qB c):=by
   intro w' v' h;unfold qB;rw[if_pos HK.out];rw[← Eb.out] at h
   simpa only[List.append_assoc,jf,jv] using h
  have zT:=ah.mk hfin;clear hfin
  go_wp2_with fail
  refine (xJ w0 W2 g v1 o1 c.f1.f1 Dm.out HB2.out h81 (by omega) (by omega)).mono ?_;rintro e w3 ⟨rfl,⟨v3,h3⟩,hb3,hf3⟩;have xG:=ah.mk (En.out.trans hf3);clear hf3
  go_wp2_with fail
  go_end0
  exact⟨rfl,⟨v3,zT.out _ _ h3⟩,hb3,xG.out⟩
 ·have t1:(c.f0 == 1)=false:=beq_eq_false_iff_ne.2 k1;have Dl:=ah.mk k1;clear k1;by_cases k2:c.f0=2
  ·have t2:(c.f0 == 2)=true:=beq_iff_eq.2 k2;have HK:=ah.mk k2;clear k2
   have hfin:∀w' v',Pq w0.heap.size w' g v' (o1++iD c.f1)→Pq w0.heap.size w' g v' (o0++qB c):=by
    intro w' v' h;unfold qB;rw[if_neg Dl.out,if_pos HK.out];rw[← Eb.out] at h
    simpa only[List.append_assoc,jf,jv] using h
   have zT:=ah.mk hfin;clear hfin
   go_wp2_with (refine dR (.load 29 (.tmp 4)) rfl ?_;refine wpList_load_row rfl _ _ rfl b2 rfl 29 #[.int .i64 c.f1.f0,.string c.f1.f1,.string c.f1.f2,.int .i64 c.f1.f3,.slice A4 c.f1.f4.length c4,.slice A5 c.f1.f5.length c5] (0,0) _ HX2.out Tryz.underlying29 rfl (by kernel_rfl) ?_)
   refine (Sk w0 W2 g v1 o1 c.f1 A4 c4 A5 c5 Dm.out HB2.out h81 (by omega) HS.out.i HR4.out kE.out l4 l5).mono ?_;rintro e w3 ⟨rfl,⟨v3,h3⟩,hb3,hf3⟩;have xG:=ah.mk (En.out.trans hf3);clear hf3
   go_wp2_with fail
   go_end0
   exact⟨rfl,⟨v3,zT.out _ _ h3⟩,hb3,xG.out⟩
  ·have t2:(c.f0 == 2)=false:=beq_eq_false_iff_ne.2 k2;have JR:=ah.mk k2;clear k2;by_cases k3:c.f0=3
   ·have t3:(c.f0 == 3)=true:=beq_iff_eq.2 k3;have HK:=ah.mk k3;clear k3
    have hfin:∀w' v',Pq w0.heap.size w' g v' (o1++jf c.f1.f1++leB 8 c.f1.f3++jv c.f1.f4++jv c.f2++c.f1.f5)→Pq w0.heap.size w' g v' (o0++qB c):=by
     intro w' v' h;unfold qB;rw[if_neg Dl.out,if_neg JR.out,if_pos HK.out];rw[← Eb.out] at h
     simpa only[List.append_assoc,jf,jv] using h
    have zT:=ah.mk hfin;clear hfin
    go_wp2_with fail
    refine (xJ w0 W2 g v1 o1 c.f1.f1 Dm.out HB2.out h81 (by omega) (by omega)).mono ?_;rintro e w3 ⟨rfl,⟨v3,h3⟩,hb3,hf3⟩;have xG:=ah.mk (En.out.trans hf3);have qg:=ah.mk (hf3.cell iK.out hgn (by decide));have WA:=ah.mk (hf3.cell HX2.out hgx (by decide))
    have ajK:w3.cell? ⟨b2,3,none⟩=some (.int .i64 c.f1.f3):=by rw[ak WA.out];rfl
    clear hf3;clear ajJ ajI
    have hl3:(o1++jf c.f1.f1).length=o1.length+(c.f1.f1.size+2):=by rw[List.length_append];rw[mg]
    obtain⟨o3,ho3⟩:∃o,o1++jf c.f1.f1=o:=⟨_,rfl⟩
    rw[ho3] at hl3 h3;have IB:=ah.mk h3;have HB3:=ah.mk hb3;have Z7:=ah.mk ho3
    have h83:8<o3.length:=by omega
    have hu3:o3.length≤46777216:=by omega
    clear h3 hb3 ho3 hl3
    go_wp2_with fail
    refine (ni w0 w3 g v3 o3 c.f1.f3 8 IB.out HB3.out (by decide) h83 (by omega)).mono ?_;rintro e w4 ⟨rfl,⟨v4,h4⟩,hb4,tX⟩;have Hf:=ah.mk (xG.out.trans tX);have vT:=ah.mk (tX.cell qg.out hgn (by decide));have Lb:=ah.mk (tX.cell WA.out hgx (by decide))
    have ajL:w4.cell? ⟨b2,4,none⟩=some (.slice A4 c.f1.f4.length c4):=by rw[ak Lb.out];rfl
    clear tX;clear ajK
    have hl4:(o3++leB 8 c.f1.f3).length=o3.length+8:=by rw[List.length_append];rw[aZ]
    obtain⟨o4,NS⟩:∃o,o3++leB 8 c.f1.f3=o:=⟨_,rfl⟩
    rw[NS] at hl4 h4;have Lm:=ah.mk h4;have mH:=ah.mk hb4;have HO4:=ah.mk NS
    have h84:8<o4.length:=by omega
    have hu4:o4.length≤56777216:=by omega
    clear h4 hb4 NS hl4
    go_wp2_with fail
    refine (BU w0 w4 g v4 o4 c.f1.f4 A4 c4 Lm.out mH.out h84 (by omega) (by omega) HR4.out l4).mono ?_;rintro e w5 ⟨rfl,⟨v5,h5⟩,hb5,G8⟩;have NK:=ah.mk (Hf.out.trans G8);have oV:=ah.mk (G8.cell vT.out hgn (by decide));have He:=ah.mk (G8.cell Lb.out hgx (by decide))
    have ajM:w5.cell? ⟨w.heap.size,7,none⟩=some (.slice A6 c.f2.length c6):=by rw[ak oV.out];rfl
    clear G8;clear ajL
    have hl5:(o4++jv c.f1.f4).length=o4.length+(8*c.f1.f4.length+4):=by rw[List.length_append];rw[om]
    obtain⟨o5,NT⟩:∃o,o4++jv c.f1.f4=o:=⟨_,rfl⟩
    rw[NT] at hl5 h5;have G9:=ah.mk h5;have iV:=ah.mk hb5;have HO5:=ah.mk NT
    have h85:8<o5.length:=by omega
    have hu5:o5.length≤66777216:=by omega
    clear h5 hb5 NT hl5
    go_wp2_with fail
    refine (BU w0 w5 g v5 o5 c.f2 A6 c6 G9.out iV.out h85 (by omega) (by omega) sF.out l6).mono ?_;rintro e w6 ⟨rfl,⟨v6,h6⟩,hb6,Hq⟩;have Wv:=ah.mk (NK.out.trans Hq);have zF:=ah.mk (Hq.cell oV.out hgn (by decide));have HX6:=ah.mk (Hq.cell He.out hgx (by decide))
    have aoO:w6.cell? ⟨b2,5,none⟩=some (.slice A5 c.f1.f5.length c5):=by rw[ak HX6.out];rfl
    clear Hq;clear ajM
    have QD:(o5++jv c.f2).length=o5.length+(8*c.f2.length+4):=by rw[List.length_append];rw[om]
    obtain⟨o6,ho6⟩:∃o,o5++jv c.f2=o:=⟨_,rfl⟩
    rw[ho6] at QD h6;have TM:=ah.mk h6;have qd:=ah.mk hb6;have HO6:=ah.mk ho6
    have h86:8<o6.length:=by omega
    have hu6:o6.length≤76777216:=by omega
    clear h6 hb6 ho6 QD;have HOO:=ah.mk (show o1++jf c.f1.f1++leB 8 c.f1.f3++jv c.f1.f4++jv c.f2=o6 by rw[← HO6.out,← HO5.out,← HO4.out,← Z7.out]);rw[HOO.out] at zT;have c0:=TM.out.cell;obtain⟨A,cx,hv⟩:=TM.out.slice;subst hv;have NU:=ah.mk (TM.out.below (w1:=w6.drew) (bC (Below.refl _ _)));have vP:=ah.mk (bC qd.out);have yA:=ah.mk (Kd.aC (Kd.aC kE.out qd.out) (bC (Below.refl w6.heap.size w6)));have HFD:=ah.mk (Wv.out.trans (Fr.of_below (g:=g) (bC (Below.refl w6.heap.size w6))))
    go_wp2_with fail
    go_region_law ((refine o9 (w0:=w0) .u8 w0.heap.size rfl (.tmp 46) (.tmp 48) 27 5 1 rfl Tryz.underlying27 info5 (by decide) (.slice A o6.length cx) o6 c.f1.f5 A5 c.f1.f5.length c5 (fun _=>True) rfl rfl (fun _ _=>trivial) NU.out.row yA.out vP.out vP.out.size (by omega) ?_;intro v7 w7 ho hb hg _h;have Wt:=ah.mk ho;have WR:=ah.mk hg;have yh:=ah.mk hb;obtain⟨cF,fF,lF⟩:=NU.out.cells hg;clear ho hb hg _h;obtain⟨A7,c7,hv7⟩:=Kd.bH Wt.out;subst hv7))
    all_goals (
     have hO:=Wt.out;simp only[List.length_append] at hO
     go_wp2_with fail
     go_end0
     exact⟨rfl,⟨_,zT.out _ _ (NU.out.put WR.out hO)⟩,yh.out.setCell NU.out.low _,HFD.out.trans ((Fr.JY NU.out WR.out).trans (Fr.set _ _ _))⟩)
   ·have t3:(c.f0 == 3)=false:=beq_eq_false_iff_ne.2 k3;have HK:=ah.mk k3;clear k3
    have hfin:Pq w0.heap.size W2 g v1 (o0++qB c):=by
     have h:=Dm.out;unfold qB;rw[if_neg Dl.out,if_neg JR.out,if_neg HK.out,List.append_nil,Eb.out];exact h
    have zT:=ah.mk hfin;clear hfin
    go_wp2_with fail
    go_end0
    exact⟨rfl,⟨v1,zT.out⟩,HB2.out,En.out⟩
theorem IW {most:Int}:∀(l:List Ru) (last all n:Int),gH most last all l=some n→(l.length:Int)≤n - all
 | [],last,all,n,h=>by
  rw[gH] at h;cases h;simp
 | r::l,last,all,n,h=>by
  rw[gH] at h;split at h
  ·cases h
  ·have:=IW l r.f1 _ n h;rw[List.length_cons];omega
theorem Ez {l:List Ru} {most n:Int} (h:iQ l most=some n):(l.length:Int)≤n:=by
 have:=IW l (-1) 0 n h;omega
theorem IX {x:It} {n:Int} (h:fT x=some n):(x.f4.length:Int)≤20000:=by
 have h1:=zQ h;have h2:=Ez (wI h).2.2;omega
theorem wL {x:It} (h:jo x=true):x.f3=0∧x.f4.length=0∧x.f5.length=0:=by
 unfold jo at h;simp only[Bool.and_eq_true,decide_eq_true_eq] at h;exact⟨h.1.1,h.1.2,h.2⟩
theorem QH {x:It} (h:je x=true):x.f2.size≤1023∧x.f4.length≤20000∧x.f5.length≤10240000:=by
 by_cases k1:x.f0=1
 ·rw[pu1 k1] at h
  cases hs:fT x with
  | none=>rw[hs] at h;cases h
  | some n=>
   rw[hs] at h;simp only[Bool.and_eq_true,decide_eq_true_eq] at h;have h1:=zQ hs;have h2:=IX hs;omega
 ·by_cases k2:x.f0=2
  ·rw[pu2 k1 k2] at h;simp only[Bool.and_eq_true,decide_eq_true_eq] at h;have:=wL h.1;omega
  ·by_cases k3:x.f0=3
   ·rw[pu3 k1 k2 k3] at h;simp only[Bool.and_eq_true,decide_eq_true_eq] at h;have:=wL h.1;omega
   ·by_cases k4:x.f0=4
    ·rw[pu4 k1 k2 k3 k4] at h;simp only[Bool.and_eq_true,decide_eq_true_eq] at h;have:=wL h.1;have:=oh h.2.1;omega
    ·rw[pu5 k1 k2 k3 k4] at h;cases h
theorem aao {c:pR} (h:kQ c=true):c.f1.f2.size≤1023∧c.f1.f4.length≤20000∧c.f1.f5.length≤10240000∧c.f2.length≤20000:=by
 unfold kQ at h;split at h
 ·simp only[Bool.and_eq_true,decide_eq_true_eq] at h;omega
 ·split at h
  ·simp only[Bool.and_eq_true,decide_eq_true_eq] at h;have:=QH h.2;omega
  ·split at h
   ·unfold jT at h
    cases hs:fT c.f1 with
    | none=>rw[hs] at h;cases h
    | some n=>
     rw[hs] at h;dsimp only at h;split at h
     ·cases h
     ·rename_i hk
      cases ha:iQ c.f2 16522 with
      | none=>rw[ha] at h;cases h
      | some m=>
       rw[ha] at h;simp only[Bool.and_eq_true,decide_eq_true_eq] at h;have h1:=IX hs;have h2:=L8 ha;have h3:=Ez ha
       have h4:c.f1.f2.size=0:=Classical.byContradiction fun hh=>hk (.inr hh)
       omega
   ·cases h
theorem IY:∀(l:List pR) (last:ByteArray),fU last l=true→∀c∈l,SmC c
 | [],_,_,c,hc=>by cases hc
 | d::l,last,h,c,hc=>by
  rw[fU] at h;simp only[Bool.and_eq_true] at h
  rcases List.mem_cons.1 hc with rfl|hc
  ·have h1:=oh h.1;have h2:=aao h.2.2.1;exact⟨⟨by omega,by omega,by omega,by omega⟩,by omega⟩
  ·exact IY l _ h.2.2.2 c hc
theorem wM (s:ByteArray):∀b∈Go.Proofs.YtknihldkhedpkaaGreatDoorW.PrintWords.bytesOf s,0≤b∧b≤255:=by
 intro b hb;unfold Go.Proofs.YtknihldkhedpkaaGreatDoorW.PrintWords.bytesOf at hb;obtain⟨c,_,rfl⟩:=List.mem_map.1 hb;have:=c.toNat_lt;omega
theorem iG {a b:List Int} (ha:∀x∈a,0≤x∧x≤255) (hb:∀x∈b,0≤x∧x≤255):∀x∈a++b,0≤x∧x≤255:=fun x hx=>(List.mem_append.1 hx).elim (ha x) (hb x)
theorem Mc (s:ByteArray):∀b∈jf s,0≤b∧b≤255:=iG (fM _ _) (wM s)
theorem IZ (l:List Ru):∀b∈jB l,0≤b∧b≤255:=by
 intro b hb;unfold jB at hb;obtain⟨r,_,hr⟩:=List.mem_flatMap.1 hb;exact iG (fM _ _) (fM _ _) b hr
theorem Md (l:List Ru):∀b∈jv l,0≤b∧b≤255:=iG (fM _ _) (IZ l)
theorem UF {c:pR} (h:tH c):∀b∈qB c,0≤b∧b≤255:=by
 unfold qB;refine iG (fM _ _) ?_;split
 ·exact Mc _
 ·split
  ·unfold iD;refine iG (iG (iG (fM _ _) (fM _ _)) (wM _)) ?_;split
   ·exact iG (iG (iG (fM _ _) (fM _ _)) (IZ _)) h.i.b
   ·split
    ·exact iG (fM _ _) (wM _)
    ·intro b hb;cases hb
  ·split
   ·exact iG (iG (iG (iG (Mc _) (fM _ _)) (Md _)) (Md _)) h.i.b
   ·intro b hb;cases hb
theorem I4:∀b∈iE,0≤b∧b≤255:=by decide
theorem I5 (b0 g0:Int) (A0:Option Addr) (c0:Nat) (l:List pR) (w:World) (hr:Kd.C GZ w A0 l.length l) (hc:l.length≤c0) (hf:∀x∈l,tH x) (h0:0≤b0) (h1:b0≤4294967295) (h2:0≤g0) (h3:g0≤4294967295) :
  Calls Tryz.prog 32 #[.agg #[.int .i64 b0,.int .i64 g0,.slice A0 l.length c0]] w fun e w'=>∃v,e=.returned (.tuple #[v,.int .i64 (gL b0 g0 l).2])∧Kd.R (Kd.int .u8) 5 w' w.heap.size (fun _=>True) v (gL b0 g0 l).1∧Below w.heap.size w w':=by
 have kc:=fun (w:World) (C:Array Value) (n c:Nat)=>Lib.run_convert_bytes_const (P:=Tryz.prog) w 27 5 C n c Tryz.underlying27 Tryz.underlying5
 obtain⟨W1,hW1⟩:∃W1,w.alloc (.cells #[.int .i64 b0,.int .i64 g0,.slice A0 l.length c0] 24)=W1:=⟨_,rfl⟩
 have hbx:=bK w (.cells #[.int .i64 b0,.int .i64 g0,.slice A0 l.length c0] 24);have hb0:=(Below.refl w.heap.size w).alloc (Nat.le_refl _) (.cells #[.int .i64 b0,.int .i64 g0,.slice A0 l.length c0] 24);rw[hW1] at hbx hb0
 have p0:W1.cell? ⟨w.heap.size,0,none⟩=some (.int .i64 b0):=by rw[ak hbx];rfl
 have p1:W1.cell? ⟨w.heap.size,1,none⟩=some (.int .i64 g0):=by rw[ak hbx];rfl
 have p2:W1.cell? ⟨w.heap.size,2,none⟩=some (.slice A0 l.length c0):=by rw[ak hbx];rfl
 have hz:w.heap.size<W1.heap.size:=bD hbx;have HX0:=ah.mk hbx;have HB0:=ah.mk hb0;have HR:=ah.mk hr;have HF:=ah.mk hf;clear hbx hb0 hr hf;by_cases hbig:8192<l.length
 ·have d1:decide ((8192:Int)<(l.length:Int))=true:=decide_eq_true (by omega)
  have HP:ah (gL b0 g0 l=([],7)):=⟨by unfold gL;rw[if_pos hbig]⟩
  go_enter Tryz.func32,Tryz.ntmps32
  go_wp2_with fail
  go_ret2
  exact⟨.slice none 0 0,by rw[HP.out];rfl,by rw[HP.out];exact Kd.fA _ _ _ _ _,HB0.out⟩
 ·have d1:decide ((8192:Int)<(l.length:Int))=false:=decide_eq_false (by omega);have hrt:=UE b0 g0 A0 c0 l W1 (Kd.aC HR.out HB0.out) hc HF.out (by omega) h0 h1 h2 h3
  obtain⟨rt,NV⟩:∃b,rQ b0 g0 l=b:=⟨_,rfl⟩
  rw[NV] at hrt;have HRT:=ah.mk hrt;have HRE:=ah.mk NV;clear hrt NV
  cases rt with
  | false=>
   have HP:ah (gL b0 g0 l=([],180)):=⟨by unfold gL;rw[if_neg hbig,HRE.out];rfl⟩
   go_enter Tryz.func32,Tryz.ntmps32
   go_wp2_with (first|(refine dR (.load 24 (.tmp 1)) rfl ?_;refine wpList_load_row rfl _ _ rfl w.heap.size rfl 24 #[.int .i64 b0,.int .i64 g0,.slice A0 l.length c0] (0,0) _ HX0.out Tryz.underlying24 rfl (by kernel_rfl) ?_)|(go_at_call 63;refine HRT.out.mono ?_;rintro e w2 ⟨rfl,hb2⟩;have HB2:=ah.mk (HB0.out.trans (hb2.mono HB0.out.size));clear hb2))
   go_ret2
   exact⟨.slice none 0 0,by rw[HP.out];rfl,by rw[HP.out];exact Kd.fA _ _ _ _ _,HB2.out⟩
  | true=>
   have hsm:∀c∈l,SmC c:=by
    have h:=HRE.out;unfold rQ at h;simp only[Bool.and_eq_true] at h;exact IY l _ h.2.2.2.2
   have HSM:=ah.mk hsm
   have HPP:ah (kG l.length (iE++leB 4 b0++leB 4 g0) l=gL b0 g0 l):=⟨by unfold gL;rw[if_neg hbig,HRE.out,if_pos rfl]⟩
   clear hsm
   go_enter Tryz.func32,Tryz.ntmps32
   go_upto_region 5 with (first|(refine dR (.load 24 (.tmp 1)) rfl ?_;refine wpList_load_row rfl _ _ rfl w.heap.size rfl 24 #[.int .i64 b0,.int .i64 g0,.slice A0 l.length c0] (0,0) _ HX0.out Tryz.underlying24 rfl (by kernel_rfl) ?_)|(go_at_call 63;refine HRT.out.mono ?_;rintro e w2 ⟨rfl,hb2⟩;have HB2:=ah.mk hb2;clear hb2))
   clear hW1
   go_cut [4] (fun v4 wc=>∃g b,v4=.pointer (some ⟨g,0,none⟩)∧w.heap.size<g∧ah (Pg w.heap.size wc g b)∧ah (Below W1.heap.size W1 wc))
   case first=>
    go_wp2_with fail
    go_meet
    case rel=>
     have hz2:=HB2.out.size;exact⟨w2.heap.size+1,w2.heap.size,rfl,by omega,⟨⟨by have:=bK (w2.alloc (.cells #[Value.int .u8 118,.int .u8 108,.int .u8 112,.int .u8 97,.int .u8 116,.int .u8 99,.int .u8 104,.int .u8 1] 5 (8,9))) (.cells #[.slice (some ⟨w2.heap.size,0,none⟩) 8 8] 109);rwa [World.size_alloc] at this,aJ (bK _ _) _,by omega⟩⟩,⟨(HB2.out.alloc HB2.out.size _).alloc (by rw[World.size_alloc];omega) _⟩⟩
   case rest=>
    obtain⟨g,b,rfl,hg0,HG,HBc⟩:=hcut;have hx:=aD HX0.out HBc.out
    have q0:wc.cell? ⟨w.heap.size,0,none⟩=some (.int .i64 b0):=by rw[ak hx];rfl
    have HX:=ah.mk hx;have HB1:=ah.mk (HB0.out.trans (HBc.out.mono HB0.out.size))
    have hgn:w.heap.size≠g:=by omega
    clear hx p0 p1 p2 HX0 HBc HRT
    go_wp2_with fail
    refine (L9 w wc g iE b0 4 (.inl ⟨rfl,b,HG.out⟩) HB1.out (by decide) (by decide)).mono ?_;rintro e w3 ⟨rfl,h3,hb3,hf3⟩;have WA:=ah.mk (hf3.cell HX.out hgn (by decide))
    have q1:w3.cell? ⟨w.heap.size,1,none⟩=some (.int .i64 g0):=by rw[ak WA.out];rfl
    obtain⟨v3,h3⟩:=h3.pq (by rw[List.length_append,aZ];decide);have IB:=ah.mk h3;have HB3:=ah.mk hb3;clear h3 hb3 hf3 q0
    go_wp2_with fail
    refine (ni w w3 g v3 (iE++leB 4 b0) g0 4 IB.out HB3.out (by decide) (by rw[List.length_append,aZ];decide) (by rw[List.length_append,aZ];decide)).mono ?_;rintro e w4 ⟨rfl,⟨v4,h4⟩,hb4,tX⟩;have Lb:=ah.mk (tX.cell WA.out hgn (by decide))
    have q2:w4.cell? ⟨w.heap.size,2,none⟩=some (.slice A0 l.length c0):=by rw[ak Lb.out];rfl
    have Lm:=ah.mk h4;have mH:=ah.mk hb4
    have HW4:ah (∀x∈iE++leB 4 b0++leB 4 g0,0≤x∧x≤255):=⟨iG (iG I4 (fM _ _)) (fM _ _)⟩
    clear h4 hb4 tX q1 IB HB3 WA HG HB1 HX
    go_wp2_with fail
    go_loopg [29] l.length (fun gk s29 wx=>∃(i:Nat) (v:Value) (out:List Int),i+gk=l.length∧s29=.int .i64 i∧8<out.length∧out.length≤16777216∧ah (kG l.length out (l.drop i)=gL b0 g0 l)∧ah (Pq w.heap.size wx g v out)∧ah (Below w.heap.size w wx)∧ah (∀x∈out,0≤x∧x≤255)∧ah (wx.heap[w.heap.size]?=some (.cells #[.int .i64 b0,.int .i64 g0,.slice A0 l.length c0] 24 (0,0))))
    case atStart=>exact⟨0,v4,_,by omega,rfl,by rw[List.length_append,List.length_append,aZ,aZ];decide,by rw[List.length_append,List.length_append,aZ,aZ];decide,⟨by rw[List.drop_zero];exact HPP.out⟩,Lm,mH,HW4,Lb⟩
    case round=>
     clear Lm mH HW4 Lb q2 HPP;obtain⟨i,v,out,hig,rfl,h8,hlo,HGo,HP,HB,HW,HX⟩:=hrel;by_cases hi:i<l.length
     ·have hd:decide ((i:Int)<(l.length:Int))=true:=decide_eq_true (by omega);have hd2:decide (i<l.length)=true:=decide_eq_true hi;obtain⟨ad,A4,c4,A5,c5,A6,c6,hA,r0,r1,r2,r3,r4,r5,r6,r7,l4,g4,l5,g5,l6,g6⟩:=NQ HR.out (i:Int) (by omega) (by omega);rw[Int.toNat_natCast] at r0 r1 r2 r3 r4 r5 r6 r7
      have hrd:jm l (i:Int)=l[i]'hi:=by simp[jm,hi]
      have HSc:=ah.mk (HSM.out (l[i]'hi) (List.getElem_mem hi));have QG:=ah.mk (HF.out (l[i]'hi) (List.getElem_mem hi));have hg1:=HGo.out;rw[List.drop_eq_getElem_cons hi] at hg1
      obtain⟨c,hx⟩:∃c,l[i]'hi=c:=⟨_,rfl⟩
      rw[hrd,hx] at r0 r1 r2 r3 r4 r5 r6 r7 l4 g4 l5 g5 l6 g6;rw[hx] at hg1 HSc QG;rw[kG] at hg1;subst hA;have r0:=aj HB.out r0;have r1:=aj HB.out r1;have r2:=aj HB.out r2;have r3:=aj HB.out r3;have r4:=aj HB.out r4;have r5:=aj HB.out r5;have r6:=aj HB.out r6;have r7:=aj HB.out r7;have G4:=ah.mk g4;have G5:=ah.mk g5;have G6:=ah.mk g6
      obtain⟨W2,hW2⟩:∃W2,wr.alloc (.cells #[.int .i64 c.f0,.int .i64 c.f1.f0,.string c.f1.f1,.string c.f1.f2,.int .i64 c.f1.f3,.slice A4 c.f1.f4.length c4,.slice A5 c.f1.f5.length c5,.slice A6 c.f2.length c6] 31)=W2:=⟨_,rfl⟩
      have hba:=(Below.refl wr.heap.size wr).alloc (Nat.le_refl _) (.cells #[.int .i64 c.f0,.int .i64 c.f1.f0,.string c.f1.f1,.string c.f1.f2,.int .i64 c.f1.f3,.slice A4 c.f1.f4.length c4,.slice A5 c.f1.f5.length c5,.slice A6 c.f2.length c6] 31);have hby:=bK wr (.cells #[.int .i64 c.f0,.int .i64 c.f1.f0,.string c.f1.f1,.string c.f1.f2,.int .i64 c.f1.f3,.slice A4 c.f1.f4.length c4,.slice A5 c.f1.f5.length c5,.slice A6 c.f2.length c6] 31);rw[hW2] at hba hby;have HY:=ah.mk hby;have Dm:=ah.mk (HP.out.below hba);have HB2:=ah.mk (HB.out.trans (hba.mono HB.out.size));have HX2:=ah.mk (aD HX.out hba)
      have hcl:(qB c).length≤1099511627:=by
       have h1:=HSc.out.i.p;have h2:=HSc.out.i.t;have h3:=HSc.out.i.r;have h4:=HSc.out.i.d;have h5:=HSc.out.s;unfold qB;split
       ·simp only[List.length_append,aZ,mg];omega
       ·split
        ·unfold iD;split
         ·simp only[List.length_append,aZ,Go.Proofs.YtknihldkhedpkaaGreatDoorW.PrintWords.bytesOf_length,uZ];omega
         ·split
          ·simp only[List.length_append,aZ,Go.Proofs.YtknihldkhedpkaaGreatDoorW.PrintWords.bytesOf_length];omega
          ·simp only[List.length_append,aZ,Go.Proofs.YtknihldkhedpkaaGreatDoorW.PrintWords.bytesOf_length,List.length_nil];omega
        ·split
         ·simp only[List.length_append,aZ,mg,om];omega
         ·simp only[List.length_append,aZ,List.length_nil];omega
      have hol:(out++qB c).length≤1099511627776:=by rw[List.length_append];omega
      have aeI:8<(out++qB c).length:=by rw[List.length_append];omega
      have abK:=iG HW.out (UF QG.out);have hch:=Ma w W2 g v out c A4 c4 A5 c5 A6 c6 Dm.out HB2.out h8 hlo HSc.out g4 g5 g6 l4 l5 l6
      obtain⟨o2,ho2⟩:∃o,out++qB c=o:=⟨_,rfl⟩
      rw[ho2] at hol aeI hch hg1 abK;have HCH:=ah.mk hch;have HW2:=ah.mk abK;have NM:=ah.mk hg1;clear hrd hx hg1 HGo g4 g5 g6 hba hby hch hcl abK ho2 hlo h8
      go_wp2_with (refine dR (.load 31 (.tmp 6)) rfl ?_;refine wpList_load_row rfl _ _ rfl wr.heap.size rfl 31 #[.int .i64 c.f0,.int .i64 c.f1.f0,.string c.f1.f1,.string c.f1.f2,.int .i64 c.f1.f3,.slice A4 c.f1.f4.length c4,.slice A5 c.f1.f5.length c5,.slice A6 c.f2.length c6] (0,0) _ HY.out Tryz.underlying31 rfl (by kernel_rfl) ?_)
      refine HCH.out.mono ?_;rintro e w5 ⟨rfl,⟨v5,h5⟩,hb5,G8⟩;have He:=ah.mk (G8.cell HX2.out hgn (by decide));have G9:=ah.mk h5;have iV:=ah.mk hb5;have k0:=h5.cell;obtain⟨As,cs,hv5⟩:=h5.slice;subst hv5;clear h5 hb5 G8 hW2 r0 r1 r2 r3 r4 r5 r6 r7 HCH HY Dm HB2 HX2;by_cases hov:16777216<o2.length+9
      ·have hdd:decide ((16777216:Int)<(o2.length:Int)+9)=true:=decide_eq_true (by omega)
       have HN:ah (gL b0 g0 l=([],7)):=⟨by rw[← NM.out,if_pos hov]⟩
       go_wp2_with fail
       go_ret2
       exact⟨.slice none 0 0,by rw[HN.out];rfl,by rw[HN.out];exact Kd.fA _ _ _ _ _,iV.out⟩
      ·have hdd:decide ((16777216:Int)<(o2.length:Int)+9)=false:=decide_eq_false (by omega)
       have HN:ah (kG l.length o2 (l.drop (i+1))=gL b0 g0 l):=⟨by rw[← NM.out,if_neg hov]⟩
       go_wp2_with fail
       go_roundg (l.length - (i+1))
       case measure=>omega
       case rel=>exact⟨i+1,_,o2,by omega,by first|rfl|simp,aeI,by omega,HN,G9,iV,HW2,He⟩
     ·have hd:decide ((i:Int)<(l.length:Int))=false:=decide_eq_false (by omega);have hd2:decide (i<l.length)=false:=decide_eq_false hi
      have HE:ah (gL b0 g0 l=(kF out l.length,0)):=⟨by rw[← HGo.out,List.drop_of_length_le (by omega)];rfl⟩
      have HH:=ah.mk HX.out;clear HGo
      go_wp2_with fail
      refine (ni w _ g v out 0 1 HP.out HB.out (by decide) h8 (by omega)).mono ?_;rintro e w5 ⟨rfl,⟨v5,h5⟩,hb5,G8⟩;have He:=ah.mk (G8.cell HX.out hgn (by decide))
      have q2:w5.cell? ⟨w.heap.size,2,none⟩=some (.slice A0 l.length c0):=by rw[ak He.out];rfl
      have hl5:8<(out++leB 1 0).length∧(out++leB 1 0).length≤16777217:=by rw[List.length_append,aZ];omega
      have BN:=iG HW.out (fM 1 0)
      obtain⟨o5,NT⟩:∃o,out++leB 1 0=o:=⟨_,rfl⟩
      rw[NT] at h5 hl5 BN;have G9:=ah.mk h5;have iV:=ah.mk hb5;have HO5:=ah.mk NT;have HW5:=ah.mk BN;obtain⟨ajO,aoQ⟩:=hl5;clear h5 hb5 G8 BN NT
      go_wp2_with fail
      refine (ni w _ g v5 o5 l.length 4 G9.out iV.out (by decide) ajO (by omega)).mono ?_;rintro e w6 ⟨rfl,⟨v6,h6⟩,hb6,Hq⟩
      have QD:8<(o5++leB 4 (l.length:Int)).length∧(o5++leB 4 (l.length:Int)).length≤16777221:=by rw[List.length_append,aZ];omega
      have hw6:=iG HW5.out (fM 4 (l.length:Int))
      obtain⟨o6,ho6⟩:∃o,o5++leB 4 (l.length:Int)=o:=⟨_,rfl⟩
      rw[ho6] at h6 QD hw6;have TM:=ah.mk h6;have qd:=ah.mk hb6;have HO6:=ah.mk (show out++leB 1 0++leB 4 (l.length:Int)=o6 by rw[HO5.out,ho6]);have HW6:=ah.mk hw6;obtain⟨ajP,aoS⟩:=QD;have k6:=h6.cell
      obtain⟨A6,c6,hcap6,e6,UG⟩:∃A c,o6.length≤c∧v6=.slice A o6.length c∧Kd.C (Kd.int .u8) w6 A o6.length o6:=by
       obtain⟨A,c,e2,hcap,hread⟩:=Kd.sO h6.row;exact⟨A,c,hcap,e2,hread⟩
      subst e6;have sF:=ah.mk UG;clear h6 hb6 Hq hw6 ho6 q2 UG G9 iV
      go_wp2_with fail
      refine (Qz A6 c6 o6 w6 sF.out hcap6 HW6.out).mono ?_;rintro e w7 ⟨rfl,qG⟩;have HP7:=ah.mk (TM.out.below qG);have yh:=ah.mk (qd.out.trans (qG.mono qd.out.size));clear qG k6
      go_wp2_with fail
      refine (ni w w7 g _ o6 (BD o6) 4 HP7.out yh.out (by decide) ajP (by omega)).mono ?_;rintro e w8 ⟨rfl,⟨v8,h8'⟩,xK,hf8⟩;have k8:=h8'.cell;have HP8:=ah.mk h8';have Cz:=ah.mk xK;clear h8' xK hf8
      go_wp2_with fail
      go_ret2
      refine⟨v8,by rw[HE.out];rfl,?_,Cz.out⟩;rw[HE.out];unfold kF;rw[HO6.out];exact HP8.out.row
theorem uy {fn:Func} {P:Program} {p1 p2:Tmp} {t1:TypeId} (h:fn.results=#[.cell p1 t1,.tmp p2]) (tmps:Array Value) (w:World) (b1:Nat) (cs:Array Value) (d:TypeDesc)
  (h1:tmps.getD p1 undef=.pointer (some ⟨b1,0,none⟩)) (g1:w.heap[b1]?=some (.cells cs t1 (0,0)))
  (hu:P.underlying t1=some d) (hd:(match d with|.struct _|.array _ _=>true|_=>false)=true) (hi:(P.info? t1).map (·.size)=some cs.size) :
  (results fn tmps).run P w=.ok (.tuple #[.agg cs,tmps.getD p2 undef]) w:=by
 have h1':tmps[p1]?.getD undef=.pointer (some ⟨b1,0,none⟩):=by simpa using h1
 have e1:=run_loadVar_row w b1 t1 t1 cs (0,0) d g1 hu hd hi;simp only[results,h];simp[h1',asAddr,e1,Result.andThen,Sem.run_bind]
theorem I6 {w:World} {b b':Nat} {v:Value} {xs:List pR} (h:Kd.R GZ 31 w b (fun _=>True) v xs) (hb:b'≤b):Kd.R GZ 31 w b' (fun _=>True) v xs :=
 ⟨h.1,(eX.lower h.2 hb).qH (fun p cs hp=>by
  obtain⟨v5,v6,v7,rfl,g5,g6,g7⟩:=RX hp
  exact Qv w b' _ p ⟨g5.1,eX.lower g5.2 hb⟩ ⟨g6.1,eX.lower g6.2 hb⟩ ⟨g7.1,eX.lower g7.2 hb⟩)⟩
theorem Sl {l r:List Int} {x:It} (h:nY l=some (x,r)) (hl:By l):Fit x:=by
 unfold nY at h
 cases h1:gF 1 l with
 | none=>rw[h1] at h;cases h
 | some q=>
  obtain⟨k,l1⟩:=q;rw[h1] at h;dsimp only at h;have b1:=fD h1 hl
  cases h2:iF l1 with
  | none=>rw[h2] at h;cases h
  | some q=>
   obtain⟨p,l2⟩:=q;rw[h2] at h;dsimp only at h;have b2:=mW h2 b1.1;split at h
   ·cases h3:gF 8 l2 with
    | none=>rw[h3] at h;cases h
    | some q=>
     obtain⟨sz,l3⟩:=q;rw[h3] at h;dsimp only at h;have b3:=fD h3 b2.1
     cases h4:lg l3 with
     | none=>rw[h4] at h;cases h
     | some q=>
      obtain⟨rs,all,l4⟩:=q;rw[h4] at h;dsimp only at h;have b4:=nX h4 b3.1
      cases h5:o7 all l4 with
      | none=>rw[h5] at h;cases h
      | some q=>
       obtain⟨d,l5⟩:=q;rw[h5] at h;have b5:=zL h5 b4.1;have hl3:=b3.1.1
       injection h with h
       injection h with h _
       subst h;exact⟨by show p.size≤_;omega,by show (0:Nat)≤_;omega,by show rs.length≤_;omega,by show d.length≤_;have:=b5.2.2.1;omega,b5.2.2.2⟩
   ·split at h
    ·cases h3:iF l2 with
     | none=>rw[h3] at h;cases h
     | some q=>
      obtain⟨t,l3⟩:=q;rw[h3] at h;have b3:=mW h3 b2.1
      injection h with h
      injection h with h _
      subst h;exact⟨by show p.size≤_;omega,by show t.size≤_;omega,by show (0:Nat)≤_;omega,by show (0:Nat)≤_;omega,fun n hn=>by cases hn⟩
    ·injection h with h
     injection h with h _
     subst h;exact⟨by show p.size≤_;omega,by show (0:Nat)≤_;omega,by show (0:Nat)≤_;omega,by show (0:Nat)≤_;omega,fun n hn=>by cases hn⟩
theorem Me {k:Int} {l r:List Int} {c:pR} (h:jc k l=some (c,r)) (hl:By l):tH c:=by
 unfold jc at h;split at h
 ·cases h1:iF l with
  | none=>rw[h1] at h;cases h
  | some q=>
   obtain⟨p,l1⟩:=q;rw[h1] at h;have b1:=mW h1 hl
   injection h with h
   injection h with h _
   subst h;exact⟨⟨by show p.size≤_;omega,by show (0:Nat)≤_;omega,by show (0:Nat)≤_;omega,by show (0:Nat)≤_;omega,fun n hn=>by cases hn⟩,by show (0:Nat)≤_;omega⟩
 ·split at h
  ·cases h1:nY l with
   | none=>rw[h1] at h;cases h
   | some q=>
    obtain⟨x,l1⟩:=q;rw[h1] at h;have b1:=Sl h1 hl
    injection h with h
    injection h with h _
    subst h;exact⟨b1,by show (0:Nat)≤_;omega⟩
  ·split at h
   ·cases h1:iF l with
    | none=>rw[h1] at h;cases h
    | some q=>
     obtain⟨p,l1⟩:=q;rw[h1] at h;dsimp only at h;have b1:=mW h1 hl
     cases h2:gF 8 l1 with
     | none=>rw[h2] at h;cases h
     | some q=>
      obtain⟨sz,l2⟩:=q;rw[h2] at h;dsimp only at h;have b2:=fD h2 b1.1
      cases h3:lg l2 with
      | none=>rw[h3] at h;cases h
      | some q=>
       obtain⟨rs,a1,l3⟩:=q;rw[h3] at h;dsimp only at h;have b3:=nX h3 b2.1
       cases h4:lg l3 with
       | none=>rw[h4] at h;cases h
       | some q=>
        obtain⟨st,all,l4⟩:=q;rw[h4] at h;dsimp only at h;have b4:=nX h4 b3.1
        cases h5:o7 all l4 with
        | none=>rw[h5] at h;cases h
        | some q=>
         obtain⟨d,l5⟩:=q;rw[h5] at h;have b5:=zL h5 b4.1;have q2:=b2.1.1;have q3:=b3.1.1
         injection h with h
         injection h with h _
         subst h;exact⟨⟨by show p.size≤_;omega,by show (0:Nat)≤_;omega,by show rs.length≤_;omega,by show d.length≤_;have:=b5.2.2.1;omega,b5.2.2.2⟩,by show st.length≤_;omega⟩
   ·cases h
theorem EA:∀(f:Nat) (k:Int) (acc cs:List pR) (l r:List Int),pE f k acc l=some (cs,r)→By l→(∀c∈acc,tH c)→∀c∈cs,tH c
 | 0,_,_,_,_,_,h,_,_=>by cases h
 | f+1,k,acc,cs,l,r,h,hl,ha=>by
  rw[pE] at h;split at h
  ·injection h with h
   injection h with h _
   subst h;exact ha
  ·cases h1:jc k l with
   | none=>rw[h1] at h;cases h
   | some q=>
    obtain⟨c,l1⟩:=q;rw[h1] at h;dsimp only at h;have b1:=Et h1 hl;have f1:=Me h1 hl
    cases h2:gF 1 l1 with
    | none=>rw[h2] at h;cases h
    | some q=>
     obtain⟨k2,l2⟩:=q;rw[h2] at h;dsimp only at h;have b2:=fD h2 b1.1
     exact EA f k2 _ cs l2 r h b2.1 (fun x hx=>by
      rcases List.mem_append.1 hx with hx|hx
      ·exact ha x hx
      ·rw[List.mem_singleton.1 hx];exact f1)
theorem vk {l:List Int} {b g:Int} {cs:List pR} (h:qj l=some (b,g,cs)) (hl:By l):(0≤b∧b≤4294967295)∧(0≤g∧g≤4294967295)∧∀c∈cs,tH c:=by
 unfold qj at h
 cases h1:lK 8 l with
 | none=>rw[h1] at h;cases h
 | some q=>
  obtain⟨m,l1⟩:=q;rw[h1] at h;dsimp only at h;have b1:=uf h1 hl;split at h
  ·cases h2:gF 4 l1 with
   | none=>rw[h2] at h;cases h
   | some q=>
    obtain⟨bb,l2⟩:=q;rw[h2] at h;dsimp only at h;have b2:=fD h2 b1.2.1;have r2:=kJ h2 b1.2.1 (by decide);rw[show (256:Int) ^ 4=4294967296 by decide] at r2
    cases h3:gF 4 l2 with
    | none=>rw[h3] at h;cases h
    | some q=>
     obtain⟨g2,l3⟩:=q;rw[h3] at h;dsimp only at h;have b3:=fD h3 b2.1;have r3:=kJ h3 b2.1 (by decide);rw[show (256:Int) ^ 4=4294967296 by decide] at r3
     cases h4:gF 1 l3 with
     | none=>rw[h4] at h;cases h
     | some q=>
      obtain⟨k,l4⟩:=q;rw[h4] at h;dsimp only at h;have b4:=fD h4 b3.1
      cases h5:pE (l.length+1) k [] l4 with
      | none=>rw[h5] at h;cases h
      | some q=>
       obtain⟨cs2,l5⟩:=q;rw[h5] at h;dsimp only[Er] at h;have f5:=EA _ _ _ _ _ _ h5 b4.1 (fun c hc=>by cases hc)
       cases h6:lK 8 l5 with
       | none=>rw[h6] at h;cases h
       | some q=>
        obtain⟨_,l6⟩:=q;rw[h6] at h;dsimp only at h;split at h
        ·injection h with h
         injection h with e1 h
         injection h with e2 e3
         subst e1 e2 e3;exact⟨⟨r2.1,by omega⟩,⟨r3.1,by omega⟩,f5⟩
        ·cases h
  ·cases h
theorem Sn {out:List Int} (h:∀x∈out,0≤x∧x≤255) (n:Int):∀x∈kF out n,0≤x∧x≤255:=by
 unfold kF;exact iG (iG (iG h (fM _ _)) (fM _ _)) (fM _ _)
theorem EB (n:Int):∀(l:List pR) (out:List Int),(∀x∈out,0≤x∧x≤255)→(∀c∈l,tH c)→∀x∈(kG n out l).1,0≤x∧x≤255
 | [],out,ho,_=>Sn ho n
 | c::l,out,ho,hf=>by
  rw[kG];split
  ·intro x hx;cases hx
  ·exact EB n l _ (iG ho (UF (hf c (by simp)))) (fun d hd=>hf d (by simp[hd]))
theorem EC {b g:Int} {l:List pR} (hf:∀c∈l,tH c):∀x∈(gL b g l).1,0≤x∧x≤255:=by
 unfold gL;split
 ·intro x hx;cases hx
 ·split
  ·exact EB _ l _ (iG (iG I4 (fM _ _)) (fM _ _)) hf
  ·intro x hx;cases hx
def vM (l:List Int):Option (Int × Int × List pR) × Int :=
 if 16777216<l.length then (none,7) else match qj l with
  | none=>(none,180)
  | some (b,g,cs)=>if (gL b g cs).2≠0 then (none,180) else if (gL b g cs).1=l then (some (b,g,cs),0) else (none,180)
def aeJ (w:World) (o:Option (Int × Int × List pR) × Int) (e:Ending) (w':World):Prop:=Below w.heap.size w w'∧match o with
 | (none,n)=>e=.returned (.tuple #[.agg #[.int .i64 0,.int .i64 0,.slice none 0 0],.int .i64 n])
 | (some (b,g,cs),n)=>∃v,e=.returned (.tuple #[.agg #[.int .i64 b,.int .i64 g,v],.int .i64 n])∧Kd.R GZ 31 w' w.heap.size (fun _=>True) v cs
theorem UH (A0:Option Addr) (c0:Nat) (l:List Int) (w:World) (hr:Kd.C (Kd.int .u8) w A0 l.length l) (hc:l.length≤c0) (hl:By l) :
  Calls Tryz.prog 31 #[.slice A0 l.length c0] w fun e w'=>aeJ w (vM l) e w':=by
 obtain⟨o,ho⟩:∃o,vM l=o:=⟨_,rfl⟩
 rw[ho];unfold vM at ho
 obtain⟨w1,hw1⟩:∃w1,w.alloc (.cells #[.int .i64 0,.int .i64 0,.slice none 0 0] 24)=w1:=⟨_,rfl⟩
 have hb1:=(Below.refl w.heap.size w).alloc (Nat.le_refl _) (.cells #[.int .i64 0,.int .i64 0,.slice none 0 0] 24);have hk1:=bK w (.cells #[.int .i64 0,.int .i64 0,.slice none 0 0] 24);rw[hw1] at hb1 hk1;have HB1:=ah.mk hb1;have jC:=ah.mk hk1;have HR1:=ah.mk (Kd.aC hr hb1);clear hb1 hk1 hr;by_cases hbig:16777216<l.length
 ·rw[if_pos hbig] at ho;have d1:decide ((16777216:Int)<(l.length:Int))=true:=decide_eq_true (by omega);have HO:=ah.mk ho.symm;clear ho
  go_enter Tryz.func31,Tryz.ntmps31
  go_wp2_with (refine dR (.store 24 (.tmp 2) (.tmp 11)) rfl ?_;refine wpList_store_row rfl 24 (.tmp 2) (.tmp 11) rfl w.heap.size #[.int .i64 0,.int .i64 0,.slice none 0 0] rfl rfl 24 _ jC.out (by kernel_rfl) (by rfl) (by simp[Value.oneCell']) ?_)
  rw[HO.out];refine bodyPost_ret (uy rfl _ _ w.heap.size #[.int .i64 0,.int .i64 0,.slice none 0 0] _ rfl (setRow_heap _ _ _ _ _ _ jC.out) Tryz.underlying24 rfl (by kernel_rfl)) rfl ⟨below_setRow HB1.out (Nat.le_refl _) _,?_⟩;rfl
 ·rw[if_neg hbig] at ho;have d1:decide ((16777216:Int)<(l.length:Int))=false:=decide_eq_false (by omega);have cc:=Sg A0 c0 l w1 HR1.out hc hl
  obtain⟨p,hp⟩:∃p,qj l=p:=⟨_,rfl⟩
  rw[hp] at ho cc
  cases p with
  | none=>
   have HO:=ah.mk ho.symm;have C:=ah.mk cc;clear ho cc hp
   go_enter Tryz.func31,Tryz.ntmps31
   go_wp2_with fail
   refine C.out.mono ?_;rintro e w2 ⟨hb2,b,g,A,n,c,rfl⟩;have hba:=(Below.refl w2.heap.size w2).alloc (Nat.le_refl _) (.cells #[.int .i64 b,.int .i64 g,.slice A n c] 24);have iK:=ah.mk (aD (aD jC.out hb2) hba);have HB2:=ah.mk ((HB1.out.trans (hb2.mono HB1.out.size)).trans (hba.mono (Nat.le_trans HB1.out.size hb2.size)));clear hb2 hba
   go_wp2_with (refine dR (.store 24 (.tmp 2) (.tmp 19)) rfl ?_;refine wpList_store_row rfl 24 (.tmp 2) (.tmp 19) rfl w.heap.size #[.int .i64 0,.int .i64 0,.slice none 0 0] rfl rfl 24 _ iK.out (by kernel_rfl) (by rfl) (by simp[Value.oneCell']) ?_)
   rw[HO.out];refine bodyPost_ret (uy rfl _ _ w.heap.size #[.int .i64 0,.int .i64 0,.slice none 0 0] _ rfl (setRow_heap _ _ _ _ _ _ iK.out) Tryz.underlying24 rfl (by kernel_rfl)) rfl ⟨below_setRow HB2.out (Nat.le_refl _) _,?_⟩;rfl
  | some q=>
   obtain⟨b,g,cs⟩:=q;dsimp only at ho;obtain⟨⟨hb0,Cy⟩,⟨hg0,LC⟩,hfit⟩:=vk hp hl;have C:=ah.mk cc;have HO:=ah.mk ho;have HF:=ah.mk hfit;clear ho cc hp hfit
   go_enter Tryz.func31,Tryz.ntmps31
   go_wp2_with fail
   refine C.out.mono ?_;rintro e w2 ⟨hb2,v,rfl,hr2⟩;obtain⟨A,c,hv,hcap,hread⟩:=Kd.sO hr2;subst hv
   go_upto_region 6 with (fail)
   obtain⟨w3,hw3⟩:∃w3,w2.alloc (.cells #[.int .i64 b,.int .i64 g,.slice A cs.length c] 24)=w3:=⟨_,rfl⟩
   have hba:=(Below.refl w2.heap.size w2).alloc (Nat.le_refl _) (.cells #[.int .i64 b,.int .i64 g,.slice A cs.length c] 24);have hbk:=bK w2 (.cells #[.int .i64 b,.int .i64 g,.slice A cs.length c] 24);rw[hw3] at hba hbk ⊢
   obtain⟨bx,hbx⟩:∃bx,bx=w2.heap.size:=⟨_,rfl⟩
   rw[← hbx] at hbk ⊢;have qg:=ah.mk (aD (aD jC.out hb2) hba);have WA:=ah.mk hbk;have HR3:=ah.mk (Kd.dh hr2 hba);have HB3:=ah.mk ((HB1.out.trans (hb2.mono HB1.out.size)).trans (hba.mono (Nat.le_trans HB1.out.size hb2.size)));have HL3:=ah.mk (Kd.aC (Kd.aC HR1.out hb2) hba);have hpk:=I5 b g A c cs w3 (Kd.aC hread hba) hcap HF.out hb0 Cy hg0 LC;have hwf:=EC (b:=b) (g:=g) HF.out;have ho:=HO.out
   obtain⟨pk,Sr⟩:∃pk,gL b g cs=pk:=⟨_,rfl⟩
   rw[Sr] at hpk hwf ho;obtain⟨pb,pe⟩:=pk;dsimp only at hpk hwf ho;have HPK:=ah.mk hpk;have HWF:=ah.mk hwf;have zC:=HB1.out.size;have hlw:w.heap.size≤w1.heap.size:=zC;clear hw3 hbx hba hbk hr2 hread hb2 hpk Sr hwf HO zC
   go_upto_region 7 with (first|(refine dR (.load 24 (.tmp 4)) rfl ?_;refine wpList_load_row rfl _ _ rfl bx rfl 24 #[.int .i64 b,.int .i64 g,.slice A cs.length c] (0,0) _ WA.out Tryz.underlying24 rfl (by kernel_rfl) ?_)|(go_at_call 32;refine HPK.out.mono ?_;rintro e w4 ⟨v4,rfl,hr4,hb4⟩;obtain⟨A4,c4,hv4,hcap4,UJ⟩:=Kd.sO hr4;subst hv4;have HC4:=ah.mk UJ;have mH:=ah.mk hb4;clear hr4 UJ hb4))
   have vT:=ah.mk (aD qg.out mH.out);have Lb:=ah.mk (aD WA.out mH.out);have HR4:=ah.mk (Kd.dh HR3.out mH.out);have HL4:=ah.mk (Kd.aC HL3.out mH.out);have vU:=ah.mk (HB3.out.trans (mH.out.mono HB3.out.size));clear qg WA HR3 HL3 HB3 mH HPK;by_cases he:pe=0
   ·have heb:(pe != 0)=false:=by rw[he];rfl
    rw[if_neg (fun h=>h he)] at ho;have heq:=PT.bytes_Equal.calls A4 c4 pb A0 c0 l (decide (pb=l)) w4 HC4.out hcap4 HL4.out hc (by unfold PT.bytes_Equal.f;rw[um HWF.out hl.2]);by_cases hq:pb=l
    ·rw[if_pos hq] at ho;rw[decide_eq_true hq] at heq;have HO:=ah.mk ho.symm;have NP:=ah.mk heq;clear ho heq he hq
     go_upto_region 9 with (go_at_call 62;refine NP.out.mono ?_;rintro e w5 ⟨rfl,⟨n5,rfl⟩⟩)
     have hd5:Below w4.heap.size w4 (w4.drewN n5):=au (Below.refl _ _) n5;have oV:=ah.mk (aD vT.out hd5);have He:=ah.mk (aD Lb.out hd5);have kE:=ah.mk (Kd.dh HR4.out hd5);have iV:=ah.mk (vU.out.trans (hd5.mono vU.out.size));clear hd5
     go_wp2_with (first|(refine dR (.load 24 (.tmp 4)) rfl ?_;refine wpList_load_row rfl _ _ rfl bx rfl 24 #[.int .i64 b,.int .i64 g,.slice A cs.length c] (0,0) _ He.out Tryz.underlying24 rfl (by kernel_rfl) ?_)|(refine dR (.store 24 (.tmp 2) (.tmp 34)) rfl ?_;refine wpList_store_row rfl 24 (.tmp 2) (.tmp 34) rfl w.heap.size #[.int .i64 b,.int .i64 g,.slice A cs.length c] rfl rfl 24 _ oV.out (by kernel_rfl) (by rfl) (by simp[Value.oneCell']) ?_))
     rw[HO.out];refine bodyPost_ret (uy rfl _ _ w.heap.size #[.int .i64 b,.int .i64 g,.slice A cs.length c] _ rfl (setRow_heap _ _ _ _ _ _ oV.out) Tryz.underlying24 rfl (by kernel_rfl)) rfl ⟨below_setRow iV.out (Nat.le_refl _) _,?_⟩;exact⟨_,rfl,jM (I6 kE.out hlw) oV.out (by decide) _⟩
    ·rw[if_neg hq] at ho;rw[decide_eq_false hq] at heq;have HO:=ah.mk ho.symm;have NP:=ah.mk heq;clear ho heq he hq
     go_upto_region 8 with (go_at_call 62;refine NP.out.mono ?_;rintro e w5 ⟨rfl,⟨n5,rfl⟩⟩)
     have hd5:Below w4.heap.size w4 (w4.drewN n5):=au (Below.refl _ _) n5;have oV:=ah.mk (aD vT.out hd5);have iV:=ah.mk (vU.out.trans (hd5.mono vU.out.size));clear hd5
     go_wp2_with (refine dR (.store 24 (.tmp 2) (.tmp 33)) rfl ?_;refine wpList_store_row rfl 24 (.tmp 2) (.tmp 33) rfl w.heap.size #[.int .i64 0,.int .i64 0,.slice none 0 0] rfl rfl 24 _ oV.out (by kernel_rfl) (by rfl) (by simp[Value.oneCell']) ?_)
     rw[HO.out];refine bodyPost_ret (uy rfl _ _ w.heap.size #[.int .i64 0,.int .i64 0,.slice none 0 0] _ rfl (setRow_heap _ _ _ _ _ _ oV.out) Tryz.underlying24 rfl (by kernel_rfl)) rfl ⟨below_setRow iV.out (Nat.le_refl _) _,?_⟩;rfl
   ·have heb:(pe != 0)=true:=bne_iff_ne.2 he;rw[if_pos he] at ho;have HO:=ah.mk ho.symm;clear ho he
    go_upto_region 8 with (fail)
    go_wp2_with (refine dR (.store 24 (.tmp 2) (.tmp 33)) rfl ?_;refine wpList_store_row rfl 24 (.tmp 2) (.tmp 33) rfl w.heap.size #[.int .i64 0,.int .i64 0,.slice none 0 0] rfl rfl 24 _ vT.out (by kernel_rfl) (by rfl) (by simp[Value.oneCell']) ?_)
    rw[HO.out];refine bodyPost_ret (uy rfl _ _ w.heap.size #[.int .i64 0,.int .i64 0,.slice none 0 0] _ rfl (setRow_heap _ _ _ _ _ _ vT.out) Tryz.underlying24 rfl (by kernel_rfl)) rfl ⟨below_setRow vU.out (Nat.le_refl _) _,?_⟩;rfl
end Go.Proofs.YtknihldkhedpkaaGreatDoor
end
