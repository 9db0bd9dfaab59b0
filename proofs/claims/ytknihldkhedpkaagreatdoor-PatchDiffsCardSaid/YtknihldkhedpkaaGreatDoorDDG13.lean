import Derived.Test.YtknihldkhedpkaaGreatDoorDDG12
import Derived.Test.YtknihldkhedpkaaGreatDoorDDG11
import Derived.Test.YtknihldkhedpkaaGreatDoorDDG9
import Derived.Test.YtknihldkhedpkaaGreatDoorDDG10
set_option linter.all false
set_option maxHeartbeats 16000000
set_option maxRecDepth 100000
section
namespace Go.Proofs.YtknihldkhedpkaaGreatDoor
open Go.RowKit Go.Lib
open Go.Proofs.YtknihldkhedpkaaGreatDoorW.PrintWords Go.Proofs.YtknihldkhedpkaaGreatDoorW.PrintLast Go.Proofs.YtknihldkhedpkaaGreatDoor.PT
structure SmC (c:sF):Prop where
 i:Sm c.f1
 s:c.f2.length≤1048576
theorem MS (w0 w:World) (g:Nat) (v0:Value) (o0:List Int) (c:sF) (A4:Option Addr) (c4:Nat) (A5:Option Addr) (c5:Nat) (A6:Option Addr) (c6:Nat) (H:Pq w0.heap.size w g v0 o0) (hb:Below w0.heap.size w0 w) (h8:8<o0.length) (hl:o0.length≤16777216) (hs:SmC c)
  (h4:Kd.C dw w0 A4 c.f1.f4.length c.f1.f4) (h5:Kd.C (Kd.int .u8) w0 A5 c.f1.f5.length c.f1.f5) (h6:Kd.C dw w0 A6 c.f2.length c.f2) (l4:c.f1.f4.length≤c4) (l5:c.f1.f5.length≤c5) (l6:c.f2.length≤c6) :
  Calls Tryz.prog 65 #[.pointer (some ⟨g,0,none⟩),.agg #[.int .i64 c.f0,.int .i64 c.f1.f0,.string c.f1.f1,.string c.f1.f2,.int .i64 c.f1.f3,.slice A4 c.f1.f4.length c4,.slice A5 c.f1.f5.length c5,.slice A6 c.f2.length c6]] w fun e w'=>e=.returned (.tuple #[])∧(∃v',Pq w0.heap.size w' g v' (o0++Bc c))∧Below w0.heap.size w0 w'∧Fr g w w':=by
 obtain⟨W1,hW1⟩:∃W1,w.alloc (.cells #[.int .i64 c.f0,.int .i64 c.f1.f0,.string c.f1.f1,.string c.f1.f2,.int .i64 c.f1.f3,.slice A4 c.f1.f4.length c4,.slice A5 c.f1.f5.length c5,.slice A6 c.f2.length c6] 31)=W1:=⟨_,rfl⟩
 have hba:=(Below.refl w.heap.size w).alloc (Nat.le_refl _) (.cells #[.int .i64 c.f0,.int .i64 c.f1.f0,.string c.f1.f1,.string c.f1.f2,.int .i64 c.f1.f3,.slice A4 c.f1.f4.length c4,.slice A5 c.f1.f5.length c5,.slice A6 c.f2.length c6] 31);have hbk:=bF w (.cells #[.int .i64 c.f0,.int .i64 c.f1.f0,.string c.f1.f1,.string c.f1.f2,.int .i64 c.f1.f3,.slice A4 c.f1.f4.length c4,.slice A5 c.f1.f5.length c5,.slice A6 c.f2.length c6] 31);rw[hW1] at hba hbk
 have hgn:w.heap.size≠g:=by have:=H.lt;omega
 have amq:W1.cell? ⟨w.heap.size,0,none⟩=some (.int .i64 c.f0):=by rw[ak hbk];rfl
 have HP0:=ah.mk (H.below hba);have HB0:=ah.mk (hb.trans (hba.mono hb.size));have HF0:=ah.mk (Fr.of_below (g:=g) hba);have ZH:=ah.mk hbk;have HR4:=ah.mk h4;have nE:=ah.mk h5;have qI:=ah.mk h6;have HS:=ah.mk hs;have hsp:=hs.i.p;have hst:=hs.i.t;have hsr:=hs.i.r;have hsd:=hs.i.d;have hss:=hs.s;clear H hb hba hbk hs h4 h5 h6
 go_enter Tryz.func65,Tryz.ntmps65
 go_wp2_with fail
 try rw[hW1]
 refine (nL w0 W1 g v0 o0 c.f0 1 HP0.out HB0.out aH h8 aj).mono ?_;rintro e w1 ⟨rfl,⟨v1,h1⟩,hb1,hf1⟩;have UK:=ah.mk (HF0.out.trans hf1);have jH:=ah.mk (hf1.cell ZH.out hgn aH)
 have amr:w1.cell? ⟨w.heap.size,0,none⟩=some (.int .i64 c.f0):=by rw[ak jH.out];rfl
 have ams:w1.cell? ⟨w.heap.size,1,none⟩=some (.int .i64 c.f1.f0):=by rw[ak jH.out];rfl
 have amt:w1.cell? ⟨w.heap.size,2,none⟩=some (.string c.f1.f1):=by rw[ak jH.out];rfl
 have amu:w1.cell? ⟨w.heap.size,3,none⟩=some (.string c.f1.f2):=by rw[ak jH.out];rfl
 have amv:w1.cell? ⟨w.heap.size,4,none⟩=some (.int .i64 c.f1.f3):=by rw[ak jH.out];rfl
 have amw:w1.cell? ⟨w.heap.size,5,none⟩=some (.slice A4 c.f1.f4.length c4):=by rw[ak jH.out];rfl
 have amx:w1.cell? ⟨w.heap.size,6,none⟩=some (.slice A5 c.f1.f5.length c5):=by rw[ak jH.out];rfl
 have amy:w1.cell? ⟨w.heap.size,7,none⟩=some (.slice A6 c.f2.length c6):=by rw[ak jH.out];rfl
 clear hf1;clear hW1 amq
 have hl1:(o0++leB 1 c.f0).length=o0.length+1:=by rw[List.length_append];rw[aU]
 obtain⟨o1,ho1⟩:∃o,o0++leB 1 c.f0=o:=⟨_,rfl⟩
 rw[ho1] at hl1 h1;have wT:=ah.mk h1;have HB1:=ah.mk hb1;have zP:=ah.mk ho1
 have h81:8<o1.length:=by omega
 have hu1:o1.length≤26777216:=by omega
 clear h1 hb1 ho1 hl1
 obtain⟨W2,hW2⟩:∃W2,w1.alloc (.cells #[.int .i64 c.f1.f0,.string c.f1.f1,.string c.f1.f2,.int .i64 c.f1.f3,.slice A4 c.f1.f4.length c4,.slice A5 c.f1.f5.length c5] 29)=W2:=⟨_,rfl⟩
 obtain⟨b2,aed⟩:∃b2,b2=w1.heap.size:=⟨_,rfl⟩
 have hbb:=(Below.refl w1.heap.size w1).alloc (Nat.le_refl _) (.cells #[.int .i64 c.f1.f0,.string c.f1.f1,.string c.f1.f2,.int .i64 c.f1.f3,.slice A4 c.f1.f4.length c4,.slice A5 c.f1.f5.length c5] 29);have hbx:=bF w1 (.cells #[.int .i64 c.f1.f0,.string c.f1.f1,.string c.f1.f2,.int .i64 c.f1.f3,.slice A4 c.f1.f4.length c4,.slice A5 c.f1.f5.length c5] 29);rw[hW2] at hbb hbx
 have hgx:b2≠g:=by have:=wT.out.lt;omega
 have OH:=ah.mk (show W2.heap[b2]?=some (.cells #[.int .i64 c.f1.f0,.string c.f1.f1,.string c.f1.f2,.int .i64 c.f1.f3,.slice A4 c.f1.f4.length c4,.slice A5 c.f1.f5.length c5] 29 (0,0)) by rw[aed];exact hbx);have wS:=ah.mk (wT.out.below hbb);have HB2:=ah.mk (HB1.out.trans (hbb.mono HB1.out.size));have FR:=ah.mk (UK.out.trans (Fr.of_below (g:=g) hbb));have jG:=ah.mk (aJ jH.out hbb)
 have amA:W2.cell? ⟨w.heap.size,0,none⟩=some (.int .i64 c.f0):=by rw[ak jG.out];rfl
 have amB:W2.cell? ⟨b2,1,none⟩=some (.string c.f1.f1):=by rw[ak OH.out];rfl
 clear hbb hbx
 go_upto_region 3 with (fail)
 try rw[hW2]
 rw[← aed];clear hW2 aed amr ams amt amu amv amw amx amy;by_cases k1:c.f0=1
 ·have t1:(c.f0 == 1)=true:=beq_iff_eq.2 k1;have HK:=ah.mk k1;clear k1
  have hfin:∀w' v',Pq w0.heap.size w' g v' (o1++jW c.f1.f1)→Pq w0.heap.size w' g v' (o0++Bc c):=by
   intro w' v' h;unfold Bc;rw[if_pos HK.out];rw[← zP.out] at h
   simpa only[List.append_assoc,jW,jS] using h
  have Bb:=ah.mk hfin;clear hfin
  go_wp2_with fail
  refine (yc w0 W2 g v1 o1 c.f1.f1 wS.out HB2.out h81 aj aj).mono ?_;rintro e w3 ⟨rfl,⟨v3,h3⟩,hb3,hf3⟩;have OC:=ah.mk (FR.out.trans hf3);clear hf3
  go_wp2_with fail
  go_end0
  exact⟨rfl,⟨v3,Bb.out _ _ h3⟩,hb3,OC.out⟩
 have t1:(c.f0 == 1)=false:=beq_eq_false_iff_ne.2 k1;have EB:=ah.mk k1;clear k1;by_cases k2:c.f0=2
 ·have t2:(c.f0 == 2)=true:=beq_iff_eq.2 k2;have HK:=ah.mk k2;clear k2
  have hfin:∀w' v',Pq w0.heap.size w' g v' (o1++fA c.f1)→Pq w0.heap.size w' g v' (o0++Bc c):=by
   intro w' v' h;unfold Bc;rw[if_neg EB.out,if_pos HK.out];rw[← zP.out] at h
   simpa only[List.append_assoc,jW,jS] using h
  have Bb:=ah.mk hfin;clear hfin
  go_wp2_with (refine eX (.load 29 (.tmp 4)) rfl ?_;refine wpList_load_row rfl _ _ rfl b2 rfl 29 #[.int .i64 c.f1.f0,.string c.f1.f1,.string c.f1.f2,.int .i64 c.f1.f3,.slice A4 c.f1.f4.length c4,.slice A5 c.f1.f5.length c5] (0,0) _ OH.out Tryz.underlying29 rfl aD ?_)
  refine (UM w0 W2 g v1 o1 c.f1 A4 c4 A5 c5 wS.out HB2.out h81 aj HS.out.i HR4.out nE.out l4 l5).mono ?_;rintro e w3 ⟨rfl,⟨v3,h3⟩,hb3,hf3⟩;have OC:=ah.mk (FR.out.trans hf3);clear hf3
  go_wp2_with fail
  go_end0
  exact⟨rfl,⟨v3,Bb.out _ _ h3⟩,hb3,OC.out⟩
 have t2:(c.f0 == 2)=false:=beq_eq_false_iff_ne.2 k2;have FT:=ah.mk k2;clear k2;by_cases k3:c.f0=3
 ·have t3:(c.f0 == 3)=true:=beq_iff_eq.2 k3;have HK:=ah.mk k3;clear k3
  have hfin:∀w' v',Pq w0.heap.size w' g v' (o1++jW c.f1.f1++leB 8 c.f1.f3++jS c.f1.f4++jS c.f2++c.f1.f5)→Pq w0.heap.size w' g v' (o0++Bc c):=by
   intro w' v' h;unfold Bc;rw[if_neg EB.out,if_neg FT.out,if_pos HK.out];rw[← zP.out] at h
   simpa only[List.append_assoc,jW,jS] using h
  have Bb:=ah.mk hfin;clear hfin
  go_wp2_with fail
  refine (yc w0 W2 g v1 o1 c.f1.f1 wS.out HB2.out h81 aj aj).mono ?_;rintro e w3 ⟨rfl,⟨v3,h3⟩,hb3,hf3⟩;have OC:=ah.mk (FR.out.trans hf3);have ug:=ah.mk (hf3.cell jG.out hgn aH);have Zf:=ah.mk (hf3.cell OH.out hgx aH)
  have amC:w3.cell? ⟨b2,3,none⟩=some (.int .i64 c.f1.f3):=by rw[ak Zf.out];rfl
  clear hf3;clear amB amA
  have hl3:(o1++jW c.f1.f1).length=o1.length+(c.f1.f1.size+2):=by rw[List.length_append];rw[lC]
  obtain⟨o3,ho3⟩:∃o,o1++jW c.f1.f1=o:=⟨_,rfl⟩
  rw[ho3] at hl3 h3;have OJ:=ah.mk h3;have HB3:=ah.mk hb3;have Jr:=ah.mk ho3
  have h83:8<o3.length:=by omega
  have hu3:o3.length≤46777216:=by omega
  clear h3 hb3 ho3 hl3
  go_wp2_with fail
  refine (nL w0 w3 g v3 o3 c.f1.f3 8 OJ.out HB3.out aH h83 aj).mono ?_;rintro e w4 ⟨rfl,⟨v4,h4⟩,hb4,E8⟩;have HF4:=ah.mk (OC.out.trans E8);have Fa:=ah.mk (E8.cell ug.out hgn aH);have IL:=ah.mk (E8.cell Zf.out hgx aH)
  have amD:w4.cell? ⟨b2,4,none⟩=some (.slice A4 c.f1.f4.length c4):=by rw[ak IL.out];rfl
  clear E8;clear amC
  have hl4:(o3++leB 8 c.f1.f3).length=o3.length+8:=by rw[List.length_append];rw[aU]
  obtain⟨o4,pV⟩:∃o,o3++leB 8 c.f1.f3=o:=⟨_,rfl⟩
  rw[pV] at hl4 h4;have MP:=ah.mk h4;have iM:=ah.mk hb4;have Di:=ah.mk pV
  have h84:8<o4.length:=by omega
  have hu4:o4.length≤56777216:=by omega
  clear h4 hb4 pV hl4
  go_wp2_with fail
  refine (Dh w0 w4 g v4 o4 c.f1.f4 A4 c4 MP.out iM.out h84 aj aj HR4.out l4).mono ?_;rintro e w5 ⟨rfl,⟨v5,h5⟩,hb5,Mi⟩;have HF5:=ah.mk (HF4.out.trans Mi);have KC:=ah.mk (Mi.cell Fa.out hgn aH);have IQ:=ah.mk (Mi.cell IL.out hgx aH)
  have amE:w5.cell? ⟨w.heap.size,7,none⟩=some (.slice A6 c.f2.length c6):=by rw[ak KC.out];rfl
  clear Mi;clear amD
  have hl5:(o4++jS c.f1.f4).length=o4.length+(8*c.f1.f4.length+4):=by rw[List.length_append];rw[lD]
  obtain⟨o5,uY⟩:∃o,o4++jS c.f1.f4=o:=⟨_,rfl⟩
  rw[uY] at hl5 h5;have MQ:=ah.mk h5;have kW:=ah.mk hb5;have E9:=ah.mk uY
  have h85:8<o5.length:=by omega
  have hu5:o5.length≤66777216:=by omega
  clear h5 hb5 uY hl5
  go_wp2_with fail
  refine (Dh w0 w5 g v5 o5 c.f2 A6 c6 MQ.out kW.out h85 aj aj qI.out l6).mono ?_;rintro e w6 ⟨rfl,⟨v6,h6⟩,hb6,MR⟩;have HF6:=ah.mk (HF5.out.trans MR);have UN:=ah.mk (MR.cell KC.out hgn aH);have HX6:=ah.mk (MR.cell IQ.out hgx aH)
  have ar2:w6.cell? ⟨b2,5,none⟩=some (.slice A5 c.f1.f5.length c5):=by rw[ak HX6.out];rfl
  clear MR;clear amE
  have ML:(o5++jS c.f2).length=o5.length+(8*c.f2.length+4):=by rw[List.length_append];rw[lD]
  obtain⟨o6,xA⟩:∃o,o5++jS c.f2=o:=⟨_,rfl⟩
  rw[xA] at ML h6;have ZG:=ah.mk h6;have oD:=ah.mk hb6;have Fb:=ah.mk xA
  have h86:8<o6.length:=by omega
  have hu6:o6.length≤76777216:=by omega
  clear h6 hb6 xA ML;have HOO:=ah.mk (show o1++jW c.f1.f1++leB 8 c.f1.f3++jS c.f1.f4++jS c.f2=o6 by rw[← Fb.out,← E9.out,← Di.out,← Jr.out]);rw[HOO.out] at Bb;have c0:=ZG.out.cell;obtain⟨A,cx,hv⟩:=ZG.out.slice;subst hv;have Pj:=ah.mk (ZG.out.below (w1:=w6.drew) (bf (Below.refl _ _)));have Dj:=ah.mk (bf oD.out);have CW:=ah.mk (Kd.aC (Kd.aC nE.out oD.out) (bf (Below.refl w6.heap.size w6)));have Ze:=ah.mk (HF6.out.trans (Fr.of_below (g:=g) (bf (Below.refl w6.heap.size w6))))
  go_wp2_with fail
  go_region_law ((refine p9 (w0:=w0) .u8 w0.heap.size rfl (.tmp 46) (.tmp 48) 27 5 1 rfl Tryz.underlying27 info5 aH (.slice A o6.length cx) o6 c.f1.f5 A5 c.f1.f5.length c5 (fun _=>True) rfl rfl (fun _ _=>trivial) Pj.out.row CW.out Dj.out Dj.out.size aj ?_;intro v7 w7 ho hb hg _h;have Eb:=ah.mk ho;have HG7:=ah.mk hg;have CX:=ah.mk hb;obtain⟨cF,fF,lF⟩:=Pj.out.cells hg;clear ho hb hg _h;obtain⟨A7,c7,hv7⟩:=Kd.bP Eb.out;subst hv7))
  all_goals (
   have hO:=Eb.out;simp only[List.length_append] at hO
   go_wp2_with fail
   go_end0
   exact⟨rfl,⟨_,Bb.out _ _ (Pj.out.put HG7.out hO)⟩,CX.out.setCell Pj.out.low _,Ze.out.trans ((Fr.Kz Pj.out HG7.out).trans (Fr.set _ _ _))⟩)
 have t3:(c.f0 == 3)=false:=beq_eq_false_iff_ne.2 k3;have HK:=ah.mk k3;clear k3
 have hfin:Pq w0.heap.size W2 g v1 (o0++Bc c):=by
  have h:=wS.out;unfold Bc;rw[if_neg EB.out,if_neg FT.out,if_neg HK.out,List.append_nil,zP.out];exact h
 have Bb:=ah.mk hfin;clear hfin
 go_wp2_with fail
 go_end0
 exact⟨rfl,⟨v1,Bb.out⟩,HB2.out,FR.out⟩
theorem Js {most:Int}:∀(l:List Ru) (last all n:Int),dL most last all l=some n→(l.length:Int)≤n - all
 | [],last,all,n,h=>by
  rw[dL] at h;cases h;simp
 | r::l,last,all,n,h=>by
  rw[dL] at h;split at h
  ·cases h
  have:=Js l r.f1 _ n h;rw[List.length_cons];omega
theorem F7 {l:List Ru} {most n:Int} (h:iw l most=some n):(l.length:Int)≤n:=by
 have:=Js l (-1) 0 n h;omega
theorem Jt {x:It} {n:Int} (h:jk x=some n):(x.f4.length:Int)≤20000:=by
 have h1:=AY h;have h2:=F7 (xk h).2.2;omega
theorem Bd {x:It} (h:iy x=true):x.f3=0∧x.f4.length=0∧x.f5.length=0:=by
 unfold iy at h;simp only[Bool.and_eq_true,decide_eq_true_eq] at h;exact⟨h.1.1,h.1.2,h.2⟩
theorem ZI {x:It} (h:fV x=true):x.f2.size≤1023∧x.f4.length≤20000∧x.f5.length≤10240000:=by
 by_cases k1:x.f0=1
 ·rw[pu1 k1] at h
  cases hs:jk x with
  | none=>rw[hs] at h;cases h
  | some n=>
   rw[hs] at h;simp only[Bool.and_eq_true,decide_eq_true_eq] at h;have h1:=AY hs;have h2:=Jt hs;omega
 by_cases k2:x.f0=2
 ·rw[pu2 k1 k2] at h;simp only[Bool.and_eq_true,decide_eq_true_eq] at h;have:=Bd h.1;omega
 by_cases k3:x.f0=3
 ·rw[pu3 k1 k2 k3] at h;simp only[Bool.and_eq_true,decide_eq_true_eq] at h;have:=Bd h.1;omega
 by_cases k4:x.f0=4
 ·rw[pu4 k1 k2 k3 k4] at h;simp only[Bool.and_eq_true,decide_eq_true_eq] at h;have:=Bd h.1;have:=qJ h.2.1;omega
 rw[pu5 k1 k2 k3 k4] at h;cases h
theorem ahc {c:sF} (h:kG c=true):c.f1.f2.size≤1023∧c.f1.f4.length≤20000∧c.f1.f5.length≤10240000∧c.f2.length≤20000:=by
 unfold kG at h;split at h
 ·simp only[Bool.and_eq_true,decide_eq_true_eq] at h;omega
 split at h
 ·simp only[Bool.and_eq_true,decide_eq_true_eq] at h;have:=ZI h.2;omega
 split at h
 ·unfold ko at h
  cases hs:jk c.f1 with
  | none=>rw[hs] at h;cases h
  | some n=>
   rw[hs] at h;dsimp only at h;split at h
   ·cases h
   rename_i hk
   cases ha:iw c.f2 16522 with
   | none=>rw[ha] at h;cases h
   | some m=>
    rw[ha] at h;simp only[Bool.and_eq_true,decide_eq_true_eq] at h;have h1:=Jt hs;have h2:=MK ha;have h3:=F7 ha
    have h4:c.f1.f2.size=0:=Classical.byContradiction fun hh=>hk (.inr hh)
    omega
 cases h
theorem Dk:∀(l:List sF) (last:ByteArray),dY last l=true→∀c∈l,SmC c
 | [],_,_,c,hc=>by cases hc
 | d::l,last,h,c,hc=>by
  rw[dY] at h;simp only[Bool.and_eq_true] at h
  rcases List.mem_cons.1 hc with rfl|hc
  ·have h1:=qJ h.1;have h2:=ahc h.2.2.1;exact⟨⟨by omega,by omega,by omega,by omega⟩,by omega⟩
  exact Dk l _ h.2.2.2 c hc
theorem xB (s:ByteArray):∀b∈Go.Proofs.YtknihldkhedpkaaGreatDoorW.PrintWords.bytesOf s,0≤b∧b≤255:=by
 intro b hb;unfold Go.Proofs.YtknihldkhedpkaaGreatDoorW.PrintWords.bytesOf at hb;obtain⟨c,_,rfl⟩:=List.mem_map.1 hb;have:=c.toNat_lt;omega
theorem gH {a b:List Int} (ha:∀x∈a,0≤x∧x≤255) (hb:∀x∈b,0≤x∧x≤255):∀x∈a++b,0≤x∧x≤255:=fun x hx=>(List.mem_append.1 hx).elim (ha x) (hb x)
theorem MU (s:ByteArray):∀b∈jW s,0≤b∧b≤255:=gH (eP _ _) (xB s)
theorem Ju (l:List Ru):∀b∈gQ l,0≤b∧b≤255:=by
 intro b hb;unfold gQ at hb;obtain⟨r,_,hr⟩:=List.mem_flatMap.1 hb;exact gH (eP _ _) (eP _ _) b hr
theorem MV (l:List Ru):∀b∈jS l,0≤b∧b≤255:=gH (eP _ _) (Ju l)
theorem Pm {c:sF} (h:wX c):∀b∈Bc c,0≤b∧b≤255:=by
 unfold Bc;refine gH (eP _ _) ?_;split
 ·exact MU _
 split
 ·unfold fA;refine gH (gH (gH (eP _ _) (eP _ _)) (xB _)) ?_;split
  ·exact gH (gH (gH (eP _ _) (eP _ _)) (Ju _)) h.i.b
  split
  ·exact gH (eP _ _) (xB _)
  intro b hb;cases hb
 split
 ·exact gH (gH (gH (gH (MU _) (eP _ _)) (MV _)) (MV _)) h.i.b
 intro b hb;cases hb
theorem Dl:∀b∈kg,0≤b∧b≤255:=by decide
theorem Jv (b0 g0:Int) (A0:Option Addr) (c0:Nat) (l:List sF) (w:World) (hr:Kd.C EA w A0 l.length l) (hc:l.length≤c0) (hf:∀x∈l,wX x) (h0:0≤b0) (h1:b0≤4294967295) (h2:0≤g0) (h3:g0≤4294967295) :
  Calls Tryz.prog 32 #[.agg #[.int .i64 b0,.int .i64 g0,.slice A0 l.length c0]] w fun e w'=>∃v,e=.returned (.tuple #[v,.int .i64 (jC b0 g0 l).2])∧Kd.R (Kd.int .u8) 5 w' w.heap.size (fun _=>True) v (jC b0 g0 l).1∧Below w.heap.size w w':=by
 have kc:=fun (w:World) (C:Array Value) (n c:Nat)=>Lib.run_convert_bytes_const (P:=Tryz.prog) w 27 5 C n c Tryz.underlying27 Tryz.underlying5
 obtain⟨W1,hW1⟩:∃W1,w.alloc (.cells #[.int .i64 b0,.int .i64 g0,.slice A0 l.length c0] 24)=W1:=⟨_,rfl⟩
 have hbx:=bF w (.cells #[.int .i64 b0,.int .i64 g0,.slice A0 l.length c0] 24);have hb0:=(Below.refl w.heap.size w).alloc (Nat.le_refl _) (.cells #[.int .i64 b0,.int .i64 g0,.slice A0 l.length c0] 24);rw[hW1] at hbx hb0
 have p0:W1.cell? ⟨w.heap.size,0,none⟩=some (.int .i64 b0):=by rw[ak hbx];rfl
 have p1:W1.cell? ⟨w.heap.size,1,none⟩=some (.int .i64 g0):=by rw[ak hbx];rfl
 have p2:W1.cell? ⟨w.heap.size,2,none⟩=some (.slice A0 l.length c0):=by rw[ak hbx];rfl
 have hz:w.heap.size<W1.heap.size:=bG hbx;have HX0:=ah.mk hbx;have HB0:=ah.mk hb0;have HR:=ah.mk hr;have HF:=ah.mk hf;clear hbx hb0 hr hf;by_cases hbig:8192<l.length
 ·have d1:decide ((8192:Int)<(l.length:Int))=true:=decide_eq_true aj
  have HP:ah (jC b0 g0 l=([],7)):=⟨by unfold jC;rw[if_pos hbig]⟩
  go_enter Tryz.func32,Tryz.ntmps32
  go_wp2_with fail
  go_ret2
  exact⟨.slice none 0 0,by rw[HP.out];rfl,by rw[HP.out];exact Kd.eD _ _ _ _ _,HB0.out⟩
 have d1:decide ((8192:Int)<(l.length:Int))=false:=decide_eq_false aj;have hrt:=WA b0 g0 A0 c0 l W1 (Kd.aC HR.out HB0.out) hc HF.out aj h0 h1 h2 h3
 obtain⟨rt,F8⟩:∃b,lu b0 g0 l=b:=⟨_,rfl⟩
 rw[F8] at hrt;have Zg:=ah.mk hrt;have Zh:=ah.mk F8;clear hrt F8
 cases rt with
 | false=>
  have HP:ah (jC b0 g0 l=([],180)):=⟨by unfold jC;rw[if_neg hbig,Zh.out];rfl⟩
  go_enter Tryz.func32,Tryz.ntmps32
  go_wp2_with (first|(refine eX (.load 24 (.tmp 1)) rfl ?_;refine wpList_load_row rfl _ _ rfl w.heap.size rfl 24 #[.int .i64 b0,.int .i64 g0,.slice A0 l.length c0] (0,0) _ HX0.out Tryz.underlying24 rfl aD ?_)|(go_at_call 63;refine Zg.out.mono ?_;rintro e w2 ⟨rfl,hb2⟩;have HB2:=ah.mk (HB0.out.trans (hb2.mono HB0.out.size));clear hb2))
  go_ret2
  exact⟨.slice none 0 0,by rw[HP.out];rfl,by rw[HP.out];exact Kd.eD _ _ _ _ _,HB2.out⟩
 | true=>
  have hsm:∀c∈l,SmC c:=by
   have h:=Zh.out;unfold lu at h;simp only[Bool.and_eq_true] at h;exact Dk l _ h.2.2.2.2
  have IJ:=ah.mk hsm
  have HPP:ah (nM l.length (kg++leB 4 b0++leB 4 g0) l=jC b0 g0 l):=⟨by unfold jC;rw[if_neg hbig,Zh.out,if_pos rfl]⟩
  clear hsm
  go_enter Tryz.func32,Tryz.ntmps32
  go_upto_region 5 with (first|(refine eX (.load 24 (.tmp 1)) rfl ?_;refine wpList_load_row rfl _ _ rfl w.heap.size rfl 24 #[.int .i64 b0,.int .i64 g0,.slice A0 l.length c0] (0,0) _ HX0.out Tryz.underlying24 rfl aD ?_)|(go_at_call 63;refine Zg.out.mono ?_;rintro e w2 ⟨rfl,hb2⟩;have HB2:=ah.mk hb2;clear hb2))
  clear hW1
  go_cut [4] (fun v4 wc=>∃g b,v4=.pointer (some ⟨g,0,none⟩)∧w.heap.size<g∧ah (Pg w.heap.size wc g b)∧ah (Below W1.heap.size W1 wc))
  case first=>
   go_wp2_with fail
   go_meet
   case rel=>
    have hz2:=HB2.out.size;exact⟨w2.heap.size+1,w2.heap.size,rfl,by omega,⟨⟨by have:=bF (w2.alloc (.cells #[Value.int .u8 118,.int .u8 108,.int .u8 112,.int .u8 97,.int .u8 116,.int .u8 99,.int .u8 104,.int .u8 1] 5 (8,9))) (.cells #[.slice (some ⟨w2.heap.size,0,none⟩) 8 8] 109);rwa [World.size_alloc] at this,aN (bF _ _) _,by omega⟩⟩,⟨(HB2.out.alloc HB2.out.size _).alloc (by rw[World.size_alloc];omega) _⟩⟩
  case rest=>
   obtain⟨g,b,rfl,hg0,HG,OL⟩:=hcut;have hx:=aJ HX0.out OL.out
   have q0:wc.cell? ⟨w.heap.size,0,none⟩=some (.int .i64 b0):=by rw[ak hx];rfl
   have HX:=ah.mk hx;have HB1:=ah.mk (HB0.out.trans (OL.out.mono HB0.out.size))
   have hgn:w.heap.size≠g:=by omega
   clear hx p0 p1 p2 HX0 OL Zg
   go_wp2_with fail
   refine (MO w wc g kg b0 4 (.inl ⟨rfl,b,HG.out⟩) HB1.out aH aH).mono ?_;rintro e w3 ⟨rfl,h3,hb3,hf3⟩;have Zf:=ah.mk (hf3.cell HX.out hgn aH)
   have q1:w3.cell? ⟨w.heap.size,1,none⟩=some (.int .i64 g0):=by rw[ak Zf.out];rfl
   obtain⟨v3,h3⟩:=h3.pq (by rw[List.length_append,aU];decide);have OJ:=ah.mk h3;have HB3:=ah.mk hb3;clear h3 hb3 hf3 q0
   go_wp2_with fail
   refine (nL w w3 g v3 (kg++leB 4 b0) g0 4 OJ.out HB3.out aH (by rw[List.length_append,aU];decide) (by rw[List.length_append,aU];decide)).mono ?_;rintro e w4 ⟨rfl,⟨v4,h4⟩,hb4,E8⟩;have IL:=ah.mk (E8.cell Zf.out hgn aH)
   have q2:w4.cell? ⟨w.heap.size,2,none⟩=some (.slice A0 l.length c0):=by rw[ak IL.out];rfl
   have MP:=ah.mk h4;have iM:=ah.mk hb4
   have HW4:ah (∀x∈kg++leB 4 b0++leB 4 g0,0≤x∧x≤255):=⟨gH (gH Dl (eP _ _)) (eP _ _)⟩
   clear h4 hb4 E8 q1 OJ HB3 Zf HG HB1 HX
   go_wp2_with fail
   go_loopg [29] l.length (fun gk s29 wx=>∃(i:Nat) (v:Value) (out:List Int),i+gk=l.length∧s29=.int .i64 i∧8<out.length∧out.length≤16777216∧ah (nM l.length out (l.drop i)=jC b0 g0 l)∧ah (Pq w.heap.size wx g v out)∧ah (Below w.heap.size w wx)∧ah (∀x∈out,0≤x∧x≤255)∧ah (wx.heap[w.heap.size]?=some (.cells #[.int .i64 b0,.int .i64 g0,.slice A0 l.length c0] 24 (0,0))))
   case atStart=>exact⟨0,v4,_,by omega,rfl,by rw[List.length_append,List.length_append,aU,aU];decide,by rw[List.length_append,List.length_append,aU,aU];decide,⟨by rw[List.drop_zero];exact HPP.out⟩,MP,iM,HW4,IL⟩
   case round=>
    clear MP iM HW4 IL q2 HPP;obtain⟨i,v,out,hig,rfl,h8,hlo,ZJ,HP,HB,HW,HX⟩:=hrel;by_cases hi:i<l.length
    ·have hd:decide ((i:Int)<(l.length:Int))=true:=decide_eq_true aj;have hd2:decide (i<l.length)=true:=decide_eq_true hi;obtain⟨ad,A4,c4,A5,c5,A6,c6,hA,r0,r1,r2,r3,r4,r5,r6,r7,l4,g4,l5,g5,l6,g6⟩:=CY HR.out (i:Int) aj aj;rw[Int.toNat_natCast] at r0 r1 r2 r3 r4 r5 r6 r7
     have hrd:gV l (i:Int)=l[i]'hi:=by simp[gV,hi]
     have HSc:=ah.mk (IJ.out (l[i]'hi) (List.getElem_mem hi));have II:=ah.mk (HF.out (l[i]'hi) (List.getElem_mem hi));have hg1:=ZJ.out;rw[List.drop_eq_getElem_cons hi] at hg1
     obtain⟨c,hx⟩:∃c,l[i]'hi=c:=⟨_,rfl⟩
     rw[hrd,hx] at r0 r1 r2 r3 r4 r5 r6 r7 l4 g4 l5 g5 l6 g6;rw[hx] at hg1 HSc II;rw[nM] at hg1;subst hA;have r0:=au HB.out r0;have r1:=au HB.out r1;have r2:=au HB.out r2;have r3:=au HB.out r3;have r4:=au HB.out r4;have r5:=au HB.out r5;have r6:=au HB.out r6;have r7:=au HB.out r7;have G4:=ah.mk g4;have G5:=ah.mk g5;have G6:=ah.mk g6
     obtain⟨W2,hW2⟩:∃W2,wr.alloc (.cells #[.int .i64 c.f0,.int .i64 c.f1.f0,.string c.f1.f1,.string c.f1.f2,.int .i64 c.f1.f3,.slice A4 c.f1.f4.length c4,.slice A5 c.f1.f5.length c5,.slice A6 c.f2.length c6] 31)=W2:=⟨_,rfl⟩
     have hba:=(Below.refl wr.heap.size wr).alloc (Nat.le_refl _) (.cells #[.int .i64 c.f0,.int .i64 c.f1.f0,.string c.f1.f1,.string c.f1.f2,.int .i64 c.f1.f3,.slice A4 c.f1.f4.length c4,.slice A5 c.f1.f5.length c5,.slice A6 c.f2.length c6] 31);have hby:=bF wr (.cells #[.int .i64 c.f0,.int .i64 c.f1.f0,.string c.f1.f1,.string c.f1.f2,.int .i64 c.f1.f3,.slice A4 c.f1.f4.length c4,.slice A5 c.f1.f5.length c5,.slice A6 c.f2.length c6] 31);rw[hW2] at hba hby;have HY:=ah.mk hby;have wS:=ah.mk (HP.out.below hba);have HB2:=ah.mk (HB.out.trans (hba.mono HB.out.size));have OH:=ah.mk (aJ HX.out hba)
     have hcl:(Bc c).length≤1099511627:=by
      have h1:=HSc.out.i.p;have h2:=HSc.out.i.t;have h3:=HSc.out.i.r;have h4:=HSc.out.i.d;have h5:=HSc.out.s;unfold Bc;split
      ·simp only[List.length_append,aU,lC];omega
      split
      ·unfold fA;split
       ·simp only[List.length_append,aU,Go.Proofs.YtknihldkhedpkaaGreatDoorW.PrintWords.bytesOf_length,uZ];omega
       split
       ·simp only[List.length_append,aU,Go.Proofs.YtknihldkhedpkaaGreatDoorW.PrintWords.bytesOf_length];omega
       simp only[List.length_append,aU,Go.Proofs.YtknihldkhedpkaaGreatDoorW.PrintWords.bytesOf_length,List.length_nil];omega
      split
      ·simp only[List.length_append,aU,lC,lD];omega
      simp only[List.length_append,aU,List.length_nil];omega
     have hol:(out++Bc c).length≤1099511627776:=by rw[List.length_append];omega
     have ahe:8<(out++Bc c).length:=by rw[List.length_append];omega
     have aee:=gH HW.out (Pm II.out);have hch:=MS w W2 g v out c A4 c4 A5 c5 A6 c6 wS.out HB2.out h8 hlo HSc.out g4 g5 g6 l4 l5 l6
     obtain⟨o2,ho2⟩:∃o,out++Bc c=o:=⟨_,rfl⟩
     rw[ho2] at hol ahe hch hg1 aee;have HCH:=ah.mk hch;have HW2:=ah.mk aee;have IG:=ah.mk hg1;clear hrd hx hg1 ZJ g4 g5 g6 hba hby hch hcl aee ho2 hlo h8
     go_wp2_with (refine eX (.load 31 (.tmp 6)) rfl ?_;refine wpList_load_row rfl _ _ rfl wr.heap.size rfl 31 #[.int .i64 c.f0,.int .i64 c.f1.f0,.string c.f1.f1,.string c.f1.f2,.int .i64 c.f1.f3,.slice A4 c.f1.f4.length c4,.slice A5 c.f1.f5.length c5,.slice A6 c.f2.length c6] (0,0) _ HY.out Tryz.underlying31 rfl aD ?_)
     refine HCH.out.mono ?_;rintro e w5 ⟨rfl,⟨v5,h5⟩,hb5,Mi⟩;have IQ:=ah.mk (Mi.cell OH.out hgn aH);have MQ:=ah.mk h5;have kW:=ah.mk hb5;have k0:=h5.cell;obtain⟨As,cs,hv5⟩:=h5.slice;subst hv5;clear h5 hb5 Mi hW2 r0 r1 r2 r3 r4 r5 r6 r7 HCH HY wS HB2 OH;by_cases hov:16777216<o2.length+9
     ·have hdd:decide ((16777216:Int)<(o2.length:Int)+9)=true:=decide_eq_true aj
      have HN:ah (jC b0 g0 l=([],7)):=⟨by rw[← IG.out,if_pos hov]⟩
      go_wp2_with fail
      go_ret2
      exact⟨.slice none 0 0,by rw[HN.out];rfl,by rw[HN.out];exact Kd.eD _ _ _ _ _,kW.out⟩
     have hdd:decide ((16777216:Int)<(o2.length:Int)+9)=false:=decide_eq_false aj
     have HN:ah (nM l.length o2 (l.drop (i+1))=jC b0 g0 l):=⟨by rw[← IG.out,if_neg hov]⟩
     go_wp2_with fail
     go_roundg (l.length - (i+1))
     case measure=>omega
     case rel=>exact⟨i+1,_,o2,by omega,by first|rfl|simp,ahe,by omega,HN,MQ,kW,HW2,IQ⟩
    have hd:decide ((i:Int)<(l.length:Int))=false:=decide_eq_false aj;have hd2:decide (i<l.length)=false:=decide_eq_false hi
    have HE:ah (jC b0 g0 l=(kP out l.length,0)):=⟨by rw[← ZJ.out,List.drop_of_length_le aj];rfl⟩
    have HH:=ah.mk HX.out;clear ZJ
    go_wp2_with fail
    refine (nL w _ g v out 0 1 HP.out HB.out aH h8 aj).mono ?_;rintro e w5 ⟨rfl,⟨v5,h5⟩,hb5,Mi⟩;have IQ:=ah.mk (Mi.cell HX.out hgn aH)
    have q2:w5.cell? ⟨w.heap.size,2,none⟩=some (.slice A0 l.length c0):=by rw[ak IQ.out];rfl
    have hl5:8<(out++leB 1 0).length∧(out++leB 1 0).length≤16777217:=by rw[List.length_append,aU];omega
    have Pn:=gH HW.out (eP 1 0)
    obtain⟨o5,uY⟩:∃o,out++leB 1 0=o:=⟨_,rfl⟩
    rw[uY] at h5 hl5 Pn;have MQ:=ah.mk h5;have kW:=ah.mk hb5;have E9:=ah.mk uY;have HW5:=ah.mk Pn;obtain⟨amH,ar3⟩:=hl5;clear h5 hb5 Mi Pn uY
    go_wp2_with fail
    refine (nL w _ g v5 o5 l.length 4 MQ.out kW.out aH amH aj).mono ?_;rintro e w6 ⟨rfl,⟨v6,h6⟩,hb6,MR⟩
    have ML:8<(o5++leB 4 (l.length:Int)).length∧(o5++leB 4 (l.length:Int)).length≤16777221:=by rw[List.length_append,aU];omega
    have hw6:=gH HW5.out (eP 4 (l.length:Int))
    obtain⟨o6,xA⟩:∃o,o5++leB 4 (l.length:Int)=o:=⟨_,rfl⟩
    rw[xA] at h6 ML hw6;have ZG:=ah.mk h6;have oD:=ah.mk hb6;have Fb:=ah.mk (show out++leB 1 0++leB 4 (l.length:Int)=o6 by rw[E9.out,xA]);have HW6:=ah.mk hw6;obtain⟨amK,ar4⟩:=ML;have k6:=h6.cell
    obtain⟨A6,c6,hcap6,e6,WG⟩:∃A c,o6.length≤c∧v6=.slice A o6.length c∧Kd.C (Kd.int .u8) w6 A o6.length o6:=by
     obtain⟨A,c,e2,hcap,hread⟩:=Kd.sK h6.row;exact⟨A,c,hcap,e2,hread⟩
    subst e6;have qI:=ah.mk WG;clear h6 hb6 MR hw6 xA q2 WG MQ kW
    go_wp2_with fail
    refine (Sv A6 c6 o6 w6 qI.out hcap6 HW6.out).mono ?_;rintro e w7 ⟨rfl,zQ⟩;have HP7:=ah.mk (ZG.out.below zQ);have CX:=ah.mk (oD.out.trans (zQ.mono oD.out.size));clear zQ k6
    go_wp2_with fail
    refine (nL w w7 g _ o6 (kQ o6) 4 HP7.out CX.out aH amK aj).mono ?_;rintro e w8 ⟨rfl,⟨v8,h8'⟩,Fe,hf8⟩;have k8:=h8'.cell;have HP8:=ah.mk h8';have Ec:=ah.mk Fe;clear h8' Fe hf8
    go_wp2_with fail
    go_ret2
    refine⟨v8,by rw[HE.out];rfl,?_,Ec.out⟩;rw[HE.out];unfold kP;rw[Fb.out];exact HP8.out.row
theorem UO {fn:Func} {P:Program} {p1 p2:Tmp} {t1:TypeId} (h:fn.results=#[.cell p1 t1,.tmp p2]) (tmps:Array Value) (w:World) (b1:Nat) (cs:Array Value) (d:TypeDesc)
  (h1:tmps.getD p1 undef=.pointer (some ⟨b1,0,none⟩)) (g1:w.heap[b1]?=some (.cells cs t1 (0,0)))
  (hu:P.underlying t1=some d) (hd:(match d with|.struct _|.array _ _=>true|_=>false)=true) (hi:(P.info? t1).map (·.size)=some cs.size) :
  (results fn tmps).run P w=.ok (.tuple #[.agg cs,tmps.getD p2 undef]) w:=by
 have h1':tmps[p1]?.getD undef=.pointer (some ⟨b1,0,none⟩):=by simpa using h1
 have e1:=run_loadVar_row w b1 t1 t1 cs (0,0) d g1 hu hd hi;simp only[results,h];simp[h1',asAddr,e1,Result.andThen,Sem.run_bind]
theorem Jw {w:World} {b b':Nat} {v:Value} {xs:List sF} (h:Kd.R EA 31 w b (fun _=>True) v xs) (hb:b'≤b):Kd.R EA 31 w b' (fun _=>True) v xs :=
 ⟨h.1,(iG.lower h.2 hb).qK (fun p cs hp=>by
  obtain⟨v5,v6,v7,rfl,g5,g6,g7⟩:=Uy hp
  exact Sj w b' _ p ⟨g5.1,iG.lower g5.2 hb⟩ ⟨g6.1,iG.lower g6.2 hb⟩ ⟨g7.1,iG.lower g7.2 hb⟩)⟩
theorem UQ {out:List Int} (h:∀x∈out,0≤x∧x≤255) (n:Int):∀x∈kP out n,0≤x∧x≤255:=by
 unfold kP;exact gH (gH (gH h (eP _ _)) (eP _ _)) (eP _ _)
theorem F9 (n:Int):∀(l:List sF) (out:List Int),(∀x∈out,0≤x∧x≤255)→(∀c∈l,wX c)→∀x∈(nM n out l).1,0≤x∧x≤255
 | [],out,ho,_=>UQ ho n
 | c::l,out,ho,hf=>by
  rw[nM];split
  ·intro x hx;cases hx
  exact F9 n l _ (gH ho (Pm (hf c bB))) (fun d hd=>hf d (by simp[hd]))
theorem MW {b g:Int} {l:List sF} (hf:∀c∈l,wX c):∀x∈(jC b g l).1,0≤x∧x≤255:=by
 unfold jC;split
 ·intro x hx;cases hx
 split
 ·exact F9 _ l _ (gH (gH Dl (eP _ _)) (eP _ _)) hf
 intro x hx;cases hx
def acR (w:World) (o:Option (Int × Int × List sF) × Int) (e:Ending) (w':World):Prop:=Below w.heap.size w w'∧match o with
 | (none,n)=>e=.returned (.tuple #[.agg #[.int .i64 0,.int .i64 0,.slice none 0 0],.int .i64 n])
 | (some (b,g,cs),n)=>∃v,e=.returned (.tuple #[.agg #[.int .i64 b,.int .i64 g,v],.int .i64 n])∧Kd.R EA 31 w' w.heap.size (fun _=>True) v cs
theorem xC:∀a:List UInt8,Op.bytesLess a a=false
 | []=>rfl
 | a::l=>by
  have:¬a<a:=by simp[UInt8.lt_iff_toNat_lt]
  simp[Op.bytesLess,this,xC l]
theorem Ga:∀{a b c:List UInt8},Op.bytesLess a b=true→Op.bytesLess b c=true→Op.bytesLess a c=true
 | a,b,[],_,h=>by cases b <;> cases h
 | [],b,c::z,_,_=>rfl
 | a::x,[],c::z,h,_=>by cases h
 | a::x,b::y,c::z,h1,h2=>by
  simp only[Op.bytesLess,Bool.or_eq_true,Bool.and_eq_true,decide_eq_true_eq,beq_iff_eq] at h1 h2 ⊢
  rcases h1 with h1|⟨rfl,h1⟩
  ·rcases h2 with h2|⟨rfl,h2⟩
   ·exact .inl (by rw[UInt8.lt_iff_toNat_lt] at *;omega)
   exact .inl h1
  rcases h2 with h2|⟨rfl,h2⟩
  ·exact .inl h2
  exact .inr ⟨rfl,Ga h1 h2⟩
theorem MX:∀{a b:List UInt8},Op.bytesLess a b=false→Op.bytesLess b a=false→a=b
 | [],[],_,_=>rfl
 | [],b::y,h,_=>by cases h
 | a::x,[],_,h=>by cases h
 | a::x,b::y,h1,h2=>by
  simp only[Op.bytesLess,Bool.or_eq_false_iff,Bool.and_eq_false_iff,decide_eq_false_iff_not,beq_eq_false_iff_ne] at h1 h2
  have e:a=b:=by
   have h3:=h1.1;have h4:=h2.1;rw[UInt8.lt_iff_toNat_lt] at h3 h4;exact UInt8.toNat_inj.1 aj
  subst e;rw[MX (h1.2.resolve_left (fun h=>h rfl)) (h2.2.resolve_left (fun h=>h rfl))]
theorem ZK {a b:List UInt8} (h:Op.bytesLess a b=true):a≠b:=fun e=>by
 subst e;rw[xC] at h;cases h
def joinL:List (List UInt8)→List UInt8
 | []=>[]
 | a::l=>47::(a++joinL l)
def sM:List (List UInt8)→List UInt8
 | []=>[]
 | a::l=>0::(a++sM l)
def Gb:List (List UInt8)→List (List UInt8)→Bool
 | [],[]=>false
 | [],_::_=>true
 | _::_,[]=>false
 | a::l,b::m=>if a=b then Gb l m else Op.bytesLess a b
theorem MZ:∀l m:List ByteArray,lY l m=Gb (l.map bs) (m.map bs)
 | [],[]=>rfl
 | [],_::_=>rfl
 | _::_,[]=>rfl
 | a::l,b::m=>by
  rw[lY,List.map_cons,List.map_cons,Gb,MZ l m]
theorem M0:∀{a b:List UInt8} {X Y:List UInt8},(∀c∈a,c≠0)→(∀c∈b,c≠0)→(X=[]∨∃X',X=0::X')→(Y=[]∨∃Y',Y=0::Y') →
  Op.bytesLess (a++X) (b++Y)=if a=b then Op.bytesLess X Y else Op.bytesLess a b
 | [],[],X,Y,_,_,_,_=>by simp
 | [],b::y,X,Y,_,hb,hX,_=>by
  have hb0:=hb b List.mem_cons_self
  rcases hX with rfl|⟨X',rfl⟩
  ·simp[Op.bytesLess]
  have:(0:UInt8)<b:=by
   rw[UInt8.lt_iff_toNat_lt]
   have:b.toNat≠0:=fun e=>hb0 (UInt8.toNat_inj.1 e)
   simp;omega
  simp[Op.bytesLess,this]
 | a::x,[],X,Y,ha,_,_,hY=>by
  have ha0:=ha a List.mem_cons_self
  rcases hY with rfl|⟨Y',rfl⟩
  ·simp[Op.bytesLess]
  have:¬a<(0:UInt8):=by
   rw[UInt8.lt_iff_toNat_lt];simp
  simp[Op.bytesLess,this,ha0]
 | a::x,b::y,X,Y,ha,hb,hX,hY=>by
  have ih:=M0 (a:=x) (b:=y) (fun c h=>ha c (List.mem_cons_of_mem _ h)) (fun c h=>hb c (List.mem_cons_of_mem _ h)) hX hY;rw[List.cons_append,List.cons_append,Op.bytesLess,ih];by_cases e:a=b
  ·subst e;by_cases e2:x=y
   ·subst e2
    have:¬a<a:=by simp[UInt8.lt_iff_toNat_lt]
    simp[this]
   rw[if_neg e2,if_neg (fun h=>e2 (List.cons.inj h).2),Op.bytesLess]
  rw[if_neg (fun h=>e (List.cons.inj h).1),Op.bytesLess];have:(a == b)=false:=beq_eq_false_iff_ne.2 e;rw[this,Bool.false_and,Bool.false_and]
theorem Jy:∀{l m:List (List UInt8)},(∀a∈l,∀c∈a,c≠0)→(∀a∈m,∀c∈a,c≠0)→Op.bytesLess (sM l) (sM m)=Gb l m
 | [],[],_,_=>rfl
 | [],b::m,_,_=>rfl
 | a::l,[],_,_=>rfl
 | a::l,b::m,h1,h2=>by
  have ht:∀l:List (List UInt8),sM l=[]∨∃X',sM l=0::X':=fun l=>by
   cases l with
   | nil=>exact .inl rfl
   | cons a l=>exact .inr ⟨_,rfl⟩
  have h0:¬(0:UInt8)<0:=by decide
  rw[sM,sM,Op.bytesLess,M0 (h1 a List.mem_cons_self) (h2 b List.mem_cons_self) (ht l) (ht m),Gb,Jy (fun x hx=>h1 x (List.mem_cons_of_mem _ hx)) (fun x hx=>h2 x (List.mem_cons_of_mem _ hx))];simp
theorem zk:∀{l:List UInt8} {c:UInt8},Lib.indexByte l c≠-1→0≤Lib.indexByte l c∧l=l.take (Lib.indexByte l c).toNat++c::l.drop ((Lib.indexByte l c).toNat+1)
 | [],c,h=>absurd rfl h
 | b::l,c,h=>by
  unfold Lib.indexByte at h ⊢;by_cases e:(b == c)=true
  ·rw[if_pos e];have:=beq_iff_eq.1 e;subst this;simp
  rw[if_neg e] at h ⊢;by_cases e2:(Lib.indexByte l c == -1)=true
  ·rw[if_pos e2] at h;exact absurd rfl h
  rw[if_neg e2];obtain⟨h1,h2⟩:=zk (fun he=>e2 (beq_iff_eq.2 he));refine⟨by omega,?_⟩;rw[show (Lib.indexByte l c+1).toNat=(Lib.indexByte l c).toNat+1 by omega,List.take_succ_cons,List.drop_succ_cons,List.cons_append,← h2]
theorem Ed:∀(k:Nat) (s:List UInt8),joinL (Lib.splitK [47] 0 k s)=47::s
 | 0,s=>by simp[Lib.splitK,joinL]
 | k+1,s=>by
  rw[Lib.splitK];by_cases h:(Lib.index s [47] == -1)=true
  ·rw[if_pos h];simp[joinL]
  rw[if_neg h,joinL,Ed k,Lib.index_one];rw[Lib.index_one] at h;obtain⟨h1,h2⟩:=zk (fun he=>h (beq_iff_eq.2 he));rw[Nat.add_zero]
  congr 1
  exact h2.symm
theorem qb {p:ByteArray} (h:fP p=true):bs p=joinL ((dP p).map bs):=by
 have h1:(dP p).map bs=Lib.splitK [47] 0 (Lib.countB (p.extract 1 p.size) ⟨#[47]⟩) (p.extract 1 p.size).data.toList:=Lib.splitB_data ⟨#[47]⟩ 0 _ _;rw[h1,Ed];have hd:=of_decide_eq_true h;have e:(p.extract 1 p.size).data.toList=(bs p).drop 1:=Lib.extract_to_end p 1;rw[e]
 cases hb:bs p with
 | nil=>rw[hb] at hd;cases hd
 | cons a l=>
  rw[hb] at hd
  injection hd with hd
  subst hd;rfl
theorem xD:∀{l cs:List UInt8},Lib.indexAny l cs = -1→∀c∈l,cs.contains c=false
 | [],cs,_,c,hc=>by cases hc
 | b::l,cs,h,c,hc=>by
  rw[Lib.indexAny] at h
  cases hb:cs.contains b with
  | true=>rw[hb] at h;simp at h
  | false=>
   rw[hb] at h
   have h2:Lib.indexAny l cs = -1:=by
    by_cases e:(Lib.indexAny l cs == -1)=true
    ·exact beq_iff_eq.1 e
    have hge:=Lib.indexAny_ge cs l;simp only[Bool.false_eq_true,if_false] at h;rw[if_neg e] at h;omega
   rcases List.mem_cons.1 hc with rfl|hc
   ·exact hb
   exact xD h2 c hc
theorem zR {p:ByteArray} (h:fQ p=true):∀c∈bs p,c≠47∧c≠0:=by
 have h:=of_decide_eq_true h;unfold iq.f at h;split at h
 ·cases h
 split at h
 ·cases h
 split at h
 ·cases h
 split at h
 ·cases h
 split at h
 ·cases h
 rename_i hn;have hn:Lib.containsAny (bs p) [47,0]=false:=(Bool.not_eq_true _).mp hn;unfold Lib.containsAny at hn;have hn:=of_decide_eq_false hn;have hge:=Lib.indexAny_ge [47,0] (bs p);intro c hc;have:=xD (show Lib.indexAny (bs p) [47,0] = -1 by omega) c hc;simp at this;exact⟨fun e=>this.1 e,fun e=>this.2 e⟩
def Vp (p:ByteArray):Prop:=(iW p).2=true
theorem Vp.parts {p:ByteArray} (h:Vp p):(iW p).1=dP p∧fP p=true∧(dP p).all fQ=true:=by
 have h1:iW p=((iW p).1,true):=by rw[← (show (iW p).2=true from h)]
 obtain⟨_,h2,h3,h4⟩:=uE h1;exact⟨h3,h2,h4⟩
theorem Jz:∀{l:List (List UInt8)},(∀a∈l,∀c∈a,c≠47)→iR 47 0 (joinL l)=sM l
 | [],_=>rfl
 | a::l,h=>by
  have ih:=Jz (l:=l) (fun x hx=>h x (List.mem_cons_of_mem _ hx));have ha:iR 47 0 a=a:=rM (List.count_eq_zero_of_not_mem (fun hm=>h a List.mem_cons_self 47 hm rfl));rw[joinL,sM,show (47:UInt8)::(a++joinL l)=[47]++(a++joinL l) from rfl,mO,mO,ha,ih];rfl
theorem JA:∀{l:List (List UInt8)},(∀a∈l,∀c∈a,c≠0)→iR 0 47 (sM l)=joinL l
 | [],_=>rfl
 | a::l,h=>by
  have ih:=JA (l:=l) (fun x hx=>h x (List.mem_cons_of_mem _ hx));have ha:iR 0 47 a=a:=rM (List.count_eq_zero_of_not_mem (fun hm=>h a List.mem_cons_self 0 hm rfl));rw[joinL,sM,show (0:UInt8)::(a++sM l)=[0]++(a++sM l) from rfl,mO,mO,ha,ih];rfl
theorem sN {p:ByteArray} (h:Vp p):∀a∈(dP p).map bs,∀c∈a,c≠47∧c≠0:=by
 intro a ha c hc;obtain⟨q,hq,rfl⟩:=List.mem_map.1 ha;exact zR (List.all_eq_true.1 h.parts.2.2 q hq) c hc
theorem Gc {p:ByteArray} (h:Vp p):bs (bY 47 0 p)=sM ((dP p).map bs):=by
 show iR 47 0 (bs p)=_
 rw[qb h.parts.2.1,Jz (fun a ha c hc=>(sN h a ha c hc).1)]
theorem mE {p:ByteArray} (h:Vp p):bY 0 47 (bY 47 0 p)=p:=by
 apply nY
 show iR 0 47 (bs (bY 47 0 p))=_
 rw[Gc h,JA (fun a ha c hc=>(sN h a ha c hc).2),← qb h.parts.2.1]
theorem Dm {p q:ByteArray} (hp:Vp p) (hq:Vp q):lY (iW p).1 (iW q).1=Op.bytesLess (bs (bY 47 0 p)) (bs (bY 47 0 q)):=by
 rw[hp.parts.1,hq.parts.1,MZ,Gc hp,Gc hq,Jy (fun a ha c hc=>(sN hp a ha c hc).2) (fun a ha c hc=>(sN hq a ha c hc).2)]
abbrev kl (x:It):List UInt8:=bs (gu x)
def Less (a b:List UInt8):Prop:=Op.bytesLess a b=true
theorem Less.trans {a b c:List UInt8} (h:Less a b) (k:Less b c):Less a c:=Ga h k
theorem Less.ne {a b:List UInt8} (h:Less a b):a≠b:=ZK h
theorem Less.tri {a b:List UInt8} (h:¬Less a b) (hn:a≠b):Less b a:=by
 cases hb:Op.bytesLess b a with
 | true=>exact hb
 | false=>exact absurd (MX ((Bool.not_eq_true _).mp h) hb) hn
structure kH (l:List It):Prop where
 path:∀x∈l,Vp x.f1
 keys:l.Pairwise (fun x y=>Less (kl x) (kl y))
theorem kH.nil:kH []:=⟨fun _ h=>absurd h List.not_mem_nil,List.Pairwise.nil⟩
theorem kH.drop {l:List It} (h:kH l) (n:Nat):kH (l.drop n):=⟨fun x hx=>h.path x (List.mem_of_mem_drop hx),h.keys.sublist (List.drop_sublist n l)⟩
theorem kH.tail {x:It} {l:List It} (h:kH (x::l)):kH l:=⟨fun y hy=>h.path y (List.mem_cons_of_mem _ hy),(List.pairwise_cons.1 h.keys).2⟩
theorem kH.head {x:It} {l:List It} (h:kH (x::l)):∀y∈l,Less (kl x) (kl y):=(List.pairwise_cons.1 h.keys).1
theorem Gd:∀{l:List It} {K:List (ByteArray × Int)} {b:Option (List ByteArray)},gL K b l=true→kH l∧∀q,Vp q→b=some (iW q).1→∀x∈l,Less (bs (bY 47 0 q)) (kl x)
 | [],_,_,_=>⟨kH.nil,fun _ _ _ _ h=>absurd h List.not_mem_nil⟩
 | y::l,K,b,h=>by
  rw[gL] at h;simp only[Bool.and_eq_true,decide_eq_true_eq] at h;obtain⟨⟨⟨⟨h1,h2⟩,h3⟩,h4⟩,h5⟩:=h;obtain⟨hr,hq⟩:=Gd h5;have hv:Vp y.f1:=h1;have hy:=hq y.f1 hv rfl;refine⟨⟨fun x hx=>?_,List.pairwise_cons.2 ⟨hy,hr.keys⟩⟩,fun q hvq hb x hx=>?_⟩
  ·rcases List.mem_cons.1 hx with rfl|hx
   ·exact hv
   exact hr.path x hx
  have hqy:Less (bs (bY 47 0 q)) (kl y):=by
   rw[hb] at h2;rw[Option.all_some,Dm hvq hv] at h2;exact h2
  rcases List.mem_cons.1 hx with rfl|hx
  ·exact hqy
  exact hqy.trans (hy x hx)
theorem sO {l:List It} (h:lZ l=true):kH l:=(Gd h).1
theorem kH.inj {l:List It} (h:kH l):∀x∈l,∀y∈l,kl x=kl y→x=y:=by
 induction l with
 | nil=>intro x hx;cases hx
 | cons a l ih=>
  intro x hx y hy e
  rcases List.mem_cons.1 hx with hxa|hx1
  ·rcases List.mem_cons.1 hy with hya|hy1
   ·rw[hxa,hya]
   subst hxa;exact absurd e (h.head y hy1).ne
  rcases List.mem_cons.1 hy with hya|hy1
  ·subst hya;exact absurd e.symm (h.head x hx1).ne
  exact ih h.tail x hx1 y hy1 e
def st (l:List It) (k:List UInt8):Option It:=l.find? (fun x=>decide (kl x=k))
theorem yg {l:List It} {k:List UInt8} {x:It} (h:st l k=some x):x∈l∧kl x=k:=⟨List.mem_of_find?_eq_some h,by have:=List.find?_some h;simpa using this⟩
theorem Sw {l:List It} {k:List UInt8} (h:∀x∈l,kl x≠k):st l k=none:=List.find?_eq_none.2 (fun x hx=>by simpa using h x hx)
theorem Ee {l:List It} {k:List UInt8} (h:st l k=none):∀x∈l,kl x≠k:=fun x hx e=>by
 have:=List.find?_eq_none.1 h x hx;simp at this;exact this e
theorem Gf {x:It} {l:List It} {k:List UInt8} (h:kl x≠k):st (x::l) k=st l k:=by
 unfold st;rw[List.find?_cons_of_neg]
 simpa using h
theorem Gg {x:It} {l:List It} {k:List UInt8} (h:kl x=k):st (x::l) k=some x:=by
 unfold st;rw[List.find?_cons_of_pos]
 simpa using h
section
variable {L : Nat → List It} {p : Nat → Nat}
theorem Gh:∀{i:Nat},jM L p i=none→∀j,j<i→(L j)[p j]?=none
 | 0,_,j,h=>by omega
 | i+1,h,j,hj=>by
  rw[jM] at h
  cases hx:(L i)[p i]? with
  | none=>
   rw[hx] at h
   rcases Nat.lt_or_ge j i with h1|h1
   ·exact Gh h j h1
   obtain rfl:j=i:=by omega
   exact hx
  | some x=>
   rw[hx] at h;dsimp only at h
   cases hk:jM L p i with
   | none=>rw[hk] at h;cases h
   | some k=>
    rw[hk] at h;dsimp only at h
    split at h <;> cases h
theorem yh:∀{i:Nat} {k:ByteArray},jM L p i=some k→∀j,j<i→∀x,(L j)[p j]?=some x→¬Less (kl x) (bs k)
 | 0,k,h,j,hj,_,_=>by omega
 | i+1,k,h,j,hj,x,hx=>by
  have hnn:∀a:List UInt8,¬Less a a:=fun a h=>by
   have h:Op.bytesLess a a=true:=h;rw[xC] at h;cases h
  rw[jM] at h
  cases hy:(L i)[p i]? with
  | none=>
   rw[hy] at h
   rcases Nat.lt_or_ge j i with h1|h1
   ·exact yh h j h1 x hx
   obtain rfl:j=i:=by omega
   rw[hx] at hy;cases hy
  | some y=>
   rw[hy] at h;dsimp only at h
   cases hk:jM L p i with
   | none=>
    rw[hk] at h;have:=Option.some.inj h;subst this
    rcases Nat.lt_or_ge j i with h1|h1
    ·rw[Gh hk j h1] at hx;cases hx
    obtain rfl:j=i:=by omega
    rw[hx] at hy;obtain rfl:=Option.some.inj hy;exact hnn _
   | some k0=>
    rw[hk] at h;dsimp only at h;split at h
    ·rename_i hlt;rw[Lib.toList_data,Lib.toList_data] at hlt;have hlt:Less (kl y) (bs k0):=hlt;have:=Option.some.inj h;subst this
     rcases Nat.lt_or_ge j i with h1|h1
     ·exact fun hl=>yh hk j h1 x hx (Less.trans hl hlt)
     obtain rfl:j=i:=by omega
     rw[hx] at hy;obtain rfl:=Option.some.inj hy;exact hnn _
    rename_i hlt;rw[Lib.toList_data,Lib.toList_data] at hlt;have:=Option.some.inj h;subst this
    rcases Nat.lt_or_ge j i with h1|h1
    ·exact yh hk j h1 x hx
    obtain rfl:j=i:=by omega
    rw[hx] at hy;obtain rfl:=Option.some.inj hy;exact hlt
def dr (L:Nat→List It) (p:Nat→Nat) (j:Nat):List It:=(L j).drop (p j)
theorem Sy {j:Nat} (h:(L j)[p j]?=none):dr L p j=[]:=by
 unfold dr;rw[List.getElem?_eq_none_iff] at h;exact List.drop_of_length_le h
theorem Sz {j:Nat} {x:It} (h:(L j)[p j]?=some x):dr L p j=x::(L j).drop (p j+1):=by
 obtain⟨hl,he⟩:=List.getElem?_eq_some_iff.1 h;unfold dr;rw[List.drop_eq_getElem_cons hl,he]
theorem ZL {k:ByteArray} {j:Nat} (hr:kH (L j)) (hk:∀x,(L j)[p j]?=some x→¬Less (kl x) (bs k)) :
  fO L p k j=st (dr L p j) (bs k)∧(∀x∈dr L (gT L p k) j,Less (bs k) (kl x))∧(∀k',Less (bs k) k'→st (dr L (gT L p k) j) k'=st (dr L p j) k') ∧
   (∀x∈dr L p j,kl x=bs k∨x∈dr L (gT L p k) j)∧(∀x∈dr L (gT L p k) j,x∈dr L p j):=by
 cases hx:(L j)[p j]? with
 | none=>
  have hh:fO L p k j=none:=by unfold fO;rw[hx]
  have hn:gT L p k j=p j:=by unfold gT;rw[hh];rfl
  have hd:dr L (gT L p k) j=dr L p j:=by unfold dr;rw[hn]
  rw[hd,Sy hx,hh];exact⟨rfl,fun _ h=>absurd h List.not_mem_nil,fun _ _=>rfl,fun _ h=>absurd h List.not_mem_nil,fun _ h=>h⟩
 | some x=>
  have hkx:=hk x hx;have hdx:=Sz hx;have hrd:kH (dr L p j):=hr.drop (p j);rw[hdx] at hrd;by_cases he:kl x=bs k
  ·have hh:fO L p k j=some x:=by
    unfold fO;rw[hx];dsimp only;rw[Lib.toList_data,Lib.toList_data];exact if_pos (beq_iff_eq.2 he)
   have hn:gT L p k j=p j+1:=by unfold gT;rw[hh];rfl
   have hd:dr L (gT L p k) j=(L j).drop (p j+1):=by unfold dr;rw[hn]
   rw[hd,hdx,hh];refine⟨(Gg he).symm,fun y hy=>by rw[← he];exact hrd.head y hy,fun k' hk'=>(Gf (by rw[he];exact hk'.ne)).symm,fun y hy=>?_,fun y hy=>List.mem_cons_of_mem _ hy⟩
   rcases List.mem_cons.1 hy with rfl|hy
   ·exact .inl he
   exact .inr hy
  have hh:fO L p k j=none:=by
   unfold fO;rw[hx];dsimp only;rw[Lib.toList_data,Lib.toList_data];exact if_neg (fun h=>he (beq_iff_eq.1 h))
  have hn:gT L p k j=p j:=by unfold gT;rw[hh];rfl
  have hd:dr L (gT L p k) j=dr L p j:=by unfold dr;rw[hn]
  have hlt:=Less.tri hkx he
  have hall:∀y∈x::(L j).drop (p j+1),Less (bs k) (kl y):=fun y hy=>by
   rcases List.mem_cons.1 hy with rfl|hy
   ·exact hlt
   exact hlt.trans (hrd.head y hy)
  rw[hd,hdx,hh];exact⟨(Sw (fun y hy e=>(hall y hy).ne e.symm)).symm,hall,fun _ _=>rfl,fun y hy=>.inr hy,fun _ h=>h⟩
end
structure WH (D:Nat→List It) (rs:List Two.Rd):Prop where
 rise:rs.Pairwise (fun r s=>Less (bs r.1) (bs s.1))
 here:∀r∈rs,r.2.1=st (D 0) (bs r.1)∧r.2.2=st (D 1) (bs r.1)
 from_:∀r∈rs,∃j x,j<2∧x∈D j∧gu x=r.1
 all:∀j x,j<2→x∈D j→∃r∈rs,r.1=gu x
section
variable {L : Nat → List It}
theorem Bf (hL:∀j,j<2→kH (L j)):∀(n:Nat) (p:Nat→Nat),Two.jL L p≤n→WH (dr L p) (Two.eO L n p)
 | 0,p,hn=>by
  have hz:∀j,j<2→dr L p j=[]:=fun j hj=>by
   refine List.drop_of_length_le ?_;unfold Two.jL at hn
   rcases (show j=0∨j=1 by omega) with rfl|rfl <;> omega
  refine⟨List.Pairwise.nil,fun _ h=>absurd h List.not_mem_nil,fun _ h=>absurd h List.not_mem_nil,fun j x hj hx=>?_⟩;rw[hz j hj] at hx;cases hx
 | n+1,p,hn=>by
  rw[Two.eO]
  cases hk:jM L p 2 with
  | none=>
   refine⟨List.Pairwise.nil,fun _ h=>absurd h List.not_mem_nil,fun _ h=>absurd h List.not_mem_nil,fun j x hj hx=>?_⟩;rw[Sy (Gh hk j hj)] at hx;cases hx
  | some k=>
   have hlt:=Two.rO hk;have ih:=Bf hL n (gT L p k) aj
   have hh:=fun j (hj:j<2)=>ZL (p:=p) (hL j hj) (yh hk j hj)
   have hgt:∀r∈Two.eO L n (gT L p k),Less (bs k) (bs r.1):=fun r hr=>by
    obtain⟨j,x,hj,hx,e⟩:=ih.from_ r hr;rw[← e];exact (hh j hj).2.1 x hx
   refine⟨List.pairwise_cons.2 ⟨hgt,ih.rise⟩,fun r hr=>?_,fun r hr=>?_,fun j x hj hx=>?_⟩
   ·rcases List.mem_cons.1 hr with rfl|hr
    ·exact⟨(hh 0 aj).1,(hh 1 aj).1⟩
    have h:=ih.here r hr;rw[(hh 0 aj).2.2.1 _ (hgt r hr),(hh 1 aj).2.2.1 _ (hgt r hr)] at h;exact h
   ·rcases List.mem_cons.1 hr with rfl|hr
    ·obtain⟨j,x,hj,h1,h2⟩:=pX hk;exact⟨j,x,hj,by rw[Sz h1];exact List.mem_cons_self,h2⟩
    obtain⟨j,x,hj,hx,e⟩:=ih.from_ r hr;exact⟨j,x,hj,(hh j hj).2.2.2.2 x hx,e⟩
   rcases (hh j hj).2.2.2.1 x hx with e|hx2
   ·exact⟨_,List.mem_cons_self,(nY e).symm⟩
   obtain⟨r,hr,e⟩:=ih.all j x hj hx2;exact⟨r,List.mem_cons_of_mem _ hr,e⟩
end
theorem KD {a b:List It} (ha:kH a) (hb:kH b):WH (jw a b) (oG a b) :=
 Bf (L:=jw a b) (oF ha hb) _ (fun _=>0) (Nat.le_refl _)
def WJ (rs:List Two.Rd):List Ch:=rs.flatMap fun r=>(qB r.2.1 r.2.2).toList
theorem WK (rs:List Two.Rd):∀s,rs.foldl kN s=s++WJ rs:=by
 induction rs with
 | nil=>intro s;simp[WJ]
 | cons r rs ih=>
  intro s;rw[List.foldl_cons,ih];unfold kN WJ;rw[List.flatMap_cons,List.append_assoc]
theorem UR (a b:List It):qC a b=WJ (oG a b):=by
 unfold qC;rw[WK,List.nil_append]
theorem Po {x:It}:FE none (some x)=false:=rfl
theorem M6:∀{l:List It} {K:List (ByteArray × Int)} {b:Option (List ByteArray)},gL K b l=true→∀x∈l,∃K',eT K' x=true
 | [],_,_,_=>fun _ h=>absurd h List.not_mem_nil
 | y::l,K,b,h=>by
  rw[gL] at h;simp only[Bool.and_eq_true,decide_eq_true_eq] at h;intro x hx
  rcases List.mem_cons.1 hx with rfl|hx1
  ·exact⟨K,h.1.2⟩
  exact M6 h.2 x hx1
structure ChB (c:Ch):Prop where
 p:c.f1.f1.size≤1023
 r:c.f1.f4.length≤16523
 d:c.f1.f5.length≤8459776
 e:c.f0=3→alX c
theorem ZM {x:It} (h:Fit x):rH x=true:=by
 unfold rH;simp only[Bool.and_eq_true,decide_eq_true_eq,List.all_eq_true];exact⟨⟨⟨⟨h.p,h.t⟩,h.r⟩,h.d⟩,h.b⟩
end Go.Proofs.YtknihldkhedpkaaGreatDoor
end
