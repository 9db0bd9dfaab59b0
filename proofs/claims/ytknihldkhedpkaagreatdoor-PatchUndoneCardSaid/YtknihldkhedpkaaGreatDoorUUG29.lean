import Derived.Test.YtknihldkhedpkaaGreatDoorUUG25
import Derived.Test.YtknihldkhedpkaaGreatDoorUUG28
import Derived.Test.YtknihldkhedpkaaGreatDoorUUG20
set_option linter.all false
set_option maxHeartbeats 16000000
set_option maxRecDepth 100000
section
namespace Go.Proofs.YtknihldkhedpkaaGreatDoor
open Go.RowKit Go.Lib
open Go.Proofs.YtknihldkhedpkaaGreatDoorW.PrintWords Go.Proofs.YtknihldkhedpkaaGreatDoorW.PrintLast Go.Proofs.YtknihldkhedpkaaGreatDoor.PT
theorem OX {old l:List It} {b:List Int} (h:wu old b=(l,0)):Kt old b=kW l old:=by
 unfold wu at h;unfold Kt
 obtain⟨⟨q,n⟩,hq⟩:∃q,jw old b=q:=⟨_,rfl⟩
 rw[hq] at h ⊢
 cases q with
 | none=>
  have h1:=(zJ hq).1
  injection h with _ h
  exact absurd h h1
 | some q=>
  obtain⟨l',b0,g0,cs⟩:=q
  injection h with h _
  subst h;rfl
theorem Mv {other:List It} {b:List Int} {b0 g0:Int} {cs:List Ch} (ho:(bY other).2=0) (hl:vk b=(some (b0,g0,cs),0)) (hn:gV (bY other).1≠b0):wu other b=([],181)∧Kt other b=([],181):=by
 have h:jw other b=(none,181):=by
  unfold jw;rw[if_neg (fun h=>h ho),hl];dsimp only;rw[if_pos (fun e=>hn e.symm)]
 unfold wu Kt;rw[h];exact⟨rfl,rfl⟩
theorem TP {a b:List It} (ha:(bY a).2=0) (hb:(bY b).2=0):kW a b=iA (gV (bY a).1) (gV (bY b).1) (iY a b):=by
 unfold kW;rw[if_neg (fun h=>h ha),if_neg (fun h=>h hb)]
theorem XJ (A0:Option Addr) (c0:Nat) (old:List It) (A1:Option Addr) (c1:Nat) (goal:List It) (A2:Option Addr) (c2:Nat) (other:List It) (w:World)
  (hr0:Kd.C om w A0 old.length old) (hc0:old.length≤c0) (hr1:Kd.C om w A1 goal.length goal) (hc1:goal.length≤c1) (hr2:Kd.C om w A2 other.length other) (hc2:other.length≤c2) (co:Came old) (cg:Came goal) (cx:Came other)
  (ahT:Ev (fun k=>fK.f k) true) :
  Calls Tryz.prog 9 #[.slice A0 old.length c0,.slice A1 goal.length c1,.slice A2 other.length c2] w fun e w'=>e=.returned (.bool true)∧Below w.heap.size w w':=by
 obtain⟨kf,hkf⟩:=Ev.rounds ahT;have HF:=ah.mk hkf;have qP:=ah.mk hr0;have HR1:=ah.mk hr1;have HR2:=ah.mk hr2;have CO:=ah.mk co;have CG:=ah.mk cg;have CX:=ah.mk cx;have aqo:=co.n;clear hkf ahT hr0 hr1 hr2 co cg cx
 go_enter Tryz.func9,Tryz.ntmps9
 go_upto_region 3 with (go_at_call 11;refine (fK.calls kf _ HF.out).mono ?_;rintro e w1 ⟨rfl,hb⟩;have HB1:=ah.mk hb;clear hb)
 clear HF;by_cases ho:(bY old).2=0
 ·have bo:((bY old).2 == 0)=true:=beq_iff_eq.2 ho;by_cases hg:(bY goal).2=0
  ·have bg:((bY goal).2 == 0)=true:=beq_iff_eq.2 hg;have g1:=DC CO.out.all CG.out.all ho hg;have g2:=DC CG.out.all CO.out.all hg ho;have hbk1:=OX (old:=old) (b:=(kW old goal).1) g1.2.2.2;have hbk2:=OX (old:=goal) (b:=(kW goal old).1) g2.2.2.2;have hlp:=J5 (b:=gV (bY old).1) (g:=gV (bY goal).1) (l:=iY old goal) (by rw[← TP ho hg];exact g1.1);rw[← TP ho hg] at hlp
   obtain⟨⟨b,eb⟩,hdf⟩:∃q,kW old goal=q:=⟨_,rfl⟩
   obtain⟨⟨c,ec⟩,hdc⟩:∃q,kW goal old=q:=⟨_,rfl⟩
   rw[hdf] at g1 hbk1 hbk2 hlp;rw[hdc] at g2 hbk1 hbk2;dsimp only at g1 g2 hbk1 hbk2 hlp;obtain⟨rfl,hbl,hby,an0⟩:=g1;obtain⟨rfl,hcl,hcy,ahU⟩:=g2
   obtain⟨b0,hb0⟩:∃q,gV (bY old).1=q:=⟨_,rfl⟩
   obtain⟨g0,hg0⟩:∃q,gV (bY goal).1=q:=⟨_,rfl⟩
   obtain⟨cs,hcs⟩:∃q,iY old goal=q:=⟨_,rfl⟩
   rw[hb0,hg0,hcs] at hlp;have HD:=ah.mk (show gP.f old goal=some (b,0) by unfold gP.f;rw[if_pos ⟨CO.out.all,CG.out.all⟩,hdf]);have ahV:=ah.mk (show jq.f old b=some (c,0) by unfold jq.f;rw[if_pos ⟨CO.out.all,of_by ⟨by omega,hby⟩⟩,hbk1]);have Uc:=ah.mk (show jq.f goal c=some (b,0) by unfold jq.f;rw[if_pos ⟨CG.out.all,of_by ⟨by omega,hcy⟩⟩,hbk2]);have ahW:=ah.mk (show fu.f goal c=some (old,0) by unfold fu.f;rw[if_pos ⟨CG.out.all,of_by ⟨by omega,hcy⟩⟩,ahU]);have HLP:=ah.mk hlp;have HBY:=ah.mk hby
   have HX:ah ((bY other).2=0→gV (bY other).1≠b0→fu.f other b=some ([],181)∧jq.f other b=some ([],181)):=⟨fun h1 h2=>by
    have h3:=Mv h1 hlp h2;unfold fu.f jq.f;rw[if_pos ⟨CX.out.all,of_by ⟨by omega,hby⟩⟩,if_pos ⟨CX.out.all,of_by ⟨by omega,hby⟩⟩,h3.1,h3.2]
    exact⟨rfl,rfl⟩⟩
   clear an0 ahU hbk1 hbk2 hlp hby hcy ho hg hdf hdc hb0 hg0 hcs;have tO:=ah.mk True.intro
   go_upto_region 5 with (first
    | (have _t:=tO;go_at_call 20;refine (yt (Kd.aC qP.out HB1.out) hc0 CO.out).mono ?_;rintro e w2 ⟨rfl,hb⟩;have HB2:=ah.mk (HB1.out.trans (hb.mono HB1.out.size));clear hb;clear tO)
    | (go_at_call 20;refine (yt (Kd.aC HR1.out HB2.out) hc1 CG.out).mono ?_;rintro e w3 ⟨rfl,hb⟩;have HB3:=ah.mk (HB2.out.trans (hb.mono HB2.out.size));clear hb))
   have tO:=ah.mk True.intro
   go_upto_region 6 with (first
    | (have _t:=tO;go_at_call 19;refine (qC (Kd.aC qP.out HB3.out) hc0 CO.out).mono ?_;rintro e w4 ⟨v,rfl,hv,hb⟩;have kJ:=ah.mk (HB3.out.trans (hb.mono HB3.out.size));obtain⟨Ap,cp,hvs⟩:=Kd.lG hv;subst hvs;have Hp4:=ah.mk (Kd.fq hv).2.2;have hcp:=(Kd.fq hv).2.1;clear hv;clear hb;clear tO)
    | (go_at_call 19;refine (qC (Kd.aC HR1.out kJ.out) hc1 CG.out).mono ?_;rintro e w5 ⟨v,rfl,hv,hb⟩;have kH:=ah.mk (kJ.out.trans (hb.mono kJ.out.size));have Hp5:=ah.mk (Kd.aC Hp4.out hb);obtain⟨Aq,cq,hvs⟩:=Kd.lG hv;subst hvs;have Hq5:=ah.mk (Kd.fq hv).2.2;have hcq:=(Kd.fq hv).2.1;clear hv;clear hb)
    | (go_at_call 18;refine (gP.calls Ap cp old Aq cq goal b 0 _ Hp5.out hcp Hq5.out hcq HD.out).mono ?_;rintro e w6 ⟨v,rfl,hv,hb⟩;have sQ:=ah.mk (kH.out.trans (hb.mono kH.out.size));obtain⟨Ab,cb,hvs⟩:=Kd.bG hv;subst hvs;have Hb6:=ah.mk (Kd.bT hv).2.2;have hcb:=(Kd.bT hv).2.1;clear hv;clear hb))
   clear HB1 HB2 HB3 kJ kH HD
   go_upto_region 7 with (first
    | (go_at_call 19;refine (qC (Kd.aC qP.out sQ.out) hc0 CO.out).mono ?_;rintro e w7 ⟨v,rfl,hv,hb⟩;have Ep:=ah.mk (sQ.out.trans (hb.mono sQ.out.size));have Hb7:=ah.mk (Kd.aC Hb6.out hb);obtain⟨Ap,cp,hvs⟩:=Kd.lG hv;subst hvs;have Hp7:=ah.mk (Kd.fq hv).2.2;have hcp:=(Kd.fq hv).2.1;clear hv;clear hb)
    | (go_at_call 23;refine (vH Hb7.out hcb aj).mono ?_;rintro e w8 ⟨v,rfl,hv,hb⟩;have I7:=ah.mk (Ep.out.trans (hb.mono Ep.out.size));have Hb8:=ah.mk (Kd.aC Hb7.out hb);have Hp8:=ah.mk (Kd.aC Hp7.out hb);obtain⟨Aq,cq,hvs⟩:=Kd.bG hv;subst hvs;have Hq8:=ah.mk (Kd.bT hv).2.2;have hcq:=(Kd.bT hv).2.1;clear hv;clear hb)
    | (go_at_call 30;refine (jq.calls Ap cp old Aq cq b c 0 _ Hp8.out hcp Hq8.out hcq ahV.out).mono ?_;rintro e w9 ⟨v,rfl,hv,hb⟩;have FB:=ah.mk (I7.out.trans (hb.mono I7.out.size));have Hb9:=ah.mk (Kd.aC Hb8.out hb);obtain⟨Ac,cc,hvs⟩:=Kd.bG hv;subst hvs;have Hc9:=ah.mk (Kd.bT hv).2.2;have hcc:=(Kd.bT hv).2.1;clear hv;clear hb))
   clear sQ Ep I7;clear Hb6 Hb7 Hb8
   go_upto_region 8 with (first
    | (go_at_call 19;refine (qC (Kd.aC HR1.out FB.out) hc1 CG.out).mono ?_;rintro e Ns ⟨v,rfl,hv,hb⟩;have Je:=ah.mk (FB.out.trans (hb.mono FB.out.size));have ahX:=ah.mk (Kd.aC Hb9.out hb);have aen:=ah.mk (Kd.aC Hc9.out hb);obtain⟨Ap,cp,hvs⟩:=Kd.lG hv;subst hvs;have an2:=ah.mk (Kd.fq hv).2.2;have hcp:=(Kd.fq hv).2.1;clear hv;clear hb)
    | (go_at_call 23;refine (vH aen.out hcc aj).mono ?_;rintro e FJ ⟨v,rfl,hv,hb⟩;have Qe:=ah.mk (Je.out.trans (hb.mono Je.out.size));have ahY:=ah.mk (Kd.aC ahX.out hb);have ahZ:=ah.mk (Kd.aC aen.out hb);have an3:=ah.mk (Kd.aC an2.out hb);obtain⟨Aq,cq,hvs⟩:=Kd.bG hv;subst hvs;have an4:=ah.mk (Kd.bT hv).2.2;have hcq:=(Kd.bT hv).2.1;clear hv;clear hb)
    | (go_at_call 22;refine (fu.calls Ap cp goal Aq cq c old 0 _ an3.out hcp an4.out hcq ahW.out).mono ?_;rintro e Qf ⟨v,rfl,hv,hb⟩;have Wn:=ah.mk (Qe.out.trans (hb.mono Qe.out.size));have ah0:=ah.mk (Kd.aC ahY.out hb);have ah1:=ah.mk (Kd.aC ahZ.out hb);obtain⟨Al,cl,hvs⟩:=Kd.lG hv;subst hvs;have ah2:=ah.mk (Kd.fq hv).2.2;have hcl:=(Kd.fq hv).2.1;clear hv;clear hb))
   clear FB Hb9 Hc9 Je ahX aen Qe ahY ahZ;have tO:=ah.mk True.intro;have ah3:=ah.mk True.intro;have Xk:=ah.mk True.intro
   go_upto_region 10 with (first
    | (have _t:=tO;go_at_call 21;refine (mU 0 _).mono ?_;rintro e w13 ⟨rfl,hb⟩;have aeo:=ah.mk (Wn.out.trans (hb.mono Wn.out.size));have ah4:=ah.mk (Kd.aC ah0.out hb);have ah5:=ah.mk (Kd.aC ah1.out hb);have ah6:=ah.mk (Kd.aC ah2.out hb);clear hb;clear tO)
    | (have _t:=ah3;go_at_call 21;refine (mU 0 _).mono ?_;rintro e w14 ⟨rfl,hb⟩;have aep:=ah.mk (aeo.out.trans (hb.mono aeo.out.size));have ah7:=ah.mk (Kd.aC ah4.out hb);have ah8:=ah.mk (Kd.aC ah5.out hb);have ah9:=ah.mk (Kd.aC ah6.out hb);clear hb;clear ah3)
    | (have _t:=Xk;go_at_call 21;refine (mU 0 _).mono ?_;rintro e w15 ⟨rfl,hb⟩;have Z8:=ah.mk (aep.out.trans (hb.mono aep.out.size));have aia:=ah.mk (Kd.aC ah7.out hb);have aib:=ah.mk (Kd.aC ah8.out hb);have aer:=ah.mk (Kd.aC ah9.out hb);clear hb;clear Xk)
    | (go_at_call 24;refine (UW aer.out hcl (Kd.aC qP.out Z8.out) hc0 aj).mono ?_;rintro e w16 ⟨rfl,hb⟩;have Z9:=ah.mk (Z8.out.trans (hb.mono Z8.out.size));have aic:=ah.mk (Kd.aC aia.out hb);have aie:=ah.mk (Kd.aC aib.out hb);have an5:=ah.mk (Kd.aC aer.out hb);clear hb))
   clear Wn ah0 ah1 ah2 aeo ah4 ah5 ah6 aep ah7 ah8 ah9 Z8 aia aib aer an5
   go_upto_region 11 with (first
    | (go_at_call 19;refine (qC (Kd.aC HR1.out Z9.out) hc1 CG.out).mono ?_;rintro e w17 ⟨v,rfl,hv,hb⟩;have aes:=ah.mk (Z9.out.trans (hb.mono Z9.out.size));have aif:=ah.mk (Kd.aC aic.out hb);have aeu:=ah.mk (Kd.aC aie.out hb);obtain⟨Ap,cp,hvs⟩:=Kd.lG hv;subst hvs;have an6:=ah.mk (Kd.fq hv).2.2;have hcp:=(Kd.fq hv).2.1;clear hv;clear hb)
    | (go_at_call 23;refine (vH aeu.out hcc aj).mono ?_;rintro e w18 ⟨v,rfl,hv,hb⟩;have aev:=ah.mk (aes.out.trans (hb.mono aes.out.size));have aii:=ah.mk (Kd.aC aif.out hb);have aij:=ah.mk (Kd.aC aeu.out hb);have an7:=ah.mk (Kd.aC an6.out hb);obtain⟨Aq,cq,hvs⟩:=Kd.bG hv;subst hvs;have an8:=ah.mk (Kd.bT hv).2.2;have hcq:=(Kd.bT hv).2.1;clear hv;clear hb)
    | (go_at_call 30;refine (jq.calls Ap cp goal Aq cq c b 0 _ an7.out hcp an8.out hcq Uc.out).mono ?_;rintro e w19 ⟨v,rfl,hv,hb⟩;have aew:=ah.mk (aev.out.trans (hb.mono aev.out.size));have aik:=ah.mk (Kd.aC aii.out hb);have an9:=ah.mk (Kd.aC aij.out hb);obtain⟨Ad,cd,hvs⟩:=Kd.bG hv;subst hvs;have ail:=ah.mk (Kd.bT hv).2.2;have hcd:=(Kd.bT hv).2.1;clear hv;clear hb))
   clear Z9 aic aie aes aif aeu aev aii aij an9
   go_upto_region 13 with (first
    | (go_at_call 21;refine (mU 0 _).mono ?_;rintro e w20 ⟨rfl,hb⟩;have aex:=ah.mk (aew.out.trans (hb.mono aew.out.size));have aey:=ah.mk (Kd.aC aik.out hb);have aez:=ah.mk (Kd.aC ail.out hb);clear hb)
    | (go_at_call 25;refine (UY aez.out hcd aey.out hcb).mono ?_;rintro e w21 ⟨rfl,hb⟩;have aeA:=ah.mk (aex.out.trans (hb.mono aex.out.size));have aeB:=ah.mk (Kd.aC aey.out hb);have aob:=ah.mk (Kd.aC aez.out hb);clear hb))
   clear aew aik ail aex aey aez aob
   go_upto_region 14 with (first
    | (go_at_call 23;refine (vH aeB.out hcb aj).mono ?_;rintro e w22 ⟨v,rfl,hv,hb⟩;have aeC:=ah.mk (aeA.out.trans (hb.mono aeA.out.size));have ain:=ah.mk (Kd.aC aeB.out hb);obtain⟨Aq,cq,hvs⟩:=Kd.bG hv;subst hvs;have aoc:=ah.mk (Kd.bT hv).2.2;have hcq:=(Kd.bT hv).2.1;clear hv;clear hb)
    | (go_at_call 31;refine (NK Aq cq b _ aoc.out hcq ⟨by omega,HBY.out⟩).mono ?_;rintro e w23 ⟨hb,hE⟩;have aeD:=ah.mk (aeC.out.trans (hb.mono aeC.out.size));have aio:=ah.mk (Kd.aC ain.out hb);rw[HLP.out] at hE;obtain⟨v,rfl,hR⟩:=hE;obtain⟨Av,cv,hvs⟩:=Kd.bG hR;subst hvs;clear hR;clear hb)
    | (refine dX (.store 24 (.tmp 15) (.tmp 96)) rfl ?_;refine wpList_store_row rfl 24 (.tmp 15) (.tmp 96) rfl _ #[.int .i64 b0,.int .i64 g0,.slice Av cs.length cv] rfl rfl 24 _ (bJ _ _) aA (by rfl) (by simp[Value.oneCell']) ?_))
   obtain⟨W,hW⟩:∃W,(w23.alloc (.cells #[.int .i64 0,.int .i64 0,.slice none 0 0] 24)).setRow w23.heap.size #[.int .i64 b0,.int .i64 g0,.slice Av cs.length cv]=W:=⟨_,rfl⟩
   have hbz:Below w23.heap.size w23 W:=by rw[← hW];exact below_setRow ((Below.refl w23.heap.size w23).alloc (Nat.le_refl _) _) (Nat.le_refl _) _
   have aeE:=ah.mk (show W.heap[w23.heap.size]?=some (.cells #[.int .i64 b0,.int .i64 g0,.slice Av cs.length cv] 24 (0,0)) by rw[← hW];exact setRow_heap _ _ _ _ _ _ (bJ _ _));have aac:=ah.mk (aeD.out.trans (hbz.mono aeD.out.size));have aip:=ah.mk (Kd.aC aio.out hbz)
   obtain⟨gp,hgp⟩:∃g,w23.heap.size=g:=⟨_,rfl⟩
   rw[hgp] at aeE hW;rw[hgp];rw[hW];clear hbz hW hgp;clear aeA aeB aeC ain aeD aio HLP ahV Uc ahW
   obtain⟨w24,rfl⟩:∃w24,w24=W:=⟨_,rfl⟩
   go_upto_region 15 with (first
    | (go_at_call 28;refine (U6 A2 c2 other _ (Kd.aC HR2.out aac.out) hc2 CX.out.fit CX.out.all (by have:=CX.out.n;omega)).mono ?_;rintro e Xu ⟨rfl,hb⟩;have CZ:=ah.mk (aac.out.trans (hb.mono aac.out.size));have aiq:=ah.mk (Kd.aC aip.out hb);have air:=ah.mk (aG aeE.out hb);clear hb))
   clear aac aip aeE
   obtain⟨⟨po,eo⟩,hpo⟩:∃q,bY other=q:=⟨_,rfl⟩
   rw[hpo] at HX ⊢;dsimp only at HX ⊢;clear hpo;by_cases he:eo=0
   ·subst he;rw[if_pos rfl]
    obtain⟨sm,hsm⟩:∃q,gV po=q:=⟨_,rfl⟩
    rw[hsm] at HX ⊢;clear hsm;have k0:Xu.cell? ⟨gp,0,none⟩=some (.int .i64 b0):=ak air.out 0;by_cases hn:sm=b0
    ·have d1:(sm == b0)=true:=beq_iff_eq.2 hn;clear hn;have tO:=ah.mk True.intro
     go_wp2_with (first
      | (have _t:=tO;go_at_call 21;refine (mU 0 _).mono ?_;rintro e w26 ⟨rfl,hb⟩;have Jq:=ah.mk (CZ.out.trans (hb.mono CZ.out.size));have k1':=au hb k0;clear hb;clear tO)
      | (go_at_call 21;refine (mU 0 _).mono ?_;rintro e w27 ⟨rfl,hb⟩;have Rv:=ah.mk (Jq.out.trans (hb.mono Jq.out.size));clear hb))
     go_ret
     exact⟨rfl,Rv.out⟩
    have d1:(sm == b0)=false:=beq_eq_false_iff_ne.2 hn;have hx:=HX.out rfl hn;have HXA:=ah.mk hx.1;have HXB:=ah.mk hx.2;clear hn hx HX
    go_upto_region 17 with (first
     | (go_at_call 21;refine (mU 0 _).mono ?_;rintro e w26 ⟨rfl,hb⟩;have Jq:=ah.mk (CZ.out.trans (hb.mono CZ.out.size));have ais:=ah.mk (Kd.aC aiq.out hb);have k0':w26.cell? ⟨gp,0,none⟩=some (.int .i64 b0):=au hb k0;clear hb))
    clear CZ aiq air k0 k0'
    go_upto_region 18 with (first
     | (go_at_call 19;refine (qC (Kd.aC HR2.out Jq.out) hc2 CX.out).mono ?_;rintro e w27 ⟨v,rfl,hv,hb⟩;have Rv:=ah.mk (Jq.out.trans (hb.mono Jq.out.size));have aeF:=ah.mk (Kd.aC ais.out hb);obtain⟨Ap,cp,hvs⟩:=Kd.lG hv;subst hvs;have aof:=ah.mk (Kd.fq hv).2.2;have hcp:=(Kd.fq hv).2.1;clear hv;clear hb)
     | (go_at_call 23;refine (vH aeF.out hcb aj).mono ?_;rintro e w28 ⟨v,rfl,hv,hb⟩;have aeG:=ah.mk (Rv.out.trans (hb.mono Rv.out.size));have ait:=ah.mk (Kd.aC aeF.out hb);have aog:=ah.mk (Kd.aC aof.out hb);obtain⟨Aq,cq,hvs⟩:=Kd.bG hv;subst hvs;have aoh:=ah.mk (Kd.bT hv).2.2;have hcq:=(Kd.bT hv).2.1;clear hv;clear hb)
     | (go_at_call 22;refine (fu.calls Ap cp other Aq cq b [] 181 _ aog.out hcp aoh.out hcq HXA.out).mono ?_;rintro e w29 ⟨v,rfl,hv,hb⟩;have aae:=ah.mk (aeG.out.trans (hb.mono aeG.out.size));have aiu:=ah.mk (Kd.aC ait.out hb);obtain⟨Al,cl,hvs⟩:=Kd.lG hv;subst hvs;have aoi:=ah.mk (Kd.fq hv).2.2;have hcl:=(Kd.fq hv).2.1;clear hv;clear hb))
    clear Jq ais Rv aeF aeG ait aoi hcl
    go_upto_region 19 with (first
     | (go_at_call 19;refine (qC (Kd.aC HR2.out aae.out) hc2 CX.out).mono ?_;rintro e w30 ⟨v,rfl,hv,hb⟩;have aeH:=ah.mk (aae.out.trans (hb.mono aae.out.size));have aeI:=ah.mk (Kd.aC aiu.out hb);obtain⟨Ap,cp,hvs⟩:=Kd.lG hv;subst hvs;have aoj:=ah.mk (Kd.fq hv).2.2;have hcp:=(Kd.fq hv).2.1;clear hv;clear hb)
     | (go_at_call 23;refine (vH aeI.out hcb aj).mono ?_;rintro e w31 ⟨v,rfl,hv,hb⟩;have aeJ:=ah.mk (aeH.out.trans (hb.mono aeH.out.size));have aiv:=ah.mk (Kd.aC aeI.out hb);have aok:=ah.mk (Kd.aC aoj.out hb);obtain⟨Aq,cq,hvs⟩:=Kd.bG hv;subst hvs;have aol:=ah.mk (Kd.bT hv).2.2;have hcq:=(Kd.bT hv).2.1;clear hv;clear hb)
     | (go_at_call 30;refine (jq.calls Ap cp other Aq cq b [] 181 _ aok.out hcp aol.out hcq HXB.out).mono ?_;rintro e w32 ⟨v,rfl,hv,hb⟩;have aiw:=ah.mk (aeJ.out.trans (hb.mono aeJ.out.size));have atm:=ah.mk (Kd.aC aiv.out hb);obtain⟨Ad,cd,hvs⟩:=Kd.bG hv;subst hvs;have aom:=ah.mk (Kd.bT hv).2.2;have hcd:=(Kd.bT hv).2.1;clear hv;clear hb))
    clear aae aiu aeH aeI aeJ aiv aom hcd;have tO:=ah.mk True.intro
    go_wp2_with (first
     | (have _t:=tO;go_at_call 21;refine (mU 181 _).mono ?_;rintro e w33 ⟨rfl,hb⟩;have aix:=ah.mk (aiw.out.trans (hb.mono aiw.out.size));clear hb;clear tO)
     | (go_at_call 21;refine (mU 181 _).mono ?_;rintro e w34 ⟨rfl,hb⟩;have aon:=ah.mk (aix.out.trans (hb.mono aix.out.size));clear hb))
    go_ret
    exact⟨rfl,aon.out⟩
   have d1:(eo != 0)=true:=bne_iff_ne.2 he;rw[if_neg he];clear he;have tO:=ah.mk True.intro
   go_wp2_with (first
    | (have _t:=tO;go_at_call 21;refine (mU 0 _).mono ?_;rintro e w26 ⟨rfl,hb⟩;have Jq:=ah.mk (CZ.out.trans (hb.mono CZ.out.size));clear hb;clear tO)
    | (go_at_call 21;refine (mU 0 _).mono ?_;rintro e w27 ⟨rfl,hb⟩;have Rv:=ah.mk (Jq.out.trans (hb.mono Jq.out.size));clear hb))
   go_ret
   exact⟨rfl,Rv.out⟩
  have bg:((bY goal).2 == 0)=false:=beq_eq_false_iff_ne.2 hg;have tO:=ah.mk True.intro
  go_wp2_with (first|(have _t:=tO;go_at_call 20;refine (yt (Kd.aC qP.out HB1.out) hc0 CO.out).mono ?_;rintro e w2 ⟨rfl,hb⟩;have HB2:=ah.mk (HB1.out.trans (hb.mono HB1.out.size));clear hb;clear tO)|(go_at_call 20;refine (yt (Kd.aC HR1.out HB2.out) hc1 CG.out).mono ?_;rintro e w3 ⟨rfl,hb⟩;have HB3:=ah.mk (HB2.out.trans (hb.mono HB2.out.size));clear hb))
  go_ret
  exact⟨rfl,HB3.out⟩
 have bo:((bY old).2 == 0)=false:=beq_eq_false_iff_ne.2 ho;have tO:=ah.mk True.intro
 go_wp2_with (have _t:=tO;go_at_call 20;refine (yt (Kd.aC qP.out HB1.out) hc0 CO.out).mono ?_;rintro e w2 ⟨rfl,hb⟩;have HB2:=ah.mk (HB1.out.trans (hb.mono HB1.out.size));clear hb;clear tO)
 go_ret
 exact⟨rfl,HB2.out⟩
def wH:It:=⟨2,⟨#[47,100]⟩,⟨#[]⟩,0,[],[]⟩
def Ay:List Int:=[118,108,112,97,116,99,104,1,248,16,120,206,14,116,215,206,2,2,2,0,47,100,0,1,0,0,0,24,215,104,152]
theorem He:kW [] [wH]=(Ay,0):=by kernel_rfl
theorem Hf:(bY [wH]).2=0∧(bY []).2=0:=by
 refine⟨?_,?_⟩ <;> kernel_rfl
theorem OY:wu [] Ay=([wH],0):=by
 have h:=DC (a:=[]) (b:=[wH]) (by rfl) (by rfl) Hf.2 Hf.1;rw[He] at h;exact h.2.2.2
theorem XK:Ev (fun k=>fK.f k) true:=by
 refine Ev.bind (a:=kW [] [wH]) (Ev.congr (fun k=>?_) (Ev.now _)) ?_
 ·unfold gP.f;rw[if_pos ⟨by rfl,by rfl⟩];rfl
 rw[He];refine Ev.bind (LU Ay aD) ?_;refine Ev.bind (a:=([wH],0)) (Ev.congr (fun k=>?_) (Ev.now _)) ?_
 ·unfold fu.f;rw[if_pos ⟨by rfl,by rfl⟩,OY]
 refine Ev.congr (fun k=>?_) (Ev.now _);have h1:bL.f 0=some 0:=rfl
 have h2:dH.f Ay Ay=some true:=by unfold dH.f;simp
 have h3:=zI wH
 show ((bL.f 0).bind fun tX=>_)=_
 rw[h1,Option.bind_some,if_pos rfl]
 show ((dH.f Ay Ay).bind fun wz=>_)=_
 rw[h2,Option.bind_some,if_pos rfl,Option.bind_some,if_pos rfl,if_pos (by rfl),if_pos aD]
 show ((bM.f wH.f0 wH.f1 wH.f2 wH.f3 wH.f4 wH.f5 wH.f0 wH.f1 wH.f2 wH.f3 wH.f4 wH.f5).bind fun t=>some t)=_
 rw[h3];rfl
end Go.Proofs.YtknihldkhedpkaaGreatDoor
end
