import Derived.Test.YtknihldkhedpkaaGreatDoorYYG22
import Derived.Test.YtknihldkhedpkaaGreatDoorYYG27
import Derived.Test.YtknihldkhedpkaaGreatDoorYYG1
import Derived.ChangeArms
import Derived.Test.YtknihldkhedpkaaGreatDoorYYG19
import Derived.Test.YtknihldkhedpkaaGreatDoorYYG21
set_option linter.all false
set_option maxHeartbeats 16000000
set_option maxRecDepth 100000
section
namespace Go.Proofs.YtknihldkhedpkaaGreatDoor
open Go.RowKit Go.Lib
open Go.Proofs.YtknihldkhedpkaaGreatDoorW.PrintWords Go.Proofs.YtknihldkhedpkaaGreatDoorW.PrintLast Go.Proofs.YtknihldkhedpkaaGreatDoor.PT
theorem rF {A:Option Addr} {c:Nat} {l:List It} {w:World} (hr:Kd.C oW w A l.length l) (hc:l.length≤c) (h:Came l):Calls Tryz.prog 19 #[.slice A l.length c] w fun e w'=>∃v,e=.returned v∧Kd.S oW 29 w' w.heap.size (fun _=>True) v l∧Below w.heap.size w w' :=
 let ⟨k,hk⟩:=Ev.rounds (MW l h)
 bn.calls k A c l l w hr hc hk
theorem Ng {A:Option Addr} {c:Nat} {l:List Int} {w:World} (hr:Kd.C (Kd.int .u8) w A l.length l) (hc:l.length≤c) (h:l.length<140737488355328):Calls Tryz.prog 23 #[.slice A l.length c] w fun e w'=>∃v,e=.returned v∧Kd.R (Kd.int .u8) 5 w' w.heap.size (fun _=>True) v l∧Below w.heap.size w w' :=
 let ⟨k,hk⟩:=Ev.rounds (KE l h)
 aR.calls k A c l l w hr hc hk
theorem uL {A:Option Addr} {c:Nat} {l:List It} {w:World} (hr:Kd.C oW w A l.length l) (hc:l.length≤c) (h:Came l):Calls Tryz.prog 20 #[.slice A l.length c] w fun e w'=>e=.returned (.bool ((cK l).2 == 0))∧Below w.heap.size w w' :=
 let ⟨k,hk⟩:=Ev.rounds (SK h)
 fI.calls k A c l _ w hr hc hk
theorem Tc {A A1:Option Addr} {c c1:Nat} {l:List It} {w:World} (hr:Kd.C oW w A l.length l) (hc:l.length≤c) (hr1:Kd.C oW w A1 l.length l) (hc1:l.length≤c1) (h:l.length<9223372036854775807):Calls Tryz.prog 24 #[.slice A l.length c,.slice A1 l.length c1] w fun e w'=>e=.returned (.bool true)∧Below w.heap.size w w' :=
 let ⟨k,hk⟩:=Ev.rounds (KF l h)
 aM.calls k A c l A1 c1 l true w hr hc hr1 hc1 hk
theorem Td {A A1:Option Addr} {c c1:Nat} {l:List Int} {w:World} (hr:Kd.C (Kd.int .u8) w A l.length l) (hc:l.length≤c) (hr1:Kd.C (Kd.int .u8) w A1 l.length l) (hc1:l.length≤c1):Calls Tryz.prog 25 #[.slice A l.length c,.slice A1 l.length c1] w fun e w'=>e=.returned (.bool true)∧Below w.heap.size w w' :=
 (dw.calls A c l A1 c1 l true w hr hc hr1 hc1 (by unfold dw.f;simp)).mono fun e w' ⟨h,n,hn⟩=>⟨h,hn▸au (Below.refl _ _) n⟩
theorem j3 (n:Int) (w:World):Calls Tryz.prog 21 #[.int .i64 n] w fun e w'=>e=.returned (.int .i64 n)∧Below w.heap.size w w' :=
 (bI.calls n n w rfl).mono fun e w' ⟨h,n,hn⟩=>⟨h,hn▸au (Below.refl _ _) n⟩
structure Tn where
 f0:Int
 f1:Int
 f2:Int
 f3:Bool
 f4:Bool
def kTn:Kd Tn:=Kd.Lg (Kd.pair (Kd.int .i64) (Kd.pair (Kd.int .i64) (Kd.pair (Kd.int .i64) (Kd.pair Kd.bool Kd.bool)))) (fun x:Tn=>(x.f0,x.f1,x.f2,x.f3,x.f4))
theorem afM {w:World} {A:Option Addr} {n:Nat} {xs:List Tn} (h:Kd.C kTn w A n xs) (i:Int) (h0:0≤i) (h1:i<n):∃ad x,A=some ad∧w.cell? (ad.add (i.toNat*5))=some (.int .i64 (Tn.f0 x))∧w.cell? ⟨(ad.add (i.toNat*5)).block,(ad.add (i.toNat*5)).off+1,none⟩=some (.int .i64 x.f1)∧w.cell? ⟨(ad.add (i.toNat*5)).block,(ad.add (i.toNat*5)).off+2,none⟩=some (.int .i64 x.f2)∧w.cell? ⟨(ad.add (i.toNat*5)).block,(ad.add (i.toNat*5)).off+3,none⟩=some (.bool x.f3)∧w.cell? ⟨(ad.add (i.toNat*5)).block,(ad.add (i.toNat*5)).off+4,none⟩=some (.bool x.f4):=by
 obtain⟨ad,c,e,_,hK,hc0⟩:=Kd.Qu h ⟨0,0,0,false,false⟩ i h0 h1;have hc:∀j u,c[j]?=some u→w.cell? (ad.add (i.toNat*5+j))=some u:=hc0;obtain⟨_,_,rfl,rfl,_,_,rfl,rfl,_,_,rfl,rfl,_,_,rfl,rfl,rfl⟩:=hK;exact⟨ad,_,e,hc 0 _ rfl,by rw[← fJ _ _ 1 (by omega)];exact hc 1 _ rfl,by rw[← fJ _ _ 2 (by omega)];exact hc 2 _ rfl,by rw[← fJ _ _ 3 (by omega)];exact hc 3 _ rfl,by rw[← fJ _ _ 4 (by omega)];exact hc 4 _ rfl⟩
theorem KU (old:List It) (b:List Int) (hz:(cK old).2=0) (hf:old.all lW=true) (hb:By b) :
  ((mP old b).2≠0∧(mP old b).1=[]∧((mP old b).2=7∨(mP old b).2=180∨(mP old b).2=181))∨((mP old b).2=0∧jg old (mP old b).1=(b,0)∧(mP old b).1.all lW=true):=by
 unfold mP
 obtain⟨⟨q,n⟩,hq⟩:∃q,jG old b=q:=⟨_,rfl⟩
 rw[hq]
 cases q with
 | none=>
  have h:=yI hq;exact .inl ⟨h.1,rfl,h.2 hz⟩
 | some q=>
  obtain⟨l,b0,g0,cs⟩:=q;have h:=tQ hq;exact .inr ⟨h.1,h.2.2.2.2,AY hq hf hb⟩
theorem PU {old l:List It} {b:List Int} (h:jg old l=(b,0)):(cK l).2=0:=by
 unfold jg at h;split at h
 ·rename_i h1;exact absurd (congrArg Prod.snd h) h1
 ·split at h
  ·rename_i h1;exact absurd (congrArg Prod.snd h) h1
  ·rename_i h1;exact Decidable.not_not.1 h1
theorem Yq {l:List It} (hp:(cK l).2=0) (hf:l.all lW=true):Came l:=⟨by have:=(lX hp).1;omega,fun x hx=>by have:=(Jr (lX hp).2 x hx).2.1;omega,fun x hx=>rO (List.all_eq_true.1 hf x hx)⟩
theorem Vy (A0:Option Addr) (c0:Nat) (old:List It) (A1:Option Addr) (c1:Nat) (goal:List It) (A2:Option Addr) (c2:Nat) (turns:List Tn) (w:World)
  (hr0:Kd.C oW w A0 old.length old) (hc0:old.length≤c0) (hr1:Kd.C oW w A1 goal.length goal) (hc1:goal.length≤c1) (hr2:Kd.C kTn w A2 turns.length turns) (co:Came old) (cg:Came goal)
  (afN:Ev (fun k=>fq.f k) true)
  (hbad:¬((cK old).2=0∧(cK goal).2=0)→(jg old goal).2≠0∧(jg old goal).1=[])
  (hgood:(cK old).2=0→(cK goal).2=0→(jg old goal).2=0∧(jg old goal).1.length≤16777216∧(∀x∈(jg old goal).1,0≤x∧x≤255)∧mP old (jg old goal).1=(goal,0)) :
  Calls Tryz.prog 6 #[.slice A0 old.length c0,.slice A1 goal.length c1,.slice A2 turns.length c2] w fun e w'=>e=.returned (.bool true)∧Below w.heap.size w w':=by
 obtain⟨kf,hkf⟩:=Ev.rounds afN;have HF:=ah.mk hkf;have pQ:=ah.mk hr0;have HR1:=ah.mk hr1;have HR2:=ah.mk hr2;have CO:=ah.mk co;have CG:=ah.mk cg
 obtain⟨⟨b,eb⟩,hdf⟩:∃q,jg old goal=q:=⟨_,rfl⟩
 rw[hdf] at hbad hgood;dsimp only at hbad hgood;have HD:=ah.mk (show eU.f old goal=some (b,eb) by unfold eU.f;rw[if_pos ⟨co.all,cg.all⟩,hdf]);have RF:=ah.mk hgood;clear hkf afN hr0 hr1 hr2 co cg hdf hgood
 go_enter Tryz.func6,Tryz.ntmps6
 go_upto_region 3 with (go_at_call 11;refine (fq.calls kf _ HF.out).mono ?_;rintro e w1 ⟨rfl,hb1⟩;have HB1:=ah.mk hb1;clear hb1)
 have tok:=ah.mk True.intro
 go_upto_region 4 with (first
  | (have _t:=tok;go_at_call 19;refine (rF (Kd.aC pQ.out HB1.out) hc0 CO.out).mono ?_;rintro e w2 ⟨v2,rfl,hv2,hb2⟩;obtain⟨Av2,cv2,ali⟩:=Kd.lC hv2;subst ali;have HV2:=ah.mk hv2;have HB2:=ah.mk (HB1.out.trans (hb2.mono HB1.out.size));clear hv2 hb2 tok)
  | (go_at_call 19;refine (rF (Kd.aC HR1.out HB2.out) hc1 CG.out).mono ?_;rintro e w3 ⟨v3,rfl,hv3,hb3⟩;obtain⟨Av3,cv3,alj⟩:=Kd.lC hv3;subst alj;have HV3:=ah.mk (Kd.iw hv3);have acE:=ah.mk (Kd.iw (Kd.jI HV2.out hb3));have HB3:=ah.mk (HB2.out.trans (hb3.mono HB2.out.size));clear hv3 hb3)
  | (go_at_call 18;refine (eU.calls Av2 cv2 old Av3 cv3 goal b eb _ acE.out.2.2 acE.out.2.1 HV3.out.2.2 HV3.out.2.1 HD.out).mono ?_;rintro e w4 ⟨v4,rfl,hv4,hb4⟩;obtain⟨Ab,cb,alk⟩:=Kd.bH hv4;subst alk;have Yr:=ah.mk (Kd.dB hv4);have mH:=ah.mk (HB3.out.trans (hb4.mono HB3.out.size));clear hv4 hb4))
 clear HV2 HV3 acE HB1 HB2 HB3 HD HF;by_cases ho:(cK old).2=0
 ·have bo:((cK old).2 == 0)=true:=beq_iff_eq.2 ho;by_cases hg:(cK goal).2=0
  ·have bg:((cK goal).2 == 0)=true:=beq_iff_eq.2 hg;have hgd:=RF.out ho hg;obtain⟨rfl,hbl,hby,happ⟩:=hgd;have HZ:=ah.mk ho;have HA:=ah.mk (show d9.f old b=some (goal,0) by unfold d9.f;rw[if_pos ⟨CO.out.all,of_by ⟨by omega,hby⟩⟩,happ]);have HBY:=ah.mk hby;clear hbad RF happ hby ho hg;have tok:=ah.mk True.intro
   go_upto_region 6 with (first|(have _t:=tok;go_at_call 20;refine (uL (Kd.aC pQ.out mH.out) hc0 CO.out).mono ?_;rintro e w5 ⟨rfl,hb5⟩;have iV:=ah.mk (mH.out.trans (hb5.mono mH.out.size));have HV5:=ah.mk (Kd.aC Yr.out.2.2 hb5);clear hb5;clear tok)|(go_at_call 20;refine (uL (Kd.aC HR1.out iV.out) hc1 CG.out).mono ?_;rintro e w6 ⟨rfl,hb6⟩;have qd:=ah.mk (iV.out.trans (hb6.mono iV.out.size));have WV:=ah.mk (Kd.aC HV5.out hb6);clear hb6))
   have hcb:=Yr.out.2.1;clear HV5 iV mH Yr
   go_upto_region 7 with (first
    | (go_at_call 19;refine (rF (Kd.aC pQ.out qd.out) hc0 CO.out).mono ?_;rintro e w7 ⟨v7,rfl,hv7,qG⟩;obtain⟨Av7,cv7,Vz⟩:=Kd.lC hv7;subst Vz;have HV7:=ah.mk hv7;have yh:=ah.mk (qd.out.trans (qG.mono qd.out.size));have PV:=ah.mk (Kd.aC WV.out qG);clear hv7 qG)
    | (go_at_call 23;refine (Ng PV.out hcb (by omega)).mono ?_;rintro e w8 ⟨v8,rfl,Na,xK⟩;obtain⟨Av8,cv8,VA⟩:=Kd.bH Na;subst VA;have VB:=ah.mk (Kd.dB Na);have FJ:=ah.mk (Kd.iw (Kd.jI HV7.out xK));have Cz:=ah.mk (yh.out.trans (xK.mono yh.out.size));have VD:=ah.mk (Kd.aC PV.out xK);clear Na xK)
    | (go_at_call 22;refine (d9.calls Av7 cv7 old Av8 cv8 b goal 0 _ FJ.out.2.2 FJ.out.2.1 VB.out.2.2 VB.out.2.1 HA.out).mono ?_;rintro e w9 ⟨v9,rfl,IE,Cy⟩;obtain⟨Al,cl,VE⟩:=Kd.lC IE;subst VE;have HV9:=ah.mk IE;have zM:=ah.mk (Cz.out.trans (Cy.mono Cz.out.size));have PW:=ah.mk (Kd.aC VD.out Cy);clear IE Cy))
   have hcl:=(Kd.iw HV9.out).2.1;have HL9:=ah.mk (Kd.iw HV9.out).2.2;clear HV7 FJ VB qd yh Cz WV PV VD HA HV9;have tok:=ah.mk True.intro;have Vo:=ah.mk True.intro;have hgn:=CG.out.n
   go_upto_region 9 with (first
    | (have _t:=tok;go_at_call 21;refine (j3 0 _).mono ?_;rintro e IK ⟨rfl,zo⟩;have sI:=ah.mk (zM.out.trans (zo.mono zM.out.size));have vN:=ah.mk zo;clear zo;clear tok)
    | (have _t:=Vo;go_at_call 21;refine (j3 0 _).mono ?_;rintro e BO ⟨rfl,vE⟩;have uo:=ah.mk (sI.out.trans (vE.mono sI.out.size));have yK:=ah.mk vE;clear vE;clear Vo)
    | (go_at_call 24;refine (Tc (Kd.aC HL9.out (vN.out.trans (yK.out.mono vN.out.size))) hcl (Kd.aC HR1.out uo.out) hc1 (by omega)).mono ?_;rintro e LZ ⟨rfl,FL⟩;have BP:=ah.mk (uo.out.trans (FL.mono uo.out.size));have aaI:=ah.mk (Kd.aC PW.out (vN.out.trans ((yK.out.trans (FL.mono yK.out.size)).mono vN.out.size)));clear FL))
   clear HL9 zM sI uo vN yK PW
   go_wp2_with fail
   go_loopg [7,9,10,11,12,13] 6 (fun g s7 s9 s10 s11 s12 s13 wx=>∃(i:Nat) (Ab:Option Addr) (b:List Int) (cb:Nat),i+g=6∧s11=.int .i64 i∧s7=.slice Ab b.length cb∧b.length≤cb∧b.length≤16777216+i∧ah (∀x∈b,0≤x∧x≤255)∧ah (Kd.C (Kd.int .u8) wx Ab b.length b)∧ah (Below w.heap.size w wx))
   case atStart=>exact⟨0,Ab,b,cb,by omega,rfl,rfl,hcb,by omega,HBY,aaI,BP⟩
   case round=>
    obtain⟨i,Ab,b,cb,hig,rfl,rfl,hcb,hbl,HBY,HCb,Xu⟩:=hrel;clear aaI BP
    have hd2:decide ((i:Int)<6)=decide (i<6):=by congr 1;simp;omega
    by_cases hi:i<turns.length∧i<6
    ·obtain⟨hi1,hi2⟩:=hi;have d1:decide ((i:Int)<(turns.length:Int))=true:=decide_eq_true (by omega);have d2:decide (i<turns.length)=true:=decide_eq_true hi1;have d3:decide ((i:Int)<6)=true:=decide_eq_true (by omega);have d4:decide (i<6)=true:=decide_eq_true hi2;clear hd2;obtain⟨ad,x,hA,r0,r1,r2,r3,r4⟩:=afM (Kd.aC HR2.out Xu.out) (i:Int) (by omega) (by omega);rw[Int.toNat_natCast] at r0 r1 r2 r3 r4;subst hA
     go_upto_region 13 with (go_at_call 16;refine (Pm Ab cb b x.f0 x.f1 x.f2 x.f3 x.f4 _ HCb.out hcb (by omega) HBY.out).mono ?_;rintro e w1 ⟨Ab1,b1,cb1,rfl,Te,alm,afT,hC1,hb1⟩;have HB1:=ah.mk (Xu.out.trans (hb1.mono Xu.out.size));have Hl:=ah.mk hC1;have TR:=ah.mk afT;clear hb1 hC1 afT)
     clear r0 r1 r2 r3 r4
     have ap1:b1.length≤16777216+(i+1):=by omega
     clear alm hbl
     obtain⟨⟨l,f⟩,hap⟩:∃q,mP old b1=q:=⟨_,rfl⟩
     have hcs:=KU old b1 HZ.out CO.out.all ⟨by omega,TR.out⟩;rw[hap] at hcs;dsimp only at hcs;have HA:=ah.mk (show d9.f old b1=some (l,f) by unfold d9.f;rw[if_pos ⟨CO.out.all,of_by ⟨by omega,TR.out⟩⟩,hap]);have hcs:=ah.mk hcs;clear hap
     go_upto_region 14 with (first
      | (go_at_call 19;refine (rF (Kd.aC pQ.out HB1.out) hc0 CO.out).mono ?_;rintro e w7 ⟨v7,rfl,hv7,qG⟩;obtain⟨Av7,cv7,Vz⟩:=Kd.lC hv7;subst Vz;have HV7:=ah.mk hv7;have yh:=ah.mk (HB1.out.trans (qG.mono HB1.out.size));have PV:=ah.mk (Kd.aC Hl.out qG);clear hv7 qG)
      | (go_at_call 23;refine (Ng PV.out Te (by omega)).mono ?_;rintro e w8 ⟨v8,rfl,Na,xK⟩;obtain⟨Av8,cv8,VA⟩:=Kd.bH Na;subst VA;have VB:=ah.mk (Kd.dB Na);have FJ:=ah.mk (Kd.iw (Kd.jI HV7.out xK));have Cz:=ah.mk (yh.out.trans (xK.mono yh.out.size));have VD:=ah.mk (Kd.aC PV.out xK);clear Na xK)
      | (go_at_call 22;refine (d9.calls Av7 cv7 old Av8 cv8 b1 l f _ FJ.out.2.2 FJ.out.2.1 VB.out.2.2 VB.out.2.1 HA.out).mono ?_;rintro e w9 ⟨v9,rfl,IE,Cy⟩;obtain⟨Al,cl,VE⟩:=Kd.lC IE;subst VE;have HL9:=ah.mk (Kd.iw IE).2.2;have hcl:=(Kd.iw IE).2.1;have zM:=ah.mk (Cz.out.trans (Cy.mono Cz.out.size));have PW:=ah.mk (Kd.aC VD.out Cy);clear IE Cy))
     clear HV7 FJ VB yh Cz PV VD HA Hl HB1 HCb Xu
     rcases hcs.out with⟨hf0,rfl,hf1⟩|⟨rfl,hdl,hfl⟩
     ·have fb:(f != 0)=true:=bne_iff_ne.2 hf0;have Wu:=ah.mk hf1;clear hcs hf0 hf1
      go_upto_region 15 with (go_at_call 21;refine (j3 f _).mono ?_;rintro e IK ⟨rfl,zo⟩;have sI:=ah.mk (zM.out.trans (zo.mono zM.out.size));have vN:=ah.mk zo;clear zo)
      have Tf:=ah.mk (Kd.aC PW.out vN.out);clear zM PW vN
      rcases Wu.out with rfl|rfl|rfl
      ·go_wp2_with (go_at_call 21;refine (j3 7 _).mono ?_;rintro e BO ⟨rfl,vE⟩;have uo:=ah.mk (sI.out.trans (vE.mono sI.out.size));have yK:=ah.mk vE;clear vE)
       go_roundg (6 - (i+1))
       case measure=>omega
       case rel=>exact⟨i+1,Ab1,b1,cb1,by omega,by first|rfl|(push_cast;rfl)|simp,rfl,Te,by omega,TR,⟨Kd.aC Tf.out yK.out⟩,uo⟩
      ·have VF:=ah.mk True.intro
       go_wp2_with (first|(have _t:=VF;go_at_call 21;refine (j3 180 _).mono ?_;rintro e BO ⟨rfl,vE⟩;have uo:=ah.mk (sI.out.trans (vE.mono sI.out.size));have yK:=ah.mk vE;clear vE;clear VF)|(go_at_call 21;refine (j3 180 _).mono ?_;rintro e LZ ⟨rfl,FL⟩;have BP:=ah.mk (uo.out.trans (FL.mono uo.out.size));have VG:=ah.mk FL;clear FL))
       go_roundg (6 - (i+1))
       case measure=>omega
       case rel=>exact⟨i+1,Ab1,b1,cb1,by omega,by first|rfl|(push_cast;rfl)|simp,rfl,Te,by omega,TR,⟨(Kd.aC (Kd.aC Tf.out yK.out) VG.out)⟩,BP⟩
      ·have VF:=ah.mk True.intro;have afU:=ah.mk True.intro
       go_wp2_with (first|(have _t:=VF;go_at_call 21;refine (j3 181 _).mono ?_;rintro e BO ⟨rfl,vE⟩;have uo:=ah.mk (sI.out.trans (vE.mono sI.out.size));have yK:=ah.mk vE;clear vE;clear VF)|(have _t:=afU;go_at_call 21;refine (j3 181 _).mono ?_;rintro e LZ ⟨rfl,FL⟩;have BP:=ah.mk (uo.out.trans (FL.mono uo.out.size));have VG:=ah.mk FL;clear FL;clear afU)|(go_at_call 21;refine (j3 181 _).mono ?_;rintro e w13 ⟨rfl,acF⟩;have Yt:=ah.mk (BP.out.trans (acF.mono BP.out.size));have afV:=ah.mk acF;clear acF))
       go_roundg (6 - (i+1))
       case measure=>omega
       case rel=>exact⟨i+1,Ab1,b1,cb1,by omega,by first|rfl|(push_cast;rfl)|simp,rfl,Te,by omega,TR,⟨(Kd.aC (Kd.aC (Kd.aC Tf.out yK.out) VG.out) afV.out)⟩,Yt⟩
     ·have HD:=ah.mk (show eU.f old l=some (b1,0) by unfold eU.f;rw[if_pos ⟨CO.out.all,hfl⟩,hdl]);have hpl:=PU hdl;have bl:((cK l).2 == 0)=true:=beq_iff_eq.2 hpl;have CL:=ah.mk (Yq hpl hfl);clear hcs hdl hfl hpl
      go_upto_region 17 with (go_at_call 21;refine (j3 0 _).mono ?_;rintro e IK ⟨rfl,zo⟩;have sI:=ah.mk (zM.out.trans (zo.mono zM.out.size));have vN:=ah.mk zo;clear zo)
      have Tf:=ah.mk (Kd.aC PW.out vN.out);have afW:=ah.mk (Kd.aC HL9.out vN.out);clear zM PW vN HL9;have afX:=ah.mk True.intro
      go_upto_region 18 with (first
       | (have _t:=afX;go_at_call 19;refine (rF (Kd.aC pQ.out sI.out) hc0 CO.out).mono ?_;rintro e w7 ⟨v7,rfl,hv7,qG⟩;obtain⟨Av7,cv7,Vz⟩:=Kd.lC hv7;subst Vz;have HV7:=ah.mk hv7;have uo:=ah.mk (sI.out.trans (qG.mono sI.out.size));have afY:=ah.mk (Kd.aC Tf.out qG);have acG:=ah.mk (Kd.aC afW.out qG);clear hv7 qG afX)
       | (go_at_call 19;refine (rF acG.out hcl CL.out).mono ?_;rintro e w8 ⟨v8,rfl,Na,xK⟩;obtain⟨Av8,cv8,VA⟩:=Kd.lC Na;subst VA;have VB:=ah.mk (Kd.iw Na);have FJ:=ah.mk (Kd.iw (Kd.jI HV7.out xK));have BP:=ah.mk (uo.out.trans (xK.mono uo.out.size));have afZ:=ah.mk (Kd.aC afY.out xK);have af0:=ah.mk (Kd.aC acG.out xK);clear Na xK)
       | (go_at_call 18;refine (eU.calls Av7 cv7 old Av8 cv8 l b1 0 _ FJ.out.2.2 FJ.out.2.1 VB.out.2.2 VB.out.2.1 HD.out).mono ?_;rintro e w9 ⟨v9,rfl,IE,Cy⟩;obtain⟨A9,c9,VE⟩:=Kd.bH IE;subst VE;have HV9:=ah.mk (Kd.dB IE);have Yt:=ah.mk (BP.out.trans (Cy.mono BP.out.size));have af2:=ah.mk (Kd.aC afZ.out Cy);have aln:=ah.mk (Kd.aC af0.out Cy);clear IE Cy))
      clear HV7 FJ VB Tf afY afZ afW acG af0 sI uo BP HD
      go_wp2_with (first
       | (go_at_call 21;refine (j3 0 _).mono ?_;rintro e w14 ⟨rfl,acH⟩;have af3:=ah.mk (Yt.out.trans (acH.mono Yt.out.size));have RG:=ah.mk acH;clear acH)
       | (go_at_call 25;refine (Td (Kd.aC HV9.out.2.2 RG.out) HV9.out.2.1 (Kd.aC af2.out RG.out) Te).mono ?_;rintro e IK ⟨rfl,zo⟩;have af4:=ah.mk (af3.out.trans (zo.mono af3.out.size));have acI:=ah.mk (RG.out.trans (zo.mono RG.out.size));clear zo)
       | (go_at_call 20;refine (uL (Kd.aC aln.out acI.out) hcl CL.out).mono ?_;rintro e BO ⟨rfl,vE⟩;have alo:=ah.mk (af4.out.trans (vE.mono af4.out.size));have alp:=ah.mk (acI.out.trans (vE.mono acI.out.size));clear vE))
      go_roundg (6 - (i+1))
      case measure=>omega
      case rel=>exact⟨i+1,Ab1,b1,cb1,by omega,by first|rfl|(push_cast;rfl)|simp,rfl,Te,by omega,TR,⟨Kd.aC af2.out alp.out⟩,alo⟩
    ·have hBw:=Xu.out;by_cases hi1:i<turns.length
     ·have d1:decide ((i:Int)<(turns.length:Int))=true:=decide_eq_true (by omega);have d2:decide (i<turns.length)=true:=decide_eq_true hi1;have d3:decide ((i:Int)<6)=false:=decide_eq_false (by omega);have d4:decide (i<6)=false:=decide_eq_false (by omega);clear hd2
      go_wp2_with fail
      go_ret
      exact⟨rfl,hBw⟩
     ·have d1:decide ((i:Int)<(turns.length:Int))=false:=decide_eq_false (by omega);have d2:decide (i<turns.length)=false:=decide_eq_false hi1;clear hd2
      go_wp2_with fail
      go_ret
      exact⟨rfl,hBw⟩
  ·have bg:((cK goal).2 == 0)=false:=beq_eq_false_iff_ne.2 hg;obtain⟨hne,rfl⟩:=hbad (fun h=>hg h.2);have ne2:(eb != 0)=true:=bne_iff_ne.2 hne;clear hne RF;have tok:=ah.mk True.intro
   go_wp2_with (first|(have _t:=tok;go_at_call 20;refine (uL (Kd.aC pQ.out mH.out) hc0 CO.out).mono ?_;rintro e w5 ⟨rfl,hb5⟩;have iV:=ah.mk (mH.out.trans (hb5.mono mH.out.size));have HV5:=ah.mk (Kd.aC Yr.out.2.2 hb5);clear hb5;clear tok)|(go_at_call 20;refine (uL (Kd.aC HR1.out iV.out) hc1 CG.out).mono ?_;rintro e w6 ⟨rfl,hb6⟩;have qd:=ah.mk (iV.out.trans (hb6.mono iV.out.size));have WV:=ah.mk (Kd.aC HV5.out hb6);clear hb6)|(go_at_call 21;refine (j3 eb _).mono ?_;rintro e w7 ⟨rfl,qG⟩;have yh:=ah.mk (qd.out.trans (qG.mono qd.out.size));have alq:=ah.mk qG;clear qG))
   go_ret
   exact⟨rfl,yh.out⟩
 ·have bo:((cK old).2 == 0)=false:=beq_eq_false_iff_ne.2 ho;obtain⟨hne,rfl⟩:=hbad (fun h=>ho h.1);have ne2:(eb != 0)=true:=bne_iff_ne.2 hne;clear hne RF
  go_wp2_with (first|(go_at_call 20;refine (uL (Kd.aC pQ.out mH.out) hc0 CO.out).mono ?_;rintro e w5 ⟨rfl,hb5⟩;have iV:=ah.mk (mH.out.trans (hb5.mono mH.out.size));have HV5:=ah.mk (Kd.aC Yr.out.2.2 hb5);clear hb5)|(go_at_call 21;refine (j3 eb _).mono ?_;rintro e w7 ⟨rfl,qG⟩;have yh:=ah.mk (iV.out.trans (qG.mono iV.out.size));have alq:=ah.mk qG;clear qG))
  go_ret
  exact⟨rfl,yh.out⟩
end Go.Proofs.YtknihldkhedpkaaGreatDoor
end
section
namespace Go.Proofs.YtknihldkhedpkaaGreatDoor
open Go.RowKit Go.ChangeShapes Go.WideShapes
open Go.Proofs.YtknihldkhedpkaaGreatDoorW.PrintWords Go.Proofs.YtknihldkhedpkaaGreatDoorW.PrintLast Go.Proofs.YtknihldkhedpkaaGreatDoor.PT
theorem af5:tV Tryz.prog 117 cO (fun _=>True) :=
 (tV.struct (fun x:dx=>(x.f0,x.f1)) (fun y=>⟨⟨y.1,y.2⟩,rfl⟩) Tryz.underlying117 (by kernel_rfl)
  (G7.cons rfl (by kernel_rfl) (tV.int Tryz.underlying3) (G7.last rfl (by kernel_rfl) (tV.int Tryz.underlying3)))).good (fun _ _=>trivial)
theorem wf_u8 {n:Int} (h:(Lit.int .u8 n).wf=true):0≤n∧n≤255:=by
 simp[Lit.wf,IntKind.min,IntKind.max,IntKind.signed,IntKind.bits] at h;omega
theorem acJ:tV Tryz.prog 29 oW (fun x=>Fit x∧x.f4.length<8796093022208):=by
 have b1:Tryz.prog.bytesOf 117=16:=by kernel_rfl
 have b2:Tryz.prog.bytesOf 5=1:=by kernel_rfl
 refine (tV.struct (fun x:mG=>(x.f0,x.f1,x.f2,x.f3,x.f4,x.f5)) (fun y=>⟨⟨y.1,y.2.1,y.2.2.1,y.2.2.2.1,y.2.2.2.2.1,y.2.2.2.2.2⟩,rfl⟩) Tryz.underlying29 (by kernel_rfl)
  (G7.cons rfl (by kernel_rfl) (tV.int Tryz.underlying3) (G7.cons rfl (by kernel_rfl) (tV.string Tryz.underlying9) (G7.cons rfl (by kernel_rfl) (tV.string Tryz.underlying9) (G7.cons rfl (by kernel_rfl) (tV.int Tryz.underlying3)
   (G7.cons rfl (by kernel_rfl) (tV.slice 117 Tryz.underlying26 (by kernel_rfl) af5) (G7.last rfl (by kernel_rfl) (tV.slice 5 Tryz.underlying27 (by kernel_rfl) (tV.int Tryz.underlying5))))))))).good ?_
 rintro x ⟨_,h1,h2,_,⟨h4,_⟩,h5,h6⟩;dsimp only at h1 h2 h4 h5 h6;rw[b1] at h4;rw[b2] at h5;unfold reachBytes at h1 h2 h4 h5;exact⟨⟨by omega,by omega,by omega,by omega,fun n hn=>wf_u8 (h6 n hn)⟩,by omega⟩
theorem RH:tV Tryz.prog 25 (Kd.slice 29 oW) Came:=by
 have b1:Tryz.prog.bytesOf 29=96:=by kernel_rfl
 refine (tV.slice 29 Tryz.underlying25 (by kernel_rfl) acJ).good ?_;rintro l ⟨h1,h2⟩;rw[b1] at h1;unfold reachBytes at h1;exact⟨by omega,fun x hx=>(h2 x hx).2,fun x hx=>(h2 x hx).1⟩
theorem tV.bool {P:Program} {t:TypeId} (ht:P.underlying t=some .bool):tV P t Kd.bool (fun _=>True):=by
 intro H enc W base spare held fuel cs dd ps h _;obtain⟨b,rfl,_⟩:=DataW.trod_bool ht h;exact⟨b,rfl,trivial⟩
theorem alr:tV Tryz.prog 44 kTn (fun _=>True) :=
 (tV.struct (fun x:Tn=>(x.f0,x.f1,x.f2,x.f3,x.f4)) (fun y=>⟨⟨y.1,y.2.1,y.2.2.1,y.2.2.2.1,y.2.2.2.2⟩,rfl⟩) Tryz.underlying44 (by kernel_rfl)
  (G7.cons rfl (by kernel_rfl) (tV.int Tryz.underlying3) (G7.cons rfl (by kernel_rfl) (tV.int Tryz.underlying3) (G7.cons rfl (by kernel_rfl) (tV.int Tryz.underlying3) (G7.cons rfl (by kernel_rfl) (tV.bool Tryz.underlying4) (G7.last rfl (by kernel_rfl) (tV.bool Tryz.underlying4))))))).good (fun _ _=>trivial)
theorem af6:tV Tryz.prog 39 (Kd.slice 44 kTn) (fun _=>True) :=
 (tV.slice 44 Tryz.underlying39 (by kernel_rfl) alr).good (fun _ _=>trivial)
end Go.Proofs.YtknihldkhedpkaaGreatDoor
end
section
namespace Go.Proofs.YtknihldkhedpkaaGreatDoor
open Go.RowKit Go.Lib
open Go.Proofs.YtknihldkhedpkaaGreatDoorW.PrintWords Go.Proofs.YtknihldkhedpkaaGreatDoorW.PrintLast Go.Proofs.YtknihldkhedpkaaGreatDoor.PT
def Ap (l:List Rn):Prop:=l.Pairwise (fun a b=>a.f1<b.f0)∧∀r∈l,0≤r.f0∧r.f0<r.f1
theorem FM {most:Int}:∀(l:List Rn) (last all:Int),l.Pairwise (fun a b=>a.f1<b.f0)→(∀r∈l,r.f0<r.f1∧r.f1≤most∧last<r.f0)→gH most last all l=some (all+(idxs l).length)
 | [],last,all,_,_=>by simp[gH,idxs]
 | r::l,last,all,hp,h=>by
  have hp2:=List.pairwise_cons.1 hp;have hr:=h r List.mem_cons_self;rw[gH,if_neg (by omega),FM l r.f1 _ hp2.2 (fun q hq=>⟨(h q (List.mem_cons_of_mem _ hq)).1,(h q (List.mem_cons_of_mem _ hq)).2.1,hp2.1 q hq⟩),uD,List.length_append]
  congr 1
  simp[iJ];omega
theorem Bd (size:Int):∀(l:List Ru) (last all l2 a2:Int),-1≤last→jV size last all l=some (l2,a2)→l.Pairwise (fun a b=>a.f1<b.f0)∧(∀r∈l,last<r.f0∧0≤r.f0∧r.f0<r.f1∧r.f1≤(size+511) / 512)∧l2=(match l.getLast? with|none=>last|some r=>r.f1)∧a2=all+(idxs l).length
 | [],last,all,l2,a2,_,h=>by
  simp[jV] at h;obtain⟨rfl,rfl⟩:=h;exact⟨List.Pairwise.nil,fun r h=>(by cases h),rfl,by simp[idxs]⟩
 | r::l,last,all,l2,a2,h0,h=>by
  rw[jV] at h;split at h
  ·cases h
  ·rename_i hc;obtain⟨h1,h2,h3,h4⟩:=Bd size l r.f1 _ l2 a2 (by omega) h;refine⟨List.pairwise_cons.2 ⟨fun q hq=>(h2 q hq).1,h1⟩,fun q hq=>?_,?_,?_⟩
   ·rcases List.mem_cons.1 hq with rfl|hq
    ·omega
    ·have:=h2 q hq;omega
   ·rw[h3]
    cases l with
    | nil=>rfl
    | cons z l=>rw[List.getLast?_cons_cons];cases hz:(z::l).getLast? with
     | none=>simp at hz
     | some y=>rfl
   ·rw[h4,uD,List.length_append];simp[iJ];omega
structure Full (x:It):Prop where
 s:0≤x.f3∧x.f3≤8459264
 ap:x.f4.Pairwise (fun a b=>a.f1<b.f0)
 r:∀r∈x.f4,0≤r.f0∧r.f0<r.f1∧r.f1≤(x.f3+511) / 512
 n:x.f5.length=512*(idxs x.f4).length
 q:kX x.f4 x.f5 x.f3=true
theorem xk {x:It} (h:kZ x.f3 x.f4 x.f5=true):Full x:=by
 unfold kZ at h;split at h
 ·cases h
 ·rename_i hs
  cases hr:jV x.f3 (-1) 0 x.f4 with
  | none=>rw[hr] at h;cases h
  | some p=>
   obtain⟨l2,a2⟩:=p;obtain⟨h1,h2,h3,h4⟩:=Bd x.f3 x.f4 (-1) 0 l2 a2 (by omega) hr;rw[hr,Ei] at h;split at h
   ·rename_i hd;refine⟨by omega,h1,fun r hr=>(h2 r hr).2,by omega,?_⟩;unfold kX yB
    cases hl:x.f4.getLast? with
    | none=>rfl
    | some r=>
     rw[hl] at h3;dsimp only at h3 ⊢;have hrm:=h2 r (List.mem_of_getLast? hl)
     have hne:a2≠0:=by
      intro e
      have:(idxs x.f4).length=0:=by omega
      have hm:r.f0∈idxs x.f4:=by
       unfold idxs;exact List.mem_flatMap.2 ⟨r,List.mem_of_getLast? hl,wR.2 ⟨Int.le_refl _,by omega⟩⟩
      rw[List.eq_nil_of_length_eq_zero this] at hm;cases hm
     rw[if_neg hne,h3] at h;split
     ·rfl
     ·exact h
   ·cases h
theorem Full.sized {x:It} (h:Full x):fT x=some ((idxs x.f4).length:Int):=by
 have:=h.s;unfold fT;rw[if_neg (by omega)];unfold iQ;rw[FM x.f4 (-1) 0 h.ap (fun r hr=>⟨(h.r r hr).2.1,(h.r r hr).2.2,by have:=(h.r r hr).1;omega⟩)];simp
theorem Nh {α:Type} {R:α→α→Prop}:∀{l:List α},l.Pairwise R→∀a∈l,∀b∈l,a=b∨R a b∨R b a
 | [],_,a,ha,_,_=>by cases ha
 | x::l,h,a,ha,b,hb=>by
  have h2:=List.pairwise_cons.1 h
  rcases List.mem_cons.1 ha with ha1|ha1
  ·rcases List.mem_cons.1 hb with hb1|hb1
   ·exact .inl (ha1.trans hb1.symm)
   ·exact .inr (.inl (ha1▸h2.1 b hb1))
  ·rcases List.mem_cons.1 hb with hb1|hb1
   ·exact .inr (.inr (hb1▸h2.1 a ha1))
   ·exact Nh h2.2 a ha1 b hb1
theorem Js:∀(rows others:List Rn),rows.Pairwise (fun a b=>a.f1<b.f0)→others.Pairwise (fun a b=>a.f1<b.f0)→(∀r∈rows,r.f0<r.f1)→(∀q∈others,q.f0<q.f1)→(∀r∈rows,∃q∈others,q.f0≤r.f0∧r.f1≤q.f1)→gD rows others=true
 | [],_,_,_,_,_,_=>rfl
 | r::l,o,h1,h2,h3,h4,h5=>by
  have p1:=List.pairwise_cons.1 h1;obtain⟨q,hq,hq0,hq1⟩:=h5 r List.mem_cons_self;have hr:=h3 r List.mem_cons_self;rw[gD]
  have hdw:∀(o:List Rn),o.Pairwise (fun a b=>a.f1<b.f0)→(∀q∈o,q.f0<q.f1)→q∈o→∃o',o.dropWhile (fun q=>decide (q.f1<r.f1))=q::o'∧(q::o').Pairwise (fun a b=>a.f1<b.f0)∧(∀z∈o,r.f1≤z.f1→z∈q::o')∧∀z∈q::o',z∈o:=by
   intro o
   induction o with
   | nil=>intro _ _ h;cases h
   | cons z o ih=>
    intro hp hz hm;have hp2:=List.pairwise_cons.1 hp;rw[List.dropWhile_cons];by_cases hlt:z.f1<r.f1
    ·rw[if_pos (by simpa using hlt)]
     have hm2:q∈o:=by
      rcases List.mem_cons.1 hm with rfl|hm
      ·omega
      ·exact hm
     obtain⟨o',e1,e2,e3,e4⟩:=ih hp2.2 (fun y hy=>hz y (List.mem_cons_of_mem _ hy)) hm2;refine⟨o',e1,e2,fun y hy hle=>?_,fun y hy=>List.mem_cons_of_mem _ (e4 y hy)⟩
     rcases List.mem_cons.1 hy with rfl|hy
     ·omega
     ·exact e3 y hy hle
    ·rw[if_neg (by simpa using hlt)]
     have hzq:q=z:=by
      rcases List.mem_cons.1 hm with rfl|hm
      ·rfl
      ·have:=hp2.1 q hm;have:=hz z List.mem_cons_self;omega
     subst hzq;exact⟨o,rfl,hp,fun y hy _=>hy,fun y hy=>hy⟩
  obtain⟨o',e1,e2,e3,e4⟩:=hdw o h2 h4 hq;rw[e1];dsimp only;rw[if_neg (by omega)];refine Js l (q::o') p1.2 e2 (fun z hz=>h3 z (List.mem_cons_of_mem _ hz)) (fun z hz=>h4 z (e4 z hz)) (fun z hz=>?_);obtain⟨y,hy,y0,y1⟩:=h5 z (List.mem_cons_of_mem _ hz);have:=p1.1 z hz;have:=h3 z (List.mem_cons_of_mem _ hz);exact⟨y,e3 y hy (by omega),y0,y1⟩
theorem FN {l:List Rn} {i:Int}:i∈idxs l↔∃q∈l,q.f0≤i∧i<q.f1:=by
 unfold idxs;simp only[List.mem_flatMap,wR]
structure EI (y:DF) (l:List Int) (s:List Rn × List Int):Prop where
 up:s.1.Pairwise (fun a b=>a.f1<b.f0)
 ok:∀r∈s.1,0≤r.f0∧r.f0<r.f1∧∃q∈y.f4,q.f0≤r.f0∧r.f1≤q.f1
 nx:∀r∈s.1,∀i∈l,r.f1≤i
 ln:s.2.length=512*(idxs s.1).length
 lb:∀r,s.1.getLast?=some r→∃j d0,(idxs y.f4)[j]?=some (r.f1 - 1)∧s.2=d0++dI y.f5 j
theorem EI.step {y:DF} (hy:Full y) {i:Int} {l:List Int} {s:List Rn × List Int} {k:Nat} (h:EI y (i::l) s) (hi:∀j∈l,i<j) (hk:(idxs y.f4)[k]?=some i):EI y l (mR s.1 i,s.2++dI y.f5 k):=by
 have him:i∈idxs y.f4:=List.mem_of_getElem? hk;obtain⟨q',hq',q0,q1⟩:=FN.1 him;have hkl:k<(idxs y.f4).length:=(List.getElem?_eq_some_iff.1 hk).1;have hbl:(dI y.f5 k).length=512:=fK (by have:=hy.n;omega)
 have hln:(s.2++dI y.f5 k).length=512*(idxs (mR s.1 i)).length:=by
  rw[(Nk (fun r hr=>by have:=(h.ok r hr).2.1;omega)).1,List.length_append,List.length_append,h.ln,hbl,List.length_singleton];omega
 unfold mR at hln ⊢
 have hfresh:∀(hlt:∀a∈s.1,a.f1<i) (hj:(s.2++dI y.f5 k).length=512*(idxs (s.1++[⟨i,i+1⟩])).length),EI y l (s.1++[⟨i,i+1⟩],s.2++dI y.f5 k):=fun hlt hj=>by
  refine⟨List.pairwise_append.2 ⟨h.up,List.pairwise_singleton _ _,fun a ha b hb=>?_⟩,fun r hr=>?_,fun r hr j hj=>?_,hj,fun r hr=>?_⟩
  ·rw[List.mem_singleton.1 hb];exact hlt a ha
  ·rcases List.mem_append.1 hr with hr|hr
   ·exact h.ok r hr
   ·rw[List.mem_singleton.1 hr];have:=(hy.r q' hq').1;exact⟨by show 0≤i;omega,by show i<i+1;omega,q',hq',q0,by show i+1≤q'.f1;omega⟩
  ·rcases List.mem_append.1 hr with hr|hr
   ·exact h.nx r hr j (List.mem_cons_of_mem _ hj)
   ·rw[List.mem_singleton.1 hr];have:=hi j hj
    show i+1≤j
    omega
  ·have hr:(s.1++[(⟨i,i+1⟩:Rn)]).getLast?=some r:=hr;rw[List.getLast?_concat] at hr;obtain rfl:=Option.some.inj hr;exact⟨k,s.2,by rw[hk];congr 1;show i=i+1 - 1;omega,rfl⟩
 cases hl:s.1.getLast? with
 | none=>
  have hn:s.1=[]:=List.getLast?_eq_none_iff.1 hl;rw[hl] at hln;have:=hfresh (fun a ha=>by rw[hn] at ha;cases ha) (by rw[hn];exact hln);rw[hn] at this;exact this
 | some r=>
  rw[hl] at hln;dsimp only at hln ⊢;obtain⟨ys,hys⟩:=List.getLast?_eq_some_iff.1 hl
  have hrm:r∈s.1:=by rw[hys];simp
  by_cases hr:r.f1=i
  ·rw[if_pos hr] at hln ⊢
   have hdl:s.1.dropLast=ys:=by rw[hys,List.dropLast_concat]
   rw[hdl] at hln ⊢;have hup:=h.up;rw[hys] at hup;obtain⟨u1,u2,u3⟩:=List.pairwise_append.1 hup;obtain⟨o0,o1,q,hq,oq0,oq1⟩:=h.ok r hrm
   have hqq:q'=q:=by
    rcases Nh hy.ap q' hq' q hq with e|e|e
    ·exact e
    ·omega
    ·omega
   refine⟨List.pairwise_append.2 ⟨u1,List.pairwise_singleton _ _,fun a ha b hb=>?_⟩,fun z hz=>?_,fun z hz j hj=>?_,hln,fun z hz=>?_⟩
   ·rw[List.mem_singleton.1 hb];exact u3 a ha r (by simp)
   ·rcases List.mem_append.1 hz with hz|hz
    ·exact h.ok z (by rw[hys];simp[hz])
    ·rw[List.mem_singleton.1 hz];exact⟨o0,by show r.f0<r.f1+1;omega,q,hq,oq0,by show r.f1+1≤q.f1;rw[← hqq];omega⟩
   ·rcases List.mem_append.1 hz with hz|hz
    ·exact h.nx z (by rw[hys];simp[hz]) j (List.mem_cons_of_mem _ hj)
    ·rw[List.mem_singleton.1 hz];have:=hi j hj
     show r.f1+1≤j
     omega
   ·have hz:(ys++[(⟨r.f0,r.f1+1⟩:Rn)]).getLast?=some z:=hz;rw[List.getLast?_concat] at hz;obtain rfl:=Option.some.inj hz;exact⟨k,s.2,by rw[hk];congr 1;show i=r.f1+1 - 1;omega,rfl⟩
  ·rw[if_neg hr] at hln ⊢;refine hfresh (fun a ha=>?_) hln;have hle:=h.nx r hrm i List.mem_cons_self;rw[hys] at ha
   rcases List.mem_append.1 ha with ha|ha
   ·have hup:=h.up;rw[hys] at hup;have:=(List.pairwise_append.1 hup).2.2 a ha r (by simp);have:=(h.ok r hrm).2.1;omega
   ·rw[List.mem_singleton.1 ha];omega
theorem EI.go {x y:DF} (hy:Full y):∀(l:List Int) (k:Nat) (s:List Rn × List Int),(∀j (hj:j<l.length),(idxs y.f4)[k+j]?=some l[j])→l.Pairwise (· < ·)→EI y l s→EI y [] (fP x y l k s)
 | [],k,s,_,_,h=>h
 | i::l,k,s,hk,hp,h=>by
  have hp2:=List.pairwise_cons.1 hp;refine EI.go hy l (k+1) _ (fun j hj=>?_) hp2.2 ?_
  ·have:=hk (j+1) (by simp only[List.length_cons];omega);rw[show k+1+j=k+(j+1) by omega];exact this
  ·have h0:=hk 0 (by simp);rw[Nat.add_zero] at h0;split
   ·exact h.step hy hp2.1 h0
   ·exact⟨h.up,h.ok,fun r hr j hj=>h.nx r hr j (List.mem_cons_of_mem _ hj),h.ln,h.lb⟩
theorem Full.up {y:It} (hy:Full y):(idxs y.f4).Pairwise (· < ·):=by
 have:∀l:List Rn,l.Pairwise (fun a b=>a.f1<b.f0)→(∀r∈l,r.f0<r.f1)→(idxs l).Pairwise (· < ·):=by
  intro l
  induction l with
  | nil=>intro _ _;exact List.Pairwise.nil
  | cons r l ih=>
   intro hp hr;have hp2:=List.pairwise_cons.1 hp;rw[uD];refine List.pairwise_append.2 ⟨QL r,ih hp2.2 (fun q hq=>hr q (List.mem_cons_of_mem _ hq)),fun a ha b hb=>?_⟩;obtain⟨q,hq,q0,_⟩:=FN.1 hb;have:=wR.1 ha;have:=hp2.1 q hq;omega
 exact this _ hy.ap (fun r hr=>(hy.r r hr).2.1)
theorem PX {x y:It} (hy:Full y):jT (qx x y)=true:=by
 have hE:EI y [] (fP x y (idxs y.f4) 0 ([],[])):=EI.go hy _ _ _ (fun j hj=>by rw[Nat.zero_add,List.getElem?_eq_getElem hj]) hy.up ⟨List.Pairwise.nil,fun r h=>(by cases h),fun r h=>(by cases h),rfl,fun r h=>(by cases h)⟩
 obtain⟨s,hs⟩:∃s,fP x y (idxs y.f4) 0 ([],[])=s:=⟨_,rfl⟩
 have he:qx x y=⟨3,⟨1,y.f1,⟨#[]⟩,y.f3,y.f4,s.2⟩,s.1⟩:=by unfold qx;rw[hs]
 rw[hs] at hE;have hsz:fT (⟨1,y.f1,⟨#[]⟩,y.f3,y.f4,s.2⟩:It)=some ((idxs y.f4).length:Int):=hy.sized;have h99:=hy.s
 have hap:iQ s.1 16522=some ((idxs s.1).length:Int):=by
  unfold iQ
  rw[FM s.1 (-1) 0 hE.up (fun r hr=>by
   obtain⟨h0,h1,q,hq,_,h2⟩:=hE.ok r hr;have:=(hy.r q hq).2.2
   exact⟨h1,by omega,by omega⟩)]
  simp
 rw[he];unfold jT;dsimp only;rw[hsz];dsimp only;rw[if_neg (fun h=>by rcases h with h|h <;> exact h rfl),hap];dsimp only;rw[Js s.1 y.f4 hE.up hy.ap (fun r hr=>(hE.ok r hr).2.1) (fun q hq=>(hy.r q hq).2.1) (fun r hr=>(hE.ok r hr).2.2),decide_eq_true (by rw[hE.ln];omega),Bool.true_and,Bool.true_and];unfold kX yB
 cases hl:s.1.getLast? with
 | none=>rfl
 | some r=>
  dsimp only;split
  ·rfl
  ·rename_i ht;obtain⟨h0,h1,q,hq,q0,q1⟩:=hE.ok r (List.mem_of_getLast? hl);have hqr:=(hy.r q hq).2.2
   have hU:r.f1=(y.f3+511) / 512:=by omega
   obtain⟨j,d0,hj,hd⟩:=hE.lb r hl;have hjl:=(List.getElem?_eq_some_iff.1 hj).1
   have hjn:j+1=(idxs y.f4).length:=by
    rcases Nat.lt_or_ge (j+1) (idxs y.f4).length with hlt|hge
    ·exfalso;have h2:=List.pairwise_iff_getElem.1 hy.up j (j+1) hjl hlt (by omega);have h3:=(List.getElem?_eq_some_iff.1 hj).2;obtain⟨z,hz,z0,z1⟩:=FN.1 (List.getElem_mem hlt);have:=(hy.r z hz).2.2;omega
    ·omega
   have hyq:=hy.q;unfold kX yB at hyq
   cases LA:y.f4.getLast? with
   | none=>
    rw[List.getLast?_eq_none_iff.1 LA] at hq;cases hq
   | some z=>
    rw[LA] at hyq;dsimp only at hyq;have hzm:=List.mem_of_getLast? LA
    have hz1:z.f1=r.f1:=by
     have hz2:=(hy.r z hzm).2.2;obtain⟨ys,hys⟩:=List.getLast?_eq_some_iff.1 LA
     have hge:q.f1≤z.f1:=by
      rw[hys] at hq
      rcases List.mem_append.1 hq with hq|hq
      ·have hap:=hy.ap;rw[hys] at hap;have:=(List.pairwise_append.1 hap).2.2 q hq z (by simp);have:=(hy.r z hzm).2.1;omega
      ·rw[List.mem_singleton.1 hq];exact Int.le_refl _
     omega
    have ht2:¬z.f1*512 - y.f3≤0:=by omega
    rw[if_neg ht2] at hyq
    obtain⟨t,htt⟩:∃t:Nat,(r.f1*512 - y.f3).toNat=t:=⟨_,rfl⟩
    have htz:(z.f1*512 - y.f3).toNat=t:=by omega
    have ht5:t≤512:=by omega
    rw[htz] at hyq;rw[htt];have hyn:=hy.n;have hb:(dI y.f5 j).length=512:=fK (by omega)
    have e1:s.2.drop (s.2.length - t)=(dI y.f5 j).drop (512 - t):=by
     rw[hd,List.length_append,hb,List.drop_append,List.drop_of_length_le (by omega),List.nil_append]
     congr 1
     omega
    have e2:y.f5.drop (y.f5.length - t)=(dI y.f5 j).drop (512 - t):=by
     unfold dI;rw[List.take_of_length_le (by rw[List.length_drop];omega),List.drop_drop]
     congr 1
     omega
    rw[e1,← e2];exact hyq
theorem Vp.written {p:ByteArray} (h:Vp p):fE p=true:=by
 obtain⟨h1,h2,h3,h4⟩:=zW (show tF p=((tF p).1,true) by rw[← (show (tF p).2=true from h)]);unfold fE;rw[decide_eq_true h1,h2,h4];rfl
theorem FP {a b:ByteArray}:WU a b=true↔Less (bs a) (bs b):=by
 unfold WU Less;rw[Lib.toList_data,Lib.toList_data];exact Iff.rfl
theorem Tg {K:List (ByteArray × Int)} {x:It} (h:fu K x=true) (h4:x.f0=4):vQ K x.f2=1:=by
 unfold fu at h;rw[if_neg (by omega),if_neg (by omega),if_neg (by omega),if_pos h4,Bool.and_eq_true] at h;exact of_decide_eq_true h.2
theorem FQ:∀{l:List It} {K:List (ByteArray × Int)} {b:Option (List ByteArray)},iB K b l=true→∀y∈l,y.f0=4→vQ K y.f2=1∨∃z∈l,z.f1=y.f2∧Less (kl z) (kl y)
 | [],_,_,_,_,h,_=>by cases h
 | x::l,K,b,h,y,hy,h4=>by
  have hr:=(zf h).1;rw[iB] at h;simp only[Bool.and_eq_true,decide_eq_true_eq] at h
  rcases List.mem_cons.1 hy with rfl|hy1
  ·exact .inl (Tg h.1.2 h4)
  ·rcases FQ h.2 y hy1 h4 with h1|⟨z,hz,e,hl⟩
   ·rw[vQ] at h1;split at h1
    ·rename_i e;exact .inr ⟨x,List.mem_cons_self,e,hr.head y hy1⟩
    ·exact .inl h1
   ·exact .inr ⟨z,List.mem_cons_of_mem _ hz,e,hl⟩
theorem FR {l:List It} (h:jJ l=true):∀y∈l,je y=true:=fun y hy=>by
 obtain⟨K,hk⟩:=wS h y hy;unfold fu at hk;unfold je;split at hk
 ·rename_i h1;rw[if_pos h1];simp only[Bool.and_eq_true,decide_eq_true_eq] at hk;have hf:=xk hk.2;rw[hf.sized];dsimp only;rw[decide_eq_true hk.1,decide_eq_true (by have:=hf.n;omega),hf.q];rfl
 ·rename_i h1;rw[if_neg h1];split at hk
  ·rename_i h2;rw[if_pos h2];exact hk
  ·rename_i h2;rw[if_neg h2];split at hk
   ·rename_i h3;rw[if_pos h3];exact hk
   ·rename_i h3;rw[if_neg h3];split at hk
    ·rename_i h4;rw[if_pos h4];simp only[Bool.and_eq_true] at hk;have hr:=pY h
     rcases FQ h y hy h4 with hq|⟨z,hz,e,hl⟩
     ·rw[vQ] at hq
      split at hq <;> simp[vQ] at hq
     ·rw[hk.1,Bool.true_and,← e,(hr.path z hz).written,Bool.true_and];exact FP.2 hl
    ·cases hk
theorem C9:∀(l:List Ch) (last:ByteArray),(∀c∈l,fE c.f1.f1=true∧kQ c=true)→l.Pairwise (fun c d=>Less (bs (qh c)) (bs (qh d)))→(∀c∈l,WU last (qh c)=true)→fU last l=true
 | [],_,_,_,_=>rfl
 | c::l,last,h,hp,hl=>by
  have hp2:=List.pairwise_cons.1 hp;obtain⟨h1,h2⟩:=h c List.mem_cons_self;rw[fU,h1,h2,show WU last (BG c.f1.f1)=true from hl c List.mem_cons_self,C9 l (BG c.f1.f1) (fun d hd=>h d (List.mem_cons_of_mem _ hd)) hp2.2 (fun d hd=>FP.2 (hp2.1 d hd))];rfl
theorem Yu {a b:List It} (ha:jJ a=true) (hb:jJ b=true) {xa xb:Option It} (h1:∀x,xa=some x→x∈a) (h2:∀x,xb=some x→x∈b) {c:Ch} (h:kI xa xb=some c):kQ c=true:=by
 unfold kI at h;split at h
 ·cases h
 ·cases xa with
  | none=>
   cases xb with
   | none=>cases h
   | some y=>
    obtain rfl:=Option.some.inj h;unfold kQ;rw[if_neg (by show ¬(2:Int)=1;decide),if_pos (by rfl),FR hb y (h2 y rfl)];rfl
  | some x=>
   cases xb with
   | none=>
    obtain rfl:=Option.some.inj h;rfl
   | some y=>
    dsimp only at h;split at h
    ·rename_i hk;obtain rfl:=Option.some.inj h;unfold kQ;rw[if_neg (by show ¬(3:Int)=1;decide),if_neg (by show ¬(3:Int)=2;decide),if_pos (by rfl)];obtain⟨K,hok⟩:=wS hb y (h2 y rfl);exact PX (xk (Ca hok hk.2).f)
    ·obtain rfl:=Option.some.inj h;unfold kQ;rw[if_neg (by show ¬(2:Int)=1;decide),if_pos (by rfl),FR hb y (h2 y rfl)];rfl
theorem KV {a b:List It} (ha:jJ a=true) (hb:jJ b=true):fU ⟨#[]⟩ (jw a b)=true:=by
 have ra:=pY ha;have rb:=pY hb;refine C9 _ _ (fun c hc=>?_) (CS ra rb) (fun c hc=>?_)
 ·rw[pF] at hc;obtain⟨r,hr,hd⟩:=uz.1 hc;have hh:=Two.here hr;exact⟨(BZ ra rb hr hd).2.written,Yu ha hb hh.1 hh.2 hd⟩
 ·rw[pF] at hc;obtain⟨r,hr,hd⟩:=uz.1 hc;have hv:=(BZ ra rb hr hd).2;refine FP.2 ?_;have e:bs (qh c)=rW ((gW c.f1.f1).map bs):=zX hv;rw[e]
  have hne:gW c.f1.f1≠[]:=fun hn=>by
   have:=ze hv.parts.2.1;rw[hn] at this;have h2:=hv.parts.2.1;have h3:(bs c.f1.f1)=[]:=this;have h4:=of_decide_eq_true h2;rw[h3] at h4;cases h4
  cases hp:gW c.f1.f1 with
  | nil=>exact absurd hp hne
  | cons q l=>rfl
def TT (f:It→Nat) (o:Option It):Nat:=(o.map f).getD 0
theorem Nl (f:It→Nat) {L:Nat→List It} {p:Nat→Nat} {k:ByteArray} {j:Nat}:TT f (eO L p k j)+((dr L (fB L p k) j).map f).sum≤((dr L p j).map f).sum:=by
 cases hx:(L j)[p j]? with
 | none=>
  have hh:eO L p k j=none:=by unfold eO;rw[hx]
  have hn:fB L p k j=p j:=by unfold fB;rw[hh];rfl
  have hd:dr L (fB L p k) j=dr L p j:=by unfold dr;rw[hn]
  rw[hd,hh];simp[TT]
 | some x=>
  have hdx:=J4 hx
  cases hh:eO L p k j with
  | none=>
   have hn:fB L p k j=p j:=by unfold fB;rw[hh];rfl
   have hd:dr L (fB L p k) j=dr L p j:=by unfold dr;rw[hn]
   rw[hd];simp[TT]
  | some y=>
   have hn:fB L p k j=p j+1:=by unfold fB;rw[hh];rfl
   have hd:dr L (fB L p k) j=(L j).drop (p j+1):=by unfold dr;rw[hn]
   have hy:y=x:=by
    unfold eO at hh;rw[hx] at hh;dsimp only at hh;split at hh
    ·exact (Option.some.inj hh).symm
    ·cases hh
   rw[hd,hdx,hy];simp[TT]
theorem FT (f:It→Nat) {L:Nat→List It}:∀(n:Nat) (p:Nat→Nat),((Two.eY L n p).map (fun r=>TT f r.2.1)).sum≤((dr L p 0).map f).sum∧((Two.eY L n p).map (fun r=>TT f r.2.2)).sum≤((dr L p 1).map f).sum
 | 0,p=>by simp[Two.eY]
 | n+1,p=>by
  rw[Two.eY]
  cases hk:jL L p 2 with
  | none=>simp
  | some k=>
   have ih:=FT f (L:=L) n (fB L p k);have h1:=Nl f (L:=L) (p:=p) (k:=k) (j:=0);have h2:=Nl f (L:=L) (p:=p) (k:=k) (j:=1);simp only[List.map_cons,List.sum_cons];omega
def sK (x:It):Nat:=(iD x).length
theorem Bf (x:It):3+x.f1.size≤sK x∧(x.f0=1→sK x=15+x.f1.size+8*x.f4.length+x.f5.length):=by
 unfold sK iD;simp only[List.length_append,aZ,Go.Proofs.YtknihldkhedpkaaGreatDoorW.PrintWords.bytesOf_length];refine⟨by omega,fun h=>?_⟩;rw[if_pos h];simp only[List.length_append,aZ,uZ];omega
theorem VH {a b:List It} (ha:jJ a=true) (hb:jJ b=true) {xa xb:Option It} (h2:∀x,xb=some x→x∈b):((kI xa xb).map fun c=>(qB c).length).getD 0≤TT sK xa+2*TT sK xb:=by
 unfold kI;split
 ·simp
 ·cases xa with
  | none=>
   cases xb with
   | none=>simp
   | some y=>
    have:=Bf y
    show (qB ⟨2,y,[]⟩).length≤0+2*sK y
    unfold qB;rw[List.length_append,aZ,if_neg (by show ¬(2:Int)=1;decide),if_pos (by rfl)]
    show 1+sK y≤_
    omega
  | some x=>
   cases xb with
   | none=>
    have:=Bf x
    show (qB ⟨1,⟨0,x.f1,⟨#[]⟩,0,[],[]⟩,[]⟩).length≤sK x+2*0
    unfold qB;rw[List.length_append,aZ,if_pos (by rfl),mg]
    show 1+(x.f1.size+2)≤_
    omega
   | some y=>
    dsimp only;split
    ·rename_i hk
     show (qB (qx x y)).length≤sK x+2*sK y
     obtain⟨K,hok⟩:=wS hb y (h2 y rfl);have hf:=xk (Ca hok hk.2).f;have h1:=(Bf y).2 hk.2;have hl:=pK x y (idxs y.f4) 0 ([],[]);have hn:=hf.n;unfold qB;rw[List.length_append,aZ,if_neg (by show ¬(3:Int)=1;decide),if_neg (by show ¬(3:Int)=2;decide),if_pos (by rfl)];simp only[List.length_append,aZ,mg,om]
     show 1+(y.f1.size+2+8+(8*y.f4.length+4)+(8*(fP x y (idxs y.f4) 0 ([],[])).1.length+4)+(fP x y (idxs y.f4) 0 ([],[])).2.length)≤_
     simp only[List.length_nil,Nat.zero_add] at hl;omega
    ·have:=Bf y
     show (qB ⟨2,y,[]⟩).length≤sK x+2*sK y
     unfold qB;rw[List.length_append,aZ,if_neg (by show ¬(2:Int)=1;decide),if_pos (by rfl)]
     show 1+sK y≤_
     omega
theorem Nn {a b:List It} (ha:jJ a=true) (hb:jJ b=true):∀(rs:List Two.Rd),(∀r∈rs,∀x,r.2.2=some x→x∈b)→((BX rs).flatMap qB).length≤(rs.map (fun r=>TT sK r.2.1)).sum+2*(rs.map (fun r=>TT sK r.2.2)).sum
 | [],_=>by simp[BX]
 | r::rs,h=>by
  have ih:=Nn ha hb rs (fun q hq=>h q (List.mem_cons_of_mem _ hq));have h1:=VH (xa:=r.2.1) ha hb (h r List.mem_cons_self)
  have e:(BX (r::rs)).flatMap qB=((kI r.2.1 r.2.2).toList.flatMap qB)++(BX rs).flatMap qB:=by
   unfold BX;rw[List.flatMap_cons,List.flatMap_append]
  have e2:((kI r.2.1 r.2.2).toList.flatMap qB).length=((kI r.2.1 r.2.2).map fun c=>(qB c).length).getD 0:=by
   cases kI r.2.1 r.2.2 <;> simp
  rw[e,List.length_append,e2];simp only[List.map_cons,List.sum_cons];omega
theorem Bg (n:Int):∀(l:List Ch) (out:List Int),out.length+(l.flatMap qB).length+9≤16777216→(kG n out l).2=0
 | [],out,_=>rfl
 | c::l,out,h=>by
  rw[List.flatMap_cons,List.length_append] at h;rw[kG,if_neg (by rw[List.length_append];omega)];exact Bg n l _ (by rw[List.length_append];omega)
theorem Da:∀(l:List It) (out:List Int) (n:Nat),(nU out n l).2=0→(nU out n l).1.length=out.length+(l.map sK).sum+9
 | [],out,n,_=>by
  show (kF out n).length=_
  unfold kF;simp only[List.length_append,aZ,List.map_nil,List.sum_nil];omega
 | x::l,out,n,h=>by
  rw[nU] at h ⊢;split at h
  ·cases h
  ·rename_i hle;rw[if_neg hle,Da l _ _ h,List.length_append,List.map_cons,List.sum_cons]
   show _+(iD x).length+_+9=_+((iD x).length+_)+9
   omega
theorem Np {l:List It} (h:(cK l).2=0) (hf:l.all lW=true):(l.map sK).sum≤4194304:=by
 have hb:=(nM h hf).2.1;unfold cK at h hb;split at h
 ·cases h
 ·rename_i h1;rw[if_neg h1] at hb;split at h
  ·rename_i h2;rw[if_pos h2,Da l _ _ h] at hb;omega
  ·cases h
theorem Jt {a b:List It} (fa:a.all lW=true) (fb:b.all lW=true) (ha:(cK a).2=0) (hb:(cK b).2=0) :
  (jg a b).2=0∧(jg a b).1.length≤16777216∧(∀x∈(jg a b).1,0≤x∧x≤255)∧mP a (jg a b).1=(b,0):=by
 have pa:=lX ha;have pb:=lX hb
 have e:jg a b=gL (jl (cK a).1) (jl (cK b).1) (jw a b):=by
  unfold jg;rw[if_neg (fun h=>h ha),if_neg (fun h=>h hb)]
 have hsa:=pI (nM ha fa).2.2;have hsb:=pI (nM hb fb).2.2
 have hlen:(jw a b).length≤8192:=by
  have h1:=zG (lZ a b) [];have h2:=Two.length (L:=kH a b) (Two.jO (kH a b) (fun _=>0)) (fun _=>0);have h3:Two.jO (kH a b) (fun _=>0)=a.length+b.length:=rfl;have h4:(lZ a b).length≤a.length+b.length:=h3▸h2;have h5:(jw a b).length≤([]:List Ch).length+(lZ a b).length:=h1;simp only[List.length_nil,Nat.zero_add] at h5;omega
 have hz:(gL (jl (cK a).1) (jl (cK b).1) (jw a b)).2=0:=by
  unfold gL;rw[if_neg (by omega),if_pos (by unfold rQ;rw[decide_eq_true hsa.1,decide_eq_true hsa.2,decide_eq_true hsb.1,decide_eq_true hsb.2,KV pa.2 pb.2];rfl)];refine Bg _ _ _ ?_;have h1:=Nn pa.2 pb.2 (lZ a b) (fun r hr=>(Two.here hr).2);have h2:=FT sK (L:=kH a b) (Two.jO (kH a b) (fun _=>0)) (fun _=>0);have e1:dr (kH a b) (fun _=>0) 0=a:=rfl;have e2:dr (kH a b) (fun _=>0) 1=b:=rfl;rw[e1,e2] at h2;have h2':((lZ a b).map (fun r=>TT sK r.2.1)).sum≤(a.map sK).sum∧((lZ a b).map (fun r=>TT sK r.2.2)).sum≤(b.map sK).sum:=h2;have h3:=Np ha fa;have h4:=Np hb fb;rw[pF];simp only[List.length_append,aZ];have h5:iE.length=8:=rfl;omega
 obtain⟨_,_,_,hl4⟩:=wO hz;have hft:∀c∈jw a b,tH c:=xD ha hb fa fb _ [] (fun r hr=>Two.here hr) (by simp);rw[e];refine⟨hz,hl4,EC hft,?_⟩;unfold mP jG;rw[if_neg (fun h=>h ha),Sz hz];dsimp only;rw[if_neg (fun h=>h rfl),EN pa.2 pb.2 (fun x hx=>rO (List.all_eq_true.1 fa x hx)) (fun x hx=>rO (List.all_eq_true.1 fb x hx))];dsimp only;rw[e,if_neg (by rw[hz];decide),if_pos rfl]
theorem VI {a b:List It} (h:¬((cK a).2=0∧(cK b).2=0)):(jg a b).2≠0∧(jg a b).1=[]:=by
 unfold jg;by_cases ha:(cK a).2≠0
 ·rw[if_pos ha];exact⟨ha,rfl⟩
 ·rw[if_neg ha];by_cases hb:(cK b).2≠0
  ·rw[if_pos hb];exact⟨hb,rfl⟩
  ·exact absurd ⟨Decidable.not_not.1 ha,Decidable.not_not.1 hb⟩ h
def vF:It:=⟨2,⟨#[47,100]⟩,⟨#[]⟩,0,[],[]⟩
def zq:List Int:=[118,108,112,97,116,99,104,1,248,16,120,206,14,116,215,206,2,2,2,0,47,100,0,1,0,0,0,24,215,104,152]
theorem FU:jg [] [vF]=(zq,0):=by kernel_rfl
theorem FV:(cK [vF]).2=0∧(cK []).2=0:=by
 refine⟨?_,?_⟩ <;> kernel_rfl
theorem Nq:mP [] zq=([vF],0):=by
 have h:=Jt (a:=[]) (b:=[vF]) (by rfl) (by rfl) FV.2 FV.1;rw[FU] at h;exact h.2.2.2
theorem VJ:Ev (fun k=>fq.f k) true:=by
 refine Ev.bind (a:=jg [] [vF]) (Ev.congr (fun k=>?_) (Ev.now _)) ?_
 ·unfold eU.f;rw[if_pos ⟨by rfl,by rfl⟩];rfl
 rw[FU];refine Ev.bind (KE zq (by decide)) ?_;refine Ev.bind (a:=([vF],0)) (Ev.congr (fun k=>?_) (Ev.now _)) ?_
 ·unfold d9.f;rw[if_pos ⟨by rfl,by rfl⟩,Nq]
 refine Ev.congr (fun k=>?_) (Ev.now _);have h1:bI.f 0=some 0:=rfl
 have h2:dw.f zq zq=some true:=by unfold dw.f;simp
 have h3:=yH vF
 show ((bI.f 0).bind fun sJ=>_)=_
 rw[h1,Option.bind_some,if_pos rfl]
 show ((dw.f zq zq).bind fun vD=>_)=_
 rw[h2,Option.bind_some,if_pos rfl,Option.bind_some,if_pos rfl,if_pos (by rfl),if_pos (by decide)]
 show ((bJ.f vF.f0 vF.f1 vF.f2 vF.f3 vF.f4 vF.f5 vF.f0 vF.f1 vF.f2 vF.f3 vF.f4 vF.f5).bind fun t=>some t)=_
 rw[h3];rfl
end Go.Proofs.YtknihldkhedpkaaGreatDoor
end
