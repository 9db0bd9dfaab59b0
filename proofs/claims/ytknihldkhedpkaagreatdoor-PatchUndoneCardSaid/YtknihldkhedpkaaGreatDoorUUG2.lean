import Derived.Test.YtknihldkhedpkaaGreatDoorUUG1
set_option linter.all false
set_option maxHeartbeats 16000000
set_option maxRecDepth 100000
section
namespace Go.Proofs.YtknihldkhedpkaaGreatDoor.PT
open Go.RowKit Go.Proofs.YtknihldkhedpkaaGreatDoorW.PrintWords Go.Proofs.YtknihldkhedpkaaGreatDoorW.PrintLast Go.Proofs.YtknihldkhedpkaaGreatDoorW.PrintMore
attribute [local go_sem] oJ oK rC rD mW mX oL oM
def qA.f (l0:List (dI)) (a1:Int):Option ((List (dI))):=if (l0.length:Int) > 0 then (if 0≤(wrap64 ((l0.length:Int) - 1)) then (if (wrap64 ((l0.length:Int) - 1))<(l0.length:Int) then (if ((aK l0 (wrap64 ((l0.length:Int) - 1))).f1)=a1 then (some (l0.set ((wrap64 ((l0.length:Int) - 1)):Int).toNat (⟨(aK l0 (wrap64 ((l0.length:Int) - 1))).f0,wrap64 (((aK l0 (wrap64 ((l0.length:Int) - 1))).f1)+1)⟩:dI))) else (if l0.length<8796093022208 then (some (l0++[(⟨a1,wrap64 (a1+1)⟩:dI)])) else (none))) else (none)) else (none)) else (if l0.length<8796093022208 then (some (l0++[(⟨a1,wrap64 (a1+1)⟩:dI)])) else (none))
theorem qA.calls (QA:Nat→Prop) (QB:Value) (l0:List (dI)) (a1:Int) (r:List (dI)) (w0 w:World) (hB:Below w0.heap.size w0 w) (ho0:Kd.R dB 117 w w0.heap.size QA QB l0) (h:qA.f l0 a1=some r) :
  Calls Tryz.prog 92 #[QB,.int .i64 a1] w fun e w'=>∃xq:Value,e=.returned (xq)∧Kd.R dB 117 w' w0.heap.size (fun k_=>(QA k_∨w.heap.size≤k_)) xq r∧Below w0.heap.size w0 w'∧Kept w w' (fun k_=>QA k_):=by
 have SA:=Tryz.underlying117;have DU:=ah.mk (show Kd.R dB 117 w w0.heap.size (fun k_=>(QA k_∨w.heap.size≤k_)) QB l0 from Kd.dU ho0 (fun k_ hk=>(.inl hk)));have HK:=ah.mk (Kept.refl w (fun k_=>QA k_));have HW0:=ah.mk hB.size;have HB:=ah.mk hB;clear hB;have H:(if (l0.length:Int) > 0 then (if 0≤(wrap64 ((l0.length:Int) - 1)) then (if (wrap64 ((l0.length:Int) - 1))<(l0.length:Int) then (if ((aK l0 (wrap64 ((l0.length:Int) - 1))).f1)=a1 then (some (l0.set ((wrap64 ((l0.length:Int) - 1)):Int).toNat (⟨(aK l0 (wrap64 ((l0.length:Int) - 1))).f0,wrap64 (((aK l0 (wrap64 ((l0.length:Int) - 1))).f1)+1)⟩:dI))) else (if l0.length<8796093022208 then (some (l0++[(⟨a1,wrap64 (a1+1)⟩:dI)])) else (none))) else (none)) else (none)) else (if l0.length<8796093022208 then (some (l0++[(⟨a1,wrap64 (a1+1)⟩:dI)])) else (none)))=some r:=h;clear h;by_cases c3:(l0.length:Int) > 0
 ·rw[if_pos c3] at H;have o9:decide (0<(l0.length:Int))=true:=decide_eq_true c3;have Aj:decide (0<l0.length)=true:=decide_eq_true aj;clear c3
  obtain⟨sJ,WS⟩:∃j_:Int,(wrap64 ((l0.length:Int) - 1))=j_:=⟨_,rfl⟩
  replace H:(if 0≤(sJ) then (if (sJ)<(l0.length:Int) then (if ((aK l0 (sJ)).f1)=a1 then (some (l0.set ((sJ):Int).toNat (⟨(aK l0 (sJ)).f0,wrap64 (((aK l0 (sJ)).f1)+1)⟩:dI))) else (if l0.length<8796093022208 then (some (l0++[(⟨a1,wrap64 (a1+1)⟩:dI)])) else (none))) else (none)) else (none))=some r:=by first|(rw[WS] at H;exact H)|(simp only[WS] at H ⊢;exact H)
  have apw:(IntKind.i64.wrap ((l0.length:Int) - 1))=sJ:=(dn _).trans WS
  by_cases c5:0≤(sJ)
  ·rw[if_pos c5] at H;have Gc:decide (0≤(sJ))=true:=decide_eq_true c5;clear c5
   by_cases c6:(sJ)<(l0.length:Int)
   ·rw[if_pos c6] at H;have QC:decide ((sJ)<(l0.length:Int))=true:=decide_eq_true c6;clear c6;by_cases c7:((aK l0 (sJ)).f1)=a1
    ·rw[if_pos c7] at H;have Zy:(((aK l0 (sJ)).f1) == a1)=true:=beq_iff_eq.mpr c7;have ady:(((aK l0 (sJ)).f1) != a1)=false:=bne_eq_false_iff_eq.mpr c7;clear c7
     obtain⟨agV,Oo⟩:∃y_:List (dI),y_=(l0.set ((sJ):Int).toNat (⟨(aK l0 (sJ)).f0,wrap64 (((aK l0 (sJ)).f1)+1)⟩:dI)):=⟨_,rfl⟩
     replace H:(some agV)=some r:=by first|(rw[Oo];with_reducible exact H)|(have Ai:=(Option.bind_some _ _).symm.trans H;rw[Oo];with_reducible exact Ai)|(have Ai:=(Option.bind_some _ _).symm.trans H;with_reducible exact Ai)|with_reducible exact H|(rw[Oo];exact H)|exact H
     have agW:=ah.mk Oo;clear Oo;obtain rfl:=Option.some.inj H;obtain⟨Ji,Gg,Yu⟩:=Kd.bG DU.out;subst Yu;have QD:0≤((sJ):Int):=of_decide_eq_true bS;have QF:(sJ)<(l0.length:Int):=of_decide_eq_true bS;obtain⟨WT,adz,Tg,Ti⟩:=dP (Kd.bT DU.out).2.2 (sJ) QD QF;cases adz;replace QD:=eq_true QD;replace QF:=eq_true QF;have adA:0≤((sJ):Int):=of_decide_eq_true bS;have adB:(sJ)<(l0.length:Int):=of_decide_eq_true bS;obtain⟨agX,e143,Zz,ZA⟩:=dP (Kd.bT DU.out).2.2 (sJ) adA adB
     obtain rfl:WT=agX:=(by injection e143)
     replace adA:=eq_true adA;replace adB:=eq_true adB;have p8:0≤((sJ):Int):=of_decide_eq_true bS;have q8:((sJ):Int)<((l0.length:Int):Int):=of_decide_eq_true bS;obtain⟨Yv,co8,eo8,gb8,gl8,cl8,HG8⟩:=Kd.adC DU.out aj
     (first|cases eo8|(injection eo8 with ea_ en_ ec_;(first|subst ea_|(injection ea_ with ea_;subst ea_));subst ec_;clear en_))
     have GB8:=ah.mk gb8;have GG8:=ah.mk HG8;clear gb8 gl8 HG8;have apz:=ah.mk (show (QA Yv∨w.heap.size≤Yv) from (DU.out.1 _ rfl))
     (first|simp only[add_plain] at Tg|skip)
     (first|simp only[add_plain] at Ti|skip)
     (first|simp only[add_plain] at Zz|skip)
     (first|simp only[add_plain] at ZA|skip)
     obtain⟨ce8,amI,hM8,adD,adE⟩:=Kd.QG DU.out z117 ((sJ):Int) p8 q8;obtain rfl:=Fa hM8;have apB:w.cell? ⟨Yv,((sJ):Int).toNat*2,none⟩=some (.int .i64 ((aK l0 (sJ)).f0)):=adD 0 _ rfl;have apC:w.cell? ⟨Yv,((sJ):Int).toNat*2+1,none⟩=some (.int .i64 ((aK l0 (sJ)).f1)):=adD 1 _ rfl;have apD:w.frozen? ⟨Yv,((sJ):Int).toNat*2,none⟩=false:=adE 0;have apE:w.frozen? ⟨Yv,((sJ):Int).toNat*2+1,none⟩=false:=adE 1;clear amI adD adE hM8;replace p8:=eq_true p8;replace q8:=eq_true q8;have agY:=ah.mk (show Kd.R dB 117 w w0.heap.size (fun k_=>(QA k_∨w.heap.size≤k_)) (.slice (some ⟨Yv,0,none⟩) l0.length Gg) l0 from (by (with_reducible repeat (first|apply Kd.dJ|apply Kd.dK|apply Kd.dY));exact DU.out));obtain⟨asj,abZ,agZ,WU,ab0⟩:=Kd.QG agY.out z117 ((sJ):Int) (of_decide_eq_true bS) (by have h_:((sJ):Int)<((l0.length:Int):Int):=of_decide_eq_true bS;first|exact h_|(have e_:=(Kd.bT DU.out).1;omega)|simpa using h_);obtain rfl:=Fa agZ;have P6:=Kd.ag0 agY.out ((sJ):Int) (of_decide_eq_true bS) (by have h_:((sJ):Int)<((l0.length:Int):Int):=of_decide_eq_true bS;first|exact h_|(have e_:=(Kd.bT DU.out).1;omega)|simpa using h_) (seg:=[.int .i64 (wrap64 (((aK l0 (sJ)).f1)+1))]) (j:=1) abZ WU (show 2≤2 from by decide) (x':=(⟨(aK l0 (sJ)).f0,wrap64 (((aK l0 (sJ)).f1)+1)⟩:dI)) (wY _ _ _ (⟨(aK l0 (sJ)).f0,wrap64 (((aK l0 (sJ)).f1)+1)⟩:dI) ) (fun _ hk=>hk);have adF:=WU 1 _ rfl
     (try simp only[show (dB).sz=2 from rfl,Nat.mul_one,Nat.add_zero] at adF)
     have adG:=ab0 1
     (try simp only[show (dB).sz=2 from rfl,Nat.mul_one,Nat.add_zero] at adG)
     clear abZ WU ab0 agZ
     go_enter Tryz.func92,Tryz.ntmps92
     go_wp2_with (first|((with_reducible refine QH (t:=3) (p:=28) rfl ?_);refine Oq (t:=3) (p:=28) (v:=?amJ) (w1:=(w.setCell ⟨Yv,((sJ):Int).toNat*2+1,none⟩ (.int .i64 (wrap64 (((aK l0 (sJ)).f1)+1))))) ?hg ?ho ?hn ?hr ?_;(case ho=>rfl);(case hg=>rfl);(case hn=>rfl);(case hr=>first|(go_simp;done)|(go_simp;rfl));intro FJ hw;have hg:w.grownBy FJ (some Yv):=(by rw[hw];exact P6.2);have hp_:Kd.R dB 117 FJ w0.heap.size (fun k_=>(QA k_∨w.heap.size≤k_)) (.slice (some ⟨Yv,0,none⟩) l0.length Gg) agV:=(by rw[hw,agW.out];exact P6.1);clear P6;have fD:=ah.mk (hp_);have gy:=ah.mk ((by rw[hw];exact aR (HB.out) GB8.out:Below w0.heap.size w0 FJ));have iE:=ah.mk (Kept.BG (S:=(fun k_=>QA k_)) hg (by repeat (first|(with_reducible first|exact HK.out|apply Kept.alloc|apply Kept.drewN|apply Kept.drew)|exact HK.out)) (fun k_ e_=>(DU.out.1 k_ e_)));clear DU;clear HB;clear HK;have DU:=fD;have HB:=gy;have HK:=iE;clear fD gy iE;clear hg hw hp_))
     go_ret
     exact⟨_,by first|rfl|(simp[aX,aY] <;> rfl)|(simp only[← WS];first|rfl|(simp[aX,aY] <;> rfl))|(simp[*,aX,aY] <;> rfl),by (with_reducible repeat (first|apply Kd.dJ|apply Kd.dK|apply Kd.dY));exact DU.out,by repeat (first|(with_reducible first|exact HB.out|apply aH|apply av|apply aI)|exact HB.out),by repeat (first|(with_reducible first|exact HK.out|apply Kept.alloc|apply Kept.drewN|apply Kept.drew)|exact HK.out)⟩
    rw[if_neg c7] at H;have Zy:(((aK l0 (sJ)).f1) == a1)=false:=beq_eq_false_iff_ne.mpr c7;have ady:(((aK l0 (sJ)).f1) != a1)=true:=bne_iff_ne.mpr c7;by_cases c12:l0.length<8796093022208
    ·rw[if_pos c12] at H;have ag1:=ah.mk c12;clear c12
     obtain⟨amK,Ot⟩:∃y_:List (dI),y_=(l0++[(⟨a1,wrap64 (a1+1)⟩:dI)]):=⟨_,rfl⟩
     replace H:(some amK)=some r:=by first|(rw[Ot];with_reducible exact H)|(have Ai:=(Option.bind_some _ _).symm.trans H;rw[Ot];with_reducible exact Ai)|(have Ai:=(Option.bind_some _ _).symm.trans H;with_reducible exact Ai)|with_reducible exact H|(rw[Ot];exact H)|exact H
     have ag2:=ah.mk Ot;clear Ot;obtain rfl:=Option.some.inj H;obtain⟨asl,amL,amM⟩:=Kd.bG DU.out;subst amM;have QD:0≤((sJ):Int):=of_decide_eq_true bS;have QF:(sJ)<(l0.length:Int):=of_decide_eq_true bS;obtain⟨WT,adz,Tg,Ti⟩:=dP (Kd.bT DU.out).2.2 (sJ) QD QF;cases adz;replace QD:=eq_true QD;replace QF:=eq_true QF
     go_enter Tryz.func92,Tryz.ntmps92
     go_wp2_with (first|((with_reducible refine dx (b:=.append) (xs:=#[.tmp 30,.tmp 35]) rfl ?_);at_builtin;refine Kd.mP dB (w0:=w0) w0.heap.size rfl (.tmp 30) (.tmp 35) 26 117 (.agg #[(.int .i64 0),(.int .i64 0)]) 16 rfl Tryz.underlying26 EF rfl aD aj (.slice (some WT) l0.length amL) l0 (⟨a1,wrap64 (a1+1)⟩:dI) [.int .i64 a1,.int .i64 (wrap64 (a1+1))] (fun k_=>(QA k_∨w.heap.size≤k_)) (fun _=>False) rfl rfl ?aP (fun _ hk=>hk.elim) ?aF ?aO ?aB ?aS ?aL ?_;(case aP=>exact wY _ _ _ (⟨a1,wrap64 (a1+1)⟩:dI));(case aB=>exact dL);(case aF=>exact (fun k_ hk=>(.inr (Nat.le_trans (by first|exact HK.out.1|exact (show Kept w _ (fun k_=>QA k_) from by repeat (first|(with_reducible first|exact HK.out|apply Kept.alloc|apply Kept.drewN|apply Kept.drew)|exact HK.out)).1) hk))));(case aO=>exact (by (with_reducible repeat (first|apply Kd.dJ|apply Kd.dK|apply Kd.dY));exact DU.out));(case aS=>exact (bB dL));(case aL=>have:=ag1.out;omega);intro v146 w14 ho hb hg hat;rw[← ag2.out] at ho;have fD:=ah.mk (hb);have gy:=ah.mk (Kept.BG (S:=(fun k_=>QA k_)) hg (by repeat (first|(with_reducible first|exact HK.out|apply Kept.alloc|apply Kept.drewN|apply Kept.drew)|exact HK.out)) (fun k_ e_=>(DU.out.1 k_ e_)));have iE:=ah.mk (ho);clear HB;clear HK;clear DU;have HB:=fD;have HK:=gy;have ag3:=iE;clear fD gy iE;clear ho hb hg hat))
     go_ret
     exact⟨_,by first|rfl|(simp[aX,aY] <;> rfl)|(simp only[← WS];first|rfl|(simp[aX,aY] <;> rfl))|(simp[*,aX,aY] <;> rfl),by (with_reducible repeat (first|apply Kd.dJ|apply Kd.dK|apply Kd.dY));exact ag3.out,by repeat (first|(with_reducible first|exact HB.out|apply aH|apply av|apply aI)|exact HB.out),by repeat (first|(with_reducible first|exact HK.out|apply Kept.alloc|apply Kept.drewN|apply Kept.drew)|exact HK.out)⟩
    rw[if_neg c12] at H;exact absurd H bK
   rw[if_neg c6] at H;exact absurd H bK
  rw[if_neg c5] at H;exact absurd H bK
 rw[if_neg c3] at H;have o9:decide (0<(l0.length:Int))=false:=decide_eq_false c3;have Aj:decide (0<l0.length)=false:=decide_eq_false aj;clear c3;by_cases c15:l0.length<8796093022208
 ·rw[if_pos c15] at H;have ag4:=ah.mk c15;clear c15
  obtain⟨amN,Ou⟩:∃y_:List (dI),y_=(l0++[(⟨a1,wrap64 (a1+1)⟩:dI)]):=⟨_,rfl⟩
  replace H:(some amN)=some r:=by first|(rw[Ou];with_reducible exact H)|(have Ai:=(Option.bind_some _ _).symm.trans H;rw[Ou];with_reducible exact Ai)|(have Ai:=(Option.bind_some _ _).symm.trans H;with_reducible exact Ai)|with_reducible exact H|(rw[Ou];exact H)|exact H
  have ag5:=ah.mk Ou;clear Ou;obtain rfl:=Option.some.inj H;obtain⟨amO,amP,amQ⟩:=Kd.bG DU.out;subst amQ
  go_enter Tryz.func92,Tryz.ntmps92
  go_wp2_with (first|((with_reducible refine dx (b:=.append) (xs:=#[.tmp 30,.tmp 35]) rfl ?_);at_builtin;refine Kd.mP dB (w0:=w0) w0.heap.size rfl (.tmp 30) (.tmp 35) 26 117 (.agg #[(.int .i64 0),(.int .i64 0)]) 16 rfl Tryz.underlying26 EF rfl aD aj (.slice amO l0.length amP) l0 (⟨a1,wrap64 (a1+1)⟩:dI) [.int .i64 a1,.int .i64 (wrap64 (a1+1))] (fun k_=>(QA k_∨w.heap.size≤k_)) (fun _=>False) rfl rfl ?aP (fun _ hk=>hk.elim) ?aF ?aO ?aB ?aS ?aL ?_;(case aP=>exact wY _ _ _ (⟨a1,wrap64 (a1+1)⟩:dI));(case aB=>exact dL);(case aF=>exact (fun k_ hk=>(.inr (Nat.le_trans (by first|exact HK.out.1|exact (show Kept w _ (fun k_=>QA k_) from by repeat (first|(with_reducible first|exact HK.out|apply Kept.alloc|apply Kept.drewN|apply Kept.drew)|exact HK.out)).1) hk))));(case aO=>exact (by (with_reducible repeat (first|apply Kd.dJ|apply Kd.dK|apply Kd.dY));exact DU.out));(case aS=>exact (bB dL));(case aL=>have:=ag4.out;omega);intro aso w17 ho hb hg hat;rw[← ag5.out] at ho;have fD:=ah.mk (hb);have gy:=ah.mk (Kept.BG (S:=(fun k_=>QA k_)) hg (by repeat (first|(with_reducible first|exact HK.out|apply Kept.alloc|apply Kept.drewN|apply Kept.drew)|exact HK.out)) (fun k_ e_=>(DU.out.1 k_ e_)));have iE:=ah.mk (ho);clear HB;clear HK;clear DU;have HB:=fD;have HK:=gy;have ag7:=iE;clear fD gy iE;clear ho hb hg hat))
  go_ret
  exact⟨_,by first|rfl|(simp[aX,aY] <;> rfl)|(simp[*,aX,aY] <;> rfl),by (with_reducible repeat (first|apply Kd.dJ|apply Kd.dK|apply Kd.dY));exact ag7.out,by repeat (first|(with_reducible first|exact HB.out|apply aH|apply av|apply aI)|exact HB.out),by repeat (first|(with_reducible first|exact HK.out|apply Kept.alloc|apply Kept.drewN|apply Kept.drew)|exact HK.out)⟩
 rw[if_neg c15] at H;exact absurd H bK
def bL.f (a0:Int):Option (Int):=some a0
theorem bL.calls (a0:Int) (r:Int) (w:World) (h:bL.f a0=some r) :
  Calls Tryz.prog 21 #[.int .i64 a0] w fun e w'=>e=.returned (.int .i64 r)∧bH w w':=by
 have H:(some a0)=some r:=h;clear h;obtain rfl:=Option.some.inj H
 go_enter Tryz.func21,Tryz.ntmps21
 go_wp2
 go_ret
 exact⟨by first|rfl|(simp;done)|(simp[*];done),by repeat (first|exact bH.refl _|apply bH.step)⟩
def aV.l0:Nat→List Int→List Int→Int→Option (List Int)
 | 0,_,_,_=>none
 | k+1,x0,x3,x4=>if x4<(x0.length:Int) then (if 0≤x4 then (if x3.length<140737488355328 then (aV.l0 k x0 (x3++[rd x0 x4]) (wrap64 (x4+1))) else (none)) else (none)) else (some x3)
def aV.f (k:Nat) (l0:List Int):Option (List Int):=aV.l0 k l0 ([]:List Int) 0
theorem aV.fC:∀k,(∀y0 y1 y2,bW (aV.l0 k y0 y1 y2) (aV.l0 (k+1) y0 y1 y2))
 | 0=>fun _ _ _ r h=>by simp[aV.l0] at h
 | k+1=>by
  have j6:=aV.fC k
  ·intro y0 y1 y2;unfold aV.l0
   repeat' first
   | (with_reducible exact j6 _ _ _)
   | (with_reducible exact bW.refl _)
   | (with_reducible exact bW.none _)
   | (with_reducible refine bW.ite ?_ ?_)
   | (with_reducible refine bW.bind ?_ (fun _=>?_))
   | exact j6 _ _ _
   | exact bW.none _
   | refine bW.ite ?_ ?_
   | refine bW.bind ?_ (fun _=>?_)
theorem aV.mono:∀a0 k,bW (aV.f k a0) (aV.f (k+1) a0):=by
 intro a0 k;have j6:=aV.fC k;unfold aV.f
 repeat' first
   | (with_reducible exact j6 _ _ _)
   | (with_reducible exact bW.refl _)
   | (with_reducible exact bW.none _)
   | (with_reducible refine bW.ite ?_ ?_)
   | (with_reducible refine bW.bind ?_ (fun _=>?_))
   | exact j6 _ _ _
   | exact bW.none _
   | refine bW.ite ?_ ?_
   | refine bW.bind ?_ (fun _=>?_)
theorem aV.calls (k:Nat) (A0:Option Addr) (c0:Nat) (l0:List Int) (r:List Int) (w:World) (hr0:Kd.C (Kd.int .u8) w A0 l0.length l0) (hc0:l0.length≤c0) (h:aV.f k l0=some r) :
  Calls Tryz.prog 23 #[.slice A0 l0.length c0] w fun e w'=>∃xq:Value,e=.returned (xq)∧Kd.R (Kd.int .u8) 5 w' w.heap.size (fun _=>True) xq r∧Below w.heap.size w w':=by
 have qP:=ah.mk hr0;have Qp:=ah.mk hc0;clear hr0 hc0;have HB:=ah.mk (Below.refl w.heap.size w);have H:(aV.l0 k l0 ([]:List Int) 0)=some r:=h;clear h;have H':=ah.mk H;clear H
 go_enter Tryz.func23,Tryz.ntmps23
 go_wp2
 go_loopg [3,4] k (fun kq v3 v4 w'=>∃(nK:List Int) (eZ:Int),v4=.int .i64 eZ∧ah (aV.l0 kq l0 nK eZ=some r)∧ah (kq≤k)∧ah (Kd.R (Kd.int .u8) 5 w' w.heap.size (fun _=>True) v3 nK)∧ah (Below w.heap.size w w'))
 case atStart=>exact⟨(([]:List Int)),(0),eG,H',⟨Nat.le_refl _⟩,⟨by first|exact Kd.eY _ _ _ _ _|exact Kd.Ob _ _ _ _ _|exact Kd.Oc _ _ _ _ _|exact Kd.Od _ _ _ _ _|exact Kd.Gd _ _ _ _ _⟩,⟨by repeat (first|(with_reducible first|exact HB.out|apply aH|apply av|apply aI)|exact HB.out)⟩⟩
 case round=>
  clear H';obtain⟨nK,eZ,rfl,HA,jY,wQ,HB⟩:=hrel
  cases gk with
  | zero=>exact absurd HA.out (by simp[aV.l0])
  | succ k1=>
   have H:=HA.out;clear HA;simp only[aV.l0] at H
   by_cases c2:eZ<(l0.length:Int)
   ·rw[if_pos c2] at H;have Jh:decide (eZ<(l0.length:Int))=true:=decide_eq_true c2;clear c2;by_cases c3:0≤eZ
    ·rw[if_pos c3] at H;have o9:decide (0≤eZ)=true:=decide_eq_true c3;clear c3;by_cases c4:nK.length<140737488355328
     ·rw[if_pos c4] at H;have adp:=ah.mk c4;clear c4
      obtain⟨ag8,Ov⟩:∃y_:List Int,y_=(nK++[rd l0 eZ]):=⟨_,rfl⟩
      replace H:(aV.l0 k1 l0 ag8 (wrap64 (eZ+1)))=some r:=by first|(rw[Ov];with_reducible exact H)|(have Ai:=(Option.bind_some _ _).symm.trans H;rw[Ov];with_reducible exact Ai)|(have Ai:=(Option.bind_some _ _).symm.trans H;with_reducible exact Ai)|with_reducible exact H|(rw[Ov];exact H)|exact H
      have ag9:=ah.mk Ov;clear Ov;have H':=ah.mk H;clear H;have adH:0≤(eZ:Int):=of_decide_eq_true bS;have adI:eZ<(l0.length:Int):=of_decide_eq_true bS;obtain⟨apG,amR,LJ⟩:=Kd.qx qP.out eZ adH adI;cases amR;replace LJ:=(HB.out.cell (World.block_lt_of_cell? w _ LJ)).trans LJ;replace adH:=eq_true adH;replace adI:=eq_true adI
      go_wp2_with (first|((with_reducible refine dx (b:=.append) (xs:=#[.tmp 11,.tmp 16]) rfl ?_);at_builtin;refine Kd.mP (Kd.int .u8) (w0:=w) w.heap.size rfl (.tmp 11) (.tmp 16) 27 5 (.int .u8 0) 1 rfl Tryz.underlying27 info5 rfl aD aj u3 nK (rd l0 eZ) [.int .u8 (rd l0 eZ)] (fun _=>True) (fun _=>False) rfl rfl ?aP (fun _ hk=>hk.elim) ?aF ?aO ?aB ?aS ?aL ?_;(case aP=>exact rfl);(case aB=>exact dL);(case aF=>exact (fun _ _=>trivial));(case aO=>exact (by (with_reducible repeat (first|apply Kd.dJ|apply Kd.dK|apply Kd.dY));exact wQ.out));(case aS=>exact (bB dL));(case aL=>have:=adp.out;omega);intro asq w5 ho hb hg hat;rw[← ag9.out] at ho;have fD:=ah.mk (hb);have gy:=ah.mk (ho);clear HB;clear wQ;have HB:=fD;have aha:=gy;clear fD gy;clear ho hb hg hat))
      go_roundg k1
      case measure=>have:=jY.out;omega
      case rel=>exact⟨(ag8),(wrap64 (eZ+1)),eG,H',⟨by have:=jY.out;omega⟩,⟨by (with_reducible repeat (first|apply Kd.dJ|apply Kd.dK|apply Kd.dY));exact aha.out⟩,⟨by repeat (first|(with_reducible first|exact HB.out|apply aH|apply av|apply aI)|exact HB.out)⟩⟩
     rw[if_neg c4] at H;exact absurd H bK
    rw[if_neg c3] at H;exact absurd H bK
   rw[if_neg c2] at H;have Jh:decide (eZ<(l0.length:Int))=false:=decide_eq_false c2;clear c2;obtain rfl:=Option.some.inj H
   go_wp2
   go_ret
   exact⟨_,by first|rfl|(simp[aX,aY] <;> rfl)|(simp[*,aX,aY] <;> rfl),by (with_reducible repeat (first|apply Kd.dJ|apply Kd.dK|apply Kd.dY));exact wQ.out,by repeat (first|(with_reducible first|exact HB.out|apply aH|apply av|apply aI)|exact HB.out)⟩
def dH.f (l0:List Int) (l1:List Int):Option (Bool):=some ((strOfNums l0).toList == (strOfNums l1).toList)
theorem dH.calls (A0:Option Addr) (c0:Nat) (l0:List Int) (A1:Option Addr) (c1:Nat) (l1:List Int) (r:Bool) (w:World) (hr0:Kd.C (Kd.int .u8) w A0 l0.length l0) (hc0:l0.length≤c0) (hr1:Kd.C (Kd.int .u8) w A1 l1.length l1) (hc1:l1.length≤c1) (h:dH.f l0 l1=some r) :
  Calls Tryz.prog 25 #[.slice A0 l0.length c0,.slice A1 l1.length c1] w fun e w'=>e=.returned (.bool r)∧bH w w':=by
 have qP:=ah.mk hr0;have Qp:=ah.mk hc0;clear hr0 hc0;have HR1:=ah.mk hr1;have I8:=ah.mk hc1;clear hr1 hc1;have H:(some ((strOfNums l0).toList == (strOfNums l1).toList))=some r:=h;clear h;obtain rfl:=Option.some.inj H;have amS:=Kd.qH (P:=Tryz.prog) (A:=A0) (c:=c0) Tryz.underlying27 Tryz.underlying5 Tryz.underlying9 qP.out;have amT:=Kd.qH (P:=Tryz.prog) (A:=A1) (c:=c1) Tryz.underlying27 Tryz.underlying5 Tryz.underlying9 HR1.out
 go_enter Tryz.func25,Tryz.ntmps25
 go_wp2
 go_ret
 exact⟨by first|rfl|(simp;done)|(simp[*];done),by repeat (first|exact bH.refl _|apply bH.step)⟩
def bn.l0:Nat→List (dI)→List (dI)→Int→Option (Bool)
 | 0,_,_,_=>none
 | k+1,x0,x1,x5=>if x5<(x0.length:Int) then (if 0≤x5 then (if x5<(x1.length:Int) then (if ((aK x0 x5).f0)=((aK x1 x5).f0) then (if ((aK x0 x5).f1)=((aK x1 x5).f1) then (bn.l0 k x0 x1 (wrap64 (x5+1))) else (some false)) else (some false)) else (none)) else (none)) else (some true)
def bn.f (k:Nat) (l0:List (dI)) (l1:List (dI)):Option (Bool):=if (l0.length:Int)=(l1.length:Int) then (bn.l0 k l0 l1 0) else (some false)
theorem bn.fC:∀k,(∀y0 y1 y2,bW (bn.l0 k y0 y1 y2) (bn.l0 (k+1) y0 y1 y2))
 | 0=>fun _ _ _ r h=>by simp[bn.l0] at h
 | k+1=>by
  have j6:=bn.fC k
  ·intro y0 y1 y2;unfold bn.l0
   repeat' first
   | (with_reducible exact j6 _ _ _)
   | (with_reducible exact bW.refl _)
   | (with_reducible exact bW.none _)
   | (with_reducible refine bW.ite ?_ ?_)
   | (with_reducible refine bW.bind ?_ (fun _=>?_))
   | exact j6 _ _ _
   | exact bW.none _
   | refine bW.ite ?_ ?_
   | refine bW.bind ?_ (fun _=>?_)
theorem bn.mono:∀a0 a1 k,bW (bn.f k a0 a1) (bn.f (k+1) a0 a1):=by
 intro a0 a1 k;have j6:=bn.fC k;unfold bn.f
 repeat' first
   | (with_reducible exact j6 _ _ _)
   | (with_reducible exact bW.refl _)
   | (with_reducible exact bW.none _)
   | (with_reducible refine bW.ite ?_ ?_)
   | (with_reducible refine bW.bind ?_ (fun _=>?_))
   | exact j6 _ _ _
   | exact bW.none _
   | refine bW.ite ?_ ?_
   | refine bW.bind ?_ (fun _=>?_)
theorem bn.calls (k:Nat) (A0:Option Addr) (c0:Nat) (l0:List (dI)) (A1:Option Addr) (c1:Nat) (l1:List (dI)) (r:Bool) (w:World) (hr0:Kd.C dB w A0 l0.length l0) (hc0:l0.length≤c0) (hr1:Kd.C dB w A1 l1.length l1) (hc1:l1.length≤c1) (h:bn.f k l0 l1=some r) :
  Calls Tryz.prog 70 #[.slice A0 l0.length c0,.slice A1 l1.length c1] w fun e w'=>e=.returned (.bool r)∧bH w w':=by
 have qP:=ah.mk hr0;have Qp:=ah.mk hc0;clear hr0 hc0;have HR1:=ah.mk hr1;have I8:=ah.mk hc1;clear hr1 hc1;have H:(if (l0.length:Int)=(l1.length:Int) then (bn.l0 k l0 l1 0) else (some false))=some r:=h;clear h
 by_cases c3:(l0.length:Int)=(l1.length:Int)
 ·rw[if_pos c3] at H;have o9:((l0.length:Int) == (l1.length:Int))=true:=beq_iff_eq.mpr c3;have Aj:((l0.length:Int) != (l1.length:Int))=false:=bne_eq_false_iff_eq.mpr c3
  have WV:(l0.length == l1.length)=true:=by first|simpa using c3|(simp at c3 ⊢;omega)
  clear c3;have H':=ah.mk H;clear H
  go_enter Tryz.func70,Tryz.ntmps70
  go_wp2
  repeat (go_quiet (fail);try go_wp2)
  go_loopg [5] k (fun kq v5 w'=>∃(aZ:Int),v5=.int .i64 aZ∧ah (bn.l0 kq l0 l1 aZ=some r)∧ah (kq≤k)∧bH w w')
  case atStart=>exact⟨(0),eG,H',⟨Nat.le_refl _⟩,by repeat (first|exact bH.refl _|apply bH.step)⟩
  case round=>
   clear H'
   try clear c1
   try clear p2
   try clear c3
   try clear o9
   try clear Aj
   try clear WV
   obtain⟨aZ,rfl,HA,jY,⟨m1,rfl⟩⟩:=hrel
   cases gk with
   | zero=>exact absurd HA.out (by simp[bn.l0])
   | succ k1=>
    have H:=HA.out;clear HA;simp only[bn.l0] at H
    by_cases c4:aZ<(l0.length:Int)
    ·rw[if_pos c4] at H;have nL:decide (aZ<(l0.length:Int))=true:=decide_eq_true c4;clear c4;by_cases c5:0≤aZ
     ·rw[if_pos c5] at H;have Gc:decide (0≤aZ)=true:=decide_eq_true c5;clear c5
      by_cases c6:aZ<(l1.length:Int)
      ·rw[if_pos c6] at H;have QC:decide (aZ<(l1.length:Int))=true:=decide_eq_true c6;clear c6
       by_cases c7:((aK l0 aZ).f0)=((aK l1 aZ).f0)
       ·rw[if_pos c7] at H;have Zy:(((aK l0 aZ).f0) == ((aK l1 aZ).f0))=true:=beq_iff_eq.mpr c7;have ady:(((aK l0 aZ).f0) != ((aK l1 aZ).f0))=false:=bne_eq_false_iff_eq.mpr c7;clear c7
        by_cases c8:((aK l0 aZ).f1)=((aK l1 aZ).f1)
        ·rw[if_pos c8] at H;have ZB:(((aK l0 aZ).f1) == ((aK l1 aZ).f1))=true:=beq_iff_eq.mpr c8;have amU:(((aK l0 aZ).f1) != ((aK l1 aZ).f1))=false:=bne_eq_false_iff_eq.mpr c8;clear c8;have H':=ah.mk H;clear H;have Gm:0≤(aZ:Int):=of_decide_eq_true bS;have Gn:aZ<(l0.length:Int):=of_decide_eq_true bS;obtain⟨Tj,WW,Tm,Tn⟩:=dP qP.out aZ Gm Gn;cases WW;replace Gm:=eq_true Gm;replace Gn:=eq_true Gn;have Gp:0≤(aZ:Int):=of_decide_eq_true bS;have Gq:aZ<(l1.length:Int):=of_decide_eq_true bS;obtain⟨Tp,e181,Tq,Tt⟩:=dP HR1.out aZ Gp Gq;cases e181;replace Gp:=eq_true Gp;replace Gq:=eq_true Gq;have QI:0≤(aZ:Int):=of_decide_eq_true bS;have QJ:aZ<(l0.length:Int):=of_decide_eq_true bS;obtain⟨WY,adJ,ZC,ZE⟩:=dP qP.out aZ QI QJ
         obtain rfl:Tj=WY:=(by injection adJ)
         replace QI:=eq_true QI;replace QJ:=eq_true QJ;have QK:0≤(aZ:Int):=of_decide_eq_true bS;have QL:aZ<(l1.length:Int):=of_decide_eq_true bS;obtain⟨WZ,adK,ZF,ZG⟩:=dP HR1.out aZ QK QL
         obtain rfl:Tp=WZ:=(by injection adK)
         replace QK:=eq_true QK;replace QL:=eq_true QL
         go_wp2
         repeat (go_quiet (fail);try go_wp2)
         go_roundg k1
         case measure=>have:=jY.out;omega
         case rel=>exact⟨(wrap64 (aZ+1)),eG,H',⟨by have:=jY.out;omega⟩,by repeat (first|exact bH.refl _|apply bH.step)⟩
        rw[if_neg c8] at H;have ZB:(((aK l0 aZ).f1) == ((aK l1 aZ).f1))=false:=beq_eq_false_iff_ne.mpr c8;have amU:(((aK l0 aZ).f1) != ((aK l1 aZ).f1))=true:=bne_iff_ne.mpr c8;obtain rfl:=Option.some.inj H;have Gm:0≤(aZ:Int):=of_decide_eq_true bS;have Gn:aZ<(l0.length:Int):=of_decide_eq_true bS;obtain⟨Tj,WW,Tm,Tn⟩:=dP qP.out aZ Gm Gn;cases WW;replace Gm:=eq_true Gm;replace Gn:=eq_true Gn;have Gp:0≤(aZ:Int):=of_decide_eq_true bS;have Gq:aZ<(l1.length:Int):=of_decide_eq_true bS;obtain⟨Tp,e181,Tq,Tt⟩:=dP HR1.out aZ Gp Gq;cases e181;replace Gp:=eq_true Gp;replace Gq:=eq_true Gq;have QI:0≤(aZ:Int):=of_decide_eq_true bS;have QJ:aZ<(l0.length:Int):=of_decide_eq_true bS;obtain⟨WY,adJ,ZC,ZE⟩:=dP qP.out aZ QI QJ
        obtain rfl:Tj=WY:=(by injection adJ)
        replace QI:=eq_true QI;replace QJ:=eq_true QJ;have QK:0≤(aZ:Int):=of_decide_eq_true bS;have QL:aZ<(l1.length:Int):=of_decide_eq_true bS;obtain⟨WZ,adK,ZF,ZG⟩:=dP HR1.out aZ QK QL
        obtain rfl:Tp=WZ:=(by injection adK)
        replace QK:=eq_true QK;replace QL:=eq_true QL
        go_wp2
        repeat (go_quiet (fail);try go_wp2)
        go_ret
        exact⟨by first|rfl|(simp;done)|(simp[*];done),by repeat (first|exact bH.refl _|apply bH.step)⟩
       rw[if_neg c7] at H;have Zy:(((aK l0 aZ).f0) == ((aK l1 aZ).f0))=false:=beq_eq_false_iff_ne.mpr c7;have ady:(((aK l0 aZ).f0) != ((aK l1 aZ).f0))=true:=bne_iff_ne.mpr c7;obtain rfl:=Option.some.inj H;have Gm:0≤(aZ:Int):=of_decide_eq_true bS;have Gn:aZ<(l0.length:Int):=of_decide_eq_true bS;obtain⟨Tj,WW,Tm,Tn⟩:=dP qP.out aZ Gm Gn;cases WW;replace Gm:=eq_true Gm;replace Gn:=eq_true Gn;have Gp:0≤(aZ:Int):=of_decide_eq_true bS;have Gq:aZ<(l1.length:Int):=of_decide_eq_true bS;obtain⟨Tp,e181,Tq,Tt⟩:=dP HR1.out aZ Gp Gq;cases e181;replace Gp:=eq_true Gp;replace Gq:=eq_true Gq
       go_wp2
       repeat (go_quiet (fail);try go_wp2)
       go_ret
       exact⟨by first|rfl|(simp;done)|(simp[*];done),by repeat (first|exact bH.refl _|apply bH.step)⟩
      rw[if_neg c6] at H;exact absurd H bK
     rw[if_neg c5] at H;exact absurd H bK
    rw[if_neg c4] at H;have nL:decide (aZ<(l0.length:Int))=false:=decide_eq_false c4;clear c4;obtain rfl:=Option.some.inj H
    go_wp2
    repeat (go_quiet (fail);try go_wp2)
    go_ret
    exact⟨by first|rfl|(simp;done)|(simp[*];done),by repeat (first|exact bH.refl _|apply bH.step)⟩
 rw[if_neg c3] at H;have o9:((l0.length:Int) == (l1.length:Int))=false:=beq_eq_false_iff_ne.mpr c3;have Aj:((l0.length:Int) != (l1.length:Int))=true:=bne_iff_ne.mpr c3
 have WV:(l0.length == l1.length)=false:=by first|simpa using c3|(simp at c3 ⊢;omega)
 obtain rfl:=Option.some.inj H
 go_enter Tryz.func70,Tryz.ntmps70
 go_wp2
 repeat (go_quiet (fail);try go_wp2)
 go_ret
 exact⟨by first|rfl|(simp;done)|(simp[*];done),by repeat (first|exact bH.refl _|apply bH.step)⟩
end Go.Proofs.YtknihldkhedpkaaGreatDoor.PT
end
section
namespace Go.Proofs.YtknihldkhedpkaaGreatDoor
open Go.RowKit
open Go.Proofs.YtknihldkhedpkaaGreatDoorW.PrintWords Go.Proofs.YtknihldkhedpkaaGreatDoorW.PrintLast Go.Proofs.YtknihldkhedpkaaGreatDoor.PT
theorem Tv (l:List Rn) (i:Int) (hl:l.length<8796093022208) (h0:0≤i) (h1:i≤140737488351232):qA.f l i=some (nN l i):=by
 unfold qA.f nN
 have hw:wrap64 (i+1)=i+1:=by unfold wrap64;omega
 rcases List.eq_nil_or_concat l with rfl|⟨l',r,rfl⟩
 ·rw[if_neg bK,if_pos bK,hw];rfl
 rw[List.concat_eq_append] at hl ⊢
 have hlen:(l'++[r]).length=l'.length+1:=by simp
 have hw2:wrap64 (((l'++[r]).length:Int) - 1)=(l'.length:Int):=by rw[hlen] at hl ⊢;unfold wrap64;omega
 have hrd:aK (l'++[r]) (l'.length:Int)=r:=by simp[aK]
 rw[hw2,hrd,if_pos (by rw[hlen];omega),if_pos (Int.natCast_nonneg _),if_pos (by rw[hlen];push_cast;omega),hw];rw[show (l'++[r]).getLast?=some r by simp];dsimp only;by_cases e:r.f1=i
 ·rw[if_pos e,if_pos e];rw[e,hw];simp
 rw[if_neg e,if_neg e,if_pos hl]
end Go.Proofs.YtknihldkhedpkaaGreatDoor
end
