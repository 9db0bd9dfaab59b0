import Derived.Test.YtknihldkhedpkaaGreatDoorDDG1
set_option linter.all false
set_option maxHeartbeats 16000000
set_option maxRecDepth 100000
section
namespace Go.Proofs.YtknihldkhedpkaaGreatDoor.PT
open Go.RowKit Go.Proofs.YtknihldkhedpkaaGreatDoorW.PrintWords Go.Proofs.YtknihldkhedpkaaGreatDoorW.PrintLast Go.Proofs.YtknihldkhedpkaaGreatDoorW.PrintMore
attribute [local go_sem] kI kJ mI mJ jE jF kK kL
def qg.f (l0:List (dh)) (a1:Int):Option ((List (dh))):=if (l0.length:Int) > 0 then (if 0≤(wrap64 ((l0.length:Int) - 1)) then (if (wrap64 ((l0.length:Int) - 1))<(l0.length:Int) then (if ((aQ l0 (wrap64 ((l0.length:Int) - 1))).f1)=a1 then (some (l0.set ((wrap64 ((l0.length:Int) - 1)):Int).toNat (⟨(aQ l0 (wrap64 ((l0.length:Int) - 1))).f0,wrap64 (((aQ l0 (wrap64 ((l0.length:Int) - 1))).f1)+1)⟩:dh))) else (if l0.length<8796093022208 then (some (l0++[(⟨a1,wrap64 (a1+1)⟩:dh)])) else (none))) else (none)) else (none)) else (if l0.length<8796093022208 then (some (l0++[(⟨a1,wrap64 (a1+1)⟩:dh)])) else (none))
theorem qg.calls (zX:Nat→Prop) (zY:Value) (l0:List (dh)) (a1:Int) (r:List (dh)) (w0 w:World) (hB:Below w0.heap.size w0 w) (ho0:Kd.R dw 117 w w0.heap.size zX zY l0) (h:qg.f l0 a1=some r) :
  Calls Tryz.prog 92 #[zY,.int .i64 a1] w fun e w'=>∃wI:Value,e=.returned (wI)∧Kd.R dw 117 w' w0.heap.size (fun k_=>(zX k_∨w.heap.size≤k_)) wI r∧Below w0.heap.size w0 w'∧Kept w w' (fun k_=>zX k_):=by
 have WL:=Tryz.underlying117;have sU:=ah.mk (show Kd.R dw 117 w w0.heap.size (fun k_=>(zX k_∨w.heap.size≤k_)) zY l0 from Kd.dX ho0 (fun k_ hk=>(.inl hk)));have HK:=ah.mk (Kept.refl w (fun k_=>zX k_));have HW0:=ah.mk hB.size;have HB:=ah.mk hB;clear hB;have H:(if (l0.length:Int) > 0 then (if 0≤(wrap64 ((l0.length:Int) - 1)) then (if (wrap64 ((l0.length:Int) - 1))<(l0.length:Int) then (if ((aQ l0 (wrap64 ((l0.length:Int) - 1))).f1)=a1 then (some (l0.set ((wrap64 ((l0.length:Int) - 1)):Int).toNat (⟨(aQ l0 (wrap64 ((l0.length:Int) - 1))).f0,wrap64 (((aQ l0 (wrap64 ((l0.length:Int) - 1))).f1)+1)⟩:dh))) else (if l0.length<8796093022208 then (some (l0++[(⟨a1,wrap64 (a1+1)⟩:dh)])) else (none))) else (none)) else (none)) else (if l0.length<8796093022208 then (some (l0++[(⟨a1,wrap64 (a1+1)⟩:dh)])) else (none)))=some r:=h;clear h;by_cases c3:(l0.length:Int) > 0
 ·rw[if_pos c3] at H;have qo:decide (0<(l0.length:Int))=true:=decide_eq_true c3;have xG:decide (0<l0.length)=true:=decide_eq_true aj;clear c3
  obtain⟨jY,GJ⟩:∃j_:Int,(wrap64 ((l0.length:Int) - 1))=j_:=⟨_,rfl⟩
  replace H:(if 0≤(jY) then (if (jY)<(l0.length:Int) then (if ((aQ l0 (jY)).f1)=a1 then (some (l0.set ((jY):Int).toNat (⟨(aQ l0 (jY)).f0,wrap64 (((aQ l0 (jY)).f1)+1)⟩:dh))) else (if l0.length<8796093022208 then (some (l0++[(⟨a1,wrap64 (a1+1)⟩:dh)])) else (none))) else (none)) else (none))=some r:=by first|(rw[GJ] at H;exact H)|(simp only[GJ] at H ⊢;exact H)
  have ahI:(IntKind.i64.wrap ((l0.length:Int) - 1))=jY:=(eG _).trans GJ
  by_cases c5:0≤(jY)
  ·rw[if_pos c5] at H;have Bg:decide (0≤(jY))=true:=decide_eq_true c5;clear c5
   by_cases c6:(jY)<(l0.length:Int)
   ·rw[if_pos c6] at H;have Nc:decide ((jY)<(l0.length:Int))=true:=decide_eq_true c6;clear c6;by_cases c7:((aQ l0 (jY)).f1)=a1
    ·rw[if_pos c7] at H;have KY:(((aQ l0 (jY)).f1) == a1)=true:=beq_iff_eq.mpr c7;have Xj:(((aQ l0 (jY)).f1) != a1)=false:=bne_eq_false_iff_eq.mpr c7;clear c7
     obtain⟨ah5,ND⟩:∃y_:List (dh),y_=(l0.set ((jY):Int).toNat (⟨(aQ l0 (jY)).f0,wrap64 (((aQ l0 (jY)).f1)+1)⟩:dh)):=⟨_,rfl⟩
     replace H:(some ah5)=some r:=by first|(rw[ND];with_reducible exact H)|(have qc:=(Option.bind_some _ _).symm.trans H;rw[ND];with_reducible exact qc)|(have qc:=(Option.bind_some _ _).symm.trans H;with_reducible exact qc)|with_reducible exact H|(rw[ND];exact H)|exact H
     have ah6:=ah.mk ND;clear ND;obtain rfl:=Option.some.inj H;obtain⟨IK,Ei,VY⟩:=Kd.bP sU.out;subst VY;have Qp:0≤((jY):Int):=of_decide_eq_true bg;have Qq:(jY)<(l0.length:Int):=of_decide_eq_true bg;obtain⟨Xr,aeZ,Tz,TA⟩:=dQ (Kd.bU sU.out).2.2 (jY) Qp Qq;cases aeZ;replace Qp:=eq_true Qp;replace Qq:=eq_true Qq;have ae0:0≤((jY):Int):=of_decide_eq_true bg;have ae1:(jY)<(l0.length:Int):=of_decide_eq_true bg;obtain⟨ah7,e143,aaw,aax⟩:=dQ (Kd.bU sU.out).2.2 (jY) ae0 ae1
     obtain rfl:Xr=ah7:=(by injection e143)
     replace ae0:=eq_true ae0;replace ae1:=eq_true ae1;have p8:0≤((jY):Int):=of_decide_eq_true bg;have q8:((jY):Int)<((l0.length:Int):Int):=of_decide_eq_true bg;obtain⟨IV,co8,eo8,gb8,gl8,cl8,HG8⟩:=Kd.Qc sU.out aj
     (first|cases eo8|(injection eo8 with yw Qd Qe;(first|subst yw|(injection yw with yw;subst yw));subst Qe;clear Qd))
     have GB8:=ah.mk gb8;have GG8:=ah.mk HG8;clear gb8 gl8 HG8;have ahN:=ah.mk (show (zX IV∨w.heap.size≤IV) from (sU.out.1 _ rfl))
     (first|simp only[add_plain] at Tz|skip)
     (first|simp only[add_plain] at TA|skip)
     (first|simp only[add_plain] at aaw|skip)
     (first|simp only[add_plain] at aax|skip)
     obtain⟨ce8,aez,hM8,Qf,Qg⟩:=Kd.GK sU.out z117 ((jY):Int) p8 q8;obtain rfl:=uT hM8;have ahP:w.cell? ⟨IV,((jY):Int).toNat*2,none⟩=some (.int .i64 ((aQ l0 (jY)).f0)):=Qf 0 _ rfl;have ahQ:w.cell? ⟨IV,((jY):Int).toNat*2+1,none⟩=some (.int .i64 ((aQ l0 (jY)).f1)):=Qf 1 _ rfl;have ahR:w.frozen? ⟨IV,((jY):Int).toNat*2,none⟩=false:=Qg 0;have ahS:w.frozen? ⟨IV,((jY):Int).toNat*2+1,none⟩=false:=Qg 1;clear aez Qf Qg hM8;replace p8:=eq_true p8;replace q8:=eq_true q8;have Xk:=ah.mk (show Kd.R dw 117 w w0.heap.size (fun k_=>(zX k_∨w.heap.size≤k_)) (.slice (some ⟨IV,0,none⟩) l0.length Ei) l0 from (by (with_reducible repeat (first|apply Kd.aW|apply Kd.aT|apply Kd.bE));exact sU.out));obtain⟨anp,Nv,Xl,GL,Nw⟩:=Kd.GK Xk.out z117 ((jY):Int) (of_decide_eq_true bg) (by have h_:((jY):Int)<((l0.length:Int):Int):=of_decide_eq_true bg;first|exact h_|(have e_:=(Kd.bU sU.out).1;omega)|simpa using h_);obtain rfl:=uT Xl;have Qh:=Kd.ac0 Xk.out ((jY):Int) (of_decide_eq_true bg) (by have h_:((jY):Int)<((l0.length:Int):Int):=of_decide_eq_true bg;first|exact h_|(have e_:=(Kd.bU sU.out).1;omega)|simpa using h_) (seg:=[.int .i64 (wrap64 (((aQ l0 (jY)).f1)+1))]) (j:=1) Nv GL (show 2≤2 from by decide) (x':=(⟨(aQ l0 (jY)).f0,wrap64 (((aQ l0 (jY)).f1)+1)⟩:dh)) (rF _ _ _ (⟨(aQ l0 (jY)).f0,wrap64 (((aQ l0 (jY)).f1)+1)⟩:dh) ) (fun _ hk=>hk);have Qi:=GL 1 _ rfl
     (try simp only[show (dw).sz=2 from rfl,Nat.mul_one,Nat.add_zero] at Qi)
     have Qj:=Nw 1
     (try simp only[show (dw).sz=2 from rfl,Nat.mul_one,Nat.add_zero] at Qj)
     clear Nv GL Nw Xl
     go_enter Tryz.func92,Tryz.ntmps92
     go_wp2_with (first|((with_reducible refine rY (t:=3) (p:=28) rfl ?_);refine qz (t:=3) (p:=28) (v:=?aeA) (w1:=(w.setCell ⟨IV,((jY):Int).toNat*2+1,none⟩ (.int .i64 (wrap64 (((aQ l0 (jY)).f1)+1))))) ?hg ?ho ?hn ?hr ?_;(case ho=>rfl);(case hg=>rfl);(case hn=>rfl);(case hr=>first|(go_simp;done)|(go_simp;rfl));intro Dq hw;have hg:w.grownBy Dq (some IV):=(by rw[hw];exact Qh.2);have Tw:Kd.R dw 117 Dq w0.heap.size (fun k_=>(zX k_∨w.heap.size≤k_)) (.slice (some ⟨IV,0,none⟩) l0.length Ei) ah5:=(by rw[hw,ah6.out];exact Qh.1);clear Qh;have dM:=ah.mk (Tw);have dU:=ah.mk ((by rw[hw];exact aV (HB.out) GB8.out:Below w0.heap.size w0 Dq));have eF:=ah.mk (Kept.uK (S:=(fun k_=>zX k_)) hg (by repeat (first|(with_reducible first|exact HK.out|apply Kept.alloc|apply Kept.drewN|apply Kept.drew)|exact HK.out)) (fun k_ e_=>(sU.out.1 k_ e_)));clear sU;clear HB;clear HK;have sU:=dM;have HB:=dU;have HK:=eF;clear dM dU eF;clear hg hw Tw))
     go_ret
     exact⟨_,by first|rfl|(simp[aY,aZ] <;> rfl)|(simp only[← GJ];first|rfl|(simp[aY,aZ] <;> rfl))|(simp[*,aY,aZ] <;> rfl),by (with_reducible repeat (first|apply Kd.aW|apply Kd.aT|apply Kd.bE));exact sU.out,by repeat (first|(with_reducible first|exact HB.out|apply aG|apply av|apply aK)|exact HB.out),by repeat (first|(with_reducible first|exact HK.out|apply Kept.alloc|apply Kept.drewN|apply Kept.drew)|exact HK.out)⟩
    rw[if_neg c7] at H;have KY:(((aQ l0 (jY)).f1) == a1)=false:=beq_eq_false_iff_ne.mpr c7;have Xj:(((aQ l0 (jY)).f1) != a1)=true:=bne_iff_ne.mpr c7;by_cases c12:l0.length<8796093022208
    ·rw[if_pos c12] at H;have Xm:=ah.mk c12;clear c12
     obtain⟨anw,NG⟩:∃y_:List (dh),y_=(l0++[(⟨a1,wrap64 (a1+1)⟩:dh)]):=⟨_,rfl⟩
     replace H:(some anw)=some r:=by first|(rw[NG];with_reducible exact H)|(have qc:=(Option.bind_some _ _).symm.trans H;rw[NG];with_reducible exact qc)|(have qc:=(Option.bind_some _ _).symm.trans H;with_reducible exact qc)|with_reducible exact H|(rw[NG];exact H)|exact H
     have ah8:=ah.mk NG;clear NG;obtain rfl:=Option.some.inj H;obtain⟨anr,aeB,aeC⟩:=Kd.bP sU.out;subst aeC;have Qp:0≤((jY):Int):=of_decide_eq_true bg;have Qq:(jY)<(l0.length:Int):=of_decide_eq_true bg;obtain⟨Xr,aeZ,Tz,TA⟩:=dQ (Kd.bU sU.out).2.2 (jY) Qp Qq;cases aeZ;replace Qp:=eq_true Qp;replace Qq:=eq_true Qq
     go_enter Tryz.func92,Tryz.ntmps92
     go_wp2_with (first|((with_reducible refine bQ (b:=.append) (xs:=#[.tmp 30,.tmp 35]) rfl ?_);at_builtin;refine Kd.gJ dw (w0:=w0) w0.heap.size rfl (.tmp 30) (.tmp 35) 26 117 (.agg #[(.int .i64 0),(.int .i64 0)]) 16 rfl Tryz.underlying26 Ay rfl aH aj (.slice (some Xr) l0.length aeB) l0 (⟨a1,wrap64 (a1+1)⟩:dh) [.int .i64 a1,.int .i64 (wrap64 (a1+1))] (fun k_=>(zX k_∨w.heap.size≤k_)) (fun _=>False) rfl rfl ?aP (fun _ hk=>hk.elim) ?aF ?aO ?aB ?aS ?aL ?_;(case aP=>exact rF _ _ _ (⟨a1,wrap64 (a1+1)⟩:dh));(case aB=>exact dG);(case aF=>exact (fun k_ hk=>(.inr (Nat.le_trans (by first|exact HK.out.1|exact (show Kept w _ (fun k_=>zX k_) from by repeat (first|(with_reducible first|exact HK.out|apply Kept.alloc|apply Kept.drewN|apply Kept.drew)|exact HK.out)).1) hk))));(case aO=>exact (by (with_reducible repeat (first|apply Kd.aW|apply Kd.aT|apply Kd.bE));exact sU.out));(case aS=>exact (bH dG));(case aL=>have:=Xm.out;omega);intro v146 w14 ho hb hg hat;rw[← ah8.out] at ho;have dM:=ah.mk (hb);have dU:=ah.mk (Kept.uK (S:=(fun k_=>zX k_)) hg (by repeat (first|(with_reducible first|exact HK.out|apply Kept.alloc|apply Kept.drewN|apply Kept.drew)|exact HK.out)) (fun k_ e_=>(sU.out.1 k_ e_)));have eF:=ah.mk (ho);clear HB;clear HK;clear sU;have HB:=dM;have HK:=dU;have ah9:=eF;clear dM dU eF;clear ho hb hg hat))
     go_ret
     exact⟨_,by first|rfl|(simp[aY,aZ] <;> rfl)|(simp only[← GJ];first|rfl|(simp[aY,aZ] <;> rfl))|(simp[*,aY,aZ] <;> rfl),by (with_reducible repeat (first|apply Kd.aW|apply Kd.aT|apply Kd.bE));exact ah9.out,by repeat (first|(with_reducible first|exact HB.out|apply aG|apply av|apply aK)|exact HB.out),by repeat (first|(with_reducible first|exact HK.out|apply Kept.alloc|apply Kept.drewN|apply Kept.drew)|exact HK.out)⟩
    rw[if_neg c12] at H;exact absurd H bB
   rw[if_neg c6] at H;exact absurd H bB
  rw[if_neg c5] at H;exact absurd H bB
 rw[if_neg c3] at H;have qo:decide (0<(l0.length:Int))=false:=decide_eq_false c3;have xG:decide (0<l0.length)=false:=decide_eq_false aj;clear c3;by_cases c15:l0.length<8796093022208
 ·rw[if_pos c15] at H;have Xn:=ah.mk c15;clear c15
  obtain⟨anx,NH⟩:∃y_:List (dh),y_=(l0++[(⟨a1,wrap64 (a1+1)⟩:dh)]):=⟨_,rfl⟩
  replace H:(some anx)=some r:=by first|(rw[NH];with_reducible exact H)|(have qc:=(Option.bind_some _ _).symm.trans H;rw[NH];with_reducible exact qc)|(have qc:=(Option.bind_some _ _).symm.trans H;with_reducible exact qc)|with_reducible exact H|(rw[NH];exact H)|exact H
  have aia:=ah.mk NH;clear NH;obtain rfl:=Option.some.inj H;obtain⟨aeD,aeE,aeF⟩:=Kd.bP sU.out;subst aeF
  go_enter Tryz.func92,Tryz.ntmps92
  go_wp2_with (first|((with_reducible refine bQ (b:=.append) (xs:=#[.tmp 30,.tmp 35]) rfl ?_);at_builtin;refine Kd.gJ dw (w0:=w0) w0.heap.size rfl (.tmp 30) (.tmp 35) 26 117 (.agg #[(.int .i64 0),(.int .i64 0)]) 16 rfl Tryz.underlying26 Ay rfl aH aj (.slice aeD l0.length aeE) l0 (⟨a1,wrap64 (a1+1)⟩:dh) [.int .i64 a1,.int .i64 (wrap64 (a1+1))] (fun k_=>(zX k_∨w.heap.size≤k_)) (fun _=>False) rfl rfl ?aP (fun _ hk=>hk.elim) ?aF ?aO ?aB ?aS ?aL ?_;(case aP=>exact rF _ _ _ (⟨a1,wrap64 (a1+1)⟩:dh));(case aB=>exact dG);(case aF=>exact (fun k_ hk=>(.inr (Nat.le_trans (by first|exact HK.out.1|exact (show Kept w _ (fun k_=>zX k_) from by repeat (first|(with_reducible first|exact HK.out|apply Kept.alloc|apply Kept.drewN|apply Kept.drew)|exact HK.out)).1) hk))));(case aO=>exact (by (with_reducible repeat (first|apply Kd.aW|apply Kd.aT|apply Kd.bE));exact sU.out));(case aS=>exact (bH dG));(case aL=>have:=Xn.out;omega);intro asv w17 ho hb hg hat;rw[← aia.out] at ho;have dM:=ah.mk (hb);have dU:=ah.mk (Kept.uK (S:=(fun k_=>zX k_)) hg (by repeat (first|(with_reducible first|exact HK.out|apply Kept.alloc|apply Kept.drewN|apply Kept.drew)|exact HK.out)) (fun k_ e_=>(sU.out.1 k_ e_)));have eF:=ah.mk (ho);clear HB;clear HK;clear sU;have HB:=dM;have HK:=dU;have aib:=eF;clear dM dU eF;clear ho hb hg hat))
  go_ret
  exact⟨_,by first|rfl|(simp[aY,aZ] <;> rfl)|(simp[*,aY,aZ] <;> rfl),by (with_reducible repeat (first|apply Kd.aW|apply Kd.aT|apply Kd.bE));exact aib.out,by repeat (first|(with_reducible first|exact HB.out|apply aG|apply av|apply aK)|exact HB.out),by repeat (first|(with_reducible first|exact HK.out|apply Kept.alloc|apply Kept.drewN|apply Kept.drew)|exact HK.out)⟩
 rw[if_neg c15] at H;exact absurd H bB
def bV.f (a0:Int):Option (Int):=some a0
theorem bV.calls (a0:Int) (r:Int) (w:World) (h:bV.f a0=some r) :
  Calls Tryz.prog 21 #[.int .i64 a0] w fun e w'=>e=.returned (.int .i64 r)∧bI w w':=by
 have H:(some a0)=some r:=h;clear h;obtain rfl:=Option.some.inj H
 go_enter Tryz.func21,Tryz.ntmps21
 go_wp2
 go_ret
 exact⟨by first|rfl|(simp;done)|(simp[*];done),by repeat (first|exact bI.refl _|apply bI.step)⟩
def bR.l0:Nat→List Int→List Int→Int→Option (List Int)
 | 0,_,_,_=>none
 | k+1,x0,x3,x4=>if x4<(x0.length:Int) then (if 0≤x4 then (if x3.length<140737488355328 then (bR.l0 k x0 (x3++[rd x0 x4]) (wrap64 (x4+1))) else (none)) else (none)) else (some x3)
def bR.f (k:Nat) (l0:List Int):Option (List Int):=bR.l0 k l0 ([]:List Int) 0
theorem bR.calls (k:Nat) (A0:Option Addr) (c0:Nat) (l0:List Int) (r:List Int) (w:World) (hr0:Kd.C (Kd.int .u8) w A0 l0.length l0) (hc0:l0.length≤c0) (h:bR.f k l0=some r) :
  Calls Tryz.prog 23 #[.slice A0 l0.length c0] w fun e w'=>∃wI:Value,e=.returned (wI)∧Kd.R (Kd.int .u8) 5 w' w.heap.size (fun _=>True) wI r∧Below w.heap.size w w':=by
 have nC:=ah.mk hr0;have VW:=ah.mk hc0;clear hr0 hc0;have HB:=ah.mk (Below.refl w.heap.size w);have H:(bR.l0 k l0 ([]:List Int) 0)=some r:=h;clear h;have H':=ah.mk H;clear H
 go_enter Tryz.func23,Tryz.ntmps23
 go_wp2
 go_loopg [3,4] k (fun kq v3 v4 w'=>∃(ku:List Int) (dZ:Int),v4=.int .i64 dZ∧ah (bR.l0 kq l0 ku dZ=some r)∧ah (kq≤k)∧ah (Kd.R (Kd.int .u8) 5 w' w.heap.size (fun _=>True) v3 ku)∧ah (Below w.heap.size w w'))
 case atStart=>exact⟨(([]:List Int)),(0),dV,H',⟨Nat.le_refl _⟩,⟨by first|exact Kd.eD _ _ _ _ _|exact Kd.Gi _ _ _ _ _|exact Kd.Gj _ _ _ _ _|exact Kd.Gl _ _ _ _ _|exact Kd.Ef _ _ _ _ _⟩,⟨by repeat (first|(with_reducible first|exact HB.out|apply aG|apply av|apply aK)|exact HB.out)⟩⟩
 case round=>
  clear H';obtain⟨ku,dZ,rfl,HA,jH,dx,HB⟩:=hrel
  cases gk with
  | zero=>exact absurd HA.out (by simp[bR.l0])
  | succ k1=>
   have H:=HA.out;clear HA;simp only[bR.l0] at H
   by_cases c2:dZ<(l0.length:Int)
   ·rw[if_pos c2] at H;have zS:decide (dZ<(l0.length:Int))=true:=decide_eq_true c2;clear c2;by_cases c3:0≤dZ
    ·rw[if_pos c3] at H;have qo:decide (0≤dZ)=true:=decide_eq_true c3;clear c3;by_cases c4:ku.length<140737488355328
     ·rw[if_pos c4] at H;have aef:=ah.mk c4;clear c4
      obtain⟨aic,NI⟩:∃y_:List Int,y_=(ku++[rd l0 dZ]):=⟨_,rfl⟩
      replace H:(bR.l0 k1 l0 aic (wrap64 (dZ+1)))=some r:=by first|(rw[NI];with_reducible exact H)|(have qc:=(Option.bind_some _ _).symm.trans H;rw[NI];with_reducible exact qc)|(have qc:=(Option.bind_some _ _).symm.trans H;with_reducible exact qc)|with_reducible exact H|(rw[NI];exact H)|exact H
      have aie:=ah.mk NI;clear NI;have H':=ah.mk H;clear H;have ae2:0≤(dZ:Int):=of_decide_eq_true bg;have ae3:dZ<(l0.length:Int):=of_decide_eq_true bg;obtain⟨ap2,anz,K8⟩:=Kd.gZ nC.out dZ ae2 ae3;cases anz;replace K8:=(HB.out.cell (World.block_lt_of_cell? w _ K8)).trans K8;replace ae2:=eq_true ae2;replace ae3:=eq_true ae3
      go_wp2_with (first|((with_reducible refine bQ (b:=.append) (xs:=#[.tmp 11,.tmp 16]) rfl ?_);at_builtin;refine Kd.gJ (Kd.int .u8) (w0:=w) w.heap.size rfl (.tmp 11) (.tmp 16) 27 5 (.int .u8 0) 1 rfl Tryz.underlying27 info5 rfl aH aj u3 ku (rd l0 dZ) [.int .u8 (rd l0 dZ)] (fun _=>True) (fun _=>False) rfl rfl ?aP (fun _ hk=>hk.elim) ?aF ?aO ?aB ?aS ?aL ?_;(case aP=>exact rfl);(case aB=>exact dG);(case aF=>exact (fun _ _=>trivial));(case aO=>exact (by (with_reducible repeat (first|apply Kd.aW|apply Kd.aT|apply Kd.bE));exact dx.out));(case aS=>exact (bH dG));(case aL=>have:=aef.out;omega);intro asw w5 ho hb hg hat;rw[← aie.out] at ho;have dM:=ah.mk (hb);have dU:=ah.mk (ho);clear HB;clear dx;have HB:=dM;have aif:=dU;clear dM dU;clear ho hb hg hat))
      go_roundg k1
      case measure=>have:=jH.out;omega
      case rel=>exact⟨(aic),(wrap64 (dZ+1)),dV,H',⟨by have:=jH.out;omega⟩,⟨by (with_reducible repeat (first|apply Kd.aW|apply Kd.aT|apply Kd.bE));exact aif.out⟩,⟨by repeat (first|(with_reducible first|exact HB.out|apply aG|apply av|apply aK)|exact HB.out)⟩⟩
     rw[if_neg c4] at H;exact absurd H bB
    rw[if_neg c3] at H;exact absurd H bB
   rw[if_neg c2] at H;have zS:decide (dZ<(l0.length:Int))=false:=decide_eq_false c2;clear c2;obtain rfl:=Option.some.inj H
   go_wp2
   go_ret
   exact⟨_,by first|rfl|(simp[aY,aZ] <;> rfl)|(simp[*,aY,aZ] <;> rfl),by (with_reducible repeat (first|apply Kd.aW|apply Kd.aT|apply Kd.bE));exact dx.out,by repeat (first|(with_reducible first|exact HB.out|apply aG|apply av|apply aK)|exact HB.out)⟩
def dF.f (l0:List Int) (l1:List Int):Option (Bool):=some ((strOfNums l0).toList == (strOfNums l1).toList)
theorem dF.calls (A0:Option Addr) (c0:Nat) (l0:List Int) (A1:Option Addr) (c1:Nat) (l1:List Int) (r:Bool) (w:World) (hr0:Kd.C (Kd.int .u8) w A0 l0.length l0) (hc0:l0.length≤c0) (hr1:Kd.C (Kd.int .u8) w A1 l1.length l1) (hc1:l1.length≤c1) (h:dF.f l0 l1=some r) :
  Calls Tryz.prog 25 #[.slice A0 l0.length c0,.slice A1 l1.length c1] w fun e w'=>e=.returned (.bool r)∧bI w w':=by
 have nC:=ah.mk hr0;have VW:=ah.mk hc0;clear hr0 hc0;have HR1:=ah.mk hr1;have Gr:=ah.mk hc1;clear hr1 hc1;have H:(some ((strOfNums l0).toList == (strOfNums l1).toList))=some r:=h;clear h;obtain rfl:=Option.some.inj H;have anA:=Kd.nD (P:=Tryz.prog) (A:=A0) (c:=c0) Tryz.underlying27 Tryz.underlying5 Tryz.underlying9 nC.out;have anB:=Kd.nD (P:=Tryz.prog) (A:=A1) (c:=c1) Tryz.underlying27 Tryz.underlying5 Tryz.underlying9 HR1.out
 go_enter Tryz.func25,Tryz.ntmps25
 go_wp2
 go_ret
 exact⟨by first|rfl|(simp;done)|(simp[*];done),by repeat (first|exact bI.refl _|apply bI.step)⟩
def bX.l0:Nat→List (dh)→List (dh)→Int→Option (Bool)
 | 0,_,_,_=>none
 | k+1,x0,x1,x5=>if x5<(x0.length:Int) then (if 0≤x5 then (if x5<(x1.length:Int) then (if ((aQ x0 x5).f0)=((aQ x1 x5).f0) then (if ((aQ x0 x5).f1)=((aQ x1 x5).f1) then (bX.l0 k x0 x1 (wrap64 (x5+1))) else (some false)) else (some false)) else (none)) else (none)) else (some true)
def bX.f (k:Nat) (l0:List (dh)) (l1:List (dh)):Option (Bool):=if (l0.length:Int)=(l1.length:Int) then (bX.l0 k l0 l1 0) else (some false)
theorem bX.calls (k:Nat) (A0:Option Addr) (c0:Nat) (l0:List (dh)) (A1:Option Addr) (c1:Nat) (l1:List (dh)) (r:Bool) (w:World) (hr0:Kd.C dw w A0 l0.length l0) (hc0:l0.length≤c0) (hr1:Kd.C dw w A1 l1.length l1) (hc1:l1.length≤c1) (h:bX.f k l0 l1=some r) :
  Calls Tryz.prog 70 #[.slice A0 l0.length c0,.slice A1 l1.length c1] w fun e w'=>e=.returned (.bool r)∧bI w w':=by
 have nC:=ah.mk hr0;have VW:=ah.mk hc0;clear hr0 hc0;have HR1:=ah.mk hr1;have Gr:=ah.mk hc1;clear hr1 hc1;have H:(if (l0.length:Int)=(l1.length:Int) then (bX.l0 k l0 l1 0) else (some false))=some r:=h;clear h
 by_cases c3:(l0.length:Int)=(l1.length:Int)
 ·rw[if_pos c3] at H;have qo:((l0.length:Int) == (l1.length:Int))=true:=beq_iff_eq.mpr c3;have xG:((l0.length:Int) != (l1.length:Int))=false:=bne_eq_false_iff_eq.mpr c3
  have WV:(l0.length == l1.length)=true:=by first|simpa using c3|(simp at c3 ⊢;omega)
  clear c3;have H':=ah.mk H;clear H
  go_enter Tryz.func70,Tryz.ntmps70
  go_wp2
  repeat (go_quiet (fail);try go_wp2)
  go_loopg [5] k (fun kq v5 w'=>∃(aR:Int),v5=.int .i64 aR∧ah (bX.l0 kq l0 l1 aR=some r)∧ah (kq≤k)∧bI w w')
  case atStart=>exact⟨(0),dV,H',⟨Nat.le_refl _⟩,by repeat (first|exact bI.refl _|apply bI.step)⟩
  case round=>
   clear H'
   try clear c1
   try clear p2
   try clear c3
   try clear qo
   try clear xG
   try clear WV
   obtain⟨aR,rfl,HA,jH,⟨m1,rfl⟩⟩:=hrel
   cases gk with
   | zero=>exact absurd HA.out (by simp[bX.l0])
   | succ k1=>
    have H:=HA.out;clear HA;simp only[bX.l0] at H
    by_cases c4:aR<(l0.length:Int)
    ·rw[if_pos c4] at H;have rP:decide (aR<(l0.length:Int))=true:=decide_eq_true c4;clear c4;by_cases c5:0≤aR
     ·rw[if_pos c5] at H;have Bg:decide (0≤aR)=true:=decide_eq_true c5;clear c5
      by_cases c6:aR<(l1.length:Int)
      ·rw[if_pos c6] at H;have Nc:decide (aR<(l1.length:Int))=true:=decide_eq_true c6;clear c6
       by_cases c7:((aQ l0 aR).f0)=((aQ l1 aR).f0)
       ·rw[if_pos c7] at H;have KY:(((aQ l0 aR).f0) == ((aQ l1 aR).f0))=true:=beq_iff_eq.mpr c7;have Xj:(((aQ l0 aR).f0) != ((aQ l1 aR).f0))=false:=bne_eq_false_iff_eq.mpr c7;clear c7
        by_cases c8:((aQ l0 aR).f1)=((aQ l1 aR).f1)
        ·rw[if_pos c8] at H;have U9:(((aQ l0 aR).f1) == ((aQ l1 aR).f1))=true:=beq_iff_eq.mpr c8;have anC:(((aQ l0 aR).f1) != ((aQ l1 aR).f1))=false:=bne_eq_false_iff_eq.mpr c8;clear c8;have H':=ah.mk H;clear H;have GU:0≤(aR:Int):=of_decide_eq_true bg;have GV:aR<(l0.length:Int):=of_decide_eq_true bg;obtain⟨TB,Xt,TD,TF⟩:=dQ nC.out aR GU GV;cases Xt;replace GU:=eq_true GU;replace GV:=eq_true GV;have GX:0≤(aR:Int):=of_decide_eq_true bg;have GY:aR<(l1.length:Int):=of_decide_eq_true bg;obtain⟨TG,e181,TH,TI⟩:=dQ HR1.out aR GX GY;cases e181;replace GX:=eq_true GX;replace GY:=eq_true GY;have Qr:0≤(aR:Int):=of_decide_eq_true bg;have Qs:aR<(l0.length:Int):=of_decide_eq_true bg;obtain⟨Xu,ae4,aay,aaz⟩:=dQ nC.out aR Qr Qs
         obtain rfl:TB=Xu:=(by injection ae4)
         replace Qr:=eq_true Qr;replace Qs:=eq_true Qs;have Qt:0≤(aR:Int):=of_decide_eq_true bg;have Qu:aR<(l1.length:Int):=of_decide_eq_true bg;obtain⟨Xv,ae5,aaA,aaB⟩:=dQ HR1.out aR Qt Qu
         obtain rfl:TG=Xv:=(by injection ae5)
         replace Qt:=eq_true Qt;replace Qu:=eq_true Qu
         go_wp2
         repeat (go_quiet (fail);try go_wp2)
         go_roundg k1
         case measure=>have:=jH.out;omega
         case rel=>exact⟨(wrap64 (aR+1)),dV,H',⟨by have:=jH.out;omega⟩,by repeat (first|exact bI.refl _|apply bI.step)⟩
        rw[if_neg c8] at H;have U9:(((aQ l0 aR).f1) == ((aQ l1 aR).f1))=false:=beq_eq_false_iff_ne.mpr c8;have anC:(((aQ l0 aR).f1) != ((aQ l1 aR).f1))=true:=bne_iff_ne.mpr c8;obtain rfl:=Option.some.inj H;have GU:0≤(aR:Int):=of_decide_eq_true bg;have GV:aR<(l0.length:Int):=of_decide_eq_true bg;obtain⟨TB,Xt,TD,TF⟩:=dQ nC.out aR GU GV;cases Xt;replace GU:=eq_true GU;replace GV:=eq_true GV;have GX:0≤(aR:Int):=of_decide_eq_true bg;have GY:aR<(l1.length:Int):=of_decide_eq_true bg;obtain⟨TG,e181,TH,TI⟩:=dQ HR1.out aR GX GY;cases e181;replace GX:=eq_true GX;replace GY:=eq_true GY;have Qr:0≤(aR:Int):=of_decide_eq_true bg;have Qs:aR<(l0.length:Int):=of_decide_eq_true bg;obtain⟨Xu,ae4,aay,aaz⟩:=dQ nC.out aR Qr Qs
        obtain rfl:TB=Xu:=(by injection ae4)
        replace Qr:=eq_true Qr;replace Qs:=eq_true Qs;have Qt:0≤(aR:Int):=of_decide_eq_true bg;have Qu:aR<(l1.length:Int):=of_decide_eq_true bg;obtain⟨Xv,ae5,aaA,aaB⟩:=dQ HR1.out aR Qt Qu
        obtain rfl:TG=Xv:=(by injection ae5)
        replace Qt:=eq_true Qt;replace Qu:=eq_true Qu
        go_wp2
        repeat (go_quiet (fail);try go_wp2)
        go_ret
        exact⟨by first|rfl|(simp;done)|(simp[*];done),by repeat (first|exact bI.refl _|apply bI.step)⟩
       rw[if_neg c7] at H;have KY:(((aQ l0 aR).f0) == ((aQ l1 aR).f0))=false:=beq_eq_false_iff_ne.mpr c7;have Xj:(((aQ l0 aR).f0) != ((aQ l1 aR).f0))=true:=bne_iff_ne.mpr c7;obtain rfl:=Option.some.inj H;have GU:0≤(aR:Int):=of_decide_eq_true bg;have GV:aR<(l0.length:Int):=of_decide_eq_true bg;obtain⟨TB,Xt,TD,TF⟩:=dQ nC.out aR GU GV;cases Xt;replace GU:=eq_true GU;replace GV:=eq_true GV;have GX:0≤(aR:Int):=of_decide_eq_true bg;have GY:aR<(l1.length:Int):=of_decide_eq_true bg;obtain⟨TG,e181,TH,TI⟩:=dQ HR1.out aR GX GY;cases e181;replace GX:=eq_true GX;replace GY:=eq_true GY
       go_wp2
       repeat (go_quiet (fail);try go_wp2)
       go_ret
       exact⟨by first|rfl|(simp;done)|(simp[*];done),by repeat (first|exact bI.refl _|apply bI.step)⟩
      rw[if_neg c6] at H;exact absurd H bB
     rw[if_neg c5] at H;exact absurd H bB
    rw[if_neg c4] at H;have rP:decide (aR<(l0.length:Int))=false:=decide_eq_false c4;clear c4;obtain rfl:=Option.some.inj H
    go_wp2
    repeat (go_quiet (fail);try go_wp2)
    go_ret
    exact⟨by first|rfl|(simp;done)|(simp[*];done),by repeat (first|exact bI.refl _|apply bI.step)⟩
 rw[if_neg c3] at H;have qo:((l0.length:Int) == (l1.length:Int))=false:=beq_eq_false_iff_ne.mpr c3;have xG:((l0.length:Int) != (l1.length:Int))=true:=bne_iff_ne.mpr c3
 have WV:(l0.length == l1.length)=false:=by first|simpa using c3|(simp at c3 ⊢;omega)
 obtain rfl:=Option.some.inj H
 go_enter Tryz.func70,Tryz.ntmps70
 go_wp2
 repeat (go_quiet (fail);try go_wp2)
 go_ret
 exact⟨by first|rfl|(simp;done)|(simp[*];done),by repeat (first|exact bI.refl _|apply bI.step)⟩
end Go.Proofs.YtknihldkhedpkaaGreatDoor.PT
end
section
namespace Go.Proofs.YtknihldkhedpkaaGreatDoor
open Go.RowKit
open Go.Proofs.YtknihldkhedpkaaGreatDoorW.PrintWords Go.Proofs.YtknihldkhedpkaaGreatDoorW.PrintLast Go.Proofs.YtknihldkhedpkaaGreatDoor.PT
theorem TJ (l:List Rn) (i:Int) (hl:l.length<8796093022208) (h0:0≤i) (h1:i≤140737488351232):qg.f l i=some (qj l i):=by
 unfold qg.f qj
 have hw:wrap64 (i+1)=i+1:=by unfold wrap64;omega
 rcases List.eq_nil_or_concat l with rfl|⟨l',r,rfl⟩
 ·rw[if_neg bB,if_pos bB,hw];rfl
 rw[List.concat_eq_append] at hl ⊢
 have hlen:(l'++[r]).length=l'.length+1:=by simp
 have hw2:wrap64 (((l'++[r]).length:Int) - 1)=(l'.length:Int):=by rw[hlen] at hl ⊢;unfold wrap64;omega
 have hrd:aQ (l'++[r]) (l'.length:Int)=r:=by simp[aQ]
 rw[hw2,hrd,if_pos (by rw[hlen];omega),if_pos (Int.natCast_nonneg _),if_pos (by rw[hlen];push_cast;omega),hw];rw[show (l'++[r]).getLast?=some r by simp];dsimp only;by_cases e:r.f1=i
 ·rw[if_pos e,if_pos e];rw[e,hw];simp
 rw[if_neg e,if_neg e,if_pos hl]
end Go.Proofs.YtknihldkhedpkaaGreatDoor
end
section
namespace Go.Proofs.YtknihldkhedpkaaGreatDoor.PT
open Go.RowKit Go.Proofs.YtknihldkhedpkaaGreatDoorW.PrintWords Go.Proofs.YtknihldkhedpkaaGreatDoorW.PrintLast Go.Proofs.YtknihldkhedpkaaGreatDoorW.PrintMore
attribute [local go_sem] kI kJ mI mJ jE jF kK kL
def stringslite_HasPrefix.f (a0:ByteArray) (a1:ByteArray):Option (Bool):=if (a0.size:Int)≥(a1.size:Int) then (if 0≤(a1.size:Int) then (if (a1.size:Int)≤(a0.size:Int) then (some ((a0.extract 0 ((a1.size:Int):Int).toNat).toList == a1.toList)) else (none)) else (none)) else (some false)
theorem stringslite_HasPrefix.calls (a0:ByteArray) (a1:ByteArray) (r:Bool) (w:World) (h:stringslite_HasPrefix.f a0 a1=some r) :
  Calls Tryz.prog 144 #[.string a0,.string a1] w fun e w'=>e=.returned (.bool r)∧bI w w':=by
 have H:(if (a0.size:Int)≥(a1.size:Int) then (if 0≤(a1.size:Int) then (if (a1.size:Int)≤(a0.size:Int) then (some ((a0.extract 0 ((a1.size:Int):Int).toNat).toList == a1.toList)) else (none)) else (none)) else (some false))=some r:=h;clear h
 by_cases c3:(a0.size:Int)≥(a1.size:Int)
 ·rw[if_pos c3] at H;have qo:decide ((a1.size:Int)≤(a0.size:Int))=true:=decide_eq_true c3;have xG:decide (a1.size≤a0.size)=true:=decide_eq_true (Int.ofNat_le.mp c3);clear c3
  by_cases c4:0≤(a1.size:Int)
  ·rw[if_pos c4] at H;have rP:=eq_true c4;have asx:decide (0≤(a1.size:Int))=true:=decide_eq_true c4;clear c4
   by_cases c5:(a1.size:Int)≤(a0.size:Int)
   ·rw[if_pos c5] at H;have Bg:=eq_true c5;have ZQ:decide ((a1.size:Int)≤(a0.size:Int))=true:=decide_eq_true c5;clear c5;obtain rfl:=Option.some.inj H
    go_enter Tryz.func144,Tryz.ntmps144
    go_wp2
    go_ret
    exact⟨by first|rfl|(simp;done)|(simp[*];done),by repeat (first|exact bI.refl _|apply bI.step)⟩
   rw[if_neg c5] at H;exact absurd H bB
  rw[if_neg c4] at H;exact absurd H bB
 rw[if_neg c3] at H;have qo:decide ((a1.size:Int)≤(a0.size:Int))=false:=decide_eq_false c3;have xG:decide (a1.size≤a0.size)=false:=decide_eq_false (fun h=>c3 (Int.ofNat_le.mpr h));clear c3;obtain rfl:=Option.some.inj H
 go_enter Tryz.func144,Tryz.ntmps144
 go_wp2
 go_ret
 exact⟨by first|rfl|(simp;done)|(simp[*];done),by repeat (first|exact bI.refl _|apply bI.step)⟩
def strings_HasPrefix.f (a0:ByteArray) (a1:ByteArray):Option (Bool):=(stringslite_HasPrefix.f a0 a1).bind fun Va=>(some Va)
theorem strings_HasPrefix.calls (a0:ByteArray) (a1:ByteArray) (r:Bool) (w:World) (h:strings_HasPrefix.f a0 a1=some r) :
  Calls Tryz.prog 130 #[.string a0,.string a1] w fun e w'=>e=.returned (.bool r)∧bI w w':=by
 have H:((stringslite_HasPrefix.f a0 a1).bind fun Va=>(some Va))=some r:=h;clear h;replace H:=Option.bind_eq_some_iff.mp H;obtain⟨Va,SA,H⟩:=H;replace H:(some Va)=some r:=H;have A3:=ah.mk SA;clear SA;obtain rfl:=Option.some.inj H
 go_enter Tryz.func130,Tryz.ntmps130
 go_wp2_with (first|((with_reducible refine fM (f:=144) rfl ?_);refine oh (some 7) rfl rfl Tryz.func144 aD rfl #[.string a0,.string a1] rfl qw ?_;(with_reducible refine (stringslite_HasPrefix.calls a0 a1 Va _ A3.out).mono ?_);rintro e w' ⟨rfl,⟨nd,rfl⟩⟩;refine⟨_,rfl,?_⟩))
 go_ret
 exact⟨by first|rfl|(simp;done)|(simp[*];done),by repeat (first|exact bI.refl _|apply bI.step)⟩
def sV.l0:Nat→Int→Int→Int→List (dh)→Int→Int→Option (Int × Bool)
 | 0,_,_,_,_,_,_=>none
 | k+1,x1,x6,x7,x10,x11,Xw=>if Xw<x11 then (if 0≤Xw then (if Xw<(x10.length:Int) then (if ((aQ x10 Xw).f0)≤x6 then (some (0,false)) else (if ((aQ x10 Xw).f1)≤((aQ x10 Xw).f0) then (some (0,false)) else (if ((aQ x10 Xw).f1) > x1 then (some (0,false)) else (sV.l0 k x1 ((aQ x10 Xw).f1) (wrap64 (x7+(wrap64 (((aQ x10 Xw).f1) - ((aQ x10 Xw).f0))))) x10 x11 (wrap64 (Xw+1)))))) else (none)) else (none)) else (some (x7,true))
def sV.f (k:Nat) (l0:List (dh)) (a1:Int):Option (Int × Bool):=sV.l0 k a1 (-1) 0 l0 (l0.length:Int) 0
def Xx.f (a0:Int):Option (Int):=some (wrap64 (Int.tdiv (wrap64 ((wrap64 (a0+512)) - 1)) 512))
def xL.j0:Nat→Bool→Int→ByteArray→ByteArray→Int→List (dh)→List Int→Option (Int × Bool)
 | 0,_,_,_,_,_,_,_=>none
 | k+1,x11,akC,akD,akE,aaC,aaD,akF=>if x11=true then (some (0,false)) else ((Xx.f aaC).bind fun t105=>((sV.f k aaD t105).bind fun ac9=>(some (ac9.1,ac9.2))))
def xL.f (k:Nat) (dB:Int) (dA:ByteArray) (dH:ByteArray) (dz:Int) (cB:List (dh)) (cO:List Int):Option (Int × Bool):=if dz<0 then (xL.j0 k true dB dA dH dz cB cO) else (xL.j0 k (decide (dz > 8459264)) dB dA dH dz cB cO)
mutual
def mQ.l0:Nat→List (dh)→Int→List (dh)→Int→Int→Option (Bool)
 | 0,_,_,_,_,_=>none
 | k+1,x1,x5,x8,x9,x10=>if x10<x9 then (if 0≤x10 then (if x10<(x8.length:Int) then (mQ.l1 k x1 x5 x8 x9 x10 ((aQ x8 x10).f0) ((aQ x8 x10).f1)) else (none)) else (none)) else (some true)
def mQ.l1:Nat→List (dh)→Int→List (dh)→Int→Int→Int→Int→Option (Bool)
 | 0,_,_,_,_,_,_,_=>none
 | k+1,x1,x5,x8,x9,x10,TK,TL=>if x5<(x1.length:Int) then (if 0≤x5 then (if ((aQ x1 x5).f1)<TL then (mQ.l1 k x1 (wrap64 (x5+1)) x8 x9 x10 TK TL) else (if x5=(x1.length:Int) then (some false) else (if ((aQ x1 x5).f0) > TK then (some false) else (mQ.l0 k x1 x5 x8 x9 (wrap64 (x10+1)))))) else (none)) else (if x5=(x1.length:Int) then (some false) else (if 0≤x5 then (none) else (none)))
end
def mQ.f (k:Nat) (l0:List (dh)) (l1:List (dh)):Option (Bool):=mQ.l0 k l1 0 l0 (l0.length:Int) 0
end Go.Proofs.YtknihldkhedpkaaGreatDoor.PT
end
