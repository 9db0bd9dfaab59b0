import Derived.Test.YtknihldkhedpkaaGreatDoorYYG1
set_option linter.all false
set_option maxHeartbeats 16000000
set_option maxRecDepth 100000
section
namespace Go.Proofs.YtknihldkhedpkaaGreatDoor.PT
open Go.RowKit Go.Proofs.YtknihldkhedpkaaGreatDoorW.PrintWords Go.Proofs.YtknihldkhedpkaaGreatDoorW.PrintLast Go.Proofs.YtknihldkhedpkaaGreatDoorW.PrintMore
attribute [local go_sem] nQ nR qz qA lU lV nS nT
def pG.f (l0:List (dx)) (a1:Int):Option ((List (dx))):=if (l0.length:Int) > 0 then (if 0≤(wrap64 ((l0.length:Int) - 1)) then (if (wrap64 ((l0.length:Int) - 1))<(l0.length:Int) then (if ((aK l0 (wrap64 ((l0.length:Int) - 1))).f1)=a1 then (some (l0.set ((wrap64 ((l0.length:Int) - 1)):Int).toNat (⟨(aK l0 (wrap64 ((l0.length:Int) - 1))).f0,wrap64 (((aK l0 (wrap64 ((l0.length:Int) - 1))).f1)+1)⟩:dx))) else (if l0.length<8796093022208 then (some (l0++[(⟨a1,wrap64 (a1+1)⟩:dx)])) else (none))) else (none)) else (none)) else (if l0.length<8796093022208 then (some (l0++[(⟨a1,wrap64 (a1+1)⟩:dx)])) else (none))
theorem pG.calls (OB:Nat→Prop) (OC:Value) (l0:List (dx)) (a1:Int) (r:List (dx)) (w0 w:World) (hB:Below w0.heap.size w0 w) (ho0:Kd.R cO 117 w w0.heap.size OB OC l0) (h:pG.f l0 a1=some r) :
  Calls Tryz.prog 92 #[OC,.int .i64 a1] w fun e w'=>∃wm:Value,e=.returned (wm)∧Kd.R cO 117 w' w0.heap.size (fun k_=>(OB k_∨w.heap.size≤k_)) wm r∧Below w0.heap.size w0 w'∧Kept w w' (fun k_=>OB k_):=by
 have QN:=Tryz.underlying117;have CJ:=ah.mk (show Kd.R cO 117 w w0.heap.size (fun k_=>(OB k_∨w.heap.size≤k_)) OC l0 from Kd.dJ ho0 (fun k_ hk=>(.inl hk)));have HK:=ah.mk (Kept.refl w (fun k_=>OB k_));have HW0:=ah.mk hB.size;have HB:=ah.mk hB;clear hB;have H:(if (l0.length:Int) > 0 then (if 0≤(wrap64 ((l0.length:Int) - 1)) then (if (wrap64 ((l0.length:Int) - 1))<(l0.length:Int) then (if ((aK l0 (wrap64 ((l0.length:Int) - 1))).f1)=a1 then (some (l0.set ((wrap64 ((l0.length:Int) - 1)):Int).toNat (⟨(aK l0 (wrap64 ((l0.length:Int) - 1))).f0,wrap64 (((aK l0 (wrap64 ((l0.length:Int) - 1))).f1)+1)⟩:dx))) else (if l0.length<8796093022208 then (some (l0++[(⟨a1,wrap64 (a1+1)⟩:dx)])) else (none))) else (none)) else (none)) else (if l0.length<8796093022208 then (some (l0++[(⟨a1,wrap64 (a1+1)⟩:dx)])) else (none)))=some r:=h;clear h;by_cases c3:(l0.length:Int) > 0
 ·rw[if_pos c3] at H;have ou:decide (0<(l0.length:Int))=true:=decide_eq_true c3;have zh:decide (0<l0.length)=true:=decide_eq_true (by omega);clear c3
  obtain⟨rD,UY⟩:∃j_:Int,(wrap64 ((l0.length:Int) - 1))=j_:=⟨_,rfl⟩
  replace H:(if 0≤(rD) then (if (rD)<(l0.length:Int) then (if ((aK l0 (rD)).f1)=a1 then (some (l0.set ((rD):Int).toNat (⟨(aK l0 (rD)).f0,wrap64 (((aK l0 (rD)).f1)+1)⟩:dx))) else (if l0.length<8796093022208 then (some (l0++[(⟨a1,wrap64 (a1+1)⟩:dx)])) else (none))) else (none)) else (none))=some r:=by first|(rw[UY] at H;exact H)|(simp only[UY] at H ⊢;exact H)
  have amv:(IntKind.i64.wrap ((l0.length:Int) - 1))=rD:=(aG _).trans UY
  by_cases c5:0≤(rD)
  ·rw[if_pos c5] at H;have ER:decide (0≤(rD))=true:=decide_eq_true c5;clear c5
   by_cases c6:(rD)<(l0.length:Int)
   ·rw[if_pos c6] at H;have OD:decide ((rD)<(l0.length:Int))=true:=decide_eq_true c6;clear c6;by_cases c7:((aK l0 (rD)).f1)=a1
    ·rw[if_pos c7] at H;have Xx:(((aK l0 (rD)).f1) == a1)=true:=beq_iff_eq.mpr c7;have abN:(((aK l0 (rD)).f1) != a1)=false:=bne_eq_false_iff_eq.mpr c7;clear c7
     obtain⟨aeM,MC⟩:∃y_:List (dx),y_=(l0.set ((rD):Int).toNat (⟨(aK l0 (rD)).f0,wrap64 (((aK l0 (rD)).f1)+1)⟩:dx)):=⟨_,rfl⟩
     replace H:(some aeM)=some r:=by first|(rw[MC];with_reducible exact H)|(have zk:=(Option.bind_some _ _).symm.trans H;rw[MC];with_reducible exact zk)|(have zk:=(Option.bind_some _ _).symm.trans H;with_reducible exact zk)|with_reducible exact H|(rw[MC];exact H)|exact H
     have aeN:=ah.mk MC;clear MC;obtain rfl:=Option.some.inj H;obtain⟨H8,ES,WB⟩:=Kd.bH CJ.out;subst WB;have OE:0≤((rD):Int):=of_decide_eq_true (by first|(with_reducible assumption)|assumption);have OG:(rD)<(l0.length:Int):=of_decide_eq_true (by first|(with_reducible assumption)|assumption);obtain⟨UZ,abO,QO,QS⟩:=dK (Kd.dB CJ.out).2.2 (rD) OE OG;cases abO;replace OE:=eq_true OE;replace OG:=eq_true OG;have abP:0≤((rD):Int):=of_decide_eq_true (by first|(with_reducible assumption)|assumption);have abQ:(rD)<(l0.length:Int):=of_decide_eq_true (by first|(with_reducible assumption)|assumption);obtain⟨aeO,e143,Xy,Xz⟩:=dK (Kd.dB CJ.out).2.2 (rD) abP abQ
     obtain rfl:UZ=aeO:=(by injection e143)
     replace abP:=eq_true abP;replace abQ:=eq_true abQ;have p8:0≤((rD):Int):=of_decide_eq_true (by first|(with_reducible assumption)|assumption);have q8:((rD):Int)<((l0.length:Int):Int):=of_decide_eq_true (by first|(with_reducible assumption)|assumption);obtain⟨WC,co8,eo8,gb8,gl8,cl8,HG8⟩:=Kd.abR CJ.out (by omega)
     (first|cases eo8|(injection eo8 with ea_ en_ ec_;(first|subst ea_|(injection ea_ with ea_;subst ea_));subst ec_;clear en_))
     have GB8:=ah.mk gb8;have GG8:=ah.mk HG8;clear gb8 gl8 HG8;have amy:=ah.mk (show (OB WC∨w.heap.size≤WC) from (CJ.out.1 _ rfl))
     (first|simp only[add_plain] at QO|skip)
     (first|simp only[add_plain] at QS|skip)
     (first|simp only[add_plain] at Xy|skip)
     (first|simp only[add_plain] at Xz|skip)
     obtain⟨ce8,ajS,hM8,abS,abT⟩:=Kd.OH CJ.out z117 ((rD):Int) p8 q8;obtain rfl:=Ea hM8;have amB:w.cell? ⟨WC,((rD):Int).toNat*2,none⟩=some (.int .i64 ((aK l0 (rD)).f0)):=abS 0 _ rfl;have amC:w.cell? ⟨WC,((rD):Int).toNat*2+1,none⟩=some (.int .i64 ((aK l0 (rD)).f1)):=abS 1 _ rfl;have amD:w.frozen? ⟨WC,((rD):Int).toNat*2,none⟩=false:=abT 0;have amE:w.frozen? ⟨WC,((rD):Int).toNat*2+1,none⟩=false:=abT 1;clear ajS abS abT hM8;replace p8:=eq_true p8;replace q8:=eq_true q8;have aeP:=ah.mk (show Kd.R cO 117 w w0.heap.size (fun k_=>(OB k_∨w.heap.size≤k_)) (.slice (some ⟨WC,0,none⟩) l0.length ES) l0 from (by (with_reducible repeat (first|apply Kd.dz|apply Kd.dA|apply Kd.dO));exact CJ.out));obtain⟨ao2,aap,aeQ,U0,aaq⟩:=Kd.OH aeP.out z117 ((rD):Int) (of_decide_eq_true (by first|(with_reducible assumption)|assumption)) (by have h_:((rD):Int)<((l0.length:Int):Int):=of_decide_eq_true (by first|(with_reducible assumption)|assumption);first|exact h_|(have e_:=(Kd.dB CJ.out).1;omega)|simpa using h_);obtain rfl:=Ea aeQ;have Oe:=Kd.aeR aeP.out ((rD):Int) (of_decide_eq_true (by first|(with_reducible assumption)|assumption)) (by have h_:((rD):Int)<((l0.length:Int):Int):=of_decide_eq_true (by first|(with_reducible assumption)|assumption);first|exact h_|(have e_:=(Kd.dB CJ.out).1;omega)|simpa using h_) (seg:=[.int .i64 (wrap64 (((aK l0 (rD)).f1)+1))]) (j:=1) aap U0 (show 2≤2 from by decide) (x':=(⟨(aK l0 (rD)).f0,wrap64 (((aK l0 (rD)).f1)+1)⟩:dx)) (vW _ _ _ (⟨(aK l0 (rD)).f0,wrap64 (((aK l0 (rD)).f1)+1)⟩:dx) ) (fun _ hk=>hk);have abU:=U0 1 _ rfl
     (try simp only[show (cO).sz=2 from rfl,Nat.mul_one,Nat.add_zero] at abU)
     have abV:=aaq 1
     (try simp only[show (cO).sz=2 from rfl,Nat.mul_one,Nat.add_zero] at abV)
     clear aap U0 aaq aeQ
     go_enter Tryz.func92,Tryz.ntmps92
     go_wp2_with (first|((with_reducible refine OJ (t:=3) (p:=28) rfl ?_);refine ME (t:=3) (p:=28) (v:=?ajT) (w1:=(w.setCell ⟨WC,((rD):Int).toNat*2+1,none⟩ (.int .i64 (wrap64 (((aK l0 (rD)).f1)+1))))) ?hg ?ho ?hn ?hr ?_;(case ho=>rfl);(case hg=>rfl);(case hn=>rfl);(case hr=>first|(go_simp;done)|(go_simp;rfl));intro BO hw;have hg:w.grownBy BO (some WC):=(by rw[hw];exact Oe.2);have hp_:Kd.R cO 117 BO w0.heap.size (fun k_=>(OB k_∨w.heap.size≤k_)) (.slice (some ⟨WC,0,none⟩) l0.length ES) aeM:=(by rw[hw,aeN.out];exact Oe.1);clear Oe;have eF:=ah.mk (hp_);have fG:=ah.mk ((by rw[hw];exact aN (HB.out) GB8.out:Below w0.heap.size w0 BO));have gN:=ah.mk (Kept.Ad (S:=(fun k_=>OB k_)) hg (by repeat (first|(with_reducible first|exact HK.out|apply Kept.alloc|apply Kept.drewN|apply Kept.drew)|exact HK.out)) (fun k_ e_=>(CJ.out.1 k_ e_)));clear CJ;clear HB;clear HK;have CJ:=eF;have HB:=fG;have HK:=gN;clear eF fG gN;clear hg hw hp_))
     go_ret
     exact⟨_,by first|rfl|(simp[aU,aV] <;> rfl)|(simp only[← UY];first|rfl|(simp[aU,aV] <;> rfl))|(simp[*,aU,aV] <;> rfl),by (with_reducible repeat (first|apply Kd.dz|apply Kd.dA|apply Kd.dO));exact CJ.out,by repeat (first|(with_reducible first|exact HB.out|apply ay|apply au|apply aA)|exact HB.out),by repeat (first|(with_reducible first|exact HK.out|apply Kept.alloc|apply Kept.drewN|apply Kept.drew)|exact HK.out)⟩
    ·rw[if_neg c7] at H;have Xx:(((aK l0 (rD)).f1) == a1)=false:=beq_eq_false_iff_ne.mpr c7;have abN:(((aK l0 (rD)).f1) != a1)=true:=bne_iff_ne.mpr c7;by_cases c12:l0.length<8796093022208
     ·rw[if_pos c12] at H;have aeS:=ah.mk c12;clear c12
      obtain⟨ajU,MF⟩:∃y_:List (dx),y_=(l0++[(⟨a1,wrap64 (a1+1)⟩:dx)]):=⟨_,rfl⟩
      replace H:(some ajU)=some r:=by first|(rw[MF];with_reducible exact H)|(have zk:=(Option.bind_some _ _).symm.trans H;rw[MF];with_reducible exact zk)|(have zk:=(Option.bind_some _ _).symm.trans H;with_reducible exact zk)|with_reducible exact H|(rw[MF];exact H)|exact H
      have aeT:=ah.mk MF;clear MF;obtain rfl:=Option.some.inj H;obtain⟨ao3,ajV,ajW⟩:=Kd.bH CJ.out;subst ajW;have OE:0≤((rD):Int):=of_decide_eq_true (by first|(with_reducible assumption)|assumption);have OG:(rD)<(l0.length:Int):=of_decide_eq_true (by first|(with_reducible assumption)|assumption);obtain⟨UZ,abO,QO,QS⟩:=dK (Kd.dB CJ.out).2.2 (rD) OE OG;cases abO;replace OE:=eq_true OE;replace OG:=eq_true OG
      go_enter Tryz.func92,Tryz.ntmps92
      go_wp2_with (first|((with_reducible refine dn (b:=.append) (xs:=#[.tmp 30,.tmp 35]) rfl ?_);at_builtin;refine Kd.jy cO (w0:=w0) w0.heap.size rfl (.tmp 30) (.tmp 35) 26 117 (.agg #[(.int .i64 0),(.int .i64 0)]) 16 rfl Tryz.underlying26 DC rfl (by decide) (by omega) (.slice (some UZ) l0.length ajV) l0 (⟨a1,wrap64 (a1+1)⟩:dx) [.int .i64 a1,.int .i64 (wrap64 (a1+1))] (fun k_=>(OB k_∨w.heap.size≤k_)) (fun _=>False) rfl rfl ?aP (fun _ hk=>hk.elim) ?aF ?aO ?aB ?aS ?aL ?_;(case aP=>exact vW _ _ _ (⟨a1,wrap64 (a1+1)⟩:dx));(case aB=>exact (by repeat (first|(with_reducible first|exact HB.out|apply ay|apply au|apply aA)|exact HB.out)));(case aF=>exact (fun k_ hk=>(.inr (Nat.le_trans (by first|exact HK.out.1|exact (show Kept w _ (fun k_=>OB k_) from by repeat (first|(with_reducible first|exact HK.out|apply Kept.alloc|apply Kept.drewN|apply Kept.drew)|exact HK.out)).1) hk))));(case aO=>exact (by (with_reducible repeat (first|apply Kd.dz|apply Kd.dA|apply Kd.dO));exact CJ.out));(case aS=>exact (bf (by repeat (first|(with_reducible first|exact HB.out|apply ay|apply au|apply aA)|exact HB.out))));(case aL=>have:=aeS.out;omega);intro v146 w14 ho hb hg hat;rw[← aeT.out] at ho;have eF:=ah.mk (hb);have fG:=ah.mk (Kept.Ad (S:=(fun k_=>OB k_)) hg (by repeat (first|(with_reducible first|exact HK.out|apply Kept.alloc|apply Kept.drewN|apply Kept.drew)|exact HK.out)) (fun k_ e_=>(CJ.out.1 k_ e_)));have gN:=ah.mk (ho);clear HB;clear HK;clear CJ;have HB:=eF;have HK:=fG;have aeU:=gN;clear eF fG gN;clear ho hb hg hat))
      go_ret
      exact⟨_,by first|rfl|(simp[aU,aV] <;> rfl)|(simp only[← UY];first|rfl|(simp[aU,aV] <;> rfl))|(simp[*,aU,aV] <;> rfl),by (with_reducible repeat (first|apply Kd.dz|apply Kd.dA|apply Kd.dO));exact aeU.out,by repeat (first|(with_reducible first|exact HB.out|apply ay|apply au|apply aA)|exact HB.out),by repeat (first|(with_reducible first|exact HK.out|apply Kept.alloc|apply Kept.drewN|apply Kept.drew)|exact HK.out)⟩
     ·rw[if_neg c12] at H;exact absurd H (by simp)
   ·rw[if_neg c6] at H;exact absurd H (by simp)
  ·rw[if_neg c5] at H;exact absurd H (by simp)
 ·rw[if_neg c3] at H;have ou:decide (0<(l0.length:Int))=false:=decide_eq_false c3;have zh:decide (0<l0.length)=false:=decide_eq_false (by omega);clear c3;by_cases c15:l0.length<8796093022208
  ·rw[if_pos c15] at H;have aeV:=ah.mk c15;clear c15
   obtain⟨ajX,MG⟩:∃y_:List (dx),y_=(l0++[(⟨a1,wrap64 (a1+1)⟩:dx)]):=⟨_,rfl⟩
   replace H:(some ajX)=some r:=by first|(rw[MG];with_reducible exact H)|(have zk:=(Option.bind_some _ _).symm.trans H;rw[MG];with_reducible exact zk)|(have zk:=(Option.bind_some _ _).symm.trans H;with_reducible exact zk)|with_reducible exact H|(rw[MG];exact H)|exact H
   have aeW:=ah.mk MG;clear MG;obtain rfl:=Option.some.inj H;obtain⟨ajY,ajZ,aj0⟩:=Kd.bH CJ.out;subst aj0
   go_enter Tryz.func92,Tryz.ntmps92
   go_wp2_with (first|((with_reducible refine dn (b:=.append) (xs:=#[.tmp 30,.tmp 35]) rfl ?_);at_builtin;refine Kd.jy cO (w0:=w0) w0.heap.size rfl (.tmp 30) (.tmp 35) 26 117 (.agg #[(.int .i64 0),(.int .i64 0)]) 16 rfl Tryz.underlying26 DC rfl (by decide) (by omega) (.slice ajY l0.length ajZ) l0 (⟨a1,wrap64 (a1+1)⟩:dx) [.int .i64 a1,.int .i64 (wrap64 (a1+1))] (fun k_=>(OB k_∨w.heap.size≤k_)) (fun _=>False) rfl rfl ?aP (fun _ hk=>hk.elim) ?aF ?aO ?aB ?aS ?aL ?_;(case aP=>exact vW _ _ _ (⟨a1,wrap64 (a1+1)⟩:dx));(case aB=>exact (by repeat (first|(with_reducible first|exact HB.out|apply ay|apply au|apply aA)|exact HB.out)));(case aF=>exact (fun k_ hk=>(.inr (Nat.le_trans (by first|exact HK.out.1|exact (show Kept w _ (fun k_=>OB k_) from by repeat (first|(with_reducible first|exact HK.out|apply Kept.alloc|apply Kept.drewN|apply Kept.drew)|exact HK.out)).1) hk))));(case aO=>exact (by (with_reducible repeat (first|apply Kd.dz|apply Kd.dA|apply Kd.dO));exact CJ.out));(case aS=>exact (bf (by repeat (first|(with_reducible first|exact HB.out|apply ay|apply au|apply aA)|exact HB.out))));(case aL=>have:=aeV.out;omega);intro ao5 w17 ho hb hg hat;rw[← aeW.out] at ho;have eF:=ah.mk (hb);have fG:=ah.mk (Kept.Ad (S:=(fun k_=>OB k_)) hg (by repeat (first|(with_reducible first|exact HK.out|apply Kept.alloc|apply Kept.drewN|apply Kept.drew)|exact HK.out)) (fun k_ e_=>(CJ.out.1 k_ e_)));have gN:=ah.mk (ho);clear HB;clear HK;clear CJ;have HB:=eF;have HK:=fG;have aeX:=gN;clear eF fG gN;clear ho hb hg hat))
   go_ret
   exact⟨_,by first|rfl|(simp[aU,aV] <;> rfl)|(simp[*,aU,aV] <;> rfl),by (with_reducible repeat (first|apply Kd.dz|apply Kd.dA|apply Kd.dO));exact aeX.out,by repeat (first|(with_reducible first|exact HB.out|apply ay|apply au|apply aA)|exact HB.out),by repeat (first|(with_reducible first|exact HK.out|apply Kept.alloc|apply Kept.drewN|apply Kept.drew)|exact HK.out)⟩
  ·rw[if_neg c15] at H;exact absurd H (by simp)
def bI.f (a0:Int):Option (Int):=some a0
theorem bI.calls (a0:Int) (r:Int) (w:World) (h:bI.f a0=some r) :
  Calls Tryz.prog 21 #[.int .i64 a0] w fun e w'=>e=.returned (.int .i64 r)∧bF w w':=by
 have H:(some a0)=some r:=h;clear h;obtain rfl:=Option.some.inj H
 go_enter Tryz.func21,Tryz.ntmps21
 go_wp2
 go_ret
 exact⟨by first|rfl|(simp;done)|(simp[*];done),by repeat (first|exact bF.refl _|apply bF.step)⟩
def aR.l0:Nat→List Int→List Int→Int→Option (List Int)
 | 0,_,_,_=>none
 | k+1,x0,x3,x4=>if x4<(x0.length:Int) then (if 0≤x4 then (if x3.length<140737488355328 then (aR.l0 k x0 (x3++[rd x0 x4]) (wrap64 (x4+1))) else (none)) else (none)) else (some x3)
def aR.f (k:Nat) (l0:List Int):Option (List Int):=aR.l0 k l0 ([]:List Int) 0
theorem aR.eG:∀k,(∀y0 y1 y2,bQ (aR.l0 k y0 y1 y2) (aR.l0 (k+1) y0 y1 y2))
 | 0=>fun _ _ _ r h=>by simp[aR.l0] at h
 | k+1=>by
  have jH:=aR.eG k
  ·intro y0 y1 y2;unfold aR.l0
   repeat' first
   | (with_reducible exact jH _ _ _)
   | (with_reducible exact bQ.refl _)
   | (with_reducible exact bQ.none _)
   | (with_reducible refine bQ.ite ?_ ?_)
   | (with_reducible refine bQ.bind ?_ (fun _=>?_))
   | exact jH _ _ _
   | exact bQ.none _
   | refine bQ.ite ?_ ?_
   | refine bQ.bind ?_ (fun _=>?_)
theorem aR.mono:∀a0 k,bQ (aR.f k a0) (aR.f (k+1) a0):=by
 intro a0 k;have jH:=aR.eG k;unfold aR.f
 repeat' first
   | (with_reducible exact jH _ _ _)
   | (with_reducible exact bQ.refl _)
   | (with_reducible exact bQ.none _)
   | (with_reducible refine bQ.ite ?_ ?_)
   | (with_reducible refine bQ.bind ?_ (fun _=>?_))
   | exact jH _ _ _
   | exact bQ.none _
   | refine bQ.ite ?_ ?_
   | refine bQ.bind ?_ (fun _=>?_)
theorem aR.calls (k:Nat) (A0:Option Addr) (c0:Nat) (l0:List Int) (r:List Int) (w:World) (hr0:Kd.C (Kd.int .u8) w A0 l0.length l0) (hc0:l0.length≤c0) (h:aR.f k l0=some r) :
  Calls Tryz.prog 23 #[.slice A0 l0.length c0] w fun e w'=>∃wm:Value,e=.returned (wm)∧Kd.R (Kd.int .u8) 5 w' w.heap.size (fun _=>True) wm r∧Below w.heap.size w w':=by
 have pQ:=ah.mk hr0;have OL:=ah.mk hc0;clear hr0 hc0;have HB:=ah.mk (Below.refl w.heap.size w);have H:(aR.l0 k l0 ([]:List Int) 0)=some r:=h;clear h;have H':=ah.mk H;clear H
 go_enter Tryz.func23,Tryz.ntmps23
 go_wp2
 go_loopg [3,4] k (fun kq v3 v4 w'=>∃(mM:List Int) (dZ:Int),v4=.int .i64 dZ∧ah (aR.l0 kq l0 mM dZ=some r)∧ah (kq≤k)∧ah (Kd.R (Kd.int .u8) 5 w' w.heap.size (fun _=>True) v3 mM)∧ah (Below w.heap.size w w'))
 case atStart=>exact⟨(([]:List Int)),(0),(by first|rfl|(simp;done)|(simp[*];done)),H',⟨Nat.le_refl _⟩,⟨by first|exact Kd.fA _ _ _ _ _|exact Kd.MH _ _ _ _ _|exact Kd.MI _ _ _ _ _|exact Kd.MJ _ _ _ _ _|exact Kd.ET _ _ _ _ _⟩,⟨by repeat (first|(with_reducible first|exact HB.out|apply ay|apply au|apply aA)|exact HB.out)⟩⟩
 case round=>
  clear H';obtain⟨mM,dZ,rfl,HA,jC,vR,HB⟩:=hrel
  cases gk with
  | zero=>exact absurd HA.out (by simp[aR.l0])
  | succ k1=>
   have H:=HA.out;clear HA;simp only[aR.l0] at H
   by_cases c2:dZ<(l0.length:Int)
   ·rw[if_pos c2] at H;have H9:decide (dZ<(l0.length:Int))=true:=decide_eq_true c2;clear c2;by_cases c3:0≤dZ
    ·rw[if_pos c3] at H;have ou:decide (0≤dZ)=true:=decide_eq_true c3;clear c3;by_cases c4:mM.length<140737488355328
     ·rw[if_pos c4] at H;have abW:=ah.mk c4;clear c4
      obtain⟨aeY,MK⟩:∃y_:List Int,y_=(mM++[rd l0 dZ]):=⟨_,rfl⟩
      replace H:(aR.l0 k1 l0 aeY (wrap64 (dZ+1)))=some r:=by first|(rw[MK];with_reducible exact H)|(have zk:=(Option.bind_some _ _).symm.trans H;rw[MK];with_reducible exact zk)|(have zk:=(Option.bind_some _ _).symm.trans H;with_reducible exact zk)|with_reducible exact H|(rw[MK];exact H)|exact H
      have aeZ:=ah.mk MK;clear MK;have H':=ah.mk H;clear H;have abX:0≤(dZ:Int):=of_decide_eq_true (by first|(with_reducible assumption)|assumption);have abY:dZ<(l0.length:Int):=of_decide_eq_true (by first|(with_reducible assumption)|assumption);obtain⟨amG,aj1,J6⟩:=Kd.rU pQ.out dZ abX abY;cases aj1;replace J6:=(HB.out.cell (World.block_lt_of_cell? w _ J6)).trans J6;replace abX:=eq_true abX;replace abY:=eq_true abY
      go_wp2_with (first|((with_reducible refine dn (b:=.append) (xs:=#[.tmp 11,.tmp 16]) rfl ?_);at_builtin;refine Kd.jy (Kd.int .u8) (w0:=w) w.heap.size rfl (.tmp 11) (.tmp 16) 27 5 (.int .u8 0) 1 rfl Tryz.underlying27 info5 rfl (by decide) (by omega) u3 mM (rd l0 dZ) [.int .u8 (rd l0 dZ)] (fun _=>True) (fun _=>False) rfl rfl ?aP (fun _ hk=>hk.elim) ?aF ?aO ?aB ?aS ?aL ?_;(case aP=>exact rfl);(case aB=>exact (by repeat (first|(with_reducible first|exact HB.out|apply ay|apply au|apply aA)|exact HB.out)));(case aF=>exact (fun _ _=>trivial));(case aO=>exact (by (with_reducible repeat (first|apply Kd.dz|apply Kd.dA|apply Kd.dO));exact vR.out));(case aS=>exact (bf (by repeat (first|(with_reducible first|exact HB.out|apply ay|apply au|apply aA)|exact HB.out))));(case aL=>have:=abW.out;omega);intro ao6 w5 ho hb hg hat;rw[← aeZ.out] at ho;have eF:=ah.mk (hb);have fG:=ah.mk (ho);clear HB;clear vR;have HB:=eF;have ae0:=fG;clear eF fG;clear ho hb hg hat))
      go_roundg k1
      case measure=>have:=jC.out;omega
      case rel=>exact⟨(aeY),(wrap64 (dZ+1)),(by first|rfl|(simp;done)|(simp[*];done)),H',⟨by have:=jC.out;omega⟩,⟨by (with_reducible repeat (first|apply Kd.dz|apply Kd.dA|apply Kd.dO));exact ae0.out⟩,⟨by repeat (first|(with_reducible first|exact HB.out|apply ay|apply au|apply aA)|exact HB.out)⟩⟩
     ·rw[if_neg c4] at H;exact absurd H (by simp)
    ·rw[if_neg c3] at H;exact absurd H (by simp)
   ·rw[if_neg c2] at H;have H9:decide (dZ<(l0.length:Int))=false:=decide_eq_false c2;clear c2;obtain rfl:=Option.some.inj H
    go_wp2
    go_ret
    exact⟨_,by first|rfl|(simp[aU,aV] <;> rfl)|(simp[*,aU,aV] <;> rfl),by (with_reducible repeat (first|apply Kd.dz|apply Kd.dA|apply Kd.dO));exact vR.out,by repeat (first|(with_reducible first|exact HB.out|apply ay|apply au|apply aA)|exact HB.out)⟩
def dw.f (l0:List Int) (l1:List Int):Option (Bool):=some ((strOfNums l0).toList == (strOfNums l1).toList)
theorem dw.calls (A0:Option Addr) (c0:Nat) (l0:List Int) (A1:Option Addr) (c1:Nat) (l1:List Int) (r:Bool) (w:World) (hr0:Kd.C (Kd.int .u8) w A0 l0.length l0) (hc0:l0.length≤c0) (hr1:Kd.C (Kd.int .u8) w A1 l1.length l1) (hc1:l1.length≤c1) (h:dw.f l0 l1=some r) :
  Calls Tryz.prog 25 #[.slice A0 l0.length c0,.slice A1 l1.length c1] w fun e w'=>e=.returned (.bool r)∧bF w w':=by
 have pQ:=ah.mk hr0;have OL:=ah.mk hc0;clear hr0 hc0;have HR1:=ah.mk hr1;have Hl:=ah.mk hc1;clear hr1 hc1;have H:(some ((strOfNums l0).toList == (strOfNums l1).toList))=some r:=h;clear h;obtain rfl:=Option.some.inj H;have aj2:=Kd.pW (P:=Tryz.prog) (A:=A0) (c:=c0) Tryz.underlying27 Tryz.underlying5 Tryz.underlying9 pQ.out;have aj3:=Kd.pW (P:=Tryz.prog) (A:=A1) (c:=c1) Tryz.underlying27 Tryz.underlying5 Tryz.underlying9 HR1.out
 go_enter Tryz.func25,Tryz.ntmps25
 go_wp2
 go_ret
 exact⟨by first|rfl|(simp;done)|(simp[*];done),by repeat (first|exact bF.refl _|apply bF.step)⟩
def aY.l0:Nat→List (dx)→List (dx)→Int→Option (Bool)
 | 0,_,_,_=>none
 | k+1,x0,x1,x5=>if x5<(x0.length:Int) then (if 0≤x5 then (if x5<(x1.length:Int) then (if ((aK x0 x5).f0)=((aK x1 x5).f0) then (if ((aK x0 x5).f1)=((aK x1 x5).f1) then (aY.l0 k x0 x1 (wrap64 (x5+1))) else (some false)) else (some false)) else (none)) else (none)) else (some true)
def aY.f (k:Nat) (l0:List (dx)) (l1:List (dx)):Option (Bool):=if (l0.length:Int)=(l1.length:Int) then (aY.l0 k l0 l1 0) else (some false)
theorem aY.eG:∀k,(∀y0 y1 y2,bQ (aY.l0 k y0 y1 y2) (aY.l0 (k+1) y0 y1 y2))
 | 0=>fun _ _ _ r h=>by simp[aY.l0] at h
 | k+1=>by
  have jH:=aY.eG k
  ·intro y0 y1 y2;unfold aY.l0
   repeat' first
   | (with_reducible exact jH _ _ _)
   | (with_reducible exact bQ.refl _)
   | (with_reducible exact bQ.none _)
   | (with_reducible refine bQ.ite ?_ ?_)
   | (with_reducible refine bQ.bind ?_ (fun _=>?_))
   | exact jH _ _ _
   | exact bQ.none _
   | refine bQ.ite ?_ ?_
   | refine bQ.bind ?_ (fun _=>?_)
theorem aY.mono:∀a0 a1 k,bQ (aY.f k a0 a1) (aY.f (k+1) a0 a1):=by
 intro a0 a1 k;have jH:=aY.eG k;unfold aY.f
 repeat' first
   | (with_reducible exact jH _ _ _)
   | (with_reducible exact bQ.refl _)
   | (with_reducible exact bQ.none _)
   | (with_reducible refine bQ.ite ?_ ?_)
   | (with_reducible refine bQ.bind ?_ (fun _=>?_))
   | exact jH _ _ _
   | exact bQ.none _
   | refine bQ.ite ?_ ?_
   | refine bQ.bind ?_ (fun _=>?_)
theorem aY.calls (k:Nat) (A0:Option Addr) (c0:Nat) (l0:List (dx)) (A1:Option Addr) (c1:Nat) (l1:List (dx)) (r:Bool) (w:World) (hr0:Kd.C cO w A0 l0.length l0) (hc0:l0.length≤c0) (hr1:Kd.C cO w A1 l1.length l1) (hc1:l1.length≤c1) (h:aY.f k l0 l1=some r) :
  Calls Tryz.prog 70 #[.slice A0 l0.length c0,.slice A1 l1.length c1] w fun e w'=>e=.returned (.bool r)∧bF w w':=by
 have pQ:=ah.mk hr0;have OL:=ah.mk hc0;clear hr0 hc0;have HR1:=ah.mk hr1;have Hl:=ah.mk hc1;clear hr1 hc1;have H:(if (l0.length:Int)=(l1.length:Int) then (aY.l0 k l0 l1 0) else (some false))=some r:=h;clear h
 by_cases c3:(l0.length:Int)=(l1.length:Int)
 ·rw[if_pos c3] at H;have ou:((l0.length:Int) == (l1.length:Int))=true:=beq_iff_eq.mpr c3;have zh:((l0.length:Int) != (l1.length:Int))=false:=bne_eq_false_iff_eq.mpr c3
  have U1:(l0.length == l1.length)=true:=by first|simpa using c3|(simp at c3 ⊢;omega)
  clear c3;have H':=ah.mk H;clear H
  go_enter Tryz.func70,Tryz.ntmps70
  go_wp2
  repeat (go_quiet (fail);try go_wp2)
  go_loopg [5] k (fun kq v5 w'=>∃(aW:Int),v5=.int .i64 aW∧ah (aY.l0 kq l0 l1 aW=some r)∧ah (kq≤k)∧bF w w')
  case atStart=>exact⟨(0),(by first|rfl|(simp;done)|(simp[*];done)),H',⟨Nat.le_refl _⟩,by repeat (first|exact bF.refl _|apply bF.step)⟩
  case round=>
   clear H'
   try clear c1
   try clear p2
   try clear c3
   try clear ou
   try clear zh
   try clear U1
   obtain⟨aW,rfl,HA,jC,⟨m1,rfl⟩⟩:=hrel
   cases gk with
   | zero=>exact absurd HA.out (by simp[aY.l0])
   | succ k1=>
    have H:=HA.out;clear HA;simp only[aY.l0] at H
    by_cases c4:aW<(l0.length:Int)
    ·rw[if_pos c4] at H;have mO:decide (aW<(l0.length:Int))=true:=decide_eq_true c4;clear c4;by_cases c5:0≤aW
     ·rw[if_pos c5] at H;have ER:decide (0≤aW)=true:=decide_eq_true c5;clear c5
      by_cases c6:aW<(l1.length:Int)
      ·rw[if_pos c6] at H;have OD:decide (aW<(l1.length:Int))=true:=decide_eq_true c6;clear c6
       by_cases c7:((aK l0 aW).f0)=((aK l1 aW).f0)
       ·rw[if_pos c7] at H;have Xx:(((aK l0 aW).f0) == ((aK l1 aW).f0))=true:=beq_iff_eq.mpr c7;have abN:(((aK l0 aW).f0) != ((aK l1 aW).f0))=false:=bne_eq_false_iff_eq.mpr c7;clear c7
        by_cases c8:((aK l0 aW).f1)=((aK l1 aW).f1)
        ·rw[if_pos c8] at H;have XA:(((aK l0 aW).f1) == ((aK l1 aW).f1))=true:=beq_iff_eq.mpr c8;have aj4:(((aK l0 aW).f1) != ((aK l1 aW).f1))=false:=bne_eq_false_iff_eq.mpr c8;clear c8;have H':=ah.mk H;clear H;have EU:0≤(aW:Int):=of_decide_eq_true (by first|(with_reducible assumption)|assumption);have EW:aW<(l0.length:Int):=of_decide_eq_true (by first|(with_reducible assumption)|assumption);obtain⟨QT,U2,QU,QV⟩:=dK pQ.out aW EU EW;cases U2;replace EU:=eq_true EU;replace EW:=eq_true EW;have EX:0≤(aW:Int):=of_decide_eq_true (by first|(with_reducible assumption)|assumption);have EY:aW<(l1.length:Int):=of_decide_eq_true (by first|(with_reducible assumption)|assumption);obtain⟨QW,e181,QX,QY⟩:=dK HR1.out aW EX EY;cases e181;replace EX:=eq_true EX;replace EY:=eq_true EY;have OM:0≤(aW:Int):=of_decide_eq_true (by first|(with_reducible assumption)|assumption);have OO:aW<(l0.length:Int):=of_decide_eq_true (by first|(with_reducible assumption)|assumption);obtain⟨U3,abZ,XB,XC⟩:=dK pQ.out aW OM OO
         obtain rfl:QT=U3:=(by injection abZ)
         replace OM:=eq_true OM;replace OO:=eq_true OO;have OP:0≤(aW:Int):=of_decide_eq_true (by first|(with_reducible assumption)|assumption);have OQ:aW<(l1.length:Int):=of_decide_eq_true (by first|(with_reducible assumption)|assumption);obtain⟨U4,ab0,XD,XE⟩:=dK HR1.out aW OP OQ
         obtain rfl:QW=U4:=(by injection ab0)
         replace OP:=eq_true OP;replace OQ:=eq_true OQ
         go_wp2
         repeat (go_quiet (fail);try go_wp2)
         go_roundg k1
         case measure=>have:=jC.out;omega
         case rel=>exact⟨(wrap64 (aW+1)),(by first|rfl|(simp;done)|(simp[*];done)),H',⟨by have:=jC.out;omega⟩,by repeat (first|exact bF.refl _|apply bF.step)⟩
        ·rw[if_neg c8] at H;have XA:(((aK l0 aW).f1) == ((aK l1 aW).f1))=false:=beq_eq_false_iff_ne.mpr c8;have aj4:(((aK l0 aW).f1) != ((aK l1 aW).f1))=true:=bne_iff_ne.mpr c8;obtain rfl:=Option.some.inj H;have EU:0≤(aW:Int):=of_decide_eq_true (by first|(with_reducible assumption)|assumption);have EW:aW<(l0.length:Int):=of_decide_eq_true (by first|(with_reducible assumption)|assumption);obtain⟨QT,U2,QU,QV⟩:=dK pQ.out aW EU EW;cases U2;replace EU:=eq_true EU;replace EW:=eq_true EW;have EX:0≤(aW:Int):=of_decide_eq_true (by first|(with_reducible assumption)|assumption);have EY:aW<(l1.length:Int):=of_decide_eq_true (by first|(with_reducible assumption)|assumption);obtain⟨QW,e181,QX,QY⟩:=dK HR1.out aW EX EY;cases e181;replace EX:=eq_true EX;replace EY:=eq_true EY;have OM:0≤(aW:Int):=of_decide_eq_true (by first|(with_reducible assumption)|assumption);have OO:aW<(l0.length:Int):=of_decide_eq_true (by first|(with_reducible assumption)|assumption);obtain⟨U3,abZ,XB,XC⟩:=dK pQ.out aW OM OO
         obtain rfl:QT=U3:=(by injection abZ)
         replace OM:=eq_true OM;replace OO:=eq_true OO;have OP:0≤(aW:Int):=of_decide_eq_true (by first|(with_reducible assumption)|assumption);have OQ:aW<(l1.length:Int):=of_decide_eq_true (by first|(with_reducible assumption)|assumption);obtain⟨U4,ab0,XD,XE⟩:=dK HR1.out aW OP OQ
         obtain rfl:QW=U4:=(by injection ab0)
         replace OP:=eq_true OP;replace OQ:=eq_true OQ
         go_wp2
         repeat (go_quiet (fail);try go_wp2)
         go_ret
         exact⟨by first|rfl|(simp;done)|(simp[*];done),by repeat (first|exact bF.refl _|apply bF.step)⟩
       ·rw[if_neg c7] at H;have Xx:(((aK l0 aW).f0) == ((aK l1 aW).f0))=false:=beq_eq_false_iff_ne.mpr c7;have abN:(((aK l0 aW).f0) != ((aK l1 aW).f0))=true:=bne_iff_ne.mpr c7;obtain rfl:=Option.some.inj H;have EU:0≤(aW:Int):=of_decide_eq_true (by first|(with_reducible assumption)|assumption);have EW:aW<(l0.length:Int):=of_decide_eq_true (by first|(with_reducible assumption)|assumption);obtain⟨QT,U2,QU,QV⟩:=dK pQ.out aW EU EW;cases U2;replace EU:=eq_true EU;replace EW:=eq_true EW;have EX:0≤(aW:Int):=of_decide_eq_true (by first|(with_reducible assumption)|assumption);have EY:aW<(l1.length:Int):=of_decide_eq_true (by first|(with_reducible assumption)|assumption);obtain⟨QW,e181,QX,QY⟩:=dK HR1.out aW EX EY;cases e181;replace EX:=eq_true EX;replace EY:=eq_true EY
        go_wp2
        repeat (go_quiet (fail);try go_wp2)
        go_ret
        exact⟨by first|rfl|(simp;done)|(simp[*];done),by repeat (first|exact bF.refl _|apply bF.step)⟩
      ·rw[if_neg c6] at H;exact absurd H (by simp)
     ·rw[if_neg c5] at H;exact absurd H (by simp)
    ·rw[if_neg c4] at H;have mO:decide (aW<(l0.length:Int))=false:=decide_eq_false c4;clear c4;obtain rfl:=Option.some.inj H
     go_wp2
     repeat (go_quiet (fail);try go_wp2)
     go_ret
     exact⟨by first|rfl|(simp;done)|(simp[*];done),by repeat (first|exact bF.refl _|apply bF.step)⟩
 ·rw[if_neg c3] at H;have ou:((l0.length:Int) == (l1.length:Int))=false:=beq_eq_false_iff_ne.mpr c3;have zh:((l0.length:Int) != (l1.length:Int))=true:=bne_iff_ne.mpr c3
  have U1:(l0.length == l1.length)=false:=by first|simpa using c3|(simp at c3 ⊢;omega)
  obtain rfl:=Option.some.inj H
  go_enter Tryz.func70,Tryz.ntmps70
  go_wp2
  repeat (go_quiet (fail);try go_wp2)
  go_ret
  exact⟨by first|rfl|(simp;done)|(simp[*];done),by repeat (first|exact bF.refl _|apply bF.step)⟩
end Go.Proofs.YtknihldkhedpkaaGreatDoor.PT
end
section
namespace Go.Proofs.YtknihldkhedpkaaGreatDoor
open Go.RowKit
open Go.Proofs.YtknihldkhedpkaaGreatDoorW.PrintWords Go.Proofs.YtknihldkhedpkaaGreatDoorW.PrintLast Go.Proofs.YtknihldkhedpkaaGreatDoor.PT
theorem QZ (l:List Rn) (i:Int) (hl:l.length<8796093022208) (h0:0≤i) (h1:i≤140737488351232):pG.f l i=some (mR l i):=by
 unfold pG.f mR
 have hw:wrap64 (i+1)=i+1:=by unfold wrap64;omega
 rcases List.eq_nil_or_concat l with rfl|⟨l',r,rfl⟩
 ·rw[if_neg (by simp),if_pos (by simp),hw];rfl
 ·rw[List.concat_eq_append] at hl ⊢
  have hlen:(l'++[r]).length=l'.length+1:=by simp
  have hw2:wrap64 (((l'++[r]).length:Int) - 1)=(l'.length:Int):=by rw[hlen] at hl ⊢;unfold wrap64;omega
  have hrd:aK (l'++[r]) (l'.length:Int)=r:=by simp[aK]
  rw[hw2,hrd,if_pos (by rw[hlen];omega),if_pos (Int.natCast_nonneg _),if_pos (by rw[hlen];push_cast;omega),hw];rw[show (l'++[r]).getLast?=some r by simp];dsimp only;by_cases e:r.f1=i
  ·rw[if_pos e,if_pos e];rw[e,hw];simp
  ·rw[if_neg e,if_neg e,if_pos hl]
end Go.Proofs.YtknihldkhedpkaaGreatDoor
end
