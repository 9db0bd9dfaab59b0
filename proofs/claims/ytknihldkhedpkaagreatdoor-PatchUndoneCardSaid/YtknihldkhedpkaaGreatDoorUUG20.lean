import Derived.Test.YtknihldkhedpkaaGreatDoorUUG1
import Derived.Test.YtknihldkhedpkaaGreatDoorUUG19
import Derived.Test.YtknihldkhedpkaaGreatDoorUUG18
import Derived.Test.YtknihldkhedpkaaGreatDoorUUG7
import Derived.Test.YtknihldkhedpkaaGreatDoorUUG11
import Derived.Test.YtknihldkhedpkaaGreatDoorUUG14
import Derived.Defers
import Derived.Recover
set_option linter.all false
set_option maxHeartbeats 16000000
set_option maxRecDepth 100000
section
namespace Go.Proofs.YtknihldkhedpkaaGreatDoor.PT
open Go.RowKit Go.Proofs.YtknihldkhedpkaaGreatDoorW.PrintWords Go.Proofs.YtknihldkhedpkaaGreatDoorW.PrintLast Go.Proofs.YtknihldkhedpkaaGreatDoorW.PrintMore
attribute [local go_sem] oJ oK rC rD mW mX oL oM
def aN.l0:Nat→List (nI)→List (nI)→Int→Option (Bool)
 | 0,_,_,_=>none
 | k+1,x0,x1,x5=>if x5<(x0.length:Int) then (if 0≤x5 then (if x5<(x1.length:Int) then ((bM.f ((aJ x0 x5).f0) ((aJ x0 x5).f1) ((aJ x0 x5).f2) ((aJ x0 x5).f3) ((aJ x0 x5).f4) ((aJ x0 x5).f5) ((aJ x1 x5).f0) ((aJ x1 x5).f1) ((aJ x1 x5).f2) ((aJ x1 x5).f3) ((aJ x1 x5).f4) ((aJ x1 x5).f5)).bind fun ZH=>(if ZH=true then (aN.l0 k x0 x1 (wrap64 (x5+1))) else (some false))) else (none)) else (none)) else (some true)
def aN.f (k:Nat) (l0:List (nI)) (l1:List (nI)):Option (Bool):=if (l0.length:Int)=(l1.length:Int) then (aN.l0 k l0 l1 0) else (some false)
theorem aN.fC:∀k,(∀y0 y1 y2,bW (aN.l0 k y0 y1 y2) (aN.l0 (k+1) y0 y1 y2))
 | 0=>fun _ _ _ r h=>by simp[aN.l0] at h
 | k+1=>by
  have j6:=aN.fC k
  ·intro y0 y1 y2;unfold aN.l0
   repeat' first
   | (with_reducible exact j6 _ _ _)
   | (with_reducible exact bW.refl _)
   | (with_reducible exact bW.none _)
   | (with_reducible refine bW.ite ?_ ?_)
   | (with_reducible refine bW.bind ?_ (fun _=>?_))
   | exact j6 _ _ _
   | exact bW.none _
   | refine bW.ite ?_ ?_
   | refine bW.bind ?_ (fun _=>?_)
theorem aN.mono:∀a0 a1 k,bW (aN.f k a0 a1) (aN.f (k+1) a0 a1):=by
 intro a0 a1 k;have j6:=aN.fC k;unfold aN.f
 repeat' first
   | (with_reducible exact j6 _ _ _)
   | (with_reducible exact bW.refl _)
   | (with_reducible exact bW.none _)
   | (with_reducible refine bW.ite ?_ ?_)
   | (with_reducible refine bW.bind ?_ (fun _=>?_))
   | exact j6 _ _ _
   | exact bW.none _
   | refine bW.ite ?_ ?_
   | refine bW.bind ?_ (fun _=>?_)
def aN.T6:Bool × List (List Nat × List Nat):=(true,[([],[]),([],[]),([0,1],[0,1]),([2],[2]),([],[]),([],[]),([4,5],[4,5]),([6],[6]),([3,7],[3,7]),([8],[8])])
def aN.B6:List Nat:=[0,0,3,7,0,0,48,112,255,511]
theorem aN.ahb:tJ .any (opsOf Tryz.f24 6)=aN.T6:=by kernel_rfl
theorem aN.ab1:vY aN.T6.2 aN.B6=true:=by kernel_rfl
theorem aN.calls (k:Nat) (A0:Option Addr) (c0:Nat) (l0:List (nI)) (A1:Option Addr) (c1:Nat) (l1:List (nI)) (r:Bool) (w:World) (hr0:Kd.C om w A0 l0.length l0) (hc0:l0.length≤c0) (hr1:Kd.C om w A1 l1.length l1) (hc1:l1.length≤c1) (h:aN.f k l0 l1=some r) :
  Calls Tryz.prog 24 #[.slice A0 l0.length c0,.slice A1 l1.length c1] w fun e w'=>e=.returned (.bool r)∧Below w.heap.size w w':=by
 have Qq:=Tryz.underlying29;have qP:=ah.mk hr0;have Qp:=ah.mk hc0;clear hr0 hc0;have HR1:=ah.mk hr1;have I8:=ah.mk hc1;clear hr1 hc1;have HB:=ah.mk (Below.refl w.heap.size w);have H:(if (l0.length:Int)=(l1.length:Int) then (aN.l0 k l0 l1 0) else (some false))=some r:=h;clear h
 by_cases c3:(l0.length:Int)=(l1.length:Int)
 ·rw[if_pos c3] at H;have o9:((l0.length:Int) == (l1.length:Int))=true:=beq_iff_eq.mpr c3;have Aj:((l0.length:Int) != (l1.length:Int))=false:=bne_eq_false_iff_eq.mpr c3
  have WV:(l0.length == l1.length)=true:=by first|simpa using c3|(simp at c3 ⊢;omega)
  clear c3;have H':=ah.mk H;clear H
  go_enter Tryz.func24,Tryz.ntmps24
  go_wp2
  go_loopg [5] k (fun kq v5 w'=>∃(aZ:Int),v5=.int .i64 aZ∧ah (aN.l0 kq l0 l1 aZ=some r)∧ah (kq≤k)∧ah (Below w.heap.size w w'))
  case atStart=>exact⟨(0),eG,H',⟨Nat.le_refl _⟩,⟨by repeat (first|(with_reducible first|exact HB.out|apply aH|apply av|apply aI)|exact HB.out)⟩⟩
  case round=>
   clear H'
   try clear c1
   try clear c2
   try clear p2
   try clear c3
   try clear o9
   try clear Aj
   try clear WV
   obtain⟨aZ,rfl,HA,jY,HB⟩:=hrel
   cases gk with
   | zero=>exact absurd HA.out (by simp[aN.l0])
   | succ k1=>
    have H:=HA.out;clear HA;simp only[aN.l0] at H
    by_cases c4:aZ<(l0.length:Int)
    ·rw[if_pos c4] at H;have nL:decide (aZ<(l0.length:Int))=true:=decide_eq_true c4;clear c4;by_cases c5:0≤aZ
     ·rw[if_pos c5] at H;have Gc:decide (0≤aZ)=true:=decide_eq_true c5;clear c5
      by_cases c6:aZ<(l1.length:Int)
      ·rw[if_pos c6] at H;have QC:decide (aZ<(l1.length:Int))=true:=decide_eq_true c6;clear c6;replace H:=Option.bind_eq_some_iff.mp H;obtain⟨ZH,A70,H⟩:=H;replace H:(if ZH=true then (aN.l0 k1 l0 l1 (wrap64 (aZ+1))) else (some false))=some r:=H;have A7:=ah.mk A70;clear A70;by_cases c8:ZH=true
       ·subst c8
        have H1:(aN.l0 k1 l0 l1 (wrap64 (aZ+1)))=some r:=by rw[if_pos rfl] at H;exact H
        clear H;have H:=H1;clear H1;have H':=ah.mk H;clear H
        try go_wp2
        have fD:=ah.mk (aI HB.out);clear HB;have HB:=fD;clear fD;have QM:0≤(aZ:Int):=of_decide_eq_true bS;have QN:aZ<(l0.length:Int):=of_decide_eq_true bS;obtain⟨mQ,Gr,Gs,Gt,Gu,e245,pE,pF,pG,pI,pJ,pK,BH,BI,BJ,BK⟩:=oo qP.out aZ QM QN;have rR:=pK;have rT:=pJ;have rU:=pI;have rV:=pG;have rW:=pF;have rX:=pE;cases e245;replace pE:=(HB.out.cell (World.block_lt_of_cell? w _ pE)).trans pE;replace pF:=(HB.out.cell (World.block_lt_of_cell? w _ pF)).trans pF;replace pG:=(HB.out.cell (World.block_lt_of_cell? w _ pG)).trans pG;replace pI:=(HB.out.cell (World.block_lt_of_cell? w _ pI)).trans pI;replace pJ:=(HB.out.cell (World.block_lt_of_cell? w _ pJ)).trans pJ;replace pK:=(HB.out.cell (World.block_lt_of_cell? w _ pK)).trans pK;have BL:=ah.mk BI;have LK:=ah.mk BH;clear BI BH;have BM:=ah.mk BK;have LM:=ah.mk BJ;clear BK BJ;replace QM:=eq_true QM;replace QN:=eq_true QN;have QO:0≤(aZ:Int):=of_decide_eq_true bS;have QS:aZ<(l1.length:Int):=of_decide_eq_true bS;obtain⟨mR,Gv,Gw,Gx,Gy,e246,pO,pQ,pR,pU,pV,pW,BN,BO,BP,BQ⟩:=oo HR1.out aZ QO QS;have rY:=pW;have rZ:=pV;have r9:=pU;have sj:=pR;have su:=pQ;have sw:=pO;cases e246;replace pO:=(HB.out.cell (World.block_lt_of_cell? w _ pO)).trans pO;replace pQ:=(HB.out.cell (World.block_lt_of_cell? w _ pQ)).trans pQ;replace pR:=(HB.out.cell (World.block_lt_of_cell? w _ pR)).trans pR;replace pU:=(HB.out.cell (World.block_lt_of_cell? w _ pU)).trans pU;replace pV:=(HB.out.cell (World.block_lt_of_cell? w _ pV)).trans pV;replace pW:=(HB.out.cell (World.block_lt_of_cell? w _ pW)).trans pW;have BR:=ah.mk BO;have LP:=ah.mk BN;clear BO BN;have BS:=ah.mk BQ;have LQ:=ah.mk BP;clear BQ BP;replace QO:=eq_true QO;replace QS:=eq_true QS
        refine kY (n:=10) (S:=fun w'=>w'.cell? (mQ.add ((aZ).toNat*6))=some (.int .i64 ((aJ l0 aZ).f0))∧w'.cell? ⟨(mQ.add ((aZ).toNat*6)).block,(mQ.add ((aZ).toNat*6)).off+1,none⟩=some (.string ((aJ l0 aZ).f1))∧w'.cell? ⟨(mQ.add ((aZ).toNat*6)).block,(mQ.add ((aZ).toNat*6)).off+2,none⟩=some (.string ((aJ l0 aZ).f2))∧w'.cell? ⟨(mQ.add ((aZ).toNat*6)).block,(mQ.add ((aZ).toNat*6)).off+3,none⟩=some (.int .i64 ((aJ l0 aZ).f3))∧w'.cell? ⟨(mQ.add ((aZ).toNat*6)).block,(mQ.add ((aZ).toNat*6)).off+4,none⟩=some (.slice Gr ((aJ l0 aZ).f4).length Gs)∧w'.cell? ⟨(mQ.add ((aZ).toNat*6)).block,(mQ.add ((aZ).toNat*6)).off+5,none⟩=some (.slice Gt ((aJ l0 aZ).f5).length Gu)∧w'.cell? (mR.add ((aZ).toNat*6))=some (.int .i64 ((aJ l1 aZ).f0))∧w'.cell? ⟨(mR.add ((aZ).toNat*6)).block,(mR.add ((aZ).toNat*6)).off+1,none⟩=some (.string ((aJ l1 aZ).f1))∧w'.cell? ⟨(mR.add ((aZ).toNat*6)).block,(mR.add ((aZ).toNat*6)).off+2,none⟩=some (.string ((aJ l1 aZ).f2))∧w'.cell? ⟨(mR.add ((aZ).toNat*6)).block,(mR.add ((aZ).toNat*6)).off+3,none⟩=some (.int .i64 ((aJ l1 aZ).f3))∧w'.cell? ⟨(mR.add ((aZ).toNat*6)).block,(mR.add ((aZ).toNat*6)).off+4,none⟩=some (.slice Gv ((aJ l1 aZ).f4).length Gw)∧w'.cell? ⟨(mR.add ((aZ).toNat*6)).block,(mR.add ((aZ).toNat*6)).off+5,none⟩=some (.slice Gx ((aJ l1 aZ).f5).length Gy)) (ds:=[]) (aQ 10 0) aA rfl rfl ⟨((HB.out.cell (World.block_lt_of_cell? w _ rX)).trans rX),((HB.out.cell (World.block_lt_of_cell? w _ rW)).trans rW),((HB.out.cell (World.block_lt_of_cell? w _ rV)).trans rV),((HB.out.cell (World.block_lt_of_cell? w _ rU)).trans rU),((HB.out.cell (World.block_lt_of_cell? w _ rT)).trans rT),((HB.out.cell (World.block_lt_of_cell? w _ rR)).trans rR),((HB.out.cell (World.block_lt_of_cell? w _ sw)).trans sw),((HB.out.cell (World.block_lt_of_cell? w _ su)).trans su),((HB.out.cell (World.block_lt_of_cell? w _ sj)).trans sj),((HB.out.cell (World.block_lt_of_cell? w _ r9)).trans r9),((HB.out.cell (World.block_lt_of_cell? w _ rZ)).trans rZ),((HB.out.cell (World.block_lt_of_cell? w _ rY)).trans rY)⟩ (fun hHeld=>?_);refine yQ aN.ahb aN.ab1 (fun tK Xa=>?_);generalize wr.drew=w9 at HB BL BM BR BS pE pF pG pI pJ pK pO pQ pR pU pV pW hHeld ⊢;refine fP (i:=0) (N:=some 17) (v:=?_) (a':=?_) (aQ 10 1) rfl rfl (jE tK.out aA) (fun _ _ _ h=>h) (Or.inl ⟨by rfl,?_⟩) ?_ ?_;rotate_left
        ·intro w'
         go_simp
         with_reducible rfl
        rotate_left
        ·simp only[Act.put,aYa,aYb,aYc,dn,dA];rfl
        refine fP (i:=1) (N:=some 18) (v:=?_) (a':=?_) (aQ 10 3) rfl rfl (jE tK.out aA) (fun _ _ _ h=>h) (Or.inl ⟨by rfl,?_⟩) ?_ ?_;rotate_left
        ·intro w'
         go_simp
         with_reducible rfl
        rotate_left
        ·simp only[Act.put,aYa,aYb,aYc,dn,dA];rfl
        refine fP (i:=2) (N:=some 19) (v:=?_) (a':=?_) (aQ 10 7) rfl rfl (jE tK.out aA) (fun _ _ _ h=>h) (Or.inl ⟨by rfl,?_⟩) ?_ ?_;rotate_left
        ·intro w'
         go_simp
         with_reducible rfl
        rotate_left
        ·simp only[Act.put,aYa,aYb,aYc,dn,dA];rfl
        refine fP (i:=4) (N:=some 21) (v:=?_) (a':=?_) (aQ 10 23) rfl rfl (jE tK.out aA) (fun _ _ _ h=>h) (Or.inl ⟨by rfl,?_⟩) ?_ ?_;rotate_left
        ·intro w'
         go_simp
         with_reducible rfl
        rotate_left
        ·simp only[Act.put,aYa,aYb,aYc,dn,dA];rfl
        refine fP (i:=5) (N:=some 22) (v:=?_) (a':=?_) (aQ 10 55) rfl rfl (jE tK.out aA) (fun _ _ _ h=>h) (Or.inl ⟨by rfl,?_⟩) ?_ ?_;rotate_left
        ·intro w'
         go_simp
         with_reducible rfl
        rotate_left
        ·simp only[Act.put,aYa,aYb,aYc,dn,dA];rfl
        refine fP (i:=6) (N:=some 23) (v:=?_) (a':=?_) (aQ 10 119) rfl rfl (jE tK.out aA) (fun _ _ _ h=>h) (Or.inl ⟨by rfl,?_⟩) ?_ ?_;rotate_left
        ·intro w'
         go_simp
         with_reducible rfl
        rotate_left
        ·simp only[Act.put,aYa,aYb,aYc,dn,dA];rfl
        refine jZ (i:=3) (N:=some 20) (v:=?_) (a':=?_) (aQ 10 127) rfl rfl (qM tK.out Xa.out aA) (fun _ _ _ h=>h) (Or.inl ⟨by rfl,?_⟩) hHeld ?_ ?_;rotate_left
        ·rintro w' ⟨s0,s1,s2,s3,s4,s5,s6,s7,s8,s9,s10,s11⟩
         go_simp
         with_reducible rfl
        rotate_left
        ·simp only[Act.put,aYa,aYb,aYc,dn,dA];rfl
        refine jZ (i:=7) (N:=some 24) (v:=?_) (a':=?_) (aQ 10 255) rfl rfl (qM tK.out Xa.out aA) (fun _ _ _ h=>h) (Or.inl ⟨by rfl,?_⟩) hHeld ?_ ?_;rotate_left
        ·rintro w' ⟨s0,s1,s2,s3,s4,s5,s6,s7,s8,s9,s10,s11⟩
         go_simp
         with_reducible rfl
        rotate_left
        ·simp only[Act.put,aYa,aYb,aYc,dn,dA];rfl
        refine QT (i:=8) (N:=some 25) (aQ 10 511) rfl rfl (xX tK.out aA) aD (fun K hK=>?_);refine Gz Tryz.func34 aA rfl #[.agg #[.int .i64 ((aJ l0 aZ).f0),.string ((aJ l0 aZ).f1),.string ((aJ l0 aZ).f2),.int .i64 ((aJ l0 aZ).f3),.slice Gr ((aJ l0 aZ).f4).length Gs,.slice Gt ((aJ l0 aZ).f5).length Gu],.agg #[.int .i64 ((aJ l1 aZ).f0),.string ((aJ l1 aZ).f1),.string ((aJ l1 aZ).f2),.int .i64 ((aJ l1 aZ).f3),.slice Gv ((aJ l1 aZ).f4).length Gw,.slice Gx ((aJ l1 aZ).f5).length Gy]] (by rfl) rfl rfl nT ?_
        with_reducible refine (bM.calls ((aJ l0 aZ).f0) ((aJ l0 aZ).f1) ((aJ l0 aZ).f2) ((aJ l0 aZ).f3) _ _ ((aJ l0 aZ).f4) _ _ ((aJ l0 aZ).f5) ((aJ l1 aZ).f0) ((aJ l1 aZ).f1) ((aJ l1 aZ).f2) ((aJ l1 aZ).f3) _ _ ((aJ l1 aZ).f4) _ _ ((aJ l1 aZ).f5) true _ ?jy ?jA ?tF ?tH ?Gh ?Gi ?Gj ?Gl A7.out).mono ?_
        (case jy=>repeat (first|exact (Kd.aC BL.out HB.out)|(with_reducible refine Kd.eO ?_ _)|(with_reducible refine Kd.dV ?_ _)|(with_reducible refine Kd.gL ?_)))
        (case jA=>exact LK.out)
        (case tF=>repeat (first|exact (Kd.aC BM.out HB.out)|(with_reducible refine Kd.eO ?_ _)|(with_reducible refine Kd.dV ?_ _)|(with_reducible refine Kd.gL ?_)))
        (case tH=>exact LM.out)
        (case Gh=>repeat (first|exact (Kd.aC BR.out HB.out)|(with_reducible refine Kd.eO ?_ _)|(with_reducible refine Kd.dV ?_ _)|(with_reducible refine Kd.gL ?_)))
        (case Gi=>exact LP.out)
        (case Gj=>repeat (first|exact (Kd.aC BS.out HB.out)|(with_reducible refine Kd.eO ?_ _)|(with_reducible refine Kd.dV ?_ _)|(with_reducible refine Kd.gL ?_)))
        (case Gl=>exact LQ.out)
        rintro e Ns ⟨rfl,hb⟩;refine⟨_,rfl,?_⟩;have fD:=ah.mk (bO dL hb);clear HB;have HB:=fD;clear fD
        (try clear hb)
        (try clear hb2)
        (try clear hk)
        (try clear hi)
        refine hK.out _ _ ⟨((HB.out.cell (World.block_lt_of_cell? w _ rX)).trans rX),((HB.out.cell (World.block_lt_of_cell? w _ rW)).trans rW),((HB.out.cell (World.block_lt_of_cell? w _ rV)).trans rV),((HB.out.cell (World.block_lt_of_cell? w _ rU)).trans rU),((HB.out.cell (World.block_lt_of_cell? w _ rT)).trans rT),((HB.out.cell (World.block_lt_of_cell? w _ rR)).trans rR),((HB.out.cell (World.block_lt_of_cell? w _ sw)).trans sw),((HB.out.cell (World.block_lt_of_cell? w _ su)).trans su),((HB.out.cell (World.block_lt_of_cell? w _ sj)).trans sj),((HB.out.cell (World.block_lt_of_cell? w _ r9)).trans r9),((HB.out.cell (World.block_lt_of_cell? w _ rZ)).trans rZ),((HB.out.cell (World.block_lt_of_cell? w _ rY)).trans rY)⟩ (fun hHeld=>?_);clear hK K;refine fU 25 ?_;refine fP (i:=9) (N:=some 26) (v:=?_) (a':=?_) (aQ 10 1023) rfl rfl (jE tK.out aA) (fun _ _ _ h=>h) (Or.inl ⟨by rfl,?_⟩) ?_ ?_;rotate_left
        ·intro w'
         go_simp
         with_reducible rfl
        rotate_left
        ·simp only[Act.put,aYa,aYb,aYc,dn,dA];rfl
        refine kK (EP tK.out aA) ?_
        try go_wp2
        go_roundg k1
        case measure=>have:=jY.out;omega
        case rel=>exact⟨(wrap64 (aZ+1)),eG,H',⟨by have:=jY.out;omega⟩,⟨by repeat (first|(with_reducible first|exact HB.out|apply aH|apply av|apply aI)|exact HB.out)⟩⟩
       replace c8:=Bool.eq_false_iff.mpr c8;subst c8
       have H1:(some false)=some r:=by rw[if_neg (show ¬(false=true) by decide)] at H;exact H
       clear H;have H:=H1;clear H1;obtain rfl:=Option.some.inj H
       try go_wp2
       have fD:=ah.mk (aI HB.out);clear HB;have HB:=fD;clear fD;have QM:0≤(aZ:Int):=of_decide_eq_true bS;have QN:aZ<(l0.length:Int):=of_decide_eq_true bS;obtain⟨mQ,Gr,Gs,Gt,Gu,e245,pE,pF,pG,pI,pJ,pK,BH,BI,BJ,BK⟩:=oo qP.out aZ QM QN;have rR:=pK;have rT:=pJ;have rU:=pI;have rV:=pG;have rW:=pF;have rX:=pE;cases e245;replace pE:=(HB.out.cell (World.block_lt_of_cell? w _ pE)).trans pE;replace pF:=(HB.out.cell (World.block_lt_of_cell? w _ pF)).trans pF;replace pG:=(HB.out.cell (World.block_lt_of_cell? w _ pG)).trans pG;replace pI:=(HB.out.cell (World.block_lt_of_cell? w _ pI)).trans pI;replace pJ:=(HB.out.cell (World.block_lt_of_cell? w _ pJ)).trans pJ;replace pK:=(HB.out.cell (World.block_lt_of_cell? w _ pK)).trans pK;have BL:=ah.mk BI;have LK:=ah.mk BH;clear BI BH;have BM:=ah.mk BK;have LM:=ah.mk BJ;clear BK BJ;replace QM:=eq_true QM;replace QN:=eq_true QN;have QO:0≤(aZ:Int):=of_decide_eq_true bS;have QS:aZ<(l1.length:Int):=of_decide_eq_true bS;obtain⟨mR,Gv,Gw,Gx,Gy,e246,pO,pQ,pR,pU,pV,pW,BN,BO,BP,BQ⟩:=oo HR1.out aZ QO QS;have rY:=pW;have rZ:=pV;have r9:=pU;have sj:=pR;have su:=pQ;have sw:=pO;cases e246;replace pO:=(HB.out.cell (World.block_lt_of_cell? w _ pO)).trans pO;replace pQ:=(HB.out.cell (World.block_lt_of_cell? w _ pQ)).trans pQ;replace pR:=(HB.out.cell (World.block_lt_of_cell? w _ pR)).trans pR;replace pU:=(HB.out.cell (World.block_lt_of_cell? w _ pU)).trans pU;replace pV:=(HB.out.cell (World.block_lt_of_cell? w _ pV)).trans pV;replace pW:=(HB.out.cell (World.block_lt_of_cell? w _ pW)).trans pW;have BR:=ah.mk BO;have LP:=ah.mk BN;clear BO BN;have BS:=ah.mk BQ;have LQ:=ah.mk BP;clear BQ BP;replace QO:=eq_true QO;replace QS:=eq_true QS
       refine kY (n:=10) (S:=fun w'=>w'.cell? (mQ.add ((aZ).toNat*6))=some (.int .i64 ((aJ l0 aZ).f0))∧w'.cell? ⟨(mQ.add ((aZ).toNat*6)).block,(mQ.add ((aZ).toNat*6)).off+1,none⟩=some (.string ((aJ l0 aZ).f1))∧w'.cell? ⟨(mQ.add ((aZ).toNat*6)).block,(mQ.add ((aZ).toNat*6)).off+2,none⟩=some (.string ((aJ l0 aZ).f2))∧w'.cell? ⟨(mQ.add ((aZ).toNat*6)).block,(mQ.add ((aZ).toNat*6)).off+3,none⟩=some (.int .i64 ((aJ l0 aZ).f3))∧w'.cell? ⟨(mQ.add ((aZ).toNat*6)).block,(mQ.add ((aZ).toNat*6)).off+4,none⟩=some (.slice Gr ((aJ l0 aZ).f4).length Gs)∧w'.cell? ⟨(mQ.add ((aZ).toNat*6)).block,(mQ.add ((aZ).toNat*6)).off+5,none⟩=some (.slice Gt ((aJ l0 aZ).f5).length Gu)∧w'.cell? (mR.add ((aZ).toNat*6))=some (.int .i64 ((aJ l1 aZ).f0))∧w'.cell? ⟨(mR.add ((aZ).toNat*6)).block,(mR.add ((aZ).toNat*6)).off+1,none⟩=some (.string ((aJ l1 aZ).f1))∧w'.cell? ⟨(mR.add ((aZ).toNat*6)).block,(mR.add ((aZ).toNat*6)).off+2,none⟩=some (.string ((aJ l1 aZ).f2))∧w'.cell? ⟨(mR.add ((aZ).toNat*6)).block,(mR.add ((aZ).toNat*6)).off+3,none⟩=some (.int .i64 ((aJ l1 aZ).f3))∧w'.cell? ⟨(mR.add ((aZ).toNat*6)).block,(mR.add ((aZ).toNat*6)).off+4,none⟩=some (.slice Gv ((aJ l1 aZ).f4).length Gw)∧w'.cell? ⟨(mR.add ((aZ).toNat*6)).block,(mR.add ((aZ).toNat*6)).off+5,none⟩=some (.slice Gx ((aJ l1 aZ).f5).length Gy)) (ds:=[]) (aQ 10 0) aA rfl rfl ⟨((HB.out.cell (World.block_lt_of_cell? w _ rX)).trans rX),((HB.out.cell (World.block_lt_of_cell? w _ rW)).trans rW),((HB.out.cell (World.block_lt_of_cell? w _ rV)).trans rV),((HB.out.cell (World.block_lt_of_cell? w _ rU)).trans rU),((HB.out.cell (World.block_lt_of_cell? w _ rT)).trans rT),((HB.out.cell (World.block_lt_of_cell? w _ rR)).trans rR),((HB.out.cell (World.block_lt_of_cell? w _ sw)).trans sw),((HB.out.cell (World.block_lt_of_cell? w _ su)).trans su),((HB.out.cell (World.block_lt_of_cell? w _ sj)).trans sj),((HB.out.cell (World.block_lt_of_cell? w _ r9)).trans r9),((HB.out.cell (World.block_lt_of_cell? w _ rZ)).trans rZ),((HB.out.cell (World.block_lt_of_cell? w _ rY)).trans rY)⟩ (fun hHeld=>?_);refine yQ aN.ahb aN.ab1 (fun tK Xa=>?_);generalize wr.drew=FJ at HB BL BM BR BS pE pF pG pI pJ pK pO pQ pR pU pV pW hHeld ⊢;refine fP (i:=0) (N:=some 17) (v:=?_) (a':=?_) (aQ 10 1) rfl rfl (jE tK.out aA) (fun _ _ _ h=>h) (Or.inl ⟨by rfl,?_⟩) ?_ ?_;rotate_left
       ·intro w'
        go_simp
        with_reducible rfl
       rotate_left
       ·simp only[Act.put,aYa,aYb,aYc,dn,dA];rfl
       refine fP (i:=1) (N:=some 18) (v:=?_) (a':=?_) (aQ 10 3) rfl rfl (jE tK.out aA) (fun _ _ _ h=>h) (Or.inl ⟨by rfl,?_⟩) ?_ ?_;rotate_left
       ·intro w'
        go_simp
        with_reducible rfl
       rotate_left
       ·simp only[Act.put,aYa,aYb,aYc,dn,dA];rfl
       refine fP (i:=2) (N:=some 19) (v:=?_) (a':=?_) (aQ 10 7) rfl rfl (jE tK.out aA) (fun _ _ _ h=>h) (Or.inl ⟨by rfl,?_⟩) ?_ ?_;rotate_left
       ·intro w'
        go_simp
        with_reducible rfl
       rotate_left
       ·simp only[Act.put,aYa,aYb,aYc,dn,dA];rfl
       refine fP (i:=4) (N:=some 21) (v:=?_) (a':=?_) (aQ 10 23) rfl rfl (jE tK.out aA) (fun _ _ _ h=>h) (Or.inl ⟨by rfl,?_⟩) ?_ ?_;rotate_left
       ·intro w'
        go_simp
        with_reducible rfl
       rotate_left
       ·simp only[Act.put,aYa,aYb,aYc,dn,dA];rfl
       refine fP (i:=5) (N:=some 22) (v:=?_) (a':=?_) (aQ 10 55) rfl rfl (jE tK.out aA) (fun _ _ _ h=>h) (Or.inl ⟨by rfl,?_⟩) ?_ ?_;rotate_left
       ·intro w'
        go_simp
        with_reducible rfl
       rotate_left
       ·simp only[Act.put,aYa,aYb,aYc,dn,dA];rfl
       refine fP (i:=6) (N:=some 23) (v:=?_) (a':=?_) (aQ 10 119) rfl rfl (jE tK.out aA) (fun _ _ _ h=>h) (Or.inl ⟨by rfl,?_⟩) ?_ ?_;rotate_left
       ·intro w'
        go_simp
        with_reducible rfl
       rotate_left
       ·simp only[Act.put,aYa,aYb,aYc,dn,dA];rfl
       refine jZ (i:=3) (N:=some 20) (v:=?_) (a':=?_) (aQ 10 127) rfl rfl (qM tK.out Xa.out aA) (fun _ _ _ h=>h) (Or.inl ⟨by rfl,?_⟩) hHeld ?_ ?_;rotate_left
       ·rintro w' ⟨s0,s1,s2,s3,s4,s5,s6,s7,s8,s9,s10,s11⟩
        go_simp
        with_reducible rfl
       rotate_left
       ·simp only[Act.put,aYa,aYb,aYc,dn,dA];rfl
       refine jZ (i:=7) (N:=some 24) (v:=?_) (a':=?_) (aQ 10 255) rfl rfl (qM tK.out Xa.out aA) (fun _ _ _ h=>h) (Or.inl ⟨by rfl,?_⟩) hHeld ?_ ?_;rotate_left
       ·rintro w' ⟨s0,s1,s2,s3,s4,s5,s6,s7,s8,s9,s10,s11⟩
        go_simp
        with_reducible rfl
       rotate_left
       ·simp only[Act.put,aYa,aYb,aYc,dn,dA];rfl
       refine QT (i:=8) (N:=some 25) (aQ 10 511) rfl rfl (xX tK.out aA) aD (fun K hK=>?_);refine Gz Tryz.func34 aA rfl #[.agg #[.int .i64 ((aJ l0 aZ).f0),.string ((aJ l0 aZ).f1),.string ((aJ l0 aZ).f2),.int .i64 ((aJ l0 aZ).f3),.slice Gr ((aJ l0 aZ).f4).length Gs,.slice Gt ((aJ l0 aZ).f5).length Gu],.agg #[.int .i64 ((aJ l1 aZ).f0),.string ((aJ l1 aZ).f1),.string ((aJ l1 aZ).f2),.int .i64 ((aJ l1 aZ).f3),.slice Gv ((aJ l1 aZ).f4).length Gw,.slice Gx ((aJ l1 aZ).f5).length Gy]] (by rfl) rfl rfl nT ?_
       with_reducible refine (bM.calls ((aJ l0 aZ).f0) ((aJ l0 aZ).f1) ((aJ l0 aZ).f2) ((aJ l0 aZ).f3) _ _ ((aJ l0 aZ).f4) _ _ ((aJ l0 aZ).f5) ((aJ l1 aZ).f0) ((aJ l1 aZ).f1) ((aJ l1 aZ).f2) ((aJ l1 aZ).f3) _ _ ((aJ l1 aZ).f4) _ _ ((aJ l1 aZ).f5) false _ ?jy ?jA ?tF ?tH ?Gh ?Gi ?Gj ?Gl A7.out).mono ?_
       (case jy=>repeat (first|exact (Kd.aC BL.out HB.out)|(with_reducible refine Kd.eO ?_ _)|(with_reducible refine Kd.dV ?_ _)|(with_reducible refine Kd.gL ?_)))
       (case jA=>exact LK.out)
       (case tF=>repeat (first|exact (Kd.aC BM.out HB.out)|(with_reducible refine Kd.eO ?_ _)|(with_reducible refine Kd.dV ?_ _)|(with_reducible refine Kd.gL ?_)))
       (case tH=>exact LM.out)
       (case Gh=>repeat (first|exact (Kd.aC BR.out HB.out)|(with_reducible refine Kd.eO ?_ _)|(with_reducible refine Kd.dV ?_ _)|(with_reducible refine Kd.gL ?_)))
       (case Gi=>exact LP.out)
       (case Gj=>repeat (first|exact (Kd.aC BS.out HB.out)|(with_reducible refine Kd.eO ?_ _)|(with_reducible refine Kd.dV ?_ _)|(with_reducible refine Kd.gL ?_)))
       (case Gl=>exact LQ.out)
       rintro e Qf ⟨rfl,hb⟩;refine⟨_,rfl,?_⟩;have fD:=ah.mk (bO dL hb);clear HB;have HB:=fD;clear fD
       (try clear hb)
       (try clear hb2)
       (try clear hk)
       (try clear hi)
       refine hK.out _ _ ⟨((HB.out.cell (World.block_lt_of_cell? w _ rX)).trans rX),((HB.out.cell (World.block_lt_of_cell? w _ rW)).trans rW),((HB.out.cell (World.block_lt_of_cell? w _ rV)).trans rV),((HB.out.cell (World.block_lt_of_cell? w _ rU)).trans rU),((HB.out.cell (World.block_lt_of_cell? w _ rT)).trans rT),((HB.out.cell (World.block_lt_of_cell? w _ rR)).trans rR),((HB.out.cell (World.block_lt_of_cell? w _ sw)).trans sw),((HB.out.cell (World.block_lt_of_cell? w _ su)).trans su),((HB.out.cell (World.block_lt_of_cell? w _ sj)).trans sj),((HB.out.cell (World.block_lt_of_cell? w _ r9)).trans r9),((HB.out.cell (World.block_lt_of_cell? w _ rZ)).trans rZ),((HB.out.cell (World.block_lt_of_cell? w _ rY)).trans rY)⟩ (fun hHeld=>?_);clear hK K;refine fU 25 ?_;refine fP (i:=9) (N:=some 26) (v:=?_) (a':=?_) (aQ 10 1023) rfl rfl (jE tK.out aA) (fun _ _ _ h=>h) (Or.inl ⟨by rfl,?_⟩) ?_ ?_;rotate_left
       ·intro w'
        go_simp
        with_reducible rfl
       rotate_left
       ·simp only[Act.put,aYa,aYb,aYc,dn,dA];rfl
       refine kK (EP tK.out aA) ?_
       try go_wp2
       go_ret
       exact⟨by first|rfl|(simp[aX,aY] <;> rfl)|(simp[*,aX,aY] <;> rfl),by repeat (first|(with_reducible first|exact HB.out|apply aH|apply av|apply aI)|exact HB.out)⟩
      rw[if_neg c6] at H;exact absurd H bK
     rw[if_neg c5] at H;exact absurd H bK
    rw[if_neg c4] at H;have nL:decide (aZ<(l0.length:Int))=false:=decide_eq_false c4;clear c4;obtain rfl:=Option.some.inj H
    go_wp2
    go_ret
    exact⟨by first|rfl|(simp[aX,aY] <;> rfl)|(simp[*,aX,aY] <;> rfl),by repeat (first|(with_reducible first|exact HB.out|apply aH|apply av|apply aI)|exact HB.out)⟩
 rw[if_neg c3] at H;have o9:((l0.length:Int) == (l1.length:Int))=false:=beq_eq_false_iff_ne.mpr c3;have Aj:((l0.length:Int) != (l1.length:Int))=true:=bne_iff_ne.mpr c3
 have WV:(l0.length == l1.length)=false:=by first|simpa using c3|(simp at c3 ⊢;omega)
 obtain rfl:=Option.some.inj H
 go_enter Tryz.func24,Tryz.ntmps24
 go_wp2
 go_ret
 exact⟨by first|rfl|(simp[aX,aY] <;> rfl)|(simp[*,aX,aY] <;> rfl),by repeat (first|(with_reducible first|exact HB.out|apply aH|apply av|apply aI)|exact HB.out)⟩
end Go.Proofs.YtknihldkhedpkaaGreatDoor.PT
end
section
namespace Go.Proofs.YtknihldkhedpkaaGreatDoor
open Go.RowKit Go.Lib
open Go.Proofs.YtknihldkhedpkaaGreatDoorW.PrintWords Go.Proofs.YtknihldkhedpkaaGreatDoorW.PrintLast Go.Proofs.YtknihldkhedpkaaGreatDoor.PT
structure Came (l:List It):Prop where
 n:l.length<1466015503701
 r:∀x∈l,x.f4.length<8796093022208
 fit:∀x∈l,Fit x
theorem Came.all {l:List It} (h:Came l):l.all nO=true:=List.all_eq_true.2 (fun x hx=>Sy (h.fit x hx))
theorem Came.nil:Came []:=⟨by decide,fun _ h=>absurd h List.not_mem_nil,fun _ h=>absurd h List.not_mem_nil⟩
theorem Dt {α:Type} (l:List α) (i:Nat) (h:i<l.length):l.take i++[l[i]]=l.take (i+1):=(List.take_succ_eq_append_getElem h).symm
theorem zH (l:List Ru) (hl:l.length<8796093022208):∀(d i:Nat),i+d=l.length→Ev (fun k=>aW.l0 k l (l.take i) (i:Int)) l
 | 0,i,h=>by
  refine Ev.step (fun k=>?_) (Ev.now _);rw[aW.l0,if_neg aj,List.take_of_length_le aj]
 | d+1,i,h=>by
  have hi:i<l.length:=by omega
  refine Ev.step (fun k=>?_) (zH l hl d (i+1) aj);rw[aW.l0,if_pos aj,if_pos aj,if_pos (by rw[List.length_take];omega),yR l i hi,sD aj];rw[show ([⟨l[i].f0,l[i].f1⟩]:List Ru)=[l[i]] from rfl,Dt l i hi]
theorem Ow (l:List Ru) (hl:l.length<8796093022208):Ev (fun k=>aW.f k l) l:=zH l hl l.length 0 aj
theorem Kn (l:List Int) (hl:l.length<140737488355328):∀(d i:Nat),i+d=l.length→Ev (fun k=>aV.l0 k l (l.take i) (i:Int)) l
 | 0,i,h=>by
  refine Ev.step (fun k=>?_) (Ev.now _);rw[aV.l0,if_neg aj,List.take_of_length_le aj]
 | d+1,i,h=>by
  have hi:i<l.length:=by omega
  refine Ev.step (fun k=>?_) (Kn l hl d (i+1) aj);rw[aV.l0,if_pos aj,if_pos aj,if_pos (by rw[List.length_take];omega),Nk l i hi,sD aj,Dt l i hi]
theorem LU (l:List Int) (hl:l.length<140737488355328):Ev (fun k=>aV.f k l) l:=Kn l hl l.length 0 aj
theorem Ox (x:It) (hx:Fit x) (hr:x.f4.length<8796093022208):Ev (fun k=>cZ.f k x.f0 x.f1 x.f2 x.f3 x.f4 x.f5) (x.f0,x.f1,x.f2,x.f3,x.f4,x.f5) :=
 Ev.bind (Ow x.f4 hr) (Ev.bind (LU x.f5 (by have:=hx.d;omega)) (Ev.now _))
theorem Tw (xs:List It) (i:Nat) (h:i<xs.length):aJ xs (i:Int)=xs[i]:=by simp[aJ,h]
theorem GA (l:List It) (hc:Came l):∀(d i:Nat),i+d=l.length→Ev (fun k=>bC.l0 k l (l.take i) (i:Int)) l
 | 0,i,h=>by
  refine Ev.step (fun k=>?_) (Ev.now _);rw[bC.l0,if_neg aj,List.take_of_length_le aj]
 | d+1,i,h=>by
  have hi:i<l.length:=by omega
  have hn:=hc.n;have hm:=List.getElem_mem hi;refine Ev.step (f:=fun k=>(cZ.f k l[i].f0 l[i].f1 l[i].f2 l[i].f3 l[i].f4 l[i].f5).bind fun bt=>bC.l0 k l (l.take i++[⟨bt.1,bt.2.1,bt.2.2.1,bt.2.2.2.1,bt.2.2.2.2.1,bt.2.2.2.2.2⟩]) ((i+1:Nat):Int)) (fun k=>?_) ?_
  ·rw[bC.l0,if_pos aj,if_pos aj,Tw l i hi,sD aj]
   congr 1
   funext bt
   rw[if_pos (by rw[List.length_take];omega)]
  refine Ev.bind (Ox l[i] (hc.fit _ hm) (hc.r _ hm)) ?_;have ih:=GA l hc d (i+1) aj;rw[← Dt l i hi] at ih;exact ih
theorem Oy (l:List It) (hc:Came l):Ev (fun k=>bC.f k l) l:=GA l hc l.length 0 aj
theorem QU (x:It):F8 x x=true:=by
 unfold F8;rw[decide_eq_true rfl,decide_eq_true rfl,decide_eq_true rfl,vX.2 rfl];simp
theorem Oz (x:It):gX.f x.f0 x.f1 x.f2 x.f3 x.f4 x.f5 x.f0 x.f1 x.f2 x.f3 x.f4 x.f5=some true:=by
 unfold gX.f;rw[show (⟨x.f0,x.f1,x.f2,x.f3,x.f4,x.f5⟩:It)=x from rfl,QU]
theorem zI (x:It):bM.f x.f0 x.f1 x.f2 x.f3 x.f4 x.f5 x.f0 x.f1 x.f2 x.f3 x.f4 x.f5=some true:=by
 unfold bM.f;rw[if_pos rfl,Oz];rfl
theorem xY (l:List It) (hl:l.length<9223372036854775807):∀(d i:Nat),i+d=l.length→Ev (fun k=>aN.l0 k l l (i:Int)) true
 | 0,i,h=>Ev.step (fun k=>by rw[aN.l0,if_neg aj]) (Ev.now _)
 | d+1,i,h=>by
  have hi:i<l.length:=by omega
  refine Ev.step (fun k=>?_) (xY l hl d (i+1) aj);rw[aN.l0,if_pos aj,if_pos aj,if_pos aj,Tw l i hi,zI,Option.bind_some,if_pos rfl,sD aj]
theorem LV (l:List It) (hl:l.length<9223372036854775807):Ev (fun k=>aN.f k l l) true :=
 Ev.congr (fun k=>by rw[aN.f,if_pos rfl];rfl) (xY l hl l.length 0 aj)
theorem adL {l:List It} (h:Came l):iT.f l=some (bY l):=by
 unfold iT.f;rw[if_pos h.all]
theorem UG {l:List It} (h:Came l):Ev (fun k=>gB.f k l) ((bY l).2 == 0):=by
 refine Ev.bind (Oy l h) ?_;refine Ev.congr (fun k=>?_) (Ev.now _);rw[adL h,Option.bind_some];rfl
end Go.Proofs.YtknihldkhedpkaaGreatDoor
end
section
namespace Go.Proofs.YtknihldkhedpkaaGreatDoor
open Go.RowKit
section
variable {P : Program} {α : Type}
def Yw (B:FuncId→Prop) (P:Program) (c:Code) (Q:Exit→Act→World→Prop) (a:Act) (w:World):Prop :=
 ∀(b:Frame) (k:List Item) (cs:List Frame),b.roundOf=none→B b.fn→∃e a' w',Q e a' w'∧ArrivesIn (Machine.fenced P Fence.wide) P (lone (b.atR a (.code c::k)) cs w) b k cs e a' w'
variable {B : FuncId → Prop} {Q : Exit → Act → World → Prop} {a : Act} {w : World}
theorem sK {c:Code} (h:c.wp P Q a w):Yw B P c Q a w:=fun b k cs hro _=>(wpIn_wide (n:=0)).2 h b k cs hro trivial (room_wide _)
theorem yS {x y:Code} (h:Yw B P x (Exit.then (Yw B P y Q) Q) a w):Yw B P (Code.seq x y) Q a w:=by
 intro b k cs hro hb;have h0:(lone (b.atR a (.code (.seq x y)::k)) cs w).fenced P Fence.wide:=fenced_wide _ _;obtain⟨e,a₁,w₁,hq,harr⟩:=h b (.code y::k) cs hro hb
 cases e with
 | normal=>
  obtain⟨e₂,a₂,w₂,hq₂,harr₂⟩:=hq b k cs hro hb;exact⟨e₂,a₂,w₂,hq₂,.of_steps (.head h0 stepR_seq harr) harr₂⟩
 | exit id=>exact⟨_,a₁,w₁,hq,.of_steps (.one h0 stepR_seq) (.pass (x:=.code y) rfl (fun _ _=>.inl bK) harr)⟩
 | goto l=>exact⟨_,a₁,w₁,hq,.of_steps (.one h0 stepR_seq) (.pass (x:=.code y) rfl (fun _ _=>.inl bK) harr)⟩
 | ret=>exact⟨_,a₁,w₁,hq,.of_steps (.one h0 stepR_seq) (.pass (x:=.code y) rfl (fun _ _=>.inl bK) harr)⟩
 | panic ch=>exact⟨_,a₁,w₁,hq,.of_steps (.one h0 stepR_seq) (.pass (x:=.code y) rfl (fun _ _=>.inl bK) harr)⟩
 | outgrown=>exact⟨_,a₁,w₁,hq,.of_steps (.one h0 stepR_seq) (.pass (x:=.code y) rfl (fun _ _=>.inl bK) harr)⟩
theorem LW {f:FuncId} {fn:Func} {c:Code} {args:Array Value} {R:Ending→World→Prop}
  (hf:P.funcs[f]?=some fn) (hb:fn.body=some c)
  (h:Yw (fun g=>∃x,P.funcs[g]?=some x) P c (bodyPostM Fence.wide 0 P fn R) { tmps:=args++Array.replicate (fn.ntmps - args.size) undef,defers:=[] } w):Calls P f args w R:=by
 refine (callsIn_wide (n:=0)).1 ⟨trivial,fun cs hr=>?_⟩
 let b:Frame:={ (default:Frame) with fn:=f,kind:=.normal,roundOf:=none }
 have henter:Frame.enter P f args .normal =
   b.atR { tmps:=args++Array.replicate (fn.ntmps - args.size) undef,defers:=[] } [.code c]:=by
  simp[Frame.enter,Frame.atR,hf,hb,b]
 obtain⟨e,a',w',hq,harr⟩:=h b [] cs rfl ⟨fn,hf⟩;rw[← henter] at harr
 cases e with
 | normal=>
  obtain⟨e',w'',fr',hR,hs,hfn,hl⟩:=leaves_stepsInM a'.defers .returning w' { b.atR a' [] with mode:=.returning } cs rfl rfl rfl hf rfl trivial hr hq;exact⟨e',w'',fr',hR,ComesIn.of_steps (StepsIn.trans harr (.one (fenced_wide _ _) (stepR_end rfl))) hs,hfn,hl⟩
 | ret=>
  obtain⟨todo,hs₀⟩:=harr.1 rfl;obtain⟨e',w'',fr',hR,hs,hfn,hl⟩:=leaves_stepsInM a'.defers .returning w' { b.atR a' todo with mode:=.returning } cs rfl rfl rfl hf rfl trivial hr hq;exact⟨e',w'',fr',hR,ComesIn.of_steps hs₀ hs,hfn,hl⟩
 | panic chain=>
  obtain⟨todo,hs₀⟩:=harr;obtain⟨e',w'',fr',hR,hs,hfn,hl⟩:=leaves_stepsInM a'.defers (.panicking chain) w' { b.atR a' todo with mode:=.panicking chain } cs rfl rfl rfl hf rfl trivial hr hq;exact⟨e',w'',fr',hR,ComesIn.of_steps hs₀ hs,hfn,hl⟩
 | exit id=>exact hq.elim
 | goto l=>exact hq.elim
 | outgrown=>exact⟨.outgrown,w',b,hq,harr.resolve_left (by simp[b]),rfl,trivial⟩
def adM (P:Program) (l:Nat) (R:Ending→World→Prop):Exit→Act→World→Prop
 | .normal,_,w=>∃v w',(Instr.endRound l none).run P w=.ok v w'∧R (.returned v) w'
 | .panic ch,a,w=>a.defers=[]∧R (.panicked ch) w
 | _,_,_=>False
theorem Jk {l:Nat} {f:FuncId} {n:Nat} {tmps:Array Value} {assign body:Code} {R:Ending→World→Prop} (hf:∃x,P.funcs[f]?=some x)
  (h:assign.wpIn (Fence.wide.inRound l) n P (Exit.then (fun a₁ w₁=>∃w₂,(Instr.beginRound l).run P w₁=.ok () w₂∧body.wpIn (Fence.wide.inRound l) n P (adM P l R) a₁ w₂) (fun _ _ _=>False))
   { tmps:=tmps,defers:=[] } w) :
  RoundIn Fence.wide n P l f tmps assign body w R:=by
 refine⟨trivial,fun c cs hr=>?_⟩
 let b:Frame:={ (default:Frame) with fn:=f,kind:=.normal,roundOf:=some l }
 have hb0:Frame.round l f tmps assign body .normal=b.atR { tmps:=tmps,defers:=[] } [.code assign,.beginRound,.code body]:=by
  simp[Frame.round,Frame.atR,b]
 obtain⟨e,a₁,w₁,hq,harr⟩:=h b [.beginRound,.code body] (c::cs) rfl trivial hr;rw[← hb0] at harr
 cases e with
 | normal=>
  obtain⟨w₂,hbr,hbody⟩:=hq
  have s1:StepsIn (Machine.fenced P Fence.wide) P (lone (b.atR a₁ [.beginRound,.code body]) (c::cs) w₁) (lone (b.atR a₁ [.code body]) (c::cs) w₂) :=
   .one (fenced_wide _ _) (stepR_beginRound rfl hbr)
  obtain⟨e₂,a₂,w₃,hq₂,harr₂⟩:=hbody b [] (c::cs) rfl trivial hr
  cases e₂ with
  | normal=>
   obtain⟨v,w₄,hend,hR⟩:=hq₂;exact⟨.returned v,w₄,hR,(StepsIn.trans harr s1).trans (StepsIn.trans harr₂ (.one (fenced_wide _ _) (stepR_round_end rfl rfl hend)))⟩
  | panic chain=>
   obtain⟨hd,hR⟩:=hq₂;obtain⟨todo,hs⟩:=harr₂;exact⟨.panicked chain,w₃,hR,(StepsIn.trans harr s1).trans (StepsIn.trans hs (.one (fenced_wide _ _) (step_leave_panicked ⟨rfl,hd,hf⟩)))⟩
  | ret=>exact hq₂.elim
  | exit id=>exact hq₂.elim
  | goto t=>exact hq₂.elim
  | outgrown=>exact hq₂.elim
 | exit id=>exact hq.elim
 | goto t=>exact hq.elim
 | ret=>exact hq.elim
 | panic chain=>exact hq.elim
 | outgrown=>exact hq.elim
def ZI (S:List α→Prop) (J:List α→World→Prop) (X:List PanicEntry→World→Prop) (e:Ending) (B:World):Prop :=
 ((∃v,e=.returned v)∧∃xs,S xs∧J xs B)∨(∃ch,e=.panicked ch∧X ch B)
def GD (P:Program) (gf:Nat) (lb:Array Value) (encs:α→Array Value) (Good:List α→α→World→Prop) (St Kp:World→World→Prop) (S:List α→Prop) (w:World):Prop :=
 ∀(l:Nat) (J:List α→World→Prop) (X:List PanicEntry→World→Prop) (W:World),Below w.heap.size w W →
  (∀pre A B,J pre A→St A B→J pre B) →
  (∀pre x A,J pre A→Good pre x A→YieldAt Fence.wide 0 P l (encs x) A fun e B=>(e=.returned (.bool true)∧J (pre++[x]) B∧Kp A B)∨(∃ch,e=.panicked ch∧X ch B)) →
  J [] W→Calls P gf (#[.func (.yield l) #[] #[]]++lb) W (ZI S J X)
theorem GD.tells {gf:Nat} {lb:Array Value} {encs:α→Array Value} {Good:List α→α→World→Prop} {St Kp:World→World→Prop} {S:List α→Prop} {w:World} (h:GD P gf lb encs Good St Kp S w):ab2 P gf lb encs Good St Kp S w :=
 fun l J W hb hJ hY h0=>(h l J (fun _ _=>False) W hb hJ (fun pre x A hj hg=>let ⟨fn,t,as_,b,h1,h2⟩:=hY pre x A hj hg;⟨fn,t,as_,b,h1,h2.mono fun e B hh=>.inl hh⟩) h0).mono
  (by
   rintro e B (h|⟨_,_,h⟩)
   ·exact h
   exact h.elim)
theorem LX {g:Operand} {ps:Array Tmp} {assign body:Code} {gf:Nat} {lb:Array Value}
  (hB:∀f,B f→∃x,P.funcs[f]?=some x)
  (hg:a.eval g=.func (.func gf) #[] lb) (eg:∀args w,(callFunc gf args).run P w=.ok (.enter gf args) w)
  {encs:α→Array Value} (hps:∀x,(encs x).size=ps.size) {Good:List α→α→World→Prop} {St Kp:World→World→Prop} {S:List α→Prop}
  (hseq:GD P gf lb encs Good St Kp S w)
  (I:List α→World→Prop) (X:List PanicEntry→World→Prop) (a₁:α→Act)
  (hSt:∀A B,St A B→Still w.heap.size A B)
  (V9:∀pre A B,I pre A→St A B→I pre B)
  (Wh:∀pre W l o o',I pre W→w.heap.size≤l→W.heap[l]?=some o→o.isCells=false→I pre (W.putObj l o'))
  (hGp:∀pre x W l o o',Good pre x W→w.heap.size≤l→W.heap[l]?=some o→o.isCells=false→Good pre x (W.putObj l o'))
  (hKp:∀A B l o o1 p o2,w.heap.size≤l→A.heap[l]?=some o→o.isCells=false→Kp (A.putObj l o1) B→B.heap[l]?=some p→p.isCells=false→Kp A (B.putObj l o2))
  (h0:∀o o',I [] ((w.alloc o).alloc o'))
  (hassign:∀(l:Nat) (x:α) (W:World) (K:Act→World→Prop),K (a₁ x) W →
   assign.wpIn (Fence.wide.inRound l) 0 P (Exit.then K (fun _ _ _=>False)) { tmps:=(ps.zip (encs x)).foldl (fun t (p,v)=>t.setIfInBounds p v) a.tmps,defers:=[] } W)
  (hbody:∀(l:Nat) (pre:List α) (x:α) (W:World),I pre W→Good pre x W→body.wpIn (Fence.wide.inRound l) 0 P (fun e a' B=>(e=.normal∧I (pre++[x]) B∧Kp W B∧Still w.heap.size W B)∨(∃ch,e=.panic ch∧a'.defers=[]∧X ch B∧Still w.heap.size W B)) (a₁ x) W)
  (hdone:∀xs W,S xs→w.heap.size<W.heap.size→I xs W→W.heap[w.heap.size]?=some (.deferred (some []))→Q .normal { a with defers:={ target:=.collected w.heap.size,args:=#[] }::a.defers } W)
  (adN:∀ch W,w.heap.size<W.heap.size→X ch W→W.heap[w.heap.size]?=some (.deferred (some []))→Q (.panic ch) { a with defers:={ target:=.collected w.heap.size,args:=#[] }::a.defers } W) :
  Yw B P (Code.rangeFunc g ps assign body) Q a w:=by
 intro b k cs hro hb
 obtain⟨fn,hfn⟩:∃fn,b.fn=fn:=⟨_,rfl⟩
 obtain⟨rec,hrec⟩:∃rec:LoopState→Option Code→Loop,rec=fun st pe=>{ state:=st,pending:=pe,fn,tmps:=a.tmps,params:=ps,assign,body,defers:=w.heap.size }:=⟨_,rfl⟩
 obtain⟨s,hs⟩:∃s,s=w.heap.size:=⟨_,rfl⟩
 obtain⟨W1,hW1⟩:∃W1,W1=(w.alloc (.deferred (some []))).alloc (.loop (rec .ready none)):=⟨_,rfl⟩
 have hD1:W1.heap[s]?=some (.deferred (some [])):=by
  rw[hW1,hs];exact (Below.heap_alloc _ _ _ bK).trans (World.alloc_heap_new w _)
 have hL1:W1.heap[s+1]?=some (.loop (rec .ready none)):=by
  rw[hW1,hs];have:=World.alloc_heap_new (w.alloc (.deferred (some []))) (.loop (rec .ready none))
  rwa [World.size_alloc] at this
 have hB1:Below w.heap.size w W1:=by
  rw[hW1];exact ((Below.refl _ w).alloc (Nat.le_refl _) _).alloc bK _
 have he:(Instr.enterLoop b.fn a.tmps ps assign body b.roundOf).run P w=.ok (s+1,[{ target:=.collected s,args:=#[] }]) W1:=by
  rw[hW1,hrec,hs,hro,hfn];exact run_enterLoop_outer _ _ _ _ _
 have hres:(resolve a.eval (rangeCall g (s+1)) 0).run P W1=.ok { target:=.fn (.func gf) lb,args:=#[.func (.yield (s+1)) #[] #[]] } W1:=by
  simp only[resolve,hg];simp[go_sem]
 have hinv:(invoke (.fn (.func gf) lb) #[.func (.yield (s+1)) #[] #[]]).run P W1=.ok (.enter gf (#[.func (.yield (s+1)) #[] #[]]++lb)) W1:=by
  simp[invoke,go_sem,eg]
 have henter:=stepR_rangeFunc (P:=P) (b:=b) (a:=a) (k:=k) (cs:=cs) (w:=w) he hres hinv
 have hcall:Calls P gf (#[.func (.yield (s+1)) #[] #[]]++lb) W1 fun e B=>((∃v,e=.returned v)∧∃xs,S xs∧I xs B∧B.heap[s+1]?=some (.loop (rec .ready none))∧B.heap[s]?=some (.deferred (some [])))∨(∃ch,e=.panicked ch∧X ch B∧B.heap[s]?=some (.deferred (some []))):=by
  refine (hseq (s+1) (fun pre W=>I pre W∧W.heap[s+1]?=some (.loop (rec .ready none))∧W.heap[s]?=some (.deferred (some []))) (fun ch W=>X ch W∧W.heap[s]?=some (.deferred (some []))) W1 hB1 ?_ ?_ ⟨hW1▸h0 _ _,hL1,hD1⟩).mono (fun e B h=>h)
  ·rintro pre A B ⟨hi,hl,hd⟩ hab;exact⟨V9 _ _ _ hi hab,(hSt _ _ hab).2 _ _ aj hl rfl,(hSt _ _ hab).2 _ _ aj hd rfl⟩
  rintro pre x A ⟨hi,hl,hd⟩ hgood;have hlt:=(Array.getElem?_eq_some_iff.1 hl).1;have hy:=run_yield (P:=P) (args:=encs x) hl (by rw[hrec];exact hps x);rw[hrec] at hy;refine⟨fn,_,assign,body,hy,Jk (hfn▸hB _ hb) (hassign _ x A _ ⟨_,run_beginRound hl (by rw[hrec]),?_⟩)⟩;have hl2:(A.putObj (s+1) (.loop { rec .ready none with state:=.busy })).heap[s+1]?=some (.loop { rec .ready none with state:=.busy }):=World.putObj_heap_same hlt;have hd2:(A.putObj (s+1) (.loop { rec .ready none with state:=.busy })).heap[s]?=some (.deferred (some [])):=(World.putObj_heap_other aj).trans hd;refine wpIn_mono (hbody _ pre x _ (Wh _ _ _ _ _ hi aj hl rfl) (hGp _ _ _ _ _ _ hgood aj hl rfl)) ?_;rintro e a3 B (⟨rfl,hi3,hk3,hs3⟩|⟨ch,rfl,hd0,hx,hs3⟩)
  ·have hl3:=hs3.2 _ _ aj hl2 rfl;have hd3:=hs3.2 _ _ aj hd2 rfl;have hr:=run_endRound (P:=P) none hl3;have hlt3:=(Array.getElem?_eq_some_iff.1 hl3).1;refine⟨_,_,hr,.inl ⟨rfl,⟨Wh _ _ _ _ _ hi3 aj hl3 rfl,?_,(World.putObj_heap_other aj).trans hd3⟩,hKp _ _ _ _ _ _ _ aj hl rfl hk3 hl3 rfl⟩⟩;rw[World.putObj_heap_same hlt3,hrec];rfl
  exact⟨hd0,.inr ⟨ch,rfl,hx,hs3.2 _ _ aj hd2 rfl⟩⟩
 obtain⟨e,w₃,fr,hR,hsteps,hff,hleave⟩:=(callsIn_wide (n:=0)).2 hcall |>.2 (b.atR { a with defers:=[{ target:=.collected s,args:=#[] }]++a.defers } (.inRangeFunc (s+1)::k)::cs) (room_wide _)
 rcases hR with⟨⟨v,rfl⟩,xs,hxs,hi,hl,hd⟩|⟨ch,rfl,hx,hd⟩
 ·have hend:=run_endLoop (P:=P) hl (by rw[hrec];simp);have hlt:=(Array.getElem?_eq_some_iff.1 hl).1;have hd':(w₃.putObj (s+1) (.loop { rec .ready none with state:=.exhausted })).heap[s]?=some (.deferred (some [])):=(World.putObj_heap_other aj).trans hd;have hsz:s<(w₃.putObj (s+1) (.loop { rec .ready none with state:=.exhausted })).heap.size:=(Array.getElem?_eq_some_iff.1 hd').1;rw[hs] at hend hd' hsz;refine⟨.normal,_,_,hdone xs _ hxs hsz (Wh _ _ _ _ _ hi aj (hs▸hl) rfl) hd',?_⟩;refine StepsIn.head (fenced_wide _ _) henter (StepsIn.trans hsteps (.head (fenced_wide _ _) (step_leave_returned hleave) (.one (fenced_wide _ _) ?_)));rw[finish_atR_inRangeFunc,hs];have:=stepR_endRangeFunc (b:=b) (a:={ a with defers:=[{ target:=.collected w.heap.size,args:=#[] }]++a.defers }) (k:=k) (cs:=cs) hend;rw[hrec] at this ⊢;exact this
 have hsz:s<w₃.heap.size:=(Array.getElem?_eq_some_iff.1 hd).1;rw[hs] at hd hsz;refine⟨.panic ch,_,_,adN ch _ hsz hx hd,?_⟩;refine⟨.inRangeFunc (s+1)::k,StepsIn.head (fenced_wide _ _) henter (StepsIn.trans hsteps (.one (fenced_wide _ _) ?_))⟩;have:=step_leave_panicked (c:=b.atR { a with defers:=[{ target:=.collected s,args:=#[] }]++a.defers } (.inRangeFunc (s+1)::k)) (cs:=cs) hleave;rw[Frame.raise_atR,hs] at this;rw[hs];exact this
end
end Go.Proofs.YtknihldkhedpkaaGreatDoor
end
section
namespace Go.Proofs.YtknihldkhedpkaaGreatDoor
open Go.RowKit Go.Lib
open Go.Proofs.YtknihldkhedpkaaGreatDoorW.PrintWords Go.Proofs.YtknihldkhedpkaaGreatDoorW.PrintLast Go.Proofs.YtknihldkhedpkaaGreatDoor.PT
theorem xZ {P:Program} {n:Nat} {f:FuncId} {fn:Func} {c:Code} {args:Array Value} {u:FrameMode} {w:World} {R:Ending→FrameMode→World→Prop}
  (hf:P.funcs[f]?=some fn) (hb:fn.body=some c)
  (h:∀(c₀:Frame) (cs:List Frame),c₀.mode=u →
   c.wpS P (bodyPostS P fn c₀ cs R) { tmps:=args++Array.replicate (fn.ntmps - args.size) undef,defers:=[] } (c₀::cs) w) :
  CallsDIn Fence.wide n P f args u w R:=by
 refine⟨trivial,fun c₀ cs hu _=>?_⟩
 let b:Frame:={ (default:Frame) with fn:=f,kind:=.deferred }
 have henter:Frame.enter P f args .deferred =
   b.at { tmps:=args++Array.replicate (fn.ntmps - args.size) undef,defers:=[] } [.code c]:=by
  simp[Frame.enter,Frame.at,hf,hb,b]
 obtain⟨e,a',cs',w',hq,harr⟩:=h c₀ cs hu b [] rfl rfl;rw[← henter] at harr
 cases e with
 | normal=>
  obtain⟨hd,u',rfl,v,hr,hR⟩:=hq;exact⟨.returned v,u',w',_,hR,comesIn_wide.2 (Steps.trans harr (.one step_end)),rfl,rfl,rfl,hd,fn,hf,hr⟩
 | ret=>
  obtain⟨hd,u',rfl,v,hr,hR⟩:=hq;obtain⟨todo,hs⟩:=harr;exact⟨.returned v,u',w',_,hR,comesIn_wide.2 hs,rfl,rfl,rfl,hd,fn,hf,hr⟩
 | panic chain=>
  obtain⟨hd,u',rfl,hR⟩:=hq;obtain⟨todo,hs⟩:=harr;exact⟨.panicked chain,u',w',_,hR,comesIn_wide.2 hs,rfl,rfl,rfl,hd,fn,hf⟩
 | exit id=>exact hq.elim
 | goto l=>exact hq.elim
 | outgrown=>
  obtain⟨u',hR⟩:=hq;exact⟨.outgrown,u',w',b,hR,comesIn_wide.2 (harr.resolve_left (by simp[b])),rfl,rfl,trivial⟩
theorem BU {P:Program} {n:Nat} {f:FuncId} {args:Array Value} {u:FrameMode} {w:World} {R R':Ending→FrameMode→World→Prop} (h:CallsDIn Fence.wide n P f args u w R) (hr:∀e u w,R e u w→R' e u w):CallsDIn Fence.wide n P f args u w R' :=
 ⟨h.1,fun c cs hu hro=>let ⟨e,u',w',fr,h1,h2⟩:=h.2 c cs hu hro;⟨e,u',w',fr,hr _ _ _ h1,h2⟩⟩
theorem UH {P:Program} {B:FuncId→Prop} {Q:Exit→Act→World→Prop} {a:Act} {w:World} {id:Nat} {c:Code} (h:Yw B P c (Exit.inBlock id Q) a w):Yw B P (Code.block id c) Q a w:=by
 intro b k cs hro hb;have h0:(lone (b.atR a (.code (.block id c)::k)) cs w).fenced P Fence.wide:=fenced_wide _ _;obtain⟨e,a₁,w₁,hq,harr⟩:=h b (.inBlock id::k) cs hro hb
 cases e with
 | normal=>exact⟨.normal,a₁,w₁,hq,.head h0 stepR_block (StepsIn.trans harr (.one (fenced_wide _ _) stepR_inBlock))⟩
 | exit id'=>
  by_cases hid:id'=id
  ·simp only[Exit.inBlock,hid,if_true] at hq;exact⟨.normal,a₁,w₁,hq,.head h0 stepR_block (harr.1 k (by simp[exitTo,hid]))⟩
  simp only[Exit.inBlock,hid,if_false] at hq
  have this:(id == id')=false:=by simp;exact fun h=>hid h.symm
  have hx:exitTo id' (.inBlock id::k)=exitTo id' k:=by simp[exitTo,this]
  exact⟨.exit id',a₁,w₁,hq,fun k' hk=>.head h0 stepR_block (harr.1 k' (by rw[hx];exact hk)),
   fun hr' hk=>let ⟨k₁,h1,h2⟩:=harr.2 hr' (by rw[hx];exact hk);⟨k₁,h1,.head h0 stepR_block h2⟩⟩
 | goto l=>
  have hx:gotoIn l (.inBlock id::k)=gotoIn l k:=by simp[gotoIn]
  exact⟨_,a₁,w₁,hq,fun k' hk=>.head h0 stepR_block (harr.1 k' (by rw[hx];exact hk)),
   fun hr' hk=>let ⟨k₁,h1,h2⟩:=harr.2 hr' (by rw[hx];exact hk);⟨k₁,h1,.head h0 stepR_block h2⟩⟩
 | ret=>exact⟨_,a₁,w₁,hq,.of_steps (.one h0 stepR_block) harr⟩
 | panic ch=>exact⟨_,a₁,w₁,hq,.of_steps (.one h0 stepR_block) harr⟩
 | outgrown=>exact⟨_,a₁,w₁,hq,.of_steps (.one h0 stepR_block) harr⟩
theorem Xb (n pp pb:Nat) (w:World) :
  CallsDIn Fence.wide n Tryz.prog 121 #[.pointer (some ⟨pp,0,none⟩),.pointer (some ⟨pb,0,none⟩)] .returning w fun e u' w'=>e=.returned (.tuple #[])∧u'=.returning∧w'=w:=by
 refine xZ Tryz.func121 rfl fun c₀ cs hu=>?_
 apply wpS_seq;apply wpS_region;simp[wpOpsS,go_sem,recoverD,hu,Tryz.ntmps121,Exit.thenS];refine wpS_of_wp ?_;simp only[Nat.reduceSub,Nat.reduceAdd,Array.replicate_succ,Array.replicate_zero,List.push_toArray,List.append_toArray,List.nil_append,List.cons_append,aYa,aYb,aYc];refine Code.wp_mono (Q:=fun e a' w'=>e=.normal∧a'.defers=[]∧w'=w) ?_ ?_;rotate_left
 ·go_wp2
 rintro e a' w' ⟨rfl,hd,rfl⟩;refine⟨hd,.returning,?_,_,results_none rfl _ _ _,rfl,rfl,rfl⟩;cases c₀;cases hu;rfl
def amX (pp pb:Nat) (w w':World):Prop:=w'.heap[pp]?=some (.cells #[.slice none 0 0] 25 (0,0))∧w'.heap[pb]?=some (.cells #[.bool false] 4 (0,0))∧Fp pp pb w w'
theorem QV (n pp pb:Nat) (x0 y0:Value) (older:List PanicEntry) (w:World) (hp:w.heap[pp]?=some (.cells #[x0] 25 (0,0))) (hb:w.heap[pb]?=some (.cells #[y0] 4 (0,0))) :
  CallsDIn Fence.wide n Tryz.prog 121 #[.pointer (some ⟨pp,0,none⟩),.pointer (some ⟨pb,0,none⟩)] (.panicking ({ v:=.iface 160 (.agg #[]),recovered:=false }::older)) w fun e u' w'=>
   e=.returned (.tuple #[])∧u'=.panicking ({ v:=.iface 160 (.agg #[]),recovered:=true }::older)∧w'.heap[pp]?=some (.cells #[.slice none 0 0] 25 (0,0))∧w'.heap[pb]?=some (.cells #[.bool false] 4 (0,0))∧Fp pp pb w w':=by
 refine xZ Tryz.func121 rfl fun c₀ cs hu=>?_
 apply wpS_seq;apply wpS_region;simp[wpOpsS,go_sem,recoverD,hu,Tryz.ntmps121,Exit.thenS];refine wpS_of_wp ?_
 have hta:∀w:World,(Instr.typeAssert (.iface 160 (.agg #[])) 20 160 true).run Tryz.prog w=.ok (.tuple #[.agg #[],.bool true]) w:=fun w=>by kernel_rfl
 have HP:=ah.mk hp;have HB:=ah.mk hb;clear hp hb;simp only[Nat.reduceSub,Nat.reduceAdd,Array.replicate_succ,Array.replicate_zero,List.push_toArray,List.append_toArray,List.nil_append,List.cons_append,aYa,aYb,aYc];refine Code.wp_mono (Q:=fun e a' w'=>e=.normal∧a'.defers=[]∧amX pp pb w w') ?_ ?_;rotate_left
 ·go_upto_region 5 with (fail)
  have hba:=(Below.refl w.heap.size w).alloc (Nat.le_refl _) (.cells #[] 160);have hp1:=aG HP.out hba;have hb1:=aG HB.out hba
  have hpb:pp≠pb:=fun e=>by
   have h1:=HP.out;rw[e,HB.out] at h1;simp at h1
  obtain⟨W,hW⟩:∃W,w.alloc (.cells #[] 160)=W:=⟨_,rfl⟩
  rw[hW] at hba hp1 hb1 ⊢;have x1:W.cell? ⟨pp,0,none⟩=some x0:=ak hp1 0;have y1:W.cell? ⟨pb,0,none⟩=some y0:=ak hb1 0;have f1:=ay hp1 0;have f2:=ay hb1 0;have l1:=bE hp1;have l2:=bE hb1;have wT:=ah.mk hp1;have HB1:=ah.mk hb1;have HBA:=ah.mk hba;have HNE:=ah.mk hpb;clear hba hp1 hb1 hW hta
  go_wp2
  have k1:(W.setCell ⟨pp,0,none⟩ (.slice none 0 0)).heap[pp]?=some (.cells #[.slice none 0 0] 25 (0,0)):=by have:=dM wT.out 0 (.slice none 0 0);simpa using this
  have k2:(W.setCell ⟨pp,0,none⟩ (.slice none 0 0)).heap[pb]?=some (.cells #[y0] 4 (0,0)):=(Below.heap_setCell _ ⟨pp,0,none⟩ _ pb (fun e=>HNE.out e.symm)).trans HB1.out;refine⟨(Below.heap_setCell _ ⟨pb,0,none⟩ _ pp HNE.out).trans k1,by have:=dM k2 0 (.bool false);simpa using this,(kg.below HBA.out).trans ((kg.set (G:=fun k=>k=pp∨k=pb) (b:=pp) (.inl rfl) 0 _).trans (kg.set (G:=fun k=>k=pp∨k=pb) (b:=pb) (.inr rfl) 0 _))⟩
 rintro e a' w' ⟨rfl,hd,h1,h2,h3⟩;exact⟨hd,_,rfl,_,results_none rfl _ _ _,rfl,rfl,h1,h2,h3⟩
end Go.Proofs.YtknihldkhedpkaaGreatDoor
end
