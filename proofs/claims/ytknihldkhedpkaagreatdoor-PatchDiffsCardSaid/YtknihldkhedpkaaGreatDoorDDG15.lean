import Derived.Test.YtknihldkhedpkaaGreatDoorDDG1
import Derived.Test.YtknihldkhedpkaaGreatDoorDDG14
import Derived.Test.YtknihldkhedpkaaGreatDoorDDG13
import Derived.ChangeArms
import Derived.Laws.IdiomStrings
set_option linter.all false
set_option maxHeartbeats 16000000
set_option maxRecDepth 100000
section
namespace Go.Proofs.YtknihldkhedpkaaGreatDoor.PT
open Go.RowKit Go.Proofs.YtknihldkhedpkaaGreatDoorW.PrintWords Go.Proofs.YtknihldkhedpkaaGreatDoorW.PrintLast Go.Proofs.YtknihldkhedpkaaGreatDoorW.PrintMore
attribute [local go_sem] kI kJ mI mJ jE jF kK kL
def aX.l0:Nat→List (kV)→List (kV)→Int→Option (Bool)
 | 0,_,_,_=>none
 | k+1,x0,x1,x5=>if x5<(x0.length:Int) then (if 0≤x5 then (if x5<(x1.length:Int) then ((bN.f ((aI x0 x5).f0) ((aI x0 x5).f1) ((aI x0 x5).f2) ((aI x0 x5).f3) ((aI x0 x5).f4) ((aI x0 x5).f5) ((aI x1 x5).f0) ((aI x1 x5).f1) ((aI x1 x5).f2) ((aI x1 x5).f3) ((aI x1 x5).f4) ((aI x1 x5).f5)).bind fun Z8=>(if Z8=true then (aX.l0 k x0 x1 (wrap64 (x5+1))) else (some false))) else (none)) else (none)) else (some true)
def aX.f (k:Nat) (l0:List (kV)) (l1:List (kV)):Option (Bool):=if (l0.length:Int)=(l1.length:Int) then (aX.l0 k l0 l1 0) else (some false)
def aX.T6:Bool × List (List Nat × List Nat):=(true,[([],[]),([],[]),([0,1],[0,1]),([2],[2]),([],[]),([],[]),([4,5],[4,5]),([6],[6]),([3,7],[3,7]),([8],[8])])
def aX.B6:List Nat:=[0,0,3,7,0,0,48,112,255,511]
theorem aX.ahw:sG .any (opsOf Tryz.f24 6)=aX.T6:=by kernel_rfl
theorem aX.acU:yj aX.T6.2 aX.B6=true:=by kernel_rfl
theorem aX.calls (k:Nat) (A0:Option Addr) (c0:Nat) (l0:List (kV)) (A1:Option Addr) (c1:Nat) (l1:List (kV)) (r:Bool) (w:World) (hr0:Kd.C mV w A0 l0.length l0) (hc0:l0.length≤c0) (hr1:Kd.C mV w A1 l1.length l1) (hc1:l1.length≤c1) (h:aX.f k l0 l1=some r) :
  Calls Tryz.prog 24 #[.slice A0 l0.length c0,.slice A1 l1.length c1] w fun e w'=>e=.returned (.bool r)∧Below w.heap.size w w':=by
 have UU:=Tryz.underlying29;have nC:=ah.mk hr0;have VW:=ah.mk hc0;clear hr0 hc0;have HR1:=ah.mk hr1;have Gr:=ah.mk hc1;clear hr1 hc1;have HB:=ah.mk (Below.refl w.heap.size w);have H:(if (l0.length:Int)=(l1.length:Int) then (aX.l0 k l0 l1 0) else (some false))=some r:=h;clear h
 by_cases c3:(l0.length:Int)=(l1.length:Int)
 ·rw[if_pos c3] at H;have qo:((l0.length:Int) == (l1.length:Int))=true:=beq_iff_eq.mpr c3;have xG:((l0.length:Int) != (l1.length:Int))=false:=bne_eq_false_iff_eq.mpr c3
  have WV:(l0.length == l1.length)=true:=by first|simpa using c3|(simp at c3 ⊢;omega)
  clear c3;have H':=ah.mk H;clear H
  go_enter Tryz.func24,Tryz.ntmps24
  go_wp2
  go_loopg [5] k (fun kq v5 w'=>∃(aR:Int),v5=.int .i64 aR∧ah (aX.l0 kq l0 l1 aR=some r)∧ah (kq≤k)∧ah (Below w.heap.size w w'))
  case atStart=>exact⟨(0),dV,H',⟨Nat.le_refl _⟩,⟨by repeat (first|(with_reducible first|exact HB.out|apply aG|apply av|apply aK)|exact HB.out)⟩⟩
  case round=>
   clear H'
   try clear c1
   try clear c2
   try clear p2
   try clear c3
   try clear qo
   try clear xG
   try clear WV
   obtain⟨aR,rfl,HA,jH,HB⟩:=hrel
   cases gk with
   | zero=>exact absurd HA.out (by simp[aX.l0])
   | succ k1=>
    have H:=HA.out;clear HA;simp only[aX.l0] at H
    by_cases c4:aR<(l0.length:Int)
    ·rw[if_pos c4] at H;have rP:decide (aR<(l0.length:Int))=true:=decide_eq_true c4;clear c4;by_cases c5:0≤aR
     ·rw[if_pos c5] at H;have Bg:decide (0≤aR)=true:=decide_eq_true c5;clear c5
      by_cases c6:aR<(l1.length:Int)
      ·rw[if_pos c6] at H;have Nc:decide (aR<(l1.length:Int))=true:=decide_eq_true c6;clear c6;replace H:=Option.bind_eq_some_iff.mp H;obtain⟨Z8,A70,H⟩:=H;replace H:(if Z8=true then (aX.l0 k1 l0 l1 (wrap64 (aR+1))) else (some false))=some r:=H;have A7:=ah.mk A70;clear A70;by_cases c8:Z8=true
       ·subst c8
        have H1:(aX.l0 k1 l0 l1 (wrap64 (aR+1)))=some r:=by rw[if_pos rfl] at H;exact H
        clear H;have H:=H1;clear H1;have H':=ah.mk H;clear H
        try go_wp2
        have dM:=ah.mk (aK HB.out);clear HB;have HB:=dM;clear dM;have PU:0≤(aR:Int):=of_decide_eq_true bg;have PV:aR<(l0.length:Int):=of_decide_eq_true bg;obtain⟨mF,Gs,Gt,Gu,Gv,e245,oP,oQ,oU,oV,oW,oZ,Bo,Bp,Bq,Br⟩:=jh nC.out aR PU PV;have qN:=oZ;have qO:=oW;have qP:=oV;have qQ:=oU;have qR:=oQ;have qU:=oP;cases e245;replace oP:=(HB.out.cell (World.block_lt_of_cell? w _ oP)).trans oP;replace oQ:=(HB.out.cell (World.block_lt_of_cell? w _ oQ)).trans oQ;replace oU:=(HB.out.cell (World.block_lt_of_cell? w _ oU)).trans oU;replace oV:=(HB.out.cell (World.block_lt_of_cell? w _ oV)).trans oV;replace oW:=(HB.out.cell (World.block_lt_of_cell? w _ oW)).trans oW;replace oZ:=(HB.out.cell (World.block_lt_of_cell? w _ oZ)).trans oZ;have Bt:=ah.mk Bp;have KR:=ah.mk Bo;clear Bp Bo;have Bu:=ah.mk Br;have KS:=ah.mk Bq;clear Br Bq;replace PU:=eq_true PU;replace PV:=eq_true PV;have PW:0≤(aR:Int):=of_decide_eq_true bg;have PX:aR<(l1.length:Int):=of_decide_eq_true bg;obtain⟨mG,Gw,Gx,Gy,Gz,e246,o8,o9,pz,pE,pF,pG,Bv,Bw,Bz,BA⟩:=jh HR1.out aR PW PX;have qV:=pG;have qW:=pF;have qX:=pE;have qY:=pz;have qZ:=o9;have q9:=o8;cases e246;replace o8:=(HB.out.cell (World.block_lt_of_cell? w _ o8)).trans o8;replace o9:=(HB.out.cell (World.block_lt_of_cell? w _ o9)).trans o9;replace pz:=(HB.out.cell (World.block_lt_of_cell? w _ pz)).trans pz;replace pE:=(HB.out.cell (World.block_lt_of_cell? w _ pE)).trans pE;replace pF:=(HB.out.cell (World.block_lt_of_cell? w _ pF)).trans pF;replace pG:=(HB.out.cell (World.block_lt_of_cell? w _ pG)).trans pG;have BD:=ah.mk Bw;have KT:=ah.mk Bv;clear Bw Bv;have BF:=ah.mk BA;have KU:=ah.mk Bz;clear BA Bz;replace PW:=eq_true PW;replace PX:=eq_true PX
        refine jJ (n:=10) (S:=fun w'=>w'.cell? (mF.add ((aR).toNat*6))=some (.int .i64 ((aI l0 aR).f0))∧w'.cell? ⟨(mF.add ((aR).toNat*6)).block,(mF.add ((aR).toNat*6)).off+1,none⟩=some (.string ((aI l0 aR).f1))∧w'.cell? ⟨(mF.add ((aR).toNat*6)).block,(mF.add ((aR).toNat*6)).off+2,none⟩=some (.string ((aI l0 aR).f2))∧w'.cell? ⟨(mF.add ((aR).toNat*6)).block,(mF.add ((aR).toNat*6)).off+3,none⟩=some (.int .i64 ((aI l0 aR).f3))∧w'.cell? ⟨(mF.add ((aR).toNat*6)).block,(mF.add ((aR).toNat*6)).off+4,none⟩=some (.slice Gs ((aI l0 aR).f4).length Gt)∧w'.cell? ⟨(mF.add ((aR).toNat*6)).block,(mF.add ((aR).toNat*6)).off+5,none⟩=some (.slice Gu ((aI l0 aR).f5).length Gv)∧w'.cell? (mG.add ((aR).toNat*6))=some (.int .i64 ((aI l1 aR).f0))∧w'.cell? ⟨(mG.add ((aR).toNat*6)).block,(mG.add ((aR).toNat*6)).off+1,none⟩=some (.string ((aI l1 aR).f1))∧w'.cell? ⟨(mG.add ((aR).toNat*6)).block,(mG.add ((aR).toNat*6)).off+2,none⟩=some (.string ((aI l1 aR).f2))∧w'.cell? ⟨(mG.add ((aR).toNat*6)).block,(mG.add ((aR).toNat*6)).off+3,none⟩=some (.int .i64 ((aI l1 aR).f3))∧w'.cell? ⟨(mG.add ((aR).toNat*6)).block,(mG.add ((aR).toNat*6)).off+4,none⟩=some (.slice Gw ((aI l1 aR).f4).length Gx)∧w'.cell? ⟨(mG.add ((aR).toNat*6)).block,(mG.add ((aR).toNat*6)).off+5,none⟩=some (.slice Gy ((aI l1 aR).f5).length Gz)) (ds:=[]) (aM 10 0) aD rfl rfl ⟨((HB.out.cell (World.block_lt_of_cell? w _ qU)).trans qU),((HB.out.cell (World.block_lt_of_cell? w _ qR)).trans qR),((HB.out.cell (World.block_lt_of_cell? w _ qQ)).trans qQ),((HB.out.cell (World.block_lt_of_cell? w _ qP)).trans qP),((HB.out.cell (World.block_lt_of_cell? w _ qO)).trans qO),((HB.out.cell (World.block_lt_of_cell? w _ qN)).trans qN),((HB.out.cell (World.block_lt_of_cell? w _ q9)).trans q9),((HB.out.cell (World.block_lt_of_cell? w _ qZ)).trans qZ),((HB.out.cell (World.block_lt_of_cell? w _ qY)).trans qY),((HB.out.cell (World.block_lt_of_cell? w _ qX)).trans qX),((HB.out.cell (World.block_lt_of_cell? w _ qW)).trans qW),((HB.out.cell (World.block_lt_of_cell? w _ qV)).trans qV)⟩ (fun hHeld=>?_);refine Dv aX.ahw aX.acU (fun xH HW_=>?_);generalize wr.drew=w9 at HB Bt Bu BD BF oP oQ oU oV oW oZ o8 o9 pz pE pF pG hHeld ⊢;refine jU (i:=0) (N:=some 17) (v:=?_) (a':=?_) (aM 10 1) rfl rfl (mg xH.out aD) (fun _ _ _ h=>h) (Or.inl ⟨by rfl,?_⟩) ?_ ?_;rotate_left
        ·intro w'
         go_simp
         with_reducible rfl
        rotate_left
        ·simp only[Act.put,aYa,aYb,aYc,eG,fI];rfl
        refine jU (i:=1) (N:=some 18) (v:=?_) (a':=?_) (aM 10 3) rfl rfl (mg xH.out aD) (fun _ _ _ h=>h) (Or.inl ⟨by rfl,?_⟩) ?_ ?_;rotate_left
        ·intro w'
         go_simp
         with_reducible rfl
        rotate_left
        ·simp only[Act.put,aYa,aYb,aYc,eG,fI];rfl
        refine jU (i:=2) (N:=some 19) (v:=?_) (a':=?_) (aM 10 7) rfl rfl (mg xH.out aD) (fun _ _ _ h=>h) (Or.inl ⟨by rfl,?_⟩) ?_ ?_;rotate_left
        ·intro w'
         go_simp
         with_reducible rfl
        rotate_left
        ·simp only[Act.put,aYa,aYb,aYc,eG,fI];rfl
        refine jU (i:=4) (N:=some 21) (v:=?_) (a':=?_) (aM 10 23) rfl rfl (mg xH.out aD) (fun _ _ _ h=>h) (Or.inl ⟨by rfl,?_⟩) ?_ ?_;rotate_left
        ·intro w'
         go_simp
         with_reducible rfl
        rotate_left
        ·simp only[Act.put,aYa,aYb,aYc,eG,fI];rfl
        refine jU (i:=5) (N:=some 22) (v:=?_) (a':=?_) (aM 10 55) rfl rfl (mg xH.out aD) (fun _ _ _ h=>h) (Or.inl ⟨by rfl,?_⟩) ?_ ?_;rotate_left
        ·intro w'
         go_simp
         with_reducible rfl
        rotate_left
        ·simp only[Act.put,aYa,aYb,aYc,eG,fI];rfl
        refine jU (i:=6) (N:=some 23) (v:=?_) (a':=?_) (aM 10 119) rfl rfl (mg xH.out aD) (fun _ _ _ h=>h) (Or.inl ⟨by rfl,?_⟩) ?_ ?_;rotate_left
        ·intro w'
         go_simp
         with_reducible rfl
        rotate_left
        ·simp only[Act.put,aYa,aYb,aYc,eG,fI];rfl
        refine sQ (i:=3) (N:=some 20) (v:=?_) (a':=?_) (aM 10 127) rfl rfl (uJ xH.out HW_.out aD) (fun _ _ _ h=>h) (Or.inl ⟨by rfl,?_⟩) hHeld ?_ ?_;rotate_left
        ·rintro w' ⟨s0,s1,s2,s3,s4,s5,s6,s7,s8,s9,s10,s11⟩
         go_simp
         with_reducible rfl
        rotate_left
        ·simp only[Act.put,aYa,aYb,aYc,eG,fI];rfl
        refine sQ (i:=7) (N:=some 24) (v:=?_) (a':=?_) (aM 10 255) rfl rfl (uJ xH.out HW_.out aD) (fun _ _ _ h=>h) (Or.inl ⟨by rfl,?_⟩) hHeld ?_ ?_;rotate_left
        ·rintro w' ⟨s0,s1,s2,s3,s4,s5,s6,s7,s8,s9,s10,s11⟩
         go_simp
         with_reducible rfl
        rotate_left
        ·simp only[Act.put,aYa,aYb,aYc,eG,fI];rfl
        refine WW (i:=8) (N:=some 25) (aM 10 511) rfl rfl (Dw xH.out aD) aH (fun K hK=>?_);refine Nf Tryz.func34 aD rfl #[.agg #[.int .i64 ((aI l0 aR).f0),.string ((aI l0 aR).f1),.string ((aI l0 aR).f2),.int .i64 ((aI l0 aR).f3),.slice Gs ((aI l0 aR).f4).length Gt,.slice Gu ((aI l0 aR).f5).length Gv],.agg #[.int .i64 ((aI l1 aR).f0),.string ((aI l1 aR).f1),.string ((aI l1 aR).f2),.int .i64 ((aI l1 aR).f3),.slice Gw ((aI l1 aR).f4).length Gx,.slice Gy ((aI l1 aR).f5).length Gz]] (by rfl) rfl rfl qw ?_
        with_reducible refine (bN.calls ((aI l0 aR).f0) ((aI l0 aR).f1) ((aI l0 aR).f2) ((aI l0 aR).f3) _ _ ((aI l0 aR).f4) _ _ ((aI l0 aR).f5) ((aI l1 aR).f0) ((aI l1 aR).f1) ((aI l1 aR).f2) ((aI l1 aR).f3) _ _ ((aI l1 aR).f4) _ _ ((aI l1 aR).f5) true _ ?lM ?lN ?rR ?rT ?Gm ?Gn ?Gp ?Gq A7.out).mono ?_
        (case lM=>repeat (first|exact (Kd.aC Bt.out HB.out)|(with_reducible refine Kd.fK ?_ _)|(with_reducible refine Kd.eB ?_ _)|(with_reducible refine Kd.iH ?_)))
        (case lN=>exact KR.out)
        (case rR=>repeat (first|exact (Kd.aC Bu.out HB.out)|(with_reducible refine Kd.fK ?_ _)|(with_reducible refine Kd.eB ?_ _)|(with_reducible refine Kd.iH ?_)))
        (case rT=>exact KS.out)
        (case Gm=>repeat (first|exact (Kd.aC BD.out HB.out)|(with_reducible refine Kd.fK ?_ _)|(with_reducible refine Kd.eB ?_ _)|(with_reducible refine Kd.iH ?_)))
        (case Gn=>exact KT.out)
        (case Gp=>repeat (first|exact (Kd.aC BF.out HB.out)|(with_reducible refine Kd.fK ?_ _)|(with_reducible refine Kd.eB ?_ _)|(with_reducible refine Kd.iH ?_)))
        (case Gq=>exact KU.out)
        rintro e Fh ⟨rfl,hb⟩;refine⟨_,rfl,?_⟩;have dM:=ah.mk (bM dG hb);clear HB;have HB:=dM;clear dM
        (try clear hb)
        (try clear hb2)
        (try clear hk)
        (try clear hi)
        refine hK.out _ _ ⟨((HB.out.cell (World.block_lt_of_cell? w _ qU)).trans qU),((HB.out.cell (World.block_lt_of_cell? w _ qR)).trans qR),((HB.out.cell (World.block_lt_of_cell? w _ qQ)).trans qQ),((HB.out.cell (World.block_lt_of_cell? w _ qP)).trans qP),((HB.out.cell (World.block_lt_of_cell? w _ qO)).trans qO),((HB.out.cell (World.block_lt_of_cell? w _ qN)).trans qN),((HB.out.cell (World.block_lt_of_cell? w _ q9)).trans q9),((HB.out.cell (World.block_lt_of_cell? w _ qZ)).trans qZ),((HB.out.cell (World.block_lt_of_cell? w _ qY)).trans qY),((HB.out.cell (World.block_lt_of_cell? w _ qX)).trans qX),((HB.out.cell (World.block_lt_of_cell? w _ qW)).trans qW),((HB.out.cell (World.block_lt_of_cell? w _ qV)).trans qV)⟩ (fun hHeld=>?_);clear hK K;refine fH 25 ?_;refine jU (i:=9) (N:=some 26) (v:=?_) (a':=?_) (aM 10 1023) rfl rfl (mg xH.out aD) (fun _ _ _ h=>h) (Or.inl ⟨by rfl,?_⟩) ?_ ?_;rotate_left
        ·intro w'
         go_simp
         with_reducible rfl
        rotate_left
        ·simp only[Act.put,aYa,aYb,aYc,eG,fI];rfl
        refine jK (KV xH.out aD) ?_
        try go_wp2
        go_roundg k1
        case measure=>have:=jH.out;omega
        case rel=>exact⟨(wrap64 (aR+1)),dV,H',⟨by have:=jH.out;omega⟩,⟨by repeat (first|(with_reducible first|exact HB.out|apply aG|apply av|apply aK)|exact HB.out)⟩⟩
       replace c8:=Bool.eq_false_iff.mpr c8;subst c8
       have H1:(some false)=some r:=by rw[if_neg (show ¬(false=true) by decide)] at H;exact H
       clear H;have H:=H1;clear H1;obtain rfl:=Option.some.inj H
       try go_wp2
       have dM:=ah.mk (aK HB.out);clear HB;have HB:=dM;clear dM;have PU:0≤(aR:Int):=of_decide_eq_true bg;have PV:aR<(l0.length:Int):=of_decide_eq_true bg;obtain⟨mF,Gs,Gt,Gu,Gv,e245,oP,oQ,oU,oV,oW,oZ,Bo,Bp,Bq,Br⟩:=jh nC.out aR PU PV;have qN:=oZ;have qO:=oW;have qP:=oV;have qQ:=oU;have qR:=oQ;have qU:=oP;cases e245;replace oP:=(HB.out.cell (World.block_lt_of_cell? w _ oP)).trans oP;replace oQ:=(HB.out.cell (World.block_lt_of_cell? w _ oQ)).trans oQ;replace oU:=(HB.out.cell (World.block_lt_of_cell? w _ oU)).trans oU;replace oV:=(HB.out.cell (World.block_lt_of_cell? w _ oV)).trans oV;replace oW:=(HB.out.cell (World.block_lt_of_cell? w _ oW)).trans oW;replace oZ:=(HB.out.cell (World.block_lt_of_cell? w _ oZ)).trans oZ;have Bt:=ah.mk Bp;have KR:=ah.mk Bo;clear Bp Bo;have Bu:=ah.mk Br;have KS:=ah.mk Bq;clear Br Bq;replace PU:=eq_true PU;replace PV:=eq_true PV;have PW:0≤(aR:Int):=of_decide_eq_true bg;have PX:aR<(l1.length:Int):=of_decide_eq_true bg;obtain⟨mG,Gw,Gx,Gy,Gz,e246,o8,o9,pz,pE,pF,pG,Bv,Bw,Bz,BA⟩:=jh HR1.out aR PW PX;have qV:=pG;have qW:=pF;have qX:=pE;have qY:=pz;have qZ:=o9;have q9:=o8;cases e246;replace o8:=(HB.out.cell (World.block_lt_of_cell? w _ o8)).trans o8;replace o9:=(HB.out.cell (World.block_lt_of_cell? w _ o9)).trans o9;replace pz:=(HB.out.cell (World.block_lt_of_cell? w _ pz)).trans pz;replace pE:=(HB.out.cell (World.block_lt_of_cell? w _ pE)).trans pE;replace pF:=(HB.out.cell (World.block_lt_of_cell? w _ pF)).trans pF;replace pG:=(HB.out.cell (World.block_lt_of_cell? w _ pG)).trans pG;have BD:=ah.mk Bw;have KT:=ah.mk Bv;clear Bw Bv;have BF:=ah.mk BA;have KU:=ah.mk Bz;clear BA Bz;replace PW:=eq_true PW;replace PX:=eq_true PX
       refine jJ (n:=10) (S:=fun w'=>w'.cell? (mF.add ((aR).toNat*6))=some (.int .i64 ((aI l0 aR).f0))∧w'.cell? ⟨(mF.add ((aR).toNat*6)).block,(mF.add ((aR).toNat*6)).off+1,none⟩=some (.string ((aI l0 aR).f1))∧w'.cell? ⟨(mF.add ((aR).toNat*6)).block,(mF.add ((aR).toNat*6)).off+2,none⟩=some (.string ((aI l0 aR).f2))∧w'.cell? ⟨(mF.add ((aR).toNat*6)).block,(mF.add ((aR).toNat*6)).off+3,none⟩=some (.int .i64 ((aI l0 aR).f3))∧w'.cell? ⟨(mF.add ((aR).toNat*6)).block,(mF.add ((aR).toNat*6)).off+4,none⟩=some (.slice Gs ((aI l0 aR).f4).length Gt)∧w'.cell? ⟨(mF.add ((aR).toNat*6)).block,(mF.add ((aR).toNat*6)).off+5,none⟩=some (.slice Gu ((aI l0 aR).f5).length Gv)∧w'.cell? (mG.add ((aR).toNat*6))=some (.int .i64 ((aI l1 aR).f0))∧w'.cell? ⟨(mG.add ((aR).toNat*6)).block,(mG.add ((aR).toNat*6)).off+1,none⟩=some (.string ((aI l1 aR).f1))∧w'.cell? ⟨(mG.add ((aR).toNat*6)).block,(mG.add ((aR).toNat*6)).off+2,none⟩=some (.string ((aI l1 aR).f2))∧w'.cell? ⟨(mG.add ((aR).toNat*6)).block,(mG.add ((aR).toNat*6)).off+3,none⟩=some (.int .i64 ((aI l1 aR).f3))∧w'.cell? ⟨(mG.add ((aR).toNat*6)).block,(mG.add ((aR).toNat*6)).off+4,none⟩=some (.slice Gw ((aI l1 aR).f4).length Gx)∧w'.cell? ⟨(mG.add ((aR).toNat*6)).block,(mG.add ((aR).toNat*6)).off+5,none⟩=some (.slice Gy ((aI l1 aR).f5).length Gz)) (ds:=[]) (aM 10 0) aD rfl rfl ⟨((HB.out.cell (World.block_lt_of_cell? w _ qU)).trans qU),((HB.out.cell (World.block_lt_of_cell? w _ qR)).trans qR),((HB.out.cell (World.block_lt_of_cell? w _ qQ)).trans qQ),((HB.out.cell (World.block_lt_of_cell? w _ qP)).trans qP),((HB.out.cell (World.block_lt_of_cell? w _ qO)).trans qO),((HB.out.cell (World.block_lt_of_cell? w _ qN)).trans qN),((HB.out.cell (World.block_lt_of_cell? w _ q9)).trans q9),((HB.out.cell (World.block_lt_of_cell? w _ qZ)).trans qZ),((HB.out.cell (World.block_lt_of_cell? w _ qY)).trans qY),((HB.out.cell (World.block_lt_of_cell? w _ qX)).trans qX),((HB.out.cell (World.block_lt_of_cell? w _ qW)).trans qW),((HB.out.cell (World.block_lt_of_cell? w _ qV)).trans qV)⟩ (fun hHeld=>?_);refine Dv aX.ahw aX.acU (fun xH HW_=>?_);generalize wr.drew=Dq at HB Bt Bu BD BF oP oQ oU oV oW oZ o8 o9 pz pE pF pG hHeld ⊢;refine jU (i:=0) (N:=some 17) (v:=?_) (a':=?_) (aM 10 1) rfl rfl (mg xH.out aD) (fun _ _ _ h=>h) (Or.inl ⟨by rfl,?_⟩) ?_ ?_;rotate_left
       ·intro w'
        go_simp
        with_reducible rfl
       rotate_left
       ·simp only[Act.put,aYa,aYb,aYc,eG,fI];rfl
       refine jU (i:=1) (N:=some 18) (v:=?_) (a':=?_) (aM 10 3) rfl rfl (mg xH.out aD) (fun _ _ _ h=>h) (Or.inl ⟨by rfl,?_⟩) ?_ ?_;rotate_left
       ·intro w'
        go_simp
        with_reducible rfl
       rotate_left
       ·simp only[Act.put,aYa,aYb,aYc,eG,fI];rfl
       refine jU (i:=2) (N:=some 19) (v:=?_) (a':=?_) (aM 10 7) rfl rfl (mg xH.out aD) (fun _ _ _ h=>h) (Or.inl ⟨by rfl,?_⟩) ?_ ?_;rotate_left
       ·intro w'
        go_simp
        with_reducible rfl
       rotate_left
       ·simp only[Act.put,aYa,aYb,aYc,eG,fI];rfl
       refine jU (i:=4) (N:=some 21) (v:=?_) (a':=?_) (aM 10 23) rfl rfl (mg xH.out aD) (fun _ _ _ h=>h) (Or.inl ⟨by rfl,?_⟩) ?_ ?_;rotate_left
       ·intro w'
        go_simp
        with_reducible rfl
       rotate_left
       ·simp only[Act.put,aYa,aYb,aYc,eG,fI];rfl
       refine jU (i:=5) (N:=some 22) (v:=?_) (a':=?_) (aM 10 55) rfl rfl (mg xH.out aD) (fun _ _ _ h=>h) (Or.inl ⟨by rfl,?_⟩) ?_ ?_;rotate_left
       ·intro w'
        go_simp
        with_reducible rfl
       rotate_left
       ·simp only[Act.put,aYa,aYb,aYc,eG,fI];rfl
       refine jU (i:=6) (N:=some 23) (v:=?_) (a':=?_) (aM 10 119) rfl rfl (mg xH.out aD) (fun _ _ _ h=>h) (Or.inl ⟨by rfl,?_⟩) ?_ ?_;rotate_left
       ·intro w'
        go_simp
        with_reducible rfl
       rotate_left
       ·simp only[Act.put,aYa,aYb,aYc,eG,fI];rfl
       refine sQ (i:=3) (N:=some 20) (v:=?_) (a':=?_) (aM 10 127) rfl rfl (uJ xH.out HW_.out aD) (fun _ _ _ h=>h) (Or.inl ⟨by rfl,?_⟩) hHeld ?_ ?_;rotate_left
       ·rintro w' ⟨s0,s1,s2,s3,s4,s5,s6,s7,s8,s9,s10,s11⟩
        go_simp
        with_reducible rfl
       rotate_left
       ·simp only[Act.put,aYa,aYb,aYc,eG,fI];rfl
       refine sQ (i:=7) (N:=some 24) (v:=?_) (a':=?_) (aM 10 255) rfl rfl (uJ xH.out HW_.out aD) (fun _ _ _ h=>h) (Or.inl ⟨by rfl,?_⟩) hHeld ?_ ?_;rotate_left
       ·rintro w' ⟨s0,s1,s2,s3,s4,s5,s6,s7,s8,s9,s10,s11⟩
        go_simp
        with_reducible rfl
       rotate_left
       ·simp only[Act.put,aYa,aYb,aYc,eG,fI];rfl
       refine WW (i:=8) (N:=some 25) (aM 10 511) rfl rfl (Dw xH.out aD) aH (fun K hK=>?_);refine Nf Tryz.func34 aD rfl #[.agg #[.int .i64 ((aI l0 aR).f0),.string ((aI l0 aR).f1),.string ((aI l0 aR).f2),.int .i64 ((aI l0 aR).f3),.slice Gs ((aI l0 aR).f4).length Gt,.slice Gu ((aI l0 aR).f5).length Gv],.agg #[.int .i64 ((aI l1 aR).f0),.string ((aI l1 aR).f1),.string ((aI l1 aR).f2),.int .i64 ((aI l1 aR).f3),.slice Gw ((aI l1 aR).f4).length Gx,.slice Gy ((aI l1 aR).f5).length Gz]] (by rfl) rfl rfl qw ?_
       with_reducible refine (bN.calls ((aI l0 aR).f0) ((aI l0 aR).f1) ((aI l0 aR).f2) ((aI l0 aR).f3) _ _ ((aI l0 aR).f4) _ _ ((aI l0 aR).f5) ((aI l1 aR).f0) ((aI l1 aR).f1) ((aI l1 aR).f2) ((aI l1 aR).f3) _ _ ((aI l1 aR).f4) _ _ ((aI l1 aR).f5) false _ ?lM ?lN ?rR ?rT ?Gm ?Gn ?Gp ?Gq A7.out).mono ?_
       (case lM=>repeat (first|exact (Kd.aC Bt.out HB.out)|(with_reducible refine Kd.fK ?_ _)|(with_reducible refine Kd.eB ?_ _)|(with_reducible refine Kd.iH ?_)))
       (case lN=>exact KR.out)
       (case rR=>repeat (first|exact (Kd.aC Bu.out HB.out)|(with_reducible refine Kd.fK ?_ _)|(with_reducible refine Kd.eB ?_ _)|(with_reducible refine Kd.iH ?_)))
       (case rT=>exact KS.out)
       (case Gm=>repeat (first|exact (Kd.aC BD.out HB.out)|(with_reducible refine Kd.fK ?_ _)|(with_reducible refine Kd.eB ?_ _)|(with_reducible refine Kd.iH ?_)))
       (case Gn=>exact KT.out)
       (case Gp=>repeat (first|exact (Kd.aC BF.out HB.out)|(with_reducible refine Kd.fK ?_ _)|(with_reducible refine Kd.eB ?_ _)|(with_reducible refine Kd.iH ?_)))
       (case Gq=>exact KU.out)
       rintro e PS ⟨rfl,hb⟩;refine⟨_,rfl,?_⟩;have dM:=ah.mk (bM dG hb);clear HB;have HB:=dM;clear dM
       (try clear hb)
       (try clear hb2)
       (try clear hk)
       (try clear hi)
       refine hK.out _ _ ⟨((HB.out.cell (World.block_lt_of_cell? w _ qU)).trans qU),((HB.out.cell (World.block_lt_of_cell? w _ qR)).trans qR),((HB.out.cell (World.block_lt_of_cell? w _ qQ)).trans qQ),((HB.out.cell (World.block_lt_of_cell? w _ qP)).trans qP),((HB.out.cell (World.block_lt_of_cell? w _ qO)).trans qO),((HB.out.cell (World.block_lt_of_cell? w _ qN)).trans qN),((HB.out.cell (World.block_lt_of_cell? w _ q9)).trans q9),((HB.out.cell (World.block_lt_of_cell? w _ qZ)).trans qZ),((HB.out.cell (World.block_lt_of_cell? w _ qY)).trans qY),((HB.out.cell (World.block_lt_of_cell? w _ qX)).trans qX),((HB.out.cell (World.block_lt_of_cell? w _ qW)).trans qW),((HB.out.cell (World.block_lt_of_cell? w _ qV)).trans qV)⟩ (fun hHeld=>?_);clear hK K;refine fH 25 ?_;refine jU (i:=9) (N:=some 26) (v:=?_) (a':=?_) (aM 10 1023) rfl rfl (mg xH.out aD) (fun _ _ _ h=>h) (Or.inl ⟨by rfl,?_⟩) ?_ ?_;rotate_left
       ·intro w'
        go_simp
        with_reducible rfl
       rotate_left
       ·simp only[Act.put,aYa,aYb,aYc,eG,fI];rfl
       refine jK (KV xH.out aD) ?_
       try go_wp2
       go_ret
       exact⟨by first|rfl|(simp[aY,aZ] <;> rfl)|(simp[*,aY,aZ] <;> rfl),by repeat (first|(with_reducible first|exact HB.out|apply aG|apply av|apply aK)|exact HB.out)⟩
      rw[if_neg c6] at H;exact absurd H bB
     rw[if_neg c5] at H;exact absurd H bB
    rw[if_neg c4] at H;have rP:decide (aR<(l0.length:Int))=false:=decide_eq_false c4;clear c4;obtain rfl:=Option.some.inj H
    go_wp2
    go_ret
    exact⟨by first|rfl|(simp[aY,aZ] <;> rfl)|(simp[*,aY,aZ] <;> rfl),by repeat (first|(with_reducible first|exact HB.out|apply aG|apply av|apply aK)|exact HB.out)⟩
 rw[if_neg c3] at H;have qo:((l0.length:Int) == (l1.length:Int))=false:=beq_eq_false_iff_ne.mpr c3;have xG:((l0.length:Int) != (l1.length:Int))=true:=bne_iff_ne.mpr c3
 have WV:(l0.length == l1.length)=false:=by first|simpa using c3|(simp at c3 ⊢;omega)
 obtain rfl:=Option.some.inj H
 go_enter Tryz.func24,Tryz.ntmps24
 go_wp2
 go_ret
 exact⟨by first|rfl|(simp[aY,aZ] <;> rfl)|(simp[*,aY,aZ] <;> rfl),by repeat (first|(with_reducible first|exact HB.out|apply aG|apply av|apply aK)|exact HB.out)⟩
end Go.Proofs.YtknihldkhedpkaaGreatDoor.PT
end
section
namespace Go.Proofs.YtknihldkhedpkaaGreatDoor
open Go.RowKit Go.Lib
open Go.Proofs.YtknihldkhedpkaaGreatDoorW.PrintWords Go.Proofs.YtknihldkhedpkaaGreatDoorW.PrintLast Go.Proofs.YtknihldkhedpkaaGreatDoor.PT
structure Came (l:List It):Prop where
 n:l.length<1466015503701
 r:∀x∈l,x.f4.length<8796093022208
 fit:∀x∈l,Fit x
theorem Came.all {l:List It} (h:Came l):l.all rH=true:=List.all_eq_true.2 (fun x hx=>ZM (h.fit x hx))
theorem Dx {α:Type} (l:List α) (i:Nat) (h:i<l.length):l.take i++[l[i]]=l.take (i+1):=(List.take_succ_eq_append_getElem h).symm
theorem zo (l:List Ru) (hl:l.length<8796093022208):∀(d i:Nat),i+d=l.length→Ev (fun k=>bW.l0 k l (l.take i) (i:Int)) l
 | 0,i,h=>by
  refine Ev.step (fun k=>?_) (Ev.now _);rw[bW.l0,if_neg aj,List.take_of_length_le aj]
 | d+1,i,h=>by
  have hi:i<l.length:=by omega
  refine Ev.step (fun k=>?_) (zo l hl d (i+1) aj);rw[bW.l0,if_pos aj,if_pos aj,if_pos (by rw[List.length_take];omega),yt l i hi,nO aj];rw[show ([⟨l[i].f0,l[i].f1⟩]:List Ru)=[l[i]] from rfl,Dx l i hi]
theorem Ng (l:List Ru) (hl:l.length<8796093022208):Ev (fun k=>bW.f k l) l:=zo l hl l.length 0 aj
theorem JF (l:List Int) (hl:l.length<140737488355328):∀(d i:Nat),i+d=l.length→Ev (fun k=>bR.l0 k l (l.take i) (i:Int)) l
 | 0,i,h=>by
  refine Ev.step (fun k=>?_) (Ev.now _);rw[bR.l0,if_neg aj,List.take_of_length_le aj]
 | d+1,i,h=>by
  have hi:i<l.length:=by omega
  refine Ev.step (fun k=>?_) (JF l hl d (i+1) aj);rw[bR.l0,if_pos aj,if_pos aj,if_pos (by rw[List.length_take];omega),MB l i hi,nO aj,Dx l i hi]
theorem Ti (l:List Int) (hl:l.length<140737488355328):Ev (fun k=>bR.f k l) l:=JF l hl l.length 0 aj
theorem Nh (x:It) (hx:Fit x) (hr:x.f4.length<8796093022208):Ev (fun k=>gK.f k x.f0 x.f1 x.f2 x.f3 x.f4 x.f5) (x.f0,x.f1,x.f2,x.f3,x.f4,x.f5) :=
 Ev.bind (Ng x.f4 hr) (Ev.bind (Ti x.f5 (by have:=hx.d;omega)) (Ev.now _))
theorem Tj (xs:List It) (i:Nat) (h:i<xs.length):aI xs (i:Int)=xs[i]:=by simp[aI,h]
theorem GA (l:List It) (hc:Came l):∀(d i:Nat),i+d=l.length→Ev (fun k=>cK.l0 k l (l.take i) (i:Int)) l
 | 0,i,h=>by
  refine Ev.step (fun k=>?_) (Ev.now _);rw[cK.l0,if_neg aj,List.take_of_length_le aj]
 | d+1,i,h=>by
  have hi:i<l.length:=by omega
  have hn:=hc.n;have hm:=List.getElem_mem hi;refine Ev.step (f:=fun k=>(gK.f k l[i].f0 l[i].f1 l[i].f2 l[i].f3 l[i].f4 l[i].f5).bind fun bt=>cK.l0 k l (l.take i++[⟨bt.1,bt.2.1,bt.2.2.1,bt.2.2.2.1,bt.2.2.2.2.1,bt.2.2.2.2.2⟩]) ((i+1:Nat):Int)) (fun k=>?_) ?_
  ·rw[cK.l0,if_pos aj,if_pos aj,Tj l i hi,nO aj]
   congr 1
   funext bt
   rw[if_pos (by rw[List.length_take];omega)]
  refine Ev.bind (Nh l[i] (hc.fit _ hm) (hc.r _ hm)) ?_;have ih:=GA l hc d (i+1) aj;rw[← Dx l i hi] at ih;exact ih
theorem WY (l:List It) (hc:Came l):Ev (fun k=>cK.f k l) l:=GA l hc l.length 0 aj
theorem PY (x:It):rV x x=true:=by
 unfold rV;rw[decide_eq_true rfl,decide_eq_true rfl,decide_eq_true rfl,zT.2 rfl];simp
theorem Nk (x:It):fu.f x.f0 x.f1 x.f2 x.f3 x.f4 x.f5 x.f0 x.f1 x.f2 x.f3 x.f4 x.f5=some true:=by
 unfold fu.f;rw[show (⟨x.f0,x.f1,x.f2,x.f3,x.f4,x.f5⟩:It)=x from rfl,PY]
theorem zq (x:It):bN.f x.f0 x.f1 x.f2 x.f3 x.f4 x.f5 x.f0 x.f1 x.f2 x.f3 x.f4 x.f5=some true:=by
 unfold bN.f;rw[if_pos rfl,Nk];rfl
theorem xI (l:List It) (hl:l.length<9223372036854775807):∀(d i:Nat),i+d=l.length→Ev (fun k=>aX.l0 k l l (i:Int)) true
 | 0,i,h=>Ev.step (fun k=>by rw[aX.l0,if_neg aj]) (Ev.now _)
 | d+1,i,h=>by
  have hi:i<l.length:=by omega
  refine Ev.step (fun k=>?_) (xI l hl d (i+1) aj);rw[aX.l0,if_pos aj,if_pos aj,if_pos aj,Tj l i hi,zq,Option.bind_some,if_pos rfl,nO aj]
theorem KW (l:List It) (hl:l.length<9223372036854775807):Ev (fun k=>aX.f k l l) true :=
 Ev.congr (fun k=>by rw[aX.f,if_pos rfl];rfl) (xI l hl l.length 0 aj)
end Go.Proofs.YtknihldkhedpkaaGreatDoor
end
section
namespace Go.Proofs.YtknihldkhedpkaaGreatDoor
open Go.RowKit Go.ChangeShapes Go.WideShapes
open Go.Proofs.YtknihldkhedpkaaGreatDoorW.PrintWords Go.Proofs.YtknihldkhedpkaaGreatDoorW.PrintLast Go.Proofs.YtknihldkhedpkaaGreatDoor.PT
theorem ahy:zG Tryz.prog 117 dw (fun _=>True) :=
 (zG.struct (fun x:dh=>(x.f0,x.f1)) (fun y=>⟨⟨y.1,y.2⟩,rfl⟩) Tryz.underlying117 aD
  (Sk.cons rfl aD (zG.int Tryz.underlying3) (Sk.last rfl aD (zG.int Tryz.underlying3)))).good (fun _ _=>trivial)
theorem wf_u8 {n:Int} (h:(Lit.int .u8 n).wf=true):0≤n∧n≤255:=by
 simp[Lit.wf,IntKind.min,IntKind.max,IntKind.signed,IntKind.bits] at h;omega
theorem aep:zG Tryz.prog 29 mV (fun x=>Fit x∧x.f4.length<8796093022208):=by
 have b1:Tryz.prog.bytesOf 117=16:=by kernel_rfl
 have b2:Tryz.prog.bytesOf 5=1:=by kernel_rfl
 refine (zG.struct (fun x:kV=>(x.f0,x.f1,x.f2,x.f3,x.f4,x.f5)) (fun y=>⟨⟨y.1,y.2.1,y.2.2.1,y.2.2.2.1,y.2.2.2.2.1,y.2.2.2.2.2⟩,rfl⟩) Tryz.underlying29 aD
  (Sk.cons rfl aD (zG.int Tryz.underlying3) (Sk.cons rfl aD (zG.string Tryz.underlying9) (Sk.cons rfl aD (zG.string Tryz.underlying9) (Sk.cons rfl aD (zG.int Tryz.underlying3)
   (Sk.cons rfl aD (zG.slice 117 Tryz.underlying26 aD ahy) (Sk.last rfl aD (zG.slice 5 Tryz.underlying27 aD (zG.int Tryz.underlying5))))))))).good ?_
 rintro x ⟨_,h1,h2,_,⟨h4,_⟩,h5,h6⟩;dsimp only at h1 h2 h4 h5 h6;rw[b1] at h4;rw[b2] at h5;unfold reachBytes at h1 h2 h4 h5;exact⟨⟨by omega,by omega,by omega,by omega,fun n hn=>wf_u8 (h6 n hn)⟩,by omega⟩
theorem Tm:zG Tryz.prog 25 (Kd.slice 29 mV) Came:=by
 have b1:Tryz.prog.bytesOf 29=96:=by kernel_rfl
 refine (zG.slice 29 Tryz.underlying25 aD aep).good ?_;rintro l ⟨h1,h2⟩;rw[b1] at h1;unfold reachBytes at h1;exact⟨by omega,fun x hx=>(h2 x hx).2,fun x hx=>(h2 x hx).1⟩
end Go.Proofs.YtknihldkhedpkaaGreatDoor
end
section
namespace Go.Proofs.YtknihldkhedpkaaGreatDoor
open Go.RowKit Go.Lib
open Go.Proofs.YtknihldkhedpkaaGreatDoorW.PrintWords Go.Proofs.YtknihldkhedpkaaGreatDoorW.PrintLast Go.Proofs.YtknihldkhedpkaaGreatDoor.PT
theorem aer (s:ByteArray) (i:Nat) (h:i<s.size):bt s (i:Int)=((s[i]'h).toNat:Int):=by
 rw[← ahz s (i:Int) (by simpa using h)];simp
theorem vo (s:ByteArray) (i:Nat) (h:i<s.size):(bs s)[i]'(by rw[cZ];exact h)=s[i]'h:=by
 simp[bs];rfl
def xJ (s:ByteArray) (i j:Nat):Int:=if j<i then ((iR 47 0 (bs s)).getD j 0).toNat else ((bs s).getD j 0).toNat
theorem PZ (s:ByteArray) (i:Nat) (h:i<s.size):xJ s i i=bt s (i:Int):=by
 unfold xJ;rw[if_neg (Nat.lt_irrefl i),aer s i h,← vo s i h];simp[cZ,h]
theorem aes (s:ByteArray) (j:Nat) (h:j<s.size):xJ s s.size j=(((iR 47 0 (bs s))[j]'(by rw[iR,List.length_map,cZ];exact h)).toNat:Int):=by
 unfold xJ;rw[if_pos h,List.getD_eq_getElem?_getD,List.getElem?_eq_getElem];rfl
theorem acW (s:ByteArray) (i j:Nat) (h:j≠i):xJ s (i+1) j=xJ s i j:=by
 unfold xJ;by_cases h1:j<i
 ·rw[if_pos h1,if_pos aj]
 rw[if_neg h1,if_neg aj]
theorem aeu (s:ByteArray) (i:Nat) (h:i<s.size) (h1:bt s (i:Int)=47):xJ s (i+1) i=0:=by
 have e:=PZ s i h;unfold xJ at e ⊢;rw[if_neg (Nat.lt_irrefl i),h1] at e;rw[if_pos (Nat.lt_succ_self i)]
 have hl:i<(bs s).length:=by rw[cZ];exact h
 rw[List.getD_eq_getElem?_getD,List.getElem?_eq_getElem hl] at e;rw[List.getD_eq_getElem?_getD,iR,List.getElem?_map,List.getElem?_eq_getElem hl]
 have e2:(bs s)[i]=47:=by
  apply UInt8.toNat.inj;have:(((bs s)[i]).toNat:Int)=47:=e
  show _=47
  omega
 simp[e2]
theorem Z9 (s:ByteArray) (i:Nat) (h:i<s.size) (h1:bt s (i:Int)≠47):xJ s (i+1) i=bt s (i:Int):=by
 have e:=PZ s i h;rw[← e];rw[← e] at h1;unfold xJ at h1 ⊢;rw[if_neg (Nat.lt_irrefl i)] at h1;rw[if_pos (Nat.lt_succ_self i),if_neg (Nat.lt_irrefl i)]
 have hl:i<(bs s).length:=by rw[cZ];exact h
 rw[List.getD_eq_getElem?_getD,List.getElem?_eq_getElem hl] at h1;rw[List.getD_eq_getElem?_getD,List.getD_eq_getElem?_getD,iR,List.getElem?_map,List.getElem?_eq_getElem hl]
 have e2:(bs s)[i]≠47:=fun e2=>h1 (by rw[e2];rfl)
 simp[e2]
theorem yu (s:ByteArray) (hs:s.size≤140737488351232) (w:World):Calls Tryz.prog 107 #[.string s] w fun e w'=>e=.returned (.string (bY 47 0 s))∧Below w.heap.size w w':=by
 have Tn:=run_bytes_of_string (P:=Tryz.prog) w 9 27 5 s Tryz.underlying9 Tryz.underlying27 Tryz.underlying5
 obtain⟨cap,hcap⟩:∃c,grownCap w s.size 0 5=c:=⟨_,rfl⟩
 rw[hcap] at Tn
 obtain⟨W1,hW1⟩:∃W1,w.drew.alloc (.cells (bytesRow s cap) 5 ((bytesRow s cap).size,(bytesRow s cap).size+1))=W1:=⟨_,rfl⟩
 rw[hW1] at Tn
 have hrs:s.size≤(bytesRow s cap).size:=by simp[bytesRow]
 obtain⟨ad,had⟩:∃a:Addr,(⟨w.heap.size,0,none⟩:Addr)=a:=⟨_,rfl⟩
 have hadd:∀j,ad.add j=⟨w.heap.size,j,none⟩:=fun j=>by rw[← had,Go.WideShapes.add_plain,Nat.zero_add]
 have acX:∀j,j<s.size→W1.cell? (ad.add j)=some (.int .u8 (xJ s 0 j))∧W1.frozen? (ad.add j)=false:=fun j hj=>by
  rw[hadd,← hW1];refine⟨?_,?_⟩
  ·have:=World.cell?_alloc_mark w.drew (bytesRow s cap) 5 ((bytesRow s cap).size,(bytesRow s cap).size+1) j;refine this.trans ?_;rw[bytesRow_at s cap j hj];unfold xJ;rw[if_neg (Nat.not_lt_zero j),List.getD_eq_getElem?_getD,List.getElem?_eq_getElem (by rw[cZ];exact hj)]
   congr 2
  refine (World.frozen?_alloc_mark w.drew (bytesRow s cap) 5 _ _ j).trans ?_;rw[decide_eq_false aj,Bool.false_and]
 rw[had] at Tn
 have hb1:Below w.heap.size w W1:=by
  rw[← hW1];exact (bf (Below.refl _ _)).alloc (Nat.le_refl _) _
 have HF:=ah.mk acX;have HB:=ah.mk hb1;have HL:=ah.mk hadd
 have hback:∀wx:World,(∀j,j<s.size→wx.cell? (ad.add j)=some (.int .u8 (xJ s s.size j)))→(convert 27 9 (.slice (some ad) s.size cap)).run Tryz.prog wx=.ok (.string (bY 47 0 s)) wx:=fun wx hx=>by
  have hl:(iR 47 0 (bs s)).length=s.size:=by rw[iR,List.length_map,cZ]
  have:=run_convert_bytes_back (P:=Tryz.prog) wx 27 9 5 ad cap (iR 47 0 (bs s)) Tryz.underlying27 Tryz.underlying5 Tryz.underlying9 (fun j hj=>by
   rw[hx j aj,aes s j aj])
  rw[hl] at this;exact this
 have HK:=ah.mk hback;clear acX hb1 hback hW1 had hadd
 go_enter Tryz.func107,Tryz.ntmps107
 go_wp2_with fail
 go_loopg [4] s.size (fun g s4 wx=>∃i:Nat,i+g=s.size∧s4=.int .i64 i∧ah (∀j,j<s.size→wx.cell? (ad.add j)=some (.int .u8 (xJ s i j))∧wx.frozen? (ad.add j)=false)∧ah (Below w.heap.size w wx))
 case atStart=>exact⟨0,by omega,rfl,HF,HB⟩
 case round=>
  obtain⟨i,hig,rfl,HF,HB⟩:=hrel;clear Tn;by_cases hi:i<s.size
  ·have d1:decide ((i:Int)<(s.size:Int))=true:=decide_eq_true aj;have d2:decide (i<s.size)=true:=decide_eq_true hi;have c1:=(HF.out i hi).1;have z1:=(HF.out i hi).2;rw[PZ s i hi] at c1;by_cases h47:bt s (i:Int)=47
   ·have e1:(bt s (i:Int) == 47)=true:=beq_iff_eq.2 h47;have c1':=ah.mk c1
    have FR:ah (∀j,j<s.size→(wr.setCell (ad.add i) (.int .u8 0)).cell? (ad.add j)=some (.int .u8 (xJ s (i+1) j))∧(wr.setCell (ad.add i) (.int .u8 0)).frozen? (ad.add j)=false):=⟨fun j hj=>by
     refine⟨?_,by rw[World.frozen?_setCell];exact (HF.out j hj).2⟩;by_cases hji:j=i
     ·subst hji;rw[World.cell?_setCell_same _ _ _ c1,aeu s j hj h47]
     rw[World.cell?_setCell_other _ _ _ _ (fun h:ad.add i=ad.add j=>by rw[HL.out,HL.out] at h;injection h with _ h;exact hji h.symm),acW s i j hji]
     exact (HF.out j hj).1⟩
    have HB2:=ah.mk (HB.out.setCell (p:=ad.add i) (by rw[HL.out];exact Nat.le_refl _) (.int .u8 0));clear h47
    go_wp2_with fail
    go_roundg (s.size - (i+1))
    case measure=>omega
    case rel=>exact⟨i+1,by omega,by first|rfl|(push_cast;rfl)|simp,FR,HB2⟩
   have e1:(bt s (i:Int) == 47)=false:=beq_eq_false_iff_ne.2 h47
   have FR:ah (∀j,j<s.size→wr.cell? (ad.add j)=some (.int .u8 (xJ s (i+1) j))∧wr.frozen? (ad.add j)=false):=⟨fun j hj=>by
    refine⟨?_,(HF.out j hj).2⟩;by_cases hji:j=i
    ·subst hji;rw[Z9 s j hj h47];exact c1
    rw[acW s i j hji]
    exact (HF.out j hj).1⟩
   clear h47
   go_wp2_with fail
   go_roundg (s.size - (i+1))
   case measure=>omega
   case rel=>exact⟨i+1,by omega,by first|rfl|(push_cast;rfl)|simp,FR,HB⟩
  obtain rfl:i=s.size:=by omega
  have d1:decide ((s.size:Int)<(s.size:Int))=false:=decide_eq_false aj;have d2:decide (s.size<s.size)=false:=decide_eq_false hi;have hb:=HK.out wr (fun j hj=>(HF.out j hj).1)
  go_wp2_with fail
  go_ret
  exact⟨rfl,HB.out⟩
theorem xK:∀{l:List UInt8},(∀c∈l,c≠47∧c≠0)→Lib.indexAny l [47,0] = -1
 | [],_=>rfl
 | b::l,h=>by
  have hb:=h b List.mem_cons_self;have ih:=xK (l:=l) (fun c hc=>h c (List.mem_cons_of_mem _ hc));unfold Lib.indexAny;rw[if_neg (by simp[hb.1,hb.2]),ih];rfl
theorem U1 {p:ByteArray} (h1:p.size≤54) (h2:p.toList≠[]) (h3:p.toList≠[46]) (h4:p.toList≠[46,46]) (h5:∀c∈bs p,c≠47∧c≠0):fQ p=true:=by
 unfold fQ iq.f;rw[if_neg aj,if_neg h2,if_neg h3,if_neg h4,if_neg,decide_eq_true rfl];unfold Lib.containsAny;rw[show p.data.toList=bs p from rfl,xK h5]
 decide
theorem zU {p:ByteArray} (h:54<p.size∨p.toList=[]∨p.toList=[46]∨p.toList=[46,46]∨∃c∈bs p,c=47∨c=0):fQ p=false:=by
 cases hn:fQ p with
 | false=>rfl
 | true=>
  have hc:=zR hn;unfold fQ at hn;have hn:=of_decide_eq_true hn;unfold iq.f at hn
  rcases h with h|h|h|h|⟨c,h,h2⟩
  ·rw[if_pos h] at hn;cases hn
  ·repeat' split at hn
   all_goals first|cases hn|contradiction
  ·repeat' split at hn
   all_goals first|cases hn|contradiction
  ·repeat' split at hn
   all_goals first|cases hn|contradiction
  rcases h2 with h2|h2
  ·exact absurd h2 (hc c h).1
  exact absurd h2 (hc c h).2
theorem U2 (s:ByteArray) (hs:s.size≤140737488351232) (w:World):Calls Tryz.prog 138 #[.string s] w fun e w'=>(∃n,e=.returned (.int .i64 n)∧(n == 0)=fQ s)∧Below w.heap.size w w':=by
 by_cases h1:54<s.size
 ·have d1:decide (54<(s.size:Int))=true:=decide_eq_true aj;have d2:decide (54<s.size)=true:=decide_eq_true h1;have hn:=ah.mk (zU (.inl h1))
  go_enter Tryz.func138,Tryz.ntmps138
  go_wp2_with fail
  go_ret
  exact⟨⟨7,rfl,by rw[hn.out];rfl⟩,Below.refl _ _⟩
 have d1:decide (54<(s.size:Int))=false:=decide_eq_false aj;have d2:decide (54<s.size)=false:=decide_eq_false h1
 obtain⟨bad,hbad⟩:∃b,((s.toList == ([]:List UInt8)) || ((s.toList == [46]) || (s.toList == [46,46])))=b:=⟨_,rfl⟩
 cases bad with
 | true=>
  have hn:ah (fQ s=false):=⟨by
   simp only[Bool.or_eq_true,beq_iff_eq] at hbad
   exact zU (.inr (by rcases hbad with h|h|h <;> simp[h]))⟩
  go_enter Tryz.func138,Tryz.ntmps138
  go_upto_region 3 with (fail)
  cases b1:(s.toList == ([]:List UInt8)) with
  | true=>
   clear hbad
   go_wp2_with fail
   go_ret
   exact⟨⟨21,rfl,by rw[hn.out];rfl⟩,Below.refl _ _⟩
  | false=>
   cases b2:(s.toList == ([46]:List UInt8)) with
   | true=>
    clear hbad
    go_wp2_with fail
    go_ret
    exact⟨⟨21,rfl,by rw[hn.out];rfl⟩,Below.refl _ _⟩
   | false=>
    have b3:(s.toList == ([46,46]:List UInt8))=true:=by rw[b1,b2] at hbad;exact hbad
    clear hbad
    go_wp2_with fail
    go_ret
    exact⟨⟨21,rfl,by rw[hn.out];rfl⟩,Below.refl _ _⟩
 | false=>
  simp only[Bool.or_eq_false_iff] at hbad;obtain⟨b1,b2,b3⟩:=hbad;have HN:=ah.mk (show (∀c∈bs s,c≠47∧c≠0)→fQ s=true from fun h=>U1 aj (beq_eq_false_iff_ne.1 b1) (beq_eq_false_iff_ne.1 b2) (beq_eq_false_iff_ne.1 b3) h)
  go_enter Tryz.func138,Tryz.ntmps138
  go_wp2_with fail
  go_loopg [3] s.size (fun g s3 wx=>∃i:Nat,i+g=s.size∧s3=.int .i64 i∧ah (∀c∈(bs s).take i,c≠47∧c≠0)∧wx=w)
  case atStart=>exact⟨0,by omega,rfl,⟨fun c hc=>by cases hc⟩,rfl⟩
  case round=>
   obtain⟨i,hig,rfl,HC,rfl⟩:=hrel;by_cases hi:i<s.size
   ·have d1:decide ((i:Int)<(s.size:Int))=true:=decide_eq_true aj;have d2:decide (i<s.size)=true:=decide_eq_true hi
    have hm:ah (∀h:s[i]'hi=47∨s[i]'hi=0,fQ s=false):=⟨fun h=>zU (.inr (.inr (.inr (.inr ⟨_,List.getElem_mem (by rw[cZ];exact hi),by rw[vo s i hi];exact h⟩))))⟩
    have p0:(0≤(i:Int))=True:=eq_true aj;have p1:((i:Int)<(s.size:Int))=True:=eq_true aj;by_cases h47:((s[i]'hi).toNat:Int)=47
    ·have e1:(((s[i]'hi).toNat:Int) == 47)=true:=beq_iff_eq.2 h47;have hn:=ah.mk (hm.out (.inl (UInt8.toNat.inj (by show _=47;omega))));clear h47
     go_wp2_with fail
     go_ret
     exact⟨⟨21,rfl,by rw[hn.out];rfl⟩,Below.refl _ _⟩
    have e1:(((s[i]'hi).toNat:Int) == 47)=false:=beq_eq_false_iff_ne.2 h47;by_cases h0:((s[i]'hi).toNat:Int)=0
    ·have e2:(((s[i]'hi).toNat:Int) == 0)=true:=beq_iff_eq.2 h0;have hn:=ah.mk (hm.out (.inr (UInt8.toNat.inj (by show _=0;omega))));clear h47 h0
     go_wp2_with fail
     go_ret
     exact⟨⟨21,rfl,by rw[hn.out];rfl⟩,Below.refl _ _⟩
    have e2:(((s[i]'hi).toNat:Int) == 0)=false:=beq_eq_false_iff_ne.2 h0
    have OB:ah (∀c∈(bs s).take (i+1),c≠47∧c≠0):=⟨fun c hc=>by
     rw[List.take_succ_eq_append_getElem (by rw[cZ];exact hi)] at hc
     rcases List.mem_append.1 hc with hc|hc
     ·exact HC.out c hc
     rw[List.mem_singleton.1 hc,vo s i hi]
     exact⟨fun h=>h47 (by rw[h];rfl),fun h=>h0 (by rw[h];rfl)⟩⟩
    clear h47 h0
    go_wp2_with fail
    go_roundg (s.size - (i+1))
    case measure=>omega
    case rel=>exact⟨i+1,by omega,by first|rfl|(push_cast;rfl)|simp,OB,rfl⟩
   obtain rfl:i=s.size:=by omega
   have d1:decide ((s.size:Int)<(s.size:Int))=false:=decide_eq_false aj;have d2:decide (s.size<s.size)=false:=decide_eq_false hi;have hn:=ah.mk (HN.out (by have:=HC.out;rwa [← cZ,List.take_length] at this))
   go_wp2_with fail
   go_ret
   exact⟨⟨0,rfl,by rw[hn.out];rfl⟩,Below.refl _ _⟩
end Go.Proofs.YtknihldkhedpkaaGreatDoor
end
