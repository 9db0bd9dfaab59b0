import Derived.Test.YtknihldkhedpkaaGreatDoorDDG1
import Derived.Test.YtknihldkhedpkaaGreatDoorDDG18
set_option linter.all false
set_option maxHeartbeats 16000000
set_option maxRecDepth 100000
namespace Go.Proofs.YtknihldkhedpkaaGreatDoor.PT
open Go.RowKit Go.Proofs.YtknihldkhedpkaaGreatDoorW.PrintWords Go.Proofs.YtknihldkhedpkaaGreatDoorW.PrintLast Go.Proofs.YtknihldkhedpkaaGreatDoorW.PrintMore
attribute [local go_sem] kI kJ mI mJ jE jF kK kL
mutual
def aA.l0:Nat→List (List (kV))→List Int→Int→Option (List ByteArray)
 | 0,_,_,_=>none
 | k+1,x0,x3,x4=>if x4<(x0.length:Int) then (if x3.length<17592186044416 then (aA.l0 k x0 (x3++[0]) (wrap64 (x4+1))) else (none)) else (aA.l1 k x0 x3 ([]:List ByteArray))
def aA.l1:Nat→List (List (kV))→List Int→List ByteArray→Option (List ByteArray)
 | 0,_,_,_=>none
 | k+1,x0,x3,x5=>aA.l2 k x0 x3 x5 (⟨#[]⟩:ByteArray) 0
def aA.l2:Nat→List (List (kV))→List Int→List ByteArray→ByteArray→Int→Option (List ByteArray)
 | 0,_,_,_,_,_=>none
 | k+1,x0,x3,x5,x6,x7=>if x7<(x0.length:Int) then (if 0≤x7 then (if x7<(x3.length:Int) then (if (rd x3 x7)<((iP x0 x7).length:Int) then (if 0≤(rd x3 x7) then (if x6.toList=([]:List UInt8) then (aA.l2 k x0 x3 x5 ((aI (iP x0 x7) (rd x3 x7)).f1) (wrap64 (x7+1))) else ((bK.f ((aI (iP x0 x7) (rd x3 x7)).f1)).bind fun DF=>((bK.f x6).bind fun BR=>(if (Op.bytesLess DF.toList BR.toList)=true then (aA.l2 k x0 x3 x5 ((aI (iP x0 x7) (rd x3 x7)).f1) (wrap64 (x7+1))) else (aA.l2 k x0 x3 x5 x6 (wrap64 (x7+1))))))) else (none)) else (aA.l2 k x0 x3 x5 x6 (wrap64 (x7+1)))) else (none)) else (none)) else (if x6.toList=([]:List UInt8) then (some x5) else (aA.l3 k x0 x3 x5 x6 0))
def aA.l3:Nat→List (List (kV))→List Int→List ByteArray→ByteArray→Int→Option (List ByteArray)
 | 0,_,_,_,_,_=>none
 | k+1,x0,x3,x5,x6,x9=>if x9<(x0.length:Int) then (if 0≤x9 then (if x9<(x3.length:Int) then (if (rd x3 x9)<((iP x0 x9).length:Int) then (if 0≤(rd x3 x9) then (if ((aI (iP x0 x9) (rd x3 x9)).f1).toList=x6.toList then (aA.l3 k x0 (x3.set (x9:Int).toNat (wrap64 ((rd x3 x9)+1))) x5 x6 (wrap64 (x9+1))) else (aA.l3 k x0 x3 x5 x6 (wrap64 (x9+1)))) else (none)) else (aA.l3 k x0 x3 x5 x6 (wrap64 (x9+1)))) else (none)) else (none)) else (if x5.length<8796093022208 then (aA.l1 k x0 x3 (x5++[x6])) else (none))
end
def aA.f (k:Nat) (l0:List (List (kV))):Option (List ByteArray):=aA.l0 k l0 ([]:List Int) 0
theorem aA.calls (k:Nat) (A0:Option Addr) (c0:Nat) (l0:List (List (kV))) (r:List ByteArray) (w:World) (hr0:Kd.C (Kd.slice 29 mV) w A0 l0.length l0) (hc0:l0.length≤c0) (h:aA.f k l0=some r) :
  Calls Tryz.prog 35 #[.slice A0 l0.length c0] w fun e w'=>∃wI:Value,e=.returned (wI)∧Kd.R Kd.string 9 w' w.heap.size (fun _=>True) wI r∧Below w.heap.size w w':=by
 have nC:=ah.mk hr0;have VW:=ah.mk hc0;clear hr0 hc0;have HB:=ah.mk (Below.refl w.heap.size w);have H:(aA.l0 k l0 ([]:List Int) 0)=some r:=h;clear h;have H':=ah.mk H;clear H
 go_enter Tryz.func35,Tryz.ntmps35
 go_wp2
 repeat (go_quiet (fail);try go_wp2)
 go_loopg [3,4] k (fun kq v3 v4 w'=>∃(ku:List Int) (dZ:Int),v4=.int .i64 dZ∧ah (aA.l0 kq l0 ku dZ=some r)∧ah (kq≤k)∧ah (Kd.R (Kd.int .i64) 3 w' w.heap.size (fun _=>True) v3 ku)∧ah (Below w.heap.size w w'))
 case atStart=>exact⟨(([]:List Int)),(0),dV,H',⟨Nat.le_refl _⟩,⟨by first|exact Kd.eD _ _ _ _ _|exact Kd.Gi _ _ _ _ _|exact Kd.Gj _ _ _ _ _|exact Kd.Gl _ _ _ _ _|exact Kd.Ef _ _ _ _ _⟩,⟨by repeat (first|(with_reducible first|exact HB.out|apply aG|apply av|apply aK)|exact HB.out)⟩⟩
 case round=>
  clear H';obtain⟨ku,dZ,rfl,HA,jH,dx,HB⟩:=hrel
  cases gk with
  | zero=>exact absurd HA.out (by simp[aA.l0])
  | succ k1=>
   have H:=HA.out;clear HA;simp only[aA.l0] at H
   by_cases c2:dZ<(l0.length:Int)
   ·rw[if_pos c2] at H;have zS:decide (dZ<(l0.length:Int))=true:=decide_eq_true c2;clear c2;by_cases c3:ku.length<17592186044416
    ·rw[if_pos c3] at H;have ae6:=ah.mk c3;clear c3
     obtain⟨aii,NJ⟩:∃y_:List Int,y_=(ku++[0]):=⟨_,rfl⟩
     replace H:(aA.l0 k1 l0 aii (wrap64 (dZ+1)))=some r:=by first|(rw[NJ];with_reducible exact H)|(have qc:=(Option.bind_some _ _).symm.trans H;rw[NJ];with_reducible exact qc)|(have qc:=(Option.bind_some _ _).symm.trans H;with_reducible exact qc)|with_reducible exact H|(rw[NJ];exact H)|exact H
     have Xy:=ah.mk NJ;clear NJ;have H':=ah.mk H;clear H
     go_wp2_with (first|((with_reducible refine bQ (b:=.append) (xs:=#[.tmp 16,.tmp 17]) rfl ?_);at_builtin;refine Kd.gJ (Kd.int .i64) (w0:=w) w.heap.size rfl (.tmp 16) (.tmp 17) 113 3 (.int .i64 0) 8 rfl Tryz.underlying113 info3 rfl aH aj u3 ku 0 [.int .i64 0] (fun _=>True) (fun _=>False) rfl rfl ?aP (fun _ hk=>hk.elim) ?aF ?aO ?aB ?aS ?aL ?_;(case aP=>exact rfl);(case aB=>exact dG);(case aF=>exact (fun _ _=>trivial));(case aO=>exact (by (with_reducible repeat (first|apply Kd.aW|apply Kd.aT|apply Kd.bE));exact dx.out));(case aS=>exact (bH dG));(case aL=>have:=ae6.out;omega);intro aij w4 ho hb hg hat;rw[← Xy.out] at ho;have dM:=ah.mk (hb);have dU:=ah.mk (ho);clear HB;clear dx;have HB:=dM;have Xz:=dU;clear dM dU;clear ho hb hg hat))
     repeat (go_quiet (first|((with_reducible refine bQ (b:=.append) (xs:=#[.tmp 16,.tmp 17]) rfl ?_);at_builtin;refine Kd.gJ (Kd.int .i64) (w0:=w) w.heap.size rfl (.tmp 16) (.tmp 17) 113 3 (.int .i64 0) 8 rfl Tryz.underlying113 info3 rfl aH aj u3 ku 0 [.int .i64 0] (fun _=>True) (fun _=>False) rfl rfl ?aP (fun _ hk=>hk.elim) ?aF ?aO ?aB ?aS ?aL ?_;(case aP=>exact rfl);(case aB=>exact dG);(case aF=>exact (fun _ _=>trivial));(case aO=>exact (by (with_reducible repeat (first|apply Kd.aW|apply Kd.aT|apply Kd.bE));exact dx.out));(case aS=>exact (bH dG));(case aL=>have:=ae6.out;omega);intro aij w4 ho hb hg hat;rw[← Xy.out] at ho;have dM:=ah.mk (hb);have dU:=ah.mk (ho);clear HB;clear dx;have HB:=dM;have Xz:=dU;clear dM dU;clear ho hb hg hat));try go_wp2_with (first|((with_reducible refine bQ (b:=.append) (xs:=#[.tmp 16,.tmp 17]) rfl ?_);at_builtin;refine Kd.gJ (Kd.int .i64) (w0:=w) w.heap.size rfl (.tmp 16) (.tmp 17) 113 3 (.int .i64 0) 8 rfl Tryz.underlying113 info3 rfl aH aj u3 ku 0 [.int .i64 0] (fun _=>True) (fun _=>False) rfl rfl ?aP (fun _ hk=>hk.elim) ?aF ?aO ?aB ?aS ?aL ?_;(case aP=>exact rfl);(case aB=>exact dG);(case aF=>exact (fun _ _=>trivial));(case aO=>exact (by (with_reducible repeat (first|apply Kd.aW|apply Kd.aT|apply Kd.bE));exact dx.out));(case aS=>exact (bH dG));(case aL=>have:=ae6.out;omega);intro aij w4 ho hb hg hat;rw[← Xy.out] at ho;have dM:=ah.mk (hb);have dU:=ah.mk (ho);clear HB;clear dx;have HB:=dM;have Xz:=dU;clear dM dU;clear ho hb hg hat)))
     go_roundg k1
     case measure=>have:=jH.out;omega
     case rel=>exact⟨(aii),(wrap64 (dZ+1)),dV,H',⟨by have:=jH.out;omega⟩,⟨by (with_reducible repeat (first|apply Kd.aW|apply Kd.aT|apply Kd.bE));exact Xz.out⟩,⟨by repeat (first|(with_reducible first|exact HB.out|apply aG|apply av|apply aK)|exact HB.out)⟩⟩
    rw[if_neg c3] at H;exact absurd H bB
   rw[if_neg c2] at H;have zS:decide (dZ<(l0.length:Int))=false:=decide_eq_false c2;clear c2;have H':=ah.mk H;clear H
   go_wp2
   repeat (go_quiet (fail);try go_wp2)
   go_loopg [5] k1 (fun kq v5 w'=>∃(fT:List Int) (qp:List ByteArray),ah (aA.l1 kq l0 fT qp=some r)∧ah (kq≤k1)∧ah (Kd.R (Kd.int .i64) 3 w' w.heap.size (fun _=>True) u3 fT)∧ah (Kd.R Kd.string 9 w' w.heap.size (fun _=>True) v5 qp)∧ah (Below w.heap.size w w'))
   case atStart=>exact⟨(ku),(([]:List ByteArray)),H',⟨Nat.le_refl _⟩,⟨by (with_reducible repeat (first|apply Kd.aW|apply Kd.aT|apply Kd.bE));exact dx.out⟩,⟨by first|exact Kd.eD _ _ _ _ _|exact Kd.Gi _ _ _ _ _|exact Kd.Gj _ _ _ _ _|exact Kd.Gl _ _ _ _ _|exact Kd.Ef _ _ _ _ _⟩,⟨by repeat (first|(with_reducible first|exact HB.out|apply aG|apply av|apply aK)|exact HB.out)⟩⟩
   case round=>
    clear H'
    try clear c2
    try clear zS
    try clear p2
    try clear c3
    obtain⟨fT,qp,HA,jG,dx,fG,HB⟩:=hrel
    cases gk with
    | zero=>exact absurd HA.out (by simp[aA.l1])
    | succ k2=>
     have H:=HA.out;clear HA;simp only[aA.l1] at H;have H':=ah.mk H;clear H
     go_wp2
     repeat (go_quiet (fail);try go_wp2)
     go_loopg [6,7] k2 (fun kq v6 v7 w'=>∃(lQ:ByteArray) (dJ:Int),v6=.string lQ∧v7=.int .i64 dJ∧ah (aA.l2 kq l0 fT qp lQ dJ=some r)∧ah (kq≤k2)∧ah (Kd.R (Kd.int .i64) 3 w' w.heap.size (fun _=>True) u3 fT)∧ah (Kd.R Kd.string 9 w' w.heap.size (fun _=>True) u5 qp)∧ah (Below w.heap.size w w'))
     case atStart=>exact⟨((⟨#[]⟩:ByteArray)),(0),dV,dV,H',⟨Nat.le_refl _⟩,⟨by (with_reducible repeat (first|apply Kd.aW|apply Kd.aT|apply Kd.bE));exact dx.out⟩,⟨by (with_reducible repeat (first|apply Kd.aW|apply Kd.aT|apply Kd.bE));exact fG.out⟩,⟨by repeat (first|(with_reducible first|exact HB.out|apply aG|apply av|apply aK)|exact HB.out)⟩⟩
     case round=>
      clear H'
      try clear c2
      try clear zS
      try clear p2
      try clear c3
      try clear p2
      obtain⟨lQ,dJ,rfl,rfl,HA,ug,dx,fG,HB⟩:=hrel
      cases gk with
      | zero=>exact absurd HA.out (by simp[aA.l2])
      | succ k3=>
       have H:=HA.out;clear HA;simp only[aA.l2] at H
       by_cases c5:dJ<(l0.length:Int)
       ·rw[if_pos c5] at H;have Bg:decide (dJ<(l0.length:Int))=true:=decide_eq_true c5;clear c5;by_cases c6:0≤dJ
        ·rw[if_pos c6] at H;have Nc:decide (0≤dJ)=true:=decide_eq_true c6;clear c6
         by_cases c7:dJ<(fT.length:Int)
         ·rw[if_pos c7] at H;have KY:decide (dJ<(fT.length:Int))=true:=decide_eq_true c7;clear c7
          by_cases c8:(rd fT dJ)<((iP l0 dJ).length:Int)
          ·rw[if_pos c8] at H;have U9:decide ((rd fT dJ)<((iP l0 dJ).length:Int))=true:=decide_eq_true c8;clear c8
           by_cases c9:0≤(rd fT dJ)
           ·rw[if_pos c9] at H;have NK:decide (0≤(rd fT dJ))=true:=decide_eq_true c9;clear c9
            by_cases c10:lQ.toList=([]:List UInt8)
            ·rw[if_pos c10] at H;have zw:(lQ.toList == ([]:List UInt8))=true:=beq_iff_eq.mpr c10;have TM:(lQ.toList != ([]:List UInt8))=false:=bne_eq_false_iff_eq.mpr c10;clear c10;have H':=ah.mk H;clear H;obtain⟨Vb,Vd,aaE⟩:=Kd.bP dx.out;subst aaE;have yX:0≤(dJ:Int):=of_decide_eq_true bg;have yY:dJ<(fT.length:Int):=of_decide_eq_true bg;obtain⟨JV,e305,Fu⟩:=Kd.gZ (Kd.bU dx.out).2.2 dJ yX yY;cases e305;replace yX:=eq_true yX;replace yY:=eq_true yY;have yZ:0≤(dJ:Int):=of_decide_eq_true bg;have y9:dJ<(l0.length:Int):=of_decide_eq_true bg;obtain⟨JW,Qv,Qw,e306,jy,pJ,pK⟩:=wE nC.out dJ yZ y9;cases e306;replace jy:=(HB.out.cell (World.block_lt_of_cell? w _ jy)).trans jy;have K9:=ah.mk pK;have La:=ah.mk pJ;clear pK pJ;replace yZ:=eq_true yZ;replace y9:=eq_true y9;have EI:0≤(dJ:Int):=of_decide_eq_true bg;have EJ:dJ<(l0.length:Int):=of_decide_eq_true bg;obtain⟨NM,XA,XB,e307,lG,sW,sZ⟩:=wE nC.out dJ EI EJ
             obtain rfl:JW=NM:=(by injection e307)
             replace lG:=(HB.out.cell (World.block_lt_of_cell? w _ lG)).trans lG;have BS:=ah.mk sZ;have TN:=ah.mk sW;clear sZ sW;replace EI:=eq_true EI;replace EJ:=eq_true EJ;have yw:=Option.some.inj (jy.symm.trans lG)
             injection yw with yw Qd Qe
             subst yw;subst Qe;clear Qd;have EK:0≤(dJ:Int):=of_decide_eq_true bg;have EL:dJ<(fT.length:Int):=of_decide_eq_true bg;obtain⟨NP,e308,Lb⟩:=Kd.gZ (Kd.bU dx.out).2.2 dJ EK EL
             obtain rfl:JV=NP:=(by injection e308)
             replace EK:=eq_true EK;replace EL:=eq_true EL;have EM:0≤((rd fT dJ):Int):=of_decide_eq_true bg;have EN:(rd fT dJ)<((iP l0 dJ).length:Int):=of_decide_eq_true bg;obtain⟨ada,XC,XD,XE,XF,e309,nP,nQ,nR,nS,nT,nU,tq,tu,tC,tF⟩:=jh BS.out (rd fT dJ) EM EN;cases e309;replace nP:=(HB.out.cell (World.block_lt_of_cell? w _ nP)).trans nP;replace nQ:=(HB.out.cell (World.block_lt_of_cell? w _ nQ)).trans nQ;replace nR:=(HB.out.cell (World.block_lt_of_cell? w _ nR)).trans nR;replace nS:=(HB.out.cell (World.block_lt_of_cell? w _ nS)).trans nS;replace nT:=(HB.out.cell (World.block_lt_of_cell? w _ nT)).trans nT;replace nU:=(HB.out.cell (World.block_lt_of_cell? w _ nU)).trans nU;have TP:=ah.mk tu;have TQ:=ah.mk tq;clear tu tq;have TR:=ah.mk tF;have TS:=ah.mk tC;clear tF tC;replace EM:=eq_true EM;replace EN:=eq_true EN
             go_wp2
             repeat (go_quiet (fail);try go_wp2)
             go_roundg k3
             case measure=>have:=jH.out;have:=jG.out;have:=ug.out;omega
             case rel=>exact⟨((aI (iP l0 dJ) (rd fT dJ)).f1),(wrap64 (dJ+1)),dV,dV,H',⟨by have:=jH.out;have:=jG.out;have:=ug.out;omega⟩,⟨by (with_reducible repeat (first|apply Kd.aW|apply Kd.aT|apply Kd.bE));exact dx.out⟩,⟨by (with_reducible repeat (first|apply Kd.aW|apply Kd.aT|apply Kd.bE));exact fG.out⟩,⟨by repeat (first|(with_reducible first|exact HB.out|apply aG|apply av|apply aK)|exact HB.out)⟩⟩
            rw[if_neg c10] at H;have zw:(lQ.toList == ([]:List UInt8))=false:=beq_eq_false_iff_ne.mpr c10;have TM:(lQ.toList != ([]:List UInt8))=true:=bne_iff_ne.mpr c10;replace H:=Option.bind_eq_some_iff.mp H;obtain⟨DF,XG,H⟩:=H;replace H:((bK.f lQ).bind fun BR=>(if (Op.bytesLess DF.toList BR.toList)=true then (aA.l2 k3 l0 fT qp ((aI (iP l0 dJ) (rd fT dJ)).f1) (wrap64 (dJ+1))) else (aA.l2 k3 l0 fT qp lQ (wrap64 (dJ+1)))))=some r:=H;have A12:=ah.mk XG;clear XG;replace H:=Option.bind_eq_some_iff.mp H;obtain⟨BR,XH,H⟩:=H;replace H:(if (Op.bytesLess DF.toList BR.toList)=true then (aA.l2 k3 l0 fT qp ((aI (iP l0 dJ) (rd fT dJ)).f1) (wrap64 (dJ+1))) else (aA.l2 k3 l0 fT qp lQ (wrap64 (dJ+1))))=some r:=H;have A13:=ah.mk XH;clear XH;by_cases c14:(Op.bytesLess DF.toList BR.toList)=true
            ·rw[if_pos c14] at H;have NC:(Op.bytesLess DF.toList BR.toList)=true:=c14;clear c14;have H':=ah.mk H;clear H;obtain⟨aik,ail,ae7⟩:=Kd.bP dx.out;subst ae7;have yX:0≤(dJ:Int):=of_decide_eq_true bg;have yY:dJ<(fT.length:Int):=of_decide_eq_true bg;obtain⟨JV,e305,Fu⟩:=Kd.gZ (Kd.bU dx.out).2.2 dJ yX yY;cases e305;replace yX:=eq_true yX;replace yY:=eq_true yY;have yZ:0≤(dJ:Int):=of_decide_eq_true bg;have y9:dJ<(l0.length:Int):=of_decide_eq_true bg;obtain⟨JW,Qv,Qw,e306,jy,pJ,pK⟩:=wE nC.out dJ yZ y9;cases e306;replace jy:=(HB.out.cell (World.block_lt_of_cell? w _ jy)).trans jy;have K9:=ah.mk pK;have La:=ah.mk pJ;clear pK pJ;replace yZ:=eq_true yZ;replace y9:=eq_true y9;have EI:0≤(dJ:Int):=of_decide_eq_true bg;have EJ:dJ<(l0.length:Int):=of_decide_eq_true bg;obtain⟨NM,XA,XB,e307,lG,sW,sZ⟩:=wE nC.out dJ EI EJ
             obtain rfl:JW=NM:=(by injection e307)
             replace lG:=(HB.out.cell (World.block_lt_of_cell? w _ lG)).trans lG;have BS:=ah.mk sZ;have TN:=ah.mk sW;clear sZ sW;replace EI:=eq_true EI;replace EJ:=eq_true EJ;have yw:=Option.some.inj (jy.symm.trans lG)
             injection yw with yw Qd Qe
             subst yw;subst Qe;clear Qd;have EK:0≤(dJ:Int):=of_decide_eq_true bg;have EL:dJ<(fT.length:Int):=of_decide_eq_true bg;obtain⟨NP,e308,Lb⟩:=Kd.gZ (Kd.bU dx.out).2.2 dJ EK EL
             obtain rfl:JV=NP:=(by injection e308)
             replace EK:=eq_true EK;replace EL:=eq_true EL;have EM:0≤((rd fT dJ):Int):=of_decide_eq_true bg;have EN:(rd fT dJ)<((iP l0 dJ).length:Int):=of_decide_eq_true bg;obtain⟨ada,XC,XD,XE,XF,e309,nP,nQ,nR,nS,nT,nU,tq,tu,tC,tF⟩:=jh BS.out (rd fT dJ) EM EN;cases e309;replace nP:=(HB.out.cell (World.block_lt_of_cell? w _ nP)).trans nP;replace nQ:=(HB.out.cell (World.block_lt_of_cell? w _ nQ)).trans nQ;replace nR:=(HB.out.cell (World.block_lt_of_cell? w _ nR)).trans nR;replace nS:=(HB.out.cell (World.block_lt_of_cell? w _ nS)).trans nS;replace nT:=(HB.out.cell (World.block_lt_of_cell? w _ nT)).trans nT;replace nU:=(HB.out.cell (World.block_lt_of_cell? w _ nU)).trans nU;have TP:=ah.mk tu;have TQ:=ah.mk tq;clear tu tq;have TR:=ah.mk tF;have TS:=ah.mk tC;clear tF tC;replace EM:=eq_true EM;replace EN:=eq_true EN
             go_wp2_with (first|(go_at_call 68;(with_reducible refine (bK.calls ((aI (iP l0 dJ) (rd fT dJ)).f1) DF _ A12.out).mono ?_);rintro e w16 ⟨rfl,hb⟩;have dM:=ah.mk (Kd.bO (by (with_reducible repeat (first|apply Kd.aW|apply Kd.aT|apply Kd.bE));exact dx.out) hb);have dU:=ah.mk (Kd.bO (by (with_reducible repeat (first|apply Kd.aW|apply Kd.aT|apply Kd.bE));exact fG.out) hb);have eF:=ah.mk (bM dG hb);clear dx;clear fG;clear HB;have dx:=dM;have fG:=dU;have HB:=eF;clear dM dU eF;(try clear hb);(try clear hb2);(try clear hk);(try clear hi))|(go_at_call 68;(with_reducible refine (bK.calls lQ BR _ A13.out).mono ?_);rintro e w17 ⟨rfl,hb⟩;have dM:=ah.mk (Kd.bO (by (with_reducible repeat (first|apply Kd.aW|apply Kd.aT|apply Kd.bE));exact dx.out) hb);have dU:=ah.mk (Kd.bO (by (with_reducible repeat (first|apply Kd.aW|apply Kd.aT|apply Kd.bE));exact fG.out) hb);have eF:=ah.mk (bM dG hb);clear dx;clear fG;clear HB;have dx:=dM;have fG:=dU;have HB:=eF;clear dM dU eF;(try clear hb);(try clear hb2);(try clear hk);(try clear hi)))
             repeat (go_quiet (first|(go_at_call 68;(with_reducible refine (bK.calls ((aI (iP l0 dJ) (rd fT dJ)).f1) DF _ A12.out).mono ?_);rintro e w16 ⟨rfl,hb⟩;have dM:=ah.mk (Kd.bO (by (with_reducible repeat (first|apply Kd.aW|apply Kd.aT|apply Kd.bE));exact dx.out) hb);have dU:=ah.mk (Kd.bO (by (with_reducible repeat (first|apply Kd.aW|apply Kd.aT|apply Kd.bE));exact fG.out) hb);have eF:=ah.mk (bM dG hb);clear dx;clear fG;clear HB;have dx:=dM;have fG:=dU;have HB:=eF;clear dM dU eF;(try clear hb);(try clear hb2);(try clear hk);(try clear hi))|(go_at_call 68;(with_reducible refine (bK.calls lQ BR _ A13.out).mono ?_);rintro e w17 ⟨rfl,hb⟩;have dM:=ah.mk (Kd.bO (by (with_reducible repeat (first|apply Kd.aW|apply Kd.aT|apply Kd.bE));exact dx.out) hb);have dU:=ah.mk (Kd.bO (by (with_reducible repeat (first|apply Kd.aW|apply Kd.aT|apply Kd.bE));exact fG.out) hb);have eF:=ah.mk (bM dG hb);clear dx;clear fG;clear HB;have dx:=dM;have fG:=dU;have HB:=eF;clear dM dU eF;(try clear hb);(try clear hb2);(try clear hk);(try clear hi)));try go_wp2_with (first|(go_at_call 68;(with_reducible refine (bK.calls ((aI (iP l0 dJ) (rd fT dJ)).f1) DF _ A12.out).mono ?_);rintro e w16 ⟨rfl,hb⟩;have dM:=ah.mk (Kd.bO (by (with_reducible repeat (first|apply Kd.aW|apply Kd.aT|apply Kd.bE));exact dx.out) hb);have dU:=ah.mk (Kd.bO (by (with_reducible repeat (first|apply Kd.aW|apply Kd.aT|apply Kd.bE));exact fG.out) hb);have eF:=ah.mk (bM dG hb);clear dx;clear fG;clear HB;have dx:=dM;have fG:=dU;have HB:=eF;clear dM dU eF;(try clear hb);(try clear hb2);(try clear hk);(try clear hi))|(go_at_call 68;(with_reducible refine (bK.calls lQ BR _ A13.out).mono ?_);rintro e w17 ⟨rfl,hb⟩;have dM:=ah.mk (Kd.bO (by (with_reducible repeat (first|apply Kd.aW|apply Kd.aT|apply Kd.bE));exact dx.out) hb);have dU:=ah.mk (Kd.bO (by (with_reducible repeat (first|apply Kd.aW|apply Kd.aT|apply Kd.bE));exact fG.out) hb);have eF:=ah.mk (bM dG hb);clear dx;clear fG;clear HB;have dx:=dM;have fG:=dU;have HB:=eF;clear dM dU eF;(try clear hb);(try clear hb2);(try clear hk);(try clear hi))))
             go_roundg k3
             case measure=>have:=jH.out;have:=jG.out;have:=ug.out;omega
             case rel=>exact⟨((aI (iP l0 dJ) (rd fT dJ)).f1),(wrap64 (dJ+1)),dV,dV,H',⟨by have:=jH.out;have:=jG.out;have:=ug.out;omega⟩,⟨by (with_reducible repeat (first|apply Kd.aW|apply Kd.aT|apply Kd.bE));exact dx.out⟩,⟨by (with_reducible repeat (first|apply Kd.aW|apply Kd.aT|apply Kd.bE));exact fG.out⟩,⟨by repeat (first|(with_reducible first|exact HB.out|apply aG|apply av|apply aK)|exact HB.out)⟩⟩
            rw[if_neg c14] at H
            have NC:(Op.bytesLess DF.toList BR.toList)=false:=by simpa using c14
            clear c14;have H':=ah.mk H;clear H;obtain⟨asy,asz,anD⟩:=Kd.bP dx.out;subst anD;have yX:0≤(dJ:Int):=of_decide_eq_true bg;have yY:dJ<(fT.length:Int):=of_decide_eq_true bg;obtain⟨JV,e305,Fu⟩:=Kd.gZ (Kd.bU dx.out).2.2 dJ yX yY;cases e305;replace yX:=eq_true yX;replace yY:=eq_true yY;have yZ:0≤(dJ:Int):=of_decide_eq_true bg;have y9:dJ<(l0.length:Int):=of_decide_eq_true bg;obtain⟨JW,Qv,Qw,e306,jy,pJ,pK⟩:=wE nC.out dJ yZ y9;cases e306;replace jy:=(HB.out.cell (World.block_lt_of_cell? w _ jy)).trans jy;have K9:=ah.mk pK;have La:=ah.mk pJ;clear pK pJ;replace yZ:=eq_true yZ;replace y9:=eq_true y9;have EI:0≤(dJ:Int):=of_decide_eq_true bg;have EJ:dJ<(l0.length:Int):=of_decide_eq_true bg;obtain⟨NM,XA,XB,e307,lG,sW,sZ⟩:=wE nC.out dJ EI EJ
            obtain rfl:JW=NM:=(by injection e307)
            replace lG:=(HB.out.cell (World.block_lt_of_cell? w _ lG)).trans lG;have BS:=ah.mk sZ;have TN:=ah.mk sW;clear sZ sW;replace EI:=eq_true EI;replace EJ:=eq_true EJ;have yw:=Option.some.inj (jy.symm.trans lG)
            injection yw with yw Qd Qe
            subst yw;subst Qe;clear Qd;have EK:0≤(dJ:Int):=of_decide_eq_true bg;have EL:dJ<(fT.length:Int):=of_decide_eq_true bg;obtain⟨NP,e308,Lb⟩:=Kd.gZ (Kd.bU dx.out).2.2 dJ EK EL
            obtain rfl:JV=NP:=(by injection e308)
            replace EK:=eq_true EK;replace EL:=eq_true EL;have EM:0≤((rd fT dJ):Int):=of_decide_eq_true bg;have EN:(rd fT dJ)<((iP l0 dJ).length:Int):=of_decide_eq_true bg;obtain⟨ada,XC,XD,XE,XF,e309,nP,nQ,nR,nS,nT,nU,tq,tu,tC,tF⟩:=jh BS.out (rd fT dJ) EM EN;cases e309;replace nP:=(HB.out.cell (World.block_lt_of_cell? w _ nP)).trans nP;replace nQ:=(HB.out.cell (World.block_lt_of_cell? w _ nQ)).trans nQ;replace nR:=(HB.out.cell (World.block_lt_of_cell? w _ nR)).trans nR;replace nS:=(HB.out.cell (World.block_lt_of_cell? w _ nS)).trans nS;replace nT:=(HB.out.cell (World.block_lt_of_cell? w _ nT)).trans nT;replace nU:=(HB.out.cell (World.block_lt_of_cell? w _ nU)).trans nU;have TP:=ah.mk tu;have TQ:=ah.mk tq;clear tu tq;have TR:=ah.mk tF;have TS:=ah.mk tC;clear tF tC;replace EM:=eq_true EM;replace EN:=eq_true EN
            go_wp2_with (first|(go_at_call 68;(with_reducible refine (bK.calls ((aI (iP l0 dJ) (rd fT dJ)).f1) DF _ A12.out).mono ?_);rintro e w19 ⟨rfl,hb⟩;have dM:=ah.mk (Kd.bO (by (with_reducible repeat (first|apply Kd.aW|apply Kd.aT|apply Kd.bE));exact dx.out) hb);have dU:=ah.mk (Kd.bO (by (with_reducible repeat (first|apply Kd.aW|apply Kd.aT|apply Kd.bE));exact fG.out) hb);have eF:=ah.mk (bM dG hb);clear dx;clear fG;clear HB;have dx:=dM;have fG:=dU;have HB:=eF;clear dM dU eF;(try clear hb);(try clear hb2);(try clear hk);(try clear hi))|(go_at_call 68;(with_reducible refine (bK.calls lQ BR _ A13.out).mono ?_);rintro e w20 ⟨rfl,hb⟩;have dM:=ah.mk (Kd.bO (by (with_reducible repeat (first|apply Kd.aW|apply Kd.aT|apply Kd.bE));exact dx.out) hb);have dU:=ah.mk (Kd.bO (by (with_reducible repeat (first|apply Kd.aW|apply Kd.aT|apply Kd.bE));exact fG.out) hb);have eF:=ah.mk (bM dG hb);clear dx;clear fG;clear HB;have dx:=dM;have fG:=dU;have HB:=eF;clear dM dU eF;(try clear hb);(try clear hb2);(try clear hk);(try clear hi)))
            repeat (go_quiet (first|(go_at_call 68;(with_reducible refine (bK.calls ((aI (iP l0 dJ) (rd fT dJ)).f1) DF _ A12.out).mono ?_);rintro e w19 ⟨rfl,hb⟩;have dM:=ah.mk (Kd.bO (by (with_reducible repeat (first|apply Kd.aW|apply Kd.aT|apply Kd.bE));exact dx.out) hb);have dU:=ah.mk (Kd.bO (by (with_reducible repeat (first|apply Kd.aW|apply Kd.aT|apply Kd.bE));exact fG.out) hb);have eF:=ah.mk (bM dG hb);clear dx;clear fG;clear HB;have dx:=dM;have fG:=dU;have HB:=eF;clear dM dU eF;(try clear hb);(try clear hb2);(try clear hk);(try clear hi))|(go_at_call 68;(with_reducible refine (bK.calls lQ BR _ A13.out).mono ?_);rintro e w20 ⟨rfl,hb⟩;have dM:=ah.mk (Kd.bO (by (with_reducible repeat (first|apply Kd.aW|apply Kd.aT|apply Kd.bE));exact dx.out) hb);have dU:=ah.mk (Kd.bO (by (with_reducible repeat (first|apply Kd.aW|apply Kd.aT|apply Kd.bE));exact fG.out) hb);have eF:=ah.mk (bM dG hb);clear dx;clear fG;clear HB;have dx:=dM;have fG:=dU;have HB:=eF;clear dM dU eF;(try clear hb);(try clear hb2);(try clear hk);(try clear hi)));try go_wp2_with (first|(go_at_call 68;(with_reducible refine (bK.calls ((aI (iP l0 dJ) (rd fT dJ)).f1) DF _ A12.out).mono ?_);rintro e w19 ⟨rfl,hb⟩;have dM:=ah.mk (Kd.bO (by (with_reducible repeat (first|apply Kd.aW|apply Kd.aT|apply Kd.bE));exact dx.out) hb);have dU:=ah.mk (Kd.bO (by (with_reducible repeat (first|apply Kd.aW|apply Kd.aT|apply Kd.bE));exact fG.out) hb);have eF:=ah.mk (bM dG hb);clear dx;clear fG;clear HB;have dx:=dM;have fG:=dU;have HB:=eF;clear dM dU eF;(try clear hb);(try clear hb2);(try clear hk);(try clear hi))|(go_at_call 68;(with_reducible refine (bK.calls lQ BR _ A13.out).mono ?_);rintro e w20 ⟨rfl,hb⟩;have dM:=ah.mk (Kd.bO (by (with_reducible repeat (first|apply Kd.aW|apply Kd.aT|apply Kd.bE));exact dx.out) hb);have dU:=ah.mk (Kd.bO (by (with_reducible repeat (first|apply Kd.aW|apply Kd.aT|apply Kd.bE));exact fG.out) hb);have eF:=ah.mk (bM dG hb);clear dx;clear fG;clear HB;have dx:=dM;have fG:=dU;have HB:=eF;clear dM dU eF;(try clear hb);(try clear hb2);(try clear hk);(try clear hi))))
            go_roundg k3
            case measure=>have:=jH.out;have:=jG.out;have:=ug.out;omega
            case rel=>exact⟨(lQ),(wrap64 (dJ+1)),dV,dV,H',⟨by have:=jH.out;have:=jG.out;have:=ug.out;omega⟩,⟨by (with_reducible repeat (first|apply Kd.aW|apply Kd.aT|apply Kd.bE));exact dx.out⟩,⟨by (with_reducible repeat (first|apply Kd.aW|apply Kd.aT|apply Kd.bE));exact fG.out⟩,⟨by repeat (first|(with_reducible first|exact HB.out|apply aG|apply av|apply aK)|exact HB.out)⟩⟩
           rw[if_neg c9] at H;exact absurd H bB
          rw[if_neg c8] at H;have U9:decide ((rd fT dJ)<((iP l0 dJ).length:Int))=false:=decide_eq_false c8;clear c8;have H':=ah.mk H;clear H;obtain⟨ain,aio,ae8⟩:=Kd.bP dx.out;subst ae8;have yX:0≤(dJ:Int):=of_decide_eq_true bg;have yY:dJ<(fT.length:Int):=of_decide_eq_true bg;obtain⟨JV,e305,Fu⟩:=Kd.gZ (Kd.bU dx.out).2.2 dJ yX yY;cases e305;replace yX:=eq_true yX;replace yY:=eq_true yY;have yZ:0≤(dJ:Int):=of_decide_eq_true bg;have y9:dJ<(l0.length:Int):=of_decide_eq_true bg;obtain⟨JW,Qv,Qw,e306,jy,pJ,pK⟩:=wE nC.out dJ yZ y9;cases e306;replace jy:=(HB.out.cell (World.block_lt_of_cell? w _ jy)).trans jy;have K9:=ah.mk pK;have La:=ah.mk pJ;clear pK pJ;replace yZ:=eq_true yZ;replace y9:=eq_true y9
          go_wp2
          repeat (go_quiet (fail);try go_wp2)
          go_roundg k3
          case measure=>have:=jH.out;have:=jG.out;have:=ug.out;omega
          case rel=>exact⟨(lQ),(wrap64 (dJ+1)),dV,dV,H',⟨by have:=jH.out;have:=jG.out;have:=ug.out;omega⟩,⟨by (with_reducible repeat (first|apply Kd.aW|apply Kd.aT|apply Kd.bE));exact dx.out⟩,⟨by (with_reducible repeat (first|apply Kd.aW|apply Kd.aT|apply Kd.bE));exact fG.out⟩,⟨by repeat (first|(with_reducible first|exact HB.out|apply aG|apply av|apply aK)|exact HB.out)⟩⟩
         rw[if_neg c7] at H;exact absurd H bB
        rw[if_neg c6] at H;exact absurd H bB
       rw[if_neg c5] at H;have Bg:decide (dJ<(l0.length:Int))=false:=decide_eq_false c5;clear c5
       by_cases c22:lQ.toList=([]:List UInt8)
       ·rw[if_pos c22] at H;have ade:(lQ.toList == ([]:List UInt8))=true:=beq_iff_eq.mpr c22;have adf:(lQ.toList != ([]:List UInt8))=false:=bne_eq_false_iff_eq.mpr c22;clear c22;obtain rfl:=Option.some.inj H
        go_wp2
        repeat (go_quiet (fail);try go_wp2)
        go_ret
        exact⟨_,by first|rfl|(simp[aY,aZ] <;> rfl)|(simp[*,aY,aZ] <;> rfl),by (with_reducible repeat (first|apply Kd.aW|apply Kd.aT|apply Kd.bE));exact fG.out,by repeat (first|(with_reducible first|exact HB.out|apply aG|apply av|apply aK)|exact HB.out)⟩
       rw[if_neg c22] at H;have ade:(lQ.toList == ([]:List UInt8))=false:=beq_eq_false_iff_ne.mpr c22;have adf:(lQ.toList != ([]:List UInt8))=true:=bne_iff_ne.mpr c22;have H':=ah.mk H;clear H
       go_wp2
       repeat (go_quiet (fail);try go_wp2)
       go_loopg [9] k3 (fun kq v9 w'=>∃(jq:List Int) (dR:Int),v9=.int .i64 dR∧ah (aA.l3 kq l0 jq qp lQ dR=some r)∧ah (kq≤k3)∧ah (Kd.R (Kd.int .i64) 3 w' w.heap.size (fun _=>True) u3 jq)∧ah (Kd.R Kd.string 9 w' w.heap.size (fun _=>True) u5 qp)∧ah (Below w.heap.size w w'))
       case atStart=>exact⟨(fT),(0),dV,H',⟨Nat.le_refl _⟩,⟨by (with_reducible repeat (first|apply Kd.aW|apply Kd.aT|apply Kd.bE));exact dx.out⟩,⟨by (with_reducible repeat (first|apply Kd.aW|apply Kd.aT|apply Kd.bE));exact fG.out⟩,⟨by repeat (first|(with_reducible first|exact HB.out|apply aG|apply av|apply aK)|exact HB.out)⟩⟩
       case round=>
        clear H'
        try clear c1
        try clear c2
        try clear zS
        try clear p2
        try clear c3
        try clear p3
        try clear q3
        try clear hx3
        try clear c5
        try clear Bg
        try clear c6
        try clear Nc
        try clear p6
        try clear c7
        try clear KY
        try clear c8
        try clear U9
        try clear c9
        try clear NK
        try clear c10
        try clear zw
        try clear TM
        try clear c14
        try clear NC
        try clear c22
        try clear ade
        try clear adf
        try clear Fu
        try clear jy
        try clear lG
        try clear Lb
        try clear nP
        try clear nQ
        try clear nR
        try clear nS
        try clear nT
        try clear nU
        try clear p2
        try clear yX
        try clear yZ
        try clear EI
        try clear EK
        try clear EM
        try clear yY
        try clear y9
        try clear EJ
        try clear EL
        try clear EN
        obtain⟨jq,dR,rfl,HA,Fa,dx,fG,HB⟩:=hrel
        cases gk with
        | zero=>exact absurd HA.out (by simp[aA.l3])
        | succ k4=>
         have H:=HA.out;clear HA;simp only[aA.l3] at H
         by_cases c23:dR<(l0.length:Int)
         ·rw[if_pos c23] at H;have aip:decide (dR<(l0.length:Int))=true:=decide_eq_true c23;clear c23;by_cases c24:0≤dR
          ·rw[if_pos c24] at H;have XI:decide (0≤dR)=true:=decide_eq_true c24;clear c24
           by_cases c25:dR<(jq.length:Int)
           ·rw[if_pos c25] at H;have ap4:decide (dR<(jq.length:Int))=true:=decide_eq_true c25;clear c25
            by_cases c26:(rd jq dR)<((iP l0 dR).length:Int)
            ·rw[if_pos c26] at H;have aiq:decide ((rd jq dR)<((iP l0 dR).length:Int))=true:=decide_eq_true c26;clear c26
             by_cases c27:0≤(rd jq dR)
             ·rw[if_pos c27] at H;have ap5:decide (0≤(rd jq dR))=true:=decide_eq_true c27;clear c27;by_cases c28:((aI (iP l0 dR) (rd jq dR)).f1).toList=lQ.toList
              ·rw[if_pos c28] at H;have air:(((aI (iP l0 dR) (rd jq dR)).f1).toList == lQ.toList)=true:=beq_iff_eq.mpr c28;have ais:(((aI (iP l0 dR) (rd jq dR)).f1).toList != lQ.toList)=false:=bne_eq_false_iff_eq.mpr c28;clear c28
               obtain⟨XJ,NQ⟩:∃y_:List Int,y_=(jq.set (dR:Int).toNat (wrap64 ((rd jq dR)+1))):=⟨_,rfl⟩
               replace H:(aA.l3 k4 l0 XJ qp lQ (wrap64 (dR+1)))=some r:=by first|(rw[NQ];with_reducible exact H)|(have qc:=(Option.bind_some _ _).symm.trans H;rw[NQ];with_reducible exact qc)|(have qc:=(Option.bind_some _ _).symm.trans H;with_reducible exact qc)|with_reducible exact H|(rw[NQ];exact H)|exact H
               have TT:=ah.mk NQ;clear NQ;have H':=ah.mk H;clear H;obtain⟨asA,Qx,anF⟩:=Kd.bP dx.out;subst anF;have GZ:0≤(dR:Int):=of_decide_eq_true bg;have G7:dR<(jq.length:Int):=of_decide_eq_true bg;obtain⟨NR,e312,Lc⟩:=Kd.gZ (Kd.bU dx.out).2.2 dR GZ G7;cases e312;replace GZ:=eq_true GZ;replace G7:=eq_true G7;have G8:0≤(dR:Int):=of_decide_eq_true bg;have G9:dR<(l0.length:Int):=of_decide_eq_true bg;obtain⟨TU,XK,XL,e313,mR,tH,tJ⟩:=wE nC.out dR G8 G9;cases e313;replace mR:=(HB.out.cell (World.block_lt_of_cell? w _ mR)).trans mR;have TV:=ah.mk tJ;have TW:=ah.mk tH;clear tJ tH;replace G8:=eq_true G8;replace G9:=eq_true G9;have Qy:0≤(dR:Int):=of_decide_eq_true bg;have Qz:dR<(l0.length:Int):=of_decide_eq_true bg;obtain⟨XM,afa,afb,e314,rz,BU,BX⟩:=wE nC.out dR Qy Qz
               obtain rfl:TU=XM:=(by injection e314)
               replace rz:=(HB.out.cell (World.block_lt_of_cell? w _ rz)).trans rz;have Ld:=ah.mk BX;have aaH:=ah.mk BU;clear BX BU;replace Qy:=eq_true Qy;replace Qz:=eq_true Qz;have yw:=Option.some.inj (mR.symm.trans rz)
               injection yw with yw Qd Qe
               subst yw;subst Qe;clear Qd;have QA:0≤(dR:Int):=of_decide_eq_true bg;have QB:dR<(jq.length:Int):=of_decide_eq_true bg;obtain⟨XO,e315,TY⟩:=Kd.gZ (Kd.bU dx.out).2.2 dR QA QB
               obtain rfl:NR=XO:=(by injection e315)
               replace QA:=eq_true QA;replace QB:=eq_true QB;have QC:0≤((rd jq dR):Int):=of_decide_eq_true bg;have QD:(rd jq dR)<((iP l0 dR).length:Int):=of_decide_eq_true bg;obtain⟨ait,afc,afd,afe,aff,e316,vQ,vR,vS,vT,vU,vV,BZ,Ca,Cb,Cc⟩:=jh Ld.out (rd jq dR) QC QD;cases e316;replace vQ:=(HB.out.cell (World.block_lt_of_cell? w _ vQ)).trans vQ;replace vR:=(HB.out.cell (World.block_lt_of_cell? w _ vR)).trans vR;replace vS:=(HB.out.cell (World.block_lt_of_cell? w _ vS)).trans vS;replace vT:=(HB.out.cell (World.block_lt_of_cell? w _ vT)).trans vT;replace vU:=(HB.out.cell (World.block_lt_of_cell? w _ vU)).trans vU;replace vV:=(HB.out.cell (World.block_lt_of_cell? w _ vV)).trans vV;have aaI:=ah.mk Ca;have aaJ:=ah.mk BZ;clear Ca BZ;have aaK:=ah.mk Cc;have aaL:=ah.mk Cb;clear Cc Cb;replace QC:=eq_true QC;replace QD:=eq_true QD;have afg:0≤(dR:Int):=of_decide_eq_true bg;have afh:dR<(jq.length:Int):=of_decide_eq_true bg;obtain⟨aiu,e317,aaM⟩:=Kd.gZ (Kd.bU dx.out).2.2 dR afg afh
               obtain rfl:NR=aiu:=(by injection e317)
               replace afg:=eq_true afg;replace afh:=eq_true afh;have p29:0≤(dR:Int):=of_decide_eq_true bg;have q29:(dR:Int)<((jq.length:Int):Int):=of_decide_eq_true bg;obtain⟨DJ,asB,aiv,aiw,anH,asC,aix⟩:=Kd.Qc dx.out aj
               (first|cases aiv|(injection aiv with yw Qd Qe;(first|subst yw|(injection yw with yw;subst yw));subst Qe;clear Qd))
               have aaN:=ah.mk aiw;have asD:=ah.mk aix;clear aiw anH aix
               (first|simp only[add_plain] at Lc|skip)
               (first|simp only[add_plain] at TY|skip)
               (first|simp only[add_plain] at aaM|skip)
               obtain⟨anI,anJ⟩:=Kd.aaO 0 dx.out (dR:Int) p29 q29;replace p29:=eq_true p29;replace q29:=eq_true q29;have EO:=Kd.DK dx.out (dR:Int) (wrap64 ((rd jq dR)+1))
               go_wp2_with (first|((with_reducible refine rY (t:=3) (p:=95) rfl ?_);(try (rw[zZ wr];generalize OO:World.drewN wr _=wr;have dM:=ah.mk (Kd.Ve OO dx.out);have dU:=ah.mk (Kd.Ve OO fG.out);have eF:=ah.mk (He OO HB.out);clear OO dx fG HB;have dx:=dM;have fG:=dU;have HB:=eF;clear dM dU eF;(try (have EO:=Kd.DK dx.out (dR:Int) (wrap64 ((rd jq dR)+1))))));refine qz (t:=3) (p:=95) (v:=?XP) (w1:=(wr.setCell ⟨DJ,(dR:Int).toNat,none⟩ (.int .i64 (wrap64 ((rd jq dR)+1))))) ?hg ?ho ?hn ?hr ?_;(case ho=>rfl);(case hg=>rfl);(case hn=>rfl);(case hr=>first|(go_simp;done)|(go_simp;rfl));intro w32 hw;have hg:wr.grownBy w32 (some DJ):=(by rw[hw];exact EO.2);have Tw:Kd.R (Kd.int .i64) 3 w32 w.heap.size (fun _=>True) (.slice (some ⟨DJ,0,none⟩) jq.length Qx) XJ:=(by rw[hw,TT.out];exact EO.1);clear EO;have dM:=ah.mk (Tw);have dU:=ah.mk (Kd.vW (v:=(.slice (some ⟨DJ,0,none⟩) jq.length Qx)) (by (with_reducible repeat (first|apply Kd.aW|apply Kd.aT|apply Kd.bE));exact fG.out) (Kd.mh dx.out) aH hg);have eF:=ah.mk ((by rw[hw];exact aV (HB.out) aaN.out:Below w.heap.size w w32));clear dx;clear fG;clear HB;have dx:=dM;have fG:=dU;have HB:=eF;clear dM dU eF;clear hg hw Tw))
               repeat (go_quiet (first|((with_reducible refine rY (t:=3) (p:=95) rfl ?_);(try (rw[zZ wr];generalize OO:World.drewN wr _=wr;have dM:=ah.mk (Kd.Ve OO dx.out);have dU:=ah.mk (Kd.Ve OO fG.out);have eF:=ah.mk (He OO HB.out);clear OO dx fG HB;have dx:=dM;have fG:=dU;have HB:=eF;clear dM dU eF;(try (have EO:=Kd.DK dx.out (dR:Int) (wrap64 ((rd jq dR)+1))))));refine qz (t:=3) (p:=95) (v:=?XP) (w1:=(wr.setCell ⟨DJ,(dR:Int).toNat,none⟩ (.int .i64 (wrap64 ((rd jq dR)+1))))) ?hg ?ho ?hn ?hr ?_;(case ho=>rfl);(case hg=>rfl);(case hn=>rfl);(case hr=>first|(go_simp;done)|(go_simp;rfl));intro w32 hw;have hg:wr.grownBy w32 (some DJ):=(by rw[hw];exact EO.2);have Tw:Kd.R (Kd.int .i64) 3 w32 w.heap.size (fun _=>True) (.slice (some ⟨DJ,0,none⟩) jq.length Qx) XJ:=(by rw[hw,TT.out];exact EO.1);clear EO;have dM:=ah.mk (Tw);have dU:=ah.mk (Kd.vW (v:=(.slice (some ⟨DJ,0,none⟩) jq.length Qx)) (by (with_reducible repeat (first|apply Kd.aW|apply Kd.aT|apply Kd.bE));exact fG.out) (Kd.mh dx.out) aH hg);have eF:=ah.mk ((by rw[hw];exact aV (HB.out) aaN.out:Below w.heap.size w w32));clear dx;clear fG;clear HB;have dx:=dM;have fG:=dU;have HB:=eF;clear dM dU eF;clear hg hw Tw));try go_wp2_with (first|((with_reducible refine rY (t:=3) (p:=95) rfl ?_);(try (rw[zZ wr];generalize OO:World.drewN wr _=wr;have dM:=ah.mk (Kd.Ve OO dx.out);have dU:=ah.mk (Kd.Ve OO fG.out);have eF:=ah.mk (He OO HB.out);clear OO dx fG HB;have dx:=dM;have fG:=dU;have HB:=eF;clear dM dU eF;(try (have EO:=Kd.DK dx.out (dR:Int) (wrap64 ((rd jq dR)+1))))));refine qz (t:=3) (p:=95) (v:=?XP) (w1:=(wr.setCell ⟨DJ,(dR:Int).toNat,none⟩ (.int .i64 (wrap64 ((rd jq dR)+1))))) ?hg ?ho ?hn ?hr ?_;(case ho=>rfl);(case hg=>rfl);(case hn=>rfl);(case hr=>first|(go_simp;done)|(go_simp;rfl));intro w32 hw;have hg:wr.grownBy w32 (some DJ):=(by rw[hw];exact EO.2);have Tw:Kd.R (Kd.int .i64) 3 w32 w.heap.size (fun _=>True) (.slice (some ⟨DJ,0,none⟩) jq.length Qx) XJ:=(by rw[hw,TT.out];exact EO.1);clear EO;have dM:=ah.mk (Tw);have dU:=ah.mk (Kd.vW (v:=(.slice (some ⟨DJ,0,none⟩) jq.length Qx)) (by (with_reducible repeat (first|apply Kd.aW|apply Kd.aT|apply Kd.bE));exact fG.out) (Kd.mh dx.out) aH hg);have eF:=ah.mk ((by rw[hw];exact aV (HB.out) aaN.out:Below w.heap.size w w32));clear dx;clear fG;clear HB;have dx:=dM;have fG:=dU;have HB:=eF;clear dM dU eF;clear hg hw Tw)))
               go_roundg k4
               case measure=>have:=jH.out;have:=jG.out;have:=ug.out;have:=Fa.out;omega
               case rel=>exact⟨(XJ),(wrap64 (dR+1)),dV,H',⟨by have:=jH.out;have:=jG.out;have:=ug.out;have:=Fa.out;omega⟩,⟨by rw[TT.out];exact (Kd.DK (Kd.aT dx.out nq) (dR:Int) (wrap64 ((rd jq dR)+1))).1⟩,⟨Kd.vW (v:=(.slice (some ⟨DJ,0,none⟩) jq.length Qx)) (Kd.aT fG.out nq) (Kd.mh (Kd.aT dx.out nq)) aH (Kd.DK (Kd.aT dx.out nq) (dR:Int) (wrap64 ((rd jq dR)+1))).2⟩,⟨aV (av HB.out nq) aaN.out⟩⟩
              rw[if_neg c28] at H;have air:(((aI (iP l0 dR) (rd jq dR)).f1).toList == lQ.toList)=false:=beq_eq_false_iff_ne.mpr c28;have ais:(((aI (iP l0 dR) (rd jq dR)).f1).toList != lQ.toList)=true:=bne_iff_ne.mpr c28;have H':=ah.mk H;clear H;obtain⟨asE,asF,anK⟩:=Kd.bP dx.out;subst anK;have GZ:0≤(dR:Int):=of_decide_eq_true bg;have G7:dR<(jq.length:Int):=of_decide_eq_true bg;obtain⟨NR,e312,Lc⟩:=Kd.gZ (Kd.bU dx.out).2.2 dR GZ G7;cases e312;replace GZ:=eq_true GZ;replace G7:=eq_true G7;have G8:0≤(dR:Int):=of_decide_eq_true bg;have G9:dR<(l0.length:Int):=of_decide_eq_true bg;obtain⟨TU,XK,XL,e313,mR,tH,tJ⟩:=wE nC.out dR G8 G9;cases e313;replace mR:=(HB.out.cell (World.block_lt_of_cell? w _ mR)).trans mR;have TV:=ah.mk tJ;have TW:=ah.mk tH;clear tJ tH;replace G8:=eq_true G8;replace G9:=eq_true G9;have Qy:0≤(dR:Int):=of_decide_eq_true bg;have Qz:dR<(l0.length:Int):=of_decide_eq_true bg;obtain⟨XM,afa,afb,e314,rz,BU,BX⟩:=wE nC.out dR Qy Qz
              obtain rfl:TU=XM:=(by injection e314)
              replace rz:=(HB.out.cell (World.block_lt_of_cell? w _ rz)).trans rz;have Ld:=ah.mk BX;have aaH:=ah.mk BU;clear BX BU;replace Qy:=eq_true Qy;replace Qz:=eq_true Qz;have yw:=Option.some.inj (mR.symm.trans rz)
              injection yw with yw Qd Qe
              subst yw;subst Qe;clear Qd;have QA:0≤(dR:Int):=of_decide_eq_true bg;have QB:dR<(jq.length:Int):=of_decide_eq_true bg;obtain⟨XO,e315,TY⟩:=Kd.gZ (Kd.bU dx.out).2.2 dR QA QB
              obtain rfl:NR=XO:=(by injection e315)
              replace QA:=eq_true QA;replace QB:=eq_true QB;have QC:0≤((rd jq dR):Int):=of_decide_eq_true bg;have QD:(rd jq dR)<((iP l0 dR).length:Int):=of_decide_eq_true bg;obtain⟨ait,afc,afd,afe,aff,e316,vQ,vR,vS,vT,vU,vV,BZ,Ca,Cb,Cc⟩:=jh Ld.out (rd jq dR) QC QD;cases e316;replace vQ:=(HB.out.cell (World.block_lt_of_cell? w _ vQ)).trans vQ;replace vR:=(HB.out.cell (World.block_lt_of_cell? w _ vR)).trans vR;replace vS:=(HB.out.cell (World.block_lt_of_cell? w _ vS)).trans vS;replace vT:=(HB.out.cell (World.block_lt_of_cell? w _ vT)).trans vT;replace vU:=(HB.out.cell (World.block_lt_of_cell? w _ vU)).trans vU;replace vV:=(HB.out.cell (World.block_lt_of_cell? w _ vV)).trans vV;have aaI:=ah.mk Ca;have aaJ:=ah.mk BZ;clear Ca BZ;have aaK:=ah.mk Cc;have aaL:=ah.mk Cb;clear Cc Cb;replace QC:=eq_true QC;replace QD:=eq_true QD
              go_wp2
              repeat (go_quiet (fail);try go_wp2)
              go_roundg k4
              case measure=>have:=jH.out;have:=jG.out;have:=ug.out;have:=Fa.out;omega
              case rel=>exact⟨(jq),(wrap64 (dR+1)),dV,H',⟨by have:=jH.out;have:=jG.out;have:=ug.out;have:=Fa.out;omega⟩,⟨by (with_reducible repeat (first|apply Kd.aW|apply Kd.aT|apply Kd.bE));exact dx.out⟩,⟨by (with_reducible repeat (first|apply Kd.aW|apply Kd.aT|apply Kd.bE));exact fG.out⟩,⟨by repeat (first|(with_reducible first|exact HB.out|apply aG|apply av|apply aK)|exact HB.out)⟩⟩
             rw[if_neg c27] at H;exact absurd H bB
            rw[if_neg c26] at H;have aiq:decide ((rd jq dR)<((iP l0 dR).length:Int))=false:=decide_eq_false c26;clear c26;have H':=ah.mk H;clear H;obtain⟨asG,asH,anL⟩:=Kd.bP dx.out;subst anL;have GZ:0≤(dR:Int):=of_decide_eq_true bg;have G7:dR<(jq.length:Int):=of_decide_eq_true bg;obtain⟨NR,e312,Lc⟩:=Kd.gZ (Kd.bU dx.out).2.2 dR GZ G7;cases e312;replace GZ:=eq_true GZ;replace G7:=eq_true G7;have G8:0≤(dR:Int):=of_decide_eq_true bg;have G9:dR<(l0.length:Int):=of_decide_eq_true bg;obtain⟨TU,XK,XL,e313,mR,tH,tJ⟩:=wE nC.out dR G8 G9;cases e313;replace mR:=(HB.out.cell (World.block_lt_of_cell? w _ mR)).trans mR;have TV:=ah.mk tJ;have TW:=ah.mk tH;clear tJ tH;replace G8:=eq_true G8;replace G9:=eq_true G9
            go_wp2
            repeat (go_quiet (fail);try go_wp2)
            go_roundg k4
            case measure=>have:=jH.out;have:=jG.out;have:=ug.out;have:=Fa.out;omega
            case rel=>exact⟨(jq),(wrap64 (dR+1)),dV,H',⟨by have:=jH.out;have:=jG.out;have:=ug.out;have:=Fa.out;omega⟩,⟨by (with_reducible repeat (first|apply Kd.aW|apply Kd.aT|apply Kd.bE));exact dx.out⟩,⟨by (with_reducible repeat (first|apply Kd.aW|apply Kd.aT|apply Kd.bE));exact fG.out⟩,⟨by repeat (first|(with_reducible first|exact HB.out|apply aG|apply av|apply aK)|exact HB.out)⟩⟩
           rw[if_neg c25] at H;exact absurd H bB
          rw[if_neg c24] at H;exact absurd H bB
         rw[if_neg c23] at H;have aip:decide (dR<(l0.length:Int))=false:=decide_eq_false c23;clear c23;by_cases c35:qp.length<8796093022208
         ·rw[if_pos c35] at H;have XQ:=ah.mk c35;clear c35
          obtain⟨aiy,NS⟩:∃y_:List ByteArray,y_=(qp++[lQ]):=⟨_,rfl⟩
          replace H:(aA.l1 k4 l0 jq aiy)=some r:=by first|(rw[NS];with_reducible exact H)|(have qc:=(Option.bind_some _ _).symm.trans H;rw[NS];with_reducible exact qc)|(have qc:=(Option.bind_some _ _).symm.trans H;with_reducible exact qc)|with_reducible exact H|(rw[NS];exact H)|exact H
          have XR:=ah.mk NS;clear NS;have H':=ah.mk H;clear H
          go_wp2_with (first|((with_reducible refine bQ (b:=.append) (xs:=#[.tmp 96,.tmp 98]) rfl ?_);at_builtin;refine Kd.gJ Kd.string (w0:=w) w.heap.size rfl (.tmp 96) (.tmp 98) 73 9 (.string ⟨#[]⟩) 16 rfl Tryz.underlying73 Mq rfl aH aj u5 qp lQ [.string lQ] (fun _=>True) (fun _=>False) rfl rfl ?aP (fun _ hk=>hk.elim) ?aF ?aO ?aB ?aS ?aL ?_;(case aP=>exact rfl);(case aB=>exact dG);(case aF=>exact (fun _ _=>trivial));(case aO=>exact (by (with_reducible repeat (first|apply Kd.aW|apply Kd.aT|apply Kd.bE));exact fG.out));(case aS=>exact (bH dG));(case aL=>have:=XQ.out;omega);intro aiz w36 ho hb hg hat;rw[← XR.out] at ho;have dM:=ah.mk (Kd.vW (by (with_reducible repeat (first|apply Kd.aW|apply Kd.aT|apply Kd.bE));exact dx.out) (Kd.mh (by (with_reducible repeat (first|apply Kd.aW|apply Kd.aT|apply Kd.bE));exact fG.out)) aH hg);have dU:=ah.mk (hb);have eF:=ah.mk (ho);clear dx;clear HB;clear fG;have dx:=dM;have HB:=dU;have XT:=eF;clear dM dU eF;clear ho hb hg hat))
          repeat (go_quiet (first|((with_reducible refine bQ (b:=.append) (xs:=#[.tmp 96,.tmp 98]) rfl ?_);at_builtin;refine Kd.gJ Kd.string (w0:=w) w.heap.size rfl (.tmp 96) (.tmp 98) 73 9 (.string ⟨#[]⟩) 16 rfl Tryz.underlying73 Mq rfl aH aj u5 qp lQ [.string lQ] (fun _=>True) (fun _=>False) rfl rfl ?aP (fun _ hk=>hk.elim) ?aF ?aO ?aB ?aS ?aL ?_;(case aP=>exact rfl);(case aB=>exact dG);(case aF=>exact (fun _ _=>trivial));(case aO=>exact (by (with_reducible repeat (first|apply Kd.aW|apply Kd.aT|apply Kd.bE));exact fG.out));(case aS=>exact (bH dG));(case aL=>have:=XQ.out;omega);intro aiz w36 ho hb hg hat;rw[← XR.out] at ho;have dM:=ah.mk (Kd.vW (by (with_reducible repeat (first|apply Kd.aW|apply Kd.aT|apply Kd.bE));exact dx.out) (Kd.mh (by (with_reducible repeat (first|apply Kd.aW|apply Kd.aT|apply Kd.bE));exact fG.out)) aH hg);have dU:=ah.mk (hb);have eF:=ah.mk (ho);clear dx;clear HB;clear fG;have dx:=dM;have HB:=dU;have XT:=eF;clear dM dU eF;clear ho hb hg hat));try go_wp2_with (first|((with_reducible refine bQ (b:=.append) (xs:=#[.tmp 96,.tmp 98]) rfl ?_);at_builtin;refine Kd.gJ Kd.string (w0:=w) w.heap.size rfl (.tmp 96) (.tmp 98) 73 9 (.string ⟨#[]⟩) 16 rfl Tryz.underlying73 Mq rfl aH aj u5 qp lQ [.string lQ] (fun _=>True) (fun _=>False) rfl rfl ?aP (fun _ hk=>hk.elim) ?aF ?aO ?aB ?aS ?aL ?_;(case aP=>exact rfl);(case aB=>exact dG);(case aF=>exact (fun _ _=>trivial));(case aO=>exact (by (with_reducible repeat (first|apply Kd.aW|apply Kd.aT|apply Kd.bE));exact fG.out));(case aS=>exact (bH dG));(case aL=>have:=XQ.out;omega);intro aiz w36 ho hb hg hat;rw[← XR.out] at ho;have dM:=ah.mk (Kd.vW (by (with_reducible repeat (first|apply Kd.aW|apply Kd.aT|apply Kd.bE));exact dx.out) (Kd.mh (by (with_reducible repeat (first|apply Kd.aW|apply Kd.aT|apply Kd.bE));exact fG.out)) aH hg);have dU:=ah.mk (hb);have eF:=ah.mk (ho);clear dx;clear HB;clear fG;have dx:=dM;have HB:=dU;have XT:=eF;clear dM dU eF;clear ho hb hg hat)))
          go_roundg k4
          case measure=>have:=jH.out;have:=jG.out;have:=ug.out;have:=Fa.out;omega
          case rel=>exact⟨(jq),(aiy),H',⟨by have:=jH.out;have:=jG.out;have:=ug.out;have:=Fa.out;omega⟩,⟨by (with_reducible repeat (first|apply Kd.aW|apply Kd.aT|apply Kd.bE));exact dx.out⟩,⟨by (with_reducible repeat (first|apply Kd.aW|apply Kd.aT|apply Kd.bE));exact XT.out⟩,⟨by repeat (first|(with_reducible first|exact HB.out|apply aG|apply av|apply aK)|exact HB.out)⟩⟩
         rw[if_neg c35] at H;exact absurd H bB
end Go.Proofs.YtknihldkhedpkaaGreatDoor.PT
