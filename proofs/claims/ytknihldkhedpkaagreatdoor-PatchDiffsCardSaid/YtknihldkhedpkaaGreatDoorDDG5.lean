import Derived.Test.YtknihldkhedpkaaGreatDoorDDG1
set_option linter.all false
set_option maxHeartbeats 16000000
set_option maxRecDepth 100000
namespace Go.Proofs.YtknihldkhedpkaaGreatDoor.PT
open Go.RowKit Go.Proofs.YtknihldkhedpkaaGreatDoorW.PrintWords Go.Proofs.YtknihldkhedpkaaGreatDoorW.PrintLast Go.Proofs.YtknihldkhedpkaaGreatDoorW.PrintMore
attribute [local go_sem] kI kJ mI mJ jE jF kK kL
mutual
def bJ.j0:Nat→Bool→Int→ByteArray→ByteArray→Int→List (dh)→List Int→Option (Bool)
 | 0,_,_,_,_,_,_,_=>none
 | k+1,x15,yI,yJ,yK,tL,tN,nW=>if x15=true then (some false) else (bJ.l0 k (-1) 0 tN (tN.length:Int) 0 yI yJ yK tL tN nW)
def bJ.l0:Nat→Int→Int→List (dh)→Int→Int→Int→ByteArray→ByteArray→Int→List (dh)→List Int→Option (Bool)
 | 0,_,_,_,_,_,_,_,_,_,_,_=>none
 | k+1,x3,x4,Zq,x18,Rl,yI,yJ,yK,tL,tN,nW=>if Rl<x18 then (if 0≤Rl then (if Rl<(Zq.length:Int) then (if ((aQ Zq Rl).f0)<0 then (some false) else (if ((aQ Zq Rl).f0)≤x3 then (some false) else (if ((aQ Zq Rl).f1)≤((aQ Zq Rl).f0) then (some false) else (if ((aQ Zq Rl).f1) > (wrap64 (Int.tdiv (wrap64 ((wrap64 (tL+512)) - 1)) 512)) then (some false) else (bJ.l0 k ((aQ Zq Rl).f1) (wrap64 (x4+(wrap64 (((aQ Zq Rl).f1) - ((aQ Zq Rl).f0))))) Zq x18 (wrap64 (Rl+1)) yI yJ yK tL tN nW))))) else (none)) else (none)) else (if (nW.length:Int)=(wrap64 (x4*512)) then (if x4=0 then (some true) else (bJ.l1 k x3 tL yI yJ yK tL tN nW)) else (some false))
def bJ.l1:Nat→Int→Int→Int→ByteArray→ByteArray→Int→List (dh)→List Int→Option (Bool)
 | 0,_,_,_,_,_,_,_,_=>none
 | k+1,x3,x7,yI,yJ,yK,tL,tN,nW=>if x7<(wrap64 (x3*512)) then (if 0≤(wrap64 ((wrap64 ((nW.length:Int) - (wrap64 (x3*512))))+x7)) then (if (wrap64 ((wrap64 ((nW.length:Int) - (wrap64 (x3*512))))+x7))<(nW.length:Int) then (if (rd nW (wrap64 ((wrap64 ((nW.length:Int) - (wrap64 (x3*512))))+x7)))=0 then (bJ.l1 k x3 (wrap64 (x7+1)) yI yJ yK tL tN nW) else (some false)) else (none)) else (none)) else (some true)
end
def bJ.f (k:Nat) (dB:Int) (dA:ByteArray) (dH:ByteArray) (dz:Int) (cB:List (dh)) (cO:List Int):Option (Bool):=if dz<0 then (bJ.j0 k true dB dA dH dz cB cO) else (bJ.j0 k (decide (dz > 8459264)) dB dA dH dz cB cO)
theorem bJ.calls (k:Nat) (dB:Int) (dA:ByteArray) (dH:ByteArray) (dz:Int) (iE:Option Addr) (fE:Nat) (cB:List (dh)) (eY:Option Addr) (eU:Nat) (cO:List Int) (r:Bool) (w:World) (rQ:Kd.C dw w iE cB.length cB) (uF:cB.length≤fE) (sP:Kd.C (Kd.int .u8) w eY cO.length cO) (wJ:cO.length≤eU) (h:bJ.f k dB dA dH dz cB cO=some r) :
  Calls Tryz.prog 116 #[.agg #[.int .i64 dB,.string dA,.string dH,.int .i64 dz,.slice iE cB.length fE,.slice eY cO.length eU]] w fun e w'=>e=.returned (.bool r)∧Below w.heap.size w w':=by
 have UU:=Tryz.underlying29;have WL:=Tryz.underlying117;have xE:=ah.mk rQ;have JB:=ah.mk uF;clear rQ uF;have Eh:=ah.mk sP;have JC:=ah.mk wJ;clear sP wJ;have HB:=ah.mk (Below.refl w.heap.size w);have H:(if dz<0 then (bJ.j0 k true dB dA dH dz cB cO) else (bJ.j0 k (decide (dz > 8459264)) dB dA dH dz cB cO))=some r:=h;clear h;have OB:=ah.mk H;clear H
 go_enter Tryz.func116,Tryz.ntmps116
 go_upto_region 1 with (first|((with_reducible refine jo (N:=1) rfl ?_);refine iZ ?hg (N:=1) ?hd (cs:=#[.int .i64 dB,.string dA,.string dH,.int .i64 dz,.slice iE cB.length fE,.slice eY cO.length eU]) (t:=29) ?hr ?_;(case hd=>rfl);(case hg=>rfl);(case hr=>first|(go_simp;done)|(go_simp;rfl));intro dn hg w3 gN hb;have dM:=ah.mk (bM dG hb);have dU:=ah.mk (gN);have eF:=ah.mk ((by rw[hg];exact (bH dG):w.heap.size≤dn));have mX:=ah.mk ((by rw[hg];exact (bH dG):w.heap.size≤dn));clear HB;have HB:=dM;have bC:=dU;have aq7:=eF;have jV:=mX;clear dM dU eF mX;clear hb gN hg))
 (try simp only[Act.put,aYa,aYb,aYc])
 go_cut [15] (fun v15 wc=>∃(kq:Nat) (Us:Bool),v15=.bool Us∧ah (bJ.j0 kq Us dB dA dH dz cB cO=some r)∧ah (kq≤k)∧ah (wc.heap[dn]?=some (.cells #[.int .i64 dB,.string dA,.string dH,.int .i64 dz,(.slice iE cB.length fE),(.slice eY cO.length eU)] 29 (0,0)))∧ah (Below w.heap.size w wc))
 case first=>
  have H:=OB.out;clear OB;by_cases c4:dz<0
  ·rw[if_pos c4] at H;have rP:decide (dz<0)=true:=decide_eq_true c4;clear c4
   (first|rw[rP]|(simp only[eG,fI];rw[rP])|skip)
   have H':=ah.mk H;clear H;have Rw:w3.cell? ⟨dn,0,none⟩=some (.int .i64 dB):=(ak bC.out 0).trans rfl;have Rx:w3.cell? ⟨dn,1,none⟩=some (.string dA):=(ak bC.out 1).trans rfl;have Ry:w3.cell? ⟨dn,2,none⟩=some (.string dH):=(ak bC.out 2).trans rfl;have Rz:w3.cell? ⟨dn,3,none⟩=some (.int .i64 dz):=(ak bC.out 3).trans rfl;have RD:w3.cell? ⟨dn,4,none⟩=some (.slice iE cB.length fE):=(ak bC.out 4).trans rfl;have RF:w3.cell? ⟨dn,5,none⟩=some (.slice eY cO.length eU):=(ak bC.out 5).trans rfl;have RG:=ay bC.out 0;have RH:=ay bC.out 1;have RI:=ay bC.out 2;have RJ:=ay bC.out 3;have RL:=ay bC.out 4;have RN:=ay bC.out 5
   go_wp2
   go_meet
   case rel=>exact⟨_,(true),dV,H',⟨by first|omega|exact Nat.le_refl _⟩,⟨by (with_reducible repeat (first|refine bD ?_ _|refine bL ?_|refine aN ?_ _));exact bC.out⟩,⟨by repeat (first|(with_reducible first|exact HB.out|apply aG|apply av|apply aK|refine aV ?_ jV.out)|exact HB.out)⟩⟩
  rw[if_neg c4] at H;have rP:decide (dz<0)=false:=decide_eq_false c4;clear c4
  (first|rw[rP]|(simp only[eG,fI];rw[rP])|skip)
  have H':=ah.mk H;clear H;have RO:w3.cell? ⟨dn,0,none⟩=some (.int .i64 dB):=(ak bC.out 0).trans rfl;have RP:w3.cell? ⟨dn,1,none⟩=some (.string dA):=(ak bC.out 1).trans rfl;have RQ:w3.cell? ⟨dn,2,none⟩=some (.string dH):=(ak bC.out 2).trans rfl;have RS:w3.cell? ⟨dn,3,none⟩=some (.int .i64 dz):=(ak bC.out 3).trans rfl;have RU:w3.cell? ⟨dn,4,none⟩=some (.slice iE cB.length fE):=(ak bC.out 4).trans rfl;have RV:w3.cell? ⟨dn,5,none⟩=some (.slice eY cO.length eU):=(ak bC.out 5).trans rfl;have RX:=ay bC.out 0;have RY:=ay bC.out 1;have RZ:=ay bC.out 2;have R3:=ay bC.out 3;have R4:=ay bC.out 4;have R5:=ay bC.out 5
  go_wp2
  go_meet
  case rel=>exact⟨_,(decide (dz > 8459264)),dV,H',⟨by first|omega|exact Nat.le_refl _⟩,⟨by (with_reducible repeat (first|refine bD ?_ _|refine bL ?_|refine aN ?_ _));exact bC.out⟩,⟨by repeat (first|(with_reducible first|exact HB.out|apply aG|apply av|apply aK|refine aV ?_ jV.out)|exact HB.out)⟩⟩
 case rest=>
  clear OB
  try clear c1
  try clear p2
  try clear c4
  try clear rP
  try clear Rw
  try clear Rx
  try clear Ry
  try clear Rz
  try clear RD
  try clear RF
  try clear RO
  try clear RP
  try clear RQ
  try clear RS
  try clear RU
  try clear RV
  try clear RG
  try clear RH
  try clear RI
  try clear RJ
  try clear RL
  try clear RN
  try clear RX
  try clear RY
  try clear RZ
  try clear R3
  try clear R4
  try clear R5
  obtain⟨kq,Us,rfl,HA,HJ1,bC,HB⟩:=hcut
  cases kq with
  | zero=>exact absurd HA.out (by simp[bJ.j0])
  | succ kj1=>
   have H:=HA.out;clear HA;simp only[bJ.j0] at H;by_cases c7:Us=true
   ·subst c7
    have H1:(some false)=some r:=by rw[if_pos rfl] at H;exact H
    clear H;have H:=H1;clear H1;obtain rfl:=Option.some.inj H
    go_wp2
    go_ret
    exact⟨by first|rfl|(simp[aY,aZ] <;> rfl)|(simp[*,aY,aZ] <;> rfl),by repeat (first|(with_reducible first|exact HB.out|apply aG|apply av|apply aK|refine aV ?_ jV.out)|exact HB.out)⟩
   replace c7:=Bool.eq_false_iff.mpr c7;subst c7
   have H1:(bJ.l0 kj1 (-1) 0 cB (cB.length:Int) 0 dB dA dH dz cB cO)=some r:=by rw[if_neg (show ¬(false=true) by decide)] at H;exact H
   clear H;have H:=H1;clear H1;have H':=ah.mk H;clear H;have Pv:wc.cell? ⟨dn,0,none⟩=some (.int .i64 dB):=(ak bC.out 0).trans rfl;have Pw:wc.cell? ⟨dn,1,none⟩=some (.string dA):=(ak bC.out 1).trans rfl;have Px:wc.cell? ⟨dn,2,none⟩=some (.string dH):=(ak bC.out 2).trans rfl;have Py:wc.cell? ⟨dn,3,none⟩=some (.int .i64 dz):=(ak bC.out 3).trans rfl;have Pz:wc.cell? ⟨dn,4,none⟩=some (.slice iE cB.length fE):=(ak bC.out 4).trans rfl;have PD:wc.cell? ⟨dn,5,none⟩=some (.slice eY cO.length eU):=(ak bC.out 5).trans rfl;have PE:=ay bC.out 0;have PG:=ay bC.out 1;have PK:=ay bC.out 2;have PL:=ay bC.out 3;have PN:=ay bC.out 4;have PO:=ay bC.out 5
   go_wp2
   go_loopg [3,4,19] kj1 (fun kq v3 v4 v19 w'=>∃(fT:Int) (Cy:Int) (fZ:Int),v3=.int .i64 fT∧v4=.int .i64 Cy∧v19=.int .i64 fZ∧ah (bJ.l0 kq fT Cy cB (cB.length:Int) fZ dB dA dH dz cB cO=some r)∧ah (kq≤kj1)∧ah (w'.heap[dn]?=some (.cells #[.int .i64 dB,.string dA,.string dH,.int .i64 dz,(.slice iE cB.length fE),(.slice eY cO.length eU)] 29 (0,0)))∧ah (Below w.heap.size w w'))
   case atStart=>exact⟨((-1)),(0),(0),dV,dV,dV,H',⟨Nat.le_refl _⟩,⟨by (with_reducible repeat (first|refine bD ?_ _|refine bL ?_|refine aN ?_ _));exact bC.out⟩,⟨by repeat (first|(with_reducible first|exact HB.out|apply aG|apply av|apply aK|refine aV ?_ jV.out)|exact HB.out)⟩⟩
   case round=>
    clear H'
    try clear c1
    try clear p2
    try clear c4
    try clear rP
    try clear c7
    try clear Rw
    try clear Rx
    try clear Ry
    try clear Rz
    try clear RD
    try clear RF
    try clear RO
    try clear RP
    try clear RQ
    try clear RS
    try clear RU
    try clear RV
    try clear Pv
    try clear Pw
    try clear Px
    try clear Py
    try clear Pz
    try clear PD
    try clear RG
    try clear RH
    try clear RI
    try clear RJ
    try clear RL
    try clear RN
    try clear RX
    try clear RY
    try clear RZ
    try clear R3
    try clear R4
    try clear R5
    try clear PE
    try clear PG
    try clear PK
    try clear PL
    try clear PN
    try clear PO
    try clear p2
    obtain⟨fT,Cy,fZ,rfl,rfl,rfl,HA,jG,bC,HB⟩:=hrel
    cases gk with
    | zero=>exact absurd HA.out (by simp[bJ.l0])
    | succ k2=>
     have H:=HA.out;clear HA;simp only[bJ.l0] at H
     by_cases c9:fZ<(cB.length:Int)
     ·rw[if_pos c9] at H;have NK:decide (fZ<(cB.length:Int))=true:=decide_eq_true c9;clear c9;by_cases c10:0≤fZ
      ·rw[if_pos c10] at H;have zw:decide (0≤fZ)=true:=decide_eq_true c10;clear c10
       by_cases c11:fZ<(cB.length:Int)
       ·rw[if_pos c11] at H;have YG:decide (fZ<(cB.length:Int))=true:=decide_eq_true c11;clear c11;by_cases c12:((aQ cB fZ).f0)<0
        ·rw[if_pos c12] at H;have YO:decide (((aQ cB fZ).f0)<0)=true:=decide_eq_true c12;clear c12;obtain rfl:=Option.some.inj H;have uR:0≤(fZ:Int):=of_decide_eq_true bg;have uS:fZ<(cB.length:Int):=of_decide_eq_true bg;obtain⟨nJ,LV,jc,jd⟩:=dQ xE.out fZ uR uS;cases LV;replace jc:=(HB.out.cell (World.block_lt_of_cell? w _ jc)).trans jc;replace jd:=(HB.out.cell (World.block_lt_of_cell? w _ jd)).trans jd;replace uR:=eq_true uR;replace uS:=eq_true uS
         go_wp2_with (first|((with_reducible refine jo (N:=6) rfl ?_);refine iZ ?hg (N:=6) ?hd (cs:=#[.int .i64 0,.int .i64 0]) (t:=117) ?hr ?_;(case hd=>rfl);(case hg=>rfl);(case hr=>first|(go_simp;done)|(go_simp;rfl));intro je hg w13 gN hb;have dM:=ah.mk (aJ (g:=dn) (o:=.cells #[.int .i64 dB,.string dA,.string dH,.int .i64 dz,.slice (some nJ) cB.length fE,.slice eY cO.length eU] 29 (0,0)) (by (with_reducible repeat (first|refine bD ?_ _|refine bL ?_|refine aN ?_ _));exact bC.out) hb);have dU:=ah.mk (bM (by repeat (first|(with_reducible first|exact HB.out|apply aG|apply av|apply aK|refine aV ?_ jV.out)|exact HB.out)) hb);have eF:=ah.mk (gN);have mX:=ah.mk ((by rw[hg];exact (bH (by repeat (first|(with_reducible first|exact HB.out|apply aG|apply av|apply aK|refine aV ?_ jV.out)|exact HB.out))):w.heap.size≤je));have uG:=ah.mk ((by rw[hg];exact (bH (by repeat (first|(with_reducible first|exact HB.out|apply aG|apply av|apply aK|refine aV ?_ jV.out)|exact HB.out))):w.heap.size≤je));have zl:=ah.mk ((by rw[hg];exact Nat.ne_of_lt (bG (g:=dn) (o:=.cells #[.int .i64 dB,.string dA,.string dH,.int .i64 dz,.slice (some nJ) cB.length fE,.slice eY cO.length eU] 29 (0,0)) (by (with_reducible repeat (first|refine bD ?_ _|refine bL ?_|refine aN ?_ _));exact bC.out)):dn≠je));have Bl:=ah.mk ((by rw[hg];exact Nat.ne_of_gt (bG (g:=dn) (o:=.cells #[.int .i64 dB,.string dA,.string dH,.int .i64 dz,.slice (some nJ) cB.length fE,.slice eY cO.length eU] 29 (0,0)) (by (with_reducible repeat (first|refine bD ?_ _|refine bL ?_|refine aN ?_ _));exact bC.out)):je≠dn));clear bC;clear HB;have bC:=dM;have HB:=dU;have mo:=eF;have Ut:=mX;have Cz:=uG;have kS:=zl;have mU:=Bl;clear dM dU eF mX uG zl Bl;clear hb gN hg;have aq8:=mU.out;have aq9:=kS.out;have KN:w13.cell? ⟨je,0,none⟩=some (.int .i64 0):=(ak mo.out 0).trans rfl;have KO:w13.cell? ⟨je,1,none⟩=some (.int .i64 0):=(ak mo.out 1).trans rfl;have KP:=ay mo.out 0;have KQ:=ay mo.out 1))
         go_ret
         exact⟨by first|rfl|(simp[aY,aZ] <;> rfl)|(simp[*,aY,aZ] <;> rfl),by repeat (first|(with_reducible first|exact HB.out|apply aG|apply av|apply aK|refine aV ?_ jV.out|refine aV ?_ Cz.out)|exact HB.out)⟩
        rw[if_neg c12] at H;have YO:decide (((aQ cB fZ).f0)<0)=false:=decide_eq_false c12;clear c12;by_cases c16:((aQ cB fZ).f0)≤fT
        ·rw[if_pos c16] at H;have adB:decide (((aQ cB fZ).f0)≤fT)=true:=decide_eq_true c16;clear c16;obtain rfl:=Option.some.inj H;have uR:0≤(fZ:Int):=of_decide_eq_true bg;have uS:fZ<(cB.length:Int):=of_decide_eq_true bg;obtain⟨nJ,LV,jc,jd⟩:=dQ xE.out fZ uR uS;cases LV;replace jc:=(HB.out.cell (World.block_lt_of_cell? w _ jc)).trans jc;replace jd:=(HB.out.cell (World.block_lt_of_cell? w _ jd)).trans jd;replace uR:=eq_true uR;replace uS:=eq_true uS
         go_wp2_with (first|((with_reducible refine jo (N:=6) rfl ?_);refine iZ ?hg (N:=6) ?hd (cs:=#[.int .i64 0,.int .i64 0]) (t:=117) ?hr ?_;(case hd=>rfl);(case hg=>rfl);(case hr=>first|(go_simp;done)|(go_simp;rfl));intro je hg w17 gN hb;have dM:=ah.mk (aJ (g:=dn) (o:=.cells #[.int .i64 dB,.string dA,.string dH,.int .i64 dz,.slice (some nJ) cB.length fE,.slice eY cO.length eU] 29 (0,0)) (by (with_reducible repeat (first|refine bD ?_ _|refine bL ?_|refine aN ?_ _));exact bC.out) hb);have dU:=ah.mk (bM (by repeat (first|(with_reducible first|exact HB.out|apply aG|apply av|apply aK|refine aV ?_ jV.out)|exact HB.out)) hb);have eF:=ah.mk (gN);have mX:=ah.mk ((by rw[hg];exact (bH (by repeat (first|(with_reducible first|exact HB.out|apply aG|apply av|apply aK|refine aV ?_ jV.out)|exact HB.out))):w.heap.size≤je));have uG:=ah.mk ((by rw[hg];exact (bH (by repeat (first|(with_reducible first|exact HB.out|apply aG|apply av|apply aK|refine aV ?_ jV.out)|exact HB.out))):w.heap.size≤je));have zl:=ah.mk ((by rw[hg];exact Nat.ne_of_lt (bG (g:=dn) (o:=.cells #[.int .i64 dB,.string dA,.string dH,.int .i64 dz,.slice (some nJ) cB.length fE,.slice eY cO.length eU] 29 (0,0)) (by (with_reducible repeat (first|refine bD ?_ _|refine bL ?_|refine aN ?_ _));exact bC.out)):dn≠je));have Bl:=ah.mk ((by rw[hg];exact Nat.ne_of_gt (bG (g:=dn) (o:=.cells #[.int .i64 dB,.string dA,.string dH,.int .i64 dz,.slice (some nJ) cB.length fE,.slice eY cO.length eU] 29 (0,0)) (by (with_reducible repeat (first|refine bD ?_ _|refine bL ?_|refine aN ?_ _));exact bC.out)):je≠dn));clear bC;clear HB;have bC:=dM;have HB:=dU;have mo:=eF;have Ut:=mX;have Cz:=uG;have kS:=zl;have mU:=Bl;clear dM dU eF mX uG zl Bl;clear hb gN hg;have ara:=mU.out;have arb:=kS.out;have abm:w17.cell? ⟨je,0,none⟩=some (.int .i64 0):=(ak mo.out 0).trans rfl;have abn:w17.cell? ⟨je,1,none⟩=some (.int .i64 0):=(ak mo.out 1).trans rfl;have abo:=ay mo.out 0;have abp:=ay mo.out 1))
         go_ret
         exact⟨by first|rfl|(simp[aY,aZ] <;> rfl)|(simp[*,aY,aZ] <;> rfl),by repeat (first|(with_reducible first|exact HB.out|apply aG|apply av|apply aK|refine aV ?_ jV.out|refine aV ?_ Cz.out)|exact HB.out)⟩
        rw[if_neg c16] at H;have adB:decide (((aQ cB fZ).f0)≤fT)=false:=decide_eq_false c16;clear c16
        by_cases c20:((aQ cB fZ).f1)≤((aQ cB fZ).f0)
        ·rw[if_pos c20] at H;have adC:decide (((aQ cB fZ).f1)≤((aQ cB fZ).f0))=true:=decide_eq_true c20;clear c20;obtain rfl:=Option.some.inj H;have uR:0≤(fZ:Int):=of_decide_eq_true bg;have uS:fZ<(cB.length:Int):=of_decide_eq_true bg;obtain⟨nJ,LV,jc,jd⟩:=dQ xE.out fZ uR uS;cases LV;replace jc:=(HB.out.cell (World.block_lt_of_cell? w _ jc)).trans jc;replace jd:=(HB.out.cell (World.block_lt_of_cell? w _ jd)).trans jd;replace uR:=eq_true uR;replace uS:=eq_true uS
         go_wp2_with (first|((with_reducible refine jo (N:=6) rfl ?_);refine iZ ?hg (N:=6) ?hd (cs:=#[.int .i64 0,.int .i64 0]) (t:=117) ?hr ?_;(case hd=>rfl);(case hg=>rfl);(case hr=>first|(go_simp;done)|(go_simp;rfl));intro je hg w21 gN hb;have dM:=ah.mk (aJ (g:=dn) (o:=.cells #[.int .i64 dB,.string dA,.string dH,.int .i64 dz,.slice (some nJ) cB.length fE,.slice eY cO.length eU] 29 (0,0)) (by (with_reducible repeat (first|refine bD ?_ _|refine bL ?_|refine aN ?_ _));exact bC.out) hb);have dU:=ah.mk (bM (by repeat (first|(with_reducible first|exact HB.out|apply aG|apply av|apply aK|refine aV ?_ jV.out)|exact HB.out)) hb);have eF:=ah.mk (gN);have mX:=ah.mk ((by rw[hg];exact (bH (by repeat (first|(with_reducible first|exact HB.out|apply aG|apply av|apply aK|refine aV ?_ jV.out)|exact HB.out))):w.heap.size≤je));have uG:=ah.mk ((by rw[hg];exact (bH (by repeat (first|(with_reducible first|exact HB.out|apply aG|apply av|apply aK|refine aV ?_ jV.out)|exact HB.out))):w.heap.size≤je));have zl:=ah.mk ((by rw[hg];exact Nat.ne_of_lt (bG (g:=dn) (o:=.cells #[.int .i64 dB,.string dA,.string dH,.int .i64 dz,.slice (some nJ) cB.length fE,.slice eY cO.length eU] 29 (0,0)) (by (with_reducible repeat (first|refine bD ?_ _|refine bL ?_|refine aN ?_ _));exact bC.out)):dn≠je));have Bl:=ah.mk ((by rw[hg];exact Nat.ne_of_gt (bG (g:=dn) (o:=.cells #[.int .i64 dB,.string dA,.string dH,.int .i64 dz,.slice (some nJ) cB.length fE,.slice eY cO.length eU] 29 (0,0)) (by (with_reducible repeat (first|refine bD ?_ _|refine bL ?_|refine aN ?_ _));exact bC.out)):je≠dn));clear bC;clear HB;have bC:=dM;have HB:=dU;have mo:=eF;have Ut:=mX;have Cz:=uG;have kS:=zl;have mU:=Bl;clear dM dU eF mX uG zl Bl;clear hb gN hg;have arf:=mU.out;have arh:=kS.out;have abq:w21.cell? ⟨je,0,none⟩=some (.int .i64 0):=(ak mo.out 0).trans rfl;have abr:w21.cell? ⟨je,1,none⟩=some (.int .i64 0):=(ak mo.out 1).trans rfl;have abt:=ay mo.out 0;have abu:=ay mo.out 1))
         go_ret
         exact⟨by first|rfl|(simp[aY,aZ] <;> rfl)|(simp[*,aY,aZ] <;> rfl),by repeat (first|(with_reducible first|exact HB.out|apply aG|apply av|apply aK|refine aV ?_ jV.out|refine aV ?_ Cz.out)|exact HB.out)⟩
        rw[if_neg c20] at H;have adC:decide (((aQ cB fZ).f1)≤((aQ cB fZ).f0))=false:=decide_eq_false c20;clear c20
        by_cases c24:((aQ cB fZ).f1) > (wrap64 (Int.tdiv (wrap64 ((wrap64 (dz+512)) - 1)) 512))
        ·rw[if_pos c24] at H;have XI:decide ((wrap64 (Int.tdiv (wrap64 ((wrap64 (dz+512)) - 1)) 512))<((aQ cB fZ).f1))=true:=decide_eq_true c24;clear c24;obtain rfl:=Option.some.inj H;have uR:0≤(fZ:Int):=of_decide_eq_true bg;have uS:fZ<(cB.length:Int):=of_decide_eq_true bg;obtain⟨nJ,LV,jc,jd⟩:=dQ xE.out fZ uR uS;cases LV;replace jc:=(HB.out.cell (World.block_lt_of_cell? w _ jc)).trans jc;replace jd:=(HB.out.cell (World.block_lt_of_cell? w _ jd)).trans jd;replace uR:=eq_true uR;replace uS:=eq_true uS
         go_wp2_with (first|((with_reducible refine jo (N:=6) rfl ?_);refine iZ ?hg (N:=6) ?hd (cs:=#[.int .i64 0,.int .i64 0]) (t:=117) ?hr ?_;(case hd=>rfl);(case hg=>rfl);(case hr=>first|(go_simp;done)|(go_simp;rfl));intro je hg w25 gN hb;have dM:=ah.mk (aJ (g:=dn) (o:=.cells #[.int .i64 dB,.string dA,.string dH,.int .i64 dz,.slice (some nJ) cB.length fE,.slice eY cO.length eU] 29 (0,0)) (by (with_reducible repeat (first|refine bD ?_ _|refine bL ?_|refine aN ?_ _));exact bC.out) hb);have dU:=ah.mk (bM (by repeat (first|(with_reducible first|exact HB.out|apply aG|apply av|apply aK|refine aV ?_ jV.out)|exact HB.out)) hb);have eF:=ah.mk (gN);have mX:=ah.mk ((by rw[hg];exact (bH (by repeat (first|(with_reducible first|exact HB.out|apply aG|apply av|apply aK|refine aV ?_ jV.out)|exact HB.out))):w.heap.size≤je));have uG:=ah.mk ((by rw[hg];exact (bH (by repeat (first|(with_reducible first|exact HB.out|apply aG|apply av|apply aK|refine aV ?_ jV.out)|exact HB.out))):w.heap.size≤je));have zl:=ah.mk ((by rw[hg];exact Nat.ne_of_lt (bG (g:=dn) (o:=.cells #[.int .i64 dB,.string dA,.string dH,.int .i64 dz,.slice (some nJ) cB.length fE,.slice eY cO.length eU] 29 (0,0)) (by (with_reducible repeat (first|refine bD ?_ _|refine bL ?_|refine aN ?_ _));exact bC.out)):dn≠je));have Bl:=ah.mk ((by rw[hg];exact Nat.ne_of_gt (bG (g:=dn) (o:=.cells #[.int .i64 dB,.string dA,.string dH,.int .i64 dz,.slice (some nJ) cB.length fE,.slice eY cO.length eU] 29 (0,0)) (by (with_reducible repeat (first|refine bD ?_ _|refine bL ?_|refine aN ?_ _));exact bC.out)):je≠dn));clear bC;clear HB;have bC:=dM;have HB:=dU;have mo:=eF;have Ut:=mX;have Cz:=uG;have kS:=zl;have mU:=Bl;clear dM dU eF mX uG zl Bl;clear hb gN hg;have ari:=mU.out;have arj:=kS.out;have abv:w25.cell? ⟨je,0,none⟩=some (.int .i64 0):=(ak mo.out 0).trans rfl;have abw:w25.cell? ⟨je,1,none⟩=some (.int .i64 0):=(ak mo.out 1).trans rfl;have abx:=ay mo.out 0;have aby:=ay mo.out 1;have abz:w25.cell? ⟨dn,0,none⟩=some (.int .i64 dB):=(ak bC.out 0).trans rfl;have abA:w25.cell? ⟨dn,1,none⟩=some (.string dA):=(ak bC.out 1).trans rfl;have abB:w25.cell? ⟨dn,2,none⟩=some (.string dH):=(ak bC.out 2).trans rfl;have abC:w25.cell? ⟨dn,3,none⟩=some (.int .i64 dz):=(ak bC.out 3).trans rfl;have abD:w25.cell? ⟨dn,4,none⟩=some (.slice (some nJ) cB.length fE):=(ak bC.out 4).trans rfl;have abE:w25.cell? ⟨dn,5,none⟩=some (.slice eY cO.length eU):=(ak bC.out 5).trans rfl;have abF:=ay bC.out 0;have abG:=ay bC.out 1;have abH:=ay bC.out 2;have abI:=ay bC.out 3;have abJ:=ay bC.out 4;have abK:=ay bC.out 5))
         go_ret
         exact⟨by first|rfl|(simp[aY,aZ] <;> rfl)|(simp[*,aY,aZ] <;> rfl),by repeat (first|(with_reducible first|exact HB.out|apply aG|apply av|apply aK|refine aV ?_ jV.out|refine aV ?_ Cz.out)|exact HB.out)⟩
        rw[if_neg c24] at H;have XI:decide ((wrap64 (Int.tdiv (wrap64 ((wrap64 (dz+512)) - 1)) 512))<((aQ cB fZ).f1))=false:=decide_eq_false c24;clear c24;have H':=ah.mk H;clear H;have uR:0≤(fZ:Int):=of_decide_eq_true bg;have uS:fZ<(cB.length:Int):=of_decide_eq_true bg;obtain⟨nJ,LV,jc,jd⟩:=dQ xE.out fZ uR uS;cases LV;replace jc:=(HB.out.cell (World.block_lt_of_cell? w _ jc)).trans jc;replace jd:=(HB.out.cell (World.block_lt_of_cell? w _ jd)).trans jd;replace uR:=eq_true uR;replace uS:=eq_true uS
        go_wp2_with (first|((with_reducible refine jo (N:=6) rfl ?_);refine iZ ?hg (N:=6) ?hd (cs:=#[.int .i64 0,.int .i64 0]) (t:=117) ?hr ?_;(case hd=>rfl);(case hg=>rfl);(case hr=>first|(go_simp;done)|(go_simp;rfl));intro je hg w29 gN hb;have dM:=ah.mk (aJ (g:=dn) (o:=.cells #[.int .i64 dB,.string dA,.string dH,.int .i64 dz,.slice (some nJ) cB.length fE,.slice eY cO.length eU] 29 (0,0)) (by (with_reducible repeat (first|refine bD ?_ _|refine bL ?_|refine aN ?_ _));exact bC.out) hb);have dU:=ah.mk (bM (by repeat (first|(with_reducible first|exact HB.out|apply aG|apply av|apply aK|refine aV ?_ jV.out)|exact HB.out)) hb);have eF:=ah.mk (gN);have mX:=ah.mk ((by rw[hg];exact (bH (by repeat (first|(with_reducible first|exact HB.out|apply aG|apply av|apply aK|refine aV ?_ jV.out)|exact HB.out))):w.heap.size≤je));have uG:=ah.mk ((by rw[hg];exact (bH (by repeat (first|(with_reducible first|exact HB.out|apply aG|apply av|apply aK|refine aV ?_ jV.out)|exact HB.out))):w.heap.size≤je));have zl:=ah.mk ((by rw[hg];exact Nat.ne_of_lt (bG (g:=dn) (o:=.cells #[.int .i64 dB,.string dA,.string dH,.int .i64 dz,.slice (some nJ) cB.length fE,.slice eY cO.length eU] 29 (0,0)) (by (with_reducible repeat (first|refine bD ?_ _|refine bL ?_|refine aN ?_ _));exact bC.out)):dn≠je));have Bl:=ah.mk ((by rw[hg];exact Nat.ne_of_gt (bG (g:=dn) (o:=.cells #[.int .i64 dB,.string dA,.string dH,.int .i64 dz,.slice (some nJ) cB.length fE,.slice eY cO.length eU] 29 (0,0)) (by (with_reducible repeat (first|refine bD ?_ _|refine bL ?_|refine aN ?_ _));exact bC.out)):je≠dn));clear bC;clear HB;have bC:=dM;have HB:=dU;have mo:=eF;have Ut:=mX;have Cz:=uG;have kS:=zl;have mU:=Bl;clear dM dU eF mX uG zl Bl;clear hb gN hg;have ark:=mU.out;have arl:=kS.out;have abL:w29.cell? ⟨je,0,none⟩=some (.int .i64 0):=(ak mo.out 0).trans rfl;have abM:w29.cell? ⟨je,1,none⟩=some (.int .i64 0):=(ak mo.out 1).trans rfl;have abN:=ay mo.out 0;have abO:=ay mo.out 1;have abP:w29.cell? ⟨dn,0,none⟩=some (.int .i64 dB):=(ak bC.out 0).trans rfl;have abQ:w29.cell? ⟨dn,1,none⟩=some (.string dA):=(ak bC.out 1).trans rfl;have abR:w29.cell? ⟨dn,2,none⟩=some (.string dH):=(ak bC.out 2).trans rfl;have abS:w29.cell? ⟨dn,3,none⟩=some (.int .i64 dz):=(ak bC.out 3).trans rfl;have abT:w29.cell? ⟨dn,4,none⟩=some (.slice (some nJ) cB.length fE):=(ak bC.out 4).trans rfl;have abU:w29.cell? ⟨dn,5,none⟩=some (.slice eY cO.length eU):=(ak bC.out 5).trans rfl;have abV:=ay bC.out 0;have abW:=ay bC.out 1;have abX:=ay bC.out 2;have abY:=ay bC.out 3;have abZ:=ay bC.out 4;have ab0:=ay bC.out 5))
        go_roundg k2
        case measure=>have:=HJ1.out;have:=jG.out;omega
        case rel=>exact⟨((aQ cB fZ).f1),(wrap64 (Cy+(wrap64 (((aQ cB fZ).f1) - ((aQ cB fZ).f0))))),(wrap64 (fZ+1)),dV,dV,dV,H',⟨by have:=HJ1.out;have:=jG.out;omega⟩,⟨by (with_reducible repeat (first|refine bD ?_ _|refine bL ?_|refine aN ?_ _));refine fJ ?_ kS.out _;(with_reducible repeat (first|refine bD ?_ _|refine bL ?_|refine aN ?_ _));refine fJ ?_ kS.out _;(with_reducible repeat (first|refine bD ?_ _|refine bL ?_|refine aN ?_ _));exact bC.out⟩,⟨by repeat (first|(with_reducible first|exact HB.out|apply aG|apply av|apply aK|refine aV ?_ jV.out|refine aV ?_ Cz.out)|exact HB.out)⟩⟩
       rw[if_neg c11] at H;exact absurd H bB
      rw[if_neg c10] at H;exact absurd H bB
     rw[if_neg c9] at H;have NK:decide (fZ<(cB.length:Int))=false:=decide_eq_false c9;clear c9
     by_cases c33:(cO.length:Int)=(wrap64 (Cy*512))
     ·rw[if_pos c33] at H;have adF:((cO.length:Int) == (wrap64 (Cy*512)))=true:=beq_iff_eq.mpr c33;have adG:((cO.length:Int) != (wrap64 (Cy*512)))=false:=bne_eq_false_iff_eq.mpr c33;clear c33;by_cases c34:Cy=0
      ·rw[if_pos c34] at H;have adH:(Cy == 0)=true:=beq_iff_eq.mpr c34;have adI:(Cy != 0)=false:=bne_eq_false_iff_eq.mpr c34;clear c34;obtain rfl:=Option.some.inj H;have ab1:wr.cell? ⟨dn,0,none⟩=some (.int .i64 dB):=(ak bC.out 0).trans rfl;have ab2:wr.cell? ⟨dn,1,none⟩=some (.string dA):=(ak bC.out 1).trans rfl;have ab3:wr.cell? ⟨dn,2,none⟩=some (.string dH):=(ak bC.out 2).trans rfl;have ab4:wr.cell? ⟨dn,3,none⟩=some (.int .i64 dz):=(ak bC.out 3).trans rfl;have ab5:wr.cell? ⟨dn,4,none⟩=some (.slice iE cB.length fE):=(ak bC.out 4).trans rfl;have ab6:wr.cell? ⟨dn,5,none⟩=some (.slice eY cO.length eU):=(ak bC.out 5).trans rfl;have ab7:=ay bC.out 0;have ab8:=ay bC.out 1;have ab9:=ay bC.out 2;have acd:=ay bC.out 3;have ace:=ay bC.out 4;have acf:=ay bC.out 5
       go_wp2
       go_ret
       exact⟨by first|rfl|(simp[aY,aZ] <;> rfl)|(simp[*,aY,aZ] <;> rfl),by repeat (first|(with_reducible first|exact HB.out|apply aG|apply av|apply aK|refine aV ?_ jV.out)|exact HB.out)⟩
      rw[if_neg c34] at H;have adH:(Cy == 0)=false:=beq_eq_false_iff_ne.mpr c34;have adI:(Cy != 0)=true:=bne_iff_ne.mpr c34;have H':=ah.mk H;clear H;have acg:wr.cell? ⟨dn,0,none⟩=some (.int .i64 dB):=(ak bC.out 0).trans rfl;have ach:wr.cell? ⟨dn,1,none⟩=some (.string dA):=(ak bC.out 1).trans rfl;have aci:wr.cell? ⟨dn,2,none⟩=some (.string dH):=(ak bC.out 2).trans rfl;have acj:wr.cell? ⟨dn,3,none⟩=some (.int .i64 dz):=(ak bC.out 3).trans rfl;have acn:wr.cell? ⟨dn,4,none⟩=some (.slice iE cB.length fE):=(ak bC.out 4).trans rfl;have aco:wr.cell? ⟨dn,5,none⟩=some (.slice eY cO.length eU):=(ak bC.out 5).trans rfl;have acp:=ay bC.out 0;have acr:=ay bC.out 1;have acs:=ay bC.out 2;have acu:=ay bC.out 3;have acv:=ay bC.out 4;have acw:=ay bC.out 5
      go_wp2
      go_loopg [7] k2 (fun kq v7 w'=>∃(dJ:Int),v7=.int .i64 dJ∧ah (bJ.l1 kq fT dJ dB dA dH dz cB cO=some r)∧ah (kq≤k2)∧ah (w'.heap[dn]?=some (.cells #[.int .i64 dB,.string dA,.string dH,.int .i64 dz,(.slice iE cB.length fE),(.slice eY cO.length eU)] 29 (0,0)))∧ah (Below w.heap.size w w'))
      case atStart=>exact⟨(dz),dV,H',⟨Nat.le_refl _⟩,⟨by (with_reducible repeat (first|refine bD ?_ _|refine bL ?_|refine aN ?_ _));exact bC.out⟩,⟨by repeat (first|(with_reducible first|exact HB.out|apply aG|apply av|apply aK|refine aV ?_ jV.out)|exact HB.out)⟩⟩
      case round=>
       clear H'
       try clear c1
       try clear p1
       try clear q1
       try clear hx1
       try clear c2
       try clear p2
       try clear c3
       try clear c4
       try clear rP
       try clear p6
       try clear c7
       try clear c9
       try clear NK
       try clear c10
       try clear zw
       try clear c11
       try clear YG
       try clear c12
       try clear YO
       try clear p13
       try clear q13
       try clear at0
       try clear c14
       try clear c16
       try clear adB
       try clear c18
       try clear c20
       try clear adC
       try clear c22
       try clear c24
       try clear XI
       try clear c26
       try clear c30
       try clear c33
       try clear adF
       try clear adG
       try clear c34
       try clear adH
       try clear adI
       try clear KN
       try clear KO
       try clear abm
       try clear abn
       try clear abq
       try clear abr
       try clear abv
       try clear abw
       try clear abz
       try clear abA
       try clear abB
       try clear abC
       try clear abD
       try clear abE
       try clear abL
       try clear abM
       try clear abP
       try clear abQ
       try clear abR
       try clear abS
       try clear abT
       try clear abU
       try clear ab1
       try clear ab2
       try clear ab3
       try clear ab4
       try clear ab5
       try clear ab6
       try clear acg
       try clear ach
       try clear aci
       try clear acj
       try clear acn
       try clear aco
       try clear Rw
       try clear Rx
       try clear Ry
       try clear Rz
       try clear RD
       try clear RF
       try clear RO
       try clear RP
       try clear RQ
       try clear RS
       try clear RU
       try clear RV
       try clear Pv
       try clear Pw
       try clear Px
       try clear Py
       try clear Pz
       try clear PD
       try clear KP
       try clear KQ
       try clear abo
       try clear abp
       try clear abt
       try clear abu
       try clear abx
       try clear aby
       try clear abF
       try clear abG
       try clear abH
       try clear abI
       try clear abJ
       try clear abK
       try clear abN
       try clear abO
       try clear abV
       try clear abW
       try clear abX
       try clear abY
       try clear abZ
       try clear ab0
       try clear ab7
       try clear ab8
       try clear ab9
       try clear acd
       try clear ace
       try clear acf
       try clear acp
       try clear acr
       try clear acs
       try clear acu
       try clear acv
       try clear acw
       try clear RG
       try clear RH
       try clear RI
       try clear RJ
       try clear RL
       try clear RN
       try clear RX
       try clear RY
       try clear RZ
       try clear R3
       try clear R4
       try clear R5
       try clear PE
       try clear PG
       try clear PK
       try clear PL
       try clear PN
       try clear PO
       try clear jc
       try clear jd
       try clear uR
       try clear p2
       try clear uS
       obtain⟨dJ,rfl,HA,ug,bC,HB⟩:=hrel
       cases gk with
       | zero=>exact absurd HA.out (by simp[bJ.l1])
       | succ k3=>
        have H:=HA.out;clear HA;simp only[bJ.l1] at H
        by_cases c37:dJ<(wrap64 (fT*512))
        ·rw[if_pos c37] at H;have ajB:decide (dJ<(wrap64 (fT*512)))=true:=decide_eq_true c37;clear c37
         obtain⟨wC,Uu⟩:∃j_:Int,(wrap64 ((wrap64 ((cO.length:Int) - (wrap64 (fT*512))))+dJ))=j_:=⟨_,rfl⟩
         replace H:(if 0≤(wC) then (if (wC)<(cO.length:Int) then (if (rd cO (wC))=0 then (bJ.l1 k3 fT (wrap64 (dJ+1)) dB dA dH dz cB cO) else (some false)) else (none)) else (none))=some r:=by first|(rw[Uu] at H;exact H)|(simp only[Uu] at H ⊢;exact H)
         have ao7:(IntKind.i64.wrap ((wrap64 ((cO.length:Int) - (wrap64 (fT*512))))+dJ))=wC:=(eG _).trans Uu
         by_cases c39:0≤(wC)
         ·rw[if_pos c39] at H;have arn:decide (0≤(wC))=true:=decide_eq_true c39;clear c39
          by_cases c40:(wC)<(cO.length:Int)
          ·rw[if_pos c40] at H;have aro:decide ((wC)<(cO.length:Int))=true:=decide_eq_true c40;clear c40;by_cases c41:(rd cO (wC))=0
           ·rw[if_pos c41] at H;have ajC:((rd cO (wC)) == 0)=true:=beq_iff_eq.mpr c41;have ajD:((rd cO (wC)) != 0)=false:=bne_eq_false_iff_eq.mpr c41;clear c41;have H':=ah.mk H;clear H;have alc:wr.cell? ⟨dn,0,none⟩=some (.int .i64 dB):=(ak bC.out 0).trans rfl;have ald:wr.cell? ⟨dn,1,none⟩=some (.string dA):=(ak bC.out 1).trans rfl;have ale:wr.cell? ⟨dn,2,none⟩=some (.string dH):=(ak bC.out 2).trans rfl;have alf:wr.cell? ⟨dn,3,none⟩=some (.int .i64 dz):=(ak bC.out 3).trans rfl;have alg:wr.cell? ⟨dn,4,none⟩=some (.slice iE cB.length fE):=(ak bC.out 4).trans rfl;have alh:wr.cell? ⟨dn,5,none⟩=some (.slice eY cO.length eU):=(ak bC.out 5).trans rfl;have ali:=ay bC.out 0;have alj:=ay bC.out 1;have alk:=ay bC.out 2;have alm:=ay bC.out 3;have aln:=ay bC.out 4;have alo:=ay bC.out 5;have R6:0≤((wC):Int):=of_decide_eq_true bg;have R7:(wC)<(cO.length:Int):=of_decide_eq_true bg;obtain⟨ajE,afX,wD⟩:=Kd.gZ Eh.out (wC) R6 R7;cases afX;replace wD:=(HB.out.cell (World.block_lt_of_cell? w _ wD)).trans wD;replace R6:=eq_true R6;replace R7:=eq_true R7
            go_wp2
            go_roundg k3
            case measure=>have:=HJ1.out;have:=jG.out;have:=ug.out;omega
            case rel=>exact⟨(wrap64 (dJ+1)),dV,H',⟨by have:=HJ1.out;have:=jG.out;have:=ug.out;omega⟩,⟨by (with_reducible repeat (first|refine bD ?_ _|refine bL ?_|refine aN ?_ _));exact bC.out⟩,⟨by repeat (first|(with_reducible first|exact HB.out|apply aG|apply av|apply aK|refine aV ?_ jV.out)|exact HB.out)⟩⟩
           rw[if_neg c41] at H;have ajC:((rd cO (wC)) == 0)=false:=beq_eq_false_iff_ne.mpr c41;have ajD:((rd cO (wC)) != 0)=true:=bne_iff_ne.mpr c41;obtain rfl:=Option.some.inj H;have alp:wr.cell? ⟨dn,0,none⟩=some (.int .i64 dB):=(ak bC.out 0).trans rfl;have alq:wr.cell? ⟨dn,1,none⟩=some (.string dA):=(ak bC.out 1).trans rfl;have alr:wr.cell? ⟨dn,2,none⟩=some (.string dH):=(ak bC.out 2).trans rfl;have als:wr.cell? ⟨dn,3,none⟩=some (.int .i64 dz):=(ak bC.out 3).trans rfl;have alu:wr.cell? ⟨dn,4,none⟩=some (.slice iE cB.length fE):=(ak bC.out 4).trans rfl;have alv:wr.cell? ⟨dn,5,none⟩=some (.slice eY cO.length eU):=(ak bC.out 5).trans rfl;have alx:=ay bC.out 0;have aly:=ay bC.out 1;have alz:=ay bC.out 2;have alA:=ay bC.out 3;have alB:=ay bC.out 4;have alC:=ay bC.out 5;have R6:0≤((wC):Int):=of_decide_eq_true bg;have R7:(wC)<(cO.length:Int):=of_decide_eq_true bg;obtain⟨ajE,afX,wD⟩:=Kd.gZ Eh.out (wC) R6 R7;cases afX;replace wD:=(HB.out.cell (World.block_lt_of_cell? w _ wD)).trans wD;replace R6:=eq_true R6;replace R7:=eq_true R7
           go_wp2
           go_ret
           exact⟨by first|rfl|(simp[aY,aZ] <;> rfl)|(simp only[← Uu];first|rfl|(simp[aY,aZ] <;> rfl))|(simp[*,aY,aZ] <;> rfl),by repeat (first|(with_reducible first|exact HB.out|apply aG|apply av|apply aK|refine aV ?_ jV.out)|exact HB.out)⟩
          rw[if_neg c40] at H;exact absurd H bB
         rw[if_neg c39] at H;exact absurd H bB
        rw[if_neg c37] at H;have ajB:decide (dJ<(wrap64 (fT*512)))=false:=decide_eq_false c37;clear c37;obtain rfl:=Option.some.inj H
        go_wp2
        go_ret
        exact⟨by first|rfl|(simp[aY,aZ] <;> rfl)|(simp[*,aY,aZ] <;> rfl),by repeat (first|(with_reducible first|exact HB.out|apply aG|apply av|apply aK|refine aV ?_ jV.out)|exact HB.out)⟩
     rw[if_neg c33] at H;have adF:((cO.length:Int) == (wrap64 (Cy*512)))=false:=beq_eq_false_iff_ne.mpr c33;have adG:((cO.length:Int) != (wrap64 (Cy*512)))=true:=bne_iff_ne.mpr c33;obtain rfl:=Option.some.inj H;have alD:wr.cell? ⟨dn,0,none⟩=some (.int .i64 dB):=(ak bC.out 0).trans rfl;have alE:wr.cell? ⟨dn,1,none⟩=some (.string dA):=(ak bC.out 1).trans rfl;have alF:wr.cell? ⟨dn,2,none⟩=some (.string dH):=(ak bC.out 2).trans rfl;have alG:wr.cell? ⟨dn,3,none⟩=some (.int .i64 dz):=(ak bC.out 3).trans rfl;have alH:wr.cell? ⟨dn,4,none⟩=some (.slice iE cB.length fE):=(ak bC.out 4).trans rfl;have alI:wr.cell? ⟨dn,5,none⟩=some (.slice eY cO.length eU):=(ak bC.out 5).trans rfl;have alJ:=ay bC.out 0;have alK:=ay bC.out 1;have alL:=ay bC.out 2;have alM:=ay bC.out 3;have alN:=ay bC.out 4;have alO:=ay bC.out 5
     go_wp2
     go_ret
     exact⟨by first|rfl|(simp[aY,aZ] <;> rfl)|(simp[*,aY,aZ] <;> rfl),by repeat (first|(with_reducible first|exact HB.out|apply aG|apply av|apply aK|refine aV ?_ jV.out)|exact HB.out)⟩
def iC.l0:Nat→List Int→Int→Int→Option (Int)
 | 0,_,_,_=>none
 | k+1,x0,x3,x5=>if x5<4 then (if 0≤(wrap64 ((wrap64 ((x0.length:Int) - 1)) - x5)) then (if (wrap64 ((wrap64 ((x0.length:Int) - 1)) - x5))<(x0.length:Int) then (iC.l0 k x0 (Go.bits .or .i64 (wrap64 (x3*256)) (wrap64 (rd x0 (wrap64 ((wrap64 ((x0.length:Int) - 1)) - x5))))) (wrap64 (x5+1))) else (none)) else (none)) else (some x3)
def iC.f (k:Nat) (l0:List Int):Option (Int):=iC.l0 k l0 0 0
theorem iC.calls (k:Nat) (A0:Option Addr) (c0:Nat) (l0:List Int) (r:Int) (w:World) (hr0:Kd.C (Kd.int .u8) w A0 l0.length l0) (hc0:l0.length≤c0) (h:iC.f k l0=some r) :
  Calls Tryz.prog 49 #[.slice A0 l0.length c0] w fun e w'=>e=.returned (.int .i64 r)∧bI w w':=by
 have nC:=ah.mk hr0;have VW:=ah.mk hc0;clear hr0 hc0;have H:(iC.l0 k l0 0 0)=some r:=h;clear h;have H':=ah.mk H;clear H
 go_enter Tryz.func49,Tryz.ntmps49
 go_wp2
 go_loopg [3,5] k (fun kq v3 v5 w'=>∃(ku:Int) (aR:Int),v3=.int .i64 ku∧v5=.int .i64 aR∧ah (iC.l0 kq l0 ku aR=some r)∧ah (kq≤k)∧bI w w')
 case atStart=>exact⟨(0),(0),dV,dV,H',⟨Nat.le_refl _⟩,by repeat (first|exact bI.refl _|apply bI.step)⟩
 case round=>
  clear H';obtain⟨ku,aR,rfl,rfl,HA,jH,⟨m1,rfl⟩⟩:=hrel
  cases gk with
  | zero=>exact absurd HA.out (by simp[iC.l0])
  | succ k1=>
   have H:=HA.out;clear HA;simp only[iC.l0] at H;by_cases c2:aR<4
   ·rw[if_pos c2] at H;have zS:decide (aR<4)=true:=decide_eq_true c2;clear c2
    obtain⟨V8,acy⟩:∃j_:Int,(wrap64 ((wrap64 ((l0.length:Int) - 1)) - aR))=j_:=⟨_,rfl⟩
    replace H:(if 0≤(V8) then (if (V8)<(l0.length:Int) then (iC.l0 k1 l0 (Go.bits .or .i64 (wrap64 (ku*256)) (wrap64 (rd l0 (V8)))) (wrap64 (aR+1))) else (none)) else (none))=some r:=by first|(rw[acy] at H;exact H)|(simp only[acy] at H ⊢;exact H)
    have arp:(IntKind.i64.wrap ((wrap64 ((l0.length:Int) - 1)) - aR))=V8:=(eG _).trans acy
    by_cases c4:0≤(V8)
    ·rw[if_pos c4] at H;have rP:decide (0≤(V8))=true:=decide_eq_true c4;clear c4
     by_cases c5:(V8)<(l0.length:Int)
     ·rw[if_pos c5] at H;have Bg:decide ((V8)<(l0.length:Int))=true:=decide_eq_true c5;clear c5;have H':=ah.mk H;clear H;have afY:0≤((V8):Int):=of_decide_eq_true bg;have afZ:(V8)<(l0.length:Int):=of_decide_eq_true bg;obtain⟨arq,ao8,alP⟩:=Kd.gZ nC.out (V8) afY afZ;cases ao8;replace afY:=eq_true afY;replace afZ:=eq_true afZ
      go_wp2
      go_roundg k1
      case measure=>have:=jH.out;omega
      case rel=>exact⟨(Go.bits .or .i64 (wrap64 (ku*256)) (wrap64 (rd l0 (V8)))),(wrap64 (aR+1)),(by first|rfl|(simp;done)|(simp only[← acy] <;> (first|rfl|simp))|(simp[*];done)),dV,H',⟨by have:=jH.out;omega⟩,by repeat (first|exact bI.refl _|apply bI.step)⟩
     rw[if_neg c5] at H;exact absurd H bB
    rw[if_neg c4] at H;exact absurd H bB
   rw[if_neg c2] at H;have zS:decide (aR<4)=false:=decide_eq_false c2;clear c2;obtain rfl:=Option.some.inj H
   go_wp2
   go_ret
   exact⟨by first|rfl|(simp;done)|(simp[*];done),by repeat (first|exact bI.refl _|apply bI.step)⟩
def bytes_Equal.f (l0:List Int) (l1:List Int):Option (Bool):=some ((strOfNums l0).toList == (strOfNums l1).toList)
theorem bytes_Equal.calls (A0:Option Addr) (c0:Nat) (l0:List Int) (A1:Option Addr) (c1:Nat) (l1:List Int) (r:Bool) (w:World) (hr0:Kd.C (Kd.int .u8) w A0 l0.length l0) (hc0:l0.length≤c0) (hr1:Kd.C (Kd.int .u8) w A1 l1.length l1) (hc1:l1.length≤c1) (h:bytes_Equal.f l0 l1=some r) :
  Calls Tryz.prog 62 #[.slice A0 l0.length c0,.slice A1 l1.length c1] w fun e w'=>e=.returned (.bool r)∧bI w w':=by
 have nC:=ah.mk hr0;have VW:=ah.mk hc0;clear hr0 hc0;have HR1:=ah.mk hr1;have Gr:=ah.mk hc1;clear hr1 hc1;have H:(some ((strOfNums l0).toList == (strOfNums l1).toList))=some r:=h;clear h;obtain rfl:=Option.some.inj H;have anA:=Kd.nD (P:=Tryz.prog) (A:=A0) (c:=c0) Tryz.underlying27 Tryz.underlying5 Tryz.underlying9 nC.out;have anB:=Kd.nD (P:=Tryz.prog) (A:=A1) (c:=c1) Tryz.underlying27 Tryz.underlying5 Tryz.underlying9 HR1.out
 go_enter Tryz.func62,Tryz.ntmps62
 go_wp2
 go_ret
 exact⟨by first|rfl|(simp;done)|(simp[*];done),by repeat (first|exact bI.refl _|apply bI.step)⟩
end Go.Proofs.YtknihldkhedpkaaGreatDoor.PT
