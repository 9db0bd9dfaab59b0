import Derived.Test.YtknihldkhedpkaaGreatDoorUUG1
set_option linter.all false
set_option maxHeartbeats 16000000
set_option maxRecDepth 100000
namespace Go.Proofs.YtknihldkhedpkaaGreatDoor.PT
open Go.RowKit Go.Proofs.YtknihldkhedpkaaGreatDoorW.PrintWords Go.Proofs.YtknihldkhedpkaaGreatDoorW.PrintLast Go.Proofs.YtknihldkhedpkaaGreatDoorW.PrintMore
attribute [local go_sem] oJ oK rC rD mW mX oL oM
mutual
def aU.j0:Nat→Bool→Int→ByteArray→ByteArray→Int→List (dI)→List Int→Option (Bool)
 | 0,_,_,_,_,_,_,_=>none
 | k+1,x15,yY,yZ,za,uz,uD,oh=>if x15=true then (some false) else (aU.l0 k (-1) 0 uD (uD.length:Int) 0 yY yZ za uz uD oh)
def aU.l0:Nat→Int→Int→List (dI)→Int→Int→Int→ByteArray→ByteArray→Int→List (dI)→List Int→Option (Bool)
 | 0,_,_,_,_,_,_,_,_,_,_,_=>none
 | k+1,x3,x4,YA,x18,RG,yY,yZ,za,uz,uD,oh=>if RG<x18 then (if 0≤RG then (if RG<(YA.length:Int) then (if ((aK YA RG).f0)<0 then (some false) else (if ((aK YA RG).f0)≤x3 then (some false) else (if ((aK YA RG).f1)≤((aK YA RG).f0) then (some false) else (if ((aK YA RG).f1) > (wrap64 (Int.tdiv (wrap64 ((wrap64 (uz+512)) - 1)) 512)) then (some false) else (aU.l0 k ((aK YA RG).f1) (wrap64 (x4+(wrap64 (((aK YA RG).f1) - ((aK YA RG).f0))))) YA x18 (wrap64 (RG+1)) yY yZ za uz uD oh))))) else (none)) else (none)) else (if (oh.length:Int)=(wrap64 (x4*512)) then (if x4=0 then (some true) else (aU.l1 k x3 uz yY yZ za uz uD oh)) else (some false))
def aU.l1:Nat→Int→Int→Int→ByteArray→ByteArray→Int→List (dI)→List Int→Option (Bool)
 | 0,_,_,_,_,_,_,_,_=>none
 | k+1,x3,x7,yY,yZ,za,uz,uD,oh=>if x7<(wrap64 (x3*512)) then (if 0≤(wrap64 ((wrap64 ((oh.length:Int) - (wrap64 (x3*512))))+x7)) then (if (wrap64 ((wrap64 ((oh.length:Int) - (wrap64 (x3*512))))+x7))<(oh.length:Int) then (if (rd oh (wrap64 ((wrap64 ((oh.length:Int) - (wrap64 (x3*512))))+x7)))=0 then (aU.l1 k x3 (wrap64 (x7+1)) yY yZ za uz uD oh) else (some false)) else (none)) else (none)) else (some true)
end
def aU.f (k:Nat) (dh:Int) (cO:ByteArray) (dz:ByteArray) (bX:Int) (bQ:List (dI)) (bU:List Int):Option (Bool):=if bX<0 then (aU.j0 k true dh cO dz bX bQ bU) else (aU.j0 k (decide (bX > 8459264)) dh cO dz bX bQ bU)
theorem aU.fC:∀k,(∀y0 y1 y2 y3 y4 y5 y6,bW (aU.j0 k y0 y1 y2 y3 y4 y5 y6) (aU.j0 (k+1) y0 y1 y2 y3 y4 y5 y6))∧(∀y0 y1 y2 y3 y4 y5 y6 y7 y8 y9 y10,bW (aU.l0 k y0 y1 y2 y3 y4 y5 y6 y7 y8 y9 y10) (aU.l0 (k+1) y0 y1 y2 y3 y4 y5 y6 y7 y8 y9 y10))∧(∀y0 y1 y2 y3 y4 y5 y6 y7,bW (aU.l1 k y0 y1 y2 y3 y4 y5 y6 y7) (aU.l1 (k+1) y0 y1 y2 y3 y4 y5 y6 y7))
 | 0=>⟨fun _ _ _ _ _ _ _ r h=>by simp[aU.j0] at h,fun _ _ _ _ _ _ _ _ _ _ _ r h=>by simp[aU.l0] at h,fun _ _ _ _ _ _ _ _ r h=>by simp[aU.l1] at h⟩
 | k+1=>by
  obtain⟨j6,ih1,ih2⟩:=aU.fC k;refine⟨?_,?_,?_⟩
  ·intro y0 y1 y2 y3 y4 y5 y6;unfold aU.j0
   repeat' first
   | (with_reducible exact j6 _ _ _ _ _ _ _)
   | (with_reducible exact ih1 _ _ _ _ _ _ _ _ _ _ _)
   | (with_reducible exact ih2 _ _ _ _ _ _ _ _)
   | (with_reducible exact bW.refl _)
   | (with_reducible exact bW.none _)
   | (with_reducible refine bW.ite ?_ ?_)
   | (with_reducible refine bW.bind ?_ (fun _=>?_))
   | exact j6 _ _ _ _ _ _ _
   | exact ih1 _ _ _ _ _ _ _ _ _ _ _
   | exact ih2 _ _ _ _ _ _ _ _
   | exact bW.none _
   | refine bW.ite ?_ ?_
   | refine bW.bind ?_ (fun _=>?_)
  ·intro y0 y1 y2 y3 y4 y5 y6 y7 y8 y9 y10;unfold aU.l0
   repeat' first
   | (with_reducible exact j6 _ _ _ _ _ _ _)
   | (with_reducible exact ih1 _ _ _ _ _ _ _ _ _ _ _)
   | (with_reducible exact ih2 _ _ _ _ _ _ _ _)
   | (with_reducible exact bW.refl _)
   | (with_reducible exact bW.none _)
   | (with_reducible refine bW.ite ?_ ?_)
   | (with_reducible refine bW.bind ?_ (fun _=>?_))
   | exact j6 _ _ _ _ _ _ _
   | exact ih1 _ _ _ _ _ _ _ _ _ _ _
   | exact ih2 _ _ _ _ _ _ _ _
   | exact bW.none _
   | refine bW.ite ?_ ?_
   | refine bW.bind ?_ (fun _=>?_)
  intro y0 y1 y2 y3 y4 y5 y6 y7;unfold aU.l1
  repeat' first
  | (with_reducible exact j6 _ _ _ _ _ _ _)
  | (with_reducible exact ih1 _ _ _ _ _ _ _ _ _ _ _)
  | (with_reducible exact ih2 _ _ _ _ _ _ _ _)
  | (with_reducible exact bW.refl _)
  | (with_reducible exact bW.none _)
  | (with_reducible refine bW.ite ?_ ?_)
  | (with_reducible refine bW.bind ?_ (fun _=>?_))
  | exact j6 _ _ _ _ _ _ _
  | exact ih1 _ _ _ _ _ _ _ _ _ _ _
  | exact ih2 _ _ _ _ _ _ _ _
  | exact bW.none _
  | refine bW.ite ?_ ?_
  | refine bW.bind ?_ (fun _=>?_)
theorem aU.mono:∀a0 a1 a2 a3 a4 a5 k,bW (aU.f k a0 a1 a2 a3 a4 a5) (aU.f (k+1) a0 a1 a2 a3 a4 a5):=by
 intro a0 a1 a2 a3 a4 a5 k;obtain⟨j6,ih1,ih2⟩:=aU.fC k;unfold aU.f
 repeat' first
   | (with_reducible exact j6 _ _ _ _ _ _ _)
   | (with_reducible exact ih1 _ _ _ _ _ _ _ _ _ _ _)
   | (with_reducible exact ih2 _ _ _ _ _ _ _ _)
   | (with_reducible exact bW.refl _)
   | (with_reducible exact bW.none _)
   | (with_reducible refine bW.ite ?_ ?_)
   | (with_reducible refine bW.bind ?_ (fun _=>?_))
   | exact j6 _ _ _ _ _ _ _
   | exact ih1 _ _ _ _ _ _ _ _ _ _ _
   | exact ih2 _ _ _ _ _ _ _ _
   | exact bW.none _
   | refine bW.ite ?_ ?_
   | refine bW.bind ?_ (fun _=>?_)
theorem aU.calls (k:Nat) (dh:Int) (cO:ByteArray) (dz:ByteArray) (bX:Int) (gF:Option Addr) (eD:Nat) (bQ:List (dI)) (eB:Option Addr) (eu:Nat) (bU:List Int) (r:Bool) (w:World) (qm:Kd.C dB w gF bQ.length bQ) (rA:bQ.length≤eD) (qK:Kd.C (Kd.int .u8) w eB bU.length bU) (tC:bU.length≤eu) (h:aU.f k dh cO dz bX bQ bU=some r) :
  Calls Tryz.prog 116 #[.agg #[.int .i64 dh,.string cO,.string dz,.int .i64 bX,.slice gF bQ.length eD,.slice eB bU.length eu]] w fun e w'=>e=.returned (.bool r)∧Below w.heap.size w w':=by
 have Qq:=Tryz.underlying29;have SA:=Tryz.underlying117;have vw:=ah.mk qm;have D6:=ah.mk rA;clear qm rA;have Bw:=ah.mk qK;have Gf:=ah.mk tC;clear qK tC;have HB:=ah.mk (Below.refl w.heap.size w);have H:(if bX<0 then (aU.j0 k true dh cO dz bX bQ bU) else (aU.j0 k (decide (bX > 8459264)) dh cO dz bX bQ bU))=some r:=h;clear h;have JJ:=ah.mk H;clear H
 go_enter Tryz.func116,Tryz.ntmps116
 go_upto_region 1 with (first|((with_reducible refine fJ (N:=1) rfl ?_);refine fA ?hg (N:=1) ?hd (cs:=#[.int .i64 dh,.string cO,.string dz,.int .i64 bX,.slice gF bQ.length eD,.slice eB bU.length eu]) (t:=29) ?hr ?_;(case hd=>rfl);(case hg=>rfl);(case hr=>first|(go_simp;done)|(go_simp;rfl));intro cK hg w3 eH hb;have fD:=ah.mk (bO dL hb);have gy:=ah.mk (eH);have iE:=ah.mk ((by rw[hg];exact (bB dL):w.heap.size≤cK));have jS:=ah.mk ((by rw[hg];exact (bB dL):w.heap.size≤cK));clear HB;have HB:=fD;have bF:=gy;have aqD:=iE;have jT:=jS;clear fD gy iE jS;clear hb eH hg))
 (try simp only[Act.put,aYa,aYb,aYc])
 go_cut [15] (fun v15 wc=>∃(kq:Nat) (TV:Bool),v15=.bool TV∧ah (aU.j0 kq TV dh cO dz bX bQ bU=some r)∧ah (kq≤k)∧ah (wc.heap[cK]?=some (.cells #[.int .i64 dh,.string cO,.string dz,.int .i64 bX,(.slice gF bQ.length eD),(.slice eB bU.length eu)] 29 (0,0)))∧ah (Below w.heap.size w wc))
 case first=>
  have H:=JJ.out;clear JJ;by_cases c4:bX<0
  ·rw[if_pos c4] at H;have nL:decide (bX<0)=true:=decide_eq_true c4;clear c4
   (first|rw[nL]|(simp only[dn,dA];rw[nL])|skip)
   have H':=ah.mk H;clear H;have Ho:w3.cell? ⟨cK,0,none⟩=some (.int .i64 dh):=(ak bF.out 0).trans rfl;have Hq:w3.cell? ⟨cK,1,none⟩=some (.string cO):=(ak bF.out 1).trans rfl;have Hr:w3.cell? ⟨cK,2,none⟩=some (.string dz):=(ak bF.out 2).trans rfl;have Ht:w3.cell? ⟨cK,3,none⟩=some (.int .i64 bX):=(ak bF.out 3).trans rfl;have Hu:w3.cell? ⟨cK,4,none⟩=some (.slice gF bQ.length eD):=(ak bF.out 4).trans rfl;have Hw:w3.cell? ⟨cK,5,none⟩=some (.slice eB bU.length eu):=(ak bF.out 5).trans rfl;have Hy:=ay bF.out 0;have Hz:=ay bF.out 1;have H7:=ay bF.out 2;have H8:=ay bF.out 3;have H9:=ay bF.out 4;have Ia:=ay bF.out 5
   go_wp2
   go_meet
   case rel=>exact⟨_,(true),eG,H',⟨by first|omega|exact Nat.le_refl _⟩,⟨by (with_reducible repeat (first|refine bD ?_ _|refine bI ?_|refine aM ?_ _));exact bF.out⟩,⟨by repeat (first|(with_reducible first|exact HB.out|apply aH|apply av|apply aI|refine aR ?_ jT.out)|exact HB.out)⟩⟩
  rw[if_neg c4] at H;have nL:decide (bX<0)=false:=decide_eq_false c4;clear c4
  (first|rw[nL]|(simp only[dn,dA];rw[nL])|skip)
  have H':=ah.mk H;clear H;have Ib:w3.cell? ⟨cK,0,none⟩=some (.int .i64 dh):=(ak bF.out 0).trans rfl;have Ic:w3.cell? ⟨cK,1,none⟩=some (.string cO):=(ak bF.out 1).trans rfl;have Ie:w3.cell? ⟨cK,2,none⟩=some (.string dz):=(ak bF.out 2).trans rfl;have Ig:w3.cell? ⟨cK,3,none⟩=some (.int .i64 bX):=(ak bF.out 3).trans rfl;have Ih:w3.cell? ⟨cK,4,none⟩=some (.slice gF bQ.length eD):=(ak bF.out 4).trans rfl;have Ii:w3.cell? ⟨cK,5,none⟩=some (.slice eB bU.length eu):=(ak bF.out 5).trans rfl;have Ij:=ay bF.out 0;have Ik:=ay bF.out 1;have Il:=ay bF.out 2;have Im:=ay bF.out 3;have Io:=ay bF.out 4;have Ip:=ay bF.out 5
  go_wp2
  go_meet
  case rel=>exact⟨_,(decide (bX > 8459264)),eG,H',⟨by first|omega|exact Nat.le_refl _⟩,⟨by (with_reducible repeat (first|refine bD ?_ _|refine bI ?_|refine aM ?_ _));exact bF.out⟩,⟨by repeat (first|(with_reducible first|exact HB.out|apply aH|apply av|apply aI|refine aR ?_ jT.out)|exact HB.out)⟩⟩
 case rest=>
  clear JJ
  try clear c1
  try clear p2
  try clear c4
  try clear nL
  try clear Ho
  try clear Hq
  try clear Hr
  try clear Ht
  try clear Hu
  try clear Hw
  try clear Ib
  try clear Ic
  try clear Ie
  try clear Ig
  try clear Ih
  try clear Ii
  try clear Hy
  try clear Hz
  try clear H7
  try clear H8
  try clear H9
  try clear Ia
  try clear Ij
  try clear Ik
  try clear Il
  try clear Im
  try clear Io
  try clear Ip
  obtain⟨kq,TV,rfl,HA,Wj,bF,HB⟩:=hcut
  cases kq with
  | zero=>exact absurd HA.out (by simp[aU.j0])
  | succ VH=>
   have H:=HA.out;clear HA;simp only[aU.j0] at H;by_cases c7:TV=true
   ·subst c7
    have H1:(some false)=some r:=by rw[if_pos rfl] at H;exact H
    clear H;have H:=H1;clear H1;obtain rfl:=Option.some.inj H
    go_wp2
    go_ret
    exact⟨by first|rfl|(simp[aX,aY] <;> rfl)|(simp[*,aX,aY] <;> rfl),by repeat (first|(with_reducible first|exact HB.out|apply aH|apply av|apply aI|refine aR ?_ jT.out)|exact HB.out)⟩
   replace c7:=Bool.eq_false_iff.mpr c7;subst c7
   have H1:(aU.l0 VH (-1) 0 bQ (bQ.length:Int) 0 dh cO dz bX bQ bU)=some r:=by rw[if_neg (show ¬(false=true) by decide)] at H;exact H
   clear H;have H:=H1;clear H1;have H':=ah.mk H;clear H;have LC:wc.cell? ⟨cK,0,none⟩=some (.int .i64 dh):=(ak bF.out 0).trans rfl;have LD:wc.cell? ⟨cK,1,none⟩=some (.string cO):=(ak bF.out 1).trans rfl;have Qs:wc.cell? ⟨cK,2,none⟩=some (.string dz):=(ak bF.out 2).trans rfl;have Qt:wc.cell? ⟨cK,3,none⟩=some (.int .i64 bX):=(ak bF.out 3).trans rfl;have Qu:wc.cell? ⟨cK,4,none⟩=some (.slice gF bQ.length eD):=(ak bF.out 4).trans rfl;have Qv:wc.cell? ⟨cK,5,none⟩=some (.slice eB bU.length eu):=(ak bF.out 5).trans rfl;have LG:=ay bF.out 0;have LH:=ay bF.out 1;have Qw:=ay bF.out 2;have Qx:=ay bF.out 3;have Qy:=ay bF.out 4;have Qz:=ay bF.out 5
   go_wp2
   go_loopg [3,4,19] VH (fun kq v3 v4 v19 w'=>∃(qV:Int) (Ct:Int) (gI:Int),v3=.int .i64 qV∧v4=.int .i64 Ct∧v19=.int .i64 gI∧ah (aU.l0 kq qV Ct bQ (bQ.length:Int) gI dh cO dz bX bQ bU=some r)∧ah (kq≤VH)∧ah (w'.heap[cK]?=some (.cells #[.int .i64 dh,.string cO,.string dz,.int .i64 bX,(.slice gF bQ.length eD),(.slice eB bU.length eu)] 29 (0,0)))∧ah (Below w.heap.size w w'))
   case atStart=>exact⟨((-1)),(0),(0),eG,eG,eG,H',⟨Nat.le_refl _⟩,⟨by (with_reducible repeat (first|refine bD ?_ _|refine bI ?_|refine aM ?_ _));exact bF.out⟩,⟨by repeat (first|(with_reducible first|exact HB.out|apply aH|apply av|apply aI|refine aR ?_ jT.out)|exact HB.out)⟩⟩
   case round=>
    clear H'
    try clear c1
    try clear p2
    try clear c4
    try clear nL
    try clear c7
    try clear Ho
    try clear Hq
    try clear Hr
    try clear Ht
    try clear Hu
    try clear Hw
    try clear Ib
    try clear Ic
    try clear Ie
    try clear Ig
    try clear Ih
    try clear Ii
    try clear LC
    try clear LD
    try clear Qs
    try clear Qt
    try clear Qu
    try clear Qv
    try clear Hy
    try clear Hz
    try clear H7
    try clear H8
    try clear H9
    try clear Ia
    try clear Ij
    try clear Ik
    try clear Il
    try clear Im
    try clear Io
    try clear Ip
    try clear LG
    try clear LH
    try clear Qw
    try clear Qx
    try clear Qy
    try clear Qz
    try clear p2
    obtain⟨qV,Ct,gI,rfl,rfl,rfl,HA,jG,bF,HB⟩:=hrel
    cases gk with
    | zero=>exact absurd HA.out (by simp[aU.l0])
    | succ k2=>
     have H:=HA.out;clear HA;simp only[aU.l0] at H
     by_cases c9:gI<(bQ.length:Int)
     ·rw[if_pos c9] at H;have LZ:decide (gI<(bQ.length:Int))=true:=decide_eq_true c9;clear c9;by_cases c10:0≤gI
      ·rw[if_pos c10] at H;have GL:decide (0≤gI)=true:=decide_eq_true c10;clear c10
       by_cases c11:gI<(bQ.length:Int)
       ·rw[if_pos c11] at H;have Xq:decide (gI<(bQ.length:Int))=true:=decide_eq_true c11;clear c11;by_cases c12:((aK bQ gI).f0)<0
        ·rw[if_pos c12] at H;have Hl:decide (((aK bQ gI).f0)<0)=true:=decide_eq_true c12;clear c12;obtain rfl:=Option.some.inj H;have vK:0≤(gI:Int):=of_decide_eq_true bS;have vL:gI<(bQ.length:Int):=of_decide_eq_true bS;obtain⟨nV,MB,jh,ji⟩:=dP vw.out gI vK vL;cases MB;replace jh:=(HB.out.cell (World.block_lt_of_cell? w _ jh)).trans jh;replace ji:=(HB.out.cell (World.block_lt_of_cell? w _ ji)).trans ji;replace vK:=eq_true vK;replace vL:=eq_true vL
         go_wp2_with (first|((with_reducible refine fJ (N:=6) rfl ?_);refine fA ?hg (N:=6) ?hd (cs:=#[.int .i64 0,.int .i64 0]) (t:=117) ?hr ?_;(case hd=>rfl);(case hg=>rfl);(case hr=>first|(go_simp;done)|(go_simp;rfl));intro jk hg w13 eH hb;have fD:=ah.mk (aG (g:=cK) (o:=.cells #[.int .i64 dh,.string cO,.string dz,.int .i64 bX,.slice (some nV) bQ.length eD,.slice eB bU.length eu] 29 (0,0)) (by (with_reducible repeat (first|refine bD ?_ _|refine bI ?_|refine aM ?_ _));exact bF.out) hb);have gy:=ah.mk (bO (by repeat (first|(with_reducible first|exact HB.out|apply aH|apply av|apply aI|refine aR ?_ jT.out)|exact HB.out)) hb);have iE:=ah.mk (eH);have jS:=ah.mk ((by rw[hg];exact (bB (by repeat (first|(with_reducible first|exact HB.out|apply aH|apply av|apply aI|refine aR ?_ jT.out)|exact HB.out))):w.heap.size≤jk));have vB:=ah.mk ((by rw[hg];exact (bB (by repeat (first|(with_reducible first|exact HB.out|apply aH|apply av|apply aI|refine aR ?_ jT.out)|exact HB.out))):w.heap.size≤jk));have zF:=ah.mk ((by rw[hg];exact Nat.ne_of_lt (bE (g:=cK) (o:=.cells #[.int .i64 dh,.string cO,.string dz,.int .i64 bX,.slice (some nV) bQ.length eD,.slice eB bU.length eu] 29 (0,0)) (by (with_reducible repeat (first|refine bD ?_ _|refine bI ?_|refine aM ?_ _));exact bF.out)):cK≠jk));have BA:=ah.mk ((by rw[hg];exact Nat.ne_of_gt (bE (g:=cK) (o:=.cells #[.int .i64 dh,.string cO,.string dz,.int .i64 bX,.slice (some nV) bQ.length eD,.slice eB bU.length eu] 29 (0,0)) (by (with_reducible repeat (first|refine bD ?_ _|refine bI ?_|refine aM ?_ _));exact bF.out)):jk≠cK));clear bF;clear HB;have bF:=fD;have HB:=gy;have mD:=iE;have TW:=jS;have Cu:=vB;have kS:=zF;have nC:=BA;clear fD gy iE jS vB zF BA;clear hb eH hg;have aqE:=nC.out;have aqF:=kS.out;have EL:w13.cell? ⟨jk,0,none⟩=some (.int .i64 0):=(ak mD.out 0).trans rfl;have EM:w13.cell? ⟨jk,1,none⟩=some (.int .i64 0):=(ak mD.out 1).trans rfl;have EN:=ay mD.out 0;have EO:=ay mD.out 1))
         go_ret
         exact⟨by first|rfl|(simp[aX,aY] <;> rfl)|(simp[*,aX,aY] <;> rfl),by repeat (first|(with_reducible first|exact HB.out|apply aH|apply av|apply aI|refine aR ?_ jT.out|refine aR ?_ Cu.out)|exact HB.out)⟩
        rw[if_neg c12] at H;have Hl:decide (((aK bQ gI).f0)<0)=false:=decide_eq_false c12;clear c12;by_cases c16:((aK bQ gI).f0)≤qV
        ·rw[if_pos c16] at H;have acv:decide (((aK bQ gI).f0)≤qV)=true:=decide_eq_true c16;clear c16;obtain rfl:=Option.some.inj H;have vK:0≤(gI:Int):=of_decide_eq_true bS;have vL:gI<(bQ.length:Int):=of_decide_eq_true bS;obtain⟨nV,MB,jh,ji⟩:=dP vw.out gI vK vL;cases MB;replace jh:=(HB.out.cell (World.block_lt_of_cell? w _ jh)).trans jh;replace ji:=(HB.out.cell (World.block_lt_of_cell? w _ ji)).trans ji;replace vK:=eq_true vK;replace vL:=eq_true vL
         go_wp2_with (first|((with_reducible refine fJ (N:=6) rfl ?_);refine fA ?hg (N:=6) ?hd (cs:=#[.int .i64 0,.int .i64 0]) (t:=117) ?hr ?_;(case hd=>rfl);(case hg=>rfl);(case hr=>first|(go_simp;done)|(go_simp;rfl));intro jk hg w17 eH hb;have fD:=ah.mk (aG (g:=cK) (o:=.cells #[.int .i64 dh,.string cO,.string dz,.int .i64 bX,.slice (some nV) bQ.length eD,.slice eB bU.length eu] 29 (0,0)) (by (with_reducible repeat (first|refine bD ?_ _|refine bI ?_|refine aM ?_ _));exact bF.out) hb);have gy:=ah.mk (bO (by repeat (first|(with_reducible first|exact HB.out|apply aH|apply av|apply aI|refine aR ?_ jT.out)|exact HB.out)) hb);have iE:=ah.mk (eH);have jS:=ah.mk ((by rw[hg];exact (bB (by repeat (first|(with_reducible first|exact HB.out|apply aH|apply av|apply aI|refine aR ?_ jT.out)|exact HB.out))):w.heap.size≤jk));have vB:=ah.mk ((by rw[hg];exact (bB (by repeat (first|(with_reducible first|exact HB.out|apply aH|apply av|apply aI|refine aR ?_ jT.out)|exact HB.out))):w.heap.size≤jk));have zF:=ah.mk ((by rw[hg];exact Nat.ne_of_lt (bE (g:=cK) (o:=.cells #[.int .i64 dh,.string cO,.string dz,.int .i64 bX,.slice (some nV) bQ.length eD,.slice eB bU.length eu] 29 (0,0)) (by (with_reducible repeat (first|refine bD ?_ _|refine bI ?_|refine aM ?_ _));exact bF.out)):cK≠jk));have BA:=ah.mk ((by rw[hg];exact Nat.ne_of_gt (bE (g:=cK) (o:=.cells #[.int .i64 dh,.string cO,.string dz,.int .i64 bX,.slice (some nV) bQ.length eD,.slice eB bU.length eu] 29 (0,0)) (by (with_reducible repeat (first|refine bD ?_ _|refine bI ?_|refine aM ?_ _));exact bF.out)):jk≠cK));clear bF;clear HB;have bF:=fD;have HB:=gy;have mD:=iE;have TW:=jS;have Cu:=vB;have kS:=zF;have nC:=BA;clear fD gy iE jS vB zF BA;clear hb eH hg;have aqG:=nC.out;have aqH:=kS.out;have aav:w17.cell? ⟨jk,0,none⟩=some (.int .i64 0):=(ak mD.out 0).trans rfl;have aaw:w17.cell? ⟨jk,1,none⟩=some (.int .i64 0):=(ak mD.out 1).trans rfl;have aax:=ay mD.out 0;have aay:=ay mD.out 1))
         go_ret
         exact⟨by first|rfl|(simp[aX,aY] <;> rfl)|(simp[*,aX,aY] <;> rfl),by repeat (first|(with_reducible first|exact HB.out|apply aH|apply av|apply aI|refine aR ?_ jT.out|refine aR ?_ Cu.out)|exact HB.out)⟩
        rw[if_neg c16] at H;have acv:decide (((aK bQ gI).f0)≤qV)=false:=decide_eq_false c16;clear c16
        by_cases c20:((aK bQ gI).f1)≤((aK bQ gI).f0)
        ·rw[if_pos c20] at H;have acw:decide (((aK bQ gI).f1)≤((aK bQ gI).f0))=true:=decide_eq_true c20;clear c20;obtain rfl:=Option.some.inj H;have vK:0≤(gI:Int):=of_decide_eq_true bS;have vL:gI<(bQ.length:Int):=of_decide_eq_true bS;obtain⟨nV,MB,jh,ji⟩:=dP vw.out gI vK vL;cases MB;replace jh:=(HB.out.cell (World.block_lt_of_cell? w _ jh)).trans jh;replace ji:=(HB.out.cell (World.block_lt_of_cell? w _ ji)).trans ji;replace vK:=eq_true vK;replace vL:=eq_true vL
         go_wp2_with (first|((with_reducible refine fJ (N:=6) rfl ?_);refine fA ?hg (N:=6) ?hd (cs:=#[.int .i64 0,.int .i64 0]) (t:=117) ?hr ?_;(case hd=>rfl);(case hg=>rfl);(case hr=>first|(go_simp;done)|(go_simp;rfl));intro jk hg w21 eH hb;have fD:=ah.mk (aG (g:=cK) (o:=.cells #[.int .i64 dh,.string cO,.string dz,.int .i64 bX,.slice (some nV) bQ.length eD,.slice eB bU.length eu] 29 (0,0)) (by (with_reducible repeat (first|refine bD ?_ _|refine bI ?_|refine aM ?_ _));exact bF.out) hb);have gy:=ah.mk (bO (by repeat (first|(with_reducible first|exact HB.out|apply aH|apply av|apply aI|refine aR ?_ jT.out)|exact HB.out)) hb);have iE:=ah.mk (eH);have jS:=ah.mk ((by rw[hg];exact (bB (by repeat (first|(with_reducible first|exact HB.out|apply aH|apply av|apply aI|refine aR ?_ jT.out)|exact HB.out))):w.heap.size≤jk));have vB:=ah.mk ((by rw[hg];exact (bB (by repeat (first|(with_reducible first|exact HB.out|apply aH|apply av|apply aI|refine aR ?_ jT.out)|exact HB.out))):w.heap.size≤jk));have zF:=ah.mk ((by rw[hg];exact Nat.ne_of_lt (bE (g:=cK) (o:=.cells #[.int .i64 dh,.string cO,.string dz,.int .i64 bX,.slice (some nV) bQ.length eD,.slice eB bU.length eu] 29 (0,0)) (by (with_reducible repeat (first|refine bD ?_ _|refine bI ?_|refine aM ?_ _));exact bF.out)):cK≠jk));have BA:=ah.mk ((by rw[hg];exact Nat.ne_of_gt (bE (g:=cK) (o:=.cells #[.int .i64 dh,.string cO,.string dz,.int .i64 bX,.slice (some nV) bQ.length eD,.slice eB bU.length eu] 29 (0,0)) (by (with_reducible repeat (first|refine bD ?_ _|refine bI ?_|refine aM ?_ _));exact bF.out)):jk≠cK));clear bF;clear HB;have bF:=fD;have HB:=gy;have mD:=iE;have TW:=jS;have Cu:=vB;have kS:=zF;have nC:=BA;clear fD gy iE jS vB zF BA;clear hb eH hg;have aqI:=nC.out;have aqJ:=kS.out;have aaz:w21.cell? ⟨jk,0,none⟩=some (.int .i64 0):=(ak mD.out 0).trans rfl;have aaA:w21.cell? ⟨jk,1,none⟩=some (.int .i64 0):=(ak mD.out 1).trans rfl;have aaB:=ay mD.out 0;have aaC:=ay mD.out 1))
         go_ret
         exact⟨by first|rfl|(simp[aX,aY] <;> rfl)|(simp[*,aX,aY] <;> rfl),by repeat (first|(with_reducible first|exact HB.out|apply aH|apply av|apply aI|refine aR ?_ jT.out|refine aR ?_ Cu.out)|exact HB.out)⟩
        rw[if_neg c20] at H;have acw:decide (((aK bQ gI).f1)≤((aK bQ gI).f0))=false:=decide_eq_false c20;clear c20
        by_cases c24:((aK bQ gI).f1) > (wrap64 (Int.tdiv (wrap64 ((wrap64 (bX+512)) - 1)) 512))
        ·rw[if_pos c24] at H;have acy:decide ((wrap64 (Int.tdiv (wrap64 ((wrap64 (bX+512)) - 1)) 512))<((aK bQ gI).f1))=true:=decide_eq_true c24;clear c24;obtain rfl:=Option.some.inj H;have vK:0≤(gI:Int):=of_decide_eq_true bS;have vL:gI<(bQ.length:Int):=of_decide_eq_true bS;obtain⟨nV,MB,jh,ji⟩:=dP vw.out gI vK vL;cases MB;replace jh:=(HB.out.cell (World.block_lt_of_cell? w _ jh)).trans jh;replace ji:=(HB.out.cell (World.block_lt_of_cell? w _ ji)).trans ji;replace vK:=eq_true vK;replace vL:=eq_true vL
         go_wp2_with (first|((with_reducible refine fJ (N:=6) rfl ?_);refine fA ?hg (N:=6) ?hd (cs:=#[.int .i64 0,.int .i64 0]) (t:=117) ?hr ?_;(case hd=>rfl);(case hg=>rfl);(case hr=>first|(go_simp;done)|(go_simp;rfl));intro jk hg Xu eH hb;have fD:=ah.mk (aG (g:=cK) (o:=.cells #[.int .i64 dh,.string cO,.string dz,.int .i64 bX,.slice (some nV) bQ.length eD,.slice eB bU.length eu] 29 (0,0)) (by (with_reducible repeat (first|refine bD ?_ _|refine bI ?_|refine aM ?_ _));exact bF.out) hb);have gy:=ah.mk (bO (by repeat (first|(with_reducible first|exact HB.out|apply aH|apply av|apply aI|refine aR ?_ jT.out)|exact HB.out)) hb);have iE:=ah.mk (eH);have jS:=ah.mk ((by rw[hg];exact (bB (by repeat (first|(with_reducible first|exact HB.out|apply aH|apply av|apply aI|refine aR ?_ jT.out)|exact HB.out))):w.heap.size≤jk));have vB:=ah.mk ((by rw[hg];exact (bB (by repeat (first|(with_reducible first|exact HB.out|apply aH|apply av|apply aI|refine aR ?_ jT.out)|exact HB.out))):w.heap.size≤jk));have zF:=ah.mk ((by rw[hg];exact Nat.ne_of_lt (bE (g:=cK) (o:=.cells #[.int .i64 dh,.string cO,.string dz,.int .i64 bX,.slice (some nV) bQ.length eD,.slice eB bU.length eu] 29 (0,0)) (by (with_reducible repeat (first|refine bD ?_ _|refine bI ?_|refine aM ?_ _));exact bF.out)):cK≠jk));have BA:=ah.mk ((by rw[hg];exact Nat.ne_of_gt (bE (g:=cK) (o:=.cells #[.int .i64 dh,.string cO,.string dz,.int .i64 bX,.slice (some nV) bQ.length eD,.slice eB bU.length eu] 29 (0,0)) (by (with_reducible repeat (first|refine bD ?_ _|refine bI ?_|refine aM ?_ _));exact bF.out)):jk≠cK));clear bF;clear HB;have bF:=fD;have HB:=gy;have mD:=iE;have TW:=jS;have Cu:=vB;have kS:=zF;have nC:=BA;clear fD gy iE jS vB zF BA;clear hb eH hg;have aqK:=nC.out;have aqL:=kS.out;have aaD:Xu.cell? ⟨jk,0,none⟩=some (.int .i64 0):=(ak mD.out 0).trans rfl;have aaE:Xu.cell? ⟨jk,1,none⟩=some (.int .i64 0):=(ak mD.out 1).trans rfl;have aaF:=ay mD.out 0;have aaG:=ay mD.out 1;have aaH:Xu.cell? ⟨cK,0,none⟩=some (.int .i64 dh):=(ak bF.out 0).trans rfl;have aaI:Xu.cell? ⟨cK,1,none⟩=some (.string cO):=(ak bF.out 1).trans rfl;have aaJ:Xu.cell? ⟨cK,2,none⟩=some (.string dz):=(ak bF.out 2).trans rfl;have aaK:Xu.cell? ⟨cK,3,none⟩=some (.int .i64 bX):=(ak bF.out 3).trans rfl;have aaL:Xu.cell? ⟨cK,4,none⟩=some (.slice (some nV) bQ.length eD):=(ak bF.out 4).trans rfl;have aaM:Xu.cell? ⟨cK,5,none⟩=some (.slice eB bU.length eu):=(ak bF.out 5).trans rfl;have aaN:=ay bF.out 0;have aaO:=ay bF.out 1;have aaP:=ay bF.out 2;have aaQ:=ay bF.out 3;have aaR:=ay bF.out 4;have aaS:=ay bF.out 5))
         go_ret
         exact⟨by first|rfl|(simp[aX,aY] <;> rfl)|(simp[*,aX,aY] <;> rfl),by repeat (first|(with_reducible first|exact HB.out|apply aH|apply av|apply aI|refine aR ?_ jT.out|refine aR ?_ Cu.out)|exact HB.out)⟩
        rw[if_neg c24] at H;have acy:decide ((wrap64 (Int.tdiv (wrap64 ((wrap64 (bX+512)) - 1)) 512))<((aK bQ gI).f1))=false:=decide_eq_false c24;clear c24;have H':=ah.mk H;clear H;have vK:0≤(gI:Int):=of_decide_eq_true bS;have vL:gI<(bQ.length:Int):=of_decide_eq_true bS;obtain⟨nV,MB,jh,ji⟩:=dP vw.out gI vK vL;cases MB;replace jh:=(HB.out.cell (World.block_lt_of_cell? w _ jh)).trans jh;replace ji:=(HB.out.cell (World.block_lt_of_cell? w _ ji)).trans ji;replace vK:=eq_true vK;replace vL:=eq_true vL
        go_wp2_with (first|((with_reducible refine fJ (N:=6) rfl ?_);refine fA ?hg (N:=6) ?hd (cs:=#[.int .i64 0,.int .i64 0]) (t:=117) ?hr ?_;(case hd=>rfl);(case hg=>rfl);(case hr=>first|(go_simp;done)|(go_simp;rfl));intro jk hg w29 eH hb;have fD:=ah.mk (aG (g:=cK) (o:=.cells #[.int .i64 dh,.string cO,.string dz,.int .i64 bX,.slice (some nV) bQ.length eD,.slice eB bU.length eu] 29 (0,0)) (by (with_reducible repeat (first|refine bD ?_ _|refine bI ?_|refine aM ?_ _));exact bF.out) hb);have gy:=ah.mk (bO (by repeat (first|(with_reducible first|exact HB.out|apply aH|apply av|apply aI|refine aR ?_ jT.out)|exact HB.out)) hb);have iE:=ah.mk (eH);have jS:=ah.mk ((by rw[hg];exact (bB (by repeat (first|(with_reducible first|exact HB.out|apply aH|apply av|apply aI|refine aR ?_ jT.out)|exact HB.out))):w.heap.size≤jk));have vB:=ah.mk ((by rw[hg];exact (bB (by repeat (first|(with_reducible first|exact HB.out|apply aH|apply av|apply aI|refine aR ?_ jT.out)|exact HB.out))):w.heap.size≤jk));have zF:=ah.mk ((by rw[hg];exact Nat.ne_of_lt (bE (g:=cK) (o:=.cells #[.int .i64 dh,.string cO,.string dz,.int .i64 bX,.slice (some nV) bQ.length eD,.slice eB bU.length eu] 29 (0,0)) (by (with_reducible repeat (first|refine bD ?_ _|refine bI ?_|refine aM ?_ _));exact bF.out)):cK≠jk));have BA:=ah.mk ((by rw[hg];exact Nat.ne_of_gt (bE (g:=cK) (o:=.cells #[.int .i64 dh,.string cO,.string dz,.int .i64 bX,.slice (some nV) bQ.length eD,.slice eB bU.length eu] 29 (0,0)) (by (with_reducible repeat (first|refine bD ?_ _|refine bI ?_|refine aM ?_ _));exact bF.out)):jk≠cK));clear bF;clear HB;have bF:=fD;have HB:=gy;have mD:=iE;have TW:=jS;have Cu:=vB;have kS:=zF;have nC:=BA;clear fD gy iE jS vB zF BA;clear hb eH hg;have aqM:=nC.out;have aqN:=kS.out;have aaT:w29.cell? ⟨jk,0,none⟩=some (.int .i64 0):=(ak mD.out 0).trans rfl;have aaU:w29.cell? ⟨jk,1,none⟩=some (.int .i64 0):=(ak mD.out 1).trans rfl;have aaV:=ay mD.out 0;have aaW:=ay mD.out 1;have aaX:w29.cell? ⟨cK,0,none⟩=some (.int .i64 dh):=(ak bF.out 0).trans rfl;have aaY:w29.cell? ⟨cK,1,none⟩=some (.string cO):=(ak bF.out 1).trans rfl;have aaZ:w29.cell? ⟨cK,2,none⟩=some (.string dz):=(ak bF.out 2).trans rfl;have aa0:w29.cell? ⟨cK,3,none⟩=some (.int .i64 bX):=(ak bF.out 3).trans rfl;have aa1:w29.cell? ⟨cK,4,none⟩=some (.slice (some nV) bQ.length eD):=(ak bF.out 4).trans rfl;have aa2:w29.cell? ⟨cK,5,none⟩=some (.slice eB bU.length eu):=(ak bF.out 5).trans rfl;have aa3:=ay bF.out 0;have aa4:=ay bF.out 1;have aa5:=ay bF.out 2;have aa6:=ay bF.out 3;have aa7:=ay bF.out 4;have aa8:=ay bF.out 5))
        go_roundg k2
        case measure=>have:=Wj.out;have:=jG.out;omega
        case rel=>exact⟨((aK bQ gI).f1),(wrap64 (Ct+(wrap64 (((aK bQ gI).f1) - ((aK bQ gI).f0))))),(wrap64 (gI+1)),eG,eG,eG,H',⟨by have:=Wj.out;have:=jG.out;omega⟩,⟨by (with_reducible repeat (first|refine bD ?_ _|refine bI ?_|refine aM ?_ _));refine iL ?_ kS.out _;(with_reducible repeat (first|refine bD ?_ _|refine bI ?_|refine aM ?_ _));refine iL ?_ kS.out _;(with_reducible repeat (first|refine bD ?_ _|refine bI ?_|refine aM ?_ _));exact bF.out⟩,⟨by repeat (first|(with_reducible first|exact HB.out|apply aH|apply av|apply aI|refine aR ?_ jT.out|refine aR ?_ Cu.out)|exact HB.out)⟩⟩
       rw[if_neg c11] at H;exact absurd H bK
      rw[if_neg c10] at H;exact absurd H bK
     rw[if_neg c9] at H;have LZ:decide (gI<(bQ.length:Int))=false:=decide_eq_false c9;clear c9
     by_cases c33:(bU.length:Int)=(wrap64 (Ct*512))
     ·rw[if_pos c33] at H;have acA:((bU.length:Int) == (wrap64 (Ct*512)))=true:=beq_iff_eq.mpr c33;have acB:((bU.length:Int) != (wrap64 (Ct*512)))=false:=bne_eq_false_iff_eq.mpr c33;clear c33;by_cases c34:Ct=0
      ·rw[if_pos c34] at H;have acC:(Ct == 0)=true:=beq_iff_eq.mpr c34;have acD:(Ct != 0)=false:=bne_eq_false_iff_eq.mpr c34;clear c34;obtain rfl:=Option.some.inj H;have aa9:wr.cell? ⟨cK,0,none⟩=some (.int .i64 dh):=(ak bF.out 0).trans rfl;have abb:wr.cell? ⟨cK,1,none⟩=some (.string cO):=(ak bF.out 1).trans rfl;have abd:wr.cell? ⟨cK,2,none⟩=some (.string dz):=(ak bF.out 2).trans rfl;have abe:wr.cell? ⟨cK,3,none⟩=some (.int .i64 bX):=(ak bF.out 3).trans rfl;have abf:wr.cell? ⟨cK,4,none⟩=some (.slice gF bQ.length eD):=(ak bF.out 4).trans rfl;have abg:wr.cell? ⟨cK,5,none⟩=some (.slice eB bU.length eu):=(ak bF.out 5).trans rfl;have abh:=ay bF.out 0;have abj:=ay bF.out 1;have abk:=ay bF.out 2;have abl:=ay bF.out 3;have abm:=ay bF.out 4;have abn:=ay bF.out 5
       go_wp2
       go_ret
       exact⟨by first|rfl|(simp[aX,aY] <;> rfl)|(simp[*,aX,aY] <;> rfl),by repeat (first|(with_reducible first|exact HB.out|apply aH|apply av|apply aI|refine aR ?_ jT.out)|exact HB.out)⟩
      rw[if_neg c34] at H;have acC:(Ct == 0)=false:=beq_eq_false_iff_ne.mpr c34;have acD:(Ct != 0)=true:=bne_iff_ne.mpr c34;have H':=ah.mk H;clear H;have abo:wr.cell? ⟨cK,0,none⟩=some (.int .i64 dh):=(ak bF.out 0).trans rfl;have abp:wr.cell? ⟨cK,1,none⟩=some (.string cO):=(ak bF.out 1).trans rfl;have abq:wr.cell? ⟨cK,2,none⟩=some (.string dz):=(ak bF.out 2).trans rfl;have abr:wr.cell? ⟨cK,3,none⟩=some (.int .i64 bX):=(ak bF.out 3).trans rfl;have abt:wr.cell? ⟨cK,4,none⟩=some (.slice gF bQ.length eD):=(ak bF.out 4).trans rfl;have abu:wr.cell? ⟨cK,5,none⟩=some (.slice eB bU.length eu):=(ak bF.out 5).trans rfl;have abv:=ay bF.out 0;have abw:=ay bF.out 1;have abx:=ay bF.out 2;have aby:=ay bF.out 3;have abz:=ay bF.out 4;have abA:=ay bF.out 5
      go_wp2
      go_loopg [7] k2 (fun kq v7 w'=>∃(Jw:Int),v7=.int .i64 Jw∧ah (aU.l1 kq qV Jw dh cO dz bX bQ bU=some r)∧ah (kq≤k2)∧ah (w'.heap[cK]?=some (.cells #[.int .i64 dh,.string cO,.string dz,.int .i64 bX,(.slice gF bQ.length eD),(.slice eB bU.length eu)] 29 (0,0)))∧ah (Below w.heap.size w w'))
      case atStart=>exact⟨(bX),eG,H',⟨Nat.le_refl _⟩,⟨by (with_reducible repeat (first|refine bD ?_ _|refine bI ?_|refine aM ?_ _));exact bF.out⟩,⟨by repeat (first|(with_reducible first|exact HB.out|apply aH|apply av|apply aI|refine aR ?_ jT.out)|exact HB.out)⟩⟩
      case round=>
       clear H'
       try clear c1
       try clear p1
       try clear q1
       try clear hx1
       try clear c2
       try clear p2
       try clear c3
       try clear c4
       try clear nL
       try clear p6
       try clear c7
       try clear c9
       try clear LZ
       try clear c10
       try clear GL
       try clear c11
       try clear Xq
       try clear c12
       try clear Hl
       try clear p13
       try clear q13
       try clear atq
       try clear c14
       try clear c16
       try clear acv
       try clear c18
       try clear c20
       try clear acw
       try clear c22
       try clear c24
       try clear acy
       try clear c26
       try clear c30
       try clear c33
       try clear acA
       try clear acB
       try clear c34
       try clear acC
       try clear acD
       try clear EL
       try clear EM
       try clear aav
       try clear aaw
       try clear aaz
       try clear aaA
       try clear aaD
       try clear aaE
       try clear aaH
       try clear aaI
       try clear aaJ
       try clear aaK
       try clear aaL
       try clear aaM
       try clear aaT
       try clear aaU
       try clear aaX
       try clear aaY
       try clear aaZ
       try clear aa0
       try clear aa1
       try clear aa2
       try clear aa9
       try clear abb
       try clear abd
       try clear abe
       try clear abf
       try clear abg
       try clear abo
       try clear abp
       try clear abq
       try clear abr
       try clear abt
       try clear abu
       try clear Ho
       try clear Hq
       try clear Hr
       try clear Ht
       try clear Hu
       try clear Hw
       try clear Ib
       try clear Ic
       try clear Ie
       try clear Ig
       try clear Ih
       try clear Ii
       try clear LC
       try clear LD
       try clear Qs
       try clear Qt
       try clear Qu
       try clear Qv
       try clear EN
       try clear EO
       try clear aax
       try clear aay
       try clear aaB
       try clear aaC
       try clear aaF
       try clear aaG
       try clear aaN
       try clear aaO
       try clear aaP
       try clear aaQ
       try clear aaR
       try clear aaS
       try clear aaV
       try clear aaW
       try clear aa3
       try clear aa4
       try clear aa5
       try clear aa6
       try clear aa7
       try clear aa8
       try clear abh
       try clear abj
       try clear abk
       try clear abl
       try clear abm
       try clear abn
       try clear abv
       try clear abw
       try clear abx
       try clear aby
       try clear abz
       try clear abA
       try clear Hy
       try clear Hz
       try clear H7
       try clear H8
       try clear H9
       try clear Ia
       try clear Ij
       try clear Ik
       try clear Il
       try clear Im
       try clear Io
       try clear Ip
       try clear LG
       try clear LH
       try clear Qw
       try clear Qx
       try clear Qy
       try clear Qz
       try clear jh
       try clear ji
       try clear vK
       try clear p2
       try clear vL
       obtain⟨Jw,rfl,HA,qQ,bF,HB⟩:=hrel
       cases gk with
       | zero=>exact absurd HA.out (by simp[aU.l1])
       | succ k3=>
        have H:=HA.out;clear HA;simp only[aU.l1] at H
        by_cases c37:Jw<(wrap64 (qV*512))
        ·rw[if_pos c37] at H;have aiI:decide (Jw<(wrap64 (qV*512)))=true:=decide_eq_true c37;clear c37
         obtain⟨wK,TY⟩:∃j_:Int,(wrap64 ((wrap64 ((bU.length:Int) - (wrap64 (qV*512))))+Jw))=j_:=⟨_,rfl⟩
         replace H:(if 0≤(wK) then (if (wK)<(bU.length:Int) then (if (rd bU (wK))=0 then (aU.l1 k3 qV (wrap64 (Jw+1)) dh cO dz bX bQ bU) else (some false)) else (none)) else (none))=some r:=by first|(rw[TY] at H;exact H)|(simp only[TY] at H ⊢;exact H)
         have aow:(IntKind.i64.wrap ((wrap64 ((bU.length:Int) - (wrap64 (qV*512))))+Jw))=wK:=(dn _).trans TY
         by_cases c39:0≤(wK)
         ·rw[if_pos c39] at H;have aqO:decide (0≤(wK))=true:=decide_eq_true c39;clear c39
          by_cases c40:(wK)<(bU.length:Int)
          ·rw[if_pos c40] at H;have aqP:decide ((wK)<(bU.length:Int))=true:=decide_eq_true c40;clear c40;by_cases c41:(rd bU (wK))=0
           ·rw[if_pos c41] at H;have aiJ:((rd bU (wK)) == 0)=true:=beq_iff_eq.mpr c41;have aiK:((rd bU (wK)) != 0)=false:=bne_eq_false_iff_eq.mpr c41;clear c41;have H':=ah.mk H;clear H;have aj8:wr.cell? ⟨cK,0,none⟩=some (.int .i64 dh):=(ak bF.out 0).trans rfl;have aj9:wr.cell? ⟨cK,1,none⟩=some (.string cO):=(ak bF.out 1).trans rfl;have akb:wr.cell? ⟨cK,2,none⟩=some (.string dz):=(ak bF.out 2).trans rfl;have akc:wr.cell? ⟨cK,3,none⟩=some (.int .i64 bX):=(ak bF.out 3).trans rfl;have akd:wr.cell? ⟨cK,4,none⟩=some (.slice gF bQ.length eD):=(ak bF.out 4).trans rfl;have ake:wr.cell? ⟨cK,5,none⟩=some (.slice eB bU.length eu):=(ak bF.out 5).trans rfl;have akf:=ay bF.out 0;have akg:=ay bF.out 1;have akh:=ay bF.out 2;have aki:=ay bF.out 3;have akj:=ay bF.out 4;have akk:=ay bF.out 5;have RQ:0≤((wK):Int):=of_decide_eq_true bS;have RS:(wK)<(bU.length:Int):=of_decide_eq_true bS;obtain⟨aiL,aeT,wL⟩:=Kd.qx Bw.out (wK) RQ RS;cases aeT;replace wL:=(HB.out.cell (World.block_lt_of_cell? w _ wL)).trans wL;replace RQ:=eq_true RQ;replace RS:=eq_true RS
            go_wp2
            go_roundg k3
            case measure=>have:=Wj.out;have:=jG.out;have:=qQ.out;omega
            case rel=>exact⟨(wrap64 (Jw+1)),eG,H',⟨by have:=Wj.out;have:=jG.out;have:=qQ.out;omega⟩,⟨by (with_reducible repeat (first|refine bD ?_ _|refine bI ?_|refine aM ?_ _));exact bF.out⟩,⟨by repeat (first|(with_reducible first|exact HB.out|apply aH|apply av|apply aI|refine aR ?_ jT.out)|exact HB.out)⟩⟩
           rw[if_neg c41] at H;have aiJ:((rd bU (wK)) == 0)=false:=beq_eq_false_iff_ne.mpr c41;have aiK:((rd bU (wK)) != 0)=true:=bne_iff_ne.mpr c41;obtain rfl:=Option.some.inj H;have akl:wr.cell? ⟨cK,0,none⟩=some (.int .i64 dh):=(ak bF.out 0).trans rfl;have akm:wr.cell? ⟨cK,1,none⟩=some (.string cO):=(ak bF.out 1).trans rfl;have akn:wr.cell? ⟨cK,2,none⟩=some (.string dz):=(ak bF.out 2).trans rfl;have ako:wr.cell? ⟨cK,3,none⟩=some (.int .i64 bX):=(ak bF.out 3).trans rfl;have akp:wr.cell? ⟨cK,4,none⟩=some (.slice gF bQ.length eD):=(ak bF.out 4).trans rfl;have akq:wr.cell? ⟨cK,5,none⟩=some (.slice eB bU.length eu):=(ak bF.out 5).trans rfl;have akr:=ay bF.out 0;have aks:=ay bF.out 1;have akt:=ay bF.out 2;have aku:=ay bF.out 3;have akv:=ay bF.out 4;have akw:=ay bF.out 5;have RQ:0≤((wK):Int):=of_decide_eq_true bS;have RS:(wK)<(bU.length:Int):=of_decide_eq_true bS;obtain⟨aiL,aeT,wL⟩:=Kd.qx Bw.out (wK) RQ RS;cases aeT;replace wL:=(HB.out.cell (World.block_lt_of_cell? w _ wL)).trans wL;replace RQ:=eq_true RQ;replace RS:=eq_true RS
           go_wp2
           go_ret
           exact⟨by first|rfl|(simp[aX,aY] <;> rfl)|(simp only[← TY];first|rfl|(simp[aX,aY] <;> rfl))|(simp[*,aX,aY] <;> rfl),by repeat (first|(with_reducible first|exact HB.out|apply aH|apply av|apply aI|refine aR ?_ jT.out)|exact HB.out)⟩
          rw[if_neg c40] at H;exact absurd H bK
         rw[if_neg c39] at H;exact absurd H bK
        rw[if_neg c37] at H;have aiI:decide (Jw<(wrap64 (qV*512)))=false:=decide_eq_false c37;clear c37;obtain rfl:=Option.some.inj H
        go_wp2
        go_ret
        exact⟨by first|rfl|(simp[aX,aY] <;> rfl)|(simp[*,aX,aY] <;> rfl),by repeat (first|(with_reducible first|exact HB.out|apply aH|apply av|apply aI|refine aR ?_ jT.out)|exact HB.out)⟩
     rw[if_neg c33] at H;have acA:((bU.length:Int) == (wrap64 (Ct*512)))=false:=beq_eq_false_iff_ne.mpr c33;have acB:((bU.length:Int) != (wrap64 (Ct*512)))=true:=bne_iff_ne.mpr c33;obtain rfl:=Option.some.inj H;have akx:wr.cell? ⟨cK,0,none⟩=some (.int .i64 dh):=(ak bF.out 0).trans rfl;have aky:wr.cell? ⟨cK,1,none⟩=some (.string cO):=(ak bF.out 1).trans rfl;have akz:wr.cell? ⟨cK,2,none⟩=some (.string dz):=(ak bF.out 2).trans rfl;have akA:wr.cell? ⟨cK,3,none⟩=some (.int .i64 bX):=(ak bF.out 3).trans rfl;have akB:wr.cell? ⟨cK,4,none⟩=some (.slice gF bQ.length eD):=(ak bF.out 4).trans rfl;have akC:wr.cell? ⟨cK,5,none⟩=some (.slice eB bU.length eu):=(ak bF.out 5).trans rfl;have akD:=ay bF.out 0;have akE:=ay bF.out 1;have akF:=ay bF.out 2;have akG:=ay bF.out 3;have akH:=ay bF.out 4;have akI:=ay bF.out 5
     go_wp2
     go_ret
     exact⟨by first|rfl|(simp[aX,aY] <;> rfl)|(simp[*,aX,aY] <;> rfl),by repeat (first|(with_reducible first|exact HB.out|apply aH|apply av|apply aI|refine aR ?_ jT.out)|exact HB.out)⟩
def dR.l0:Nat→List Int→Int→Int→Option (Int)
 | 0,_,_,_=>none
 | k+1,x0,x3,x5=>if x5<4 then (if 0≤(wrap64 ((wrap64 ((x0.length:Int) - 1)) - x5)) then (if (wrap64 ((wrap64 ((x0.length:Int) - 1)) - x5))<(x0.length:Int) then (dR.l0 k x0 (Go.bits .or .i64 (wrap64 (x3*256)) (wrap64 (rd x0 (wrap64 ((wrap64 ((x0.length:Int) - 1)) - x5))))) (wrap64 (x5+1))) else (none)) else (none)) else (some x3)
def dR.f (k:Nat) (l0:List Int):Option (Int):=dR.l0 k l0 0 0
theorem dR.fC:∀k,(∀y0 y1 y2,bW (dR.l0 k y0 y1 y2) (dR.l0 (k+1) y0 y1 y2))
 | 0=>fun _ _ _ r h=>by simp[dR.l0] at h
 | k+1=>by
  have j6:=dR.fC k
  ·intro y0 y1 y2;unfold dR.l0
   repeat' first
   | (with_reducible exact j6 _ _ _)
   | (with_reducible exact bW.refl _)
   | (with_reducible exact bW.none _)
   | (with_reducible refine bW.ite ?_ ?_)
   | (with_reducible refine bW.bind ?_ (fun _=>?_))
   | exact j6 _ _ _
   | exact bW.none _
   | refine bW.ite ?_ ?_
   | refine bW.bind ?_ (fun _=>?_)
theorem dR.mono:∀a0 k,bW (dR.f k a0) (dR.f (k+1) a0):=by
 intro a0 k;have j6:=dR.fC k;unfold dR.f
 repeat' first
   | (with_reducible exact j6 _ _ _)
   | (with_reducible exact bW.refl _)
   | (with_reducible exact bW.none _)
   | (with_reducible refine bW.ite ?_ ?_)
   | (with_reducible refine bW.bind ?_ (fun _=>?_))
   | exact j6 _ _ _
   | exact bW.none _
   | refine bW.ite ?_ ?_
   | refine bW.bind ?_ (fun _=>?_)
theorem dR.calls (k:Nat) (A0:Option Addr) (c0:Nat) (l0:List Int) (r:Int) (w:World) (hr0:Kd.C (Kd.int .u8) w A0 l0.length l0) (hc0:l0.length≤c0) (h:dR.f k l0=some r) :
  Calls Tryz.prog 49 #[.slice A0 l0.length c0] w fun e w'=>e=.returned (.int .i64 r)∧bH w w':=by
 have qP:=ah.mk hr0;have Qp:=ah.mk hc0;clear hr0 hc0;have H:(dR.l0 k l0 0 0)=some r:=h;clear h;have H':=ah.mk H;clear H
 go_enter Tryz.func49,Tryz.ntmps49
 go_wp2
 go_loopg [3,5] k (fun kq v3 v5 w'=>∃(nK:Int) (aZ:Int),v3=.int .i64 nK∧v5=.int .i64 aZ∧ah (dR.l0 kq l0 nK aZ=some r)∧ah (kq≤k)∧bH w w')
 case atStart=>exact⟨(0),(0),eG,eG,H',⟨Nat.le_refl _⟩,by repeat (first|exact bH.refl _|apply bH.step)⟩
 case round=>
  clear H';obtain⟨nK,aZ,rfl,rfl,HA,jY,⟨m1,rfl⟩⟩:=hrel
  cases gk with
  | zero=>exact absurd HA.out (by simp[dR.l0])
  | succ k1=>
   have H:=HA.out;clear HA;simp only[dR.l0] at H;by_cases c2:aZ<4
   ·rw[if_pos c2] at H;have Jh:decide (aZ<4)=true:=decide_eq_true c2;clear c2
    obtain⟨VI,abB⟩:∃j_:Int,(wrap64 ((wrap64 ((l0.length:Int) - 1)) - aZ))=j_:=⟨_,rfl⟩
    replace H:(if 0≤(VI) then (if (VI)<(l0.length:Int) then (dR.l0 k1 l0 (Go.bits .or .i64 (wrap64 (nK*256)) (wrap64 (rd l0 (VI)))) (wrap64 (aZ+1))) else (none)) else (none))=some r:=by first|(rw[abB] at H;exact H)|(simp only[abB] at H ⊢;exact H)
    have aqQ:(IntKind.i64.wrap ((wrap64 ((l0.length:Int) - 1)) - aZ))=VI:=(dn _).trans abB
    by_cases c4:0≤(VI)
    ·rw[if_pos c4] at H;have nL:decide (0≤(VI))=true:=decide_eq_true c4;clear c4
     by_cases c5:(VI)<(l0.length:Int)
     ·rw[if_pos c5] at H;have Gc:decide ((VI)<(l0.length:Int))=true:=decide_eq_true c5;clear c5;have H':=ah.mk H;clear H;have aeU:0≤((VI):Int):=of_decide_eq_true bS;have aeV:(VI)<(l0.length:Int):=of_decide_eq_true bS;obtain⟨aqR,aox,akJ⟩:=Kd.qx qP.out (VI) aeU aeV;cases aox;replace aeU:=eq_true aeU;replace aeV:=eq_true aeV
      go_wp2
      go_roundg k1
      case measure=>have:=jY.out;omega
      case rel=>exact⟨(Go.bits .or .i64 (wrap64 (nK*256)) (wrap64 (rd l0 (VI)))),(wrap64 (aZ+1)),(by first|rfl|(simp;done)|(simp only[← abB] <;> (first|rfl|simp))|(simp[*];done)),eG,H',⟨by have:=jY.out;omega⟩,by repeat (first|exact bH.refl _|apply bH.step)⟩
     rw[if_neg c5] at H;exact absurd H bK
    rw[if_neg c4] at H;exact absurd H bK
   rw[if_neg c2] at H;have Jh:decide (aZ<4)=false:=decide_eq_false c2;clear c2;obtain rfl:=Option.some.inj H
   go_wp2
   go_ret
   exact⟨by first|rfl|(simp;done)|(simp[*];done),by repeat (first|exact bH.refl _|apply bH.step)⟩
def bytes_Equal.f (l0:List Int) (l1:List Int):Option (Bool):=some ((strOfNums l0).toList == (strOfNums l1).toList)
theorem bytes_Equal.calls (A0:Option Addr) (c0:Nat) (l0:List Int) (A1:Option Addr) (c1:Nat) (l1:List Int) (r:Bool) (w:World) (hr0:Kd.C (Kd.int .u8) w A0 l0.length l0) (hc0:l0.length≤c0) (hr1:Kd.C (Kd.int .u8) w A1 l1.length l1) (hc1:l1.length≤c1) (h:bytes_Equal.f l0 l1=some r) :
  Calls Tryz.prog 62 #[.slice A0 l0.length c0,.slice A1 l1.length c1] w fun e w'=>e=.returned (.bool r)∧bH w w':=by
 have qP:=ah.mk hr0;have Qp:=ah.mk hc0;clear hr0 hc0;have HR1:=ah.mk hr1;have I8:=ah.mk hc1;clear hr1 hc1;have H:(some ((strOfNums l0).toList == (strOfNums l1).toList))=some r:=h;clear h;obtain rfl:=Option.some.inj H;have amS:=Kd.qH (P:=Tryz.prog) (A:=A0) (c:=c0) Tryz.underlying27 Tryz.underlying5 Tryz.underlying9 qP.out;have amT:=Kd.qH (P:=Tryz.prog) (A:=A1) (c:=c1) Tryz.underlying27 Tryz.underlying5 Tryz.underlying9 HR1.out
 go_enter Tryz.func62,Tryz.ntmps62
 go_wp2
 go_ret
 exact⟨by first|rfl|(simp;done)|(simp[*];done),by repeat (first|exact bH.refl _|apply bH.step)⟩
end Go.Proofs.YtknihldkhedpkaaGreatDoor.PT
