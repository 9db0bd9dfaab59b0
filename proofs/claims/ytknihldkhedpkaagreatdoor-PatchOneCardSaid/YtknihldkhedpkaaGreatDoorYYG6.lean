import Derived.Test.YtknihldkhedpkaaGreatDoorYYG1
set_option linter.all false
set_option maxHeartbeats 16000000
set_option maxRecDepth 100000
namespace Go.Proofs.YtknihldkhedpkaaGreatDoor.PT
open Go.RowKit Go.Proofs.YtknihldkhedpkaaGreatDoorW.PrintWords Go.Proofs.YtknihldkhedpkaaGreatDoorW.PrintLast Go.Proofs.YtknihldkhedpkaaGreatDoorW.PrintMore
attribute [local go_sem] nQ nR qz qA lU lV nS nT
mutual
def aQ.j0:Nat→Bool→Int→ByteArray→ByteArray→Int→List (dx)→List Int→Option (Bool)
 | 0,_,_,_,_,_,_,_=>none
 | k+1,x15,xW,xX,xY,sW,sZ,ny=>if x15=true then (some false) else (aQ.l0 k (-1) 0 sZ (sZ.length:Int) 0 xW xX xY sW sZ ny)
def aQ.l0:Nat→Int→Int→List (dx)→Int→Int→Int→ByteArray→ByteArray→Int→List (dx)→List Int→Option (Bool)
 | 0,_,_,_,_,_,_,_,_,_,_,_=>none
 | k+1,x3,x4,WJ,x18,Qb,xW,xX,xY,sW,sZ,ny=>if Qb<x18 then (if 0≤Qb then (if Qb<(WJ.length:Int) then (if ((aK WJ Qb).f0)<0 then (some false) else (if ((aK WJ Qb).f0)≤x3 then (some false) else (if ((aK WJ Qb).f1)≤((aK WJ Qb).f0) then (some false) else (if ((aK WJ Qb).f1) > (wrap64 (Int.tdiv (wrap64 ((wrap64 (sW+512)) - 1)) 512)) then (some false) else (aQ.l0 k ((aK WJ Qb).f1) (wrap64 (x4+(wrap64 (((aK WJ Qb).f1) - ((aK WJ Qb).f0))))) WJ x18 (wrap64 (Qb+1)) xW xX xY sW sZ ny))))) else (none)) else (none)) else (if (ny.length:Int)=(wrap64 (x4*512)) then (if x4=0 then (some true) else (aQ.l1 k x3 sW xW xX xY sW sZ ny)) else (some false))
def aQ.l1:Nat→Int→Int→Int→ByteArray→ByteArray→Int→List (dx)→List Int→Option (Bool)
 | 0,_,_,_,_,_,_,_,_=>none
 | k+1,x3,x7,xW,xX,xY,sW,sZ,ny=>if x7<(wrap64 (x3*512)) then (if 0≤(wrap64 ((wrap64 ((ny.length:Int) - (wrap64 (x3*512))))+x7)) then (if (wrap64 ((wrap64 ((ny.length:Int) - (wrap64 (x3*512))))+x7))<(ny.length:Int) then (if (rd ny (wrap64 ((wrap64 ((ny.length:Int) - (wrap64 (x3*512))))+x7)))=0 then (aQ.l1 k x3 (wrap64 (x7+1)) xW xX xY sW sZ ny) else (some false)) else (none)) else (none)) else (some true)
end
def aQ.f (k:Nat) (bY:Int) (bW:ByteArray) (cB:ByteArray) (bR:Int) (bN:List (dx)) (bO:List Int):Option (Bool):=if bR<0 then (aQ.j0 k true bY bW cB bR bN bO) else (aQ.j0 k (decide (bR > 8459264)) bY bW cB bR bN bO)
theorem aQ.eG:∀k,(∀y0 y1 y2 y3 y4 y5 y6,bQ (aQ.j0 k y0 y1 y2 y3 y4 y5 y6) (aQ.j0 (k+1) y0 y1 y2 y3 y4 y5 y6))∧(∀y0 y1 y2 y3 y4 y5 y6 y7 y8 y9 y10,bQ (aQ.l0 k y0 y1 y2 y3 y4 y5 y6 y7 y8 y9 y10) (aQ.l0 (k+1) y0 y1 y2 y3 y4 y5 y6 y7 y8 y9 y10))∧(∀y0 y1 y2 y3 y4 y5 y6 y7,bQ (aQ.l1 k y0 y1 y2 y3 y4 y5 y6 y7) (aQ.l1 (k+1) y0 y1 y2 y3 y4 y5 y6 y7))
 | 0=>⟨fun _ _ _ _ _ _ _ r h=>by simp[aQ.j0] at h,fun _ _ _ _ _ _ _ _ _ _ _ r h=>by simp[aQ.l0] at h,fun _ _ _ _ _ _ _ _ r h=>by simp[aQ.l1] at h⟩
 | k+1=>by
  obtain⟨jH,ih1,ih2⟩:=aQ.eG k;refine⟨?_,?_,?_⟩
  ·intro y0 y1 y2 y3 y4 y5 y6;unfold aQ.j0
   repeat' first
   | (with_reducible exact jH _ _ _ _ _ _ _)
   | (with_reducible exact ih1 _ _ _ _ _ _ _ _ _ _ _)
   | (with_reducible exact ih2 _ _ _ _ _ _ _ _)
   | (with_reducible exact bQ.refl _)
   | (with_reducible exact bQ.none _)
   | (with_reducible refine bQ.ite ?_ ?_)
   | (with_reducible refine bQ.bind ?_ (fun _=>?_))
   | exact jH _ _ _ _ _ _ _
   | exact ih1 _ _ _ _ _ _ _ _ _ _ _
   | exact ih2 _ _ _ _ _ _ _ _
   | exact bQ.none _
   | refine bQ.ite ?_ ?_
   | refine bQ.bind ?_ (fun _=>?_)
  ·intro y0 y1 y2 y3 y4 y5 y6 y7 y8 y9 y10;unfold aQ.l0
   repeat' first
   | (with_reducible exact jH _ _ _ _ _ _ _)
   | (with_reducible exact ih1 _ _ _ _ _ _ _ _ _ _ _)
   | (with_reducible exact ih2 _ _ _ _ _ _ _ _)
   | (with_reducible exact bQ.refl _)
   | (with_reducible exact bQ.none _)
   | (with_reducible refine bQ.ite ?_ ?_)
   | (with_reducible refine bQ.bind ?_ (fun _=>?_))
   | exact jH _ _ _ _ _ _ _
   | exact ih1 _ _ _ _ _ _ _ _ _ _ _
   | exact ih2 _ _ _ _ _ _ _ _
   | exact bQ.none _
   | refine bQ.ite ?_ ?_
   | refine bQ.bind ?_ (fun _=>?_)
  ·intro y0 y1 y2 y3 y4 y5 y6 y7;unfold aQ.l1
   repeat' first
   | (with_reducible exact jH _ _ _ _ _ _ _)
   | (with_reducible exact ih1 _ _ _ _ _ _ _ _ _ _ _)
   | (with_reducible exact ih2 _ _ _ _ _ _ _ _)
   | (with_reducible exact bQ.refl _)
   | (with_reducible exact bQ.none _)
   | (with_reducible refine bQ.ite ?_ ?_)
   | (with_reducible refine bQ.bind ?_ (fun _=>?_))
   | exact jH _ _ _ _ _ _ _
   | exact ih1 _ _ _ _ _ _ _ _ _ _ _
   | exact ih2 _ _ _ _ _ _ _ _
   | exact bQ.none _
   | refine bQ.ite ?_ ?_
   | refine bQ.bind ?_ (fun _=>?_)
theorem aQ.mono:∀a0 a1 a2 a3 a4 a5 k,bQ (aQ.f k a0 a1 a2 a3 a4 a5) (aQ.f (k+1) a0 a1 a2 a3 a4 a5):=by
 intro a0 a1 a2 a3 a4 a5 k;obtain⟨jH,ih1,ih2⟩:=aQ.eG k;unfold aQ.f
 repeat' first
   | (with_reducible exact jH _ _ _ _ _ _ _)
   | (with_reducible exact ih1 _ _ _ _ _ _ _ _ _ _ _)
   | (with_reducible exact ih2 _ _ _ _ _ _ _ _)
   | (with_reducible exact bQ.refl _)
   | (with_reducible exact bQ.none _)
   | (with_reducible refine bQ.ite ?_ ?_)
   | (with_reducible refine bQ.bind ?_ (fun _=>?_))
   | exact jH _ _ _ _ _ _ _
   | exact ih1 _ _ _ _ _ _ _ _ _ _ _
   | exact ih2 _ _ _ _ _ _ _ _
   | exact bQ.none _
   | refine bQ.ite ?_ ?_
   | refine bQ.bind ?_ (fun _=>?_)
theorem aQ.calls (k:Nat) (bY:Int) (bW:ByteArray) (cB:ByteArray) (bR:Int) (fO:Option Addr) (dU:Nat) (bN:List (dx)) (dS:Option Addr) (dQ:Nat) (bO:List Int) (r:Bool) (w:World) (o8:Kd.C cO w fO bN.length bN) (qy:bN.length≤dU) (p9:Kd.C (Kd.int .u8) w dS bO.length bO) (rY:bO.length≤dQ) (h:aQ.f k bY bW cB bR bN bO=some r) :
  Calls Tryz.prog 116 #[.agg #[.int .i64 bY,.string bW,.string cB,.int .i64 bR,.slice fO bN.length dU,.slice dS bO.length dQ]] w fun e w'=>e=.returned (.bool r)∧Below w.heap.size w w':=by
 have OT:=Tryz.underlying29;have QN:=Tryz.underlying117;have uE:=ah.mk o8;have CW:=ah.mk qy;clear o8 qy;have Ag:=ah.mk p9;have EZ:=ah.mk rY;clear p9 rY;have HB:=ah.mk (Below.refl w.heap.size w);have H:(if bR<0 then (aQ.j0 k true bY bW cB bR bN bO) else (aQ.j0 k (decide (bR > 8459264)) bY bW cB bR bN bO))=some r:=h;clear h;have Dn:=ah.mk H;clear H
 go_enter Tryz.func116,Tryz.ntmps116
 go_upto_region 1 with (first|((with_reducible refine eZ (N:=1) rfl ?_);refine eu ?hg (N:=1) ?hd (cs:=#[.int .i64 bY,.string bW,.string cB,.int .i64 bR,.slice fO bN.length dU,.slice dS bO.length dQ]) (t:=29) ?hr ?_;(case hd=>rfl);(case hg=>rfl);(case hr=>first|(go_simp;done)|(go_simp;rfl));intro bV hg w3 dV hb;have eF:=ah.mk (bM (by repeat (first|(with_reducible first|exact HB.out|apply ay|apply au|apply aA)|exact HB.out)) hb);have fG:=ah.mk (dV);have gN:=ah.mk ((by rw[hg];exact (bf (by repeat (first|(with_reducible first|exact HB.out|apply ay|apply au|apply aA)|exact HB.out))):w.heap.size≤bV));have jE:=ah.mk ((by rw[hg];exact (bf (by repeat (first|(with_reducible first|exact HB.out|apply ay|apply au|apply aA)|exact HB.out))):w.heap.size≤bV));clear HB;have HB:=eF;have bE:=fG;have anG:=gN;have jF:=jE;clear eF fG gN jE;clear hb dV hg))
 (try simp only[Act.put,aYa,aYb,aYc])
 go_cut [15] (fun v15 wc=>∃(kq:Nat) (RP:Bool),v15=.bool RP∧ah (aQ.j0 kq RP bY bW cB bR bN bO=some r)∧ah (kq≤k)∧ah (wc.heap[bV]?=some (.cells #[.int .i64 bY,.string bW,.string cB,.int .i64 bR,(.slice fO bN.length dU),(.slice dS bO.length dQ)] 29 (0,0)))∧ah (Below w.heap.size w wc))
 case first=>
  have H:=Dn.out;clear Dn;by_cases c4:bR<0
  ·rw[if_pos c4] at H;have mO:decide (bR<0)=true:=decide_eq_true c4;clear c4
   (first|rw[mO]|(simp only[aG,aH];rw[mO])|skip)
   have H':=ah.mk H;clear H;have F3:w3.cell? ⟨bV,0,none⟩=some (.int .i64 bY):=(ak bE.out 0).trans rfl;have F4:w3.cell? ⟨bV,1,none⟩=some (.string bW):=(ak bE.out 1).trans rfl;have F7:w3.cell? ⟨bV,2,none⟩=some (.string cB):=(ak bE.out 2).trans rfl;have F8:w3.cell? ⟨bV,3,none⟩=some (.int .i64 bR):=(ak bE.out 3).trans rfl;have F9:w3.cell? ⟨bV,4,none⟩=some (.slice fO bN.length dU):=(ak bE.out 4).trans rfl;have Ga:w3.cell? ⟨bV,5,none⟩=some (.slice dS bO.length dQ):=(ak bE.out 5).trans rfl;have Gb:=av bE.out 0;have Gc:=av bE.out 1;have Gd:=av bE.out 2;have Gf:=av bE.out 3;have Gg:=av bE.out 4;have Gh:=av bE.out 5
   go_wp2
   go_meet
   case rel=>exact⟨_,(true),(by first|rfl|(simp;done)|(simp[*];done)),H',⟨by first|omega|exact Nat.le_refl _⟩,⟨by (with_reducible repeat (first|refine bB ?_ _|refine bG ?_|refine aJ ?_ _));exact bE.out⟩,⟨by repeat (first|(with_reducible first|exact HB.out|apply ay|apply au|apply aA|refine aN ?_ jF.out)|exact HB.out)⟩⟩
  ·rw[if_neg c4] at H;have mO:decide (bR<0)=false:=decide_eq_false c4;clear c4
   (first|rw[mO]|(simp only[aG,aH];rw[mO])|skip)
   have H':=ah.mk H;clear H;have Gi:w3.cell? ⟨bV,0,none⟩=some (.int .i64 bY):=(ak bE.out 0).trans rfl;have Gj:w3.cell? ⟨bV,1,none⟩=some (.string bW):=(ak bE.out 1).trans rfl;have Gl:w3.cell? ⟨bV,2,none⟩=some (.string cB):=(ak bE.out 2).trans rfl;have Gm:w3.cell? ⟨bV,3,none⟩=some (.int .i64 bR):=(ak bE.out 3).trans rfl;have Gn:w3.cell? ⟨bV,4,none⟩=some (.slice fO bN.length dU):=(ak bE.out 4).trans rfl;have Gp:w3.cell? ⟨bV,5,none⟩=some (.slice dS bO.length dQ):=(ak bE.out 5).trans rfl;have Gq:=av bE.out 0;have Gr:=av bE.out 1;have Gs:=av bE.out 2;have Gt:=av bE.out 3;have Gu:=av bE.out 4;have Gv:=av bE.out 5
   go_wp2
   go_meet
   case rel=>exact⟨_,(decide (bR > 8459264)),(by first|rfl|(simp;done)|(simp[*];done)),H',⟨by first|omega|exact Nat.le_refl _⟩,⟨by (with_reducible repeat (first|refine bB ?_ _|refine bG ?_|refine aJ ?_ _));exact bE.out⟩,⟨by repeat (first|(with_reducible first|exact HB.out|apply ay|apply au|apply aA|refine aN ?_ jF.out)|exact HB.out)⟩⟩
 case rest=>
  clear Dn
  try clear c1
  try clear p2
  try clear c4
  try clear mO
  try clear F3
  try clear F4
  try clear F7
  try clear F8
  try clear F9
  try clear Ga
  try clear Gi
  try clear Gj
  try clear Gl
  try clear Gm
  try clear Gn
  try clear Gp
  try clear Gb
  try clear Gc
  try clear Gd
  try clear Gf
  try clear Gg
  try clear Gh
  try clear Gq
  try clear Gr
  try clear Gs
  try clear Gt
  try clear Gu
  try clear Gv
  obtain⟨kq,RP,rfl,HA,Ux,bE,HB⟩:=hcut
  cases kq with
  | zero=>exact absurd HA.out (by simp[aQ.j0])
  | succ TU=>
   have H:=HA.out;clear HA;simp only[aQ.j0] at H;by_cases c7:RP=true
   ·subst c7
    have H1:(some false)=some r:=by rw[if_pos rfl] at H;exact H
    clear H;have H:=H1;clear H1;obtain rfl:=Option.some.inj H
    go_wp2
    go_ret
    exact⟨by first|rfl|(simp[aU,aV] <;> rfl)|(simp[*,aU,aV] <;> rfl),by repeat (first|(with_reducible first|exact HB.out|apply ay|apply au|apply aA|refine aN ?_ jF.out)|exact HB.out)⟩
   ·replace c7:=Bool.eq_false_iff.mpr c7;subst c7
    have H1:(aQ.l0 TU (-1) 0 bN (bN.length:Int) 0 bY bW cB bR bN bO)=some r:=by rw[if_neg (show ¬(false=true) by decide)] at H;exact H
    clear H;have H:=H1;clear H1;have H':=ah.mk H;clear H;have Ku:wc.cell? ⟨bV,0,none⟩=some (.int .i64 bY):=(ak bE.out 0).trans rfl;have Kv:wc.cell? ⟨bV,1,none⟩=some (.string bW):=(ak bE.out 1).trans rfl;have OV:wc.cell? ⟨bV,2,none⟩=some (.string cB):=(ak bE.out 2).trans rfl;have OW:wc.cell? ⟨bV,3,none⟩=some (.int .i64 bR):=(ak bE.out 3).trans rfl;have OX:wc.cell? ⟨bV,4,none⟩=some (.slice fO bN.length dU):=(ak bE.out 4).trans rfl;have OY:wc.cell? ⟨bV,5,none⟩=some (.slice dS bO.length dQ):=(ak bE.out 5).trans rfl;have Kw:=av bE.out 0;have Ky:=av bE.out 1;have OZ:=av bE.out 2;have O4:=av bE.out 3;have O5:=av bE.out 4;have O6:=av bE.out 5
    go_wp2
    go_loopg [3,4,19] TU (fun kq v3 v4 v19 w'=>∃(ql:Int) (Bj:Int) (fQ:Int),v3=.int .i64 ql∧v4=.int .i64 Bj∧v19=.int .i64 fQ∧ah (aQ.l0 kq ql Bj bN (bN.length:Int) fQ bY bW cB bR bN bO=some r)∧ah (kq≤TU)∧ah (w'.heap[bV]?=some (.cells #[.int .i64 bY,.string bW,.string cB,.int .i64 bR,(.slice fO bN.length dU),(.slice dS bO.length dQ)] 29 (0,0)))∧ah (Below w.heap.size w w'))
    case atStart=>exact⟨((-1)),(0),(0),(by first|rfl|(simp;done)|(simp[*];done)),(by first|rfl|(simp;done)|(simp[*];done)),(by first|rfl|(simp;done)|(simp[*];done)),H',⟨Nat.le_refl _⟩,⟨by (with_reducible repeat (first|refine bB ?_ _|refine bG ?_|refine aJ ?_ _));exact bE.out⟩,⟨by repeat (first|(with_reducible first|exact HB.out|apply ay|apply au|apply aA|refine aN ?_ jF.out)|exact HB.out)⟩⟩
    case round=>
     clear H'
     try clear c1
     try clear p2
     try clear c4
     try clear mO
     try clear c7
     try clear F3
     try clear F4
     try clear F7
     try clear F8
     try clear F9
     try clear Ga
     try clear Gi
     try clear Gj
     try clear Gl
     try clear Gm
     try clear Gn
     try clear Gp
     try clear Ku
     try clear Kv
     try clear OV
     try clear OW
     try clear OX
     try clear OY
     try clear Gb
     try clear Gc
     try clear Gd
     try clear Gf
     try clear Gg
     try clear Gh
     try clear Gq
     try clear Gr
     try clear Gs
     try clear Gt
     try clear Gu
     try clear Gv
     try clear Kw
     try clear Ky
     try clear OZ
     try clear O4
     try clear O5
     try clear O6
     try clear p2
     obtain⟨ql,Bj,fQ,rfl,rfl,rfl,HA,iK,bE,HB⟩:=hrel
     cases gk with
     | zero=>exact absurd HA.out (by simp[aQ.l0])
     | succ k2=>
      have H:=HA.out;clear HA;simp only[aQ.l0] at H
      by_cases c9:fQ<(bN.length:Int)
      ·rw[if_pos c9] at H;have KI:decide (fQ<(bN.length:Int))=true:=decide_eq_true c9;clear c9;by_cases c10:0≤fQ
       ·rw[if_pos c10] at H;have FE:decide (0≤fQ)=true:=decide_eq_true c10;clear c10
        by_cases c11:fQ<(bN.length:Int)
        ·rw[if_pos c11] at H;have Vv:decide (fQ<(bN.length:Int))=true:=decide_eq_true c11;clear c11;by_cases c12:((aK bN fQ).f0)<0
         ·rw[if_pos c12] at H;have FZ:decide (((aK bN fQ).f0)<0)=true:=decide_eq_true c12;clear c12;obtain rfl:=Option.some.inj H;have uN:0≤(fQ:Int):=of_decide_eq_true (by first|(with_reducible assumption)|assumption);have uO:fQ<(bN.length:Int):=of_decide_eq_true (by first|(with_reducible assumption)|assumption);obtain⟨mZ,KY,iM,iN⟩:=dK uE.out fQ uN uO;cases KY;replace iM:=(HB.out.cell (World.block_lt_of_cell? w _ iM)).trans iM;replace iN:=(HB.out.cell (World.block_lt_of_cell? w _ iN)).trans iN;replace uN:=eq_true uN;replace uO:=eq_true uO
          go_wp2_with (first|((with_reducible refine eZ (N:=6) rfl ?_);refine eu ?hg (N:=6) ?hd (cs:=#[.int .i64 0,.int .i64 0]) (t:=117) ?hr ?_;(case hd=>rfl);(case hg=>rfl);(case hr=>first|(go_simp;done)|(go_simp;rfl));intro iO hg w13 dV hb;have eF:=ah.mk (aD (g:=bV) (o:=.cells #[.int .i64 bY,.string bW,.string cB,.int .i64 bR,.slice (some mZ) bN.length dU,.slice dS bO.length dQ] 29 (0,0)) (by (with_reducible repeat (first|refine bB ?_ _|refine bG ?_|refine aJ ?_ _));exact bE.out) hb);have fG:=ah.mk (bM (by repeat (first|(with_reducible first|exact HB.out|apply ay|apply au|apply aA|refine aN ?_ jF.out)|exact HB.out)) hb);have gN:=ah.mk (dV);have jE:=ah.mk ((by rw[hg];exact (bf (by repeat (first|(with_reducible first|exact HB.out|apply ay|apply au|apply aA|refine aN ?_ jF.out)|exact HB.out))):w.heap.size≤iO));have uF:=ah.mk ((by rw[hg];exact (bf (by repeat (first|(with_reducible first|exact HB.out|apply ay|apply au|apply aA|refine aN ?_ jF.out)|exact HB.out))):w.heap.size≤iO));have yE:=ah.mk ((by rw[hg];exact Nat.ne_of_lt (bD (g:=bV) (o:=.cells #[.int .i64 bY,.string bW,.string cB,.int .i64 bR,.slice (some mZ) bN.length dU,.slice dS bO.length dQ] 29 (0,0)) (by (with_reducible repeat (first|refine bB ?_ _|refine bG ?_|refine aJ ?_ _));exact bE.out)):bV≠iO));have Ai:=ah.mk ((by rw[hg];exact Nat.ne_of_gt (bD (g:=bV) (o:=.cells #[.int .i64 bY,.string bW,.string cB,.int .i64 bR,.slice (some mZ) bN.length dU,.slice dS bO.length dQ] 29 (0,0)) (by (with_reducible repeat (first|refine bB ?_ _|refine bG ?_|refine aJ ?_ _));exact bE.out)):iO≠bV));clear bE;clear HB;have bE:=eF;have HB:=fG;have lD:=gN;have RQ:=jE;have Bl:=uF;have j4:=yE;have mo:=Ai;clear eF fG gN jE uF yE Ai;clear hb dV hg;have anH:=mo.out;have anI:=j4.out;have DL:w13.cell? ⟨iO,0,none⟩=some (.int .i64 0):=(ak lD.out 0).trans rfl;have DN:w13.cell? ⟨iO,1,none⟩=some (.int .i64 0):=(ak lD.out 1).trans rfl;have DR:=av lD.out 0;have DT:=av lD.out 1))
          go_ret
          exact⟨by first|rfl|(simp[aU,aV] <;> rfl)|(simp[*,aU,aV] <;> rfl),by repeat (first|(with_reducible first|exact HB.out|apply ay|apply au|apply aA|refine aN ?_ jF.out|refine aN ?_ Bl.out)|exact HB.out)⟩
         ·rw[if_neg c12] at H;have FZ:decide (((aK bN fQ).f0)<0)=false:=decide_eq_false c12;clear c12;by_cases c16:((aK bN fQ).f0)≤ql
          ·rw[if_pos c16] at H;have aaN:decide (((aK bN fQ).f0)≤ql)=true:=decide_eq_true c16;clear c16;obtain rfl:=Option.some.inj H;have uN:0≤(fQ:Int):=of_decide_eq_true (by first|(with_reducible assumption)|assumption);have uO:fQ<(bN.length:Int):=of_decide_eq_true (by first|(with_reducible assumption)|assumption);obtain⟨mZ,KY,iM,iN⟩:=dK uE.out fQ uN uO;cases KY;replace iM:=(HB.out.cell (World.block_lt_of_cell? w _ iM)).trans iM;replace iN:=(HB.out.cell (World.block_lt_of_cell? w _ iN)).trans iN;replace uN:=eq_true uN;replace uO:=eq_true uO
           go_wp2_with (first|((with_reducible refine eZ (N:=6) rfl ?_);refine eu ?hg (N:=6) ?hd (cs:=#[.int .i64 0,.int .i64 0]) (t:=117) ?hr ?_;(case hd=>rfl);(case hg=>rfl);(case hr=>first|(go_simp;done)|(go_simp;rfl));intro iO hg w17 dV hb;have eF:=ah.mk (aD (g:=bV) (o:=.cells #[.int .i64 bY,.string bW,.string cB,.int .i64 bR,.slice (some mZ) bN.length dU,.slice dS bO.length dQ] 29 (0,0)) (by (with_reducible repeat (first|refine bB ?_ _|refine bG ?_|refine aJ ?_ _));exact bE.out) hb);have fG:=ah.mk (bM (by repeat (first|(with_reducible first|exact HB.out|apply ay|apply au|apply aA|refine aN ?_ jF.out)|exact HB.out)) hb);have gN:=ah.mk (dV);have jE:=ah.mk ((by rw[hg];exact (bf (by repeat (first|(with_reducible first|exact HB.out|apply ay|apply au|apply aA|refine aN ?_ jF.out)|exact HB.out))):w.heap.size≤iO));have uF:=ah.mk ((by rw[hg];exact (bf (by repeat (first|(with_reducible first|exact HB.out|apply ay|apply au|apply aA|refine aN ?_ jF.out)|exact HB.out))):w.heap.size≤iO));have yE:=ah.mk ((by rw[hg];exact Nat.ne_of_lt (bD (g:=bV) (o:=.cells #[.int .i64 bY,.string bW,.string cB,.int .i64 bR,.slice (some mZ) bN.length dU,.slice dS bO.length dQ] 29 (0,0)) (by (with_reducible repeat (first|refine bB ?_ _|refine bG ?_|refine aJ ?_ _));exact bE.out)):bV≠iO));have Ai:=ah.mk ((by rw[hg];exact Nat.ne_of_gt (bD (g:=bV) (o:=.cells #[.int .i64 bY,.string bW,.string cB,.int .i64 bR,.slice (some mZ) bN.length dU,.slice dS bO.length dQ] 29 (0,0)) (by (with_reducible repeat (first|refine bB ?_ _|refine bG ?_|refine aJ ?_ _));exact bE.out)):iO≠bV));clear bE;clear HB;have bE:=eF;have HB:=fG;have lD:=gN;have RQ:=jE;have Bl:=uF;have j4:=yE;have mo:=Ai;clear eF fG gN jE uF yE Ai;clear hb dV hg;have anJ:=mo.out;have anK:=j4.out;have YL:w17.cell? ⟨iO,0,none⟩=some (.int .i64 0):=(ak lD.out 0).trans rfl;have YM:w17.cell? ⟨iO,1,none⟩=some (.int .i64 0):=(ak lD.out 1).trans rfl;have YN:=av lD.out 0;have YO:=av lD.out 1))
           go_ret
           exact⟨by first|rfl|(simp[aU,aV] <;> rfl)|(simp[*,aU,aV] <;> rfl),by repeat (first|(with_reducible first|exact HB.out|apply ay|apply au|apply aA|refine aN ?_ jF.out|refine aN ?_ Bl.out)|exact HB.out)⟩
          ·rw[if_neg c16] at H;have aaN:decide (((aK bN fQ).f0)≤ql)=false:=decide_eq_false c16;clear c16
           by_cases c20:((aK bN fQ).f1)≤((aK bN fQ).f0)
           ·rw[if_pos c20] at H;have aaO:decide (((aK bN fQ).f1)≤((aK bN fQ).f0))=true:=decide_eq_true c20;clear c20;obtain rfl:=Option.some.inj H;have uN:0≤(fQ:Int):=of_decide_eq_true (by first|(with_reducible assumption)|assumption);have uO:fQ<(bN.length:Int):=of_decide_eq_true (by first|(with_reducible assumption)|assumption);obtain⟨mZ,KY,iM,iN⟩:=dK uE.out fQ uN uO;cases KY;replace iM:=(HB.out.cell (World.block_lt_of_cell? w _ iM)).trans iM;replace iN:=(HB.out.cell (World.block_lt_of_cell? w _ iN)).trans iN;replace uN:=eq_true uN;replace uO:=eq_true uO
            go_wp2_with (first|((with_reducible refine eZ (N:=6) rfl ?_);refine eu ?hg (N:=6) ?hd (cs:=#[.int .i64 0,.int .i64 0]) (t:=117) ?hr ?_;(case hd=>rfl);(case hg=>rfl);(case hr=>first|(go_simp;done)|(go_simp;rfl));intro iO hg w21 dV hb;have eF:=ah.mk (aD (g:=bV) (o:=.cells #[.int .i64 bY,.string bW,.string cB,.int .i64 bR,.slice (some mZ) bN.length dU,.slice dS bO.length dQ] 29 (0,0)) (by (with_reducible repeat (first|refine bB ?_ _|refine bG ?_|refine aJ ?_ _));exact bE.out) hb);have fG:=ah.mk (bM (by repeat (first|(with_reducible first|exact HB.out|apply ay|apply au|apply aA|refine aN ?_ jF.out)|exact HB.out)) hb);have gN:=ah.mk (dV);have jE:=ah.mk ((by rw[hg];exact (bf (by repeat (first|(with_reducible first|exact HB.out|apply ay|apply au|apply aA|refine aN ?_ jF.out)|exact HB.out))):w.heap.size≤iO));have uF:=ah.mk ((by rw[hg];exact (bf (by repeat (first|(with_reducible first|exact HB.out|apply ay|apply au|apply aA|refine aN ?_ jF.out)|exact HB.out))):w.heap.size≤iO));have yE:=ah.mk ((by rw[hg];exact Nat.ne_of_lt (bD (g:=bV) (o:=.cells #[.int .i64 bY,.string bW,.string cB,.int .i64 bR,.slice (some mZ) bN.length dU,.slice dS bO.length dQ] 29 (0,0)) (by (with_reducible repeat (first|refine bB ?_ _|refine bG ?_|refine aJ ?_ _));exact bE.out)):bV≠iO));have Ai:=ah.mk ((by rw[hg];exact Nat.ne_of_gt (bD (g:=bV) (o:=.cells #[.int .i64 bY,.string bW,.string cB,.int .i64 bR,.slice (some mZ) bN.length dU,.slice dS bO.length dQ] 29 (0,0)) (by (with_reducible repeat (first|refine bB ?_ _|refine bG ?_|refine aJ ?_ _));exact bE.out)):iO≠bV));clear bE;clear HB;have bE:=eF;have HB:=fG;have lD:=gN;have RQ:=jE;have Bl:=uF;have j4:=yE;have mo:=Ai;clear eF fG gN jE uF yE Ai;clear hb dV hg;have anM:=mo.out;have anN:=j4.out;have YP:w21.cell? ⟨iO,0,none⟩=some (.int .i64 0):=(ak lD.out 0).trans rfl;have YQ:w21.cell? ⟨iO,1,none⟩=some (.int .i64 0):=(ak lD.out 1).trans rfl;have YR:=av lD.out 0;have YS:=av lD.out 1))
            go_ret
            exact⟨by first|rfl|(simp[aU,aV] <;> rfl)|(simp[*,aU,aV] <;> rfl),by repeat (first|(with_reducible first|exact HB.out|apply ay|apply au|apply aA|refine aN ?_ jF.out|refine aN ?_ Bl.out)|exact HB.out)⟩
           ·rw[if_neg c20] at H;have aaO:decide (((aK bN fQ).f1)≤((aK bN fQ).f0))=false:=decide_eq_false c20;clear c20
            by_cases c24:((aK bN fQ).f1) > (wrap64 (Int.tdiv (wrap64 ((wrap64 (bR+512)) - 1)) 512))
            ·rw[if_pos c24] at H;have aaP:decide ((wrap64 (Int.tdiv (wrap64 ((wrap64 (bR+512)) - 1)) 512))<((aK bN fQ).f1))=true:=decide_eq_true c24;clear c24;obtain rfl:=Option.some.inj H;have uN:0≤(fQ:Int):=of_decide_eq_true (by first|(with_reducible assumption)|assumption);have uO:fQ<(bN.length:Int):=of_decide_eq_true (by first|(with_reducible assumption)|assumption);obtain⟨mZ,KY,iM,iN⟩:=dK uE.out fQ uN uO;cases KY;replace iM:=(HB.out.cell (World.block_lt_of_cell? w _ iM)).trans iM;replace iN:=(HB.out.cell (World.block_lt_of_cell? w _ iN)).trans iN;replace uN:=eq_true uN;replace uO:=eq_true uO
             go_wp2_with (first|((with_reducible refine eZ (N:=6) rfl ?_);refine eu ?hg (N:=6) ?hd (cs:=#[.int .i64 0,.int .i64 0]) (t:=117) ?hr ?_;(case hd=>rfl);(case hg=>rfl);(case hr=>first|(go_simp;done)|(go_simp;rfl));intro iO hg Yp dV hb;have eF:=ah.mk (aD (g:=bV) (o:=.cells #[.int .i64 bY,.string bW,.string cB,.int .i64 bR,.slice (some mZ) bN.length dU,.slice dS bO.length dQ] 29 (0,0)) (by (with_reducible repeat (first|refine bB ?_ _|refine bG ?_|refine aJ ?_ _));exact bE.out) hb);have fG:=ah.mk (bM (by repeat (first|(with_reducible first|exact HB.out|apply ay|apply au|apply aA|refine aN ?_ jF.out)|exact HB.out)) hb);have gN:=ah.mk (dV);have jE:=ah.mk ((by rw[hg];exact (bf (by repeat (first|(with_reducible first|exact HB.out|apply ay|apply au|apply aA|refine aN ?_ jF.out)|exact HB.out))):w.heap.size≤iO));have uF:=ah.mk ((by rw[hg];exact (bf (by repeat (first|(with_reducible first|exact HB.out|apply ay|apply au|apply aA|refine aN ?_ jF.out)|exact HB.out))):w.heap.size≤iO));have yE:=ah.mk ((by rw[hg];exact Nat.ne_of_lt (bD (g:=bV) (o:=.cells #[.int .i64 bY,.string bW,.string cB,.int .i64 bR,.slice (some mZ) bN.length dU,.slice dS bO.length dQ] 29 (0,0)) (by (with_reducible repeat (first|refine bB ?_ _|refine bG ?_|refine aJ ?_ _));exact bE.out)):bV≠iO));have Ai:=ah.mk ((by rw[hg];exact Nat.ne_of_gt (bD (g:=bV) (o:=.cells #[.int .i64 bY,.string bW,.string cB,.int .i64 bR,.slice (some mZ) bN.length dU,.slice dS bO.length dQ] 29 (0,0)) (by (with_reducible repeat (first|refine bB ?_ _|refine bG ?_|refine aJ ?_ _));exact bE.out)):iO≠bV));clear bE;clear HB;have bE:=eF;have HB:=fG;have lD:=gN;have RQ:=jE;have Bl:=uF;have j4:=yE;have mo:=Ai;clear eF fG gN jE uF yE Ai;clear hb dV hg;have anO:=mo.out;have anP:=j4.out;have YT:Yp.cell? ⟨iO,0,none⟩=some (.int .i64 0):=(ak lD.out 0).trans rfl;have YU:Yp.cell? ⟨iO,1,none⟩=some (.int .i64 0):=(ak lD.out 1).trans rfl;have YV:=av lD.out 0;have YW:=av lD.out 1;have YX:Yp.cell? ⟨bV,0,none⟩=some (.int .i64 bY):=(ak bE.out 0).trans rfl;have YZ:Yp.cell? ⟨bV,1,none⟩=some (.string bW):=(ak bE.out 1).trans rfl;have Y0:Yp.cell? ⟨bV,2,none⟩=some (.string cB):=(ak bE.out 2).trans rfl;have Y1:Yp.cell? ⟨bV,3,none⟩=some (.int .i64 bR):=(ak bE.out 3).trans rfl;have Y2:Yp.cell? ⟨bV,4,none⟩=some (.slice (some mZ) bN.length dU):=(ak bE.out 4).trans rfl;have Y3:Yp.cell? ⟨bV,5,none⟩=some (.slice dS bO.length dQ):=(ak bE.out 5).trans rfl;have Y6:=av bE.out 0;have Y7:=av bE.out 1;have Y8:=av bE.out 2;have Y9:=av bE.out 3;have Za:=av bE.out 4;have Zb:=av bE.out 5))
             go_ret
             exact⟨by first|rfl|(simp[aU,aV] <;> rfl)|(simp[*,aU,aV] <;> rfl),by repeat (first|(with_reducible first|exact HB.out|apply ay|apply au|apply aA|refine aN ?_ jF.out|refine aN ?_ Bl.out)|exact HB.out)⟩
            ·rw[if_neg c24] at H;have aaP:decide ((wrap64 (Int.tdiv (wrap64 ((wrap64 (bR+512)) - 1)) 512))<((aK bN fQ).f1))=false:=decide_eq_false c24;clear c24;have H':=ah.mk H;clear H;have uN:0≤(fQ:Int):=of_decide_eq_true (by first|(with_reducible assumption)|assumption);have uO:fQ<(bN.length:Int):=of_decide_eq_true (by first|(with_reducible assumption)|assumption);obtain⟨mZ,KY,iM,iN⟩:=dK uE.out fQ uN uO;cases KY;replace iM:=(HB.out.cell (World.block_lt_of_cell? w _ iM)).trans iM;replace iN:=(HB.out.cell (World.block_lt_of_cell? w _ iN)).trans iN;replace uN:=eq_true uN;replace uO:=eq_true uO
             go_wp2_with (first|((with_reducible refine eZ (N:=6) rfl ?_);refine eu ?hg (N:=6) ?hd (cs:=#[.int .i64 0,.int .i64 0]) (t:=117) ?hr ?_;(case hd=>rfl);(case hg=>rfl);(case hr=>first|(go_simp;done)|(go_simp;rfl));intro iO hg w29 dV hb;have eF:=ah.mk (aD (g:=bV) (o:=.cells #[.int .i64 bY,.string bW,.string cB,.int .i64 bR,.slice (some mZ) bN.length dU,.slice dS bO.length dQ] 29 (0,0)) (by (with_reducible repeat (first|refine bB ?_ _|refine bG ?_|refine aJ ?_ _));exact bE.out) hb);have fG:=ah.mk (bM (by repeat (first|(with_reducible first|exact HB.out|apply ay|apply au|apply aA|refine aN ?_ jF.out)|exact HB.out)) hb);have gN:=ah.mk (dV);have jE:=ah.mk ((by rw[hg];exact (bf (by repeat (first|(with_reducible first|exact HB.out|apply ay|apply au|apply aA|refine aN ?_ jF.out)|exact HB.out))):w.heap.size≤iO));have uF:=ah.mk ((by rw[hg];exact (bf (by repeat (first|(with_reducible first|exact HB.out|apply ay|apply au|apply aA|refine aN ?_ jF.out)|exact HB.out))):w.heap.size≤iO));have yE:=ah.mk ((by rw[hg];exact Nat.ne_of_lt (bD (g:=bV) (o:=.cells #[.int .i64 bY,.string bW,.string cB,.int .i64 bR,.slice (some mZ) bN.length dU,.slice dS bO.length dQ] 29 (0,0)) (by (with_reducible repeat (first|refine bB ?_ _|refine bG ?_|refine aJ ?_ _));exact bE.out)):bV≠iO));have Ai:=ah.mk ((by rw[hg];exact Nat.ne_of_gt (bD (g:=bV) (o:=.cells #[.int .i64 bY,.string bW,.string cB,.int .i64 bR,.slice (some mZ) bN.length dU,.slice dS bO.length dQ] 29 (0,0)) (by (with_reducible repeat (first|refine bB ?_ _|refine bG ?_|refine aJ ?_ _));exact bE.out)):iO≠bV));clear bE;clear HB;have bE:=eF;have HB:=fG;have lD:=gN;have RQ:=jE;have Bl:=uF;have j4:=yE;have mo:=Ai;clear eF fG gN jE uF yE Ai;clear hb dV hg;have anQ:=mo.out;have anR:=j4.out;have Zc:w29.cell? ⟨iO,0,none⟩=some (.int .i64 0):=(ak lD.out 0).trans rfl;have Zd:w29.cell? ⟨iO,1,none⟩=some (.int .i64 0):=(ak lD.out 1).trans rfl;have Ze:=av lD.out 0;have Zf:=av lD.out 1;have Zg:w29.cell? ⟨bV,0,none⟩=some (.int .i64 bY):=(ak bE.out 0).trans rfl;have Zh:w29.cell? ⟨bV,1,none⟩=some (.string bW):=(ak bE.out 1).trans rfl;have Zi:w29.cell? ⟨bV,2,none⟩=some (.string cB):=(ak bE.out 2).trans rfl;have Zj:w29.cell? ⟨bV,3,none⟩=some (.int .i64 bR):=(ak bE.out 3).trans rfl;have Zk:w29.cell? ⟨bV,4,none⟩=some (.slice (some mZ) bN.length dU):=(ak bE.out 4).trans rfl;have Zl:w29.cell? ⟨bV,5,none⟩=some (.slice dS bO.length dQ):=(ak bE.out 5).trans rfl;have Zm:=av bE.out 0;have Zn:=av bE.out 1;have Zo:=av bE.out 2;have Zp:=av bE.out 3;have Zq:=av bE.out 4;have Zr:=av bE.out 5))
             go_roundg k2
             case measure=>have:=Ux.out;have:=iK.out;omega
             case rel=>exact⟨((aK bN fQ).f1),(wrap64 (Bj+(wrap64 (((aK bN fQ).f1) - ((aK bN fQ).f0))))),(wrap64 (fQ+1)),(by first|rfl|(simp;done)|(simp[*];done)),(by first|rfl|(simp;done)|(simp[*];done)),(by first|rfl|(simp;done)|(simp[*];done)),H',⟨by have:=Ux.out;have:=iK.out;omega⟩,⟨by (with_reducible repeat (first|refine bB ?_ _|refine bG ?_|refine aJ ?_ _));refine gX ?_ j4.out _;(with_reducible repeat (first|refine bB ?_ _|refine bG ?_|refine aJ ?_ _));refine gX ?_ j4.out _;(with_reducible repeat (first|refine bB ?_ _|refine bG ?_|refine aJ ?_ _));exact bE.out⟩,⟨by repeat (first|(with_reducible first|exact HB.out|apply ay|apply au|apply aA|refine aN ?_ jF.out|refine aN ?_ Bl.out)|exact HB.out)⟩⟩
        ·rw[if_neg c11] at H;exact absurd H (by simp)
       ·rw[if_neg c10] at H;exact absurd H (by simp)
      ·rw[if_neg c9] at H;have KI:decide (fQ<(bN.length:Int))=false:=decide_eq_false c9;clear c9
       by_cases c33:(bO.length:Int)=(wrap64 (Bj*512))
       ·rw[if_pos c33] at H;have aaS:((bO.length:Int) == (wrap64 (Bj*512)))=true:=beq_iff_eq.mpr c33;have aaT:((bO.length:Int) != (wrap64 (Bj*512)))=false:=bne_eq_false_iff_eq.mpr c33;clear c33;by_cases c34:Bj=0
        ·rw[if_pos c34] at H;have aaU:(Bj == 0)=true:=beq_iff_eq.mpr c34;have aaV:(Bj != 0)=false:=bne_eq_false_iff_eq.mpr c34;clear c34;obtain rfl:=Option.some.inj H;have Zt:wr.cell? ⟨bV,0,none⟩=some (.int .i64 bY):=(ak bE.out 0).trans rfl;have Zu:wr.cell? ⟨bV,1,none⟩=some (.string bW):=(ak bE.out 1).trans rfl;have Zv:wr.cell? ⟨bV,2,none⟩=some (.string cB):=(ak bE.out 2).trans rfl;have Zw:wr.cell? ⟨bV,3,none⟩=some (.int .i64 bR):=(ak bE.out 3).trans rfl;have Zx:wr.cell? ⟨bV,4,none⟩=some (.slice fO bN.length dU):=(ak bE.out 4).trans rfl;have Zy:wr.cell? ⟨bV,5,none⟩=some (.slice dS bO.length dQ):=(ak bE.out 5).trans rfl;have Zz:=av bE.out 0;have ZA:=av bE.out 1;have ZB:=av bE.out 2;have ZC:=av bE.out 3;have ZE:=av bE.out 4;have ZF:=av bE.out 5
         go_wp2
         go_ret
         exact⟨by first|rfl|(simp[aU,aV] <;> rfl)|(simp[*,aU,aV] <;> rfl),by repeat (first|(with_reducible first|exact HB.out|apply ay|apply au|apply aA|refine aN ?_ jF.out)|exact HB.out)⟩
        ·rw[if_neg c34] at H;have aaU:(Bj == 0)=false:=beq_eq_false_iff_ne.mpr c34;have aaV:(Bj != 0)=true:=bne_iff_ne.mpr c34;have H':=ah.mk H;clear H;have ZG:wr.cell? ⟨bV,0,none⟩=some (.int .i64 bY):=(ak bE.out 0).trans rfl;have ZH:wr.cell? ⟨bV,1,none⟩=some (.string bW):=(ak bE.out 1).trans rfl;have ZI:wr.cell? ⟨bV,2,none⟩=some (.string cB):=(ak bE.out 2).trans rfl;have ZJ:wr.cell? ⟨bV,3,none⟩=some (.int .i64 bR):=(ak bE.out 3).trans rfl;have ZK:wr.cell? ⟨bV,4,none⟩=some (.slice fO bN.length dU):=(ak bE.out 4).trans rfl;have ZL:wr.cell? ⟨bV,5,none⟩=some (.slice dS bO.length dQ):=(ak bE.out 5).trans rfl;have ZM:=av bE.out 0;have ZN:=av bE.out 1;have ZO:=av bE.out 2;have ZP:=av bE.out 3;have ZQ:=av bE.out 4;have ZR:=av bE.out 5
         go_wp2
         go_loopg [7] k2 (fun kq v7 w'=>∃(Io:Int),v7=.int .i64 Io∧ah (aQ.l1 kq ql Io bY bW cB bR bN bO=some r)∧ah (kq≤k2)∧ah (w'.heap[bV]?=some (.cells #[.int .i64 bY,.string bW,.string cB,.int .i64 bR,(.slice fO bN.length dU),(.slice dS bO.length dQ)] 29 (0,0)))∧ah (Below w.heap.size w w'))
         case atStart=>exact⟨(bR),(by first|rfl|(simp;done)|(simp[*];done)),H',⟨Nat.le_refl _⟩,⟨by (with_reducible repeat (first|refine bB ?_ _|refine bG ?_|refine aJ ?_ _));exact bE.out⟩,⟨by repeat (first|(with_reducible first|exact HB.out|apply ay|apply au|apply aA|refine aN ?_ jF.out)|exact HB.out)⟩⟩
         case round=>
          clear H'
          try clear c1
          try clear p1
          try clear q1
          try clear hx1
          try clear c2
          try clear p2
          try clear c3
          try clear c4
          try clear mO
          try clear p6
          try clear c7
          try clear c9
          try clear KI
          try clear c10
          try clear FE
          try clear c11
          try clear Vv
          try clear c12
          try clear FZ
          try clear p13
          try clear q13
          try clear ap9
          try clear c14
          try clear c16
          try clear aaN
          try clear c18
          try clear c20
          try clear aaO
          try clear c22
          try clear c24
          try clear aaP
          try clear c26
          try clear c30
          try clear c33
          try clear aaS
          try clear aaT
          try clear c34
          try clear aaU
          try clear aaV
          try clear DL
          try clear DN
          try clear YL
          try clear YM
          try clear YP
          try clear YQ
          try clear YT
          try clear YU
          try clear YX
          try clear YZ
          try clear Y0
          try clear Y1
          try clear Y2
          try clear Y3
          try clear Zc
          try clear Zd
          try clear Zg
          try clear Zh
          try clear Zi
          try clear Zj
          try clear Zk
          try clear Zl
          try clear Zt
          try clear Zu
          try clear Zv
          try clear Zw
          try clear Zx
          try clear Zy
          try clear ZG
          try clear ZH
          try clear ZI
          try clear ZJ
          try clear ZK
          try clear ZL
          try clear F3
          try clear F4
          try clear F7
          try clear F8
          try clear F9
          try clear Ga
          try clear Gi
          try clear Gj
          try clear Gl
          try clear Gm
          try clear Gn
          try clear Gp
          try clear Ku
          try clear Kv
          try clear OV
          try clear OW
          try clear OX
          try clear OY
          try clear DR
          try clear DT
          try clear YN
          try clear YO
          try clear YR
          try clear YS
          try clear YV
          try clear YW
          try clear Y6
          try clear Y7
          try clear Y8
          try clear Y9
          try clear Za
          try clear Zb
          try clear Ze
          try clear Zf
          try clear Zm
          try clear Zn
          try clear Zo
          try clear Zp
          try clear Zq
          try clear Zr
          try clear Zz
          try clear ZA
          try clear ZB
          try clear ZC
          try clear ZE
          try clear ZF
          try clear ZM
          try clear ZN
          try clear ZO
          try clear ZP
          try clear ZQ
          try clear ZR
          try clear Gb
          try clear Gc
          try clear Gd
          try clear Gf
          try clear Gg
          try clear Gh
          try clear Gq
          try clear Gr
          try clear Gs
          try clear Gt
          try clear Gu
          try clear Gv
          try clear Kw
          try clear Ky
          try clear OZ
          try clear O4
          try clear O5
          try clear O6
          try clear iM
          try clear iN
          try clear uN
          try clear p2
          try clear uO
          obtain⟨Io,rfl,HA,qg,bE,HB⟩:=hrel
          cases gk with
          | zero=>exact absurd HA.out (by simp[aQ.l1])
          | succ k3=>
           have H:=HA.out;clear HA;simp only[aQ.l1] at H
           by_cases c37:Io<(wrap64 (ql*512))
           ·rw[if_pos c37] at H;have agj:decide (Io<(wrap64 (ql*512)))=true:=decide_eq_true c37;clear c37
            obtain⟨vI,RS⟩:∃j_:Int,(wrap64 ((wrap64 ((bO.length:Int) - (wrap64 (ql*512))))+Io))=j_:=⟨_,rfl⟩
            replace H:(if 0≤(vI) then (if (vI)<(bO.length:Int) then (if (rd bO (vI))=0 then (aQ.l1 k3 ql (wrap64 (Io+1)) bY bW cB bR bN bO) else (some false)) else (none)) else (none))=some r:=by first|(rw[RS] at H;exact H)|(simp only[RS] at H ⊢;exact H)
            have alD:(IntKind.i64.wrap ((wrap64 ((bO.length:Int) - (wrap64 (ql*512))))+Io))=vI:=(aG _).trans RS
            by_cases c39:0≤(vI)
            ·rw[if_pos c39] at H;have anS:decide (0≤(vI))=true:=decide_eq_true c39;clear c39
             by_cases c40:(vI)<(bO.length:Int)
             ·rw[if_pos c40] at H;have anT:decide ((vI)<(bO.length:Int))=true:=decide_eq_true c40;clear c40;by_cases c41:(rd bO (vI))=0
              ·rw[if_pos c41] at H;have agk:((rd bO (vI)) == 0)=true:=beq_iff_eq.mpr c41;have agl:((rd bO (vI)) != 0)=false:=bne_eq_false_iff_eq.mpr c41;clear c41;have H':=ah.mk H;clear H;have ahG:wr.cell? ⟨bV,0,none⟩=some (.int .i64 bY):=(ak bE.out 0).trans rfl;have ahH:wr.cell? ⟨bV,1,none⟩=some (.string bW):=(ak bE.out 1).trans rfl;have ahI:wr.cell? ⟨bV,2,none⟩=some (.string cB):=(ak bE.out 2).trans rfl;have ahJ:wr.cell? ⟨bV,3,none⟩=some (.int .i64 bR):=(ak bE.out 3).trans rfl;have ahK:wr.cell? ⟨bV,4,none⟩=some (.slice fO bN.length dU):=(ak bE.out 4).trans rfl;have ahL:wr.cell? ⟨bV,5,none⟩=some (.slice dS bO.length dQ):=(ak bE.out 5).trans rfl;have ahM:=av bE.out 0;have ahN:=av bE.out 1;have ahO:=av bE.out 2;have ahP:=av bE.out 3;have ahQ:=av bE.out 4;have ahR:=av bE.out 5;have Qj:0≤((vI):Int):=of_decide_eq_true (by first|(with_reducible assumption)|assumption);have Qk:(vI)<(bO.length:Int):=of_decide_eq_true (by first|(with_reducible assumption)|assumption);obtain⟨agm,acT,vJ⟩:=Kd.rU Ag.out (vI) Qj Qk;cases acT;replace vJ:=(HB.out.cell (World.block_lt_of_cell? w _ vJ)).trans vJ;replace Qj:=eq_true Qj;replace Qk:=eq_true Qk
               go_wp2
               go_roundg k3
               case measure=>have:=Ux.out;have:=iK.out;have:=qg.out;omega
               case rel=>exact⟨(wrap64 (Io+1)),(by first|rfl|(simp;done)|(simp[*];done)),H',⟨by have:=Ux.out;have:=iK.out;have:=qg.out;omega⟩,⟨by (with_reducible repeat (first|refine bB ?_ _|refine bG ?_|refine aJ ?_ _));exact bE.out⟩,⟨by repeat (first|(with_reducible first|exact HB.out|apply ay|apply au|apply aA|refine aN ?_ jF.out)|exact HB.out)⟩⟩
              ·rw[if_neg c41] at H;have agk:((rd bO (vI)) == 0)=false:=beq_eq_false_iff_ne.mpr c41;have agl:((rd bO (vI)) != 0)=true:=bne_iff_ne.mpr c41;obtain rfl:=Option.some.inj H;have ahS:wr.cell? ⟨bV,0,none⟩=some (.int .i64 bY):=(ak bE.out 0).trans rfl;have ahT:wr.cell? ⟨bV,1,none⟩=some (.string bW):=(ak bE.out 1).trans rfl;have ahU:wr.cell? ⟨bV,2,none⟩=some (.string cB):=(ak bE.out 2).trans rfl;have ahV:wr.cell? ⟨bV,3,none⟩=some (.int .i64 bR):=(ak bE.out 3).trans rfl;have ahW:wr.cell? ⟨bV,4,none⟩=some (.slice fO bN.length dU):=(ak bE.out 4).trans rfl;have ahX:wr.cell? ⟨bV,5,none⟩=some (.slice dS bO.length dQ):=(ak bE.out 5).trans rfl;have ahY:=av bE.out 0;have ahZ:=av bE.out 1;have ah0:=av bE.out 2;have ah1:=av bE.out 3;have ah2:=av bE.out 4;have ah3:=av bE.out 5;have Qj:0≤((vI):Int):=of_decide_eq_true (by first|(with_reducible assumption)|assumption);have Qk:(vI)<(bO.length:Int):=of_decide_eq_true (by first|(with_reducible assumption)|assumption);obtain⟨agm,acT,vJ⟩:=Kd.rU Ag.out (vI) Qj Qk;cases acT;replace vJ:=(HB.out.cell (World.block_lt_of_cell? w _ vJ)).trans vJ;replace Qj:=eq_true Qj;replace Qk:=eq_true Qk
               go_wp2
               go_ret
               exact⟨by first|rfl|(simp[aU,aV] <;> rfl)|(simp only[← RS];first|rfl|(simp[aU,aV] <;> rfl))|(simp[*,aU,aV] <;> rfl),by repeat (first|(with_reducible first|exact HB.out|apply ay|apply au|apply aA|refine aN ?_ jF.out)|exact HB.out)⟩
             ·rw[if_neg c40] at H;exact absurd H (by simp)
            ·rw[if_neg c39] at H;exact absurd H (by simp)
           ·rw[if_neg c37] at H;have agj:decide (Io<(wrap64 (ql*512)))=false:=decide_eq_false c37;clear c37;obtain rfl:=Option.some.inj H
            go_wp2
            go_ret
            exact⟨by first|rfl|(simp[aU,aV] <;> rfl)|(simp[*,aU,aV] <;> rfl),by repeat (first|(with_reducible first|exact HB.out|apply ay|apply au|apply aA|refine aN ?_ jF.out)|exact HB.out)⟩
       ·rw[if_neg c33] at H;have aaS:((bO.length:Int) == (wrap64 (Bj*512)))=false:=beq_eq_false_iff_ne.mpr c33;have aaT:((bO.length:Int) != (wrap64 (Bj*512)))=true:=bne_iff_ne.mpr c33;obtain rfl:=Option.some.inj H;have ah4:wr.cell? ⟨bV,0,none⟩=some (.int .i64 bY):=(ak bE.out 0).trans rfl;have ah5:wr.cell? ⟨bV,1,none⟩=some (.string bW):=(ak bE.out 1).trans rfl;have ah6:wr.cell? ⟨bV,2,none⟩=some (.string cB):=(ak bE.out 2).trans rfl;have ah7:wr.cell? ⟨bV,3,none⟩=some (.int .i64 bR):=(ak bE.out 3).trans rfl;have ah8:wr.cell? ⟨bV,4,none⟩=some (.slice fO bN.length dU):=(ak bE.out 4).trans rfl;have ah9:wr.cell? ⟨bV,5,none⟩=some (.slice dS bO.length dQ):=(ak bE.out 5).trans rfl;have aia:=av bE.out 0;have aib:=av bE.out 1;have aic:=av bE.out 2;have aie:=av bE.out 3;have aif:=av bE.out 4;have aii:=av bE.out 5
        go_wp2
        go_ret
        exact⟨by first|rfl|(simp[aU,aV] <;> rfl)|(simp[*,aU,aV] <;> rfl),by repeat (first|(with_reducible first|exact HB.out|apply ay|apply au|apply aA|refine aN ?_ jF.out)|exact HB.out)⟩
def dH.l0:Nat→List Int→Int→Int→Option (Int)
 | 0,_,_,_=>none
 | k+1,x0,x3,x5=>if x5<4 then (if 0≤(wrap64 ((wrap64 ((x0.length:Int) - 1)) - x5)) then (if (wrap64 ((wrap64 ((x0.length:Int) - 1)) - x5))<(x0.length:Int) then (dH.l0 k x0 (Go.bits .or .i64 (wrap64 (x3*256)) (wrap64 (rd x0 (wrap64 ((wrap64 ((x0.length:Int) - 1)) - x5))))) (wrap64 (x5+1))) else (none)) else (none)) else (some x3)
def dH.f (k:Nat) (l0:List Int):Option (Int):=dH.l0 k l0 0 0
theorem dH.eG:∀k,(∀y0 y1 y2,bQ (dH.l0 k y0 y1 y2) (dH.l0 (k+1) y0 y1 y2))
 | 0=>fun _ _ _ r h=>by simp[dH.l0] at h
 | k+1=>by
  have jH:=dH.eG k
  ·intro y0 y1 y2;unfold dH.l0
   repeat' first
   | (with_reducible exact jH _ _ _)
   | (with_reducible exact bQ.refl _)
   | (with_reducible exact bQ.none _)
   | (with_reducible refine bQ.ite ?_ ?_)
   | (with_reducible refine bQ.bind ?_ (fun _=>?_))
   | exact jH _ _ _
   | exact bQ.none _
   | refine bQ.ite ?_ ?_
   | refine bQ.bind ?_ (fun _=>?_)
theorem dH.mono:∀a0 k,bQ (dH.f k a0) (dH.f (k+1) a0):=by
 intro a0 k;have jH:=dH.eG k;unfold dH.f
 repeat' first
   | (with_reducible exact jH _ _ _)
   | (with_reducible exact bQ.refl _)
   | (with_reducible exact bQ.none _)
   | (with_reducible refine bQ.ite ?_ ?_)
   | (with_reducible refine bQ.bind ?_ (fun _=>?_))
   | exact jH _ _ _
   | exact bQ.none _
   | refine bQ.ite ?_ ?_
   | refine bQ.bind ?_ (fun _=>?_)
theorem dH.calls (k:Nat) (A0:Option Addr) (c0:Nat) (l0:List Int) (r:Int) (w:World) (hr0:Kd.C (Kd.int .u8) w A0 l0.length l0) (hc0:l0.length≤c0) (h:dH.f k l0=some r) :
  Calls Tryz.prog 49 #[.slice A0 l0.length c0] w fun e w'=>e=.returned (.int .i64 r)∧bF w w':=by
 have pQ:=ah.mk hr0;have OL:=ah.mk hc0;clear hr0 hc0;have H:(dH.l0 k l0 0 0)=some r:=h;clear h;have H':=ah.mk H;clear H
 go_enter Tryz.func49,Tryz.ntmps49
 go_wp2
 go_loopg [3,5] k (fun kq v3 v5 w'=>∃(mM:Int) (aW:Int),v3=.int .i64 mM∧v5=.int .i64 aW∧ah (dH.l0 kq l0 mM aW=some r)∧ah (kq≤k)∧bF w w')
 case atStart=>exact⟨(0),(0),(by first|rfl|(simp;done)|(simp[*];done)),(by first|rfl|(simp;done)|(simp[*];done)),H',⟨Nat.le_refl _⟩,by repeat (first|exact bF.refl _|apply bF.step)⟩
 case round=>
  clear H';obtain⟨mM,aW,rfl,rfl,HA,jC,⟨m1,rfl⟩⟩:=hrel
  cases gk with
  | zero=>exact absurd HA.out (by simp[dH.l0])
  | succ k1=>
   have H:=HA.out;clear HA;simp only[dH.l0] at H;by_cases c2:aW<4
   ·rw[if_pos c2] at H;have H9:decide (aW<4)=true:=decide_eq_true c2;clear c2
    obtain⟨TV,ZT⟩:∃j_:Int,(wrap64 ((wrap64 ((l0.length:Int) - 1)) - aW))=j_:=⟨_,rfl⟩
    replace H:(if 0≤(TV) then (if (TV)<(l0.length:Int) then (dH.l0 k1 l0 (Go.bits .or .i64 (wrap64 (mM*256)) (wrap64 (rd l0 (TV)))) (wrap64 (aW+1))) else (none)) else (none))=some r:=by first|(rw[ZT] at H;exact H)|(simp only[ZT] at H ⊢;exact H)
    have anU:(IntKind.i64.wrap ((wrap64 ((l0.length:Int) - 1)) - aW))=TV:=(aG _).trans ZT
    by_cases c4:0≤(TV)
    ·rw[if_pos c4] at H;have mO:decide (0≤(TV))=true:=decide_eq_true c4;clear c4
     by_cases c5:(TV)<(l0.length:Int)
     ·rw[if_pos c5] at H;have ER:decide ((TV)<(l0.length:Int))=true:=decide_eq_true c5;clear c5;have H':=ah.mk H;clear H;have acU:0≤((TV):Int):=of_decide_eq_true (by first|(with_reducible assumption)|assumption);have acV:(TV)<(l0.length:Int):=of_decide_eq_true (by first|(with_reducible assumption)|assumption);obtain⟨anV,alE,aij⟩:=Kd.rU pQ.out (TV) acU acV;cases alE;replace acU:=eq_true acU;replace acV:=eq_true acV
      go_wp2
      go_roundg k1
      case measure=>have:=jC.out;omega
      case rel=>exact⟨(Go.bits .or .i64 (wrap64 (mM*256)) (wrap64 (rd l0 (TV)))),(wrap64 (aW+1)),(by first|rfl|(simp;done)|(simp only[← ZT] <;> (first|rfl|simp))|(simp[*];done)),(by first|rfl|(simp;done)|(simp[*];done)),H',⟨by have:=jC.out;omega⟩,by repeat (first|exact bF.refl _|apply bF.step)⟩
     ·rw[if_neg c5] at H;exact absurd H (by simp)
    ·rw[if_neg c4] at H;exact absurd H (by simp)
   ·rw[if_neg c2] at H;have H9:decide (aW<4)=false:=decide_eq_false c2;clear c2;obtain rfl:=Option.some.inj H
    go_wp2
    go_ret
    exact⟨by first|rfl|(simp;done)|(simp[*];done),by repeat (first|exact bF.refl _|apply bF.step)⟩
def bytes_Equal.f (l0:List Int) (l1:List Int):Option (Bool):=some ((strOfNums l0).toList == (strOfNums l1).toList)
theorem bytes_Equal.calls (A0:Option Addr) (c0:Nat) (l0:List Int) (A1:Option Addr) (c1:Nat) (l1:List Int) (r:Bool) (w:World) (hr0:Kd.C (Kd.int .u8) w A0 l0.length l0) (hc0:l0.length≤c0) (hr1:Kd.C (Kd.int .u8) w A1 l1.length l1) (hc1:l1.length≤c1) (h:bytes_Equal.f l0 l1=some r) :
  Calls Tryz.prog 62 #[.slice A0 l0.length c0,.slice A1 l1.length c1] w fun e w'=>e=.returned (.bool r)∧bF w w':=by
 have pQ:=ah.mk hr0;have OL:=ah.mk hc0;clear hr0 hc0;have HR1:=ah.mk hr1;have Hl:=ah.mk hc1;clear hr1 hc1;have H:(some ((strOfNums l0).toList == (strOfNums l1).toList))=some r:=h;clear h;obtain rfl:=Option.some.inj H;have aj2:=Kd.pW (P:=Tryz.prog) (A:=A0) (c:=c0) Tryz.underlying27 Tryz.underlying5 Tryz.underlying9 pQ.out;have aj3:=Kd.pW (P:=Tryz.prog) (A:=A1) (c:=c1) Tryz.underlying27 Tryz.underlying5 Tryz.underlying9 HR1.out
 go_enter Tryz.func62,Tryz.ntmps62
 go_wp2
 go_ret
 exact⟨by first|rfl|(simp;done)|(simp[*];done),by repeat (first|exact bF.refl _|apply bF.step)⟩
end Go.Proofs.YtknihldkhedpkaaGreatDoor.PT
