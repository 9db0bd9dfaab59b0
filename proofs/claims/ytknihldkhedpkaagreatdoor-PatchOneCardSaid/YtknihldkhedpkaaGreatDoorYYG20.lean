import Derived.Test.YtknihldkhedpkaaGreatDoorYYG1
import Derived.Test.YtknihldkhedpkaaGreatDoorYYG2
import Derived.Test.YtknihldkhedpkaaGreatDoorYYG10
import Derived.Test.YtknihldkhedpkaaGreatDoorYYG7
set_option linter.all false
set_option maxHeartbeats 16000000
set_option maxRecDepth 100000
section
namespace Go.Proofs.YtknihldkhedpkaaGreatDoor.PT
open Go.RowKit Go.Proofs.YtknihldkhedpkaaGreatDoorW.PrintWords Go.Proofs.YtknihldkhedpkaaGreatDoorW.PrintLast Go.Proofs.YtknihldkhedpkaaGreatDoorW.PrintMore
attribute [local go_sem] nQ nR qz qA lU lV nS nT
mutual
def aX.l0:Nat→List Int→Int→Int→Option (Int)
 | 0,_,_,_=>none
 | k+1,x0,x3,x4=>if x4<(x0.length:Int) then (if 0≤x4 then (aX.l1 k x0 (Go.bits .xor .i64 x3 (wrap64 (rd x0 x4))) x4 0) else (none)) else (some (Go.bits .xor .i64 x3 4294967295))
def aX.l1:Nat→List Int→Int→Int→Int→Option (Int)
 | 0,_,_,_,_=>none
 | k+1,x0,x3,x4,x5=>if x5<8 then (if (Int.tmod x3 2)=1 then (aX.l1 k x0 (Go.bits .xor .i64 (wrap64 (Int.tdiv x3 2)) 2197175160) x4 (wrap64 (x5+1))) else (aX.l1 k x0 (wrap64 (Int.tdiv x3 2)) x4 (wrap64 (x5+1)))) else (aX.l0 k x0 x3 (wrap64 (x4+1)))
end
def aX.f (k:Nat) (l0:List Int):Option (Int):=aX.l0 k l0 4294967295 0
theorem aX.eG:∀k,(∀y0 y1 y2,bQ (aX.l0 k y0 y1 y2) (aX.l0 (k+1) y0 y1 y2))∧(∀y0 y1 y2 y3,bQ (aX.l1 k y0 y1 y2 y3) (aX.l1 (k+1) y0 y1 y2 y3))
 | 0=>⟨fun _ _ _ r h=>by simp[aX.l0] at h,fun _ _ _ _ r h=>by simp[aX.l1] at h⟩
 | k+1=>by
  obtain⟨jH,ih1⟩:=aX.eG k;refine⟨?_,?_⟩
  ·intro y0 y1 y2;unfold aX.l0
   repeat' first
   | (with_reducible exact jH _ _ _)
   | (with_reducible exact ih1 _ _ _ _)
   | (with_reducible exact bQ.refl _)
   | (with_reducible exact bQ.none _)
   | (with_reducible refine bQ.ite ?_ ?_)
   | (with_reducible refine bQ.bind ?_ (fun _=>?_))
   | exact jH _ _ _
   | exact ih1 _ _ _ _
   | exact bQ.none _
   | refine bQ.ite ?_ ?_
   | refine bQ.bind ?_ (fun _=>?_)
  ·intro y0 y1 y2 y3;unfold aX.l1
   repeat' first
   | (with_reducible exact jH _ _ _)
   | (with_reducible exact ih1 _ _ _ _)
   | (with_reducible exact bQ.refl _)
   | (with_reducible exact bQ.none _)
   | (with_reducible refine bQ.ite ?_ ?_)
   | (with_reducible refine bQ.bind ?_ (fun _=>?_))
   | exact jH _ _ _
   | exact ih1 _ _ _ _
   | exact bQ.none _
   | refine bQ.ite ?_ ?_
   | refine bQ.bind ?_ (fun _=>?_)
theorem aX.mono:∀a0 k,bQ (aX.f k a0) (aX.f (k+1) a0):=by
 intro a0 k;obtain⟨jH,ih1⟩:=aX.eG k;unfold aX.f
 repeat' first
   | (with_reducible exact jH _ _ _)
   | (with_reducible exact ih1 _ _ _ _)
   | (with_reducible exact bQ.refl _)
   | (with_reducible exact bQ.none _)
   | (with_reducible refine bQ.ite ?_ ?_)
   | (with_reducible refine bQ.bind ?_ (fun _=>?_))
   | exact jH _ _ _
   | exact ih1 _ _ _ _
   | exact bQ.none _
   | refine bQ.ite ?_ ?_
   | refine bQ.bind ?_ (fun _=>?_)
theorem aX.calls (k:Nat) (A0:Option Addr) (c0:Nat) (l0:List Int) (r:Int) (w:World) (hr0:Kd.C (Kd.int .u8) w A0 l0.length l0) (hc0:l0.length≤c0) (h:aX.f k l0=some r) :
  Calls Tryz.prog 82 #[.slice A0 l0.length c0] w fun e w'=>e=.returned (.int .i64 r)∧bF w w':=by
 have pQ:=ah.mk hr0;have OL:=ah.mk hc0;clear hr0 hc0;have H:(aX.l0 k l0 4294967295 0)=some r:=h;clear h;have H':=ah.mk H;clear H
 go_enter Tryz.func82,Tryz.ntmps82
 go_wp2
 go_loopg [3,4] k (fun kq v3 v4 w'=>∃(mM:Int) (dZ:Int),v3=.int .i64 mM∧v4=.int .i64 dZ∧ah (aX.l0 kq l0 mM dZ=some r)∧ah (kq≤k)∧bF w w')
 case atStart=>exact⟨(4294967295),(0),(by first|rfl|(simp;done)|(simp[*];done)),(by first|rfl|(simp;done)|(simp[*];done)),H',⟨Nat.le_refl _⟩,by repeat (first|exact bF.refl _|apply bF.step)⟩
 case round=>
  clear H';obtain⟨mM,dZ,rfl,rfl,HA,jC,⟨m1,rfl⟩⟩:=hrel
  cases gk with
  | zero=>exact absurd HA.out (by simp[aX.l0])
  | succ k1=>
   have H:=HA.out;clear HA;simp only[aX.l0] at H
   by_cases c2:dZ<(l0.length:Int)
   ·rw[if_pos c2] at H;have H9:decide (dZ<(l0.length:Int))=true:=decide_eq_true c2;clear c2;by_cases c3:0≤dZ
    ·rw[if_pos c3] at H;have ou:decide (0≤dZ)=true:=decide_eq_true c3;clear c3;have H':=ah.mk H;clear H;have XF:0≤(dZ:Int):=of_decide_eq_true (by first|(with_reducible assumption)|assumption);have XG:dZ<(l0.length:Int):=of_decide_eq_true (by first|(with_reducible assumption)|assumption);obtain⟨amH,e209,XH⟩:=Kd.rU pQ.out dZ XF XG;cases e209;replace XF:=eq_true XF;replace XG:=eq_true XG
     go_wp2
     go_loopg [3,5] k1 (fun kq v3 v5 w'=>∃(ql:Int) (iC:Int),v3=.int .i64 ql∧v5=.int .i64 iC∧ah (aX.l1 kq l0 ql dZ iC=some r)∧ah (kq≤k1)∧bF w w')
     case atStart=>exact⟨(Go.bits .xor .i64 mM (wrap64 (rd l0 dZ))),(0),(by first|rfl|(simp;done)|(simp[*];done)),(by first|rfl|(simp;done)|(simp[*];done)),H',⟨Nat.le_refl _⟩,by repeat (first|exact bF.refl _|apply bF.step)⟩
     case round=>
      clear H'
      try clear c2
      try clear H9
      try clear p2
      try clear q2
      try clear hx2
      try clear c3
      try clear ou
      try clear XH
      try clear XF
      try clear XG
      obtain⟨ql,iC,rfl,rfl,HA,iK,⟨m2,rfl⟩⟩:=hrel
      cases gk with
      | zero=>exact absurd HA.out (by simp[aX.l1])
      | succ k2=>
       have H:=HA.out;clear HA;simp only[aX.l1] at H;by_cases c4:iC<8
       ·rw[if_pos c4] at H;have mO:decide (iC<8)=true:=decide_eq_true c4;clear c4;by_cases c5:(Int.tmod ql 2)=1
        ·rw[if_pos c5] at H;have ER:((Int.tmod ql 2) == 1)=true:=beq_iff_eq.mpr c5;have XI:((Int.tmod ql 2) != 1)=false:=bne_eq_false_iff_eq.mpr c5;clear c5;have H':=ah.mk H;clear H
         go_wp2
         go_roundg k2
         case measure=>have:=jC.out;have:=iK.out;omega
         case rel=>exact⟨(Go.bits .xor .i64 (wrap64 (Int.tdiv ql 2)) 2197175160),(wrap64 (iC+1)),(by first|rfl|(simp;done)|(simp[*];done)),(by first|rfl|(simp;done)|(simp[*];done)),H',⟨by have:=jC.out;have:=iK.out;omega⟩,by repeat (first|exact bF.refl _|apply bF.step)⟩
        ·rw[if_neg c5] at H;have ER:((Int.tmod ql 2) == 1)=false:=beq_eq_false_iff_ne.mpr c5;have XI:((Int.tmod ql 2) != 1)=true:=bne_iff_ne.mpr c5;have H':=ah.mk H;clear H
         go_wp2
         go_roundg k2
         case measure=>have:=jC.out;have:=iK.out;omega
         case rel=>exact⟨(wrap64 (Int.tdiv ql 2)),(wrap64 (iC+1)),(by first|rfl|(simp;done)|(simp[*];done)),(by first|rfl|(simp;done)|(simp[*];done)),H',⟨by have:=jC.out;have:=iK.out;omega⟩,by repeat (first|exact bF.refl _|apply bF.step)⟩
       ·rw[if_neg c4] at H;have mO:decide (iC<8)=false:=decide_eq_false c4;clear c4;have H':=ah.mk H;clear H
        go_wp2
        go_roundg k2
        case measure=>have:=jC.out;have:=iK.out;omega
        case rel=>exact⟨(ql),(wrap64 (dZ+1)),(by first|rfl|(simp;done)|(simp[*];done)),(by first|rfl|(simp;done)|(simp[*];done)),H',⟨by have:=jC.out;have:=iK.out;omega⟩,by repeat (first|exact bF.refl _|apply bF.step)⟩
    ·rw[if_neg c3] at H;exact absurd H (by simp)
   ·rw[if_neg c2] at H;have H9:decide (dZ<(l0.length:Int))=false:=decide_eq_false c2;clear c2;obtain rfl:=Option.some.inj H
    go_wp2
    go_ret
    exact⟨by first|rfl|(simp;done)|(simp[*];done),by repeat (first|exact bF.refl _|apply bF.step)⟩
def gT.f (k:Nat) (l0:List Int):Option (Int):=(aX.f k l0).bind fun t210=>(some t210)
theorem gT.mono:∀a0 k,bQ (gT.f k a0) (gT.f (k+1) a0):=by
 intro a0 k;unfold gT.f
 repeat' first
   | (with_reducible exact aX.mono _ _)
   | (with_reducible exact bQ.refl _)
   | (with_reducible exact bQ.none _)
   | (with_reducible refine bQ.ite ?_ ?_)
   | (with_reducible refine bQ.bind ?_ (fun _=>?_))
   | exact aX.mono _ _
   | exact bQ.none _
   | refine bQ.ite ?_ ?_
   | refine bQ.bind ?_ (fun _=>?_)
theorem gT.calls (k:Nat) (A0:Option Addr) (c0:Nat) (l0:List Int) (r:Int) (w:World) (hr0:Kd.C (Kd.int .u8) w A0 l0.length l0) (hc0:l0.length≤c0) (h:gT.f k l0=some r) :
  Calls Tryz.prog 47 #[.slice A0 l0.length c0] w fun e w'=>e=.returned (.int .i64 r)∧bF w w':=by
 have pQ:=ah.mk hr0;have OL:=ah.mk hc0;clear hr0 hc0;have H:((aX.f k l0).bind fun t210=>(some t210))=some r:=h;clear h;replace H:=Option.bind_eq_some_iff.mp H;obtain⟨t210,Q0,H⟩:=H;replace H:(some t210)=some r:=H;have A2:=ah.mk Q0;clear Q0;obtain rfl:=Option.some.inj H
 go_enter Tryz.func47,Tryz.ntmps47
 go_wp2_with (first|((with_reducible refine fH (f:=82) rfl ?_);refine nI (some 4) rfl rfl Tryz.func82 (by kernel_rfl) rfl #[.slice A0 l0.length c0] rfl (by (try simp only[List.map_toArray,List.map_cons,List.map_nil]);first|done|rfl|(simp only[List.length_drop,List.length_take];rfl)) ?_;(with_reducible refine (aX.calls k _ _ l0 t210 _ ?iW ?iX A2.out).mono ?_);(case iW=>repeat (first|exact pQ.out|(with_reducible refine Kd.dW ?_ _)|(with_reducible refine Kd.dL ?_ _)|(with_reducible refine Kd.fV ?_)));(case iX=>exact OL.out);rintro e w' ⟨rfl,⟨nd,rfl⟩⟩;refine⟨_,rfl,?_⟩))
 go_ret
 exact⟨by first|rfl|(simp;done)|(simp[*];done),by repeat (first|exact bF.refl _|apply bF.step)⟩
def aT.l0:Nat→List (dx)→List (dx)→Int→Option ((List (dx)))
 | 0,_,_,_=>none
 | k+1,x0,x3,x4=>if x4<(x0.length:Int) then (if 0≤x4 then (if x3.length<8796093022208 then (aT.l0 k x0 (x3++[(⟨(aK x0 x4).f0,(aK x0 x4).f1⟩:dx)]) (wrap64 (x4+1))) else (none)) else (none)) else (some x3)
def aT.f (k:Nat) (l0:List (dx)):Option ((List (dx))):=aT.l0 k l0 ([]:List (dx)) 0
theorem aT.eG:∀k,(∀y0 y1 y2,bQ (aT.l0 k y0 y1 y2) (aT.l0 (k+1) y0 y1 y2))
 | 0=>fun _ _ _ r h=>by simp[aT.l0] at h
 | k+1=>by
  have jH:=aT.eG k
  ·intro y0 y1 y2;unfold aT.l0
   repeat' first
   | (with_reducible exact jH _ _ _)
   | (with_reducible exact bQ.refl _)
   | (with_reducible exact bQ.none _)
   | (with_reducible refine bQ.ite ?_ ?_)
   | (with_reducible refine bQ.bind ?_ (fun _=>?_))
   | exact jH _ _ _
   | exact bQ.none _
   | refine bQ.ite ?_ ?_
   | refine bQ.bind ?_ (fun _=>?_)
theorem aT.mono:∀a0 k,bQ (aT.f k a0) (aT.f (k+1) a0):=by
 intro a0 k;have jH:=aT.eG k;unfold aT.f
 repeat' first
   | (with_reducible exact jH _ _ _)
   | (with_reducible exact bQ.refl _)
   | (with_reducible exact bQ.none _)
   | (with_reducible refine bQ.ite ?_ ?_)
   | (with_reducible refine bQ.bind ?_ (fun _=>?_))
   | exact jH _ _ _
   | exact bQ.none _
   | refine bQ.ite ?_ ?_
   | refine bQ.bind ?_ (fun _=>?_)
theorem aT.calls (k:Nat) (A0:Option Addr) (c0:Nat) (l0:List (dx)) (r:List (dx)) (w:World) (hr0:Kd.C cO w A0 l0.length l0) (hc0:l0.length≤c0) (h:aT.f k l0=some r) :
  Calls Tryz.prog 58 #[.slice A0 l0.length c0] w fun e w'=>∃wm:Value,e=.returned (wm)∧Kd.R cO 117 w' w.heap.size (fun _=>True) wm r∧Below w.heap.size w w':=by
 have QN:=Tryz.underlying117;have pQ:=ah.mk hr0;have OL:=ah.mk hc0;clear hr0 hc0;have HB:=ah.mk (Below.refl w.heap.size w);have H:(aT.l0 k l0 ([]:List (dx)) 0)=some r:=h;clear h;have H':=ah.mk H;clear H
 go_enter Tryz.func58,Tryz.ntmps58
 go_wp2
 go_loopg [3,4] k (fun kq v3 v4 w'=>∃(mM:List (dx)) (dZ:Int),v4=.int .i64 dZ∧ah (aT.l0 kq l0 mM dZ=some r)∧ah (kq≤k)∧ah (Kd.R cO 117 w' w.heap.size (fun _=>True) v3 mM)∧ah (Below w.heap.size w w'))
 case atStart=>exact⟨(([]:List (dx))),(0),(by first|rfl|(simp;done)|(simp[*];done)),H',⟨Nat.le_refl _⟩,⟨by first|exact Kd.fA _ _ _ _ _|exact Kd.MH _ _ _ _ _|exact Kd.MI _ _ _ _ _|exact Kd.MJ _ _ _ _ _|exact Kd.ET _ _ _ _ _⟩,⟨by repeat (first|(with_reducible first|exact HB.out|apply ay|apply au|apply aA)|exact HB.out)⟩⟩
 case round=>
  clear H';obtain⟨mM,dZ,rfl,HA,jC,vR,HB⟩:=hrel
  cases gk with
  | zero=>exact absurd HA.out (by simp[aT.l0])
  | succ k1=>
   have H:=HA.out;clear HA;simp only[aT.l0] at H
   by_cases c2:dZ<(l0.length:Int)
   ·rw[if_pos c2] at H;have H9:decide (dZ<(l0.length:Int))=true:=decide_eq_true c2;clear c2;by_cases c3:0≤dZ
    ·rw[if_pos c3] at H;have ou:decide (0≤dZ)=true:=decide_eq_true c3;clear c3;by_cases c4:mM.length<8796093022208
     ·rw[if_pos c4] at H;have abW:=ah.mk c4;clear c4
      obtain⟨ae1,ML⟩:∃y_:List (dx),y_=(mM++[(⟨(aK l0 dZ).f0,(aK l0 dZ).f1⟩:dx)]):=⟨_,rfl⟩
      replace H:(aT.l0 k1 l0 ae1 (wrap64 (dZ+1)))=some r:=by first|(rw[ML];with_reducible exact H)|(have zk:=(Option.bind_some _ _).symm.trans H;rw[ML];with_reducible exact zk)|(have zk:=(Option.bind_some _ _).symm.trans H;with_reducible exact zk)|with_reducible exact H|(rw[ML];exact H)|exact H
      have ae2:=ah.mk ML;clear ML;have H':=ah.mk H;clear H;have ab1:0≤(dZ:Int):=of_decide_eq_true (by first|(with_reducible assumption)|assumption);have ab2:dZ<(l0.length:Int):=of_decide_eq_true (by first|(with_reducible assumption)|assumption);obtain⟨amI,e211,J7,J8⟩:=dK pQ.out dZ ab1 ab2;cases e211;replace J7:=(HB.out.cell (World.block_lt_of_cell? w _ J7)).trans J7;replace J8:=(HB.out.cell (World.block_lt_of_cell? w _ J8)).trans J8;replace ab1:=eq_true ab1;replace ab2:=eq_true ab2
      go_wp2_with (first|((with_reducible refine dn (b:=.append) (xs:=#[.tmp 11,.tmp 16]) rfl ?_);at_builtin;refine Kd.jy cO (w0:=w) w.heap.size rfl (.tmp 11) (.tmp 16) 26 117 (.agg #[(.int .i64 0),(.int .i64 0)]) 16 rfl Tryz.underlying26 DC rfl (by decide) (by omega) u3 mM (⟨(aK l0 dZ).f0,(aK l0 dZ).f1⟩:dx) [.int .i64 ((aK l0 dZ).f0),.int .i64 ((aK l0 dZ).f1)] (fun _=>True) (fun _=>False) rfl rfl ?aP (fun _ hk=>hk.elim) ?aF ?aO ?aB ?aS ?aL ?_;(case aP=>exact vW _ _ _ (⟨(aK l0 dZ).f0,(aK l0 dZ).f1⟩:dx));(case aB=>exact (by repeat (first|(with_reducible first|exact HB.out|apply ay|apply au|apply aA)|exact HB.out)));(case aF=>exact (fun _ _=>trivial));(case aO=>exact (by (with_reducible repeat (first|apply Kd.dz|apply Kd.dA|apply Kd.dO));exact vR.out));(case aS=>exact (bf (by repeat (first|(with_reducible first|exact HB.out|apply ay|apply au|apply aA)|exact HB.out))));(case aL=>have:=abW.out;omega);intro ao7 w5 ho hb hg hat;rw[← ae2.out] at ho;have eF:=ah.mk (hb);have fG:=ah.mk (ho);clear HB;clear vR;have HB:=eF;have ae3:=fG;clear eF fG;clear ho hb hg hat))
      go_roundg k1
      case measure=>have:=jC.out;omega
      case rel=>exact⟨(ae1),(wrap64 (dZ+1)),(by first|rfl|(simp;done)|(simp[*];done)),H',⟨by have:=jC.out;omega⟩,⟨by (with_reducible repeat (first|apply Kd.dz|apply Kd.dA|apply Kd.dO));exact ae3.out⟩,⟨by repeat (first|(with_reducible first|exact HB.out|apply ay|apply au|apply aA)|exact HB.out)⟩⟩
     ·rw[if_neg c4] at H;exact absurd H (by simp)
    ·rw[if_neg c3] at H;exact absurd H (by simp)
   ·rw[if_neg c2] at H;have H9:decide (dZ<(l0.length:Int))=false:=decide_eq_false c2;clear c2;obtain rfl:=Option.some.inj H
    go_wp2
    go_ret
    exact⟨_,by first|rfl|(simp[aU,aV] <;> rfl)|(simp[*,aU,aV] <;> rfl),by (with_reducible repeat (first|apply Kd.dz|apply Kd.dA|apply Kd.dO));exact vR.out,by repeat (first|(with_reducible first|exact HB.out|apply ay|apply au|apply aA)|exact HB.out)⟩
def bX.f (k:Nat) (bY:Int) (bW:ByteArray) (cB:ByteArray) (bR:Int) (bN:List (dx)) (bO:List Int):Option (Int × ByteArray × ByteArray × Int × (List (dx)) × List Int):=(aT.f k bN).bind fun Ae=>((aR.f k bO).bind fun Cc=>(some (bY,bW,cB,bR,Ae,Cc)))
theorem bX.mono:∀a0 a1 a2 a3 a4 a5 k,bQ (bX.f k a0 a1 a2 a3 a4 a5) (bX.f (k+1) a0 a1 a2 a3 a4 a5):=by
 intro a0 a1 a2 a3 a4 a5 k;unfold bX.f
 repeat' first
   | (with_reducible exact aR.mono _ _)
   | (with_reducible exact aT.mono _ _)
   | (with_reducible exact bQ.refl _)
   | (with_reducible exact bQ.none _)
   | (with_reducible refine bQ.ite ?_ ?_)
   | (with_reducible refine bQ.bind ?_ (fun _=>?_))
   | exact aR.mono _ _
   | exact aT.mono _ _
   | exact bQ.none _
   | refine bQ.ite ?_ ?_
   | refine bQ.bind ?_ (fun _=>?_)
theorem bX.calls (k:Nat) (bY:Int) (bW:ByteArray) (cB:ByteArray) (bR:Int) (fO:Option Addr) (dU:Nat) (bN:List (dx)) (dS:Option Addr) (dQ:Nat) (bO:List Int) (r1:Int) (r2:ByteArray) (r3:ByteArray) (r4:Int) (r5:List (dx)) (r6:List Int) (w:World) (o8:Kd.C cO w fO bN.length bN) (qy:bN.length≤dU) (p9:Kd.C (Kd.int .u8) w dS bO.length bO) (rY:bO.length≤dQ) (h:bX.f k bY bW cB bR bN bO=some (r1,r2,r3,r4,r5,r6)) :
  Calls Tryz.prog 54 #[.agg #[.int .i64 bY,.string bW,.string cB,.int .i64 bR,.slice fO bN.length dU,.slice dS bO.length dQ]] w fun e w'=>∃v4_ v5_:Value,e=.returned (.agg #[.int .i64 r1,.string r2,.string r3,.int .i64 r4,v4_,v5_])∧Kd.R cO 117 w' w.heap.size (fun _=>True) v4_ r5∧Kd.R (Kd.int .u8) 5 w' w.heap.size (fun _=>True) v5_ r6∧Below w.heap.size w w':=by
 have OT:=Tryz.underlying29;have uE:=ah.mk o8;have CW:=ah.mk qy;clear o8 qy;have Ag:=ah.mk p9;have EZ:=ah.mk rY;clear p9 rY;have HB:=ah.mk (Below.refl w.heap.size w);have H:((aT.f k bN).bind fun Ae=>((aR.f k bO).bind fun Cc=>(some (bY,bW,cB,bR,Ae,Cc))))=some (r1,r2,r3,r4,r5,r6):=h;clear h;replace H:=Option.bind_eq_some_iff.mp H;obtain⟨Ae,Q0,H⟩:=H;replace H:((aR.f k bO).bind fun Cc=>(some (bY,bW,cB,bR,Ae,Cc)))=some (r1,r2,r3,r4,r5,r6):=H;have A2:=ah.mk Q0;clear Q0;replace H:=Option.bind_eq_some_iff.mp H;obtain⟨Cc,Q5,H⟩:=H;replace H:(some (bY,bW,cB,bR,Ae,Cc))=some (r1,r2,r3,r4,r5,r6):=H;have A3:=ah.mk Q5;clear Q5;simp only[Option.some.injEq,Prod.mk.injEq] at H;obtain⟨rfl,rfl,rfl,rfl,rfl,rfl⟩:=H
 go_enter Tryz.func54,Tryz.ntmps54
 go_wp2_with (first|((with_reducible refine eZ (N:=1) rfl ?_);refine eu ?hg (N:=1) ?hd (cs:=#[.int .i64 bY,.string bW,.string cB,.int .i64 bR,.slice fO bN.length dU,.slice dS bO.length dQ]) (t:=29) ?hr ?_;(case hd=>rfl);(case hg=>rfl);(case hr=>first|(go_simp;done)|(go_simp;rfl));intro jD hg w4 dV hb;have eF:=ah.mk (bM (by repeat (first|(with_reducible first|exact HB.out|apply ay|apply au|apply aA)|exact HB.out)) hb);have fG:=ah.mk (dV);have gN:=ah.mk ((by rw[hg];exact (bf (by repeat (first|(with_reducible first|exact HB.out|apply ay|apply au|apply aA)|exact HB.out))):w.heap.size≤jD));have jE:=ah.mk ((by rw[hg];exact (bf (by repeat (first|(with_reducible first|exact HB.out|apply ay|apply au|apply aA)|exact HB.out))):w.heap.size≤jD));clear HB;have HB:=eF;have eP:=fG;have amJ:=gN;have Ah:=jE;clear eF fG gN jE;clear hb dV hg)|((with_reducible refine eZ (N:=2) rfl ?_);refine eu ?hg (N:=2) ?hd (cs:=#[.int .i64 0,.string (⟨#[]⟩:ByteArray),.string (⟨#[]⟩:ByteArray),.int .i64 0,.slice none 0 0,.slice none 0 0]) (t:=29) ?hr ?_;(case hd=>rfl);(case hg=>rfl);(case hr=>first|(go_simp;done)|(go_simp;rfl));intro kR hg w5 dV hb;have eF:=ah.mk (aD (g:=jD) (o:=.cells #[.int .i64 bY,.string bW,.string cB,.int .i64 bR,.slice fO bN.length dU,.slice dS bO.length dQ] 29 (0,0)) (by (with_reducible repeat (first|refine bB ?_ _|refine bG ?_|refine aJ ?_ _));exact eP.out) hb);have fG:=ah.mk (bM (by repeat (first|(with_reducible first|exact HB.out|apply ay|apply au|apply aA|refine aN ?_ Ah.out)|exact HB.out)) hb);have gN:=ah.mk (dV);have jE:=ah.mk ((by rw[hg];exact (bf (by repeat (first|(with_reducible first|exact HB.out|apply ay|apply au|apply aA|refine aN ?_ Ah.out)|exact HB.out))):w.heap.size≤kR));have uF:=ah.mk ((by rw[hg];exact (bf (by repeat (first|(with_reducible first|exact HB.out|apply ay|apply au|apply aA|refine aN ?_ Ah.out)|exact HB.out))):w.heap.size≤kR));have yE:=ah.mk ((by rw[hg];exact Nat.ne_of_lt (bD (g:=jD) (o:=.cells #[.int .i64 bY,.string bW,.string cB,.int .i64 bR,.slice fO bN.length dU,.slice dS bO.length dQ] 29 (0,0)) (by (with_reducible repeat (first|refine bB ?_ _|refine bG ?_|refine aJ ?_ _));exact eP.out)):jD≠kR));have Ai:=ah.mk ((by rw[hg];exact Nat.ne_of_gt (bD (g:=jD) (o:=.cells #[.int .i64 bY,.string bW,.string cB,.int .i64 bR,.slice fO bN.length dU,.slice dS bO.length dQ] 29 (0,0)) (by (with_reducible repeat (first|refine bB ?_ _|refine bG ?_|refine aJ ?_ _));exact eP.out)):kR≠jD));clear eP;clear HB;have eP:=eF;have HB:=fG;have mY:=gN;have amK:=jE;have Jj:=uF;have SF:=yE;have Ce:=Ai;clear eF fG gN jE uF yE Ai;clear hb dV hg;have ao8:=SF.out;have ao9:=Ce.out;have J9:w5.cell? ⟨jD,0,none⟩=some (.int .i64 bY):=(ak eP.out 0).trans rfl;have Ka:w5.cell? ⟨jD,1,none⟩=some (.string bW):=(ak eP.out 1).trans rfl;have aj5:w5.cell? ⟨jD,2,none⟩=some (.string cB):=(ak eP.out 2).trans rfl;have aj6:w5.cell? ⟨jD,3,none⟩=some (.int .i64 bR):=(ak eP.out 3).trans rfl;have aj7:w5.cell? ⟨jD,4,none⟩=some (.slice fO bN.length dU):=(ak eP.out 4).trans rfl;have aj8:w5.cell? ⟨jD,5,none⟩=some (.slice dS bO.length dQ):=(ak eP.out 5).trans rfl;have Ke:=av eP.out 0;have Kg:=av eP.out 1;have aj9:=av eP.out 2;have akb:=av eP.out 3;have akc:=av eP.out 4;have akd:=av eP.out 5)|((with_reducible refine fH (f:=58) rfl ?_);refine nI (some 5) rfl rfl Tryz.func58 (by kernel_rfl) rfl #[.slice fO bN.length dU] rfl (by (try simp only[List.map_toArray,List.map_cons,List.map_nil]);first|done|rfl|(simp only[List.length_drop,List.length_take];rfl)) ?_;(with_reducible refine (aT.calls k _ _ bN Ae _ ?iW ?iX A2.out).mono ?_);(case iW=>repeat (first|exact (Kd.aC uE.out HB.out)|(with_reducible refine Kd.dW ?_ _)|(with_reducible refine Kd.dL ?_ _)|(with_reducible refine Kd.fV ?_)));(case iX=>exact CW.out);rintro e w8 ⟨v218,rfl,ho0,hb⟩;refine⟨_,rfl,?_⟩;have eF:=ah.mk (Kd.fC ho0 (bf (by repeat (first|(with_reducible first|exact HB.out|apply ay|apply au|apply aA|refine aN ?_ Ah.out|refine aN ?_ Jj.out)|exact HB.out))));have fG:=ah.mk (aD (g:=jD) (o:=.cells #[.int .i64 bY,.string bW,.string cB,.int .i64 bR,.slice fO bN.length dU,.slice dS bO.length dQ] 29 (0,0)) (by (with_reducible repeat (first|refine bB ?_ _|refine bG ?_|refine aJ ?_ _));exact eP.out) hb);have gN:=ah.mk (aD (g:=kR) (o:=.cells #[.int .i64 0,.string (⟨#[]⟩:ByteArray),.string (⟨#[]⟩:ByteArray),.int .i64 0,.slice none 0 0,.slice none 0 0] 29 (0,0)) (by (with_reducible repeat (first|refine bB ?_ _|refine bG ?_|refine aJ ?_ _));exact mY.out) hb);have jE:=ah.mk (bM (by repeat (first|(with_reducible first|exact HB.out|apply ay|apply au|apply aA|refine aN ?_ Ah.out|refine aN ?_ Jj.out)|exact HB.out)) hb);clear eP;clear mY;clear HB;have MN:=eF;have eP:=fG;have mY:=gN;have HB:=jE;clear eF fG gN jE;(try clear hb);(try clear hb2);(try clear hk);(try clear hi);(try clear ho0);obtain⟨H8,ES,WB⟩:=Kd.bH MN.out;subst WB;have agX:w8.cell? ⟨jD,0,none⟩=some (.int .i64 bY):=(ak eP.out 0).trans rfl;have agY:w8.cell? ⟨jD,1,none⟩=some (.string bW):=(ak eP.out 1).trans rfl;have agZ:w8.cell? ⟨jD,2,none⟩=some (.string cB):=(ak eP.out 2).trans rfl;have ag0:w8.cell? ⟨jD,3,none⟩=some (.int .i64 bR):=(ak eP.out 3).trans rfl;have ag1:w8.cell? ⟨jD,4,none⟩=some (.slice fO bN.length dU):=(ak eP.out 4).trans rfl;have ag2:w8.cell? ⟨jD,5,none⟩=some (.slice dS bO.length dQ):=(ak eP.out 5).trans rfl;have ag3:=av eP.out 0;have ag4:=av eP.out 1;have ag5:=av eP.out 2;have ag6:=av eP.out 3;have ag7:=av eP.out 4;have ag8:=av eP.out 5)|((with_reducible refine fH (f:=23) rfl ?_);refine nI (some 9) rfl rfl Tryz.func23 (by kernel_rfl) rfl #[.slice dS bO.length dQ] rfl (by (try simp only[List.map_toArray,List.map_cons,List.map_nil]);first|done|rfl|(simp only[List.length_drop,List.length_take];rfl)) ?_;(with_reducible refine (aR.calls k _ _ bO Cc _ ?iW ?iX A3.out).mono ?_);(case iW=>exact Kd.aC Ag.out (by repeat (first|(with_reducible first|exact HB.out|apply ay|apply au|apply aA|refine aN ?_ Ah.out|refine aN ?_ Jj.out)|exact HB.out)));(case iX=>exact EZ.out);rintro e BO ⟨apa,rfl,ho0,hb⟩;refine⟨_,rfl,?_⟩;have eF:=ah.mk (Kd.dh (by (with_reducible repeat (first|apply Kd.dz|apply Kd.dA|apply Kd.dO));exact (Kd.dJ (Kd.jk (p:=⟨jD,4,none⟩) (Kd.ow MN.out eP.out (by decide)) (fun _ hk=>hk.2) (.slice H8 Ae.length ES)) (fun _ h_=>h_.1))) hb);have fG:=ah.mk (Kd.fC ho0 (bf (by repeat (first|(with_reducible first|exact HB.out|apply ay|apply au|apply aA|refine aN ?_ Ah.out|refine aN ?_ Jj.out)|exact HB.out))));have gN:=ah.mk (aD (g:=jD) (o:=.cells #[.int .i64 bY,.string bW,.string cB,.int .i64 bR,.slice H8 Ae.length ES,.slice dS bO.length dQ] 29 (0,0)) (by (with_reducible repeat (first|refine bB ?_ _|refine bG ?_|refine aJ ?_ _));refine gM (cs:=#[.int .i64 bY,.string bW,.string cB,.int .i64 bR,.slice fO bN.length dU,.slice dS bO.length dQ]) ?_ 4 _ rfl;(with_reducible repeat (first|refine bB ?_ _|refine bG ?_|refine aJ ?_ _));exact eP.out) hb);have jE:=ah.mk (aD (g:=kR) (o:=.cells #[.int .i64 0,.string (⟨#[]⟩:ByteArray),.string (⟨#[]⟩:ByteArray),.int .i64 0,.slice none 0 0,.slice none 0 0] 29 (0,0)) (by (with_reducible repeat (first|refine bB ?_ _|refine bG ?_|refine aJ ?_ _));refine gX ?_ Ce.out _;(with_reducible repeat (first|refine bB ?_ _|refine bG ?_|refine aJ ?_ _));exact mY.out) hb);have uF:=ah.mk (bM (by repeat (first|(with_reducible first|exact HB.out|apply ay|apply au|apply aA|refine aN ?_ Ah.out|refine aN ?_ Jj.out)|exact HB.out)) hb);clear MN;clear eP;clear mY;clear HB;have MN:=eF;have aar:=fG;have eP:=gN;have mY:=jE;have HB:=uF;clear eF fG gN jE uF;(try clear hb);(try clear hb2);(try clear hk);(try clear hi);(try clear ho0);obtain⟨U5,U6,ake⟩:=Kd.bH aar.out;subst ake;have XJ:BO.cell? ⟨jD,0,none⟩=some (.int .i64 bY):=(ak eP.out 0).trans rfl;have XK:BO.cell? ⟨jD,1,none⟩=some (.string bW):=(ak eP.out 1).trans rfl;have ag9:BO.cell? ⟨jD,2,none⟩=some (.string cB):=(ak eP.out 2).trans rfl;have aha:BO.cell? ⟨jD,3,none⟩=some (.int .i64 bR):=(ak eP.out 3).trans rfl;have ahb:BO.cell? ⟨jD,4,none⟩=some (.slice H8 Ae.length ES):=(ak eP.out 4).trans rfl;have ahc:BO.cell? ⟨jD,5,none⟩=some (.slice dS bO.length dQ):=(ak eP.out 5).trans rfl;have XL:=av eP.out 0;have XM:=av eP.out 1;have ahd:=av eP.out 2;have ahe:=av eP.out 3;have ahf:=av eP.out 4;have ahg:=av eP.out 5;have Kh:BO.cell? ⟨kR,0,none⟩=some (.int .i64 0):=(ak mY.out 0).trans rfl;have Ki:BO.cell? ⟨kR,1,none⟩=some (.string (⟨#[]⟩:ByteArray)):=(ak mY.out 1).trans rfl;have Q6:BO.cell? ⟨kR,2,none⟩=some (.string (⟨#[]⟩:ByteArray)):=(ak mY.out 2).trans rfl;have Q7:BO.cell? ⟨kR,3,none⟩=some (.int .i64 0):=(ak mY.out 3).trans rfl;have Q8:BO.cell? ⟨kR,4,none⟩=some (.slice none 0 0):=(ak mY.out 4).trans rfl;have Q9:BO.cell? ⟨kR,5,none⟩=some (.slice none 0 0):=(ak mY.out 5).trans rfl;have Kj:=av mY.out 0;have Kk:=av mY.out 1;have Ra:=av mY.out 2;have Rb:=av mY.out 3;have Rc:=av mY.out 4;have Rf:=av mY.out 5))
 refine bodyPost_ret (results_cell_row rfl _ _ kR 29 #[.int .i64 bY,.string bW,.string cB,.int .i64 bR,.slice H8 Ae.length ES,.slice U5 Cc.length U6] (0,0) _ rfl (by (with_reducible repeat (first|refine bB ?_ _|refine bG ?_|refine aJ ?_ _));refine gM (cs:=#[.int .i64 bY,.string bW,.string cB,.int .i64 bR,.slice H8 Ae.length ES,.slice none 0 0]) ?_ 5 _ rfl;(with_reducible repeat (first|refine bB ?_ _|refine bG ?_|refine aJ ?_ _));refine gM (cs:=#[.int .i64 bY,.string bW,.string cB,.int .i64 bR,.slice none 0 0,.slice none 0 0]) ?_ 4 _ rfl;(with_reducible repeat (first|refine bB ?_ _|refine bG ?_|refine aJ ?_ _));refine gM (cs:=#[.int .i64 bY,.string bW,.string cB,.int .i64 0,.slice none 0 0,.slice none 0 0]) ?_ 3 _ rfl;(with_reducible repeat (first|refine bB ?_ _|refine bG ?_|refine aJ ?_ _));refine gM (cs:=#[.int .i64 bY,.string bW,.string (⟨#[]⟩:ByteArray),.int .i64 0,.slice none 0 0,.slice none 0 0]) ?_ 2 _ rfl;(with_reducible repeat (first|refine bB ?_ _|refine bG ?_|refine aJ ?_ _));refine gM (cs:=#[.int .i64 bY,.string (⟨#[]⟩:ByteArray),.string (⟨#[]⟩:ByteArray),.int .i64 0,.slice none 0 0,.slice none 0 0]) ?_ 1 _ rfl;(with_reducible repeat (first|refine bB ?_ _|refine bG ?_|refine aJ ?_ _));refine gM (cs:=#[.int .i64 0,.string (⟨#[]⟩:ByteArray),.string (⟨#[]⟩:ByteArray),.int .i64 0,.slice none 0 0,.slice none 0 0]) ?_ 0 _ rfl;(with_reducible repeat (first|refine bB ?_ _|refine bG ?_|refine aJ ?_ _));refine gX ?_ Ce.out _;(with_reducible repeat (first|refine bB ?_ _|refine bG ?_|refine aJ ?_ _));exact mY.out) Tryz.underlying29 rfl (by kernel_rfl)) rfl ?_;exact⟨_,_,by first|rfl|(simp[aU,aV] <;> rfl)|(simp[*,aU,aV] <;> rfl),by (with_reducible repeat (first|apply Kd.dz|apply Kd.dA|apply Kd.dO));exact Kd.dJ (Kd.jk (p:=⟨kR,5,none⟩) (Kd.jk (p:=⟨kR,4,none⟩) (Kd.jk (p:=⟨kR,3,none⟩) (Kd.jk (p:=⟨kR,2,none⟩) (Kd.jk (p:=⟨kR,1,none⟩) (Kd.jk (p:=⟨kR,0,none⟩) (Kd.jk (p:=⟨jD,5,none⟩) (Kd.ow (Kd.ow MN.out eP.out (by decide)) mY.out (by decide)) (fun _ hk=>hk.1.2) (.slice U5 Cc.length U6)) (fun _ hk=>hk.2) (.int .i64 bY)) (fun _ hk=>hk.2) (.string bW)) (fun _ hk=>hk.2) (.string cB)) (fun _ hk=>hk.2) (.int .i64 bR)) (fun _ hk=>hk.2) (.slice H8 Ae.length ES)) (fun _ hk=>hk.2) (.slice U5 Cc.length U6)) (fun _ hk=>trivial),by (with_reducible repeat (first|apply Kd.dz|apply Kd.dA|apply Kd.dO));exact Kd.dJ (Kd.jk (p:=⟨kR,5,none⟩) (Kd.jk (p:=⟨kR,4,none⟩) (Kd.jk (p:=⟨kR,3,none⟩) (Kd.jk (p:=⟨kR,2,none⟩) (Kd.jk (p:=⟨kR,1,none⟩) (Kd.jk (p:=⟨kR,0,none⟩) (Kd.jk (p:=⟨jD,5,none⟩) (Kd.ow (Kd.ow aar.out eP.out (by decide)) mY.out (by decide)) (fun _ hk=>hk.1.2) (.slice U5 Cc.length U6)) (fun _ hk=>hk.2) (.int .i64 bY)) (fun _ hk=>hk.2) (.string bW)) (fun _ hk=>hk.2) (.string cB)) (fun _ hk=>hk.2) (.int .i64 bR)) (fun _ hk=>hk.2) (.slice H8 Ae.length ES)) (fun _ hk=>hk.2) (.slice U5 Cc.length U6)) (fun _ hk=>trivial),by repeat (first|(with_reducible first|exact HB.out|apply ay|apply au|apply aA|refine aN ?_ Ah.out|refine aN ?_ Jj.out)|exact HB.out)⟩
def bn.l0:Nat→List (mG)→List (mG)→Int→Option ((List (mG)))
 | 0,_,_,_=>none
 | k+1,x0,x3,x4=>if x4<(x0.length:Int) then (if 0≤x4 then ((bX.f k ((aI x0 x4).f0) ((aI x0 x4).f1) ((aI x0 x4).f2) ((aI x0 x4).f3) ((aI x0 x4).f4) ((aI x0 x4).f5)).bind fun Jk=>(if x3.length<1466015503701 then (bn.l0 k x0 (x3++[(⟨Jk.1,Jk.2.1,Jk.2.2.1,Jk.2.2.2.1,Jk.2.2.2.2.1,Jk.2.2.2.2.2⟩:mG)]) (wrap64 (x4+1))) else (none))) else (none)) else (some x3)
def bn.f (k:Nat) (l0:List (mG)):Option ((List (mG))):=bn.l0 k l0 ([]:List (mG)) 0
theorem bn.eG:∀k,(∀y0 y1 y2,bQ (bn.l0 k y0 y1 y2) (bn.l0 (k+1) y0 y1 y2))
 | 0=>fun _ _ _ r h=>by simp[bn.l0] at h
 | k+1=>by
  have jH:=bn.eG k
  ·intro y0 y1 y2;unfold bn.l0
   repeat' first
   | (with_reducible exact jH _ _ _)
   | (with_reducible exact bX.mono _ _ _ _ _ _ _)
   | (with_reducible exact bQ.refl _)
   | (with_reducible exact bQ.none _)
   | (with_reducible refine bQ.ite ?_ ?_)
   | (with_reducible refine bQ.bind ?_ (fun _=>?_))
   | exact jH _ _ _
   | exact bX.mono _ _ _ _ _ _ _
   | exact bQ.none _
   | refine bQ.ite ?_ ?_
   | refine bQ.bind ?_ (fun _=>?_)
theorem bn.mono:∀a0 k,bQ (bn.f k a0) (bn.f (k+1) a0):=by
 intro a0 k;have jH:=bn.eG k;unfold bn.f
 repeat' first
   | (with_reducible exact jH _ _ _)
   | (with_reducible exact bX.mono _ _ _ _ _ _ _)
   | (with_reducible exact bQ.refl _)
   | (with_reducible exact bQ.none _)
   | (with_reducible refine bQ.ite ?_ ?_)
   | (with_reducible refine bQ.bind ?_ (fun _=>?_))
   | exact jH _ _ _
   | exact bX.mono _ _ _ _ _ _ _
   | exact bQ.none _
   | refine bQ.ite ?_ ?_
   | refine bQ.bind ?_ (fun _=>?_)
theorem bn.calls (k:Nat) (A0:Option Addr) (c0:Nat) (l0:List (mG)) (r:List (mG)) (w:World) (hr0:Kd.C oW w A0 l0.length l0) (hc0:l0.length≤c0) (h:bn.f k l0=some r) :
  Calls Tryz.prog 19 #[.slice A0 l0.length c0] w fun e w'=>∃wm:Value,e=.returned (wm)∧Kd.S oW 29 w' w.heap.size (fun _=>True) wm r∧Below w.heap.size w w':=by
 have OT:=Tryz.underlying29;have pQ:=ah.mk hr0;have OL:=ah.mk hc0;clear hr0 hc0;have HB:=ah.mk (Below.refl w.heap.size w);have H:(bn.l0 k l0 ([]:List (mG)) 0)=some r:=h;clear h;have H':=ah.mk H;clear H
 go_enter Tryz.func19,Tryz.ntmps19
 go_wp2
 go_loopg [3,4] k (fun kq v3 v4 w'=>∃(mM:List (mG)) (dZ:Int),v4=.int .i64 dZ∧ah (bn.l0 kq l0 mM dZ=some r)∧ah (kq≤k)∧ah (Kd.S oW 29 w' w.heap.size (fun _=>True) v3 mM)∧ah (Below w.heap.size w w'))
 case atStart=>exact⟨(([]:List (mG))),(0),(by first|rfl|(simp;done)|(simp[*];done)),H',⟨Nat.le_refl _⟩,⟨by first|exact Kd.ET _ _ _ _ _|exact Kd.MH _ _ _ _ _|exact Kd.MI _ _ _ _ _|exact Kd.MJ _ _ _ _ _|exact Kd.fA _ _ _ _ _⟩,⟨by repeat (first|(with_reducible first|exact HB.out|apply ay|apply au|apply aA)|exact HB.out)⟩⟩
 case round=>
  clear H'
  try clear c1
  obtain⟨mM,dZ,rfl,HA,jC,vR,HB⟩:=hrel
  cases gk with
  | zero=>exact absurd HA.out (by simp[bn.l0])
  | succ k1=>
   have H:=HA.out;clear HA;simp only[bn.l0] at H
   by_cases c2:dZ<(l0.length:Int)
   ·rw[if_pos c2] at H;have H9:decide (dZ<(l0.length:Int))=true:=decide_eq_true c2;clear c2;by_cases c3:0≤dZ
    ·rw[if_pos c3] at H;have ou:decide (0≤dZ)=true:=decide_eq_true c3;clear c3;replace H:=Option.bind_eq_some_iff.mp H;obtain⟨⟨SG,SH,t226,t227,t228,OU⟩,Rh,H⟩:=H;replace H:(if mM.length<1466015503701 then (bn.l0 k1 l0 (mM++[(⟨SG,SH,t226,t227,t228,OU⟩:mG)]) (wrap64 (dZ+1))) else (none))=some r:=H;have A4:=ah.mk Rh;clear Rh;by_cases c5:mM.length<1466015503701
     ·rw[if_pos c5] at H;have akf:=ah.mk c5;clear c5
      obtain⟨ae6,MO⟩:∃y_:List (mG),y_=(mM++[(⟨SG,SH,t226,t227,t228,OU⟩:mG)]):=⟨_,rfl⟩
      replace H:(bn.l0 k1 l0 ae6 (wrap64 (dZ+1)))=some r:=by first|(rw[MO];with_reducible exact H)|(have zk:=(Option.bind_some _ _).symm.trans H;rw[MO];with_reducible exact zk)|(have zk:=(Option.bind_some _ _).symm.trans H;with_reducible exact zk)|with_reducible exact H|(rw[MO];exact H)|exact H
      have ae7:=ah.mk MO;clear MO;have H':=ah.mk H;clear H;have ab3:0≤(dZ:Int):=of_decide_eq_true (by first|(with_reducible assumption)|assumption);have ab4:dZ<(l0.length:Int):=of_decide_eq_true (by first|(with_reducible assumption)|assumption);obtain⟨amL,ab5,ab6,ab7,ab8,e223,Kl,Km,Kn,Ko,Kr,Kt,Ri,Rj,Rk,Rl⟩:=uQ pQ.out dZ ab3 ab4;cases e223;replace Kl:=(HB.out.cell (World.block_lt_of_cell? w _ Kl)).trans Kl;replace Km:=(HB.out.cell (World.block_lt_of_cell? w _ Km)).trans Km;replace Kn:=(HB.out.cell (World.block_lt_of_cell? w _ Kn)).trans Kn;replace Ko:=(HB.out.cell (World.block_lt_of_cell? w _ Ko)).trans Ko;replace Kr:=(HB.out.cell (World.block_lt_of_cell? w _ Kr)).trans Kr;replace Kt:=(HB.out.cell (World.block_lt_of_cell? w _ Kt)).trans Kt;have XO:=ah.mk Rj;have XP:=ah.mk Ri;clear Rj Ri;have XQ:=ah.mk Rl;have XR:=ah.mk Rk;clear Rl Rk;replace ab3:=eq_true ab3;replace ab4:=eq_true ab4
      go_wp2_with (first|((with_reducible refine fH (f:=54) rfl ?_);refine nI (some 16) rfl rfl Tryz.func54 (by kernel_rfl) rfl #[.agg #[.int .i64 ((aI l0 dZ).f0),.string ((aI l0 dZ).f1),.string ((aI l0 dZ).f2),.int .i64 ((aI l0 dZ).f3),.slice ab5 ((aI l0 dZ).f4).length ab6,.slice ab7 ((aI l0 dZ).f5).length ab8]] rfl (by (try simp only[List.map_toArray,List.map_cons,List.map_nil]);first|done|rfl|(simp only[List.length_drop,List.length_take];rfl)) ?_;(with_reducible refine (bX.calls k1 ((aI l0 dZ).f0) ((aI l0 dZ).f1) ((aI l0 dZ).f2) ((aI l0 dZ).f3) _ _ ((aI l0 dZ).f4) _ _ ((aI l0 dZ).f5) SG SH t226 t227 t228 OU _ ?iW ?iX ?rZ ?r9 A4.out).mono ?_);(case iW=>repeat (first|exact (Kd.aC XO.out HB.out)|(with_reducible refine Kd.dW ?_ _)|(with_reducible refine Kd.dL ?_ _)|(with_reducible refine Kd.fV ?_)));(case iX=>exact XP.out);(case rZ=>repeat (first|exact (Kd.aC XQ.out HB.out)|(with_reducible refine Kd.dW ?_ _)|(with_reducible refine Kd.dL ?_ _)|(with_reducible refine Kd.fV ?_)));(case r9=>exact XR.out);rintro e w6 ⟨v229,v232,rfl,ho0,ho1,hb⟩;refine⟨_,rfl,?_⟩;have eF:=ah.mk (Kd.rP (Kd.U7 (Kd.U7 (Kd.Rm (by (with_reducible repeat (first|apply Kd.lu|apply Kd.nk|apply Kd.qm));exact vR.out) hb) (Kd.rR ho0)) (Kd.rR ho1)) (fun _ h_=>h_.1));have fG:=ah.mk (Kd.fC ho0 (bf (by repeat (first|(with_reducible first|exact HB.out|apply ay|apply au|apply aA)|exact HB.out))));have gN:=ah.mk (Kd.fC ho1 (bf (by repeat (first|(with_reducible first|exact HB.out|apply ay|apply au|apply aA)|exact HB.out))));have jE:=ah.mk (bM (by repeat (first|(with_reducible first|exact HB.out|apply ay|apply au|apply aA)|exact HB.out)) hb);clear vR;clear HB;have vR:=eF;have Ro:=fG;have Rp:=gN;have HB:=jE;clear eF fG gN jE;(try clear hb);(try clear hb2);(try clear hk);(try clear hi);(try clear ho0);(try clear ho1);obtain⟨Ao8,co8,eo8⟩:=Kd.bH Ro.out;subst eo8;obtain⟨H8,ES,WB⟩:=Kd.bH Rp.out;subst WB)|((with_reducible refine dn (b:=.append) (xs:=#[.tmp 11,.tmp 17]) rfl ?_);at_builtin;refine Kd.U8 oW (w0:=w) w.heap.size rfl (.tmp 11) (.tmp 17) 25 29 (.agg #[(.int .i64 0),(.string ⟨#[]⟩),(.string ⟨#[]⟩),(.int .i64 0),(.slice none 0 0),(.slice none 0 0)]) 96 rfl Tryz.underlying25 aa2 rfl (by decide) (by omega) u3 mM (⟨SG,SH,t226,t227,t228,OU⟩:mG) [.int .i64 SG,.string SH,.string t226,.int .i64 t227,.slice Ao8 t228.length co8,.slice H8 OU.length ES] (fun _=>True) (fun k_=>some k_=(.slice Ao8 t228.length co8:Value).ownBlock∨some k_=(.slice H8 OU.length ES:Value).ownBlock) rfl rfl ?aP (fun k_ hk_=>hk_.elim (fun h_=>((Kd.dJ (ok':=fun k_=>((fun _=>True)) k_∧some k_≠(u3:Value).ownBlock) (Kd.Aj (Ro.out) (Kd.DK vR.out) (by decide)) (fun k_ hk=>⟨trivial,hk.2⟩))).1 k_ h_.symm) (fun h_=>((Kd.dJ (ok':=fun k_=>((fun _=>True)) k_∧some k_≠(u3:Value).ownBlock) (Kd.Aj (Rp.out) (Kd.DK vR.out) (by decide)) (fun k_ hk=>⟨trivial,hk.2⟩))).1 k_ h_.symm)) ?aF ?aO ?aB ?aS ?aL ?_;(case aP=>exact uP _ _ _ (⟨SG,SH,t226,t227,t228,OU⟩:mG) (Kd.dJ (Kd.Rq rfl (Kd.dJ (ok':=fun k_=>((fun _=>True)) k_∧some k_≠(u3:Value).ownBlock) (Kd.Aj (Ro.out) (Kd.DK vR.out) (by decide)) (fun k_ hk=>⟨trivial,hk.2⟩))) (fun _ h_=>Or.inl h_)) (Kd.dJ (Kd.Rq rfl (Kd.dJ (ok':=fun k_=>((fun _=>True)) k_∧some k_≠(u3:Value).ownBlock) (Kd.Aj (Rp.out) (Kd.DK vR.out) (by decide)) (fun k_ hk=>⟨trivial,hk.2⟩))) (fun _ h_=>Or.inr (h_))));(case aB=>exact (by repeat (first|(with_reducible first|exact HB.out|apply ay|apply au|apply aA)|exact HB.out)));(case aF=>exact (fun _ _=>trivial));(case aO=>exact (by (with_reducible repeat (first|apply Kd.lu|apply Kd.nk|apply Kd.qm));exact Kd.rP vR.out (fun k_ hk=>⟨trivial,fun e_=>e_.elim (fun h_=>hk.1.2 h_) (fun h_=>hk.2 h_)⟩)));(case aS=>exact (bf (by repeat (first|(with_reducible first|exact HB.out|apply ay|apply au|apply aA)|exact HB.out))));(case aL=>have:=akf.out;omega);intro apc w7 ho hb hg hat;rw[← ae7.out] at ho;have eF:=ah.mk (hb);have fG:=ah.mk (ho);clear HB;clear vR;clear Ro;clear Rp;have HB:=eF;have ae8:=fG;clear eF fG;clear ho hb hg hat))
      go_roundg k1
      case measure=>have:=jC.out;omega
      case rel=>exact⟨(ae6),(wrap64 (dZ+1)),(by first|rfl|(simp;done)|(simp[*];done)),H',⟨by have:=jC.out;omega⟩,⟨by (with_reducible repeat (first|apply Kd.lu|apply Kd.nk|apply Kd.qm));exact ae8.out⟩,⟨by repeat (first|(with_reducible first|exact HB.out|apply ay|apply au|apply aA)|exact HB.out)⟩⟩
     ·rw[if_neg c5] at H;exact absurd H (by simp)
    ·rw[if_neg c3] at H;exact absurd H (by simp)
   ·rw[if_neg c2] at H;have H9:decide (dZ<(l0.length:Int))=false:=decide_eq_false c2;clear c2;obtain rfl:=Option.some.inj H
    go_wp2
    go_ret
    exact⟨_,by first|rfl|(simp[aU,aV] <;> rfl)|(simp[*,aU,aV] <;> rfl),by (with_reducible repeat (first|apply Kd.lu|apply Kd.nk|apply Kd.qm));exact vR.out,by repeat (first|(with_reducible first|exact HB.out|apply ay|apply au|apply aA)|exact HB.out)⟩
def fI.f (k:Nat) (l0:List (mG)):Option (Bool):=(bn.f k l0).bind fun MP=>((iy.f MP).bind fun MQ=>((bI.f MQ.2).bind fun Ia=>(some (Ia == 0))))
theorem fI.mono:∀a0 k,bQ (fI.f k a0) (fI.f (k+1) a0):=by
 intro a0 k;unfold fI.f
 repeat' first
   | (with_reducible exact bn.mono _ _)
   | (with_reducible exact bQ.refl _)
   | (with_reducible exact bQ.none _)
   | (with_reducible refine bQ.ite ?_ ?_)
   | (with_reducible refine bQ.bind ?_ (fun _=>?_))
   | exact bn.mono _ _
   | exact bQ.none _
   | refine bQ.ite ?_ ?_
   | refine bQ.bind ?_ (fun _=>?_)
theorem fI.calls (k:Nat) (A0:Option Addr) (c0:Nat) (l0:List (mG)) (r:Bool) (w:World) (hr0:Kd.C oW w A0 l0.length l0) (hc0:l0.length≤c0) (h:fI.f k l0=some r) :
  Calls Tryz.prog 20 #[.slice A0 l0.length c0] w fun e w'=>e=.returned (.bool r)∧Below w.heap.size w w':=by
 have pQ:=ah.mk hr0;have OL:=ah.mk hc0;clear hr0 hc0;have HB:=ah.mk (Below.refl w.heap.size w);have H:((bn.f k l0).bind fun MP=>((iy.f MP).bind fun MQ=>((bI.f MQ.2).bind fun Ia=>(some (Ia == 0)))))=some r:=h;clear h;replace H:=Option.bind_eq_some_iff.mp H;obtain⟨MP,Q0,H⟩:=H;replace H:((iy.f MP).bind fun MQ=>((bI.f MQ.2).bind fun Ia=>(some (Ia == 0))))=some r:=H;have A2:=ah.mk Q0;clear Q0;replace H:=Option.bind_eq_some_iff.mp H;obtain⟨⟨akg,XT⟩,Q5,H⟩:=H;replace H:((bI.f XT).bind fun Ia=>(some (Ia == 0)))=some r:=H;have A3:=ah.mk Q5;clear Q5;replace H:=Option.bind_eq_some_iff.mp H;obtain⟨Ia,Rh,H⟩:=H;replace H:(some (Ia == 0))=some r:=H;have A4:=ah.mk Rh;clear Rh;obtain rfl:=Option.some.inj H
 go_enter Tryz.func20,Tryz.ntmps20
 go_wp2_with (first|((with_reducible refine fH (f:=19) rfl ?_);refine nI (some 7) rfl rfl Tryz.func19 (by kernel_rfl) rfl #[.slice A0 l0.length c0] rfl (by (try simp only[List.map_toArray,List.map_cons,List.map_nil]);first|done|rfl|(simp only[List.length_drop,List.length_take];rfl)) ?_;(with_reducible refine (bn.calls k _ _ l0 MP _ ?iW ?iX A2.out).mono ?_);(case iW=>repeat (first|exact pQ.out|(with_reducible refine Kd.dW ?_ _)|(with_reducible refine Kd.dL ?_ _)|(with_reducible refine Kd.fV ?_)));(case iX=>exact OL.out);rintro e w5 ⟨apd,rfl,ho0,hb⟩;refine⟨_,rfl,?_⟩;have eF:=ah.mk (Kd.Ak ho0 (bf (by repeat (first|(with_reducible first|exact HB.out|apply ay|apply au|apply aA)|exact HB.out))));have fG:=ah.mk (bM (by repeat (first|(with_reducible first|exact HB.out|apply ay|apply au|apply aA)|exact HB.out)) hb);clear HB;have Jl:=eF;have HB:=fG;clear eF fG;(try clear hb);(try clear hb2);(try clear hk);(try clear hi);(try clear ho0);obtain⟨Ao6,co6,eo6⟩:=Kd.lC Jl.out;subst eo6)|((with_reducible refine fH (f:=48) rfl ?_);refine nI (some 8) rfl rfl Tryz.func48 (by kernel_rfl) rfl #[.slice Ao6 MP.length co6] rfl (by (try simp only[List.map_toArray,List.map_cons,List.map_nil]);first|done|rfl|(simp only[List.length_drop,List.length_take];rfl)) ?_;(with_reducible refine (iy.calls _ _ MP akg XT _ ?iW ?iX A3.out).mono ?_);(case iW=>repeat (first|exact (Kd.iw Jl.out).2.2|(with_reducible refine Kd.dW ?_ _)|(with_reducible refine Kd.dL ?_ _)|(with_reducible refine Kd.fV ?_)));(case iX=>exact (Kd.iw Jl.out).2.1);rintro e w7 ⟨aph,rfl,ho0,hb⟩;refine⟨_,rfl,?_⟩;have eF:=ah.mk (Kd.wT (by (with_reducible repeat (first|apply Kd.lu|apply Kd.nk|apply Kd.qm));exact Jl.out) (Kd.rR ho0) hb);have fG:=ah.mk (Kd.fC ho0 (bf (by repeat (first|(with_reducible first|exact HB.out|apply ay|apply au|apply aA)|exact HB.out))));have gN:=ah.mk (bM (by repeat (first|(with_reducible first|exact HB.out|apply ay|apply au|apply aA)|exact HB.out)) hb);clear Jl;clear HB;have Jl:=eF;have amN:=fG;have HB:=gN;clear eF fG gN;(try clear hb);(try clear hb2);(try clear hk);(try clear hi);(try clear ho0))|((with_reducible refine fH (f:=21) rfl ?_);refine nI (some 12) rfl rfl Tryz.func21 (by kernel_rfl) rfl #[.int .i64 XT] rfl (by (try simp only[List.map_toArray,List.map_cons,List.map_nil]);first|done|rfl|(simp only[List.length_drop,List.length_take];rfl)) ?_;(with_reducible refine (bI.calls XT Ia _ A4.out).mono ?_);rintro e w' ⟨rfl,⟨nd,rfl⟩⟩;refine⟨_,rfl,?_⟩))
 go_ret
 exact⟨by first|rfl|(simp[aU,aV] <;> rfl)|(simp[*,aU,aV] <;> rfl),by repeat (first|(with_reducible first|exact HB.out|apply ay|apply au|apply aA)|exact HB.out)⟩
def bJ.f (bY:Int) (bW:ByteArray) (cB:ByteArray) (bR:Int) (bN:List (dx)) (bO:List Int) (uG:Int) (qK:ByteArray) (vS:ByteArray) (uH:Int) (qb:List (dx)) (qL:List Int):Option (Bool):=if bW.toList=qK.toList then ((gG.f bY bW cB bR bN bO uG qK vS uH qb qL).bind fun SI=>(some SI)) else (some false)
theorem bJ.calls (bY:Int) (bW:ByteArray) (cB:ByteArray) (bR:Int) (fO:Option Addr) (dU:Nat) (bN:List (dx)) (dS:Option Addr) (dQ:Nat) (bO:List Int) (uG:Int) (qK:ByteArray) (vS:ByteArray) (uH:Int) (Dq:Option Addr) (Dr:Nat) (qb:List (dx)) (Dt:Option Addr) (Cg:Nat) (qL:List Int) (r:Bool) (w:World) (o8:Kd.C cO w fO bN.length bN) (qy:bN.length≤dU) (p9:Kd.C (Kd.int .u8) w dS bO.length bO) (rY:bO.length≤dQ) (MR:Kd.C cO w Dq qb.length qb) (Rs:qb.length≤Dr) (MS:Kd.C (Kd.int .u8) w Dt qL.length qL) (U9:qL.length≤Cg) (h:bJ.f bY bW cB bR bN bO uG qK vS uH qb qL=some r) :
  Calls Tryz.prog 34 #[.agg #[.int .i64 bY,.string bW,.string cB,.int .i64 bR,.slice fO bN.length dU,.slice dS bO.length dQ],.agg #[.int .i64 uG,.string qK,.string vS,.int .i64 uH,.slice Dq qb.length Dr,.slice Dt qL.length Cg]] w fun e w'=>e=.returned (.bool r)∧Below w.heap.size w w':=by
 have OT:=Tryz.underlying29;have uE:=ah.mk o8;have CW:=ah.mk qy;clear o8 qy;have Ag:=ah.mk p9;have EZ:=ah.mk rY;clear p9 rY;have ae9:=ah.mk MR;have afa:=ah.mk Rs;clear MR Rs;have afb:=ah.mk MS;have afc:=ah.mk U9;clear MS U9;have HB:=ah.mk (Below.refl w.heap.size w);have H:(if bW.toList=qK.toList then ((gG.f bY bW cB bR bN bO uG qK vS uH qb qL).bind fun SI=>(some SI)) else (some false))=some r:=h;clear h;by_cases c3:bW.toList=qK.toList
 ·rw[if_pos c3] at H;have ou:(bW.toList == qK.toList)=true:=beq_iff_eq.mpr c3;have zh:(bW.toList != qK.toList)=false:=bne_eq_false_iff_eq.mpr c3;clear c3;replace H:=Option.bind_eq_some_iff.mp H;obtain⟨SI,Rh,H⟩:=H;replace H:(some SI)=some r:=H;have A4:=ah.mk Rh;clear Rh;obtain rfl:=Option.some.inj H
  go_enter Tryz.func34,Tryz.ntmps34
  go_wp2_with (first|((with_reducible refine eZ (N:=2) rfl ?_);refine eu ?hg (N:=2) ?hd (cs:=#[.int .i64 bY,.string bW,.string cB,.int .i64 bR,.slice fO bN.length dU,.slice dS bO.length dQ]) (t:=29) ?hr ?_;(case hd=>rfl);(case hg=>rfl);(case hr=>first|(go_simp;done)|(go_simp;rfl));intro jP hg w5 dV hb;have eF:=ah.mk (bM (by repeat (first|(with_reducible first|exact HB.out|apply ay|apply au|apply aA)|exact HB.out)) hb);have fG:=ah.mk (dV);have gN:=ah.mk ((by rw[hg];exact (bf (by repeat (first|(with_reducible first|exact HB.out|apply ay|apply au|apply aA)|exact HB.out))):w.heap.size≤jP));have jE:=ah.mk ((by rw[hg];exact (bf (by repeat (first|(with_reducible first|exact HB.out|apply ay|apply au|apply aA)|exact HB.out))):w.heap.size≤jP));clear HB;have HB:=eF;have gU:=fG;have afd:=gN;have yF:=jE;clear eF fG gN jE;clear hb dV hg)|((with_reducible refine eZ (N:=3) rfl ?_);refine eu ?hg (N:=3) ?hd (cs:=#[.int .i64 uG,.string qK,.string vS,.int .i64 uH,.slice Dq qb.length Dr,.slice Dt qL.length Cg]) (t:=29) ?hr ?_;(case hd=>rfl);(case hg=>rfl);(case hr=>first|(go_simp;done)|(go_simp;rfl));intro mD hg w6 dV hb;have eF:=ah.mk (aD (g:=jP) (o:=.cells #[.int .i64 bY,.string bW,.string cB,.int .i64 bR,.slice fO bN.length dU,.slice dS bO.length dQ] 29 (0,0)) (by (with_reducible repeat (first|refine bB ?_ _|refine bG ?_|refine aJ ?_ _));exact gU.out) hb);have fG:=ah.mk (bM (by repeat (first|(with_reducible first|exact HB.out|apply ay|apply au|apply aA|refine aN ?_ yF.out)|exact HB.out)) hb);have gN:=ah.mk (dV);have jE:=ah.mk ((by rw[hg];exact (bf (by repeat (first|(with_reducible first|exact HB.out|apply ay|apply au|apply aA|refine aN ?_ yF.out)|exact HB.out))):w.heap.size≤mD));have uF:=ah.mk ((by rw[hg];exact (bf (by repeat (first|(with_reducible first|exact HB.out|apply ay|apply au|apply aA|refine aN ?_ yF.out)|exact HB.out))):w.heap.size≤mD));have yE:=ah.mk ((by rw[hg];exact Nat.ne_of_lt (bD (g:=jP) (o:=.cells #[.int .i64 bY,.string bW,.string cB,.int .i64 bR,.slice fO bN.length dU,.slice dS bO.length dQ] 29 (0,0)) (by (with_reducible repeat (first|refine bB ?_ _|refine bG ?_|refine aJ ?_ _));exact gU.out)):jP≠mD));have Ai:=ah.mk ((by rw[hg];exact Nat.ne_of_gt (bD (g:=jP) (o:=.cells #[.int .i64 bY,.string bW,.string cB,.int .i64 bR,.slice fO bN.length dU,.slice dS bO.length dQ] 29 (0,0)) (by (with_reducible repeat (first|refine bB ?_ _|refine bG ?_|refine aJ ?_ _));exact gU.out)):mD≠jP));clear gU;clear HB;have gU:=eF;have HB:=fG;have jQ:=gN;have afe:=jE;have Rt:=uF;have Ci:=yE;have Cj:=Ai;clear eF fG gN jE uF yE Ai;clear hb dV hg;have apj:=Ci.out;have apk:=Cj.out;have Ku:w6.cell? ⟨jP,0,none⟩=some (.int .i64 bY):=(ak gU.out 0).trans rfl;have Kv:w6.cell? ⟨jP,1,none⟩=some (.string bW):=(ak gU.out 1).trans rfl;have OV:w6.cell? ⟨jP,2,none⟩=some (.string cB):=(ak gU.out 2).trans rfl;have OW:w6.cell? ⟨jP,3,none⟩=some (.int .i64 bR):=(ak gU.out 3).trans rfl;have OX:w6.cell? ⟨jP,4,none⟩=some (.slice fO bN.length dU):=(ak gU.out 4).trans rfl;have OY:w6.cell? ⟨jP,5,none⟩=some (.slice dS bO.length dQ):=(ak gU.out 5).trans rfl;have Kw:=av gU.out 0;have Ky:=av gU.out 1;have OZ:=av gU.out 2;have O4:=av gU.out 3;have O5:=av gU.out 4;have O6:=av gU.out 5;have akh:w6.cell? ⟨mD,0,none⟩=some (.int .i64 uG):=(ak jQ.out 0).trans rfl;have aki:w6.cell? ⟨mD,1,none⟩=some (.string qK):=(ak jQ.out 1).trans rfl;have akj:w6.cell? ⟨mD,2,none⟩=some (.string vS):=(ak jQ.out 2).trans rfl;have akk:w6.cell? ⟨mD,3,none⟩=some (.int .i64 uH):=(ak jQ.out 3).trans rfl;have akl:w6.cell? ⟨mD,4,none⟩=some (.slice Dq qb.length Dr):=(ak jQ.out 4).trans rfl;have akm:w6.cell? ⟨mD,5,none⟩=some (.slice Dt qL.length Cg):=(ak jQ.out 5).trans rfl;have akn:=av jQ.out 0;have ako:=av jQ.out 1;have akp:=av jQ.out 2;have akq:=av jQ.out 3;have akr:=av jQ.out 4;have aks:=av jQ.out 5)|(go_at_call 37;(with_reducible refine (gG.calls bY bW cB bR _ _ bN _ _ bO uG qK vS uH _ _ qb _ _ qL SI _ ?iW ?iX ?rZ ?r9 ?E5 ?E8 ?E9 ?Fa A4.out).mono ?_);(case iW=>repeat (first|exact (Kd.aC uE.out HB.out)|(with_reducible refine Kd.dW ?_ _)|(with_reducible refine Kd.dL ?_ _)|(with_reducible refine Kd.fV ?_)));(case iX=>exact CW.out);(case rZ=>repeat (first|exact (Kd.aC Ag.out HB.out)|(with_reducible refine Kd.dW ?_ _)|(with_reducible refine Kd.dL ?_ _)|(with_reducible refine Kd.fV ?_)));(case r9=>exact EZ.out);(case E5=>repeat (first|exact (Kd.aC ae9.out HB.out)|(with_reducible refine Kd.dW ?_ _)|(with_reducible refine Kd.dL ?_ _)|(with_reducible refine Kd.fV ?_)));(case E8=>exact afa.out);(case E9=>repeat (first|exact (Kd.aC afb.out HB.out)|(with_reducible refine Kd.dW ?_ _)|(with_reducible refine Kd.dL ?_ _)|(with_reducible refine Kd.fV ?_)));(case Fa=>exact afc.out);rintro e IK ⟨rfl,hb⟩;have eF:=ah.mk (aD (g:=jP) (o:=.cells #[.int .i64 bY,.string bW,.string cB,.int .i64 bR,.slice fO bN.length dU,.slice dS bO.length dQ] 29 (0,0)) (by (with_reducible repeat (first|refine bB ?_ _|refine bG ?_|refine aJ ?_ _));exact gU.out) hb);have fG:=ah.mk (aD (g:=mD) (o:=.cells #[.int .i64 uG,.string qK,.string vS,.int .i64 uH,.slice Dq qb.length Dr,.slice Dt qL.length Cg] 29 (0,0)) (by (with_reducible repeat (first|refine bB ?_ _|refine bG ?_|refine aJ ?_ _));exact jQ.out) hb);have gN:=ah.mk (bM (by repeat (first|(with_reducible first|exact HB.out|apply ay|apply au|apply aA|refine aN ?_ yF.out|refine aN ?_ Rt.out)|exact HB.out)) hb);clear gU;clear jQ;clear HB;have gU:=eF;have jQ:=fG;have HB:=gN;clear eF fG gN;(try clear hb);(try clear hb2);(try clear hk);(try clear hi)))
  go_ret
  exact⟨by first|rfl|(simp[aU,aV] <;> rfl)|(simp[*,aU,aV] <;> rfl),by repeat (first|(with_reducible first|exact HB.out|apply ay|apply au|apply aA|refine aN ?_ yF.out|refine aN ?_ Rt.out)|exact HB.out)⟩
 ·rw[if_neg c3] at H;have ou:(bW.toList == qK.toList)=false:=beq_eq_false_iff_ne.mpr c3;have zh:(bW.toList != qK.toList)=true:=bne_iff_ne.mpr c3;obtain rfl:=Option.some.inj H
  go_enter Tryz.func34,Tryz.ntmps34
  go_wp2_with (first|((with_reducible refine eZ (N:=2) rfl ?_);refine eu ?hg (N:=2) ?hd (cs:=#[.int .i64 bY,.string bW,.string cB,.int .i64 bR,.slice fO bN.length dU,.slice dS bO.length dQ]) (t:=29) ?hr ?_;(case hd=>rfl);(case hg=>rfl);(case hr=>first|(go_simp;done)|(go_simp;rfl));intro jP hg BO dV hb;have eF:=ah.mk (bM (by repeat (first|(with_reducible first|exact HB.out|apply ay|apply au|apply aA)|exact HB.out)) hb);have fG:=ah.mk (dV);have gN:=ah.mk ((by rw[hg];exact (bf (by repeat (first|(with_reducible first|exact HB.out|apply ay|apply au|apply aA)|exact HB.out))):w.heap.size≤jP));have jE:=ah.mk ((by rw[hg];exact (bf (by repeat (first|(with_reducible first|exact HB.out|apply ay|apply au|apply aA)|exact HB.out))):w.heap.size≤jP));clear HB;have HB:=eF;have gU:=fG;have afd:=gN;have yF:=jE;clear eF fG gN jE;clear hb dV hg)|((with_reducible refine eZ (N:=3) rfl ?_);refine eu ?hg (N:=3) ?hd (cs:=#[.int .i64 uG,.string qK,.string vS,.int .i64 uH,.slice Dq qb.length Dr,.slice Dt qL.length Cg]) (t:=29) ?hr ?_;(case hd=>rfl);(case hg=>rfl);(case hr=>first|(go_simp;done)|(go_simp;rfl));intro mD hg LZ dV hb;have eF:=ah.mk (aD (g:=jP) (o:=.cells #[.int .i64 bY,.string bW,.string cB,.int .i64 bR,.slice fO bN.length dU,.slice dS bO.length dQ] 29 (0,0)) (by (with_reducible repeat (first|refine bB ?_ _|refine bG ?_|refine aJ ?_ _));exact gU.out) hb);have fG:=ah.mk (bM (by repeat (first|(with_reducible first|exact HB.out|apply ay|apply au|apply aA|refine aN ?_ yF.out)|exact HB.out)) hb);have gN:=ah.mk (dV);have jE:=ah.mk ((by rw[hg];exact (bf (by repeat (first|(with_reducible first|exact HB.out|apply ay|apply au|apply aA|refine aN ?_ yF.out)|exact HB.out))):w.heap.size≤mD));have uF:=ah.mk ((by rw[hg];exact (bf (by repeat (first|(with_reducible first|exact HB.out|apply ay|apply au|apply aA|refine aN ?_ yF.out)|exact HB.out))):w.heap.size≤mD));have yE:=ah.mk ((by rw[hg];exact Nat.ne_of_lt (bD (g:=jP) (o:=.cells #[.int .i64 bY,.string bW,.string cB,.int .i64 bR,.slice fO bN.length dU,.slice dS bO.length dQ] 29 (0,0)) (by (with_reducible repeat (first|refine bB ?_ _|refine bG ?_|refine aJ ?_ _));exact gU.out)):jP≠mD));have Ai:=ah.mk ((by rw[hg];exact Nat.ne_of_gt (bD (g:=jP) (o:=.cells #[.int .i64 bY,.string bW,.string cB,.int .i64 bR,.slice fO bN.length dU,.slice dS bO.length dQ] 29 (0,0)) (by (with_reducible repeat (first|refine bB ?_ _|refine bG ?_|refine aJ ?_ _));exact gU.out)):mD≠jP));clear gU;clear HB;have gU:=eF;have HB:=fG;have jQ:=gN;have afe:=jE;have Rt:=uF;have Ci:=yE;have Cj:=Ai;clear eF fG gN jE uF yE Ai;clear hb dV hg;have aff:=Ci.out;have afg:=Cj.out;have Kh:LZ.cell? ⟨jP,0,none⟩=some (.int .i64 bY):=(ak gU.out 0).trans rfl;have Ki:LZ.cell? ⟨jP,1,none⟩=some (.string bW):=(ak gU.out 1).trans rfl;have Q6:LZ.cell? ⟨jP,2,none⟩=some (.string cB):=(ak gU.out 2).trans rfl;have Q7:LZ.cell? ⟨jP,3,none⟩=some (.int .i64 bR):=(ak gU.out 3).trans rfl;have Q8:LZ.cell? ⟨jP,4,none⟩=some (.slice fO bN.length dU):=(ak gU.out 4).trans rfl;have Q9:LZ.cell? ⟨jP,5,none⟩=some (.slice dS bO.length dQ):=(ak gU.out 5).trans rfl;have Kj:=av gU.out 0;have Kk:=av gU.out 1;have Ra:=av gU.out 2;have Rb:=av gU.out 3;have Rc:=av gU.out 4;have Rf:=av gU.out 5;have DL:LZ.cell? ⟨mD,0,none⟩=some (.int .i64 uG):=(ak jQ.out 0).trans rfl;have DN:LZ.cell? ⟨mD,1,none⟩=some (.string qK):=(ak jQ.out 1).trans rfl;have XU:LZ.cell? ⟨mD,2,none⟩=some (.string vS):=(ak jQ.out 2).trans rfl;have XV:LZ.cell? ⟨mD,3,none⟩=some (.int .i64 uH):=(ak jQ.out 3).trans rfl;have XW:LZ.cell? ⟨mD,4,none⟩=some (.slice Dq qb.length Dr):=(ak jQ.out 4).trans rfl;have XY:LZ.cell? ⟨mD,5,none⟩=some (.slice Dt qL.length Cg):=(ak jQ.out 5).trans rfl;have DR:=av jQ.out 0;have DT:=av jQ.out 1;have XZ:=av jQ.out 2;have X0:=av jQ.out 3;have X3:=av jQ.out 4;have X6:=av jQ.out 5))
  go_ret
  exact⟨by first|rfl|(simp[aU,aV] <;> rfl)|(simp[*,aU,aV] <;> rfl),by repeat (first|(with_reducible first|exact HB.out|apply ay|apply au|apply aA|refine aN ?_ yF.out|refine aN ?_ Rt.out)|exact HB.out)⟩
end Go.Proofs.YtknihldkhedpkaaGreatDoor.PT
end
