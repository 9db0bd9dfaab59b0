import Derived.Test.YtknihldkhedpkaaGreatDoorUUG1
import Derived.Test.YtknihldkhedpkaaGreatDoorUUG2
import Derived.Test.YtknihldkhedpkaaGreatDoorUUG10
import Derived.Test.YtknihldkhedpkaaGreatDoorUUG7
set_option linter.all false
set_option maxHeartbeats 16000000
set_option maxRecDepth 100000
section
namespace Go.Proofs.YtknihldkhedpkaaGreatDoor.PT
open Go.RowKit Go.Proofs.YtknihldkhedpkaaGreatDoorW.PrintWords Go.Proofs.YtknihldkhedpkaaGreatDoorW.PrintLast Go.Proofs.YtknihldkhedpkaaGreatDoorW.PrintMore
attribute [local go_sem] oJ oK rC rD mW mX oL oM
mutual
def bf.l0:Nat→List Int→Int→Int→Option (Int)
 | 0,_,_,_=>none
 | k+1,x0,x3,x4=>if x4<(x0.length:Int) then (if 0≤x4 then (bf.l1 k x0 (Go.bits .xor .i64 x3 (wrap64 (rd x0 x4))) x4 0) else (none)) else (some (Go.bits .xor .i64 x3 4294967295))
def bf.l1:Nat→List Int→Int→Int→Int→Option (Int)
 | 0,_,_,_,_=>none
 | k+1,x0,x3,x4,x5=>if x5<8 then (if (Int.tmod x3 2)=1 then (bf.l1 k x0 (Go.bits .xor .i64 (wrap64 (Int.tdiv x3 2)) 2197175160) x4 (wrap64 (x5+1))) else (bf.l1 k x0 (wrap64 (Int.tdiv x3 2)) x4 (wrap64 (x5+1)))) else (bf.l0 k x0 x3 (wrap64 (x4+1)))
end
def bf.f (k:Nat) (l0:List Int):Option (Int):=bf.l0 k l0 4294967295 0
theorem bf.fC:∀k,(∀y0 y1 y2,bW (bf.l0 k y0 y1 y2) (bf.l0 (k+1) y0 y1 y2))∧(∀y0 y1 y2 y3,bW (bf.l1 k y0 y1 y2 y3) (bf.l1 (k+1) y0 y1 y2 y3))
 | 0=>⟨fun _ _ _ r h=>by simp[bf.l0] at h,fun _ _ _ _ r h=>by simp[bf.l1] at h⟩
 | k+1=>by
  obtain⟨j6,ih1⟩:=bf.fC k;refine⟨?_,?_⟩
  ·intro y0 y1 y2;unfold bf.l0
   repeat' first
   | (with_reducible exact j6 _ _ _)
   | (with_reducible exact ih1 _ _ _ _)
   | (with_reducible exact bW.refl _)
   | (with_reducible exact bW.none _)
   | (with_reducible refine bW.ite ?_ ?_)
   | (with_reducible refine bW.bind ?_ (fun _=>?_))
   | exact j6 _ _ _
   | exact ih1 _ _ _ _
   | exact bW.none _
   | refine bW.ite ?_ ?_
   | refine bW.bind ?_ (fun _=>?_)
  intro y0 y1 y2 y3;unfold bf.l1
  repeat' first
  | (with_reducible exact j6 _ _ _)
  | (with_reducible exact ih1 _ _ _ _)
  | (with_reducible exact bW.refl _)
  | (with_reducible exact bW.none _)
  | (with_reducible refine bW.ite ?_ ?_)
  | (with_reducible refine bW.bind ?_ (fun _=>?_))
  | exact j6 _ _ _
  | exact ih1 _ _ _ _
  | exact bW.none _
  | refine bW.ite ?_ ?_
  | refine bW.bind ?_ (fun _=>?_)
theorem bf.mono:∀a0 k,bW (bf.f k a0) (bf.f (k+1) a0):=by
 intro a0 k;obtain⟨j6,ih1⟩:=bf.fC k;unfold bf.f
 repeat' first
   | (with_reducible exact j6 _ _ _)
   | (with_reducible exact ih1 _ _ _ _)
   | (with_reducible exact bW.refl _)
   | (with_reducible exact bW.none _)
   | (with_reducible refine bW.ite ?_ ?_)
   | (with_reducible refine bW.bind ?_ (fun _=>?_))
   | exact j6 _ _ _
   | exact ih1 _ _ _ _
   | exact bW.none _
   | refine bW.ite ?_ ?_
   | refine bW.bind ?_ (fun _=>?_)
theorem bf.calls (k:Nat) (A0:Option Addr) (c0:Nat) (l0:List Int) (r:Int) (w:World) (hr0:Kd.C (Kd.int .u8) w A0 l0.length l0) (hc0:l0.length≤c0) (h:bf.f k l0=some r) :
  Calls Tryz.prog 82 #[.slice A0 l0.length c0] w fun e w'=>e=.returned (.int .i64 r)∧bH w w':=by
 have qP:=ah.mk hr0;have Qp:=ah.mk hc0;clear hr0 hc0;have H:(bf.l0 k l0 4294967295 0)=some r:=h;clear h;have H':=ah.mk H;clear H
 go_enter Tryz.func82,Tryz.ntmps82
 go_wp2
 go_loopg [3,4] k (fun kq v3 v4 w'=>∃(nK:Int) (eZ:Int),v3=.int .i64 nK∧v4=.int .i64 eZ∧ah (bf.l0 kq l0 nK eZ=some r)∧ah (kq≤k)∧bH w w')
 case atStart=>exact⟨(4294967295),(0),eG,eG,H',⟨Nat.le_refl _⟩,by repeat (first|exact bH.refl _|apply bH.step)⟩
 case round=>
  clear H';obtain⟨nK,eZ,rfl,rfl,HA,jY,⟨m1,rfl⟩⟩:=hrel
  cases gk with
  | zero=>exact absurd HA.out (by simp[bf.l0])
  | succ k1=>
   have H:=HA.out;clear HA;simp only[bf.l0] at H
   by_cases c2:eZ<(l0.length:Int)
   ·rw[if_pos c2] at H;have Jh:decide (eZ<(l0.length:Int))=true:=decide_eq_true c2;clear c2;by_cases c3:0≤eZ
    ·rw[if_pos c3] at H;have o9:decide (0≤eZ)=true:=decide_eq_true c3;clear c3;have H':=ah.mk H;clear H;have Zc:0≤(eZ:Int):=of_decide_eq_true bS;have Zd:eZ<(l0.length:Int):=of_decide_eq_true bS;obtain⟨apo,e209,Ze⟩:=Kd.qx qP.out eZ Zc Zd;cases e209;replace Zc:=eq_true Zc;replace Zd:=eq_true Zd
     go_wp2
     go_loopg [3,5] k1 (fun kq v3 v5 w'=>∃(qV:Int) (iV:Int),v3=.int .i64 qV∧v5=.int .i64 iV∧ah (bf.l1 kq l0 qV eZ iV=some r)∧ah (kq≤k1)∧bH w w')
     case atStart=>exact⟨(Go.bits .xor .i64 nK (wrap64 (rd l0 eZ))),(0),eG,eG,H',⟨Nat.le_refl _⟩,by repeat (first|exact bH.refl _|apply bH.step)⟩
     case round=>
      clear H'
      try clear c2
      try clear Jh
      try clear p2
      try clear q2
      try clear hx2
      try clear c3
      try clear o9
      try clear Ze
      try clear Zc
      try clear Zd
      obtain⟨qV,iV,rfl,rfl,HA,jG,⟨m2,rfl⟩⟩:=hrel
      cases gk with
      | zero=>exact absurd HA.out (by simp[bf.l1])
      | succ k2=>
       have H:=HA.out;clear HA;simp only[bf.l1] at H;by_cases c4:iV<8
       ·rw[if_pos c4] at H;have nL:decide (iV<8)=true:=decide_eq_true c4;clear c4;by_cases c5:(Int.tmod qV 2)=1
        ·rw[if_pos c5] at H;have Gc:((Int.tmod qV 2) == 1)=true:=beq_iff_eq.mpr c5;have Zf:((Int.tmod qV 2) != 1)=false:=bne_eq_false_iff_eq.mpr c5;clear c5;have H':=ah.mk H;clear H
         go_wp2
         go_roundg k2
         case measure=>have:=jY.out;have:=jG.out;omega
         case rel=>exact⟨(Go.bits .xor .i64 (wrap64 (Int.tdiv qV 2)) 2197175160),(wrap64 (iV+1)),eG,eG,H',⟨by have:=jY.out;have:=jG.out;omega⟩,by repeat (first|exact bH.refl _|apply bH.step)⟩
        rw[if_neg c5] at H;have Gc:((Int.tmod qV 2) == 1)=false:=beq_eq_false_iff_ne.mpr c5;have Zf:((Int.tmod qV 2) != 1)=true:=bne_iff_ne.mpr c5;have H':=ah.mk H;clear H
        go_wp2
        go_roundg k2
        case measure=>have:=jY.out;have:=jG.out;omega
        case rel=>exact⟨(wrap64 (Int.tdiv qV 2)),(wrap64 (iV+1)),eG,eG,H',⟨by have:=jY.out;have:=jG.out;omega⟩,by repeat (first|exact bH.refl _|apply bH.step)⟩
       rw[if_neg c4] at H;have nL:decide (iV<8)=false:=decide_eq_false c4;clear c4;have H':=ah.mk H;clear H
       go_wp2
       go_roundg k2
       case measure=>have:=jY.out;have:=jG.out;omega
       case rel=>exact⟨(qV),(wrap64 (eZ+1)),eG,eG,H',⟨by have:=jY.out;have:=jG.out;omega⟩,by repeat (first|exact bH.refl _|apply bH.step)⟩
    rw[if_neg c3] at H;exact absurd H bK
   rw[if_neg c2] at H;have Jh:decide (eZ<(l0.length:Int))=false:=decide_eq_false c2;clear c2;obtain rfl:=Option.some.inj H
   go_wp2
   go_ret
   exact⟨by first|rfl|(simp;done)|(simp[*];done),by repeat (first|exact bH.refl _|apply bH.step)⟩
def jX.f (k:Nat) (l0:List Int):Option (Int):=(bf.f k l0).bind fun t210=>(some t210)
theorem jX.mono:∀a0 k,bW (jX.f k a0) (jX.f (k+1) a0):=by
 intro a0 k;unfold jX.f
 repeat' first
   | (with_reducible exact bf.mono _ _)
   | (with_reducible exact bW.refl _)
   | (with_reducible exact bW.none _)
   | (with_reducible refine bW.ite ?_ ?_)
   | (with_reducible refine bW.bind ?_ (fun _=>?_))
   | exact bf.mono _ _
   | exact bW.none _
   | refine bW.ite ?_ ?_
   | refine bW.bind ?_ (fun _=>?_)
theorem jX.calls (k:Nat) (A0:Option Addr) (c0:Nat) (l0:List Int) (r:Int) (w:World) (hr0:Kd.C (Kd.int .u8) w A0 l0.length l0) (hc0:l0.length≤c0) (h:jX.f k l0=some r) :
  Calls Tryz.prog 47 #[.slice A0 l0.length c0] w fun e w'=>e=.returned (.int .i64 r)∧bH w w':=by
 have qP:=ah.mk hr0;have Qp:=ah.mk hc0;clear hr0 hc0;have H:((bf.f k l0).bind fun t210=>(some t210))=some r:=h;clear h;replace H:=Option.bind_eq_some_iff.mp H;obtain⟨t210,Sz,H⟩:=H;replace H:(some t210)=some r:=H;have A2:=ah.mk Sz;clear Sz;obtain rfl:=Option.some.inj H
 go_enter Tryz.func47,Tryz.ntmps47
 go_wp2_with (first|((with_reducible refine gu (f:=82) rfl ?_);refine oz (some 4) rfl rfl Tryz.func82 aA rfl #[.slice A0 l0.length c0] rfl nT ?_;(with_reducible refine (bf.calls k _ _ l0 t210 _ ?jy ?jA A2.out).mono ?_);(case jy=>repeat (first|exact qP.out|(with_reducible refine Kd.eO ?_ _)|(with_reducible refine Kd.dV ?_ _)|(with_reducible refine Kd.gL ?_)));(case jA=>exact Qp.out);rintro e w' ⟨rfl,⟨nd,rfl⟩⟩;refine⟨_,rfl,?_⟩))
 go_ret
 exact⟨by first|rfl|(simp;done)|(simp[*];done),by repeat (first|exact bH.refl _|apply bH.step)⟩
def aW.l0:Nat→List (dI)→List (dI)→Int→Option ((List (dI)))
 | 0,_,_,_=>none
 | k+1,x0,x3,x4=>if x4<(x0.length:Int) then (if 0≤x4 then (if x3.length<8796093022208 then (aW.l0 k x0 (x3++[(⟨(aK x0 x4).f0,(aK x0 x4).f1⟩:dI)]) (wrap64 (x4+1))) else (none)) else (none)) else (some x3)
def aW.f (k:Nat) (l0:List (dI)):Option ((List (dI))):=aW.l0 k l0 ([]:List (dI)) 0
theorem aW.fC:∀k,(∀y0 y1 y2,bW (aW.l0 k y0 y1 y2) (aW.l0 (k+1) y0 y1 y2))
 | 0=>fun _ _ _ r h=>by simp[aW.l0] at h
 | k+1=>by
  have j6:=aW.fC k
  ·intro y0 y1 y2;unfold aW.l0
   repeat' first
   | (with_reducible exact j6 _ _ _)
   | (with_reducible exact bW.refl _)
   | (with_reducible exact bW.none _)
   | (with_reducible refine bW.ite ?_ ?_)
   | (with_reducible refine bW.bind ?_ (fun _=>?_))
   | exact j6 _ _ _
   | exact bW.none _
   | refine bW.ite ?_ ?_
   | refine bW.bind ?_ (fun _=>?_)
theorem aW.mono:∀a0 k,bW (aW.f k a0) (aW.f (k+1) a0):=by
 intro a0 k;have j6:=aW.fC k;unfold aW.f
 repeat' first
   | (with_reducible exact j6 _ _ _)
   | (with_reducible exact bW.refl _)
   | (with_reducible exact bW.none _)
   | (with_reducible refine bW.ite ?_ ?_)
   | (with_reducible refine bW.bind ?_ (fun _=>?_))
   | exact j6 _ _ _
   | exact bW.none _
   | refine bW.ite ?_ ?_
   | refine bW.bind ?_ (fun _=>?_)
theorem aW.calls (k:Nat) (A0:Option Addr) (c0:Nat) (l0:List (dI)) (r:List (dI)) (w:World) (hr0:Kd.C dB w A0 l0.length l0) (hc0:l0.length≤c0) (h:aW.f k l0=some r) :
  Calls Tryz.prog 58 #[.slice A0 l0.length c0] w fun e w'=>∃xq:Value,e=.returned (xq)∧Kd.R dB 117 w' w.heap.size (fun _=>True) xq r∧Below w.heap.size w w':=by
 have SA:=Tryz.underlying117;have qP:=ah.mk hr0;have Qp:=ah.mk hc0;clear hr0 hc0;have HB:=ah.mk (Below.refl w.heap.size w);have H:(aW.l0 k l0 ([]:List (dI)) 0)=some r:=h;clear h;have H':=ah.mk H;clear H
 go_enter Tryz.func58,Tryz.ntmps58
 go_wp2
 go_loopg [3,4] k (fun kq v3 v4 w'=>∃(nK:List (dI)) (eZ:Int),v4=.int .i64 eZ∧ah (aW.l0 kq l0 nK eZ=some r)∧ah (kq≤k)∧ah (Kd.R dB 117 w' w.heap.size (fun _=>True) v3 nK)∧ah (Below w.heap.size w w'))
 case atStart=>exact⟨(([]:List (dI))),(0),eG,H',⟨Nat.le_refl _⟩,⟨by first|exact Kd.eY _ _ _ _ _|exact Kd.Ob _ _ _ _ _|exact Kd.Oc _ _ _ _ _|exact Kd.Od _ _ _ _ _|exact Kd.Gd _ _ _ _ _⟩,⟨by repeat (first|(with_reducible first|exact HB.out|apply aH|apply av|apply aI)|exact HB.out)⟩⟩
 case round=>
  clear H';obtain⟨nK,eZ,rfl,HA,jY,wQ,HB⟩:=hrel
  cases gk with
  | zero=>exact absurd HA.out (by simp[aW.l0])
  | succ k1=>
   have H:=HA.out;clear HA;simp only[aW.l0] at H
   by_cases c2:eZ<(l0.length:Int)
   ·rw[if_pos c2] at H;have Jh:decide (eZ<(l0.length:Int))=true:=decide_eq_true c2;clear c2;by_cases c3:0≤eZ
    ·rw[if_pos c3] at H;have o9:decide (0≤eZ)=true:=decide_eq_true c3;clear c3;by_cases c4:nK.length<8796093022208
     ·rw[if_pos c4] at H;have adp:=ah.mk c4;clear c4
      obtain⟨agF,Oe⟩:∃y_:List (dI),y_=(nK++[(⟨(aK l0 eZ).f0,(aK l0 eZ).f1⟩:dI)]):=⟨_,rfl⟩
      replace H:(aW.l0 k1 l0 agF (wrap64 (eZ+1)))=some r:=by first|(rw[Oe];with_reducible exact H)|(have Ai:=(Option.bind_some _ _).symm.trans H;rw[Oe];with_reducible exact Ai)|(have Ai:=(Option.bind_some _ _).symm.trans H;with_reducible exact Ai)|with_reducible exact H|(rw[Oe];exact H)|exact H
      have agG:=ah.mk Oe;clear Oe;have H':=ah.mk H;clear H;have adq:0≤(eZ:Int):=of_decide_eq_true bS;have adr:eZ<(l0.length:Int):=of_decide_eq_true bS;obtain⟨apq,e211,Le,Lf⟩:=dP qP.out eZ adq adr;cases e211;replace Le:=(HB.out.cell (World.block_lt_of_cell? w _ Le)).trans Le;replace Lf:=(HB.out.cell (World.block_lt_of_cell? w _ Lf)).trans Lf;replace adq:=eq_true adq;replace adr:=eq_true adr
      go_wp2_with (first|((with_reducible refine dx (b:=.append) (xs:=#[.tmp 11,.tmp 16]) rfl ?_);at_builtin;refine Kd.mP dB (w0:=w) w.heap.size rfl (.tmp 11) (.tmp 16) 26 117 (.agg #[(.int .i64 0),(.int .i64 0)]) 16 rfl Tryz.underlying26 EF rfl aD aj u3 nK (⟨(aK l0 eZ).f0,(aK l0 eZ).f1⟩:dI) [.int .i64 ((aK l0 eZ).f0),.int .i64 ((aK l0 eZ).f1)] (fun _=>True) (fun _=>False) rfl rfl ?aP (fun _ hk=>hk.elim) ?aF ?aO ?aB ?aS ?aL ?_;(case aP=>exact wY _ _ _ (⟨(aK l0 eZ).f0,(aK l0 eZ).f1⟩:dI));(case aB=>exact dL);(case aF=>exact (fun _ _=>trivial));(case aO=>exact (by (with_reducible repeat (first|apply Kd.dJ|apply Kd.dK|apply Kd.dY));exact wQ.out));(case aS=>exact (bB dL));(case aL=>have:=adp.out;omega);intro ar1 w5 ho hb hg hat;rw[← agG.out] at ho;have fD:=ah.mk (hb);have gy:=ah.mk (ho);clear HB;clear wQ;have HB:=fD;have agH:=gy;clear fD gy;clear ho hb hg hat))
      go_roundg k1
      case measure=>have:=jY.out;omega
      case rel=>exact⟨(agF),(wrap64 (eZ+1)),eG,H',⟨by have:=jY.out;omega⟩,⟨by (with_reducible repeat (first|apply Kd.dJ|apply Kd.dK|apply Kd.dY));exact agH.out⟩,⟨by repeat (first|(with_reducible first|exact HB.out|apply aH|apply av|apply aI)|exact HB.out)⟩⟩
     rw[if_neg c4] at H;exact absurd H bK
    rw[if_neg c3] at H;exact absurd H bK
   rw[if_neg c2] at H;have Jh:decide (eZ<(l0.length:Int))=false:=decide_eq_false c2;clear c2;obtain rfl:=Option.some.inj H
   go_wp2
   go_ret
   exact⟨_,by first|rfl|(simp[aX,aY] <;> rfl)|(simp[*,aX,aY] <;> rfl),by (with_reducible repeat (first|apply Kd.dJ|apply Kd.dK|apply Kd.dY));exact wQ.out,by repeat (first|(with_reducible first|exact HB.out|apply aH|apply av|apply aI)|exact HB.out)⟩
def cZ.f (k:Nat) (dh:Int) (cO:ByteArray) (dz:ByteArray) (bX:Int) (bQ:List (dI)) (bU:List Int):Option (Int × ByteArray × ByteArray × Int × (List (dI)) × List Int):=(aW.f k bQ).bind fun Bv=>((aV.f k bU).bind fun Dm=>(some (dh,cO,dz,bX,Bv,Dm)))
theorem cZ.mono:∀a0 a1 a2 a3 a4 a5 k,bW (cZ.f k a0 a1 a2 a3 a4 a5) (cZ.f (k+1) a0 a1 a2 a3 a4 a5):=by
 intro a0 a1 a2 a3 a4 a5 k;unfold cZ.f
 repeat' first
   | (with_reducible exact aV.mono _ _)
   | (with_reducible exact aW.mono _ _)
   | (with_reducible exact bW.refl _)
   | (with_reducible exact bW.none _)
   | (with_reducible refine bW.ite ?_ ?_)
   | (with_reducible refine bW.bind ?_ (fun _=>?_))
   | exact aV.mono _ _
   | exact aW.mono _ _
   | exact bW.none _
   | refine bW.ite ?_ ?_
   | refine bW.bind ?_ (fun _=>?_)
theorem cZ.calls (k:Nat) (dh:Int) (cO:ByteArray) (dz:ByteArray) (bX:Int) (gF:Option Addr) (eD:Nat) (bQ:List (dI)) (eB:Option Addr) (eu:Nat) (bU:List Int) (r1:Int) (r2:ByteArray) (r3:ByteArray) (r4:Int) (r5:List (dI)) (r6:List Int) (w:World) (qm:Kd.C dB w gF bQ.length bQ) (rA:bQ.length≤eD) (qK:Kd.C (Kd.int .u8) w eB bU.length bU) (tC:bU.length≤eu) (h:cZ.f k dh cO dz bX bQ bU=some (r1,r2,r3,r4,r5,r6)) :
  Calls Tryz.prog 54 #[.agg #[.int .i64 dh,.string cO,.string dz,.int .i64 bX,.slice gF bQ.length eD,.slice eB bU.length eu]] w fun e w'=>∃v4_ v5_:Value,e=.returned (.agg #[.int .i64 r1,.string r2,.string r3,.int .i64 r4,v4_,v5_])∧Kd.R dB 117 w' w.heap.size (fun _=>True) v4_ r5∧Kd.R (Kd.int .u8) 5 w' w.heap.size (fun _=>True) v5_ r6∧Below w.heap.size w w':=by
 have Qq:=Tryz.underlying29;have vw:=ah.mk qm;have D6:=ah.mk rA;clear qm rA;have Bw:=ah.mk qK;have Gf:=ah.mk tC;clear qK tC;have HB:=ah.mk (Below.refl w.heap.size w);have H:((aW.f k bQ).bind fun Bv=>((aV.f k bU).bind fun Dm=>(some (dh,cO,dz,bX,Bv,Dm))))=some (r1,r2,r3,r4,r5,r6):=h;clear h;replace H:=Option.bind_eq_some_iff.mp H;obtain⟨Bv,Sz,H⟩:=H;replace H:((aV.f k bU).bind fun Dm=>(some (dh,cO,dz,bX,Bv,Dm)))=some (r1,r2,r3,r4,r5,r6):=H;have A2:=ah.mk Sz;clear Sz;replace H:=Option.bind_eq_some_iff.mp H;obtain⟨Dm,SB,H⟩:=H;replace H:(some (dh,cO,dz,bX,Bv,Dm))=some (r1,r2,r3,r4,r5,r6):=H;have A3:=ah.mk SB;clear SB;simp only[Option.some.injEq,Prod.mk.injEq] at H;obtain⟨rfl,rfl,rfl,rfl,rfl,rfl⟩:=H
 go_enter Tryz.func54,Tryz.ntmps54
 go_wp2_with (first|((with_reducible refine fJ (N:=1) rfl ?_);refine fA ?hg (N:=1) ?hd (cs:=#[.int .i64 dh,.string cO,.string dz,.int .i64 bX,.slice gF bQ.length eD,.slice eB bU.length eu]) (t:=29) ?hr ?_;(case hd=>rfl);(case hg=>rfl);(case hr=>first|(go_simp;done)|(go_simp;rfl));intro jR hg w4 eH hb;have fD:=ah.mk (bO dL hb);have gy:=ah.mk (eH);have iE:=ah.mk ((by rw[hg];exact (bB dL):w.heap.size≤jR));have jS:=ah.mk ((by rw[hg];exact (bB dL):w.heap.size≤jR));clear HB;have HB:=fD;have fH:=gy;have apr:=iE;have Bz:=jS;clear fD gy iE jS;clear hb eH hg)|((with_reducible refine fJ (N:=2) rfl ?_);refine fA ?hg (N:=2) ?hd (cs:=#[.int .i64 0,.string (⟨#[]⟩:ByteArray),.string (⟨#[]⟩:ByteArray),.int .i64 0,.slice none 0 0,.slice none 0 0]) (t:=29) ?hr ?_;(case hd=>rfl);(case hg=>rfl);(case hr=>first|(go_simp;done)|(go_simp;rfl));intro lT hg w5 eH hb;have fD:=ah.mk (aG (g:=jR) (o:=.cells #[.int .i64 dh,.string cO,.string dz,.int .i64 bX,.slice gF bQ.length eD,.slice eB bU.length eu] 29 (0,0)) (by (with_reducible repeat (first|refine bD ?_ _|refine bI ?_|refine aM ?_ _));exact fH.out) hb);have gy:=ah.mk (bO (by repeat (first|(with_reducible first|exact HB.out|apply aH|apply av|apply aI|refine aR ?_ Bz.out)|exact HB.out)) hb);have iE:=ah.mk (eH);have jS:=ah.mk ((by rw[hg];exact (bB (by repeat (first|(with_reducible first|exact HB.out|apply aH|apply av|apply aI|refine aR ?_ Bz.out)|exact HB.out))):w.heap.size≤lT));have vB:=ah.mk ((by rw[hg];exact (bB (by repeat (first|(with_reducible first|exact HB.out|apply aH|apply av|apply aI|refine aR ?_ Bz.out)|exact HB.out))):w.heap.size≤lT));have zF:=ah.mk ((by rw[hg];exact Nat.ne_of_lt (bE (g:=jR) (o:=.cells #[.int .i64 dh,.string cO,.string dz,.int .i64 bX,.slice gF bQ.length eD,.slice eB bU.length eu] 29 (0,0)) (by (with_reducible repeat (first|refine bD ?_ _|refine bI ?_|refine aM ?_ _));exact fH.out)):jR≠lT));have BA:=ah.mk ((by rw[hg];exact Nat.ne_of_gt (bE (g:=jR) (o:=.cells #[.int .i64 dh,.string cO,.string dz,.int .i64 bX,.slice gF bQ.length eD,.slice eB bU.length eu] 29 (0,0)) (by (with_reducible repeat (first|refine bD ?_ _|refine bI ?_|refine aM ?_ _));exact fH.out)):lT≠jR));clear fH;clear HB;have fH:=fD;have HB:=gy;have nU:=iE;have aps:=jS;have Kk:=vB;have UC:=zF;have Dn:=BA;clear fD gy iE jS vB zF BA;clear hb eH hg;have ar2:=UC.out;have ar3:=Dn.out;have Lg:w5.cell? ⟨jR,0,none⟩=some (.int .i64 dh):=(ak fH.out 0).trans rfl;have Lh:w5.cell? ⟨jR,1,none⟩=some (.string cO):=(ak fH.out 1).trans rfl;have ami:w5.cell? ⟨jR,2,none⟩=some (.string dz):=(ak fH.out 2).trans rfl;have amj:w5.cell? ⟨jR,3,none⟩=some (.int .i64 bX):=(ak fH.out 3).trans rfl;have amk:w5.cell? ⟨jR,4,none⟩=some (.slice gF bQ.length eD):=(ak fH.out 4).trans rfl;have aml:w5.cell? ⟨jR,5,none⟩=some (.slice eB bU.length eu):=(ak fH.out 5).trans rfl;have Li:=ay fH.out 0;have Lj:=ay fH.out 1;have amm:=ay fH.out 2;have amn:=ay fH.out 3;have amo:=ay fH.out 4;have amq:=ay fH.out 5)|((with_reducible refine gu (f:=58) rfl ?_);refine oz (some 5) rfl rfl Tryz.func58 aA rfl #[.slice gF bQ.length eD] rfl nT ?_;(with_reducible refine (aW.calls k _ _ bQ Bv _ ?jy ?jA A2.out).mono ?_);(case jy=>repeat (first|exact (Kd.aC vw.out HB.out)|(with_reducible refine Kd.eO ?_ _)|(with_reducible refine Kd.dV ?_ _)|(with_reducible refine Kd.gL ?_)));(case jA=>exact D6.out);rintro e w8 ⟨v218,rfl,ho0,hb⟩;refine⟨_,rfl,?_⟩;have fD:=ah.mk (Kd.fQ ho0 (bB (by repeat (first|(with_reducible first|exact HB.out|apply aH|apply av|apply aI|refine aR ?_ Bz.out|refine aR ?_ Kk.out)|exact HB.out))));have gy:=ah.mk (aG (g:=jR) (o:=.cells #[.int .i64 dh,.string cO,.string dz,.int .i64 bX,.slice gF bQ.length eD,.slice eB bU.length eu] 29 (0,0)) (by (with_reducible repeat (first|refine bD ?_ _|refine bI ?_|refine aM ?_ _));exact fH.out) hb);have iE:=ah.mk (aG (g:=lT) (o:=.cells #[.int .i64 0,.string (⟨#[]⟩:ByteArray),.string (⟨#[]⟩:ByteArray),.int .i64 0,.slice none 0 0,.slice none 0 0] 29 (0,0)) (by (with_reducible repeat (first|refine bD ?_ _|refine bI ?_|refine aM ?_ _));exact nU.out) hb);have jS:=ah.mk (bO (by repeat (first|(with_reducible first|exact HB.out|apply aH|apply av|apply aI|refine aR ?_ Bz.out|refine aR ?_ Kk.out)|exact HB.out)) hb);clear fH;clear nU;clear HB;have Og:=fD;have fH:=gy;have nU:=iE;have HB:=jS;clear fD gy iE jS;(try clear hb);(try clear hb2);(try clear hk);(try clear hi);(try clear ho0);obtain⟨Ji,Gg,Yu⟩:=Kd.bG Og.out;subst Yu;have ajj:w8.cell? ⟨jR,0,none⟩=some (.int .i64 dh):=(ak fH.out 0).trans rfl;have ajk:w8.cell? ⟨jR,1,none⟩=some (.string cO):=(ak fH.out 1).trans rfl;have ajl:w8.cell? ⟨jR,2,none⟩=some (.string dz):=(ak fH.out 2).trans rfl;have ajm:w8.cell? ⟨jR,3,none⟩=some (.int .i64 bX):=(ak fH.out 3).trans rfl;have ajn:w8.cell? ⟨jR,4,none⟩=some (.slice gF bQ.length eD):=(ak fH.out 4).trans rfl;have ajo:w8.cell? ⟨jR,5,none⟩=some (.slice eB bU.length eu):=(ak fH.out 5).trans rfl;have ajp:=ay fH.out 0;have ajq:=ay fH.out 1;have ajr:=ay fH.out 2;have ajs:=ay fH.out 3;have ajt:=ay fH.out 4;have aju:=ay fH.out 5)|((with_reducible refine gu (f:=23) rfl ?_);refine oz (some 9) rfl rfl Tryz.func23 aA rfl #[.slice eB bU.length eu] rfl nT ?_;(with_reducible refine (aV.calls k _ _ bU Dm _ ?jy ?jA A3.out).mono ?_);(case jy=>exact Kd.aC Bw.out (by repeat (first|(with_reducible first|exact HB.out|apply aH|apply av|apply aI|refine aR ?_ Bz.out|refine aR ?_ Kk.out)|exact HB.out)));(case jA=>exact Gf.out);rintro e FJ ⟨ar4,rfl,ho0,hb⟩;refine⟨_,rfl,?_⟩;have fD:=ah.mk (Kd.dF (by (with_reducible repeat (first|apply Kd.dJ|apply Kd.dK|apply Kd.dY));exact (Kd.dU (Kd.jK (p:=⟨jR,4,none⟩) (Kd.pz Og.out fH.out aD) (fun _ hk=>hk.2) (.slice Ji Bv.length Gg)) (fun _ h_=>h_.1))) hb);have gy:=ah.mk (Kd.fQ ho0 (bB (by repeat (first|(with_reducible first|exact HB.out|apply aH|apply av|apply aI|refine aR ?_ Bz.out|refine aR ?_ Kk.out)|exact HB.out))));have iE:=ah.mk (aG (g:=jR) (o:=.cells #[.int .i64 dh,.string cO,.string dz,.int .i64 bX,.slice Ji Bv.length Gg,.slice eB bU.length eu] 29 (0,0)) (by (with_reducible repeat (first|refine bD ?_ _|refine bI ?_|refine aM ?_ _));refine iC (cs:=#[.int .i64 dh,.string cO,.string dz,.int .i64 bX,.slice gF bQ.length eD,.slice eB bU.length eu]) ?_ 4 _ rfl;(with_reducible repeat (first|refine bD ?_ _|refine bI ?_|refine aM ?_ _));exact fH.out) hb);have jS:=ah.mk (aG (g:=lT) (o:=.cells #[.int .i64 0,.string (⟨#[]⟩:ByteArray),.string (⟨#[]⟩:ByteArray),.int .i64 0,.slice none 0 0,.slice none 0 0] 29 (0,0)) (by (with_reducible repeat (first|refine bD ?_ _|refine bI ?_|refine aM ?_ _));refine iL ?_ Dn.out _;(with_reducible repeat (first|refine bD ?_ _|refine bI ?_|refine aM ?_ _));exact nU.out) hb);have vB:=ah.mk (bO (by repeat (first|(with_reducible first|exact HB.out|apply aH|apply av|apply aI|refine aR ?_ Bz.out|refine aR ?_ Kk.out)|exact HB.out)) hb);clear Og;clear fH;clear nU;clear HB;have Og:=fD;have abY:=gy;have fH:=iE;have nU:=jS;have HB:=vB;clear fD gy iE jS vB;(try clear hb);(try clear hb2);(try clear hk);(try clear hi);(try clear ho0);obtain⟨WL,WM,amr⟩:=Kd.bG abY.out;subst amr;have Zg:FJ.cell? ⟨jR,0,none⟩=some (.int .i64 dh):=(ak fH.out 0).trans rfl;have Zh:FJ.cell? ⟨jR,1,none⟩=some (.string cO):=(ak fH.out 1).trans rfl;have ajv:FJ.cell? ⟨jR,2,none⟩=some (.string dz):=(ak fH.out 2).trans rfl;have ajw:FJ.cell? ⟨jR,3,none⟩=some (.int .i64 bX):=(ak fH.out 3).trans rfl;have ajx:FJ.cell? ⟨jR,4,none⟩=some (.slice Ji Bv.length Gg):=(ak fH.out 4).trans rfl;have ajy:FJ.cell? ⟨jR,5,none⟩=some (.slice eB bU.length eu):=(ak fH.out 5).trans rfl;have Zi:=ay fH.out 0;have Zj:=ay fH.out 1;have ajz:=ay fH.out 2;have ajA:=ay fH.out 3;have ajB:=ay fH.out 4;have ajC:=ay fH.out 5;have Ll:FJ.cell? ⟨lT,0,none⟩=some (.int .i64 0):=(ak nU.out 0).trans rfl;have Lm:FJ.cell? ⟨lT,1,none⟩=some (.string (⟨#[]⟩:ByteArray)):=(ak nU.out 1).trans rfl;have SE:FJ.cell? ⟨lT,2,none⟩=some (.string (⟨#[]⟩:ByteArray)):=(ak nU.out 2).trans rfl;have SF:FJ.cell? ⟨lT,3,none⟩=some (.int .i64 0):=(ak nU.out 3).trans rfl;have SG:FJ.cell? ⟨lT,4,none⟩=some (.slice none 0 0):=(ak nU.out 4).trans rfl;have SH:FJ.cell? ⟨lT,5,none⟩=some (.slice none 0 0):=(ak nU.out 5).trans rfl;have Lp:=ay nU.out 0;have Lr:=ay nU.out 1;have SI:=ay nU.out 2;have SK:=ay nU.out 3;have SL:=ay nU.out 4;have SN:=ay nU.out 5))
 refine bodyPost_ret (results_cell_row rfl _ _ lT 29 #[.int .i64 dh,.string cO,.string dz,.int .i64 bX,.slice Ji Bv.length Gg,.slice WL Dm.length WM] (0,0) _ rfl (by (with_reducible repeat (first|refine bD ?_ _|refine bI ?_|refine aM ?_ _));refine iC (cs:=#[.int .i64 dh,.string cO,.string dz,.int .i64 bX,.slice Ji Bv.length Gg,.slice none 0 0]) ?_ 5 _ rfl;(with_reducible repeat (first|refine bD ?_ _|refine bI ?_|refine aM ?_ _));refine iC (cs:=#[.int .i64 dh,.string cO,.string dz,.int .i64 bX,.slice none 0 0,.slice none 0 0]) ?_ 4 _ rfl;(with_reducible repeat (first|refine bD ?_ _|refine bI ?_|refine aM ?_ _));refine iC (cs:=#[.int .i64 dh,.string cO,.string dz,.int .i64 0,.slice none 0 0,.slice none 0 0]) ?_ 3 _ rfl;(with_reducible repeat (first|refine bD ?_ _|refine bI ?_|refine aM ?_ _));refine iC (cs:=#[.int .i64 dh,.string cO,.string (⟨#[]⟩:ByteArray),.int .i64 0,.slice none 0 0,.slice none 0 0]) ?_ 2 _ rfl;(with_reducible repeat (first|refine bD ?_ _|refine bI ?_|refine aM ?_ _));refine iC (cs:=#[.int .i64 dh,.string (⟨#[]⟩:ByteArray),.string (⟨#[]⟩:ByteArray),.int .i64 0,.slice none 0 0,.slice none 0 0]) ?_ 1 _ rfl;(with_reducible repeat (first|refine bD ?_ _|refine bI ?_|refine aM ?_ _));refine iC (cs:=#[.int .i64 0,.string (⟨#[]⟩:ByteArray),.string (⟨#[]⟩:ByteArray),.int .i64 0,.slice none 0 0,.slice none 0 0]) ?_ 0 _ rfl;(with_reducible repeat (first|refine bD ?_ _|refine bI ?_|refine aM ?_ _));refine iL ?_ Dn.out _;(with_reducible repeat (first|refine bD ?_ _|refine bI ?_|refine aM ?_ _));exact nU.out) Tryz.underlying29 rfl aA) rfl ?_;exact⟨_,_,by first|rfl|(simp[aX,aY] <;> rfl)|(simp[*,aX,aY] <;> rfl),by (with_reducible repeat (first|apply Kd.dJ|apply Kd.dK|apply Kd.dY));exact Kd.dU (Kd.jK (p:=⟨lT,5,none⟩) (Kd.jK (p:=⟨lT,4,none⟩) (Kd.jK (p:=⟨lT,3,none⟩) (Kd.jK (p:=⟨lT,2,none⟩) (Kd.jK (p:=⟨lT,1,none⟩) (Kd.jK (p:=⟨lT,0,none⟩) (Kd.jK (p:=⟨jR,5,none⟩) (Kd.pz (Kd.pz Og.out fH.out aD) nU.out aD) (fun _ hk=>hk.1.2) (.slice WL Dm.length WM)) (fun _ hk=>hk.2) (.int .i64 dh)) (fun _ hk=>hk.2) (.string cO)) (fun _ hk=>hk.2) (.string dz)) (fun _ hk=>hk.2) (.int .i64 bX)) (fun _ hk=>hk.2) (.slice Ji Bv.length Gg)) (fun _ hk=>hk.2) (.slice WL Dm.length WM)) (fun _ hk=>trivial),by (with_reducible repeat (first|apply Kd.dJ|apply Kd.dK|apply Kd.dY));exact Kd.dU (Kd.jK (p:=⟨lT,5,none⟩) (Kd.jK (p:=⟨lT,4,none⟩) (Kd.jK (p:=⟨lT,3,none⟩) (Kd.jK (p:=⟨lT,2,none⟩) (Kd.jK (p:=⟨lT,1,none⟩) (Kd.jK (p:=⟨lT,0,none⟩) (Kd.jK (p:=⟨jR,5,none⟩) (Kd.pz (Kd.pz abY.out fH.out aD) nU.out aD) (fun _ hk=>hk.1.2) (.slice WL Dm.length WM)) (fun _ hk=>hk.2) (.int .i64 dh)) (fun _ hk=>hk.2) (.string cO)) (fun _ hk=>hk.2) (.string dz)) (fun _ hk=>hk.2) (.int .i64 bX)) (fun _ hk=>hk.2) (.slice Ji Bv.length Gg)) (fun _ hk=>hk.2) (.slice WL Dm.length WM)) (fun _ hk=>trivial),by repeat (first|(with_reducible first|exact HB.out|apply aH|apply av|apply aI|refine aR ?_ Bz.out|refine aR ?_ Kk.out)|exact HB.out)⟩
def bC.l0:Nat→List (nI)→List (nI)→Int→Option ((List (nI)))
 | 0,_,_,_=>none
 | k+1,x0,x3,x4=>if x4<(x0.length:Int) then (if 0≤x4 then ((cZ.f k ((aJ x0 x4).f0) ((aJ x0 x4).f1) ((aJ x0 x4).f2) ((aJ x0 x4).f3) ((aJ x0 x4).f4) ((aJ x0 x4).f5)).bind fun Kl=>(if x3.length<1466015503701 then (bC.l0 k x0 (x3++[(⟨Kl.1,Kl.2.1,Kl.2.2.1,Kl.2.2.2.1,Kl.2.2.2.2.1,Kl.2.2.2.2.2⟩:nI)]) (wrap64 (x4+1))) else (none))) else (none)) else (some x3)
def bC.f (k:Nat) (l0:List (nI)):Option ((List (nI))):=bC.l0 k l0 ([]:List (nI)) 0
theorem bC.fC:∀k,(∀y0 y1 y2,bW (bC.l0 k y0 y1 y2) (bC.l0 (k+1) y0 y1 y2))
 | 0=>fun _ _ _ r h=>by simp[bC.l0] at h
 | k+1=>by
  have j6:=bC.fC k
  ·intro y0 y1 y2;unfold bC.l0
   repeat' first
   | (with_reducible exact j6 _ _ _)
   | (with_reducible exact cZ.mono _ _ _ _ _ _ _)
   | (with_reducible exact bW.refl _)
   | (with_reducible exact bW.none _)
   | (with_reducible refine bW.ite ?_ ?_)
   | (with_reducible refine bW.bind ?_ (fun _=>?_))
   | exact j6 _ _ _
   | exact cZ.mono _ _ _ _ _ _ _
   | exact bW.none _
   | refine bW.ite ?_ ?_
   | refine bW.bind ?_ (fun _=>?_)
theorem bC.mono:∀a0 k,bW (bC.f k a0) (bC.f (k+1) a0):=by
 intro a0 k;have j6:=bC.fC k;unfold bC.f
 repeat' first
   | (with_reducible exact j6 _ _ _)
   | (with_reducible exact cZ.mono _ _ _ _ _ _ _)
   | (with_reducible exact bW.refl _)
   | (with_reducible exact bW.none _)
   | (with_reducible refine bW.ite ?_ ?_)
   | (with_reducible refine bW.bind ?_ (fun _=>?_))
   | exact j6 _ _ _
   | exact cZ.mono _ _ _ _ _ _ _
   | exact bW.none _
   | refine bW.ite ?_ ?_
   | refine bW.bind ?_ (fun _=>?_)
theorem bC.calls (k:Nat) (A0:Option Addr) (c0:Nat) (l0:List (nI)) (r:List (nI)) (w:World) (hr0:Kd.C om w A0 l0.length l0) (hc0:l0.length≤c0) (h:bC.f k l0=some r) :
  Calls Tryz.prog 19 #[.slice A0 l0.length c0] w fun e w'=>∃xq:Value,e=.returned (xq)∧Kd.S om 29 w' w.heap.size (fun _=>True) xq r∧Below w.heap.size w w':=by
 have Qq:=Tryz.underlying29;have qP:=ah.mk hr0;have Qp:=ah.mk hc0;clear hr0 hc0;have HB:=ah.mk (Below.refl w.heap.size w);have H:(bC.l0 k l0 ([]:List (nI)) 0)=some r:=h;clear h;have H':=ah.mk H;clear H
 go_enter Tryz.func19,Tryz.ntmps19
 go_wp2
 go_loopg [3,4] k (fun kq v3 v4 w'=>∃(nK:List (nI)) (eZ:Int),v4=.int .i64 eZ∧ah (bC.l0 kq l0 nK eZ=some r)∧ah (kq≤k)∧ah (Kd.S om 29 w' w.heap.size (fun _=>True) v3 nK)∧ah (Below w.heap.size w w'))
 case atStart=>exact⟨(([]:List (nI))),(0),eG,H',⟨Nat.le_refl _⟩,⟨by first|exact Kd.Gd _ _ _ _ _|exact Kd.Ob _ _ _ _ _|exact Kd.Oc _ _ _ _ _|exact Kd.Od _ _ _ _ _|exact Kd.eY _ _ _ _ _⟩,⟨by repeat (first|(with_reducible first|exact HB.out|apply aH|apply av|apply aI)|exact HB.out)⟩⟩
 case round=>
  clear H'
  try clear c1
  obtain⟨nK,eZ,rfl,HA,jY,wQ,HB⟩:=hrel
  cases gk with
  | zero=>exact absurd HA.out (by simp[bC.l0])
  | succ k1=>
   have H:=HA.out;clear HA;simp only[bC.l0] at H
   by_cases c2:eZ<(l0.length:Int)
   ·rw[if_pos c2] at H;have Jh:decide (eZ<(l0.length:Int))=true:=decide_eq_true c2;clear c2;by_cases c3:0≤eZ
    ·rw[if_pos c3] at H;have o9:decide (0≤eZ)=true:=decide_eq_true c3;clear c3;replace H:=Option.bind_eq_some_iff.mp H;obtain⟨⟨UD,UE,t226,t227,t228,Qr⟩,SQ,H⟩:=H;replace H:(if nK.length<1466015503701 then (bC.l0 k1 l0 (nK++[(⟨UD,UE,t226,t227,t228,Qr⟩:nI)]) (wrap64 (eZ+1))) else (none))=some r:=H;have A4:=ah.mk SQ;clear SQ;by_cases c5:nK.length<1466015503701
     ·rw[if_pos c5] at H;have ams:=ah.mk c5;clear c5
      obtain⟨agK,Oh⟩:∃y_:List (nI),y_=(nK++[(⟨UD,UE,t226,t227,t228,Qr⟩:nI)]):=⟨_,rfl⟩
      replace H:(bC.l0 k1 l0 agK (wrap64 (eZ+1)))=some r:=by first|(rw[Oh];with_reducible exact H)|(have Ai:=(Option.bind_some _ _).symm.trans H;rw[Oh];with_reducible exact Ai)|(have Ai:=(Option.bind_some _ _).symm.trans H;with_reducible exact Ai)|with_reducible exact H|(rw[Oh];exact H)|exact H
      have agL:=ah.mk Oh;clear Oh;have H':=ah.mk H;clear H;have ads:0≤(eZ:Int):=of_decide_eq_true bS;have adt:eZ<(l0.length:Int):=of_decide_eq_true bS;obtain⟨apt,adu,adv,adw,adx,e223,Ls,Lu,Lv,Lx,LA,LB,SS,SV,SX,SY⟩:=oo qP.out eZ ads adt;cases e223;replace Ls:=(HB.out.cell (World.block_lt_of_cell? w _ Ls)).trans Ls;replace Lu:=(HB.out.cell (World.block_lt_of_cell? w _ Lu)).trans Lu;replace Lv:=(HB.out.cell (World.block_lt_of_cell? w _ Lv)).trans Lv;replace Lx:=(HB.out.cell (World.block_lt_of_cell? w _ Lx)).trans Lx;replace LA:=(HB.out.cell (World.block_lt_of_cell? w _ LA)).trans LA;replace LB:=(HB.out.cell (World.block_lt_of_cell? w _ LB)).trans LB;have Zk:=ah.mk SV;have Zl:=ah.mk SS;clear SV SS;have Zm:=ah.mk SY;have Zn:=ah.mk SX;clear SY SX;replace ads:=eq_true ads;replace adt:=eq_true adt
      go_wp2_with (first|((with_reducible refine gu (f:=54) rfl ?_);refine oz (some 16) rfl rfl Tryz.func54 aA rfl #[.agg #[.int .i64 ((aJ l0 eZ).f0),.string ((aJ l0 eZ).f1),.string ((aJ l0 eZ).f2),.int .i64 ((aJ l0 eZ).f3),.slice adu ((aJ l0 eZ).f4).length adv,.slice adw ((aJ l0 eZ).f5).length adx]] rfl nT ?_;(with_reducible refine (cZ.calls k1 ((aJ l0 eZ).f0) ((aJ l0 eZ).f1) ((aJ l0 eZ).f2) ((aJ l0 eZ).f3) _ _ ((aJ l0 eZ).f4) _ _ ((aJ l0 eZ).f5) UD UE t226 t227 t228 Qr _ ?jy ?jA ?tF ?tH A4.out).mono ?_);(case jy=>repeat (first|exact (Kd.aC Zk.out HB.out)|(with_reducible refine Kd.eO ?_ _)|(with_reducible refine Kd.dV ?_ _)|(with_reducible refine Kd.gL ?_)));(case jA=>exact Zl.out);(case tF=>repeat (first|exact (Kd.aC Zm.out HB.out)|(with_reducible refine Kd.eO ?_ _)|(with_reducible refine Kd.dV ?_ _)|(with_reducible refine Kd.gL ?_)));(case tH=>exact Zn.out);rintro e w6 ⟨v229,v232,rfl,ho0,ho1,hb⟩;refine⟨_,rfl,?_⟩;have fD:=ah.mk (Kd.sS (Kd.WO (Kd.WO (Kd.S9 (by (with_reducible repeat (first|apply Kd.mq|apply Kd.nY|apply Kd.qW));exact wQ.out) hb) (Kd.sV ho0)) (Kd.sV ho1)) (fun _ h_=>h_.1));have gy:=ah.mk (Kd.fQ ho0 (bB dL));have iE:=ah.mk (Kd.fQ ho1 (bB dL));have jS:=ah.mk (bO dL hb);clear wQ;clear HB;have wQ:=fD;have Ta:=gy;have Tc:=iE;have HB:=jS;clear fD gy iE jS;(try clear hb);(try clear hb2);(try clear hk);(try clear hi);(try clear ho0);(try clear ho1);obtain⟨Ao8,co8,eo8⟩:=Kd.bG Ta.out;subst eo8;obtain⟨Ji,Gg,Yu⟩:=Kd.bG Tc.out;subst Yu)|((with_reducible refine dx (b:=.append) (xs:=#[.tmp 11,.tmp 17]) rfl ?_);at_builtin;refine Kd.WQ om (w0:=w) w.heap.size rfl (.tmp 11) (.tmp 17) 25 29 (.agg #[(.int .i64 0),(.string ⟨#[]⟩),(.string ⟨#[]⟩),(.int .i64 0),(.slice none 0 0),(.slice none 0 0)]) 96 rfl Tryz.underlying25 acJ rfl aD aj u3 nK (⟨UD,UE,t226,t227,t228,Qr⟩:nI) [.int .i64 UD,.string UE,.string t226,.int .i64 t227,.slice Ao8 t228.length co8,.slice Ji Qr.length Gg] (fun _=>True) (fun k_=>some k_=(.slice Ao8 t228.length co8:Value).ownBlock∨some k_=(.slice Ji Qr.length Gg:Value).ownBlock) rfl rfl ?aP (fun k_ hk_=>hk_.elim (fun h_=>((Kd.dU (ok':=fun k_=>((fun _=>True)) k_∧some k_≠(u3:Value).ownBlock) (Kd.BD (Ta.out) (Kd.EK wQ.out) aD) (fun k_ hk=>⟨trivial,hk.2⟩))).1 k_ h_.symm) (fun h_=>((Kd.dU (ok':=fun k_=>((fun _=>True)) k_∧some k_≠(u3:Value).ownBlock) (Kd.BD (Tc.out) (Kd.EK wQ.out) aD) (fun k_ hk=>⟨trivial,hk.2⟩))).1 k_ h_.symm)) ?aF ?aO ?aB ?aS ?aL ?_;(case aP=>exact vM _ _ _ (⟨UD,UE,t226,t227,t228,Qr⟩:nI) (Kd.dU (Kd.Td rfl (Kd.dU (ok':=fun k_=>((fun _=>True)) k_∧some k_≠(u3:Value).ownBlock) (Kd.BD (Ta.out) (Kd.EK wQ.out) aD) (fun k_ hk=>⟨trivial,hk.2⟩))) (fun _ h_=>Or.inl h_)) (Kd.dU (Kd.Td rfl (Kd.dU (ok':=fun k_=>((fun _=>True)) k_∧some k_≠(u3:Value).ownBlock) (Kd.BD (Tc.out) (Kd.EK wQ.out) aD) (fun k_ hk=>⟨trivial,hk.2⟩))) (fun _ h_=>Or.inr (h_))));(case aB=>exact dL);(case aF=>exact (fun _ _=>trivial));(case aO=>exact (by (with_reducible repeat (first|apply Kd.mq|apply Kd.nY|apply Kd.qW));exact Kd.sS wQ.out (fun k_ hk=>⟨trivial,fun e_=>e_.elim (fun h_=>hk.1.2 h_) (fun h_=>hk.2 h_)⟩)));(case aS=>exact (bB dL));(case aL=>have:=ams.out;omega);intro ar6 w7 ho hb hg hat;rw[← agL.out] at ho;have fD:=ah.mk (hb);have gy:=ah.mk (ho);clear HB;clear wQ;clear Ta;clear Tc;have HB:=fD;have agM:=gy;clear fD gy;clear ho hb hg hat))
      go_roundg k1
      case measure=>have:=jY.out;omega
      case rel=>exact⟨(agK),(wrap64 (eZ+1)),eG,H',⟨by have:=jY.out;omega⟩,⟨by (with_reducible repeat (first|apply Kd.mq|apply Kd.nY|apply Kd.qW));exact agM.out⟩,⟨by repeat (first|(with_reducible first|exact HB.out|apply aH|apply av|apply aI)|exact HB.out)⟩⟩
     rw[if_neg c5] at H;exact absurd H bK
    rw[if_neg c3] at H;exact absurd H bK
   rw[if_neg c2] at H;have Jh:decide (eZ<(l0.length:Int))=false:=decide_eq_false c2;clear c2;obtain rfl:=Option.some.inj H
   go_wp2
   go_ret
   exact⟨_,by first|rfl|(simp[aX,aY] <;> rfl)|(simp[*,aX,aY] <;> rfl),by (with_reducible repeat (first|apply Kd.mq|apply Kd.nY|apply Kd.qW));exact wQ.out,by repeat (first|(with_reducible first|exact HB.out|apply aH|apply av|apply aI)|exact HB.out)⟩
def gB.f (k:Nat) (l0:List (nI)):Option (Bool):=(bC.f k l0).bind fun Oi=>((iT.f Oi).bind fun Oj=>((bL.f Oj.2).bind fun Jj=>(some (Jj == 0))))
theorem gB.mono:∀a0 k,bW (gB.f k a0) (gB.f (k+1) a0):=by
 intro a0 k;unfold gB.f
 repeat' first
   | (with_reducible exact bC.mono _ _)
   | (with_reducible exact bW.refl _)
   | (with_reducible exact bW.none _)
   | (with_reducible refine bW.ite ?_ ?_)
   | (with_reducible refine bW.bind ?_ (fun _=>?_))
   | exact bC.mono _ _
   | exact bW.none _
   | refine bW.ite ?_ ?_
   | refine bW.bind ?_ (fun _=>?_)
theorem gB.calls (k:Nat) (A0:Option Addr) (c0:Nat) (l0:List (nI)) (r:Bool) (w:World) (hr0:Kd.C om w A0 l0.length l0) (hc0:l0.length≤c0) (h:gB.f k l0=some r) :
  Calls Tryz.prog 20 #[.slice A0 l0.length c0] w fun e w'=>e=.returned (.bool r)∧Below w.heap.size w w':=by
 have qP:=ah.mk hr0;have Qp:=ah.mk hc0;clear hr0 hc0;have HB:=ah.mk (Below.refl w.heap.size w);have H:((bC.f k l0).bind fun Oi=>((iT.f Oi).bind fun Oj=>((bL.f Oj.2).bind fun Jj=>(some (Jj == 0)))))=some r:=h;clear h;replace H:=Option.bind_eq_some_iff.mp H;obtain⟨Oi,Sz,H⟩:=H;replace H:((iT.f Oi).bind fun Oj=>((bL.f Oj.2).bind fun Jj=>(some (Jj == 0))))=some r:=H;have A2:=ah.mk Sz;clear Sz;replace H:=Option.bind_eq_some_iff.mp H;obtain⟨⟨amu,Zo⟩,SB,H⟩:=H;replace H:((bL.f Zo).bind fun Jj=>(some (Jj == 0)))=some r:=H;have A3:=ah.mk SB;clear SB;replace H:=Option.bind_eq_some_iff.mp H;obtain⟨Jj,SQ,H⟩:=H;replace H:(some (Jj == 0))=some r:=H;have A4:=ah.mk SQ;clear SQ;obtain rfl:=Option.some.inj H
 go_enter Tryz.func20,Tryz.ntmps20
 go_wp2_with (first|((with_reducible refine gu (f:=19) rfl ?_);refine oz (some 7) rfl rfl Tryz.func19 aA rfl #[.slice A0 l0.length c0] rfl nT ?_;(with_reducible refine (bC.calls k _ _ l0 Oi _ ?jy ?jA A2.out).mono ?_);(case jy=>repeat (first|exact qP.out|(with_reducible refine Kd.eO ?_ _)|(with_reducible refine Kd.dV ?_ _)|(with_reducible refine Kd.gL ?_)));(case jA=>exact Qp.out);rintro e w5 ⟨ar7,rfl,ho0,hb⟩;refine⟨_,rfl,?_⟩;have fD:=ah.mk (Kd.BF ho0 (bB dL));have gy:=ah.mk (bO dL hb);clear HB;have Km:=fD;have HB:=gy;clear fD gy;(try clear hb);(try clear hb2);(try clear hk);(try clear hi);(try clear ho0);obtain⟨Ao6,co6,eo6⟩:=Kd.lG Km.out;subst eo6)|((with_reducible refine gu (f:=48) rfl ?_);refine oz (some 8) rfl rfl Tryz.func48 aA rfl #[.slice Ao6 Oi.length co6] rfl nT ?_;(with_reducible refine (iT.calls _ _ Oi amu Zo _ ?jy ?jA A3.out).mono ?_);(case jy=>repeat (first|exact (Kd.fq Km.out).2.2|(with_reducible refine Kd.eO ?_ _)|(with_reducible refine Kd.dV ?_ _)|(with_reducible refine Kd.gL ?_)));(case jA=>exact (Kd.fq Km.out).2.1);rintro e w7 ⟨asb,rfl,ho0,hb⟩;refine⟨_,rfl,?_⟩;have fD:=ah.mk (Kd.xW (by (with_reducible repeat (first|apply Kd.mq|apply Kd.nY|apply Kd.qW));exact Km.out) (Kd.sV ho0) hb);have gy:=ah.mk (Kd.fQ ho0 (bB dL));have iE:=ah.mk (bO dL hb);clear Km;clear HB;have Km:=fD;have apv:=gy;have HB:=iE;clear fD gy iE;(try clear hb);(try clear hb2);(try clear hk);(try clear hi);(try clear ho0))|((with_reducible refine gu (f:=21) rfl ?_);refine oz (some 12) rfl rfl Tryz.func21 aA rfl #[.int .i64 Zo] rfl nT ?_;(with_reducible refine (bL.calls Zo Jj _ A4.out).mono ?_);rintro e w' ⟨rfl,⟨nd,rfl⟩⟩;refine⟨_,rfl,?_⟩))
 go_ret
 exact⟨by first|rfl|(simp[aX,aY] <;> rfl)|(simp[*,aX,aY] <;> rfl),by repeat (first|(with_reducible first|exact HB.out|apply aH|apply av|apply aI)|exact HB.out)⟩
def bM.f (dh:Int) (cO:ByteArray) (dz:ByteArray) (bX:Int) (bQ:List (dI)) (bU:List Int) (vC:Int) (rP:ByteArray) (wR:ByteArray) (vD:Int) (qL:List (dI)) (rQ:List Int):Option (Bool):=if cO.toList=rP.toList then ((gX.f dh cO dz bX bQ bU vC rP wR vD qL rQ).bind fun UF=>(some UF)) else (some false)
theorem bM.calls (dh:Int) (cO:ByteArray) (dz:ByteArray) (bX:Int) (gF:Option Addr) (eD:Nat) (bQ:List (dI)) (eB:Option Addr) (eu:Nat) (bU:List Int) (vC:Int) (rP:ByteArray) (wR:ByteArray) (vD:Int) (Es:Option Addr) (Et:Nat) (qL:List (dI)) (Eu:Option Addr) (Dp:Nat) (rQ:List Int) (r:Bool) (w:World) (qm:Kd.C dB w gF bQ.length bQ) (rA:bQ.length≤eD) (qK:Kd.C (Kd.int .u8) w eB bU.length bU) (tC:bU.length≤eu) (Ol:Kd.C dB w Es qL.length qL) (Te:qL.length≤Et) (Om:Kd.C (Kd.int .u8) w Eu rQ.length rQ) (WR:rQ.length≤Dp) (h:bM.f dh cO dz bX bQ bU vC rP wR vD qL rQ=some r) :
  Calls Tryz.prog 34 #[.agg #[.int .i64 dh,.string cO,.string dz,.int .i64 bX,.slice gF bQ.length eD,.slice eB bU.length eu],.agg #[.int .i64 vC,.string rP,.string wR,.int .i64 vD,.slice Es qL.length Et,.slice Eu rQ.length Dp]] w fun e w'=>e=.returned (.bool r)∧Below w.heap.size w w':=by
 have Qq:=Tryz.underlying29;have vw:=ah.mk qm;have D6:=ah.mk rA;clear qm rA;have Bw:=ah.mk qK;have Gf:=ah.mk tC;clear qK tC;have agN:=ah.mk Ol;have agO:=ah.mk Te;clear Ol Te;have agP:=ah.mk Om;have agQ:=ah.mk WR;clear Om WR;have HB:=ah.mk (Below.refl w.heap.size w);have H:(if cO.toList=rP.toList then ((gX.f dh cO dz bX bQ bU vC rP wR vD qL rQ).bind fun UF=>(some UF)) else (some false))=some r:=h;clear h;by_cases c3:cO.toList=rP.toList
 ·rw[if_pos c3] at H;have o9:(cO.toList == rP.toList)=true:=beq_iff_eq.mpr c3;have Aj:(cO.toList != rP.toList)=false:=bne_eq_false_iff_eq.mpr c3;clear c3;replace H:=Option.bind_eq_some_iff.mp H;obtain⟨UF,SQ,H⟩:=H;replace H:(some UF)=some r:=H;have A4:=ah.mk SQ;clear SQ;obtain rfl:=Option.some.inj H
  go_enter Tryz.func34,Tryz.ntmps34
  go_wp2_with (first|((with_reducible refine fJ (N:=2) rfl ?_);refine fA ?hg (N:=2) ?hd (cs:=#[.int .i64 dh,.string cO,.string dz,.int .i64 bX,.slice gF bQ.length eD,.slice eB bU.length eu]) (t:=29) ?hr ?_;(case hd=>rfl);(case hg=>rfl);(case hr=>first|(go_simp;done)|(go_simp;rfl));intro kF hg w5 eH hb;have fD:=ah.mk (bO dL hb);have gy:=ah.mk (eH);have iE:=ah.mk ((by rw[hg];exact (bB dL):w.heap.size≤kF));have jS:=ah.mk ((by rw[hg];exact (bB dL):w.heap.size≤kF));clear HB;have HB:=fD;have iH:=gy;have agR:=iE;have zG:=jS;clear fD gy iE jS;clear hb eH hg)|((with_reducible refine fJ (N:=3) rfl ?_);refine fA ?hg (N:=3) ?hd (cs:=#[.int .i64 vC,.string rP,.string wR,.int .i64 vD,.slice Es qL.length Et,.slice Eu rQ.length Dp]) (t:=29) ?hr ?_;(case hd=>rfl);(case hg=>rfl);(case hr=>first|(go_simp;done)|(go_simp;rfl));intro nE hg w6 eH hb;have fD:=ah.mk (aG (g:=kF) (o:=.cells #[.int .i64 dh,.string cO,.string dz,.int .i64 bX,.slice gF bQ.length eD,.slice eB bU.length eu] 29 (0,0)) (by (with_reducible repeat (first|refine bD ?_ _|refine bI ?_|refine aM ?_ _));exact iH.out) hb);have gy:=ah.mk (bO (by repeat (first|(with_reducible first|exact HB.out|apply aH|apply av|apply aI|refine aR ?_ zG.out)|exact HB.out)) hb);have iE:=ah.mk (eH);have jS:=ah.mk ((by rw[hg];exact (bB (by repeat (first|(with_reducible first|exact HB.out|apply aH|apply av|apply aI|refine aR ?_ zG.out)|exact HB.out))):w.heap.size≤nE));have vB:=ah.mk ((by rw[hg];exact (bB (by repeat (first|(with_reducible first|exact HB.out|apply aH|apply av|apply aI|refine aR ?_ zG.out)|exact HB.out))):w.heap.size≤nE));have zF:=ah.mk ((by rw[hg];exact Nat.ne_of_lt (bE (g:=kF) (o:=.cells #[.int .i64 dh,.string cO,.string dz,.int .i64 bX,.slice gF bQ.length eD,.slice eB bU.length eu] 29 (0,0)) (by (with_reducible repeat (first|refine bD ?_ _|refine bI ?_|refine aM ?_ _));exact iH.out)):kF≠nE));have BA:=ah.mk ((by rw[hg];exact Nat.ne_of_gt (bE (g:=kF) (o:=.cells #[.int .i64 dh,.string cO,.string dz,.int .i64 bX,.slice gF bQ.length eD,.slice eB bU.length eu] 29 (0,0)) (by (with_reducible repeat (first|refine bD ?_ _|refine bI ?_|refine aM ?_ _));exact iH.out)):nE≠kF));clear iH;clear HB;have iH:=fD;have HB:=gy;have kG:=iE;have agS:=jS;have Tf:=vB;have Dq:=zF;have Dr:=BA;clear fD gy iE jS vB zF BA;clear hb eH hg;have asc:=Dq.out;have ase:=Dr.out;have LC:w6.cell? ⟨kF,0,none⟩=some (.int .i64 dh):=(ak iH.out 0).trans rfl;have LD:w6.cell? ⟨kF,1,none⟩=some (.string cO):=(ak iH.out 1).trans rfl;have Qs:w6.cell? ⟨kF,2,none⟩=some (.string dz):=(ak iH.out 2).trans rfl;have Qt:w6.cell? ⟨kF,3,none⟩=some (.int .i64 bX):=(ak iH.out 3).trans rfl;have Qu:w6.cell? ⟨kF,4,none⟩=some (.slice gF bQ.length eD):=(ak iH.out 4).trans rfl;have Qv:w6.cell? ⟨kF,5,none⟩=some (.slice eB bU.length eu):=(ak iH.out 5).trans rfl;have LG:=ay iH.out 0;have LH:=ay iH.out 1;have Qw:=ay iH.out 2;have Qx:=ay iH.out 3;have Qy:=ay iH.out 4;have Qz:=ay iH.out 5;have amv:w6.cell? ⟨nE,0,none⟩=some (.int .i64 vC):=(ak kG.out 0).trans rfl;have amw:w6.cell? ⟨nE,1,none⟩=some (.string rP):=(ak kG.out 1).trans rfl;have amx:w6.cell? ⟨nE,2,none⟩=some (.string wR):=(ak kG.out 2).trans rfl;have amy:w6.cell? ⟨nE,3,none⟩=some (.int .i64 vD):=(ak kG.out 3).trans rfl;have amA:w6.cell? ⟨nE,4,none⟩=some (.slice Es qL.length Et):=(ak kG.out 4).trans rfl;have amB:w6.cell? ⟨nE,5,none⟩=some (.slice Eu rQ.length Dp):=(ak kG.out 5).trans rfl;have amC:=ay kG.out 0;have amD:=ay kG.out 1;have amE:=ay kG.out 2;have amF:=ay kG.out 3;have amG:=ay kG.out 4;have amH:=ay kG.out 5)|(go_at_call 37;(with_reducible refine (gX.calls dh cO dz bX _ _ bQ _ _ bU vC rP wR vD _ _ qL _ _ rQ UF _ ?jy ?jA ?tF ?tH ?Gh ?Gi ?Gj ?Gl A4.out).mono ?_);(case jy=>repeat (first|exact (Kd.aC vw.out HB.out)|(with_reducible refine Kd.eO ?_ _)|(with_reducible refine Kd.dV ?_ _)|(with_reducible refine Kd.gL ?_)));(case jA=>exact D6.out);(case tF=>repeat (first|exact (Kd.aC Bw.out HB.out)|(with_reducible refine Kd.eO ?_ _)|(with_reducible refine Kd.dV ?_ _)|(with_reducible refine Kd.gL ?_)));(case tH=>exact Gf.out);(case Gh=>repeat (first|exact (Kd.aC agN.out HB.out)|(with_reducible refine Kd.eO ?_ _)|(with_reducible refine Kd.dV ?_ _)|(with_reducible refine Kd.gL ?_)));(case Gi=>exact agO.out);(case Gj=>repeat (first|exact (Kd.aC agP.out HB.out)|(with_reducible refine Kd.eO ?_ _)|(with_reducible refine Kd.dV ?_ _)|(with_reducible refine Kd.gL ?_)));(case Gl=>exact agQ.out);rintro e Ns ⟨rfl,hb⟩;have fD:=ah.mk (aG (g:=kF) (o:=.cells #[.int .i64 dh,.string cO,.string dz,.int .i64 bX,.slice gF bQ.length eD,.slice eB bU.length eu] 29 (0,0)) (by (with_reducible repeat (first|refine bD ?_ _|refine bI ?_|refine aM ?_ _));exact iH.out) hb);have gy:=ah.mk (aG (g:=nE) (o:=.cells #[.int .i64 vC,.string rP,.string wR,.int .i64 vD,.slice Es qL.length Et,.slice Eu rQ.length Dp] 29 (0,0)) (by (with_reducible repeat (first|refine bD ?_ _|refine bI ?_|refine aM ?_ _));exact kG.out) hb);have iE:=ah.mk (bO (by repeat (first|(with_reducible first|exact HB.out|apply aH|apply av|apply aI|refine aR ?_ zG.out|refine aR ?_ Tf.out)|exact HB.out)) hb);clear iH;clear kG;clear HB;have iH:=fD;have kG:=gy;have HB:=iE;clear fD gy iE;(try clear hb);(try clear hb2);(try clear hk);(try clear hi)))
  go_ret
  exact⟨by first|rfl|(simp[aX,aY] <;> rfl)|(simp[*,aX,aY] <;> rfl),by repeat (first|(with_reducible first|exact HB.out|apply aH|apply av|apply aI|refine aR ?_ zG.out|refine aR ?_ Tf.out)|exact HB.out)⟩
 rw[if_neg c3] at H;have o9:(cO.toList == rP.toList)=false:=beq_eq_false_iff_ne.mpr c3;have Aj:(cO.toList != rP.toList)=true:=bne_iff_ne.mpr c3;obtain rfl:=Option.some.inj H
 go_enter Tryz.func34,Tryz.ntmps34
 go_wp2_with (first|((with_reducible refine fJ (N:=2) rfl ?_);refine fA ?hg (N:=2) ?hd (cs:=#[.int .i64 dh,.string cO,.string dz,.int .i64 bX,.slice gF bQ.length eD,.slice eB bU.length eu]) (t:=29) ?hr ?_;(case hd=>rfl);(case hg=>rfl);(case hr=>first|(go_simp;done)|(go_simp;rfl));intro kF hg FJ eH hb;have fD:=ah.mk (bO dL hb);have gy:=ah.mk (eH);have iE:=ah.mk ((by rw[hg];exact (bB dL):w.heap.size≤kF));have jS:=ah.mk ((by rw[hg];exact (bB dL):w.heap.size≤kF));clear HB;have HB:=fD;have iH:=gy;have agR:=iE;have zG:=jS;clear fD gy iE jS;clear hb eH hg)|((with_reducible refine fJ (N:=3) rfl ?_);refine fA ?hg (N:=3) ?hd (cs:=#[.int .i64 vC,.string rP,.string wR,.int .i64 vD,.slice Es qL.length Et,.slice Eu rQ.length Dp]) (t:=29) ?hr ?_;(case hd=>rfl);(case hg=>rfl);(case hr=>first|(go_simp;done)|(go_simp;rfl));intro nE hg Qf eH hb;have fD:=ah.mk (aG (g:=kF) (o:=.cells #[.int .i64 dh,.string cO,.string dz,.int .i64 bX,.slice gF bQ.length eD,.slice eB bU.length eu] 29 (0,0)) (by (with_reducible repeat (first|refine bD ?_ _|refine bI ?_|refine aM ?_ _));exact iH.out) hb);have gy:=ah.mk (bO (by repeat (first|(with_reducible first|exact HB.out|apply aH|apply av|apply aI|refine aR ?_ zG.out)|exact HB.out)) hb);have iE:=ah.mk (eH);have jS:=ah.mk ((by rw[hg];exact (bB (by repeat (first|(with_reducible first|exact HB.out|apply aH|apply av|apply aI|refine aR ?_ zG.out)|exact HB.out))):w.heap.size≤nE));have vB:=ah.mk ((by rw[hg];exact (bB (by repeat (first|(with_reducible first|exact HB.out|apply aH|apply av|apply aI|refine aR ?_ zG.out)|exact HB.out))):w.heap.size≤nE));have zF:=ah.mk ((by rw[hg];exact Nat.ne_of_lt (bE (g:=kF) (o:=.cells #[.int .i64 dh,.string cO,.string dz,.int .i64 bX,.slice gF bQ.length eD,.slice eB bU.length eu] 29 (0,0)) (by (with_reducible repeat (first|refine bD ?_ _|refine bI ?_|refine aM ?_ _));exact iH.out)):kF≠nE));have BA:=ah.mk ((by rw[hg];exact Nat.ne_of_gt (bE (g:=kF) (o:=.cells #[.int .i64 dh,.string cO,.string dz,.int .i64 bX,.slice gF bQ.length eD,.slice eB bU.length eu] 29 (0,0)) (by (with_reducible repeat (first|refine bD ?_ _|refine bI ?_|refine aM ?_ _));exact iH.out)):nE≠kF));clear iH;clear HB;have iH:=fD;have HB:=gy;have kG:=iE;have agS:=jS;have Tf:=vB;have Dq:=zF;have Dr:=BA;clear fD gy iE jS vB zF BA;clear hb eH hg;have agT:=Dq.out;have agU:=Dr.out;have Ll:Qf.cell? ⟨kF,0,none⟩=some (.int .i64 dh):=(ak iH.out 0).trans rfl;have Lm:Qf.cell? ⟨kF,1,none⟩=some (.string cO):=(ak iH.out 1).trans rfl;have SE:Qf.cell? ⟨kF,2,none⟩=some (.string dz):=(ak iH.out 2).trans rfl;have SF:Qf.cell? ⟨kF,3,none⟩=some (.int .i64 bX):=(ak iH.out 3).trans rfl;have SG:Qf.cell? ⟨kF,4,none⟩=some (.slice gF bQ.length eD):=(ak iH.out 4).trans rfl;have SH:Qf.cell? ⟨kF,5,none⟩=some (.slice eB bU.length eu):=(ak iH.out 5).trans rfl;have Lp:=ay iH.out 0;have Lr:=ay iH.out 1;have SI:=ay iH.out 2;have SK:=ay iH.out 3;have SL:=ay iH.out 4;have SN:=ay iH.out 5;have EL:Qf.cell? ⟨nE,0,none⟩=some (.int .i64 vC):=(ak kG.out 0).trans rfl;have EM:Qf.cell? ⟨nE,1,none⟩=some (.string rP):=(ak kG.out 1).trans rfl;have Zp:Qf.cell? ⟨nE,2,none⟩=some (.string wR):=(ak kG.out 2).trans rfl;have Zq:Qf.cell? ⟨nE,3,none⟩=some (.int .i64 vD):=(ak kG.out 3).trans rfl;have Zr:Qf.cell? ⟨nE,4,none⟩=some (.slice Es qL.length Et):=(ak kG.out 4).trans rfl;have Zt:Qf.cell? ⟨nE,5,none⟩=some (.slice Eu rQ.length Dp):=(ak kG.out 5).trans rfl;have EN:=ay kG.out 0;have EO:=ay kG.out 1;have Zu:=ay kG.out 2;have Zv:=ay kG.out 3;have Zw:=ay kG.out 4;have Zx:=ay kG.out 5))
 go_ret
 exact⟨by first|rfl|(simp[aX,aY] <;> rfl)|(simp[*,aX,aY] <;> rfl),by repeat (first|(with_reducible first|exact HB.out|apply aH|apply av|apply aI|refine aR ?_ zG.out|refine aR ?_ Tf.out)|exact HB.out)⟩
end Go.Proofs.YtknihldkhedpkaaGreatDoor.PT
end
