import Derived.Test.YtknihldkhedpkaaGreatDoorUUG1
set_option linter.all false
set_option maxHeartbeats 16000000
set_option maxRecDepth 100000
namespace Go.Proofs.YtknihldkhedpkaaGreatDoor.PT
open Go.RowKit Go.Proofs.YtknihldkhedpkaaGreatDoorW.PrintWords Go.Proofs.YtknihldkhedpkaaGreatDoorW.PrintLast Go.Proofs.YtknihldkhedpkaaGreatDoorW.PrintMore
attribute [local go_sem] oJ oK rC rD mW mX oL oM
def stringslite_HasPrefix.f (a0:ByteArray) (a1:ByteArray):Option (Bool):=if (a0.size:Int)≥(a1.size:Int) then (if 0≤(a1.size:Int) then (if (a1.size:Int)≤(a0.size:Int) then (some ((a0.extract 0 ((a1.size:Int):Int).toNat).toList == a1.toList)) else (none)) else (none)) else (some false)
theorem stringslite_HasPrefix.calls (a0:ByteArray) (a1:ByteArray) (r:Bool) (w:World) (h:stringslite_HasPrefix.f a0 a1=some r) :
  Calls Tryz.prog 144 #[.string a0,.string a1] w fun e w'=>e=.returned (.bool r)∧bH w w':=by
 have H:(if (a0.size:Int)≥(a1.size:Int) then (if 0≤(a1.size:Int) then (if (a1.size:Int)≤(a0.size:Int) then (some ((a0.extract 0 ((a1.size:Int):Int).toNat).toList == a1.toList)) else (none)) else (none)) else (some false))=some r:=h;clear h
 by_cases c3:(a0.size:Int)≥(a1.size:Int)
 ·rw[if_pos c3] at H;have o9:decide ((a1.size:Int)≤(a0.size:Int))=true:=decide_eq_true c3;have Aj:decide (a1.size≤a0.size)=true:=decide_eq_true (Int.ofNat_le.mp c3);clear c3
  by_cases c4:0≤(a1.size:Int)
  ·rw[if_pos c4] at H;have nL:=eq_true c4;have atn:decide (0≤(a1.size:Int))=true:=decide_eq_true c4;clear c4
   by_cases c5:(a1.size:Int)≤(a0.size:Int)
   ·rw[if_pos c5] at H;have Gc:=eq_true c5;have Zf:decide ((a1.size:Int)≤(a0.size:Int))=true:=decide_eq_true c5;clear c5;obtain rfl:=Option.some.inj H
    go_enter Tryz.func144,Tryz.ntmps144
    go_wp2
    go_ret
    exact⟨by first|rfl|(simp;done)|(simp[*];done),by repeat (first|exact bH.refl _|apply bH.step)⟩
   rw[if_neg c5] at H;exact absurd H bK
  rw[if_neg c4] at H;exact absurd H bK
 rw[if_neg c3] at H;have o9:decide ((a1.size:Int)≤(a0.size:Int))=false:=decide_eq_false c3;have Aj:decide (a1.size≤a0.size)=false:=decide_eq_false (fun h=>c3 (Int.ofNat_le.mpr h));clear c3;obtain rfl:=Option.some.inj H
 go_enter Tryz.func144,Tryz.ntmps144
 go_wp2
 go_ret
 exact⟨by first|rfl|(simp;done)|(simp[*];done),by repeat (first|exact bH.refl _|apply bH.step)⟩
def strings_HasPrefix.f (a0:ByteArray) (a1:ByteArray):Option (Bool):=(stringslite_HasPrefix.f a0 a1).bind fun U8=>(some U8)
theorem strings_HasPrefix.calls (a0:ByteArray) (a1:ByteArray) (r:Bool) (w:World) (h:strings_HasPrefix.f a0 a1=some r) :
  Calls Tryz.prog 130 #[.string a0,.string a1] w fun e w'=>e=.returned (.bool r)∧bH w w':=by
 have H:((stringslite_HasPrefix.f a0 a1).bind fun U8=>(some U8))=some r:=h;clear h;replace H:=Option.bind_eq_some_iff.mp H;obtain⟨U8,SB,H⟩:=H;replace H:(some U8)=some r:=H;have A3:=ah.mk SB;clear SB;obtain rfl:=Option.some.inj H
 go_enter Tryz.func130,Tryz.ntmps130
 go_wp2_with (first|((with_reducible refine gu (f:=144) rfl ?_);refine oz (some 7) rfl rfl Tryz.func144 aA rfl #[.string a0,.string a1] rfl nT ?_;(with_reducible refine (stringslite_HasPrefix.calls a0 a1 U8 _ A3.out).mono ?_);rintro e w' ⟨rfl,⟨nd,rfl⟩⟩;refine⟨_,rfl,?_⟩))
 go_ret
 exact⟨by first|rfl|(simp;done)|(simp[*];done),by repeat (first|exact bH.refl _|apply bH.step)⟩
def dw.l0:Nat→Int→Int→Int→List (dI)→Int→Int→Option (Int × Bool)
 | 0,_,_,_,_,_,_=>none
 | k+1,x1,x6,x7,x10,x11,XL=>if XL<x11 then (if 0≤XL then (if XL<(x10.length:Int) then (if ((aK x10 XL).f0)≤x6 then (some (0,false)) else (if ((aK x10 XL).f1)≤((aK x10 XL).f0) then (some (0,false)) else (if ((aK x10 XL).f1) > x1 then (some (0,false)) else (dw.l0 k x1 ((aK x10 XL).f1) (wrap64 (x7+(wrap64 (((aK x10 XL).f1) - ((aK x10 XL).f0))))) x10 x11 (wrap64 (XL+1)))))) else (none)) else (none)) else (some (x7,true))
def dw.f (k:Nat) (l0:List (dI)) (a1:Int):Option (Int × Bool):=dw.l0 k a1 (-1) 0 l0 (l0.length:Int) 0
theorem dw.fC:∀k,(∀y0 y1 y2 y3 y4 y5,bW (dw.l0 k y0 y1 y2 y3 y4 y5) (dw.l0 (k+1) y0 y1 y2 y3 y4 y5))
 | 0=>fun _ _ _ _ _ _ r h=>by simp[dw.l0] at h
 | k+1=>by
  have j6:=dw.fC k
  ·intro y0 y1 y2 y3 y4 y5;unfold dw.l0
   repeat' first
   | (with_reducible exact j6 _ _ _ _ _ _)
   | (with_reducible exact bW.refl _)
   | (with_reducible exact bW.none _)
   | (with_reducible refine bW.ite ?_ ?_)
   | (with_reducible refine bW.bind ?_ (fun _=>?_))
   | exact j6 _ _ _ _ _ _
   | exact bW.none _
   | refine bW.ite ?_ ?_
   | refine bW.bind ?_ (fun _=>?_)
theorem dw.mono:∀a0 a1 k,bW (dw.f k a0 a1) (dw.f (k+1) a0 a1):=by
 intro a0 a1 k;have j6:=dw.fC k;unfold dw.f
 repeat' first
   | (with_reducible exact j6 _ _ _ _ _ _)
   | (with_reducible exact bW.refl _)
   | (with_reducible exact bW.none _)
   | (with_reducible refine bW.ite ?_ ?_)
   | (with_reducible refine bW.bind ?_ (fun _=>?_))
   | exact j6 _ _ _ _ _ _
   | exact bW.none _
   | refine bW.ite ?_ ?_
   | refine bW.bind ?_ (fun _=>?_)
theorem dw.calls (k:Nat) (A0:Option Addr) (c0:Nat) (l0:List (dI)) (a1:Int) (r1:Int) (r2:Bool) (w:World) (hr0:Kd.C dB w A0 l0.length l0) (hc0:l0.length≤c0) (h:dw.f k l0 a1=some (r1,r2)) :
  Calls Tryz.prog 136 #[.slice A0 l0.length c0,.int .i64 a1] w fun e w'=>e=.returned (.tuple #[.int .i64 r1,.bool r2])∧Below w.heap.size w w':=by
 have SA:=Tryz.underlying117;have qP:=ah.mk hr0;have Qp:=ah.mk hc0;clear hr0 hc0;have HB:=ah.mk (Below.refl w.heap.size w);have H:(dw.l0 k a1 (-1) 0 l0 (l0.length:Int) 0)=some (r1,r2):=h;clear h;have H':=ah.mk H;clear H
 go_enter Tryz.func136,Tryz.ntmps136
 go_wp2
 go_loopg [6,7,12] k (fun kq v6 v7 v12 w'=>∃(U9:Int) (aaf:Int) (iI:Int),v6=.int .i64 U9∧v7=.int .i64 aaf∧v12=.int .i64 iI∧ah (dw.l0 kq a1 U9 aaf l0 (l0.length:Int) iI=some (r1,r2))∧ah (kq≤k)∧ah (Below w.heap.size w w'))
 case atStart=>exact⟨((-1)),(0),(0),eG,eG,eG,H',⟨Nat.le_refl _⟩,⟨by repeat (first|(with_reducible first|exact HB.out|apply aH|apply av|apply aI)|exact HB.out)⟩⟩
 case round=>
  clear H'
  try clear c1
  try clear p2
  obtain⟨U9,aaf,iI,rfl,rfl,rfl,HA,jY,HB⟩:=hrel
  cases gk with
  | zero=>exact absurd HA.out (by simp[dw.l0])
  | succ k1=>
   have H:=HA.out;clear HA;simp only[dw.l0] at H
   by_cases c3:iI<(l0.length:Int)
   ·rw[if_pos c3] at H;have o9:decide (iI<(l0.length:Int))=true:=decide_eq_true c3;clear c3;by_cases c4:0≤iI
    ·rw[if_pos c4] at H;have nL:decide (0≤iI)=true:=decide_eq_true c4;clear c4
     by_cases c5:iI<(l0.length:Int)
     ·rw[if_pos c5] at H;have Gc:decide (iI<(l0.length:Int))=true:=decide_eq_true c5;clear c5;by_cases c6:((aK l0 iI).f0)≤U9
      ·rw[if_pos c6] at H;have QC:decide (((aK l0 iI).f0)≤U9)=true:=decide_eq_true c6;clear c6;simp only[Option.some.injEq,Prod.mk.injEq] at H;obtain⟨rfl,rfl⟩:=H;have Az:0≤(iI:Int):=of_decide_eq_true bS;have AA:iI<(l0.length:Int):=of_decide_eq_true bS;obtain⟨XM,Rw,lI,lJ⟩:=dP qP.out iI Az AA;cases Rw;replace lI:=(HB.out.cell (World.block_lt_of_cell? w _ lI)).trans lI;replace lJ:=(HB.out.cell (World.block_lt_of_cell? w _ lJ)).trans lJ;replace Az:=eq_true Az;replace AA:=eq_true AA
       go_wp2_with (first|((with_reducible refine fJ (N:=9) rfl ?_);refine fA ?hg (N:=9) ?hd (cs:=#[.int .i64 0,.int .i64 0]) (t:=117) ?hr ?_;(case hd=>rfl);(case hg=>rfl);(case hr=>first|(go_simp;done)|(go_simp;rfl));intro qc hg w7 eH hb;have fD:=ah.mk (bO dL hb);have gy:=ah.mk (eH);have iE:=ah.mk ((by rw[hg];exact (bB dL):w.heap.size≤qc));have jS:=ah.mk ((by rw[hg];exact (bB dL):w.heap.size≤qc));clear HB;have HB:=fD;have qd:=gy;have XO:=iE;have Hg:=jS;clear fD gy iE jS;clear hb eH hg;have LC:w7.cell? ⟨qc,0,none⟩=some (.int .i64 0):=(ak qd.out 0).trans rfl;have LD:w7.cell? ⟨qc,1,none⟩=some (.int .i64 0):=(ak qd.out 1).trans rfl;have LG:=ay qd.out 0;have LH:=ay qd.out 1))
       go_ret2
       exact⟨by first|rfl|(simp[aX,aY] <;> rfl)|(simp[*,aX,aY] <;> rfl),by repeat (first|(with_reducible first|exact HB.out|apply aH|apply av|apply aI|refine aR ?_ Hg.out)|exact HB.out)⟩
      rw[if_neg c6] at H;have QC:decide (((aK l0 iI).f0)≤U9)=false:=decide_eq_false c6;clear c6
      by_cases c9:((aK l0 iI).f1)≤((aK l0 iI).f0)
      ·rw[if_pos c9] at H;have LZ:decide (((aK l0 iI).f1)≤((aK l0 iI).f0))=true:=decide_eq_true c9;clear c9;simp only[Option.some.injEq,Prod.mk.injEq] at H;obtain⟨rfl,rfl⟩:=H;have Az:0≤(iI:Int):=of_decide_eq_true bS;have AA:iI<(l0.length:Int):=of_decide_eq_true bS;obtain⟨XM,Rw,lI,lJ⟩:=dP qP.out iI Az AA;cases Rw;replace lI:=(HB.out.cell (World.block_lt_of_cell? w _ lI)).trans lI;replace lJ:=(HB.out.cell (World.block_lt_of_cell? w _ lJ)).trans lJ;replace Az:=eq_true Az;replace AA:=eq_true AA
       go_wp2_with (first|((with_reducible refine fJ (N:=9) rfl ?_);refine fA ?hg (N:=9) ?hd (cs:=#[.int .i64 0,.int .i64 0]) (t:=117) ?hr ?_;(case hd=>rfl);(case hg=>rfl);(case hr=>first|(go_simp;done)|(go_simp;rfl));intro qc hg Ns eH hb;have fD:=ah.mk (bO dL hb);have gy:=ah.mk (eH);have iE:=ah.mk ((by rw[hg];exact (bB dL):w.heap.size≤qc));have jS:=ah.mk ((by rw[hg];exact (bB dL):w.heap.size≤qc));clear HB;have HB:=fD;have qd:=gy;have XO:=iE;have Hg:=jS;clear fD gy iE jS;clear hb eH hg;have aag:Ns.cell? ⟨qc,0,none⟩=some (.int .i64 0):=(ak qd.out 0).trans rfl;have aah:Ns.cell? ⟨qc,1,none⟩=some (.int .i64 0):=(ak qd.out 1).trans rfl;have aai:=ay qd.out 0;have aaj:=ay qd.out 1))
       go_ret2
       exact⟨by first|rfl|(simp[aX,aY] <;> rfl)|(simp[*,aX,aY] <;> rfl),by repeat (first|(with_reducible first|exact HB.out|apply aH|apply av|apply aI|refine aR ?_ Hg.out)|exact HB.out)⟩
      rw[if_neg c9] at H;have LZ:decide (((aK l0 iI).f1)≤((aK l0 iI).f0))=false:=decide_eq_false c9;clear c9;by_cases c12:((aK l0 iI).f1) > a1
      ·rw[if_pos c12] at H;have Hl:decide (a1<((aK l0 iI).f1))=true:=decide_eq_true c12;clear c12;simp only[Option.some.injEq,Prod.mk.injEq] at H;obtain⟨rfl,rfl⟩:=H;have Az:0≤(iI:Int):=of_decide_eq_true bS;have AA:iI<(l0.length:Int):=of_decide_eq_true bS;obtain⟨XM,Rw,lI,lJ⟩:=dP qP.out iI Az AA;cases Rw;replace lI:=(HB.out.cell (World.block_lt_of_cell? w _ lI)).trans lI;replace lJ:=(HB.out.cell (World.block_lt_of_cell? w _ lJ)).trans lJ;replace Az:=eq_true Az;replace AA:=eq_true AA
       go_wp2_with (first|((with_reducible refine fJ (N:=9) rfl ?_);refine fA ?hg (N:=9) ?hd (cs:=#[.int .i64 0,.int .i64 0]) (t:=117) ?hr ?_;(case hd=>rfl);(case hg=>rfl);(case hr=>first|(go_simp;done)|(go_simp;rfl));intro qc hg w13 eH hb;have fD:=ah.mk (bO dL hb);have gy:=ah.mk (eH);have iE:=ah.mk ((by rw[hg];exact (bB dL):w.heap.size≤qc));have jS:=ah.mk ((by rw[hg];exact (bB dL):w.heap.size≤qc));clear HB;have HB:=fD;have qd:=gy;have XO:=iE;have Hg:=jS;clear fD gy iE jS;clear hb eH hg;have Ll:w13.cell? ⟨qc,0,none⟩=some (.int .i64 0):=(ak qd.out 0).trans rfl;have Lm:w13.cell? ⟨qc,1,none⟩=some (.int .i64 0):=(ak qd.out 1).trans rfl;have Lp:=ay qd.out 0;have Lr:=ay qd.out 1))
       go_ret2
       exact⟨by first|rfl|(simp[aX,aY] <;> rfl)|(simp[*,aX,aY] <;> rfl),by repeat (first|(with_reducible first|exact HB.out|apply aH|apply av|apply aI|refine aR ?_ Hg.out)|exact HB.out)⟩
      rw[if_neg c12] at H;have Hl:decide (a1<((aK l0 iI).f1))=false:=decide_eq_false c12;clear c12;have H':=ah.mk H;clear H;have Az:0≤(iI:Int):=of_decide_eq_true bS;have AA:iI<(l0.length:Int):=of_decide_eq_true bS;obtain⟨XM,Rw,lI,lJ⟩:=dP qP.out iI Az AA;cases Rw;replace lI:=(HB.out.cell (World.block_lt_of_cell? w _ lI)).trans lI;replace lJ:=(HB.out.cell (World.block_lt_of_cell? w _ lJ)).trans lJ;replace Az:=eq_true Az;replace AA:=eq_true AA
      go_wp2_with (first|((with_reducible refine fJ (N:=9) rfl ?_);refine fA ?hg (N:=9) ?hd (cs:=#[.int .i64 0,.int .i64 0]) (t:=117) ?hr ?_;(case hd=>rfl);(case hg=>rfl);(case hr=>first|(go_simp;done)|(go_simp;rfl));intro qc hg w15 eH hb;have fD:=ah.mk (bO dL hb);have gy:=ah.mk (eH);have iE:=ah.mk ((by rw[hg];exact (bB dL):w.heap.size≤qc));have jS:=ah.mk ((by rw[hg];exact (bB dL):w.heap.size≤qc));clear HB;have HB:=fD;have qd:=gy;have XO:=iE;have Hg:=jS;clear fD gy iE jS;clear hb eH hg;have aak:w15.cell? ⟨qc,0,none⟩=some (.int .i64 0):=(ak qd.out 0).trans rfl;have aal:w15.cell? ⟨qc,1,none⟩=some (.int .i64 0):=(ak qd.out 1).trans rfl;have aam:=ay qd.out 0;have aan:=ay qd.out 1))
      go_roundg k1
      case measure=>have:=jY.out;omega
      case rel=>exact⟨((aK l0 iI).f1),(wrap64 (aaf+(wrap64 (((aK l0 iI).f1) - ((aK l0 iI).f0))))),(wrap64 (iI+1)),eG,eG,eG,H',⟨by have:=jY.out;omega⟩,⟨by repeat (first|(with_reducible first|exact HB.out|apply aH|apply av|apply aI|refine aR ?_ Hg.out)|exact HB.out)⟩⟩
     rw[if_neg c5] at H;exact absurd H bK
    rw[if_neg c4] at H;exact absurd H bK
   rw[if_neg c3] at H;have o9:decide (iI<(l0.length:Int))=false:=decide_eq_false c3;clear c3;simp only[Option.some.injEq,Prod.mk.injEq] at H;obtain⟨rfl,rfl⟩:=H
   go_wp2
   go_ret2
   exact⟨by first|rfl|(simp[aX,aY] <;> rfl)|(simp[*,aX,aY] <;> rfl),by repeat (first|(with_reducible first|exact HB.out|apply aH|apply av|apply aI)|exact HB.out)⟩
def yA.f (a0:Int):Option (Int):=some (wrap64 (Int.tdiv (wrap64 ((wrap64 (a0+512)) - 1)) 512))
theorem yA.calls (a0:Int) (r:Int) (w:World) (h:yA.f a0=some r) :
  Calls Tryz.prog 147 #[.int .i64 a0] w fun e w'=>e=.returned (.int .i64 r)∧bH w w':=by
 have H:(some (wrap64 (Int.tdiv (wrap64 ((wrap64 (a0+512)) - 1)) 512)))=some r:=h;clear h;obtain rfl:=Option.some.inj H
 go_enter Tryz.func147,Tryz.ntmps147
 go_wp2
 go_ret
 exact⟨by first|rfl|(simp;done)|(simp[*];done),by repeat (first|exact bH.refl _|apply bH.step)⟩
def cB.j0:Nat→Bool→Int→ByteArray→ByteArray→Int→List (dI)→List Int→Option (Int × Bool)
 | 0,_,_,_,_,_,_,_=>none
 | k+1,x11,aj0,aj1,aj2,aao,aap,aj3=>if x11=true then (some (0,false)) else ((yA.f aao).bind fun t105=>((dw.f k aap t105).bind fun Ef=>(some (Ef.1,Ef.2))))
def cB.f (k:Nat) (dh:Int) (cO:ByteArray) (dz:ByteArray) (bX:Int) (bQ:List (dI)) (bU:List Int):Option (Int × Bool):=if bX<0 then (cB.j0 k true dh cO dz bX bQ bU) else (cB.j0 k (decide (bX > 8459264)) dh cO dz bX bQ bU)
theorem cB.fC:∀k,(∀y0 y1 y2 y3 y4 y5 y6,bW (cB.j0 k y0 y1 y2 y3 y4 y5 y6) (cB.j0 (k+1) y0 y1 y2 y3 y4 y5 y6))
 | 0=>fun _ _ _ _ _ _ _ r h=>by simp[cB.j0] at h
 | k+1=>by
  have j6:=cB.fC k
  ·intro y0 y1 y2 y3 y4 y5 y6;unfold cB.j0
   repeat' first
   | (with_reducible exact j6 _ _ _ _ _ _ _)
   | (with_reducible exact dw.mono _ _ _)
   | (with_reducible exact bW.refl _)
   | (with_reducible exact bW.none _)
   | (with_reducible refine bW.ite ?_ ?_)
   | (with_reducible refine bW.bind ?_ (fun _=>?_))
   | exact j6 _ _ _ _ _ _ _
   | exact dw.mono _ _ _
   | exact bW.none _
   | refine bW.ite ?_ ?_
   | refine bW.bind ?_ (fun _=>?_)
theorem cB.mono:∀a0 a1 a2 a3 a4 a5 k,bW (cB.f k a0 a1 a2 a3 a4 a5) (cB.f (k+1) a0 a1 a2 a3 a4 a5):=by
 intro a0 a1 a2 a3 a4 a5 k;have j6:=cB.fC k;unfold cB.f
 repeat' first
   | (with_reducible exact j6 _ _ _ _ _ _ _)
   | (with_reducible exact dw.mono _ _ _)
   | (with_reducible exact bW.refl _)
   | (with_reducible exact bW.none _)
   | (with_reducible refine bW.ite ?_ ?_)
   | (with_reducible refine bW.bind ?_ (fun _=>?_))
   | exact j6 _ _ _ _ _ _ _
   | exact dw.mono _ _ _
   | exact bW.none _
   | refine bW.ite ?_ ?_
   | refine bW.bind ?_ (fun _=>?_)
def cB.T3:Bool × List (List Nat × List Nat):=(true,[([],[]),([0],[0]),([],[]),([2],[2]),([3],[3]),([1,4,4],[1,4]),([5],[5]),([5],[5]),([6,5,0,1,2,3,4,5,6,7],[6]),([7,8,0,1,2,3,4,5,6,7,8],[7])])
def cB.B3:List Nat:=[0,1,0,4,12,31,63,63,255,511]
theorem cB.aoo:tJ .any (opsOf Tryz.f133 3)=cB.T3:=by kernel_rfl
theorem cB.aiy:vY cB.T3.2 cB.B3=true:=by kernel_rfl
theorem cB.calls (k:Nat) (dh:Int) (cO:ByteArray) (dz:ByteArray) (bX:Int) (gF:Option Addr) (eD:Nat) (bQ:List (dI)) (eB:Option Addr) (eu:Nat) (bU:List Int) (r1:Int) (r2:Bool) (w:World) (qm:Kd.C dB w gF bQ.length bQ) (rA:bQ.length≤eD) (qK:Kd.C (Kd.int .u8) w eB bU.length bU) (tC:bU.length≤eu) (h:cB.f k dh cO dz bX bQ bU=some (r1,r2)) :
  Calls Tryz.prog 133 #[.agg #[.int .i64 dh,.string cO,.string dz,.int .i64 bX,.slice gF bQ.length eD,.slice eB bU.length eu]] w fun e w'=>e=.returned (.tuple #[.int .i64 r1,.bool r2])∧Below w.heap.size w w':=by
 have Qq:=Tryz.underlying29;have vw:=ah.mk qm;have D6:=ah.mk rA;clear qm rA;have Bw:=ah.mk qK;have Gf:=ah.mk tC;clear qK tC;have HB:=ah.mk (Below.refl w.heap.size w);have H:(if bX<0 then (cB.j0 k true dh cO dz bX bQ bU) else (cB.j0 k (decide (bX > 8459264)) dh cO dz bX bQ bU))=some (r1,r2):=h;clear h;have JJ:=ah.mk H;clear H
 go_enter Tryz.func133,Tryz.ntmps133
 go_upto_region 1 with (first|((with_reducible refine fJ (N:=1) rfl ?_);refine fA ?hg (N:=1) ?hd (cs:=#[.int .i64 dh,.string cO,.string dz,.int .i64 bX,.slice gF bQ.length eD,.slice eB bU.length eu]) (t:=29) ?hr ?_;(case hd=>rfl);(case hg=>rfl);(case hr=>first|(go_simp;done)|(go_simp;rfl));intro nG hg w3 eH hb;have fD:=ah.mk (bO dL hb);have gy:=ah.mk (eH);have iE:=ah.mk ((by rw[hg];exact (bB dL):w.heap.size≤nG));have jS:=ah.mk ((by rw[hg];exact (bB dL):w.heap.size≤nG));clear HB;have HB:=fD;have fB:=gy;have aqx:=iE;have KF:=jS;clear fD gy iE jS;clear hb eH hg))
 (try simp only[Act.put,aYa,aYb,aYc])
 go_cut [11] (fun v11 wc=>∃(kq:Nat) (TQ:Bool),v11=.bool TQ∧ah (cB.j0 kq TQ dh cO dz bX bQ bU=some (r1,r2))∧ah (kq≤k)∧ah (wc.heap[nG]?=some (.cells #[.int .i64 dh,.string cO,.string dz,.int .i64 bX,(.slice gF bQ.length eD),(.slice eB bU.length eu)] 29 (0,0)))∧ah (Below w.heap.size w wc))
 case first=>
  have H:=JJ.out;clear JJ;by_cases c4:bX<0
  ·rw[if_pos c4] at H;have nL:decide (bX<0)=true:=decide_eq_true c4;clear c4
   (first|rw[nL]|(simp only[dn,dA];rw[nL])|skip)
   have H':=ah.mk H;clear H;have Ho:w3.cell? ⟨nG,0,none⟩=some (.int .i64 dh):=(ak fB.out 0).trans rfl;have Hq:w3.cell? ⟨nG,1,none⟩=some (.string cO):=(ak fB.out 1).trans rfl;have Hr:w3.cell? ⟨nG,2,none⟩=some (.string dz):=(ak fB.out 2).trans rfl;have Ht:w3.cell? ⟨nG,3,none⟩=some (.int .i64 bX):=(ak fB.out 3).trans rfl;have Hu:w3.cell? ⟨nG,4,none⟩=some (.slice gF bQ.length eD):=(ak fB.out 4).trans rfl;have Hw:w3.cell? ⟨nG,5,none⟩=some (.slice eB bU.length eu):=(ak fB.out 5).trans rfl;have Hy:=ay fB.out 0;have Hz:=ay fB.out 1;have H7:=ay fB.out 2;have H8:=ay fB.out 3;have H9:=ay fB.out 4;have Ia:=ay fB.out 5
   go_wp2
   go_meet
   case rel=>exact⟨_,(true),eG,H',⟨by first|omega|exact Nat.le_refl _⟩,⟨by (with_reducible repeat (first|refine bD ?_ _|refine bI ?_|refine aM ?_ _));exact fB.out⟩,⟨by repeat (first|(with_reducible first|exact HB.out|apply aH|apply av|apply aI|refine aR ?_ KF.out)|exact HB.out)⟩⟩
  rw[if_neg c4] at H;have nL:decide (bX<0)=false:=decide_eq_false c4;clear c4
  (first|rw[nL]|(simp only[dn,dA];rw[nL])|skip)
  have H':=ah.mk H;clear H;have Ib:w3.cell? ⟨nG,0,none⟩=some (.int .i64 dh):=(ak fB.out 0).trans rfl;have Ic:w3.cell? ⟨nG,1,none⟩=some (.string cO):=(ak fB.out 1).trans rfl;have Ie:w3.cell? ⟨nG,2,none⟩=some (.string dz):=(ak fB.out 2).trans rfl;have Ig:w3.cell? ⟨nG,3,none⟩=some (.int .i64 bX):=(ak fB.out 3).trans rfl;have Ih:w3.cell? ⟨nG,4,none⟩=some (.slice gF bQ.length eD):=(ak fB.out 4).trans rfl;have Ii:w3.cell? ⟨nG,5,none⟩=some (.slice eB bU.length eu):=(ak fB.out 5).trans rfl;have Ij:=ay fB.out 0;have Ik:=ay fB.out 1;have Il:=ay fB.out 2;have Im:=ay fB.out 3;have Io:=ay fB.out 4;have Ip:=ay fB.out 5
  go_wp2
  go_meet
  case rel=>exact⟨_,(decide (bX > 8459264)),eG,H',⟨by first|omega|exact Nat.le_refl _⟩,⟨by (with_reducible repeat (first|refine bD ?_ _|refine bI ?_|refine aM ?_ _));exact fB.out⟩,⟨by repeat (first|(with_reducible first|exact HB.out|apply aH|apply av|apply aI|refine aR ?_ KF.out)|exact HB.out)⟩⟩
 case rest=>
  clear JJ
  try clear c1
  try clear p2
  try clear c4
  try clear nL
  try clear Ho
  try clear Hq
  try clear Hr
  try clear Ht
  try clear Hu
  try clear Hw
  try clear Ib
  try clear Ic
  try clear Ie
  try clear Ig
  try clear Ih
  try clear Ii
  try clear Hy
  try clear Hz
  try clear H7
  try clear H8
  try clear H9
  try clear Ia
  try clear Ij
  try clear Ik
  try clear Il
  try clear Im
  try clear Io
  try clear Ip
  obtain⟨kq,TQ,rfl,HA,Wj,fB,HB⟩:=hcut
  cases kq with
  | zero=>exact absurd HA.out (by simp[cB.j0])
  | succ VH=>
   have H:=HA.out;clear HA;simp only[cB.j0] at H;by_cases c7:TQ=true
   ·subst c7
    have H1:(some (0,false))=some (r1,r2):=by rw[if_pos rfl] at H;exact H
    clear H;have H:=H1;clear H1;simp only[Option.some.injEq,Prod.mk.injEq] at H;obtain⟨rfl,rfl⟩:=H
    go_wp2
    go_ret2
    exact⟨by first|rfl|(simp[aX,aY] <;> rfl)|(simp[*,aX,aY] <;> rfl),by repeat (first|(with_reducible first|exact HB.out|apply aH|apply av|apply aI|refine aR ?_ KF.out)|exact HB.out)⟩
   replace c7:=Bool.eq_false_iff.mpr c7;subst c7
   have H1:((yA.f bX).bind fun t105=>((dw.f VH bQ t105).bind fun Ef=>(some (Ef.1,Ef.2))))=some (r1,r2):=by rw[if_neg (show ¬(false=true) by decide)] at H;exact H
   clear H;have H:=H1;clear H1;replace H:=Option.bind_eq_some_iff.mp H;obtain⟨t105,A80,H⟩:=H;replace H:((dw.f VH bQ t105).bind fun Ef=>(some (Ef.1,Ef.2)))=some (r1,r2):=H;have A8:=ah.mk A80;clear A80;replace H:=Option.bind_eq_some_iff.mp H;obtain⟨⟨aiz,t107⟩,A90,H⟩:=H;replace H:(some (aiz,t107))=some (r1,r2):=H;have A9:=ah.mk A90;clear A90;simp only[Option.some.injEq,Prod.mk.injEq] at H;obtain⟨rfl,rfl⟩:=H
   try go_wp2
   have fD:=ah.mk (bI fB.out);have gy:=ah.mk (aI HB.out);clear fB;clear HB;have fB:=fD;have HB:=gy;clear fD gy;refine kY (n:=10) (S:=fun w'=>w'.cell? ⟨nG,0,none⟩=some (.int .i64 dh)∧w'.cell? ⟨nG,1,none⟩=some (.string cO)∧w'.cell? ⟨nG,2,none⟩=some (.string dz)∧w'.cell? ⟨nG,3,none⟩=some (.int .i64 bX)∧w'.cell? ⟨nG,4,none⟩=some (.slice gF bQ.length eD)∧w'.cell? ⟨nG,5,none⟩=some (.slice eB bU.length eu)) (ds:=[]) (aQ 10 0) aA rfl rfl ⟨(ak fB.out 0).trans rfl,(ak fB.out 1).trans rfl,(ak fB.out 2).trans rfl,(ak fB.out 3).trans rfl,(ak fB.out 4).trans rfl,(ak fB.out 5).trans rfl⟩ (fun hHeld=>?_);refine yQ cB.aoo cB.aiy (fun tK Xa=>?_);generalize wc.drew=Ns at fB HB hHeld ⊢;refine fP (i:=0) (N:=some 12) (v:=?_) (a':=?_) (aQ 10 1) rfl rfl (jE tK.out aA) (fun _ _ _ h=>h) (Or.inl ⟨by rfl,?_⟩) ?_ ?_;rotate_left
   ·intro w'
    go_simp
    with_reducible rfl
   rotate_left
   ·simp only[Act.put,aYa,aYb,aYc,dn,dA];rfl
   refine fP (i:=2) (N:=some 14) (v:=?_) (a':=?_) (aQ 10 5) rfl rfl (jE tK.out aA) (fun _ _ _ h=>h) (Or.inl ⟨by rfl,?_⟩) ?_ ?_;rotate_left
   ·intro w'
    go_simp
    with_reducible rfl
   rotate_left
   ·simp only[Act.put,aYa,aYb,aYc,dn,dA];rfl
   refine jZ (i:=1) (N:=some 13) (v:=?_) (a':=?_) (aQ 10 7) rfl rfl (qM tK.out Xa.out aA) (fun _ _ _ h=>h) (Or.inl ⟨by rfl,?_⟩) hHeld ?_ ?_;rotate_left
   ·rintro w' ⟨s0,s1,s2,s3,s4,s5⟩
    go_simp
    with_reducible rfl
   rotate_left
   ·simp only[Act.put,aYa,aYb,aYc,dn,dA];rfl
   refine jZ (i:=3) (N:=some 15) (v:=?_) (a':=?_) (aQ 10 15) rfl rfl (qM tK.out Xa.out aA) (fun _ _ _ h=>h) (Or.inl ⟨by rfl,?_⟩) hHeld ?_ ?_;rotate_left
   ·rintro w' ⟨s0,s1,s2,s3,s4,s5⟩
    go_simp
    with_reducible rfl
   rotate_left
   ·simp only[Act.put,aYa,aYb,aYc,dn,dA];rfl
   refine QT (i:=4) (N:=some 16) (aQ 10 31) rfl rfl (xX tK.out aA) aD (fun K hK=>?_);refine Gz Tryz.func147 aA rfl #[.int .i64 bX] (by rfl) rfl rfl nT ?_
   with_reducible refine (yA.calls bX t105 _ A8.out).mono ?_
   rintro e w' ⟨rfl,⟨nd,rfl⟩⟩;refine⟨_,rfl,?_⟩;refine hK.out _ _ ⟨(ak fB.out 0).trans rfl,(ak fB.out 1).trans rfl,(ak fB.out 2).trans rfl,(ak fB.out 3).trans rfl,(ak fB.out 4).trans rfl,(ak fB.out 5).trans rfl⟩ (fun hHeld=>?_);clear hK K;refine fU 16 ?_;refine QT (i:=5) (N:=some 17) (aQ 10 63) rfl rfl (xX tK.out aA) aD (fun K hK=>?_);refine Gz Tryz.func136 aA rfl #[.slice gF bQ.length eD,.int .i64 t105] (by rfl) rfl rfl nT ?_
   with_reducible refine (dw.calls VH _ _ bQ t105 aiz t107 _ ?jy ?jA A9.out).mono ?_
   (case jy=>repeat (first|exact (Kd.aC vw.out (by repeat (first|(with_reducible first|exact HB.out|apply aH|apply av|apply aI|refine aR ?_ KF.out)|exact HB.out)))|(with_reducible refine Kd.eO ?_ _)|(with_reducible refine Kd.dV ?_ _)|(with_reducible refine Kd.gL ?_)))
   (case jA=>exact D6.out)
   rintro e FJ ⟨rfl,hb⟩;refine⟨_,rfl,?_⟩;have fD:=ah.mk (aG (g:=nG) (o:=.cells #[.int .i64 dh,.string cO,.string dz,.int .i64 bX,.slice gF bQ.length eD,.slice eB bU.length eu] 29 (0,0)) (by (with_reducible repeat (first|refine bD ?_ _|refine bI ?_|refine aM ?_ _));exact fB.out) hb);have gy:=ah.mk (bO (by repeat (first|(with_reducible first|exact HB.out|apply aH|apply av|apply aI|refine aR ?_ KF.out)|exact HB.out)) hb);clear fB;clear HB;have fB:=fD;have HB:=gy;clear fD gy
   (try clear hb)
   (try clear hb2)
   (try clear hk)
   (try clear hi)
   refine hK.out _ _ ⟨(ak fB.out 0).trans rfl,(ak fB.out 1).trans rfl,(ak fB.out 2).trans rfl,(ak fB.out 3).trans rfl,(ak fB.out 4).trans rfl,(ak fB.out 5).trans rfl⟩ (fun hHeld=>?_);clear hK K;refine fU 17 ?_;refine fP (i:=6) (N:=some 18) (v:=?_) (a':=?_) (aQ 10 127) rfl rfl (jE tK.out aA) (fun _ _ _ h=>h) (Or.inl ⟨by rfl,?_⟩) ?_ ?_;rotate_left
   ·intro w'
    go_simp
    with_reducible rfl
   rotate_left
   ·simp only[Act.put,aYa,aYb,aYc,dn,dA];rfl
   refine fP (i:=7) (N:=some 19) (v:=?_) (a':=?_) (aQ 10 255) rfl rfl (jE tK.out aA) (fun _ _ _ h=>h) (Or.inl ⟨by rfl,?_⟩) ?_ ?_;rotate_left
   ·intro w'
    go_simp
    with_reducible rfl
   rotate_left
   ·simp only[Act.put,aYa,aYb,aYc,dn,dA];rfl
   refine fP (i:=8) (N:=some 2) (v:=?_) (a':=?_) (aQ 10 511) rfl rfl (jE tK.out aA) (fun _ _ _ h=>h) (Or.inl ⟨by rfl,?_⟩) ?_ ?_;rotate_left
   ·intro w'
    go_simp
    with_reducible rfl
   rotate_left
   ·simp only[Act.put,aYa,aYb,aYc,dn,dA];rfl
   refine fP (i:=9) (N:=some 3) (v:=?_) (a':=?_) (aQ 10 1023) rfl rfl (jE tK.out aA) (fun _ _ _ h=>h) (Or.inl ⟨by rfl,?_⟩) ?_ ?_;rotate_left
   ·intro w'
    go_simp
    with_reducible rfl
   rotate_left
   ·simp only[Act.put,aYa,aYb,aYc,dn,dA];rfl
   refine kK (EP tK.out aA) ?_
   try go_wp2
   go_ret2
   exact⟨by first|rfl|(simp[aX,aY] <;> rfl)|(simp[*,aX,aY] <;> rfl),by repeat (first|(with_reducible first|exact HB.out|apply aH|apply av|apply aI|refine aR ?_ KF.out)|exact HB.out)⟩
mutual
def bV.l0:Nat→List (dI)→Int→List (dI)→Int→Int→Option (Bool)
 | 0,_,_,_,_,_=>none
 | k+1,x1,x5,x8,x9,x10=>if x10<x9 then (if 0≤x10 then (if x10<(x8.length:Int) then (bV.l1 k x1 x5 x8 x9 x10 ((aK x8 x10).f0) ((aK x8 x10).f1)) else (none)) else (none)) else (some true)
def bV.l1:Nat→List (dI)→Int→List (dI)→Int→Int→Int→Int→Option (Bool)
 | 0,_,_,_,_,_,_,_=>none
 | k+1,x1,x5,x8,x9,x10,TR,TS=>if x5<(x1.length:Int) then (if 0≤x5 then (if ((aK x1 x5).f1)<TS then (bV.l1 k x1 (wrap64 (x5+1)) x8 x9 x10 TR TS) else (if x5=(x1.length:Int) then (some false) else (if ((aK x1 x5).f0) > TR then (some false) else (bV.l0 k x1 x5 x8 x9 (wrap64 (x10+1)))))) else (none)) else (if x5=(x1.length:Int) then (some false) else (if 0≤x5 then (none) else (none)))
end
def bV.f (k:Nat) (l0:List (dI)) (l1:List (dI)):Option (Bool):=bV.l0 k l1 0 l0 (l0.length:Int) 0
theorem bV.fC:∀k,(∀y0 y1 y2 y3 y4,bW (bV.l0 k y0 y1 y2 y3 y4) (bV.l0 (k+1) y0 y1 y2 y3 y4))∧(∀y0 y1 y2 y3 y4 y5 y6,bW (bV.l1 k y0 y1 y2 y3 y4 y5 y6) (bV.l1 (k+1) y0 y1 y2 y3 y4 y5 y6))
 | 0=>⟨fun _ _ _ _ _ r h=>by simp[bV.l0] at h,fun _ _ _ _ _ _ _ r h=>by simp[bV.l1] at h⟩
 | k+1=>by
  obtain⟨j6,ih1⟩:=bV.fC k;refine⟨?_,?_⟩
  ·intro y0 y1 y2 y3 y4;unfold bV.l0
   repeat' first
   | (with_reducible exact j6 _ _ _ _ _)
   | (with_reducible exact ih1 _ _ _ _ _ _ _)
   | (with_reducible exact bW.refl _)
   | (with_reducible exact bW.none _)
   | (with_reducible refine bW.ite ?_ ?_)
   | (with_reducible refine bW.bind ?_ (fun _=>?_))
   | exact j6 _ _ _ _ _
   | exact ih1 _ _ _ _ _ _ _
   | exact bW.none _
   | refine bW.ite ?_ ?_
   | refine bW.bind ?_ (fun _=>?_)
  intro y0 y1 y2 y3 y4 y5 y6;unfold bV.l1
  repeat' first
  | (with_reducible exact j6 _ _ _ _ _)
  | (with_reducible exact ih1 _ _ _ _ _ _ _)
  | (with_reducible exact bW.refl _)
  | (with_reducible exact bW.none _)
  | (with_reducible refine bW.ite ?_ ?_)
  | (with_reducible refine bW.bind ?_ (fun _=>?_))
  | exact j6 _ _ _ _ _
  | exact ih1 _ _ _ _ _ _ _
  | exact bW.none _
  | refine bW.ite ?_ ?_
  | refine bW.bind ?_ (fun _=>?_)
theorem bV.mono:∀a0 a1 k,bW (bV.f k a0 a1) (bV.f (k+1) a0 a1):=by
 intro a0 a1 k;obtain⟨j6,ih1⟩:=bV.fC k;unfold bV.f
 repeat' first
   | (with_reducible exact j6 _ _ _ _ _)
   | (with_reducible exact ih1 _ _ _ _ _ _ _)
   | (with_reducible exact bW.refl _)
   | (with_reducible exact bW.none _)
   | (with_reducible refine bW.ite ?_ ?_)
   | (with_reducible refine bW.bind ?_ (fun _=>?_))
   | exact j6 _ _ _ _ _
   | exact ih1 _ _ _ _ _ _ _
   | exact bW.none _
   | refine bW.ite ?_ ?_
   | refine bW.bind ?_ (fun _=>?_)
theorem bV.calls (k:Nat) (A0:Option Addr) (c0:Nat) (l0:List (dI)) (A1:Option Addr) (c1:Nat) (l1:List (dI)) (r:Bool) (w:World) (hr0:Kd.C dB w A0 l0.length l0) (hc0:l0.length≤c0) (hr1:Kd.C dB w A1 l1.length l1) (hc1:l1.length≤c1) (h:bV.f k l0 l1=some r) :
  Calls Tryz.prog 137 #[.slice A0 l0.length c0,.slice A1 l1.length c1] w fun e w'=>e=.returned (.bool r)∧Below w.heap.size w w':=by
 have SA:=Tryz.underlying117;have qP:=ah.mk hr0;have Qp:=ah.mk hc0;clear hr0 hc0;have HR1:=ah.mk hr1;have I8:=ah.mk hc1;clear hr1 hc1;have HB:=ah.mk (Below.refl w.heap.size w);have H:(bV.l0 k l1 0 l0 (l0.length:Int) 0)=some r:=h;clear h;have H':=ah.mk H;clear H
 go_enter Tryz.func137,Tryz.ntmps137
 go_wp2
 repeat (go_quiet (fail);try go_wp2)
 go_loopg [5,10] k (fun kq v5 v10 w'=>∃(aZ:Int) (jg:Int),v5=.int .i64 aZ∧v10=.int .i64 jg∧ah (bV.l0 kq l1 aZ l0 (l0.length:Int) jg=some r)∧ah (kq≤k)∧ah (Below w.heap.size w w'))
 case atStart=>exact⟨(0),(0),eG,eG,H',⟨Nat.le_refl _⟩,⟨by repeat (first|(with_reducible first|exact HB.out|apply aH|apply av|apply aI)|exact HB.out)⟩⟩
 case round=>
  clear H'
  try clear c1
  try clear p2
  obtain⟨aZ,jg,rfl,rfl,HA,jY,HB⟩:=hrel
  cases gk with
  | zero=>exact absurd HA.out (by simp[bV.l0])
  | succ k1=>
   have H:=HA.out;clear HA;simp only[bV.l0] at H
   by_cases c3:jg<(l0.length:Int)
   ·rw[if_pos c3] at H;have o9:decide (jg<(l0.length:Int))=true:=decide_eq_true c3;clear c3;by_cases c4:0≤jg
    ·rw[if_pos c4] at H;have nL:decide (0≤jg)=true:=decide_eq_true c4;clear c4
     by_cases c5:jg<(l0.length:Int)
     ·rw[if_pos c5] at H;have Gc:decide (jg<(l0.length:Int))=true:=decide_eq_true c5;clear c5;have H':=ah.mk H;clear H;have aaq:0≤(jg:Int):=of_decide_eq_true bS;have aar:jg<(l0.length:Int):=of_decide_eq_true bS;obtain⟨aqz,aop,EZ,E5⟩:=dP qP.out jg aaq aar;cases aop;replace EZ:=(HB.out.cell (World.block_lt_of_cell? w _ EZ)).trans EZ;replace E5:=(HB.out.cell (World.block_lt_of_cell? w _ E5)).trans E5;replace aaq:=eq_true aaq;replace aar:=eq_true aar
      go_wp2_with (first|((with_reducible refine fJ (N:=7) rfl ?_);refine fA ?hg (N:=7) ?hd (cs:=#[.int .i64 0,.int .i64 0]) (t:=117) ?hr ?_;(case hd=>rfl);(case hg=>rfl);(case hr=>first|(go_simp;done)|(go_simp;rfl));intro mV hg w6 eH hb;have fD:=ah.mk (bO dL hb);have gy:=ah.mk (eH);have iE:=ah.mk ((by rw[hg];exact (bB dL):w.heap.size≤mV));have jS:=ah.mk ((by rw[hg];exact (bB dL):w.heap.size≤mV));clear HB;have HB:=fD;have jB:=gy;have acp:=iE;have Eh:=jS;clear fD gy iE jS;clear hb eH hg;have Lg:w6.cell? ⟨mV,0,none⟩=some (.int .i64 0):=(ak jB.out 0).trans rfl;have Lh:w6.cell? ⟨mV,1,none⟩=some (.int .i64 0):=(ak jB.out 1).trans rfl;have Li:=ay jB.out 0;have Lj:=ay jB.out 1))
      repeat (go_quiet (first|((with_reducible refine fJ (N:=7) rfl ?_);refine fA ?hg (N:=7) ?hd (cs:=#[.int .i64 0,.int .i64 0]) (t:=117) ?hr ?_;(case hd=>rfl);(case hg=>rfl);(case hr=>first|(go_simp;done)|(go_simp;rfl));intro mV hg w6 eH hb;have fD:=ah.mk (bO dL hb);have gy:=ah.mk (eH);have iE:=ah.mk ((by rw[hg];exact (bB dL):w.heap.size≤mV));have jS:=ah.mk ((by rw[hg];exact (bB dL):w.heap.size≤mV));clear HB;have HB:=fD;have jB:=gy;have acp:=iE;have Eh:=jS;clear fD gy iE jS;clear hb eH hg;have Lg:w6.cell? ⟨mV,0,none⟩=some (.int .i64 0):=(ak jB.out 0).trans rfl;have Lh:w6.cell? ⟨mV,1,none⟩=some (.int .i64 0):=(ak jB.out 1).trans rfl;have Li:=ay jB.out 0;have Lj:=ay jB.out 1));try go_wp2_with (first|((with_reducible refine fJ (N:=7) rfl ?_);refine fA ?hg (N:=7) ?hd (cs:=#[.int .i64 0,.int .i64 0]) (t:=117) ?hr ?_;(case hd=>rfl);(case hg=>rfl);(case hr=>first|(go_simp;done)|(go_simp;rfl));intro mV hg w6 eH hb;have fD:=ah.mk (bO dL hb);have gy:=ah.mk (eH);have iE:=ah.mk ((by rw[hg];exact (bB dL):w.heap.size≤mV));have jS:=ah.mk ((by rw[hg];exact (bB dL):w.heap.size≤mV));clear HB;have HB:=fD;have jB:=gy;have acp:=iE;have Eh:=jS;clear fD gy iE jS;clear hb eH hg;have Lg:w6.cell? ⟨mV,0,none⟩=some (.int .i64 0):=(ak jB.out 0).trans rfl;have Lh:w6.cell? ⟨mV,1,none⟩=some (.int .i64 0):=(ak jB.out 1).trans rfl;have Li:=ay jB.out 0;have Lj:=ay jB.out 1)))
      go_loopg [5] k1 (fun kq v5 w'=>∃(iV:Int),v5=.int .i64 iV∧ah (bV.l1 kq l1 iV l0 (l0.length:Int) jg ((aK l0 jg).f0) ((aK l0 jg).f1)=some r)∧ah (kq≤k1)∧ah (w'.heap[mV]?=some (.cells #[.int .i64 ((aK l0 jg).f0),.int .i64 ((aK l0 jg).f1)] 117 (0,0)))∧ah (Below w.heap.size w w'))
      case atStart=>exact⟨(aZ),eG,H',⟨Nat.le_refl _⟩,⟨by (with_reducible repeat (first|refine bD ?_ _|refine bI ?_|refine aM ?_ _));refine iC (cs:=#[.int .i64 ((aK l0 jg).f0),.int .i64 0]) ?_ 1 _ rfl;(with_reducible repeat (first|refine bD ?_ _|refine bI ?_|refine aM ?_ _));refine iC (cs:=#[.int .i64 0,.int .i64 0]) ?_ 0 _ rfl;(with_reducible repeat (first|refine bD ?_ _|refine bI ?_|refine aM ?_ _));exact jB.out⟩,⟨by repeat (first|(with_reducible first|exact HB.out|apply aH|apply av|apply aI|refine aR ?_ Eh.out)|exact HB.out)⟩⟩
      case round=>
       clear H'
       try clear c1
       try clear p1
       try clear q1
       try clear hx1
       try clear p2
       try clear c3
       try clear o9
       try clear c4
       try clear nL
       try clear c5
       try clear Gc
       try clear Lg
       try clear Lh
       try clear Li
       try clear Lj
       try clear EZ
       try clear E5
       try clear aaq
       try clear p2
       try clear aar
       obtain⟨iV,rfl,HA,jG,jB,HB⟩:=hrel
       cases gk with
       | zero=>exact absurd HA.out (by simp[bV.l1])
       | succ k2=>
        have H:=HA.out;clear HA;simp only[bV.l1] at H
        by_cases c8:iV<(l1.length:Int)
        ·rw[if_pos c8] at H;have ZB:decide (iV<(l1.length:Int))=true:=decide_eq_true c8;clear c8;by_cases c9:0≤iV
         ·rw[if_pos c9] at H;have LZ:decide (0≤iV)=true:=decide_eq_true c9;clear c9
          by_cases c10:((aK l1 iV).f1)<((aK l0 jg).f1)
          ·rw[if_pos c10] at H;have GL:decide (((aK l1 iV).f1)<((aK l0 jg).f1))=true:=decide_eq_true c10;clear c10;have H':=ah.mk H;clear H;have AB:0≤(iV:Int):=of_decide_eq_true bS;have AJ:iV<(l1.length:Int):=of_decide_eq_true bS;obtain⟨OZ,Rx,lK,lM⟩:=dP HR1.out iV AB AJ;cases Rx;replace lK:=(HB.out.cell (World.block_lt_of_cell? w _ lK)).trans lK;replace lM:=(HB.out.cell (World.block_lt_of_cell? w _ lM)).trans lM;replace AB:=eq_true AB;replace AJ:=eq_true AJ;have aag:wr.cell? ⟨mV,0,none⟩=some (.int .i64 ((aK l0 jg).f0)):=(ak jB.out 0).trans rfl;have aah:wr.cell? ⟨mV,1,none⟩=some (.int .i64 ((aK l0 jg).f1)):=(ak jB.out 1).trans rfl;have aai:=ay jB.out 0;have aaj:=ay jB.out 1
           go_wp2
           repeat (go_quiet (fail);try go_wp2)
           go_roundg k2
           case measure=>have:=jY.out;have:=jG.out;omega
           case rel=>exact⟨(wrap64 (iV+1)),eG,H',⟨by have:=jY.out;have:=jG.out;omega⟩,⟨by (with_reducible repeat (first|refine bD ?_ _|refine bI ?_|refine aM ?_ _));exact jB.out⟩,⟨by repeat (first|(with_reducible first|exact HB.out|apply aH|apply av|apply aI|refine aR ?_ Eh.out)|exact HB.out)⟩⟩
          rw[if_neg c10] at H;have GL:decide (((aK l1 iV).f1)<((aK l0 jg).f1))=false:=decide_eq_false c10;clear c10
          by_cases c12:iV=(l1.length:Int)
          ·rw[if_pos c12] at H;have Hl:(iV == (l1.length:Int))=true:=beq_iff_eq.mpr c12;have aiA:(iV != (l1.length:Int))=false:=bne_eq_false_iff_eq.mpr c12;clear c12;obtain rfl:=Option.some.inj H;have AB:0≤(iV:Int):=of_decide_eq_true bS;have AJ:iV<(l1.length:Int):=of_decide_eq_true bS;obtain⟨OZ,Rx,lK,lM⟩:=dP HR1.out iV AB AJ;cases Rx;replace lK:=(HB.out.cell (World.block_lt_of_cell? w _ lK)).trans lK;replace lM:=(HB.out.cell (World.block_lt_of_cell? w _ lM)).trans lM;replace AB:=eq_true AB;replace AJ:=eq_true AJ;have Zg:wr.cell? ⟨mV,0,none⟩=some (.int .i64 ((aK l0 jg).f0)):=(ak jB.out 0).trans rfl;have Zh:wr.cell? ⟨mV,1,none⟩=some (.int .i64 ((aK l0 jg).f1)):=(ak jB.out 1).trans rfl;have Zi:=ay jB.out 0;have Zj:=ay jB.out 1
           go_wp2
           repeat (go_quiet (fail);try go_wp2)
           go_ret
           exact⟨by first|rfl|(simp[aX,aY] <;> rfl)|(simp[*,aX,aY] <;> rfl),by repeat (first|(with_reducible first|exact HB.out|apply aH|apply av|apply aI|refine aR ?_ Eh.out)|exact HB.out)⟩
          rw[if_neg c12] at H;have Hl:(iV == (l1.length:Int))=false:=beq_eq_false_iff_ne.mpr c12;have aiA:(iV != (l1.length:Int))=true:=bne_iff_ne.mpr c12
          by_cases c14:((aK l1 iV).f0) > ((aK l0 jg).f0)
          ·rw[if_pos c14] at H;have XP:decide (((aK l0 jg).f0)<((aK l1 iV).f0))=true:=decide_eq_true c14;clear c14;obtain rfl:=Option.some.inj H;have AB:0≤(iV:Int):=of_decide_eq_true bS;have AJ:iV<(l1.length:Int):=of_decide_eq_true bS;obtain⟨OZ,Rx,lK,lM⟩:=dP HR1.out iV AB AJ;cases Rx;replace lK:=(HB.out.cell (World.block_lt_of_cell? w _ lK)).trans lK;replace lM:=(HB.out.cell (World.block_lt_of_cell? w _ lM)).trans lM;replace AB:=eq_true AB;replace AJ:=eq_true AJ;have EL:wr.cell? ⟨mV,0,none⟩=some (.int .i64 ((aK l0 jg).f0)):=(ak jB.out 0).trans rfl;have EM:wr.cell? ⟨mV,1,none⟩=some (.int .i64 ((aK l0 jg).f1)):=(ak jB.out 1).trans rfl;have EN:=ay jB.out 0;have EO:=ay jB.out 1;have Ry:0≤(iV:Int):=of_decide_eq_true bS;have Rz:iV<(l1.length:Int):=of_decide_eq_true bS;obtain⟨XQ,aeK,wI,wJ⟩:=dP HR1.out iV Ry Rz
           obtain rfl:OZ=XQ:=(by injection aeK)
           replace wI:=(HB.out.cell (World.block_lt_of_cell? w _ wI)).trans wI;replace wJ:=(HB.out.cell (World.block_lt_of_cell? w _ wJ)).trans wJ;replace Ry:=eq_true Ry;replace Rz:=eq_true Rz
           go_wp2
           repeat (go_quiet (fail);try go_wp2)
           go_ret
           exact⟨by first|rfl|(simp[aX,aY] <;> rfl)|(simp[*,aX,aY] <;> rfl),by repeat (first|(with_reducible first|exact HB.out|apply aH|apply av|apply aI|refine aR ?_ Eh.out)|exact HB.out)⟩
          rw[if_neg c14] at H;have XP:decide (((aK l0 jg).f0)<((aK l1 iV).f0))=false:=decide_eq_false c14;clear c14;have H':=ah.mk H;clear H;have AB:0≤(iV:Int):=of_decide_eq_true bS;have AJ:iV<(l1.length:Int):=of_decide_eq_true bS;obtain⟨OZ,Rx,lK,lM⟩:=dP HR1.out iV AB AJ;cases Rx;replace lK:=(HB.out.cell (World.block_lt_of_cell? w _ lK)).trans lK;replace lM:=(HB.out.cell (World.block_lt_of_cell? w _ lM)).trans lM;replace AB:=eq_true AB;replace AJ:=eq_true AJ;have aak:wr.cell? ⟨mV,0,none⟩=some (.int .i64 ((aK l0 jg).f0)):=(ak jB.out 0).trans rfl;have aal:wr.cell? ⟨mV,1,none⟩=some (.int .i64 ((aK l0 jg).f1)):=(ak jB.out 1).trans rfl;have aam:=ay jB.out 0;have aan:=ay jB.out 1;have Ry:0≤(iV:Int):=of_decide_eq_true bS;have Rz:iV<(l1.length:Int):=of_decide_eq_true bS;obtain⟨XQ,aeK,wI,wJ⟩:=dP HR1.out iV Ry Rz
          obtain rfl:OZ=XQ:=(by injection aeK)
          replace wI:=(HB.out.cell (World.block_lt_of_cell? w _ wI)).trans wI;replace wJ:=(HB.out.cell (World.block_lt_of_cell? w _ wJ)).trans wJ;replace Ry:=eq_true Ry;replace Rz:=eq_true Rz
          go_wp2
          repeat (go_quiet (fail);try go_wp2)
          go_roundg k2
          case measure=>have:=jY.out;have:=jG.out;omega
          case rel=>exact⟨(iV),(wrap64 (jg+1)),eG,eG,H',⟨by have:=jY.out;have:=jG.out;omega⟩,⟨by repeat (first|(with_reducible first|exact HB.out|apply aH|apply av|apply aI|refine aR ?_ Eh.out)|exact HB.out)⟩⟩
         rw[if_neg c9] at H;exact absurd H bK
        rw[if_neg c8] at H;have ZB:decide (iV<(l1.length:Int))=false:=decide_eq_false c8;clear c8
        by_cases c17:iV=(l1.length:Int)
        ·rw[if_pos c17] at H;have aiB:(iV == (l1.length:Int))=true:=beq_iff_eq.mpr c17;have aiC:(iV != (l1.length:Int))=false:=bne_eq_false_iff_eq.mpr c17;clear c17;obtain rfl:=Option.some.inj H
         go_wp2
         repeat (go_quiet (fail);try go_wp2)
         go_ret
         exact⟨by first|rfl|(simp[aX,aY] <;> rfl)|(simp[*,aX,aY] <;> rfl),by repeat (first|(with_reducible first|exact HB.out|apply aH|apply av|apply aI|refine aR ?_ Eh.out)|exact HB.out)⟩
        rw[if_neg c17] at H;have aiB:(iV == (l1.length:Int))=false:=beq_eq_false_iff_ne.mpr c17;have aiC:(iV != (l1.length:Int))=true:=bne_iff_ne.mpr c17;by_cases c18:0≤iV
        ·rw[if_pos c18] at H;exact absurd H bK
        rw[if_neg c18] at H;exact absurd H bK
     rw[if_neg c5] at H;exact absurd H bK
    rw[if_neg c4] at H;exact absurd H bK
   rw[if_neg c3] at H;have o9:decide (jg<(l0.length:Int))=false:=decide_eq_false c3;clear c3;obtain rfl:=Option.some.inj H
   go_wp2
   repeat (go_quiet (fail);try go_wp2)
   go_ret
   exact⟨by first|rfl|(simp[aX,aY] <;> rfl)|(simp[*,aX,aY] <;> rfl),by repeat (first|(with_reducible first|exact HB.out|apply aH|apply av|apply aI)|exact HB.out)⟩
end Go.Proofs.YtknihldkhedpkaaGreatDoor.PT
