import Derived.Test.YtknihldkhedpkaaGreatDoorYYG1
set_option linter.all false
set_option maxHeartbeats 16000000
set_option maxRecDepth 100000
namespace Go.Proofs.YtknihldkhedpkaaGreatDoor.PT
open Go.RowKit Go.Proofs.YtknihldkhedpkaaGreatDoorW.PrintWords Go.Proofs.YtknihldkhedpkaaGreatDoorW.PrintLast Go.Proofs.YtknihldkhedpkaaGreatDoorW.PrintMore
attribute [local go_sem] nQ nR qz qA lU lV nS nT
def stringslite_HasPrefix.f (a0:ByteArray) (a1:ByteArray):Option (Bool):=if (a0.size:Int)≥(a1.size:Int) then (if 0≤(a1.size:Int) then (if (a1.size:Int)≤(a0.size:Int) then (some ((a0.extract 0 ((a1.size:Int):Int).toNat).toList == a1.toList)) else (none)) else (none)) else (some false)
theorem stringslite_HasPrefix.calls (a0:ByteArray) (a1:ByteArray) (r:Bool) (w:World) (h:stringslite_HasPrefix.f a0 a1=some r) :
  Calls Tryz.prog 144 #[.string a0,.string a1] w fun e w'=>e=.returned (.bool r)∧bF w w':=by
 have H:(if (a0.size:Int)≥(a1.size:Int) then (if 0≤(a1.size:Int) then (if (a1.size:Int)≤(a0.size:Int) then (some ((a0.extract 0 ((a1.size:Int):Int).toNat).toList == a1.toList)) else (none)) else (none)) else (some false))=some r:=h;clear h
 by_cases c3:(a0.size:Int)≥(a1.size:Int)
 ·rw[if_pos c3] at H;have ou:decide ((a1.size:Int)≤(a0.size:Int))=true:=decide_eq_true c3;have zh:decide (a1.size≤a0.size)=true:=decide_eq_true (Int.ofNat_le.mp c3);clear c3
  by_cases c4:0≤(a1.size:Int)
  ·rw[if_pos c4] at H;have mO:=eq_true c4;have ap6:decide (0≤(a1.size:Int))=true:=decide_eq_true c4;clear c4
   by_cases c5:(a1.size:Int)≤(a0.size:Int)
   ·rw[if_pos c5] at H;have ER:=eq_true c5;have XI:decide ((a1.size:Int)≤(a0.size:Int))=true:=decide_eq_true c5;clear c5;obtain rfl:=Option.some.inj H
    go_enter Tryz.func144,Tryz.ntmps144
    go_wp2
    go_ret
    exact⟨by first|rfl|(simp;done)|(simp[*];done),by repeat (first|exact bF.refl _|apply bF.step)⟩
   ·rw[if_neg c5] at H;exact absurd H (by simp)
  ·rw[if_neg c4] at H;exact absurd H (by simp)
 ·rw[if_neg c3] at H;have ou:decide ((a1.size:Int)≤(a0.size:Int))=false:=decide_eq_false c3;have zh:decide (a1.size≤a0.size)=false:=decide_eq_false (fun h=>c3 (Int.ofNat_le.mpr h));clear c3;obtain rfl:=Option.some.inj H
  go_enter Tryz.func144,Tryz.ntmps144
  go_wp2
  go_ret
  exact⟨by first|rfl|(simp;done)|(simp[*];done),by repeat (first|exact bF.refl _|apply bF.step)⟩
def strings_HasPrefix.f (a0:ByteArray) (a1:ByteArray):Option (Bool):=(stringslite_HasPrefix.f a0 a1).bind fun Ti=>(some Ti)
theorem strings_HasPrefix.calls (a0:ByteArray) (a1:ByteArray) (r:Bool) (w:World) (h:strings_HasPrefix.f a0 a1=some r) :
  Calls Tryz.prog 130 #[.string a0,.string a1] w fun e w'=>e=.returned (.bool r)∧bF w w':=by
 have H:((stringslite_HasPrefix.f a0 a1).bind fun Ti=>(some Ti))=some r:=h;clear h;replace H:=Option.bind_eq_some_iff.mp H;obtain⟨Ti,Q5,H⟩:=H;replace H:(some Ti)=some r:=H;have A3:=ah.mk Q5;clear Q5;obtain rfl:=Option.some.inj H
 go_enter Tryz.func130,Tryz.ntmps130
 go_wp2_with (first|((with_reducible refine fH (f:=144) rfl ?_);refine nI (some 7) rfl rfl Tryz.func144 (by kernel_rfl) rfl #[.string a0,.string a1] rfl (by (try simp only[List.map_toArray,List.map_cons,List.map_nil]);first|done|rfl|(simp only[List.length_drop,List.length_take];rfl)) ?_;(with_reducible refine (stringslite_HasPrefix.calls a0 a1 Ti _ A3.out).mono ?_);rintro e w' ⟨rfl,⟨nd,rfl⟩⟩;refine⟨_,rfl,?_⟩))
 go_ret
 exact⟨by first|rfl|(simp;done)|(simp[*];done),by repeat (first|exact bF.refl _|apply bF.step)⟩
def bZ.l0:Nat→Int→Int→Int→List (dx)→Int→Int→Option (Int × Bool)
 | 0,_,_,_,_,_,_=>none
 | k+1,x1,x6,x7,x10,x11,VK=>if VK<x11 then (if 0≤VK then (if VK<(x10.length:Int) then (if ((aK x10 VK).f0)≤x6 then (some (0,false)) else (if ((aK x10 VK).f1)≤((aK x10 VK).f0) then (some (0,false)) else (if ((aK x10 VK).f1) > x1 then (some (0,false)) else (bZ.l0 k x1 ((aK x10 VK).f1) (wrap64 (x7+(wrap64 (((aK x10 VK).f1) - ((aK x10 VK).f0))))) x10 x11 (wrap64 (VK+1)))))) else (none)) else (none)) else (some (x7,true))
def bZ.f (k:Nat) (l0:List (dx)) (a1:Int):Option (Int × Bool):=bZ.l0 k a1 (-1) 0 l0 (l0.length:Int) 0
theorem bZ.eG:∀k,(∀y0 y1 y2 y3 y4 y5,bQ (bZ.l0 k y0 y1 y2 y3 y4 y5) (bZ.l0 (k+1) y0 y1 y2 y3 y4 y5))
 | 0=>fun _ _ _ _ _ _ r h=>by simp[bZ.l0] at h
 | k+1=>by
  have jH:=bZ.eG k
  ·intro y0 y1 y2 y3 y4 y5;unfold bZ.l0
   repeat' first
   | (with_reducible exact jH _ _ _ _ _ _)
   | (with_reducible exact bQ.refl _)
   | (with_reducible exact bQ.none _)
   | (with_reducible refine bQ.ite ?_ ?_)
   | (with_reducible refine bQ.bind ?_ (fun _=>?_))
   | exact jH _ _ _ _ _ _
   | exact bQ.none _
   | refine bQ.ite ?_ ?_
   | refine bQ.bind ?_ (fun _=>?_)
theorem bZ.mono:∀a0 a1 k,bQ (bZ.f k a0 a1) (bZ.f (k+1) a0 a1):=by
 intro a0 a1 k;have jH:=bZ.eG k;unfold bZ.f
 repeat' first
   | (with_reducible exact jH _ _ _ _ _ _)
   | (with_reducible exact bQ.refl _)
   | (with_reducible exact bQ.none _)
   | (with_reducible refine bQ.ite ?_ ?_)
   | (with_reducible refine bQ.bind ?_ (fun _=>?_))
   | exact jH _ _ _ _ _ _
   | exact bQ.none _
   | refine bQ.ite ?_ ?_
   | refine bQ.bind ?_ (fun _=>?_)
theorem bZ.calls (k:Nat) (A0:Option Addr) (c0:Nat) (l0:List (dx)) (a1:Int) (r1:Int) (r2:Bool) (w:World) (hr0:Kd.C cO w A0 l0.length l0) (hc0:l0.length≤c0) (h:bZ.f k l0 a1=some (r1,r2)) :
  Calls Tryz.prog 136 #[.slice A0 l0.length c0,.int .i64 a1] w fun e w'=>e=.returned (.tuple #[.int .i64 r1,.bool r2])∧Below w.heap.size w w':=by
 have QN:=Tryz.underlying117;have pQ:=ah.mk hr0;have OL:=ah.mk hc0;clear hr0 hc0;have HB:=ah.mk (Below.refl w.heap.size w);have H:(bZ.l0 k a1 (-1) 0 l0 (l0.length:Int) 0)=some (r1,r2):=h;clear h;have H':=ah.mk H;clear H
 go_enter Tryz.func136,Tryz.ntmps136
 go_wp2
 go_loopg [6,7,12] k (fun kq v6 v7 v12 w'=>∃(Tj:Int) (Yv:Int) (gV:Int),v6=.int .i64 Tj∧v7=.int .i64 Yv∧v12=.int .i64 gV∧ah (bZ.l0 kq a1 Tj Yv l0 (l0.length:Int) gV=some (r1,r2))∧ah (kq≤k)∧ah (Below w.heap.size w w'))
 case atStart=>exact⟨((-1)),(0),(0),(by first|rfl|(simp;done)|(simp[*];done)),(by first|rfl|(simp;done)|(simp[*];done)),(by first|rfl|(simp;done)|(simp[*];done)),H',⟨Nat.le_refl _⟩,⟨by repeat (first|(with_reducible first|exact HB.out|apply ay|apply au|apply aA)|exact HB.out)⟩⟩
 case round=>
  clear H'
  try clear c1
  try clear p2
  obtain⟨Tj,Yv,gV,rfl,rfl,rfl,HA,jC,HB⟩:=hrel
  cases gk with
  | zero=>exact absurd HA.out (by simp[bZ.l0])
  | succ k1=>
   have H:=HA.out;clear HA;simp only[bZ.l0] at H
   by_cases c3:gV<(l0.length:Int)
   ·rw[if_pos c3] at H;have ou:decide (gV<(l0.length:Int))=true:=decide_eq_true c3;clear c3;by_cases c4:0≤gV
    ·rw[if_pos c4] at H;have mO:decide (0≤gV)=true:=decide_eq_true c4;clear c4
     by_cases c5:gV<(l0.length:Int)
     ·rw[if_pos c5] at H;have ER:decide (gV<(l0.length:Int))=true:=decide_eq_true c5;clear c5;by_cases c6:((aK l0 gV).f0)≤Tj
      ·rw[if_pos c6] at H;have OD:decide (((aK l0 gV).f0)≤Tj)=true:=decide_eq_true c6;clear c6;simp only[Option.some.injEq,Prod.mk.injEq] at H;obtain⟨rfl,rfl⟩:=H;have zu:0≤(gV:Int):=of_decide_eq_true (by first|(with_reducible assumption)|assumption);have zw:gV<(l0.length:Int):=of_decide_eq_true (by first|(with_reducible assumption)|assumption);obtain⟨VL,PY,kK,kL⟩:=dK pQ.out gV zu zw;cases PY;replace kK:=(HB.out.cell (World.block_lt_of_cell? w _ kK)).trans kK;replace kL:=(HB.out.cell (World.block_lt_of_cell? w _ kL)).trans kL;replace zu:=eq_true zu;replace zw:=eq_true zw
       go_wp2_with (first|((with_reducible refine eZ (N:=9) rfl ?_);refine eu ?hg (N:=9) ?hd (cs:=#[.int .i64 0,.int .i64 0]) (t:=117) ?hr ?_;(case hd=>rfl);(case hg=>rfl);(case hr=>first|(go_simp;done)|(go_simp;rfl));intro oQ hg w7 dV hb;have eF:=ah.mk (bM (by repeat (first|(with_reducible first|exact HB.out|apply ay|apply au|apply aA)|exact HB.out)) hb);have fG:=ah.mk (dV);have gN:=ah.mk ((by rw[hg];exact (bf (by repeat (first|(with_reducible first|exact HB.out|apply ay|apply au|apply aA)|exact HB.out))):w.heap.size≤oQ));have jE:=ah.mk ((by rw[hg];exact (bf (by repeat (first|(with_reducible first|exact HB.out|apply ay|apply au|apply aA)|exact HB.out))):w.heap.size≤oQ));clear HB;have HB:=eF;have oU:=fG;have VN:=gN;have FW:=jE;clear eF fG gN jE;clear hb dV hg;have Ku:w7.cell? ⟨oQ,0,none⟩=some (.int .i64 0):=(ak oU.out 0).trans rfl;have Kv:w7.cell? ⟨oQ,1,none⟩=some (.int .i64 0):=(ak oU.out 1).trans rfl;have Kw:=av oU.out 0;have Ky:=av oU.out 1))
       go_ret2
       exact⟨by first|rfl|(simp[aU,aV] <;> rfl)|(simp[*,aU,aV] <;> rfl),by repeat (first|(with_reducible first|exact HB.out|apply ay|apply au|apply aA|refine aN ?_ FW.out)|exact HB.out)⟩
      ·rw[if_neg c6] at H;have OD:decide (((aK l0 gV).f0)≤Tj)=false:=decide_eq_false c6;clear c6
       by_cases c9:((aK l0 gV).f1)≤((aK l0 gV).f0)
       ·rw[if_pos c9] at H;have KI:decide (((aK l0 gV).f1)≤((aK l0 gV).f0))=true:=decide_eq_true c9;clear c9;simp only[Option.some.injEq,Prod.mk.injEq] at H;obtain⟨rfl,rfl⟩:=H;have zu:0≤(gV:Int):=of_decide_eq_true (by first|(with_reducible assumption)|assumption);have zw:gV<(l0.length:Int):=of_decide_eq_true (by first|(with_reducible assumption)|assumption);obtain⟨VL,PY,kK,kL⟩:=dK pQ.out gV zu zw;cases PY;replace kK:=(HB.out.cell (World.block_lt_of_cell? w _ kK)).trans kK;replace kL:=(HB.out.cell (World.block_lt_of_cell? w _ kL)).trans kL;replace zu:=eq_true zu;replace zw:=eq_true zw
        go_wp2_with (first|((with_reducible refine eZ (N:=9) rfl ?_);refine eu ?hg (N:=9) ?hd (cs:=#[.int .i64 0,.int .i64 0]) (t:=117) ?hr ?_;(case hd=>rfl);(case hg=>rfl);(case hr=>first|(go_simp;done)|(go_simp;rfl));intro oQ hg IK dV hb;have eF:=ah.mk (bM (by repeat (first|(with_reducible first|exact HB.out|apply ay|apply au|apply aA)|exact HB.out)) hb);have fG:=ah.mk (dV);have gN:=ah.mk ((by rw[hg];exact (bf (by repeat (first|(with_reducible first|exact HB.out|apply ay|apply au|apply aA)|exact HB.out))):w.heap.size≤oQ));have jE:=ah.mk ((by rw[hg];exact (bf (by repeat (first|(with_reducible first|exact HB.out|apply ay|apply au|apply aA)|exact HB.out))):w.heap.size≤oQ));clear HB;have HB:=eF;have oU:=fG;have VN:=gN;have FW:=jE;clear eF fG gN jE;clear hb dV hg;have Yw:IK.cell? ⟨oQ,0,none⟩=some (.int .i64 0):=(ak oU.out 0).trans rfl;have Yx:IK.cell? ⟨oQ,1,none⟩=some (.int .i64 0):=(ak oU.out 1).trans rfl;have Yy:=av oU.out 0;have Yz:=av oU.out 1))
        go_ret2
        exact⟨by first|rfl|(simp[aU,aV] <;> rfl)|(simp[*,aU,aV] <;> rfl),by repeat (first|(with_reducible first|exact HB.out|apply ay|apply au|apply aA|refine aN ?_ FW.out)|exact HB.out)⟩
       ·rw[if_neg c9] at H;have KI:decide (((aK l0 gV).f1)≤((aK l0 gV).f0))=false:=decide_eq_false c9;clear c9;by_cases c12:((aK l0 gV).f1) > a1
        ·rw[if_pos c12] at H;have FZ:decide (a1<((aK l0 gV).f1))=true:=decide_eq_true c12;clear c12;simp only[Option.some.injEq,Prod.mk.injEq] at H;obtain⟨rfl,rfl⟩:=H;have zu:0≤(gV:Int):=of_decide_eq_true (by first|(with_reducible assumption)|assumption);have zw:gV<(l0.length:Int):=of_decide_eq_true (by first|(with_reducible assumption)|assumption);obtain⟨VL,PY,kK,kL⟩:=dK pQ.out gV zu zw;cases PY;replace kK:=(HB.out.cell (World.block_lt_of_cell? w _ kK)).trans kK;replace kL:=(HB.out.cell (World.block_lt_of_cell? w _ kL)).trans kL;replace zu:=eq_true zu;replace zw:=eq_true zw
         go_wp2_with (first|((with_reducible refine eZ (N:=9) rfl ?_);refine eu ?hg (N:=9) ?hd (cs:=#[.int .i64 0,.int .i64 0]) (t:=117) ?hr ?_;(case hd=>rfl);(case hg=>rfl);(case hr=>first|(go_simp;done)|(go_simp;rfl));intro oQ hg w13 dV hb;have eF:=ah.mk (bM (by repeat (first|(with_reducible first|exact HB.out|apply ay|apply au|apply aA)|exact HB.out)) hb);have fG:=ah.mk (dV);have gN:=ah.mk ((by rw[hg];exact (bf (by repeat (first|(with_reducible first|exact HB.out|apply ay|apply au|apply aA)|exact HB.out))):w.heap.size≤oQ));have jE:=ah.mk ((by rw[hg];exact (bf (by repeat (first|(with_reducible first|exact HB.out|apply ay|apply au|apply aA)|exact HB.out))):w.heap.size≤oQ));clear HB;have HB:=eF;have oU:=fG;have VN:=gN;have FW:=jE;clear eF fG gN jE;clear hb dV hg;have Kh:w13.cell? ⟨oQ,0,none⟩=some (.int .i64 0):=(ak oU.out 0).trans rfl;have Ki:w13.cell? ⟨oQ,1,none⟩=some (.int .i64 0):=(ak oU.out 1).trans rfl;have Kj:=av oU.out 0;have Kk:=av oU.out 1))
         go_ret2
         exact⟨by first|rfl|(simp[aU,aV] <;> rfl)|(simp[*,aU,aV] <;> rfl),by repeat (first|(with_reducible first|exact HB.out|apply ay|apply au|apply aA|refine aN ?_ FW.out)|exact HB.out)⟩
        ·rw[if_neg c12] at H;have FZ:decide (a1<((aK l0 gV).f1))=false:=decide_eq_false c12;clear c12;have H':=ah.mk H;clear H;have zu:0≤(gV:Int):=of_decide_eq_true (by first|(with_reducible assumption)|assumption);have zw:gV<(l0.length:Int):=of_decide_eq_true (by first|(with_reducible assumption)|assumption);obtain⟨VL,PY,kK,kL⟩:=dK pQ.out gV zu zw;cases PY;replace kK:=(HB.out.cell (World.block_lt_of_cell? w _ kK)).trans kK;replace kL:=(HB.out.cell (World.block_lt_of_cell? w _ kL)).trans kL;replace zu:=eq_true zu;replace zw:=eq_true zw
         go_wp2_with (first|((with_reducible refine eZ (N:=9) rfl ?_);refine eu ?hg (N:=9) ?hd (cs:=#[.int .i64 0,.int .i64 0]) (t:=117) ?hr ?_;(case hd=>rfl);(case hg=>rfl);(case hr=>first|(go_simp;done)|(go_simp;rfl));intro oQ hg w15 dV hb;have eF:=ah.mk (bM (by repeat (first|(with_reducible first|exact HB.out|apply ay|apply au|apply aA)|exact HB.out)) hb);have fG:=ah.mk (dV);have gN:=ah.mk ((by rw[hg];exact (bf (by repeat (first|(with_reducible first|exact HB.out|apply ay|apply au|apply aA)|exact HB.out))):w.heap.size≤oQ));have jE:=ah.mk ((by rw[hg];exact (bf (by repeat (first|(with_reducible first|exact HB.out|apply ay|apply au|apply aA)|exact HB.out))):w.heap.size≤oQ));clear HB;have HB:=eF;have oU:=fG;have VN:=gN;have FW:=jE;clear eF fG gN jE;clear hb dV hg;have YA:w15.cell? ⟨oQ,0,none⟩=some (.int .i64 0):=(ak oU.out 0).trans rfl;have YB:w15.cell? ⟨oQ,1,none⟩=some (.int .i64 0):=(ak oU.out 1).trans rfl;have YC:=av oU.out 0;have YD:=av oU.out 1))
         go_roundg k1
         case measure=>have:=jC.out;omega
         case rel=>exact⟨((aK l0 gV).f1),(wrap64 (Yv+(wrap64 (((aK l0 gV).f1) - ((aK l0 gV).f0))))),(wrap64 (gV+1)),(by first|rfl|(simp;done)|(simp[*];done)),(by first|rfl|(simp;done)|(simp[*];done)),(by first|rfl|(simp;done)|(simp[*];done)),H',⟨by have:=jC.out;omega⟩,⟨by repeat (first|(with_reducible first|exact HB.out|apply ay|apply au|apply aA|refine aN ?_ FW.out)|exact HB.out)⟩⟩
     ·rw[if_neg c5] at H;exact absurd H (by simp)
    ·rw[if_neg c4] at H;exact absurd H (by simp)
   ·rw[if_neg c3] at H;have ou:decide (gV<(l0.length:Int))=false:=decide_eq_false c3;clear c3;simp only[Option.some.injEq,Prod.mk.injEq] at H;obtain⟨rfl,rfl⟩:=H
    go_wp2
    go_ret2
    exact⟨by first|rfl|(simp[aU,aV] <;> rfl)|(simp[*,aU,aV] <;> rfl),by repeat (first|(with_reducible first|exact HB.out|apply ay|apply au|apply aA)|exact HB.out)⟩
def xq.f (a0:Int):Option (Int):=some (wrap64 (Int.tdiv (wrap64 ((wrap64 (a0+512)) - 1)) 512))
theorem xq.calls (a0:Int) (r:Int) (w:World) (h:xq.f a0=some r) :
  Calls Tryz.prog 147 #[.int .i64 a0] w fun e w'=>e=.returned (.int .i64 r)∧bF w w':=by
 have H:(some (wrap64 (Int.tdiv (wrap64 ((wrap64 (a0+512)) - 1)) 512)))=some r:=h;clear h;obtain rfl:=Option.some.inj H
 go_enter Tryz.func147,Tryz.ntmps147
 go_wp2
 go_ret
 exact⟨by first|rfl|(simp;done)|(simp[*];done),by repeat (first|exact bF.refl _|apply bF.step)⟩
def bT.j0:Nat→Bool→Int→ByteArray→ByteArray→Int→List (dx)→List Int→Option (Int × Bool)
 | 0,_,_,_,_,_,_,_=>none
 | k+1,x11,ahy,ahz,ahA,YE,YF,ahB=>if x11=true then (some (0,false)) else ((xq.f YE).bind fun t105=>((bZ.f k YF t105).bind fun Db=>(some (Db.1,Db.2))))
def bT.f (k:Nat) (bY:Int) (bW:ByteArray) (cB:ByteArray) (bR:Int) (bN:List (dx)) (bO:List Int):Option (Int × Bool):=if bR<0 then (bT.j0 k true bY bW cB bR bN bO) else (bT.j0 k (decide (bR > 8459264)) bY bW cB bR bN bO)
theorem bT.eG:∀k,(∀y0 y1 y2 y3 y4 y5 y6,bQ (bT.j0 k y0 y1 y2 y3 y4 y5 y6) (bT.j0 (k+1) y0 y1 y2 y3 y4 y5 y6))
 | 0=>fun _ _ _ _ _ _ _ r h=>by simp[bT.j0] at h
 | k+1=>by
  have jH:=bT.eG k
  ·intro y0 y1 y2 y3 y4 y5 y6;unfold bT.j0
   repeat' first
   | (with_reducible exact jH _ _ _ _ _ _ _)
   | (with_reducible exact bZ.mono _ _ _)
   | (with_reducible exact bQ.refl _)
   | (with_reducible exact bQ.none _)
   | (with_reducible refine bQ.ite ?_ ?_)
   | (with_reducible refine bQ.bind ?_ (fun _=>?_))
   | exact jH _ _ _ _ _ _ _
   | exact bZ.mono _ _ _
   | exact bQ.none _
   | refine bQ.ite ?_ ?_
   | refine bQ.bind ?_ (fun _=>?_)
theorem bT.mono:∀a0 a1 a2 a3 a4 a5 k,bQ (bT.f k a0 a1 a2 a3 a4 a5) (bT.f (k+1) a0 a1 a2 a3 a4 a5):=by
 intro a0 a1 a2 a3 a4 a5 k;have jH:=bT.eG k;unfold bT.f
 repeat' first
   | (with_reducible exact jH _ _ _ _ _ _ _)
   | (with_reducible exact bZ.mono _ _ _)
   | (with_reducible exact bQ.refl _)
   | (with_reducible exact bQ.none _)
   | (with_reducible refine bQ.ite ?_ ?_)
   | (with_reducible refine bQ.bind ?_ (fun _=>?_))
   | exact jH _ _ _ _ _ _ _
   | exact bZ.mono _ _ _
   | exact bQ.none _
   | refine bQ.ite ?_ ?_
   | refine bQ.bind ?_ (fun _=>?_)
def bT.T3:Bool × List (List Nat × List Nat):=(true,[([],[]),([0],[0]),([],[]),([2],[2]),([3],[3]),([1,4,4],[1,4]),([5],[5]),([5],[5]),([6,5,0,1,2,3,4,5,6,7],[6]),([7,8,0,1,2,3,4,5,6,7,8],[7])])
def bT.B3:List Nat:=[0,1,0,4,12,31,63,63,255,511]
theorem bT.alu:sj .any (opsOf Tryz.f133 3)=bT.T3:=by kernel_rfl
theorem bT.af7:vw bT.T3.2 bT.B3=true:=by kernel_rfl
theorem bT.calls (k:Nat) (bY:Int) (bW:ByteArray) (cB:ByteArray) (bR:Int) (fO:Option Addr) (dU:Nat) (bN:List (dx)) (dS:Option Addr) (dQ:Nat) (bO:List Int) (r1:Int) (r2:Bool) (w:World) (o8:Kd.C cO w fO bN.length bN) (qy:bN.length≤dU) (p9:Kd.C (Kd.int .u8) w dS bO.length bO) (rY:bO.length≤dQ) (h:bT.f k bY bW cB bR bN bO=some (r1,r2)) :
  Calls Tryz.prog 133 #[.agg #[.int .i64 bY,.string bW,.string cB,.int .i64 bR,.slice fO bN.length dU,.slice dS bO.length dQ]] w fun e w'=>e=.returned (.tuple #[.int .i64 r1,.bool r2])∧Below w.heap.size w w':=by
 have OT:=Tryz.underlying29;have uE:=ah.mk o8;have CW:=ah.mk qy;clear o8 qy;have Ag:=ah.mk p9;have EZ:=ah.mk rY;clear p9 rY;have HB:=ah.mk (Below.refl w.heap.size w);have H:(if bR<0 then (bT.j0 k true bY bW cB bR bN bO) else (bT.j0 k (decide (bR > 8459264)) bY bW cB bR bN bO))=some (r1,r2):=h;clear h;have Dn:=ah.mk H;clear H
 go_enter Tryz.func133,Tryz.ntmps133
 go_upto_region 1 with (first|((with_reducible refine eZ (N:=1) rfl ?_);refine eu ?hg (N:=1) ?hd (cs:=#[.int .i64 bY,.string bW,.string cB,.int .i64 bR,.slice fO bN.length dU,.slice dS bO.length dQ]) (t:=29) ?hr ?_;(case hd=>rfl);(case hg=>rfl);(case hr=>first|(go_simp;done)|(go_simp;rfl));intro mE hg w3 dV hb;have eF:=ah.mk (bM (by repeat (first|(with_reducible first|exact HB.out|apply ay|apply au|apply aA)|exact HB.out)) hb);have fG:=ah.mk (dV);have gN:=ah.mk ((by rw[hg];exact (bf (by repeat (first|(with_reducible first|exact HB.out|apply ay|apply au|apply aA)|exact HB.out))):w.heap.size≤mE));have jE:=ah.mk ((by rw[hg];exact (bf (by repeat (first|(with_reducible first|exact HB.out|apply ay|apply au|apply aA)|exact HB.out))):w.heap.size≤mE));clear HB;have HB:=eF;have eD:=fG;have anA:=gN;have Ju:=jE;clear eF fG gN jE;clear hb dV hg))
 (try simp only[Act.put,aYa,aYb,aYc])
 go_cut [11] (fun v11 wc=>∃(kq:Nat) (RI:Bool),v11=.bool RI∧ah (bT.j0 kq RI bY bW cB bR bN bO=some (r1,r2))∧ah (kq≤k)∧ah (wc.heap[mE]?=some (.cells #[.int .i64 bY,.string bW,.string cB,.int .i64 bR,(.slice fO bN.length dU),(.slice dS bO.length dQ)] 29 (0,0)))∧ah (Below w.heap.size w wc))
 case first=>
  have H:=Dn.out;clear Dn;by_cases c4:bR<0
  ·rw[if_pos c4] at H;have mO:decide (bR<0)=true:=decide_eq_true c4;clear c4
   (first|rw[mO]|(simp only[aG,aH];rw[mO])|skip)
   have H':=ah.mk H;clear H;have F3:w3.cell? ⟨mE,0,none⟩=some (.int .i64 bY):=(ak eD.out 0).trans rfl;have F4:w3.cell? ⟨mE,1,none⟩=some (.string bW):=(ak eD.out 1).trans rfl;have F7:w3.cell? ⟨mE,2,none⟩=some (.string cB):=(ak eD.out 2).trans rfl;have F8:w3.cell? ⟨mE,3,none⟩=some (.int .i64 bR):=(ak eD.out 3).trans rfl;have F9:w3.cell? ⟨mE,4,none⟩=some (.slice fO bN.length dU):=(ak eD.out 4).trans rfl;have Ga:w3.cell? ⟨mE,5,none⟩=some (.slice dS bO.length dQ):=(ak eD.out 5).trans rfl;have Gb:=av eD.out 0;have Gc:=av eD.out 1;have Gd:=av eD.out 2;have Gf:=av eD.out 3;have Gg:=av eD.out 4;have Gh:=av eD.out 5
   go_wp2
   go_meet
   case rel=>exact⟨_,(true),(by first|rfl|(simp;done)|(simp[*];done)),H',⟨by first|omega|exact Nat.le_refl _⟩,⟨by (with_reducible repeat (first|refine bB ?_ _|refine bG ?_|refine aJ ?_ _));exact eD.out⟩,⟨by repeat (first|(with_reducible first|exact HB.out|apply ay|apply au|apply aA|refine aN ?_ Ju.out)|exact HB.out)⟩⟩
  ·rw[if_neg c4] at H;have mO:decide (bR<0)=false:=decide_eq_false c4;clear c4
   (first|rw[mO]|(simp only[aG,aH];rw[mO])|skip)
   have H':=ah.mk H;clear H;have Gi:w3.cell? ⟨mE,0,none⟩=some (.int .i64 bY):=(ak eD.out 0).trans rfl;have Gj:w3.cell? ⟨mE,1,none⟩=some (.string bW):=(ak eD.out 1).trans rfl;have Gl:w3.cell? ⟨mE,2,none⟩=some (.string cB):=(ak eD.out 2).trans rfl;have Gm:w3.cell? ⟨mE,3,none⟩=some (.int .i64 bR):=(ak eD.out 3).trans rfl;have Gn:w3.cell? ⟨mE,4,none⟩=some (.slice fO bN.length dU):=(ak eD.out 4).trans rfl;have Gp:w3.cell? ⟨mE,5,none⟩=some (.slice dS bO.length dQ):=(ak eD.out 5).trans rfl;have Gq:=av eD.out 0;have Gr:=av eD.out 1;have Gs:=av eD.out 2;have Gt:=av eD.out 3;have Gu:=av eD.out 4;have Gv:=av eD.out 5
   go_wp2
   go_meet
   case rel=>exact⟨_,(decide (bR > 8459264)),(by first|rfl|(simp;done)|(simp[*];done)),H',⟨by first|omega|exact Nat.le_refl _⟩,⟨by (with_reducible repeat (first|refine bB ?_ _|refine bG ?_|refine aJ ?_ _));exact eD.out⟩,⟨by repeat (first|(with_reducible first|exact HB.out|apply ay|apply au|apply aA|refine aN ?_ Ju.out)|exact HB.out)⟩⟩
 case rest=>
  clear Dn
  try clear c1
  try clear p2
  try clear c4
  try clear mO
  try clear F3
  try clear F4
  try clear F7
  try clear F8
  try clear F9
  try clear Ga
  try clear Gi
  try clear Gj
  try clear Gl
  try clear Gm
  try clear Gn
  try clear Gp
  try clear Gb
  try clear Gc
  try clear Gd
  try clear Gf
  try clear Gg
  try clear Gh
  try clear Gq
  try clear Gr
  try clear Gs
  try clear Gt
  try clear Gu
  try clear Gv
  obtain⟨kq,RI,rfl,HA,Ux,eD,HB⟩:=hcut
  cases kq with
  | zero=>exact absurd HA.out (by simp[bT.j0])
  | succ TU=>
   have H:=HA.out;clear HA;simp only[bT.j0] at H;by_cases c7:RI=true
   ·subst c7
    have H1:(some (0,false))=some (r1,r2):=by rw[if_pos rfl] at H;exact H
    clear H;have H:=H1;clear H1;simp only[Option.some.injEq,Prod.mk.injEq] at H;obtain⟨rfl,rfl⟩:=H
    go_wp2
    go_ret2
    exact⟨by first|rfl|(simp[aU,aV] <;> rfl)|(simp[*,aU,aV] <;> rfl),by repeat (first|(with_reducible first|exact HB.out|apply ay|apply au|apply aA|refine aN ?_ Ju.out)|exact HB.out)⟩
   ·replace c7:=Bool.eq_false_iff.mpr c7;subst c7
    have H1:((xq.f bR).bind fun t105=>((bZ.f TU bN t105).bind fun Db=>(some (Db.1,Db.2))))=some (r1,r2):=by rw[if_neg (show ¬(false=true) by decide)] at H;exact H
    clear H;have H:=H1;clear H1;replace H:=Option.bind_eq_some_iff.mp H;obtain⟨t105,A80,H⟩:=H;replace H:((bZ.f TU bN t105).bind fun Db=>(some (Db.1,Db.2)))=some (r1,r2):=H;have A8:=ah.mk A80;clear A80;replace H:=Option.bind_eq_some_iff.mp H;obtain⟨⟨af8,t107⟩,A90,H⟩:=H;replace H:(some (af8,t107))=some (r1,r2):=H;have A9:=ah.mk A90;clear A90;simp only[Option.some.injEq,Prod.mk.injEq] at H;obtain⟨rfl,rfl⟩:=H
    try go_wp2
    have eF:=ah.mk (bG eD.out);have fG:=ah.mk (aA HB.out);clear eD;clear HB;have eD:=eF;have HB:=fG;clear eF fG;refine kW (n:=10) (S:=fun w'=>w'.cell? ⟨mE,0,none⟩=some (.int .i64 bY)∧w'.cell? ⟨mE,1,none⟩=some (.string bW)∧w'.cell? ⟨mE,2,none⟩=some (.string cB)∧w'.cell? ⟨mE,3,none⟩=some (.int .i64 bR)∧w'.cell? ⟨mE,4,none⟩=some (.slice fO bN.length dU)∧w'.cell? ⟨mE,5,none⟩=some (.slice dS bO.length dQ)) (ds:=[]) #[false,false,false,false,false,false,false,false,false,false] (by kernel_rfl) rfl rfl ⟨(ak eD.out 0).trans rfl,(ak eD.out 1).trans rfl,(ak eD.out 2).trans rfl,(ak eD.out 3).trans rfl,(ak eD.out 4).trans rfl,(ak eD.out 5).trans rfl⟩ (fun hHeld=>?_);refine xP bT.alu bT.af7 (fun su Va=>?_);generalize wc.drew=IK at eD HB hHeld ⊢;refine bA (i:=0) (N:=some 12) (v:=?_) (a':=?_) #[true,false,false,false,false,false,false,false,false,false] rfl rfl (jd su.out (by kernel_rfl)) (fun _ _ _ h=>h) (Or.inl ⟨by rfl,?_⟩) ?_ ?_;rotate_left
    ·intro w'
     go_simp
     with_reducible rfl
    rotate_left
    ·simp only[Act.put,aYa,aYb,aYc,aG,aH];rfl
    refine bA (i:=2) (N:=some 14) (v:=?_) (a':=?_) #[true,false,true,false,false,false,false,false,false,false] rfl rfl (jd su.out (by kernel_rfl)) (fun _ _ _ h=>h) (Or.inl ⟨by rfl,?_⟩) ?_ ?_;rotate_left
    ·intro w'
     go_simp
     with_reducible rfl
    rotate_left
    ·simp only[Act.put,aYa,aYb,aYc,aG,aH];rfl
    refine dM (i:=1) (N:=some 13) (v:=?_) (a':=?_) #[true,true,true,false,false,false,false,false,false,false] rfl rfl (qc su.out Va.out (by kernel_rfl)) (fun _ _ _ h=>h) (Or.inl ⟨by rfl,?_⟩) hHeld ?_ ?_;rotate_left
    ·rintro w' ⟨s0,s1,s2,s3,s4,s5⟩
     go_simp
     with_reducible rfl
    rotate_left
    ·simp only[Act.put,aYa,aYb,aYc,aG,aH];rfl
    refine dM (i:=3) (N:=some 15) (v:=?_) (a':=?_) #[true,true,true,true,false,false,false,false,false,false] rfl rfl (qc su.out Va.out (by kernel_rfl)) (fun _ _ _ h=>h) (Or.inl ⟨by rfl,?_⟩) hHeld ?_ ?_;rotate_left
    ·rintro w' ⟨s0,s1,s2,s3,s4,s5⟩
     go_simp
     with_reducible rfl
    rotate_left
    ·simp only[Act.put,aYa,aYb,aYc,aG,aH];rfl
    refine kg (i:=4) (N:=some 16) #[true,true,true,true,true,false,false,false,false,false] rfl rfl (wU su.out (by kernel_rfl)) (by decide) (fun K hK=>?_);refine mq Tryz.func147 (by kernel_rfl) rfl #[.int .i64 bR] (by rfl) rfl rfl (by (try simp only[List.map_toArray,List.map_cons,List.map_nil]);first|done|rfl|(simp only[List.length_drop,List.length_take];rfl)) ?_
    with_reducible refine (xq.calls bR t105 _ A8.out).mono ?_
    rintro e w' ⟨rfl,⟨nd,rfl⟩⟩;refine⟨_,rfl,?_⟩;refine hK.out _ _ ⟨(ak eD.out 0).trans rfl,(ak eD.out 1).trans rfl,(ak eD.out 2).trans rfl,(ak eD.out 3).trans rfl,(ak eD.out 4).trans rfl,(ak eD.out 5).trans rfl⟩ (fun hHeld=>?_);clear hK K;refine eB (a':=?_) ?_ ?_;rotate_left
    ·show Act.put _ (some 16) _=_
     simp only[Act.put,aYa,aYb,aYc,aG,aH];rfl
    refine kg (i:=5) (N:=some 17) #[true,true,true,true,true,true,false,false,false,false] rfl rfl (wU su.out (by kernel_rfl)) (by decide) (fun K hK=>?_);refine mq Tryz.func136 (by kernel_rfl) rfl #[.slice fO bN.length dU,.int .i64 t105] (by rfl) rfl rfl (by (try simp only[List.map_toArray,List.map_cons,List.map_nil]);first|done|rfl|(simp only[List.length_drop,List.length_take];rfl)) ?_
    with_reducible refine (bZ.calls TU _ _ bN t105 af8 t107 _ ?iW ?iX A9.out).mono ?_
    (case iW=>repeat (first|exact (Kd.aC uE.out (by repeat (first|(with_reducible first|exact HB.out|apply ay|apply au|apply aA|refine aN ?_ Ju.out)|exact HB.out)))|(with_reducible refine Kd.dW ?_ _)|(with_reducible refine Kd.dL ?_ _)|(with_reducible refine Kd.fV ?_)))
    (case iX=>exact CW.out)
    rintro e BO ⟨rfl,hb⟩;refine⟨_,rfl,?_⟩;have eF:=ah.mk (aD (g:=mE) (o:=.cells #[.int .i64 bY,.string bW,.string cB,.int .i64 bR,.slice fO bN.length dU,.slice dS bO.length dQ] 29 (0,0)) (by (with_reducible repeat (first|refine bB ?_ _|refine bG ?_|refine aJ ?_ _));exact eD.out) hb);have fG:=ah.mk (bM (by repeat (first|(with_reducible first|exact HB.out|apply ay|apply au|apply aA|refine aN ?_ Ju.out)|exact HB.out)) hb);clear eD;clear HB;have eD:=eF;have HB:=fG;clear eF fG
    (try clear hb)
    (try clear hb2)
    (try clear hk)
    (try clear hi)
    refine hK.out _ _ ⟨(ak eD.out 0).trans rfl,(ak eD.out 1).trans rfl,(ak eD.out 2).trans rfl,(ak eD.out 3).trans rfl,(ak eD.out 4).trans rfl,(ak eD.out 5).trans rfl⟩ (fun hHeld=>?_);clear hK K;refine eB (a':=?_) ?_ ?_;rotate_left
    ·show Act.put _ (some 17) _=_
     simp only[Act.put,aYa,aYb,aYc,aG,aH];rfl
    refine bA (i:=6) (N:=some 18) (v:=?_) (a':=?_) #[true,true,true,true,true,true,true,false,false,false] rfl rfl (jd su.out (by kernel_rfl)) (fun _ _ _ h=>h) (Or.inl ⟨by rfl,?_⟩) ?_ ?_;rotate_left
    ·intro w'
     go_simp
     with_reducible rfl
    rotate_left
    ·simp only[Act.put,aYa,aYb,aYc,aG,aH];rfl
    refine bA (i:=7) (N:=some 19) (v:=?_) (a':=?_) #[true,true,true,true,true,true,true,true,false,false] rfl rfl (jd su.out (by kernel_rfl)) (fun _ _ _ h=>h) (Or.inl ⟨by rfl,?_⟩) ?_ ?_;rotate_left
    ·intro w'
     go_simp
     with_reducible rfl
    rotate_left
    ·simp only[Act.put,aYa,aYb,aYc,aG,aH];rfl
    refine bA (i:=8) (N:=some 2) (v:=?_) (a':=?_) #[true,true,true,true,true,true,true,true,true,false] rfl rfl (jd su.out (by kernel_rfl)) (fun _ _ _ h=>h) (Or.inl ⟨by rfl,?_⟩) ?_ ?_;rotate_left
    ·intro w'
     go_simp
     with_reducible rfl
    rotate_left
    ·simp only[Act.put,aYa,aYb,aYc,aG,aH];rfl
    refine bA (i:=9) (N:=some 3) (v:=?_) (a':=?_) #[true,true,true,true,true,true,true,true,true,true] rfl rfl (jd su.out (by kernel_rfl)) (fun _ _ _ h=>h) (Or.inl ⟨by rfl,?_⟩) ?_ ?_;rotate_left
    ·intro w'
     go_simp
     with_reducible rfl
    rotate_left
    ·simp only[Act.put,aYa,aYb,aYc,aG,aH];rfl
    refine ku (DU su.out (by kernel_rfl)) ?_
    try go_wp2
    go_ret2
    exact⟨by first|rfl|(simp[aU,aV] <;> rfl)|(simp[*,aU,aV] <;> rfl),by repeat (first|(with_reducible first|exact HB.out|apply ay|apply au|apply aA|refine aN ?_ Ju.out)|exact HB.out)⟩
mutual
def bP.l0:Nat→List (dx)→Int→List (dx)→Int→Int→Option (Bool)
 | 0,_,_,_,_,_=>none
 | k+1,x1,x5,x8,x9,x10=>if x10<x9 then (if 0≤x10 then (if x10<(x8.length:Int) then (bP.l1 k x1 x5 x8 x9 x10 ((aK x8 x10).f0) ((aK x8 x10).f1)) else (none)) else (none)) else (some true)
def bP.l1:Nat→List (dx)→Int→List (dx)→Int→Int→Int→Int→Option (Bool)
 | 0,_,_,_,_,_,_,_=>none
 | k+1,x1,x5,x8,x9,x10,RJ,RL=>if x5<(x1.length:Int) then (if 0≤x5 then (if ((aK x1 x5).f1)<RL then (bP.l1 k x1 (wrap64 (x5+1)) x8 x9 x10 RJ RL) else (if x5=(x1.length:Int) then (some false) else (if ((aK x1 x5).f0) > RJ then (some false) else (bP.l0 k x1 x5 x8 x9 (wrap64 (x10+1)))))) else (none)) else (if x5=(x1.length:Int) then (some false) else (if 0≤x5 then (none) else (none)))
end
def bP.f (k:Nat) (l0:List (dx)) (l1:List (dx)):Option (Bool):=bP.l0 k l1 0 l0 (l0.length:Int) 0
theorem bP.eG:∀k,(∀y0 y1 y2 y3 y4,bQ (bP.l0 k y0 y1 y2 y3 y4) (bP.l0 (k+1) y0 y1 y2 y3 y4))∧(∀y0 y1 y2 y3 y4 y5 y6,bQ (bP.l1 k y0 y1 y2 y3 y4 y5 y6) (bP.l1 (k+1) y0 y1 y2 y3 y4 y5 y6))
 | 0=>⟨fun _ _ _ _ _ r h=>by simp[bP.l0] at h,fun _ _ _ _ _ _ _ r h=>by simp[bP.l1] at h⟩
 | k+1=>by
  obtain⟨jH,ih1⟩:=bP.eG k;refine⟨?_,?_⟩
  ·intro y0 y1 y2 y3 y4;unfold bP.l0
   repeat' first
   | (with_reducible exact jH _ _ _ _ _)
   | (with_reducible exact ih1 _ _ _ _ _ _ _)
   | (with_reducible exact bQ.refl _)
   | (with_reducible exact bQ.none _)
   | (with_reducible refine bQ.ite ?_ ?_)
   | (with_reducible refine bQ.bind ?_ (fun _=>?_))
   | exact jH _ _ _ _ _
   | exact ih1 _ _ _ _ _ _ _
   | exact bQ.none _
   | refine bQ.ite ?_ ?_
   | refine bQ.bind ?_ (fun _=>?_)
  ·intro y0 y1 y2 y3 y4 y5 y6;unfold bP.l1
   repeat' first
   | (with_reducible exact jH _ _ _ _ _)
   | (with_reducible exact ih1 _ _ _ _ _ _ _)
   | (with_reducible exact bQ.refl _)
   | (with_reducible exact bQ.none _)
   | (with_reducible refine bQ.ite ?_ ?_)
   | (with_reducible refine bQ.bind ?_ (fun _=>?_))
   | exact jH _ _ _ _ _
   | exact ih1 _ _ _ _ _ _ _
   | exact bQ.none _
   | refine bQ.ite ?_ ?_
   | refine bQ.bind ?_ (fun _=>?_)
theorem bP.mono:∀a0 a1 k,bQ (bP.f k a0 a1) (bP.f (k+1) a0 a1):=by
 intro a0 a1 k;obtain⟨jH,ih1⟩:=bP.eG k;unfold bP.f
 repeat' first
   | (with_reducible exact jH _ _ _ _ _)
   | (with_reducible exact ih1 _ _ _ _ _ _ _)
   | (with_reducible exact bQ.refl _)
   | (with_reducible exact bQ.none _)
   | (with_reducible refine bQ.ite ?_ ?_)
   | (with_reducible refine bQ.bind ?_ (fun _=>?_))
   | exact jH _ _ _ _ _
   | exact ih1 _ _ _ _ _ _ _
   | exact bQ.none _
   | refine bQ.ite ?_ ?_
   | refine bQ.bind ?_ (fun _=>?_)
theorem bP.calls (k:Nat) (A0:Option Addr) (c0:Nat) (l0:List (dx)) (A1:Option Addr) (c1:Nat) (l1:List (dx)) (r:Bool) (w:World) (hr0:Kd.C cO w A0 l0.length l0) (hc0:l0.length≤c0) (hr1:Kd.C cO w A1 l1.length l1) (hc1:l1.length≤c1) (h:bP.f k l0 l1=some r) :
  Calls Tryz.prog 137 #[.slice A0 l0.length c0,.slice A1 l1.length c1] w fun e w'=>e=.returned (.bool r)∧Below w.heap.size w w':=by
 have QN:=Tryz.underlying117;have pQ:=ah.mk hr0;have OL:=ah.mk hc0;clear hr0 hc0;have HR1:=ah.mk hr1;have Hl:=ah.mk hc1;clear hr1 hc1;have HB:=ah.mk (Below.refl w.heap.size w);have H:(bP.l0 k l1 0 l0 (l0.length:Int) 0)=some r:=h;clear h;have H':=ah.mk H;clear H
 go_enter Tryz.func137,Tryz.ntmps137
 go_wp2
 repeat (go_quiet (fail);try go_wp2)
 go_loopg [5,10] k (fun kq v5 v10 w'=>∃(aW:Int) (iL:Int),v5=.int .i64 aW∧v10=.int .i64 iL∧ah (bP.l0 kq l1 aW l0 (l0.length:Int) iL=some r)∧ah (kq≤k)∧ah (Below w.heap.size w w'))
 case atStart=>exact⟨(0),(0),(by first|rfl|(simp;done)|(simp[*];done)),(by first|rfl|(simp;done)|(simp[*];done)),H',⟨Nat.le_refl _⟩,⟨by repeat (first|(with_reducible first|exact HB.out|apply ay|apply au|apply aA)|exact HB.out)⟩⟩
 case round=>
  clear H'
  try clear c1
  try clear p2
  obtain⟨aW,iL,rfl,rfl,HA,jC,HB⟩:=hrel
  cases gk with
  | zero=>exact absurd HA.out (by simp[bP.l0])
  | succ k1=>
   have H:=HA.out;clear HA;simp only[bP.l0] at H
   by_cases c3:iL<(l0.length:Int)
   ·rw[if_pos c3] at H;have ou:decide (iL<(l0.length:Int))=true:=decide_eq_true c3;clear c3;by_cases c4:0≤iL
    ·rw[if_pos c4] at H;have mO:decide (0≤iL)=true:=decide_eq_true c4;clear c4
     by_cases c5:iL<(l0.length:Int)
     ·rw[if_pos c5] at H;have ER:decide (iL<(l0.length:Int))=true:=decide_eq_true c5;clear c5;have H':=ah.mk H;clear H;have YG:0≤(iL:Int):=of_decide_eq_true (by first|(with_reducible assumption)|assumption);have YH:iL<(l0.length:Int):=of_decide_eq_true (by first|(with_reducible assumption)|assumption);obtain⟨anC,alv,D6,D7⟩:=dK pQ.out iL YG YH;cases alv;replace D6:=(HB.out.cell (World.block_lt_of_cell? w _ D6)).trans D6;replace D7:=(HB.out.cell (World.block_lt_of_cell? w _ D7)).trans D7;replace YG:=eq_true YG;replace YH:=eq_true YH
      go_wp2_with (first|((with_reducible refine eZ (N:=7) rfl ?_);refine eu ?hg (N:=7) ?hd (cs:=#[.int .i64 0,.int .i64 0]) (t:=117) ?hr ?_;(case hd=>rfl);(case hg=>rfl);(case hr=>first|(go_simp;done)|(go_simp;rfl));intro lT hg w6 dV hb;have eF:=ah.mk (bM (by repeat (first|(with_reducible first|exact HB.out|apply ay|apply au|apply aA)|exact HB.out)) hb);have fG:=ah.mk (dV);have gN:=ah.mk ((by rw[hg];exact (bf (by repeat (first|(with_reducible first|exact HB.out|apply ay|apply au|apply aA)|exact HB.out))):w.heap.size≤lT));have jE:=ah.mk ((by rw[hg];exact (bf (by repeat (first|(with_reducible first|exact HB.out|apply ay|apply au|apply aA)|exact HB.out))):w.heap.size≤lT));clear HB;have HB:=eF;have iY:=fG;have aaJ:=gN;have Dc:=jE;clear eF fG gN jE;clear hb dV hg;have J9:w6.cell? ⟨lT,0,none⟩=some (.int .i64 0):=(ak iY.out 0).trans rfl;have Ka:w6.cell? ⟨lT,1,none⟩=some (.int .i64 0):=(ak iY.out 1).trans rfl;have Ke:=av iY.out 0;have Kg:=av iY.out 1))
      repeat (go_quiet (first|((with_reducible refine eZ (N:=7) rfl ?_);refine eu ?hg (N:=7) ?hd (cs:=#[.int .i64 0,.int .i64 0]) (t:=117) ?hr ?_;(case hd=>rfl);(case hg=>rfl);(case hr=>first|(go_simp;done)|(go_simp;rfl));intro lT hg w6 dV hb;have eF:=ah.mk (bM (by repeat (first|(with_reducible first|exact HB.out|apply ay|apply au|apply aA)|exact HB.out)) hb);have fG:=ah.mk (dV);have gN:=ah.mk ((by rw[hg];exact (bf (by repeat (first|(with_reducible first|exact HB.out|apply ay|apply au|apply aA)|exact HB.out))):w.heap.size≤lT));have jE:=ah.mk ((by rw[hg];exact (bf (by repeat (first|(with_reducible first|exact HB.out|apply ay|apply au|apply aA)|exact HB.out))):w.heap.size≤lT));clear HB;have HB:=eF;have iY:=fG;have aaJ:=gN;have Dc:=jE;clear eF fG gN jE;clear hb dV hg;have J9:w6.cell? ⟨lT,0,none⟩=some (.int .i64 0):=(ak iY.out 0).trans rfl;have Ka:w6.cell? ⟨lT,1,none⟩=some (.int .i64 0):=(ak iY.out 1).trans rfl;have Ke:=av iY.out 0;have Kg:=av iY.out 1));try go_wp2_with (first|((with_reducible refine eZ (N:=7) rfl ?_);refine eu ?hg (N:=7) ?hd (cs:=#[.int .i64 0,.int .i64 0]) (t:=117) ?hr ?_;(case hd=>rfl);(case hg=>rfl);(case hr=>first|(go_simp;done)|(go_simp;rfl));intro lT hg w6 dV hb;have eF:=ah.mk (bM (by repeat (first|(with_reducible first|exact HB.out|apply ay|apply au|apply aA)|exact HB.out)) hb);have fG:=ah.mk (dV);have gN:=ah.mk ((by rw[hg];exact (bf (by repeat (first|(with_reducible first|exact HB.out|apply ay|apply au|apply aA)|exact HB.out))):w.heap.size≤lT));have jE:=ah.mk ((by rw[hg];exact (bf (by repeat (first|(with_reducible first|exact HB.out|apply ay|apply au|apply aA)|exact HB.out))):w.heap.size≤lT));clear HB;have HB:=eF;have iY:=fG;have aaJ:=gN;have Dc:=jE;clear eF fG gN jE;clear hb dV hg;have J9:w6.cell? ⟨lT,0,none⟩=some (.int .i64 0):=(ak iY.out 0).trans rfl;have Ka:w6.cell? ⟨lT,1,none⟩=some (.int .i64 0):=(ak iY.out 1).trans rfl;have Ke:=av iY.out 0;have Kg:=av iY.out 1)))
      go_loopg [5] k1 (fun kq v5 w'=>∃(iC:Int),v5=.int .i64 iC∧ah (bP.l1 kq l1 iC l0 (l0.length:Int) iL ((aK l0 iL).f0) ((aK l0 iL).f1)=some r)∧ah (kq≤k1)∧ah (w'.heap[lT]?=some (.cells #[.int .i64 ((aK l0 iL).f0),.int .i64 ((aK l0 iL).f1)] 117 (0,0)))∧ah (Below w.heap.size w w'))
      case atStart=>exact⟨(aW),(by first|rfl|(simp;done)|(simp[*];done)),H',⟨Nat.le_refl _⟩,⟨by (with_reducible repeat (first|refine bB ?_ _|refine bG ?_|refine aJ ?_ _));refine gM (cs:=#[.int .i64 ((aK l0 iL).f0),.int .i64 0]) ?_ 1 _ rfl;(with_reducible repeat (first|refine bB ?_ _|refine bG ?_|refine aJ ?_ _));refine gM (cs:=#[.int .i64 0,.int .i64 0]) ?_ 0 _ rfl;(with_reducible repeat (first|refine bB ?_ _|refine bG ?_|refine aJ ?_ _));exact iY.out⟩,⟨by repeat (first|(with_reducible first|exact HB.out|apply ay|apply au|apply aA|refine aN ?_ Dc.out)|exact HB.out)⟩⟩
      case round=>
       clear H'
       try clear c1
       try clear p1
       try clear q1
       try clear hx1
       try clear p2
       try clear c3
       try clear ou
       try clear c4
       try clear mO
       try clear c5
       try clear ER
       try clear J9
       try clear Ka
       try clear Ke
       try clear Kg
       try clear D6
       try clear D7
       try clear YG
       try clear p2
       try clear YH
       obtain⟨iC,rfl,HA,iK,iY,HB⟩:=hrel
       cases gk with
       | zero=>exact absurd HA.out (by simp[bP.l1])
       | succ k2=>
        have H:=HA.out;clear HA;simp only[bP.l1] at H
        by_cases c8:iC<(l1.length:Int)
        ·rw[if_pos c8] at H;have XA:decide (iC<(l1.length:Int))=true:=decide_eq_true c8;clear c8;by_cases c9:0≤iC
         ·rw[if_pos c9] at H;have KI:decide (0≤iC)=true:=decide_eq_true c9;clear c9
          by_cases c10:((aK l1 iC).f1)<((aK l0 iL).f1)
          ·rw[if_pos c10] at H;have FE:decide (((aK l1 iC).f1)<((aK l0 iL).f1))=true:=decide_eq_true c10;clear c10;have H':=ah.mk H;clear H;have zx:0≤(iC:Int):=of_decide_eq_true (by first|(with_reducible assumption)|assumption);have zy:iC<(l1.length:Int):=of_decide_eq_true (by first|(with_reducible assumption)|assumption);obtain⟨Nr,PZ,kM,kN⟩:=dK HR1.out iC zx zy;cases PZ;replace kM:=(HB.out.cell (World.block_lt_of_cell? w _ kM)).trans kM;replace kN:=(HB.out.cell (World.block_lt_of_cell? w _ kN)).trans kN;replace zx:=eq_true zx;replace zy:=eq_true zy;have Yw:wr.cell? ⟨lT,0,none⟩=some (.int .i64 ((aK l0 iL).f0)):=(ak iY.out 0).trans rfl;have Yx:wr.cell? ⟨lT,1,none⟩=some (.int .i64 ((aK l0 iL).f1)):=(ak iY.out 1).trans rfl;have Yy:=av iY.out 0;have Yz:=av iY.out 1
           go_wp2
           repeat (go_quiet (fail);try go_wp2)
           go_roundg k2
           case measure=>have:=jC.out;have:=iK.out;omega
           case rel=>exact⟨(wrap64 (iC+1)),(by first|rfl|(simp;done)|(simp[*];done)),H',⟨by have:=jC.out;have:=iK.out;omega⟩,⟨by (with_reducible repeat (first|refine bB ?_ _|refine bG ?_|refine aJ ?_ _));exact iY.out⟩,⟨by repeat (first|(with_reducible first|exact HB.out|apply ay|apply au|apply aA|refine aN ?_ Dc.out)|exact HB.out)⟩⟩
          ·rw[if_neg c10] at H;have FE:decide (((aK l1 iC).f1)<((aK l0 iL).f1))=false:=decide_eq_false c10;clear c10
           by_cases c12:iC=(l1.length:Int)
           ·rw[if_pos c12] at H;have FZ:(iC == (l1.length:Int))=true:=beq_iff_eq.mpr c12;have af9:(iC != (l1.length:Int))=false:=bne_eq_false_iff_eq.mpr c12;clear c12;obtain rfl:=Option.some.inj H;have zx:0≤(iC:Int):=of_decide_eq_true (by first|(with_reducible assumption)|assumption);have zy:iC<(l1.length:Int):=of_decide_eq_true (by first|(with_reducible assumption)|assumption);obtain⟨Nr,PZ,kM,kN⟩:=dK HR1.out iC zx zy;cases PZ;replace kM:=(HB.out.cell (World.block_lt_of_cell? w _ kM)).trans kM;replace kN:=(HB.out.cell (World.block_lt_of_cell? w _ kN)).trans kN;replace zx:=eq_true zx;replace zy:=eq_true zy;have XJ:wr.cell? ⟨lT,0,none⟩=some (.int .i64 ((aK l0 iL).f0)):=(ak iY.out 0).trans rfl;have XK:wr.cell? ⟨lT,1,none⟩=some (.int .i64 ((aK l0 iL).f1)):=(ak iY.out 1).trans rfl;have XL:=av iY.out 0;have XM:=av iY.out 1
            go_wp2
            repeat (go_quiet (fail);try go_wp2)
            go_ret
            exact⟨by first|rfl|(simp[aU,aV] <;> rfl)|(simp[*,aU,aV] <;> rfl),by repeat (first|(with_reducible first|exact HB.out|apply ay|apply au|apply aA|refine aN ?_ Dc.out)|exact HB.out)⟩
           ·rw[if_neg c12] at H;have FZ:(iC == (l1.length:Int))=false:=beq_eq_false_iff_ne.mpr c12;have af9:(iC != (l1.length:Int))=true:=bne_iff_ne.mpr c12
            by_cases c14:((aK l1 iC).f0) > ((aK l0 iL).f0)
            ·rw[if_pos c14] at H;have VO:decide (((aK l0 iL).f0)<((aK l1 iC).f0))=true:=decide_eq_true c14;clear c14;obtain rfl:=Option.some.inj H;have zx:0≤(iC:Int):=of_decide_eq_true (by first|(with_reducible assumption)|assumption);have zy:iC<(l1.length:Int):=of_decide_eq_true (by first|(with_reducible assumption)|assumption);obtain⟨Nr,PZ,kM,kN⟩:=dK HR1.out iC zx zy;cases PZ;replace kM:=(HB.out.cell (World.block_lt_of_cell? w _ kM)).trans kM;replace kN:=(HB.out.cell (World.block_lt_of_cell? w _ kN)).trans kN;replace zx:=eq_true zx;replace zy:=eq_true zy;have DL:wr.cell? ⟨lT,0,none⟩=some (.int .i64 ((aK l0 iL).f0)):=(ak iY.out 0).trans rfl;have DN:wr.cell? ⟨lT,1,none⟩=some (.int .i64 ((aK l0 iL).f1)):=(ak iY.out 1).trans rfl;have DR:=av iY.out 0;have DT:=av iY.out 1;have P5:0≤(iC:Int):=of_decide_eq_true (by first|(with_reducible assumption)|assumption);have P6:iC<(l1.length:Int):=of_decide_eq_true (by first|(with_reducible assumption)|assumption);obtain⟨VP,acK,vG,vH⟩:=dK HR1.out iC P5 P6
             obtain rfl:Nr=VP:=(by injection acK)
             replace vG:=(HB.out.cell (World.block_lt_of_cell? w _ vG)).trans vG;replace vH:=(HB.out.cell (World.block_lt_of_cell? w _ vH)).trans vH;replace P5:=eq_true P5;replace P6:=eq_true P6
             go_wp2
             repeat (go_quiet (fail);try go_wp2)
             go_ret
             exact⟨by first|rfl|(simp[aU,aV] <;> rfl)|(simp[*,aU,aV] <;> rfl),by repeat (first|(with_reducible first|exact HB.out|apply ay|apply au|apply aA|refine aN ?_ Dc.out)|exact HB.out)⟩
            ·rw[if_neg c14] at H;have VO:decide (((aK l0 iL).f0)<((aK l1 iC).f0))=false:=decide_eq_false c14;clear c14;have H':=ah.mk H;clear H;have zx:0≤(iC:Int):=of_decide_eq_true (by first|(with_reducible assumption)|assumption);have zy:iC<(l1.length:Int):=of_decide_eq_true (by first|(with_reducible assumption)|assumption);obtain⟨Nr,PZ,kM,kN⟩:=dK HR1.out iC zx zy;cases PZ;replace kM:=(HB.out.cell (World.block_lt_of_cell? w _ kM)).trans kM;replace kN:=(HB.out.cell (World.block_lt_of_cell? w _ kN)).trans kN;replace zx:=eq_true zx;replace zy:=eq_true zy;have YA:wr.cell? ⟨lT,0,none⟩=some (.int .i64 ((aK l0 iL).f0)):=(ak iY.out 0).trans rfl;have YB:wr.cell? ⟨lT,1,none⟩=some (.int .i64 ((aK l0 iL).f1)):=(ak iY.out 1).trans rfl;have YC:=av iY.out 0;have YD:=av iY.out 1;have P5:0≤(iC:Int):=of_decide_eq_true (by first|(with_reducible assumption)|assumption);have P6:iC<(l1.length:Int):=of_decide_eq_true (by first|(with_reducible assumption)|assumption);obtain⟨VP,acK,vG,vH⟩:=dK HR1.out iC P5 P6
             obtain rfl:Nr=VP:=(by injection acK)
             replace vG:=(HB.out.cell (World.block_lt_of_cell? w _ vG)).trans vG;replace vH:=(HB.out.cell (World.block_lt_of_cell? w _ vH)).trans vH;replace P5:=eq_true P5;replace P6:=eq_true P6
             go_wp2
             repeat (go_quiet (fail);try go_wp2)
             go_roundg k2
             case measure=>have:=jC.out;have:=iK.out;omega
             case rel=>exact⟨(iC),(wrap64 (iL+1)),(by first|rfl|(simp;done)|(simp[*];done)),(by first|rfl|(simp;done)|(simp[*];done)),H',⟨by have:=jC.out;have:=iK.out;omega⟩,⟨by repeat (first|(with_reducible first|exact HB.out|apply ay|apply au|apply aA|refine aN ?_ Dc.out)|exact HB.out)⟩⟩
         ·rw[if_neg c9] at H;exact absurd H (by simp)
        ·rw[if_neg c8] at H;have XA:decide (iC<(l1.length:Int))=false:=decide_eq_false c8;clear c8
         by_cases c17:iC=(l1.length:Int)
         ·rw[if_pos c17] at H;have aga:(iC == (l1.length:Int))=true:=beq_iff_eq.mpr c17;have agb:(iC != (l1.length:Int))=false:=bne_eq_false_iff_eq.mpr c17;clear c17;obtain rfl:=Option.some.inj H
          go_wp2
          repeat (go_quiet (fail);try go_wp2)
          go_ret
          exact⟨by first|rfl|(simp[aU,aV] <;> rfl)|(simp[*,aU,aV] <;> rfl),by repeat (first|(with_reducible first|exact HB.out|apply ay|apply au|apply aA|refine aN ?_ Dc.out)|exact HB.out)⟩
         ·rw[if_neg c17] at H;have aga:(iC == (l1.length:Int))=false:=beq_eq_false_iff_ne.mpr c17;have agb:(iC != (l1.length:Int))=true:=bne_iff_ne.mpr c17;by_cases c18:0≤iC
          ·rw[if_pos c18] at H;exact absurd H (by simp)
          ·rw[if_neg c18] at H;exact absurd H (by simp)
     ·rw[if_neg c5] at H;exact absurd H (by simp)
    ·rw[if_neg c4] at H;exact absurd H (by simp)
   ·rw[if_neg c3] at H;have ou:decide (iL<(l0.length:Int))=false:=decide_eq_false c3;clear c3;obtain rfl:=Option.some.inj H
    go_wp2
    repeat (go_quiet (fail);try go_wp2)
    go_ret
    exact⟨by first|rfl|(simp[aU,aV] <;> rfl)|(simp[*,aU,aV] <;> rfl),by repeat (first|(with_reducible first|exact HB.out|apply ay|apply au|apply aA)|exact HB.out)⟩
end Go.Proofs.YtknihldkhedpkaaGreatDoor.PT
