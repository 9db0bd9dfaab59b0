import Derived.Test.YtknihldkhedpkaaGreatDoorUUG1
import Derived.Test.YtknihldkhedpkaaGreatDoorUUG3
import Derived.Test.YtknihldkhedpkaaGreatDoorUUG4
set_option linter.all false
set_option maxHeartbeats 16000000
set_option maxRecDepth 100000
section
namespace Go.Proofs.YtknihldkhedpkaaGreatDoor.PT
open Go.RowKit Go.Proofs.YtknihldkhedpkaaGreatDoorW.PrintWords Go.Proofs.YtknihldkhedpkaaGreatDoorW.PrintLast Go.Proofs.YtknihldkhedpkaaGreatDoorW.PrintMore
attribute [local go_sem] oJ oK rC rD mW mX oL oM
mutual
def bZ.j0:Nat→ByteArray→Bool→Option (List ByteArray × Bool)
 | 0,_,_=>none
 | k+1,x0,x14=>if x14=true then (some (([]:List ByteArray),false)) else (if 1≤(x0.size:Int) then ((strings_Split.f (x0.extract 1 x0.size) (⟨#[47]⟩:ByteArray)).bind fun nM=>(bZ.l0 k nM nM (nM.length:Int) 0)) else (none))
def bZ.l0:Nat→List ByteArray→List ByteArray→Int→Int→Option (List ByteArray × Bool)
 | 0,_,_,_,_=>none
 | k+1,x4,x18,RG,x20=>if x20<RG then (if 0≤x20 then (if x20<(x18.length:Int) then ((iD.f (p9 ByteArray.empty x18 x20)).bind fun Jv=>(if Jv=0 then (bZ.l0 k x4 x18 RG (wrap64 (x20+1))) else (some (([]:List ByteArray),false)))) else (none)) else (none)) else (some (x4,true))
end
def bZ.f (k:Nat) (a0:ByteArray):Option (List ByteArray × Bool):=if (a0.size:Int) > 1023 then (bZ.j0 k a0 true) else ((strings_HasPrefix.f a0 (⟨#[47]⟩:ByteArray)).bind fun RH=>(bZ.j0 k a0 (!RH)))
theorem bZ.fC:∀k,(∀y0 y1,bW (bZ.j0 k y0 y1) (bZ.j0 (k+1) y0 y1))∧(∀y0 y1 y2 y3,bW (bZ.l0 k y0 y1 y2 y3) (bZ.l0 (k+1) y0 y1 y2 y3))
 | 0=>⟨fun _ _ r h=>by simp[bZ.j0] at h,fun _ _ _ _ r h=>by simp[bZ.l0] at h⟩
 | k+1=>by
  obtain⟨j6,ih1⟩:=bZ.fC k;refine⟨?_,?_⟩
  ·intro y0 y1;unfold bZ.j0
   repeat' first
   | (with_reducible exact j6 _ _)
   | (with_reducible exact ih1 _ _ _ _)
   | (with_reducible exact bW.refl _)
   | (with_reducible exact bW.none _)
   | (with_reducible refine bW.ite ?_ ?_)
   | (with_reducible refine bW.bind ?_ (fun _=>?_))
   | exact j6 _ _
   | exact ih1 _ _ _ _
   | exact bW.none _
   | refine bW.ite ?_ ?_
   | refine bW.bind ?_ (fun _=>?_)
  intro y0 y1 y2 y3;unfold bZ.l0
  repeat' first
  | (with_reducible exact j6 _ _)
  | (with_reducible exact ih1 _ _ _ _)
  | (with_reducible exact bW.refl _)
  | (with_reducible exact bW.none _)
  | (with_reducible refine bW.ite ?_ ?_)
  | (with_reducible refine bW.bind ?_ (fun _=>?_))
  | exact j6 _ _
  | exact ih1 _ _ _ _
  | exact bW.none _
  | refine bW.ite ?_ ?_
  | refine bW.bind ?_ (fun _=>?_)
theorem bZ.mono:∀a0 k,bW (bZ.f k a0) (bZ.f (k+1) a0):=by
 intro a0 k;obtain⟨j6,ih1⟩:=bZ.fC k;unfold bZ.f
 repeat' first
   | (with_reducible exact j6 _ _)
   | (with_reducible exact ih1 _ _ _ _)
   | (with_reducible exact bW.refl _)
   | (with_reducible exact bW.none _)
   | (with_reducible refine bW.ite ?_ ?_)
   | (with_reducible refine bW.bind ?_ (fun _=>?_))
   | exact j6 _ _
   | exact ih1 _ _ _ _
   | exact bW.none _
   | refine bW.ite ?_ ?_
   | refine bW.bind ?_ (fun _=>?_)
theorem bZ.calls (k:Nat) (a0:ByteArray) (r1:List ByteArray) (r2:Bool) (w:World) (h:bZ.f k a0=some (r1,r2)) :
  Calls Tryz.prog 113 #[.string a0] w fun e w'=>∃xq:Value,e=.returned (.tuple #[xq,.bool r2])∧Kd.R Kd.string 9 w' w.heap.size (fun _=>True) xq r1∧Below w.heap.size w w':=by
 have HB:=ah.mk (Below.refl w.heap.size w);have H:(if (a0.size:Int) > 1023 then (bZ.j0 k a0 true) else ((strings_HasPrefix.f a0 (⟨#[47]⟩:ByteArray)).bind fun RH=>(bZ.j0 k a0 (!RH))))=some (r1,r2):=h;clear h;have JJ:=ah.mk H;clear H
 go_enter Tryz.func113,Tryz.ntmps113
 go_upto_region 1 with (fail)
 go_cut [14] (fun v14 wc=>∃(kq:Nat) (TT:Bool),v14=.bool TT∧ah (bZ.j0 kq a0 TT=some (r1,r2))∧ah (kq≤k)∧ah (Below w.heap.size w wc))
 case first=>
  have H:=JJ.out;clear JJ;by_cases c3:(a0.size:Int) > 1023
  ·rw[if_pos c3] at H;have o9:decide (1023<(a0.size:Int))=true:=decide_eq_true c3;have Aj:decide (1023<a0.size)=true:=decide_eq_true aj;clear c3
   (first|rw[o9]|(simp only[dn,dA];rw[o9])|skip)
   have H':=ah.mk H;clear H
   go_wp2
   go_meet
   case rel=>exact⟨_,(true),eG,H',⟨by first|omega|exact Nat.le_refl _⟩,⟨by repeat (first|(with_reducible first|exact HB.out|apply aH|apply av|apply aI)|exact HB.out)⟩⟩
  rw[if_neg c3] at H;have o9:decide (1023<(a0.size:Int))=false:=decide_eq_false c3;have Aj:decide (1023<a0.size)=false:=decide_eq_false aj;clear c3
  (first|rw[o9]|(simp only[dn,dA];rw[o9])|skip)
  replace H:=Option.bind_eq_some_iff.mp H;obtain⟨RH,SQ,H⟩:=H;replace H:(bZ.j0 k a0 (!RH))=some (r1,r2):=H;have A4:=ah.mk SQ;clear SQ;have H':=ah.mk H;clear H
  go_wp2_with (first|(go_at_call 130;(with_reducible refine (strings_HasPrefix.calls a0 (⟨#[47]⟩:ByteArray) RH _ A4.out).mono ?_);rintro e w' ⟨rfl,⟨nd,rfl⟩⟩))
  go_meet
  case rel=>exact⟨_,(!RH),eG,H',⟨by first|omega|exact Nat.le_refl _⟩,⟨by repeat (first|(with_reducible first|exact HB.out|apply aH|apply av|apply aI)|exact HB.out)⟩⟩
 case rest=>
  clear JJ
  try clear c1
  try clear p2
  try clear c3
  try clear o9
  try clear Aj
  obtain⟨kq,TT,rfl,HA,Wj,HB⟩:=hcut
  cases kq with
  | zero=>exact absurd HA.out (by simp[bZ.j0])
  | succ VH=>
   have H:=HA.out;clear HA;simp only[bZ.j0] at H;by_cases c5:TT=true
   ·subst c5
    have H1:(some (([]:List ByteArray),false))=some (r1,r2):=by rw[if_pos rfl] at H;exact H
    clear H;have H:=H1;clear H1;simp only[Option.some.injEq,Prod.mk.injEq] at H;obtain⟨rfl,rfl⟩:=H
    go_wp2
    go_ret2
    exact⟨_,by first|rfl|(simp[aX,aY] <;> rfl)|(simp[*,aX,aY] <;> rfl),by first|exact Kd.eY _ _ _ _ _|exact Kd.Ob _ _ _ _ _|exact Kd.Oc _ _ _ _ _|exact Kd.Od _ _ _ _ _|exact Kd.Gd _ _ _ _ _,by repeat (first|(with_reducible first|exact HB.out|apply aH|apply av|apply aI)|exact HB.out)⟩
   replace c5:=Bool.eq_false_iff.mpr c5;subst c5
   have H1:(if 1≤(a0.size:Int) then ((strings_Split.f (a0.extract 1 a0.size) (⟨#[47]⟩:ByteArray)).bind fun nM=>(bZ.l0 VH nM nM (nM.length:Int) 0)) else (none))=some (r1,r2):=by rw[if_neg (show ¬(false=true) by decide)] at H;exact H
   clear H;have H:=H1;clear H1
   by_cases c6:1≤(a0.size:Int)
   ·rw[if_pos c6] at H;have QC:=eq_true c6;have aos:decide (1≤(a0.size:Int))=true:=decide_eq_true c6;clear c6;replace H:=Option.bind_eq_some_iff.mp H;obtain⟨nM,A70,H⟩:=H;replace H:(bZ.l0 VH nM nM (nM.length:Int) 0)=some (r1,r2):=H;have A7:=ah.mk A70;clear A70;have H':=ah.mk H;clear H
    go_wp2_with (first|((with_reducible refine gu (f:=139) rfl ?_);refine oz (some 17) rfl rfl Tryz.func139 aA rfl #[.string (a0.extract 1 a0.size),.string (⟨#[47]⟩:ByteArray)] rfl nT ?_;(with_reducible refine (strings_Split.calls (a0.extract 1 a0.size) (⟨#[47]⟩:ByteArray) nM _ A7.out).mono ?_);rintro e w8 ⟨atp,rfl,ho0,hb⟩;refine⟨_,rfl,?_⟩;have fD:=ah.mk (Kd.fQ ho0 (bB dL));have gy:=ah.mk (bO dL hb);clear HB;have XU:=fD;have HB:=gy;clear fD gy;(try clear hb);(try clear hb2);(try clear hk);(try clear hi);(try clear ho0);obtain⟨Ji,Gg,Yu⟩:=Kd.bG XU.out;subst Yu))
    go_loopg [20] VH (fun kq v20 w'=>∃(nH:Int),v20=.int .i64 nH∧ah (bZ.l0 kq nM nM (nM.length:Int) nH=some (r1,r2))∧ah (kq≤VH)∧ah (Kd.R Kd.string 9 w' w.heap.size (fun _=>True) (.slice Ji nM.length Gg) nM)∧ah (Kd.R Kd.string 9 w' w.heap.size (fun _=>True) (.slice Ji nM.length Gg) nM)∧ah (Below w.heap.size w w'))
    case atStart=>exact⟨(0),eG,H',⟨Nat.le_refl _⟩,⟨by (with_reducible repeat (first|apply Kd.dJ|apply Kd.dK|apply Kd.dY));exact XU.out⟩,⟨by (with_reducible repeat (first|apply Kd.dJ|apply Kd.dK|apply Kd.dY));exact XU.out⟩,⟨by repeat (first|(with_reducible first|exact HB.out|apply aH|apply av|apply aI)|exact HB.out)⟩⟩
    case round=>
     clear H'
     try clear c1
     try clear p2
     try clear c3
     try clear o9
     try clear Aj
     try clear c5
     try clear c6
     try clear QC
     try clear aos
     try clear p2
     obtain⟨nH,rfl,HA,jG,O5,Cr,HB⟩:=hrel
     cases gk with
     | zero=>exact absurd HA.out (by simp[bZ.l0])
     | succ k2=>
      have H:=HA.out;clear HA;simp only[bZ.l0] at H
      by_cases c10:nH<(nM.length:Int)
      ·rw[if_pos c10] at H;have GL:decide (nH<(nM.length:Int))=true:=decide_eq_true c10;clear c10;by_cases c11:0≤nH
       ·rw[if_pos c11] at H;have Xq:decide (0≤nH)=true:=decide_eq_true c11;clear c11
        by_cases c12:nH<(nM.length:Int)
        ·rw[if_pos c12] at H;have Hl:decide (nH<(nM.length:Int))=true:=decide_eq_true c12;clear c12;replace H:=Option.bind_eq_some_iff.mp H;obtain⟨Jv,aiD,H⟩:=H;replace H:(if Jv=0 then (bZ.l0 k2 nM nM (nM.length:Int) (wrap64 (nH+1))) else (some (([]:List ByteArray),false)))=some (r1,r2):=H;have A13:=ah.mk aiD;clear aiD;by_cases c14:Jv=0
         ·rw[if_pos c14] at H;have XP:(Jv == 0)=true:=beq_iff_eq.mpr c14;have aiE:(Jv != 0)=false:=bne_eq_false_iff_eq.mpr c14;clear c14;have H':=ah.mk H;clear H;have RI:0≤(nH:Int):=of_decide_eq_true bS;have RJ:nH<(nM.length:Int):=of_decide_eq_true bS;obtain⟨aiF,e125,aas⟩:=Kd.ny (Kd.bT Cr.out).2.2 nH RI RJ;cases e125;replace RI:=eq_true RI;replace RJ:=eq_true RJ
          go_wp2_with (first|((with_reducible refine gu (f:=132) rfl ?_);refine oz (some 25) rfl rfl Tryz.func132 aA rfl #[.string (p9 ByteArray.empty nM nH)] rfl nT ?_;(with_reducible refine (iD.calls (p9 ByteArray.empty nM nH) Jv _ A13.out).mono ?_);rintro e w15 ⟨rfl,hb⟩;refine⟨_,rfl,?_⟩;have fD:=ah.mk (Kd.dF (by (with_reducible repeat (first|apply Kd.dJ|apply Kd.dK|apply Kd.dY));exact O5.out) hb);have gy:=ah.mk (Kd.dF (by (with_reducible repeat (first|apply Kd.dJ|apply Kd.dK|apply Kd.dY));exact Cr.out) hb);have iE:=ah.mk (bO dL hb);clear O5;clear Cr;clear HB;have O5:=fD;have Cr:=gy;have HB:=iE;clear fD gy iE;(try clear hb);(try clear hb2);(try clear hk);(try clear hi)))
          go_roundg k2
          case measure=>have:=Wj.out;have:=jG.out;omega
          case rel=>exact⟨(wrap64 (nH+1)),eG,H',⟨by have:=Wj.out;have:=jG.out;omega⟩,⟨by (with_reducible repeat (first|apply Kd.dJ|apply Kd.dK|apply Kd.dY));exact O5.out⟩,⟨by (with_reducible repeat (first|apply Kd.dJ|apply Kd.dK|apply Kd.dY));exact Cr.out⟩,⟨by repeat (first|(with_reducible first|exact HB.out|apply aH|apply av|apply aI)|exact HB.out)⟩⟩
         rw[if_neg c14] at H;have XP:(Jv == 0)=false:=beq_eq_false_iff_ne.mpr c14;have aiE:(Jv != 0)=true:=bne_iff_ne.mpr c14;simp only[Option.some.injEq,Prod.mk.injEq] at H;obtain⟨rfl,rfl⟩:=H;have RI:0≤(nH:Int):=of_decide_eq_true bS;have RJ:nH<(nM.length:Int):=of_decide_eq_true bS;obtain⟨aiF,e125,aas⟩:=Kd.ny (Kd.bT Cr.out).2.2 nH RI RJ;cases e125;replace RI:=eq_true RI;replace RJ:=eq_true RJ
         go_wp2_with (first|((with_reducible refine gu (f:=132) rfl ?_);refine oz (some 25) rfl rfl Tryz.func132 aA rfl #[.string (p9 ByteArray.empty nM nH)] rfl nT ?_;(with_reducible refine (iD.calls (p9 ByteArray.empty nM nH) Jv _ A13.out).mono ?_);rintro e w16 ⟨rfl,hb⟩;refine⟨_,rfl,?_⟩;have fD:=ah.mk (Kd.dF (by (with_reducible repeat (first|apply Kd.dJ|apply Kd.dK|apply Kd.dY));exact O5.out) hb);have gy:=ah.mk (Kd.dF (by (with_reducible repeat (first|apply Kd.dJ|apply Kd.dK|apply Kd.dY));exact Cr.out) hb);have iE:=ah.mk (bO dL hb);clear O5;clear Cr;clear HB;have O5:=fD;have Cr:=gy;have HB:=iE;clear fD gy iE;(try clear hb);(try clear hb2);(try clear hk);(try clear hi)))
         go_ret2
         exact⟨_,by first|rfl|(simp[aX,aY] <;> rfl)|(simp[*,aX,aY] <;> rfl),by first|exact Kd.eY _ _ _ _ _|exact Kd.Ob _ _ _ _ _|exact Kd.Oc _ _ _ _ _|exact Kd.Od _ _ _ _ _|exact Kd.Gd _ _ _ _ _,by repeat (first|(with_reducible first|exact HB.out|apply aH|apply av|apply aI)|exact HB.out)⟩
        rw[if_neg c12] at H;exact absurd H bK
       rw[if_neg c11] at H;exact absurd H bK
      rw[if_neg c10] at H;have GL:decide (nH<(nM.length:Int))=false:=decide_eq_false c10;clear c10;simp only[Option.some.injEq,Prod.mk.injEq] at H;obtain⟨rfl,rfl⟩:=H
      go_wp2
      go_ret2
      exact⟨_,by first|rfl|(simp[aX,aY] <;> rfl)|(simp[*,aX,aY] <;> rfl),by (with_reducible repeat (first|apply Kd.dJ|apply Kd.dK|apply Kd.dY));exact O5.out,by repeat (first|(with_reducible first|exact HB.out|apply aH|apply av|apply aI)|exact HB.out)⟩
   rw[if_neg c6] at H;exact absurd H bK
mutual
def bN.l0:Nat→List ByteArray→List ByteArray→Int→Option (Bool)
 | 0,_,_,_=>none
 | k+1,x0,x1,x5=>if x5<(x0.length:Int) then (bN.j1 k x0 x1 x5 (decide (x5<(x1.length:Int)))) else (bN.j1 k x0 x1 x5 false)
def bN.j1:Nat→List ByteArray→List ByteArray→Int→Bool→Option (Bool)
 | 0,_,_,_,_=>none
 | k+1,x0,x1,x5,x15=>if x15=true then (if 0≤x5 then (if x5<(x0.length:Int) then (if x5<(x1.length:Int) then (if (p9 ByteArray.empty x0 x5).toList=(p9 ByteArray.empty x1 x5).toList then (bN.l0 k x0 x1 (wrap64 (x5+1))) else (some (Op.bytesLess ((p9 ByteArray.empty x0 x5).toList) ((p9 ByteArray.empty x1 x5).toList)))) else (none)) else (none)) else (none)) else (some (decide ((x0.length:Int)<(x1.length:Int))))
end
def bN.f (k:Nat) (l0:List ByteArray) (l1:List ByteArray):Option (Bool):=bN.l0 k l0 l1 0
theorem bN.fC:∀k,(∀y0 y1 y2,bW (bN.l0 k y0 y1 y2) (bN.l0 (k+1) y0 y1 y2))∧(∀y0 y1 y2 y3,bW (bN.j1 k y0 y1 y2 y3) (bN.j1 (k+1) y0 y1 y2 y3))
 | 0=>⟨fun _ _ _ r h=>by simp[bN.l0] at h,fun _ _ _ _ r h=>by simp[bN.j1] at h⟩
 | k+1=>by
  obtain⟨j6,ih1⟩:=bN.fC k;refine⟨?_,?_⟩
  ·intro y0 y1 y2;unfold bN.l0
   repeat' first
   | (with_reducible exact j6 _ _ _)
   | (with_reducible exact ih1 _ _ _ _)
   | (with_reducible exact bW.refl _)
   | (with_reducible exact bW.none _)
   | (with_reducible refine bW.ite ?_ ?_)
   | (with_reducible refine bW.bind ?_ (fun _=>?_))
   | exact j6 _ _ _
   | exact ih1 _ _ _ _
   | exact bW.none _
   | refine bW.ite ?_ ?_
   | refine bW.bind ?_ (fun _=>?_)
  intro y0 y1 y2 y3;unfold bN.j1
  repeat' first
  | (with_reducible exact j6 _ _ _)
  | (with_reducible exact ih1 _ _ _ _)
  | (with_reducible exact bW.refl _)
  | (with_reducible exact bW.none _)
  | (with_reducible refine bW.ite ?_ ?_)
  | (with_reducible refine bW.bind ?_ (fun _=>?_))
  | exact j6 _ _ _
  | exact ih1 _ _ _ _
  | exact bW.none _
  | refine bW.ite ?_ ?_
  | refine bW.bind ?_ (fun _=>?_)
theorem bN.mono:∀a0 a1 k,bW (bN.f k a0 a1) (bN.f (k+1) a0 a1):=by
 intro a0 a1 k;obtain⟨j6,ih1⟩:=bN.fC k;unfold bN.f
 repeat' first
   | (with_reducible exact j6 _ _ _)
   | (with_reducible exact ih1 _ _ _ _)
   | (with_reducible exact bW.refl _)
   | (with_reducible exact bW.none _)
   | (with_reducible refine bW.ite ?_ ?_)
   | (with_reducible refine bW.bind ?_ (fun _=>?_))
   | exact j6 _ _ _
   | exact ih1 _ _ _ _
   | exact bW.none _
   | refine bW.ite ?_ ?_
   | refine bW.bind ?_ (fun _=>?_)
theorem bN.calls (k:Nat) (A0:Option Addr) (c0:Nat) (l0:List ByteArray) (A1:Option Addr) (c1:Nat) (l1:List ByteArray) (r:Bool) (w:World) (hr0:Kd.C Kd.string w A0 l0.length l0) (hc0:l0.length≤c0) (hr1:Kd.C Kd.string w A1 l1.length l1) (hc1:l1.length≤c1) (h:bN.f k l0 l1=some r) :
  Calls Tryz.prog 114 #[.slice A0 l0.length c0,.slice A1 l1.length c1] w fun e w'=>e=.returned (.bool r)∧bH w w':=by
 have qP:=ah.mk hr0;have Qp:=ah.mk hc0;clear hr0 hc0;have HR1:=ah.mk hr1;have I8:=ah.mk hc1;clear hr1 hc1;have H:(bN.l0 k l0 l1 0)=some r:=h;clear h;have H':=ah.mk H;clear H
 go_enter Tryz.func114,Tryz.ntmps114
 go_wp2
 repeat (go_quiet (fail);try go_wp2)
 go_loopg [5] k (fun kq v5 w'=>∃(aZ:Int),v5=.int .i64 aZ∧ah (bN.l0 kq l0 l1 aZ=some r)∧ah (kq≤k)∧bH w w')
 case atStart=>exact⟨(0),eG,H',⟨Nat.le_refl _⟩,by repeat (first|exact bH.refl _|apply bH.step)⟩
 case round=>
  clear H'
  try clear c1
  try clear p2
  obtain⟨aZ,rfl,HA,jY,⟨m1,rfl⟩⟩:=hrel
  cases gk with
  | zero=>exact absurd HA.out (by simp[bN.l0])
  | succ k1=>
   have H:=HA.out;clear HA;simp only[bN.l0] at H;have HC3:=ah.mk H;clear H
   go_upto_region 2 with (fail)
   repeat (go_quiet (fail);go_upto_region 2 with (fail))
   go_cut [15] (fun v15 wc=>∃(kq:Nat) (TU:Bool),v15=.bool TU∧ah (bN.j1 kq l0 l1 aZ TU=some r)∧ah (kq≤k1)∧bH w wc)
   case first=>
    have H:=HC3.out;clear HC3
    by_cases c4:aZ<(l0.length:Int)
    ·rw[if_pos c4] at H;have nL:decide (aZ<(l0.length:Int))=true:=decide_eq_true c4;clear c4
     (first|rw[nL]|(simp only[dn,dA];rw[nL])|skip)
     have H':=ah.mk H;clear H
     go_wp2
     repeat (go_quiet (fail);try go_wp2)
     go_meet
     case rel=>exact⟨_,(decide (aZ<(l1.length:Int))),eG,H',⟨by have:=jY.out;first|omega|exact Nat.le_refl _⟩,by repeat (first|exact bH.refl _|apply bH.step)⟩
    rw[if_neg c4] at H;have nL:decide (aZ<(l0.length:Int))=false:=decide_eq_false c4;clear c4
    (first|rw[nL]|(simp only[dn,dA];rw[nL])|skip)
    have H':=ah.mk H;clear H
    go_wp2
    repeat (go_quiet (fail);try go_wp2)
    go_meet
    case rel=>exact⟨_,(false),eG,H',⟨by have:=jY.out;first|omega|exact Nat.le_refl _⟩,by repeat (first|exact bH.refl _|apply bH.step)⟩
   case rest=>
    clear HC3
    try clear c1
    try clear p2
    try clear c4
    try clear nL
    try clear p2
    obtain⟨kq,TU,rfl,HA,HJ2,⟨mc2,rfl⟩⟩:=hcut
    cases kq with
    | zero=>exact absurd HA.out (by simp[bN.j1])
    | succ kj2=>
     have H:=HA.out;clear HA;simp only[bN.j1] at H;by_cases c5:TU=true
     ·subst c5
      have H1:(if 0≤aZ then (if aZ<(l0.length:Int) then (if aZ<(l1.length:Int) then (if (p9 ByteArray.empty l0 aZ).toList=(p9 ByteArray.empty l1 aZ).toList then (bN.l0 kj2 l0 l1 (wrap64 (aZ+1))) else (some (Op.bytesLess ((p9 ByteArray.empty l0 aZ).toList) ((p9 ByteArray.empty l1 aZ).toList)))) else (none)) else (none)) else (none))=some r:=by rw[if_pos rfl] at H;exact H
      clear H;have H:=H1;clear H1;by_cases c6:0≤aZ
      ·rw[if_pos c6] at H;have QC:decide (0≤aZ)=true:=decide_eq_true c6;clear c6
       by_cases c7:aZ<(l0.length:Int)
       ·rw[if_pos c7] at H;have Zy:decide (aZ<(l0.length:Int))=true:=decide_eq_true c7;clear c7
        by_cases c8:aZ<(l1.length:Int)
        ·rw[if_pos c8] at H;have ZB:decide (aZ<(l1.length:Int))=true:=decide_eq_true c8;clear c8;by_cases c9:(p9 ByteArray.empty l0 aZ).toList=(p9 ByteArray.empty l1 aZ).toList
         ·rw[if_pos c9] at H;have LZ:((p9 ByteArray.empty l0 aZ).toList == (p9 ByteArray.empty l1 aZ).toList)=true:=beq_iff_eq.mpr c9;have ad5:((p9 ByteArray.empty l0 aZ).toList != (p9 ByteArray.empty l1 aZ).toList)=false:=bne_eq_false_iff_eq.mpr c9;clear c9;have H':=ah.mk H;clear H;have RL:0≤(aZ:Int):=of_decide_eq_true bS;have RN:aZ<(l0.length:Int):=of_decide_eq_true bS;obtain⟨acs,e127,aat⟩:=Kd.ny qP.out aZ RL RN;cases e127;replace RL:=eq_true RL;replace RN:=eq_true RN;have RO:0≤(aZ:Int):=of_decide_eq_true bS;have RP:aZ<(l1.length:Int):=of_decide_eq_true bS;obtain⟨acu,e128,aau⟩:=Kd.ny HR1.out aZ RO RP;cases e128;replace RO:=eq_true RO;replace RP:=eq_true RP
          go_wp2
          repeat (go_quiet (fail);try go_wp2)
          go_roundg kj2
          case measure=>have:=jY.out;have:=HJ2.out;omega
          case rel=>exact⟨(wrap64 (aZ+1)),eG,H',⟨by have:=jY.out;have:=HJ2.out;omega⟩,by repeat (first|exact bH.refl _|apply bH.step)⟩
         rw[if_neg c9] at H;have LZ:((p9 ByteArray.empty l0 aZ).toList == (p9 ByteArray.empty l1 aZ).toList)=false:=beq_eq_false_iff_ne.mpr c9;have ad5:((p9 ByteArray.empty l0 aZ).toList != (p9 ByteArray.empty l1 aZ).toList)=true:=bne_iff_ne.mpr c9;obtain rfl:=Option.some.inj H;have RL:0≤(aZ:Int):=of_decide_eq_true bS;have RN:aZ<(l0.length:Int):=of_decide_eq_true bS;obtain⟨acs,e127,aat⟩:=Kd.ny qP.out aZ RL RN;cases e127;replace RL:=eq_true RL;replace RN:=eq_true RN;have RO:0≤(aZ:Int):=of_decide_eq_true bS;have RP:aZ<(l1.length:Int):=of_decide_eq_true bS;obtain⟨acu,e128,aau⟩:=Kd.ny HR1.out aZ RO RP;cases e128;replace RO:=eq_true RO;replace RP:=eq_true RP;have aeO:0≤(aZ:Int):=of_decide_eq_true bS;have aeP:aZ<(l0.length:Int):=of_decide_eq_true bS;obtain⟨aiG,e129,aj5⟩:=Kd.ny qP.out aZ aeO aeP
         obtain rfl:acs=aiG:=(by injection e129)
         replace aeO:=eq_true aeO;replace aeP:=eq_true aeP;have aeQ:0≤(aZ:Int):=of_decide_eq_true bS;have aeR:aZ<(l1.length:Int):=of_decide_eq_true bS;obtain⟨aiH,aou,aj6⟩:=Kd.ny HR1.out aZ aeQ aeR
         obtain rfl:acu=aiH:=(by injection aou)
         replace aeQ:=eq_true aeQ;replace aeR:=eq_true aeR
         go_wp2
         repeat (go_quiet (fail);try go_wp2)
         go_ret
         exact⟨by first|rfl|(simp;done)|(simp[*];done),by repeat (first|exact bH.refl _|apply bH.step)⟩
        rw[if_neg c8] at H;exact absurd H bK
       rw[if_neg c7] at H;exact absurd H bK
      rw[if_neg c6] at H;exact absurd H bK
     replace c5:=Bool.eq_false_iff.mpr c5;subst c5
     have H1:(some (decide ((l0.length:Int)<(l1.length:Int))))=some r:=by rw[if_neg (show ¬(false=true) by decide)] at H;exact H
     clear H;have H:=H1;clear H1;obtain rfl:=Option.some.inj H
     go_wp2
     repeat (go_quiet (fail);try go_wp2)
     go_ret
     exact⟨by first|rfl|(simp;done)|(simp[*];done),by repeat (first|exact bH.refl _|apply bH.step)⟩
end Go.Proofs.YtknihldkhedpkaaGreatDoor.PT
end
