import Derived.Test.YtknihldkhedpkaaGreatDoorDDG1
import Derived.Test.YtknihldkhedpkaaGreatDoorDDG2
import Derived.Test.YtknihldkhedpkaaGreatDoorDDG3
set_option linter.all false
set_option maxHeartbeats 16000000
set_option maxRecDepth 100000
section
namespace Go.Proofs.YtknihldkhedpkaaGreatDoor.PT
open Go.RowKit Go.Proofs.YtknihldkhedpkaaGreatDoorW.PrintWords Go.Proofs.YtknihldkhedpkaaGreatDoorW.PrintLast Go.Proofs.YtknihldkhedpkaaGreatDoorW.PrintMore
attribute [local go_sem] kI kJ mI mJ jE jF kK kL
mutual
def dS.j0:Nat→ByteArray→Bool→Option (List ByteArray × Bool)
 | 0,_,_=>none
 | k+1,x0,x14=>if x14=true then (some (([]:List ByteArray),false)) else (if 1≤(x0.size:Int) then ((strings_Split.f (x0.extract 1 x0.size) (⟨#[47]⟩:ByteArray)).bind fun ny=>(dS.l0 k ny ny (ny.length:Int) 0)) else (none))
def dS.l0:Nat→List ByteArray→List ByteArray→Int→Int→Option (List ByteArray × Bool)
 | 0,_,_,_,_=>none
 | k+1,x4,x18,Rl,x20=>if x20<Rl then (if 0≤x20 then (if x20<(x18.length:Int) then ((iq.f (mP ByteArray.empty x18 x20)).bind fun I9=>(if I9=0 then (dS.l0 k x4 x18 Rl (wrap64 (x20+1))) else (some (([]:List ByteArray),false)))) else (none)) else (none)) else (some (x4,true))
end
def dS.f (k:Nat) (a0:ByteArray):Option (List ByteArray × Bool):=if (a0.size:Int) > 1023 then (dS.j0 k a0 true) else ((strings_HasPrefix.f a0 (⟨#[47]⟩:ByteArray)).bind fun Rm=>(dS.j0 k a0 (!Rm)))
theorem dS.calls (k:Nat) (a0:ByteArray) (r1:List ByteArray) (r2:Bool) (w:World) (h:dS.f k a0=some (r1,r2)) :
  Calls Tryz.prog 113 #[.string a0] w fun e w'=>∃wI:Value,e=.returned (.tuple #[wI,.bool r2])∧Kd.R Kd.string 9 w' w.heap.size (fun _=>True) wI r1∧Below w.heap.size w w':=by
 have HB:=ah.mk (Below.refl w.heap.size w);have H:(if (a0.size:Int) > 1023 then (dS.j0 k a0 true) else ((strings_HasPrefix.f a0 (⟨#[47]⟩:ByteArray)).bind fun Rm=>(dS.j0 k a0 (!Rm))))=some (r1,r2):=h;clear h;have OB:=ah.mk H;clear H
 go_enter Tryz.func113,Tryz.ntmps113
 go_upto_region 1 with (fail)
 go_cut [14] (fun v14 wc=>∃(kq:Nat) (Uq:Bool),v14=.bool Uq∧ah (dS.j0 kq a0 Uq=some (r1,r2))∧ah (kq≤k)∧ah (Below w.heap.size w wc))
 case first=>
  have H:=OB.out;clear OB;by_cases c3:(a0.size:Int) > 1023
  ·rw[if_pos c3] at H;have qo:decide (1023<(a0.size:Int))=true:=decide_eq_true c3;have xG:decide (1023<a0.size)=true:=decide_eq_true aj;clear c3
   (first|rw[qo]|(simp only[eG,fI];rw[qo])|skip)
   have H':=ah.mk H;clear H
   go_wp2
   go_meet
   case rel=>exact⟨_,(true),dV,H',⟨by first|omega|exact Nat.le_refl _⟩,⟨by repeat (first|(with_reducible first|exact HB.out|apply aG|apply av|apply aK)|exact HB.out)⟩⟩
  rw[if_neg c3] at H;have qo:decide (1023<(a0.size:Int))=false:=decide_eq_false c3;have xG:decide (1023<a0.size)=false:=decide_eq_false aj;clear c3
  (first|rw[qo]|(simp only[eG,fI];rw[qo])|skip)
  replace H:=Option.bind_eq_some_iff.mp H;obtain⟨Rm,WR,H⟩:=H;replace H:(dS.j0 k a0 (!Rm))=some (r1,r2):=H;have A4:=ah.mk WR;clear WR;have H':=ah.mk H;clear H
  go_wp2_with (first|(go_at_call 130;(with_reducible refine (strings_HasPrefix.calls a0 (⟨#[47]⟩:ByteArray) Rm _ A4.out).mono ?_);rintro e w' ⟨rfl,⟨nd,rfl⟩⟩))
  go_meet
  case rel=>exact⟨_,(!Rm),dV,H',⟨by first|omega|exact Nat.le_refl _⟩,⟨by repeat (first|(with_reducible first|exact HB.out|apply aG|apply av|apply aK)|exact HB.out)⟩⟩
 case rest=>
  clear OB
  try clear c1
  try clear p2
  try clear c3
  try clear qo
  try clear xG
  obtain⟨kq,Uq,rfl,HA,HJ1,HB⟩:=hcut
  cases kq with
  | zero=>exact absurd HA.out (by simp[dS.j0])
  | succ kj1=>
   have H:=HA.out;clear HA;simp only[dS.j0] at H;by_cases c5:Uq=true
   ·subst c5
    have H1:(some (([]:List ByteArray),false))=some (r1,r2):=by rw[if_pos rfl] at H;exact H
    clear H;have H:=H1;clear H1;simp only[Option.some.injEq,Prod.mk.injEq] at H;obtain⟨rfl,rfl⟩:=H
    go_wp2
    go_ret2
    exact⟨_,by first|rfl|(simp[aY,aZ] <;> rfl)|(simp[*,aY,aZ] <;> rfl),by first|exact Kd.eD _ _ _ _ _|exact Kd.Gi _ _ _ _ _|exact Kd.Gj _ _ _ _ _|exact Kd.Gl _ _ _ _ _|exact Kd.Ef _ _ _ _ _,by repeat (first|(with_reducible first|exact HB.out|apply aG|apply av|apply aK)|exact HB.out)⟩
   replace c5:=Bool.eq_false_iff.mpr c5;subst c5
   have H1:(if 1≤(a0.size:Int) then ((strings_Split.f (a0.extract 1 a0.size) (⟨#[47]⟩:ByteArray)).bind fun ny=>(dS.l0 kj1 ny ny (ny.length:Int) 0)) else (none))=some (r1,r2):=by rw[if_neg (show ¬(false=true) by decide)] at H;exact H
   clear H;have H:=H1;clear H1
   by_cases c6:1≤(a0.size:Int)
   ·rw[if_pos c6] at H;have Nc:=eq_true c6;have ao4:decide (1≤(a0.size:Int))=true:=decide_eq_true c6;clear c6;replace H:=Option.bind_eq_some_iff.mp H;obtain⟨ny,A70,H⟩:=H;replace H:(dS.l0 kj1 ny ny (ny.length:Int) 0)=some (r1,r2):=H;have A7:=ah.mk A70;clear A70;have H':=ah.mk H;clear H
    go_wp2_with (first|((with_reducible refine fM (f:=139) rfl ?_);refine oh (some 17) rfl rfl Tryz.func139 aD rfl #[.string (a0.extract 1 a0.size),.string (⟨#[47]⟩:ByteArray)] rfl qw ?_;(with_reducible refine (strings_Split.calls (a0.extract 1 a0.size) (⟨#[47]⟩:ByteArray) ny _ A7.out).mono ?_);rintro e w8 ⟨atZ,rfl,ho0,hb⟩;refine⟨_,rfl,?_⟩;have dM:=ah.mk (Kd.gD ho0 (bH dG));have dU:=ah.mk (bM dG hb);clear HB;have YN:=dM;have HB:=dU;clear dM dU;(try clear hb);(try clear hb2);(try clear hk);(try clear hi);(try clear ho0);obtain⟨IK,Ei,VY⟩:=Kd.bP YN.out;subst VY))
    go_loopg [20] kj1 (fun kq v20 w'=>∃(mZ:Int),v20=.int .i64 mZ∧ah (dS.l0 kq ny ny (ny.length:Int) mZ=some (r1,r2))∧ah (kq≤kj1)∧ah (Kd.R Kd.string 9 w' w.heap.size (fun _=>True) (.slice IK ny.length Ei) ny)∧ah (Kd.R Kd.string 9 w' w.heap.size (fun _=>True) (.slice IK ny.length Ei) ny)∧ah (Below w.heap.size w w'))
    case atStart=>exact⟨(0),dV,H',⟨Nat.le_refl _⟩,⟨by (with_reducible repeat (first|apply Kd.aW|apply Kd.aT|apply Kd.bE));exact YN.out⟩,⟨by (with_reducible repeat (first|apply Kd.aW|apply Kd.aT|apply Kd.bE));exact YN.out⟩,⟨by repeat (first|(with_reducible first|exact HB.out|apply aG|apply av|apply aK)|exact HB.out)⟩⟩
    case round=>
     clear H'
     try clear c1
     try clear p2
     try clear c3
     try clear qo
     try clear xG
     try clear c5
     try clear c6
     try clear Nc
     try clear ao4
     try clear p2
     obtain⟨mZ,rfl,HA,jG,Oj,Cx,HB⟩:=hrel
     cases gk with
     | zero=>exact absurd HA.out (by simp[dS.l0])
     | succ k2=>
      have H:=HA.out;clear HA;simp only[dS.l0] at H
      by_cases c10:mZ<(ny.length:Int)
      ·rw[if_pos c10] at H;have zw:decide (mZ<(ny.length:Int))=true:=decide_eq_true c10;clear c10;by_cases c11:0≤mZ
       ·rw[if_pos c11] at H;have YG:decide (0≤mZ)=true:=decide_eq_true c11;clear c11
        by_cases c12:mZ<(ny.length:Int)
        ·rw[if_pos c12] at H;have YO:decide (mZ<(ny.length:Int))=true:=decide_eq_true c12;clear c12;replace H:=Option.bind_eq_some_iff.mp H;obtain⟨I9,XH,H⟩:=H;replace H:(if I9=0 then (dS.l0 k2 ny ny (ny.length:Int) (wrap64 (mZ+1))) else (some (([]:List ByteArray),false)))=some (r1,r2):=H;have A13:=ah.mk XH;clear XH;by_cases c14:I9=0
         ·rw[if_pos c14] at H;have NC:(I9 == 0)=true:=beq_iff_eq.mpr c14;have ajx:(I9 != 0)=false:=bne_eq_false_iff_eq.mpr c14;clear c14;have H':=ah.mk H;clear H;have Ro:0≤(mZ:Int):=of_decide_eq_true bg;have Rp:mZ<(ny.length:Int):=of_decide_eq_true bg;obtain⟨ajy,e125,abj⟩:=Kd.lX (Kd.bU Cx.out).2.2 mZ Ro Rp;cases e125;replace Ro:=eq_true Ro;replace Rp:=eq_true Rp
          go_wp2_with (first|((with_reducible refine fM (f:=132) rfl ?_);refine oh (some 25) rfl rfl Tryz.func132 aD rfl #[.string (mP ByteArray.empty ny mZ)] rfl qw ?_;(with_reducible refine (iq.calls (mP ByteArray.empty ny mZ) I9 _ A13.out).mono ?_);rintro e w15 ⟨rfl,hb⟩;refine⟨_,rfl,?_⟩;have dM:=ah.mk (Kd.bO (by (with_reducible repeat (first|apply Kd.aW|apply Kd.aT|apply Kd.bE));exact Oj.out) hb);have dU:=ah.mk (Kd.bO (by (with_reducible repeat (first|apply Kd.aW|apply Kd.aT|apply Kd.bE));exact Cx.out) hb);have eF:=ah.mk (bM dG hb);clear Oj;clear Cx;clear HB;have Oj:=dM;have Cx:=dU;have HB:=eF;clear dM dU eF;(try clear hb);(try clear hb2);(try clear hk);(try clear hi)))
          go_roundg k2
          case measure=>have:=HJ1.out;have:=jG.out;omega
          case rel=>exact⟨(wrap64 (mZ+1)),dV,H',⟨by have:=HJ1.out;have:=jG.out;omega⟩,⟨by (with_reducible repeat (first|apply Kd.aW|apply Kd.aT|apply Kd.bE));exact Oj.out⟩,⟨by (with_reducible repeat (first|apply Kd.aW|apply Kd.aT|apply Kd.bE));exact Cx.out⟩,⟨by repeat (first|(with_reducible first|exact HB.out|apply aG|apply av|apply aK)|exact HB.out)⟩⟩
         rw[if_neg c14] at H;have NC:(I9 == 0)=false:=beq_eq_false_iff_ne.mpr c14;have ajx:(I9 != 0)=true:=bne_iff_ne.mpr c14;simp only[Option.some.injEq,Prod.mk.injEq] at H;obtain⟨rfl,rfl⟩:=H;have Ro:0≤(mZ:Int):=of_decide_eq_true bg;have Rp:mZ<(ny.length:Int):=of_decide_eq_true bg;obtain⟨ajy,e125,abj⟩:=Kd.lX (Kd.bU Cx.out).2.2 mZ Ro Rp;cases e125;replace Ro:=eq_true Ro;replace Rp:=eq_true Rp
         go_wp2_with (first|((with_reducible refine fM (f:=132) rfl ?_);refine oh (some 25) rfl rfl Tryz.func132 aD rfl #[.string (mP ByteArray.empty ny mZ)] rfl qw ?_;(with_reducible refine (iq.calls (mP ByteArray.empty ny mZ) I9 _ A13.out).mono ?_);rintro e w16 ⟨rfl,hb⟩;refine⟨_,rfl,?_⟩;have dM:=ah.mk (Kd.bO (by (with_reducible repeat (first|apply Kd.aW|apply Kd.aT|apply Kd.bE));exact Oj.out) hb);have dU:=ah.mk (Kd.bO (by (with_reducible repeat (first|apply Kd.aW|apply Kd.aT|apply Kd.bE));exact Cx.out) hb);have eF:=ah.mk (bM dG hb);clear Oj;clear Cx;clear HB;have Oj:=dM;have Cx:=dU;have HB:=eF;clear dM dU eF;(try clear hb);(try clear hb2);(try clear hk);(try clear hi)))
         go_ret2
         exact⟨_,by first|rfl|(simp[aY,aZ] <;> rfl)|(simp[*,aY,aZ] <;> rfl),by first|exact Kd.eD _ _ _ _ _|exact Kd.Gi _ _ _ _ _|exact Kd.Gj _ _ _ _ _|exact Kd.Gl _ _ _ _ _|exact Kd.Ef _ _ _ _ _,by repeat (first|(with_reducible first|exact HB.out|apply aG|apply av|apply aK)|exact HB.out)⟩
        rw[if_neg c12] at H;exact absurd H bB
       rw[if_neg c11] at H;exact absurd H bB
      rw[if_neg c10] at H;have zw:decide (mZ<(ny.length:Int))=false:=decide_eq_false c10;clear c10;simp only[Option.some.injEq,Prod.mk.injEq] at H;obtain⟨rfl,rfl⟩:=H
      go_wp2
      go_ret2
      exact⟨_,by first|rfl|(simp[aY,aZ] <;> rfl)|(simp[*,aY,aZ] <;> rfl),by (with_reducible repeat (first|apply Kd.aW|apply Kd.aT|apply Kd.bE));exact Oj.out,by repeat (first|(with_reducible first|exact HB.out|apply aG|apply av|apply aK)|exact HB.out)⟩
   rw[if_neg c6] at H;exact absurd H bB
mutual
def dD.l0:Nat→List ByteArray→List ByteArray→Int→Option (Bool)
 | 0,_,_,_=>none
 | k+1,x0,x1,x5=>if x5<(x0.length:Int) then (dD.j1 k x0 x1 x5 (decide (x5<(x1.length:Int)))) else (dD.j1 k x0 x1 x5 false)
def dD.j1:Nat→List ByteArray→List ByteArray→Int→Bool→Option (Bool)
 | 0,_,_,_,_=>none
 | k+1,x0,x1,x5,x15=>if x15=true then (if 0≤x5 then (if x5<(x0.length:Int) then (if x5<(x1.length:Int) then (if (mP ByteArray.empty x0 x5).toList=(mP ByteArray.empty x1 x5).toList then (dD.l0 k x0 x1 (wrap64 (x5+1))) else (some (Op.bytesLess ((mP ByteArray.empty x0 x5).toList) ((mP ByteArray.empty x1 x5).toList)))) else (none)) else (none)) else (none)) else (some (decide ((x0.length:Int)<(x1.length:Int))))
end
def dD.f (k:Nat) (l0:List ByteArray) (l1:List ByteArray):Option (Bool):=dD.l0 k l0 l1 0
theorem dD.calls (k:Nat) (A0:Option Addr) (c0:Nat) (l0:List ByteArray) (A1:Option Addr) (c1:Nat) (l1:List ByteArray) (r:Bool) (w:World) (hr0:Kd.C Kd.string w A0 l0.length l0) (hc0:l0.length≤c0) (hr1:Kd.C Kd.string w A1 l1.length l1) (hc1:l1.length≤c1) (h:dD.f k l0 l1=some r) :
  Calls Tryz.prog 114 #[.slice A0 l0.length c0,.slice A1 l1.length c1] w fun e w'=>e=.returned (.bool r)∧bI w w':=by
 have nC:=ah.mk hr0;have VW:=ah.mk hc0;clear hr0 hc0;have HR1:=ah.mk hr1;have Gr:=ah.mk hc1;clear hr1 hc1;have H:(dD.l0 k l0 l1 0)=some r:=h;clear h;have H':=ah.mk H;clear H
 go_enter Tryz.func114,Tryz.ntmps114
 go_wp2
 repeat (go_quiet (fail);try go_wp2)
 go_loopg [5] k (fun kq v5 w'=>∃(aR:Int),v5=.int .i64 aR∧ah (dD.l0 kq l0 l1 aR=some r)∧ah (kq≤k)∧bI w w')
 case atStart=>exact⟨(0),dV,H',⟨Nat.le_refl _⟩,by repeat (first|exact bI.refl _|apply bI.step)⟩
 case round=>
  clear H'
  try clear c1
  try clear p2
  obtain⟨aR,rfl,HA,jH,⟨m1,rfl⟩⟩:=hrel
  cases gk with
  | zero=>exact absurd HA.out (by simp[dD.l0])
  | succ k1=>
   have H:=HA.out;clear HA;simp only[dD.l0] at H;have HC3:=ah.mk H;clear H
   go_upto_region 2 with (fail)
   repeat (go_quiet (fail);go_upto_region 2 with (fail))
   go_cut [15] (fun v15 wc=>∃(kq:Nat) (Ur:Bool),v15=.bool Ur∧ah (dD.j1 kq l0 l1 aR Ur=some r)∧ah (kq≤k1)∧bI w wc)
   case first=>
    have H:=HC3.out;clear HC3
    by_cases c4:aR<(l0.length:Int)
    ·rw[if_pos c4] at H;have rP:decide (aR<(l0.length:Int))=true:=decide_eq_true c4;clear c4
     (first|rw[rP]|(simp only[eG,fI];rw[rP])|skip)
     have H':=ah.mk H;clear H
     go_wp2
     repeat (go_quiet (fail);try go_wp2)
     go_meet
     case rel=>exact⟨_,(decide (aR<(l1.length:Int))),dV,H',⟨by have:=jH.out;first|omega|exact Nat.le_refl _⟩,by repeat (first|exact bI.refl _|apply bI.step)⟩
    rw[if_neg c4] at H;have rP:decide (aR<(l0.length:Int))=false:=decide_eq_false c4;clear c4
    (first|rw[rP]|(simp only[eG,fI];rw[rP])|skip)
    have H':=ah.mk H;clear H
    go_wp2
    repeat (go_quiet (fail);try go_wp2)
    go_meet
    case rel=>exact⟨_,(false),dV,H',⟨by have:=jH.out;first|omega|exact Nat.le_refl _⟩,by repeat (first|exact bI.refl _|apply bI.step)⟩
   case rest=>
    clear HC3
    try clear c1
    try clear p2
    try clear c4
    try clear rP
    try clear p2
    obtain⟨kq,Ur,rfl,HA,HJ2,⟨mc2,rfl⟩⟩:=hcut
    cases kq with
    | zero=>exact absurd HA.out (by simp[dD.j1])
    | succ kj2=>
     have H:=HA.out;clear HA;simp only[dD.j1] at H;by_cases c5:Ur=true
     ·subst c5
      have H1:(if 0≤aR then (if aR<(l0.length:Int) then (if aR<(l1.length:Int) then (if (mP ByteArray.empty l0 aR).toList=(mP ByteArray.empty l1 aR).toList then (dD.l0 kj2 l0 l1 (wrap64 (aR+1))) else (some (Op.bytesLess ((mP ByteArray.empty l0 aR).toList) ((mP ByteArray.empty l1 aR).toList)))) else (none)) else (none)) else (none))=some r:=by rw[if_pos rfl] at H;exact H
      clear H;have H:=H1;clear H1;by_cases c6:0≤aR
      ·rw[if_pos c6] at H;have Nc:decide (0≤aR)=true:=decide_eq_true c6;clear c6
       by_cases c7:aR<(l0.length:Int)
       ·rw[if_pos c7] at H;have KY:decide (aR<(l0.length:Int))=true:=decide_eq_true c7;clear c7
        by_cases c8:aR<(l1.length:Int)
        ·rw[if_pos c8] at H;have U9:decide (aR<(l1.length:Int))=true:=decide_eq_true c8;clear c8;by_cases c9:(mP ByteArray.empty l0 aR).toList=(mP ByteArray.empty l1 aR).toList
         ·rw[if_pos c9] at H;have NK:((mP ByteArray.empty l0 aR).toList == (mP ByteArray.empty l1 aR).toList)=true:=beq_iff_eq.mpr c9;have afM:((mP ByteArray.empty l0 aR).toList != (mP ByteArray.empty l1 aR).toList)=false:=bne_eq_false_iff_eq.mpr c9;clear c9;have H':=ah.mk H;clear H;have Rq:0≤(aR:Int):=of_decide_eq_true bg;have Rs:aR<(l0.length:Int):=of_decide_eq_true bg;obtain⟨adz,e127,abk⟩:=Kd.lX nC.out aR Rq Rs;cases e127;replace Rq:=eq_true Rq;replace Rs:=eq_true Rs;have Rt:0≤(aR:Int):=of_decide_eq_true bg;have Rv:aR<(l1.length:Int):=of_decide_eq_true bg;obtain⟨adA,e128,abl⟩:=Kd.lX HR1.out aR Rt Rv;cases e128;replace Rt:=eq_true Rt;replace Rv:=eq_true Rv
          go_wp2
          repeat (go_quiet (fail);try go_wp2)
          go_roundg kj2
          case measure=>have:=jH.out;have:=HJ2.out;omega
          case rel=>exact⟨(wrap64 (aR+1)),dV,H',⟨by have:=jH.out;have:=HJ2.out;omega⟩,by repeat (first|exact bI.refl _|apply bI.step)⟩
         rw[if_neg c9] at H;have NK:((mP ByteArray.empty l0 aR).toList == (mP ByteArray.empty l1 aR).toList)=false:=beq_eq_false_iff_ne.mpr c9;have afM:((mP ByteArray.empty l0 aR).toList != (mP ByteArray.empty l1 aR).toList)=true:=bne_iff_ne.mpr c9;obtain rfl:=Option.some.inj H;have Rq:0≤(aR:Int):=of_decide_eq_true bg;have Rs:aR<(l0.length:Int):=of_decide_eq_true bg;obtain⟨adz,e127,abk⟩:=Kd.lX nC.out aR Rq Rs;cases e127;replace Rq:=eq_true Rq;replace Rs:=eq_true Rs;have Rt:0≤(aR:Int):=of_decide_eq_true bg;have Rv:aR<(l1.length:Int):=of_decide_eq_true bg;obtain⟨adA,e128,abl⟩:=Kd.lX HR1.out aR Rt Rv;cases e128;replace Rt:=eq_true Rt;replace Rv:=eq_true Rv;have afS:0≤(aR:Int):=of_decide_eq_true bg;have afT:aR<(l0.length:Int):=of_decide_eq_true bg;obtain⟨ajz,e129,ak9⟩:=Kd.lX nC.out aR afS afT
         obtain rfl:adz=ajz:=(by injection e129)
         replace afS:=eq_true afS;replace afT:=eq_true afT;have afU:0≤(aR:Int):=of_decide_eq_true bg;have afV:aR<(l1.length:Int):=of_decide_eq_true bg;obtain⟨ajA,ao6,ala⟩:=Kd.lX HR1.out aR afU afV
         obtain rfl:adA=ajA:=(by injection ao6)
         replace afU:=eq_true afU;replace afV:=eq_true afV
         go_wp2
         repeat (go_quiet (fail);try go_wp2)
         go_ret
         exact⟨by first|rfl|(simp;done)|(simp[*];done),by repeat (first|exact bI.refl _|apply bI.step)⟩
        rw[if_neg c8] at H;exact absurd H bB
       rw[if_neg c7] at H;exact absurd H bB
      rw[if_neg c6] at H;exact absurd H bB
     replace c5:=Bool.eq_false_iff.mpr c5;subst c5
     have H1:(some (decide ((l0.length:Int)<(l1.length:Int))))=some r:=by rw[if_neg (show ¬(false=true) by decide)] at H;exact H
     clear H;have H:=H1;clear H1;obtain rfl:=Option.some.inj H
     go_wp2
     repeat (go_quiet (fail);try go_wp2)
     go_ret
     exact⟨by first|rfl|(simp;done)|(simp[*];done),by repeat (first|exact bI.refl _|apply bI.step)⟩
end Go.Proofs.YtknihldkhedpkaaGreatDoor.PT
end
