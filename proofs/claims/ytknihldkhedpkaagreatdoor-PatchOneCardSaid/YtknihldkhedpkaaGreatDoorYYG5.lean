import Derived.Test.YtknihldkhedpkaaGreatDoorYYG1
import Derived.Test.YtknihldkhedpkaaGreatDoorYYG3
import Derived.Test.YtknihldkhedpkaaGreatDoorYYG4
set_option linter.all false
set_option maxHeartbeats 16000000
set_option maxRecDepth 100000
section
namespace Go.Proofs.YtknihldkhedpkaaGreatDoor.PT
open Go.RowKit Go.Proofs.YtknihldkhedpkaaGreatDoorW.PrintWords Go.Proofs.YtknihldkhedpkaaGreatDoorW.PrintLast Go.Proofs.YtknihldkhedpkaaGreatDoorW.PrintMore
attribute [local go_sem] nQ nR qz qA lU lV nS nT
mutual
def bS.j0:Nat→ByteArray→Bool→Option (List ByteArray × Bool)
 | 0,_,_=>none
 | k+1,x0,x14=>if x14=true then (some (([]:List ByteArray),false)) else (if 1≤(x0.size:Int) then ((strings_Split.f (x0.extract 1 x0.size) (⟨#[47]⟩:ByteArray)).bind fun mQ=>(bS.l0 k mQ mQ (mQ.length:Int) 0)) else (none))
def bS.l0:Nat→List ByteArray→List ByteArray→Int→Int→Option (List ByteArray × Bool)
 | 0,_,_,_,_=>none
 | k+1,x4,x18,Qb,x20=>if x20<Qb then (if 0≤x20 then (if x20<(x18.length:Int) then ((iR.f (pJ ByteArray.empty x18 x20)).bind fun Im=>(if Im=0 then (bS.l0 k x4 x18 Qb (wrap64 (x20+1))) else (some (([]:List ByteArray),false)))) else (none)) else (none)) else (some (x4,true))
end
def bS.f (k:Nat) (a0:ByteArray):Option (List ByteArray × Bool):=if (a0.size:Int) > 1023 then (bS.j0 k a0 true) else ((strings_HasPrefix.f a0 (⟨#[47]⟩:ByteArray)).bind fun Qc=>(bS.j0 k a0 (!Qc)))
theorem bS.eG:∀k,(∀y0 y1,bQ (bS.j0 k y0 y1) (bS.j0 (k+1) y0 y1))∧(∀y0 y1 y2 y3,bQ (bS.l0 k y0 y1 y2 y3) (bS.l0 (k+1) y0 y1 y2 y3))
 | 0=>⟨fun _ _ r h=>by simp[bS.j0] at h,fun _ _ _ _ r h=>by simp[bS.l0] at h⟩
 | k+1=>by
  obtain⟨jH,ih1⟩:=bS.eG k;refine⟨?_,?_⟩
  ·intro y0 y1;unfold bS.j0
   repeat' first
   | (with_reducible exact jH _ _)
   | (with_reducible exact ih1 _ _ _ _)
   | (with_reducible exact bQ.refl _)
   | (with_reducible exact bQ.none _)
   | (with_reducible refine bQ.ite ?_ ?_)
   | (with_reducible refine bQ.bind ?_ (fun _=>?_))
   | exact jH _ _
   | exact ih1 _ _ _ _
   | exact bQ.none _
   | refine bQ.ite ?_ ?_
   | refine bQ.bind ?_ (fun _=>?_)
  ·intro y0 y1 y2 y3;unfold bS.l0
   repeat' first
   | (with_reducible exact jH _ _)
   | (with_reducible exact ih1 _ _ _ _)
   | (with_reducible exact bQ.refl _)
   | (with_reducible exact bQ.none _)
   | (with_reducible refine bQ.ite ?_ ?_)
   | (with_reducible refine bQ.bind ?_ (fun _=>?_))
   | exact jH _ _
   | exact ih1 _ _ _ _
   | exact bQ.none _
   | refine bQ.ite ?_ ?_
   | refine bQ.bind ?_ (fun _=>?_)
theorem bS.mono:∀a0 k,bQ (bS.f k a0) (bS.f (k+1) a0):=by
 intro a0 k;obtain⟨jH,ih1⟩:=bS.eG k;unfold bS.f
 repeat' first
   | (with_reducible exact jH _ _)
   | (with_reducible exact ih1 _ _ _ _)
   | (with_reducible exact bQ.refl _)
   | (with_reducible exact bQ.none _)
   | (with_reducible refine bQ.ite ?_ ?_)
   | (with_reducible refine bQ.bind ?_ (fun _=>?_))
   | exact jH _ _
   | exact ih1 _ _ _ _
   | exact bQ.none _
   | refine bQ.ite ?_ ?_
   | refine bQ.bind ?_ (fun _=>?_)
theorem bS.calls (k:Nat) (a0:ByteArray) (r1:List ByteArray) (r2:Bool) (w:World) (h:bS.f k a0=some (r1,r2)) :
  Calls Tryz.prog 113 #[.string a0] w fun e w'=>∃wm:Value,e=.returned (.tuple #[wm,.bool r2])∧Kd.R Kd.string 9 w' w.heap.size (fun _=>True) wm r1∧Below w.heap.size w w':=by
 have HB:=ah.mk (Below.refl w.heap.size w);have H:(if (a0.size:Int) > 1023 then (bS.j0 k a0 true) else ((strings_HasPrefix.f a0 (⟨#[47]⟩:ByteArray)).bind fun Qc=>(bS.j0 k a0 (!Qc))))=some (r1,r2):=h;clear h;have Dn:=ah.mk H;clear H
 go_enter Tryz.func113,Tryz.ntmps113
 go_upto_region 1 with (fail)
 go_cut [14] (fun v14 wc=>∃(kq:Nat) (RN:Bool),v14=.bool RN∧ah (bS.j0 kq a0 RN=some (r1,r2))∧ah (kq≤k)∧ah (Below w.heap.size w wc))
 case first=>
  have H:=Dn.out;clear Dn;by_cases c3:(a0.size:Int) > 1023
  ·rw[if_pos c3] at H;have ou:decide (1023<(a0.size:Int))=true:=decide_eq_true c3;have zh:decide (1023<a0.size)=true:=decide_eq_true (by omega);clear c3
   (first|rw[ou]|(simp only[aG,aH];rw[ou])|skip)
   have H':=ah.mk H;clear H
   go_wp2
   go_meet
   case rel=>exact⟨_,(true),(by first|rfl|(simp;done)|(simp[*];done)),H',⟨by first|omega|exact Nat.le_refl _⟩,⟨by repeat (first|(with_reducible first|exact HB.out|apply ay|apply au|apply aA)|exact HB.out)⟩⟩
  ·rw[if_neg c3] at H;have ou:decide (1023<(a0.size:Int))=false:=decide_eq_false c3;have zh:decide (1023<a0.size)=false:=decide_eq_false (by omega);clear c3
   (first|rw[ou]|(simp only[aG,aH];rw[ou])|skip)
   replace H:=Option.bind_eq_some_iff.mp H;obtain⟨Qc,Rh,H⟩:=H;replace H:(bS.j0 k a0 (!Qc))=some (r1,r2):=H;have A4:=ah.mk Rh;clear Rh;have H':=ah.mk H;clear H
   go_wp2_with (first|(go_at_call 130;(with_reducible refine (strings_HasPrefix.calls a0 (⟨#[47]⟩:ByteArray) Qc _ A4.out).mono ?_);rintro e w' ⟨rfl,⟨nd,rfl⟩⟩))
   go_meet
   case rel=>exact⟨_,(!Qc),(by first|rfl|(simp;done)|(simp[*];done)),H',⟨by first|omega|exact Nat.le_refl _⟩,⟨by repeat (first|(with_reducible first|exact HB.out|apply ay|apply au|apply aA)|exact HB.out)⟩⟩
 case rest=>
  clear Dn
  try clear c1
  try clear p2
  try clear c3
  try clear ou
  try clear zh
  obtain⟨kq,RN,rfl,HA,Ux,HB⟩:=hcut
  cases kq with
  | zero=>exact absurd HA.out (by simp[bS.j0])
  | succ TU=>
   have H:=HA.out;clear HA;simp only[bS.j0] at H;by_cases c5:RN=true
   ·subst c5
    have H1:(some (([]:List ByteArray),false))=some (r1,r2):=by rw[if_pos rfl] at H;exact H
    clear H;have H:=H1;clear H1;simp only[Option.some.injEq,Prod.mk.injEq] at H;obtain⟨rfl,rfl⟩:=H
    go_wp2
    go_ret2
    exact⟨_,by first|rfl|(simp[aU,aV] <;> rfl)|(simp[*,aU,aV] <;> rfl),by first|exact Kd.fA _ _ _ _ _|exact Kd.MH _ _ _ _ _|exact Kd.MI _ _ _ _ _|exact Kd.MJ _ _ _ _ _|exact Kd.ET _ _ _ _ _,by repeat (first|(with_reducible first|exact HB.out|apply ay|apply au|apply aA)|exact HB.out)⟩
   ·replace c5:=Bool.eq_false_iff.mpr c5;subst c5
    have H1:(if 1≤(a0.size:Int) then ((strings_Split.f (a0.extract 1 a0.size) (⟨#[47]⟩:ByteArray)).bind fun mQ=>(bS.l0 TU mQ mQ (mQ.length:Int) 0)) else (none))=some (r1,r2):=by rw[if_neg (show ¬(false=true) by decide)] at H;exact H
    clear H;have H:=H1;clear H1
    by_cases c6:1≤(a0.size:Int)
    ·rw[if_pos c6] at H;have OD:=eq_true c6;have alz:decide (1≤(a0.size:Int))=true:=decide_eq_true c6;clear c6;replace H:=Option.bind_eq_some_iff.mp H;obtain⟨mQ,A70,H⟩:=H;replace H:(bS.l0 TU mQ mQ (mQ.length:Int) 0)=some (r1,r2):=H;have A7:=ah.mk A70;clear A70;have H':=ah.mk H;clear H
     go_wp2_with (first|((with_reducible refine fH (f:=139) rfl ?_);refine nI (some 17) rfl rfl Tryz.func139 (by kernel_rfl) rfl #[.string (a0.extract 1 a0.size),.string (⟨#[47]⟩:ByteArray)] rfl (by (try simp only[List.map_toArray,List.map_cons,List.map_nil]);first|done|rfl|(simp only[List.length_drop,List.length_take];rfl)) ?_;(with_reducible refine (strings_Split.calls (a0.extract 1 a0.size) (⟨#[47]⟩:ByteArray) mQ _ A7.out).mono ?_);rintro e w8 ⟨ap8,rfl,ho0,hb⟩;refine⟨_,rfl,?_⟩;have eF:=ah.mk (Kd.fC ho0 (bf (by repeat (first|(with_reducible first|exact HB.out|apply ay|apply au|apply aA)|exact HB.out))));have fG:=ah.mk (bM (by repeat (first|(with_reducible first|exact HB.out|apply ay|apply au|apply aA)|exact HB.out)) hb);clear HB;have VT:=eF;have HB:=fG;clear eF fG;(try clear hb);(try clear hb2);(try clear hk);(try clear hi);(try clear ho0);obtain⟨H8,ES,WB⟩:=Kd.bH VT.out;subst WB))
     go_loopg [20] TU (fun kq v20 w'=>∃(mF:Int),v20=.int .i64 mF∧ah (bS.l0 kq mQ mQ (mQ.length:Int) mF=some (r1,r2))∧ah (kq≤TU)∧ah (Kd.R Kd.string 9 w' w.heap.size (fun _=>True) (.slice H8 mQ.length ES) mQ)∧ah (Kd.R Kd.string 9 w' w.heap.size (fun _=>True) (.slice H8 mQ.length ES) mQ)∧ah (Below w.heap.size w w'))
     case atStart=>exact⟨(0),(by first|rfl|(simp;done)|(simp[*];done)),H',⟨Nat.le_refl _⟩,⟨by (with_reducible repeat (first|apply Kd.dz|apply Kd.dA|apply Kd.dO));exact VT.out⟩,⟨by (with_reducible repeat (first|apply Kd.dz|apply Kd.dA|apply Kd.dO));exact VT.out⟩,⟨by repeat (first|(with_reducible first|exact HB.out|apply ay|apply au|apply aA)|exact HB.out)⟩⟩
     case round=>
      clear H'
      try clear c1
      try clear p2
      try clear c3
      try clear ou
      try clear zh
      try clear c5
      try clear c6
      try clear OD
      try clear alz
      try clear p2
      obtain⟨mF,rfl,HA,iK,Nt,Bh,HB⟩:=hrel
      cases gk with
      | zero=>exact absurd HA.out (by simp[bS.l0])
      | succ k2=>
       have H:=HA.out;clear HA;simp only[bS.l0] at H
       by_cases c10:mF<(mQ.length:Int)
       ·rw[if_pos c10] at H;have FE:decide (mF<(mQ.length:Int))=true:=decide_eq_true c10;clear c10;by_cases c11:0≤mF
        ·rw[if_pos c11] at H;have Vv:decide (0≤mF)=true:=decide_eq_true c11;clear c11
         by_cases c12:mF<(mQ.length:Int)
         ·rw[if_pos c12] at H;have FZ:decide (mF<(mQ.length:Int))=true:=decide_eq_true c12;clear c12;replace H:=Option.bind_eq_some_iff.mp H;obtain⟨Im,agc,H⟩:=H;replace H:(if Im=0 then (bS.l0 k2 mQ mQ (mQ.length:Int) (wrap64 (mF+1))) else (some (([]:List ByteArray),false)))=some (r1,r2):=H;have A13:=ah.mk agc;clear agc;by_cases c14:Im=0
          ·rw[if_pos c14] at H;have VO:(Im == 0)=true:=beq_iff_eq.mpr c14;have agd:(Im != 0)=false:=bne_eq_false_iff_eq.mpr c14;clear c14;have H':=ah.mk H;clear H;have Qd:0≤(mF:Int):=of_decide_eq_true (by first|(with_reducible assumption)|assumption);have Qe:mF<(mQ.length:Int):=of_decide_eq_true (by first|(with_reducible assumption)|assumption);obtain⟨agf,e125,YI⟩:=Kd.nP (Kd.dB Bh.out).2.2 mF Qd Qe;cases e125;replace Qd:=eq_true Qd;replace Qe:=eq_true Qe
           go_wp2_with (first|((with_reducible refine fH (f:=132) rfl ?_);refine nI (some 25) rfl rfl Tryz.func132 (by kernel_rfl) rfl #[.string (pJ ByteArray.empty mQ mF)] rfl (by (try simp only[List.map_toArray,List.map_cons,List.map_nil]);first|done|rfl|(simp only[List.length_drop,List.length_take];rfl)) ?_;(with_reducible refine (iR.calls (pJ ByteArray.empty mQ mF) Im _ A13.out).mono ?_);rintro e w15 ⟨rfl,hb⟩;refine⟨_,rfl,?_⟩;have eF:=ah.mk (Kd.dh (by (with_reducible repeat (first|apply Kd.dz|apply Kd.dA|apply Kd.dO));exact Nt.out) hb);have fG:=ah.mk (Kd.dh (by (with_reducible repeat (first|apply Kd.dz|apply Kd.dA|apply Kd.dO));exact Bh.out) hb);have gN:=ah.mk (bM (by repeat (first|(with_reducible first|exact HB.out|apply ay|apply au|apply aA)|exact HB.out)) hb);clear Nt;clear Bh;clear HB;have Nt:=eF;have Bh:=fG;have HB:=gN;clear eF fG gN;(try clear hb);(try clear hb2);(try clear hk);(try clear hi)))
           go_roundg k2
           case measure=>have:=Ux.out;have:=iK.out;omega
           case rel=>exact⟨(wrap64 (mF+1)),(by first|rfl|(simp;done)|(simp[*];done)),H',⟨by have:=Ux.out;have:=iK.out;omega⟩,⟨by (with_reducible repeat (first|apply Kd.dz|apply Kd.dA|apply Kd.dO));exact Nt.out⟩,⟨by (with_reducible repeat (first|apply Kd.dz|apply Kd.dA|apply Kd.dO));exact Bh.out⟩,⟨by repeat (first|(with_reducible first|exact HB.out|apply ay|apply au|apply aA)|exact HB.out)⟩⟩
          ·rw[if_neg c14] at H;have VO:(Im == 0)=false:=beq_eq_false_iff_ne.mpr c14;have agd:(Im != 0)=true:=bne_iff_ne.mpr c14;simp only[Option.some.injEq,Prod.mk.injEq] at H;obtain⟨rfl,rfl⟩:=H;have Qd:0≤(mF:Int):=of_decide_eq_true (by first|(with_reducible assumption)|assumption);have Qe:mF<(mQ.length:Int):=of_decide_eq_true (by first|(with_reducible assumption)|assumption);obtain⟨agf,e125,YI⟩:=Kd.nP (Kd.dB Bh.out).2.2 mF Qd Qe;cases e125;replace Qd:=eq_true Qd;replace Qe:=eq_true Qe
           go_wp2_with (first|((with_reducible refine fH (f:=132) rfl ?_);refine nI (some 25) rfl rfl Tryz.func132 (by kernel_rfl) rfl #[.string (pJ ByteArray.empty mQ mF)] rfl (by (try simp only[List.map_toArray,List.map_cons,List.map_nil]);first|done|rfl|(simp only[List.length_drop,List.length_take];rfl)) ?_;(with_reducible refine (iR.calls (pJ ByteArray.empty mQ mF) Im _ A13.out).mono ?_);rintro e w16 ⟨rfl,hb⟩;refine⟨_,rfl,?_⟩;have eF:=ah.mk (Kd.dh (by (with_reducible repeat (first|apply Kd.dz|apply Kd.dA|apply Kd.dO));exact Nt.out) hb);have fG:=ah.mk (Kd.dh (by (with_reducible repeat (first|apply Kd.dz|apply Kd.dA|apply Kd.dO));exact Bh.out) hb);have gN:=ah.mk (bM (by repeat (first|(with_reducible first|exact HB.out|apply ay|apply au|apply aA)|exact HB.out)) hb);clear Nt;clear Bh;clear HB;have Nt:=eF;have Bh:=fG;have HB:=gN;clear eF fG gN;(try clear hb);(try clear hb2);(try clear hk);(try clear hi)))
           go_ret2
           exact⟨_,by first|rfl|(simp[aU,aV] <;> rfl)|(simp[*,aU,aV] <;> rfl),by first|exact Kd.fA _ _ _ _ _|exact Kd.MH _ _ _ _ _|exact Kd.MI _ _ _ _ _|exact Kd.MJ _ _ _ _ _|exact Kd.ET _ _ _ _ _,by repeat (first|(with_reducible first|exact HB.out|apply ay|apply au|apply aA)|exact HB.out)⟩
         ·rw[if_neg c12] at H;exact absurd H (by simp)
        ·rw[if_neg c11] at H;exact absurd H (by simp)
       ·rw[if_neg c10] at H;have FE:decide (mF<(mQ.length:Int))=false:=decide_eq_false c10;clear c10;simp only[Option.some.injEq,Prod.mk.injEq] at H;obtain⟨rfl,rfl⟩:=H
        go_wp2
        go_ret2
        exact⟨_,by first|rfl|(simp[aU,aV] <;> rfl)|(simp[*,aU,aV] <;> rfl),by (with_reducible repeat (first|apply Kd.dz|apply Kd.dA|apply Kd.dO));exact Nt.out,by repeat (first|(with_reducible first|exact HB.out|apply ay|apply au|apply aA)|exact HB.out)⟩
    ·rw[if_neg c6] at H;exact absurd H (by simp)
mutual
def bL.l0:Nat→List ByteArray→List ByteArray→Int→Option (Bool)
 | 0,_,_,_=>none
 | k+1,x0,x1,x5=>if x5<(x0.length:Int) then (bL.j1 k x0 x1 x5 (decide (x5<(x1.length:Int)))) else (bL.j1 k x0 x1 x5 false)
def bL.j1:Nat→List ByteArray→List ByteArray→Int→Bool→Option (Bool)
 | 0,_,_,_,_=>none
 | k+1,x0,x1,x5,x15=>if x15=true then (if 0≤x5 then (if x5<(x0.length:Int) then (if x5<(x1.length:Int) then (if (pJ ByteArray.empty x0 x5).toList=(pJ ByteArray.empty x1 x5).toList then (bL.l0 k x0 x1 (wrap64 (x5+1))) else (some (Op.bytesLess ((pJ ByteArray.empty x0 x5).toList) ((pJ ByteArray.empty x1 x5).toList)))) else (none)) else (none)) else (none)) else (some (decide ((x0.length:Int)<(x1.length:Int))))
end
def bL.f (k:Nat) (l0:List ByteArray) (l1:List ByteArray):Option (Bool):=bL.l0 k l0 l1 0
theorem bL.eG:∀k,(∀y0 y1 y2,bQ (bL.l0 k y0 y1 y2) (bL.l0 (k+1) y0 y1 y2))∧(∀y0 y1 y2 y3,bQ (bL.j1 k y0 y1 y2 y3) (bL.j1 (k+1) y0 y1 y2 y3))
 | 0=>⟨fun _ _ _ r h=>by simp[bL.l0] at h,fun _ _ _ _ r h=>by simp[bL.j1] at h⟩
 | k+1=>by
  obtain⟨jH,ih1⟩:=bL.eG k;refine⟨?_,?_⟩
  ·intro y0 y1 y2;unfold bL.l0
   repeat' first
   | (with_reducible exact jH _ _ _)
   | (with_reducible exact ih1 _ _ _ _)
   | (with_reducible exact bQ.refl _)
   | (with_reducible exact bQ.none _)
   | (with_reducible refine bQ.ite ?_ ?_)
   | (with_reducible refine bQ.bind ?_ (fun _=>?_))
   | exact jH _ _ _
   | exact ih1 _ _ _ _
   | exact bQ.none _
   | refine bQ.ite ?_ ?_
   | refine bQ.bind ?_ (fun _=>?_)
  ·intro y0 y1 y2 y3;unfold bL.j1
   repeat' first
   | (with_reducible exact jH _ _ _)
   | (with_reducible exact ih1 _ _ _ _)
   | (with_reducible exact bQ.refl _)
   | (with_reducible exact bQ.none _)
   | (with_reducible refine bQ.ite ?_ ?_)
   | (with_reducible refine bQ.bind ?_ (fun _=>?_))
   | exact jH _ _ _
   | exact ih1 _ _ _ _
   | exact bQ.none _
   | refine bQ.ite ?_ ?_
   | refine bQ.bind ?_ (fun _=>?_)
theorem bL.mono:∀a0 a1 k,bQ (bL.f k a0 a1) (bL.f (k+1) a0 a1):=by
 intro a0 a1 k;obtain⟨jH,ih1⟩:=bL.eG k;unfold bL.f
 repeat' first
   | (with_reducible exact jH _ _ _)
   | (with_reducible exact ih1 _ _ _ _)
   | (with_reducible exact bQ.refl _)
   | (with_reducible exact bQ.none _)
   | (with_reducible refine bQ.ite ?_ ?_)
   | (with_reducible refine bQ.bind ?_ (fun _=>?_))
   | exact jH _ _ _
   | exact ih1 _ _ _ _
   | exact bQ.none _
   | refine bQ.ite ?_ ?_
   | refine bQ.bind ?_ (fun _=>?_)
theorem bL.calls (k:Nat) (A0:Option Addr) (c0:Nat) (l0:List ByteArray) (A1:Option Addr) (c1:Nat) (l1:List ByteArray) (r:Bool) (w:World) (hr0:Kd.C Kd.string w A0 l0.length l0) (hc0:l0.length≤c0) (hr1:Kd.C Kd.string w A1 l1.length l1) (hc1:l1.length≤c1) (h:bL.f k l0 l1=some r) :
  Calls Tryz.prog 114 #[.slice A0 l0.length c0,.slice A1 l1.length c1] w fun e w'=>e=.returned (.bool r)∧bF w w':=by
 have pQ:=ah.mk hr0;have OL:=ah.mk hc0;clear hr0 hc0;have HR1:=ah.mk hr1;have Hl:=ah.mk hc1;clear hr1 hc1;have H:(bL.l0 k l0 l1 0)=some r:=h;clear h;have H':=ah.mk H;clear H
 go_enter Tryz.func114,Tryz.ntmps114
 go_wp2
 repeat (go_quiet (fail);try go_wp2)
 go_loopg [5] k (fun kq v5 w'=>∃(aW:Int),v5=.int .i64 aW∧ah (bL.l0 kq l0 l1 aW=some r)∧ah (kq≤k)∧bF w w')
 case atStart=>exact⟨(0),(by first|rfl|(simp;done)|(simp[*];done)),H',⟨Nat.le_refl _⟩,by repeat (first|exact bF.refl _|apply bF.step)⟩
 case round=>
  clear H'
  try clear c1
  try clear p2
  obtain⟨aW,rfl,HA,jC,⟨m1,rfl⟩⟩:=hrel
  cases gk with
  | zero=>exact absurd HA.out (by simp[bL.l0])
  | succ k1=>
   have H:=HA.out;clear HA;simp only[bL.l0] at H;have HC3:=ah.mk H;clear H
   go_upto_region 2 with (fail)
   repeat (go_quiet (fail);go_upto_region 2 with (fail))
   go_cut [15] (fun v15 wc=>∃(kq:Nat) (RO:Bool),v15=.bool RO∧ah (bL.j1 kq l0 l1 aW RO=some r)∧ah (kq≤k1)∧bF w wc)
   case first=>
    have H:=HC3.out;clear HC3
    by_cases c4:aW<(l0.length:Int)
    ·rw[if_pos c4] at H;have mO:decide (aW<(l0.length:Int))=true:=decide_eq_true c4;clear c4
     (first|rw[mO]|(simp only[aG,aH];rw[mO])|skip)
     have H':=ah.mk H;clear H
     go_wp2
     repeat (go_quiet (fail);try go_wp2)
     go_meet
     case rel=>exact⟨_,(decide (aW<(l1.length:Int))),(by first|rfl|(simp;done)|(simp[*];done)),H',⟨by have:=jC.out;first|omega|exact Nat.le_refl _⟩,by repeat (first|exact bF.refl _|apply bF.step)⟩
    ·rw[if_neg c4] at H;have mO:decide (aW<(l0.length:Int))=false:=decide_eq_false c4;clear c4
     (first|rw[mO]|(simp only[aG,aH];rw[mO])|skip)
     have H':=ah.mk H;clear H
     go_wp2
     repeat (go_quiet (fail);try go_wp2)
     go_meet
     case rel=>exact⟨_,(false),(by first|rfl|(simp;done)|(simp[*];done)),H',⟨by have:=jC.out;first|omega|exact Nat.le_refl _⟩,by repeat (first|exact bF.refl _|apply bF.step)⟩
   case rest=>
    clear HC3
    try clear c1
    try clear p2
    try clear c4
    try clear mO
    try clear p2
    obtain⟨kq,RO,rfl,HA,HJ2,⟨mc2,rfl⟩⟩:=hcut
    cases kq with
    | zero=>exact absurd HA.out (by simp[bL.j1])
    | succ kj2=>
     have H:=HA.out;clear HA;simp only[bL.j1] at H;by_cases c5:RO=true
     ·subst c5
      have H1:(if 0≤aW then (if aW<(l0.length:Int) then (if aW<(l1.length:Int) then (if (pJ ByteArray.empty l0 aW).toList=(pJ ByteArray.empty l1 aW).toList then (bL.l0 kj2 l0 l1 (wrap64 (aW+1))) else (some (Op.bytesLess ((pJ ByteArray.empty l0 aW).toList) ((pJ ByteArray.empty l1 aW).toList)))) else (none)) else (none)) else (none))=some r:=by rw[if_pos rfl] at H;exact H
      clear H;have H:=H1;clear H1;by_cases c6:0≤aW
      ·rw[if_pos c6] at H;have OD:decide (0≤aW)=true:=decide_eq_true c6;clear c6
       by_cases c7:aW<(l0.length:Int)
       ·rw[if_pos c7] at H;have Xx:decide (aW<(l0.length:Int))=true:=decide_eq_true c7;clear c7
        by_cases c8:aW<(l1.length:Int)
        ·rw[if_pos c8] at H;have XA:decide (aW<(l1.length:Int))=true:=decide_eq_true c8;clear c8;by_cases c9:(pJ ByteArray.empty l0 aW).toList=(pJ ByteArray.empty l1 aW).toList
         ·rw[if_pos c9] at H;have KI:((pJ ByteArray.empty l0 aW).toList == (pJ ByteArray.empty l1 aW).toList)=true:=beq_iff_eq.mpr c9;have acA:((pJ ByteArray.empty l0 aW).toList != (pJ ByteArray.empty l1 aW).toList)=false:=bne_eq_false_iff_eq.mpr c9;clear c9;have H':=ah.mk H;clear H;have Qf:0≤(aW:Int):=of_decide_eq_true (by first|(with_reducible assumption)|assumption);have Qg:aW<(l0.length:Int):=of_decide_eq_true (by first|(with_reducible assumption)|assumption);obtain⟨aaL,e127,YJ⟩:=Kd.nP pQ.out aW Qf Qg;cases e127;replace Qf:=eq_true Qf;replace Qg:=eq_true Qg;have Qh:0≤(aW:Int):=of_decide_eq_true (by first|(with_reducible assumption)|assumption);have Qi:aW<(l1.length:Int):=of_decide_eq_true (by first|(with_reducible assumption)|assumption);obtain⟨aaM,e128,YK⟩:=Kd.nP HR1.out aW Qh Qi;cases e128;replace Qh:=eq_true Qh;replace Qi:=eq_true Qi
          go_wp2
          repeat (go_quiet (fail);try go_wp2)
          go_roundg kj2
          case measure=>have:=jC.out;have:=HJ2.out;omega
          case rel=>exact⟨(wrap64 (aW+1)),(by first|rfl|(simp;done)|(simp[*];done)),H',⟨by have:=jC.out;have:=HJ2.out;omega⟩,by repeat (first|exact bF.refl _|apply bF.step)⟩
         ·rw[if_neg c9] at H;have KI:((pJ ByteArray.empty l0 aW).toList == (pJ ByteArray.empty l1 aW).toList)=false:=beq_eq_false_iff_ne.mpr c9;have acA:((pJ ByteArray.empty l0 aW).toList != (pJ ByteArray.empty l1 aW).toList)=true:=bne_iff_ne.mpr c9;obtain rfl:=Option.some.inj H;have Qf:0≤(aW:Int):=of_decide_eq_true (by first|(with_reducible assumption)|assumption);have Qg:aW<(l0.length:Int):=of_decide_eq_true (by first|(with_reducible assumption)|assumption);obtain⟨aaL,e127,YJ⟩:=Kd.nP pQ.out aW Qf Qg;cases e127;replace Qf:=eq_true Qf;replace Qg:=eq_true Qg;have Qh:0≤(aW:Int):=of_decide_eq_true (by first|(with_reducible assumption)|assumption);have Qi:aW<(l1.length:Int):=of_decide_eq_true (by first|(with_reducible assumption)|assumption);obtain⟨aaM,e128,YK⟩:=Kd.nP HR1.out aW Qh Qi;cases e128;replace Qh:=eq_true Qh;replace Qi:=eq_true Qi;have acO:0≤(aW:Int):=of_decide_eq_true (by first|(with_reducible assumption)|assumption);have acP:aW<(l0.length:Int):=of_decide_eq_true (by first|(with_reducible assumption)|assumption);obtain⟨agh,e129,ahD⟩:=Kd.nP pQ.out aW acO acP
          obtain rfl:aaL=agh:=(by injection e129)
          replace acO:=eq_true acO;replace acP:=eq_true acP;have acQ:0≤(aW:Int):=of_decide_eq_true (by first|(with_reducible assumption)|assumption);have acR:aW<(l1.length:Int):=of_decide_eq_true (by first|(with_reducible assumption)|assumption);obtain⟨agi,alB,ahE⟩:=Kd.nP HR1.out aW acQ acR
          obtain rfl:aaM=agi:=(by injection alB)
          replace acQ:=eq_true acQ;replace acR:=eq_true acR
          go_wp2
          repeat (go_quiet (fail);try go_wp2)
          go_ret
          exact⟨by first|rfl|(simp;done)|(simp[*];done),by repeat (first|exact bF.refl _|apply bF.step)⟩
        ·rw[if_neg c8] at H;exact absurd H (by simp)
       ·rw[if_neg c7] at H;exact absurd H (by simp)
      ·rw[if_neg c6] at H;exact absurd H (by simp)
     ·replace c5:=Bool.eq_false_iff.mpr c5;subst c5
      have H1:(some (decide ((l0.length:Int)<(l1.length:Int))))=some r:=by rw[if_neg (show ¬(false=true) by decide)] at H;exact H
      clear H;have H:=H1;clear H1;obtain rfl:=Option.some.inj H
      go_wp2
      repeat (go_quiet (fail);try go_wp2)
      go_ret
      exact⟨by first|rfl|(simp;done)|(simp[*];done),by repeat (first|exact bF.refl _|apply bF.step)⟩
end Go.Proofs.YtknihldkhedpkaaGreatDoor.PT
end
