import Derived.Test.YtknihldkhedpkaaGreatDoorYYG1
import Derived.Test.YtknihldkhedpkaaGreatDoorYYG20
import Derived.Test.YtknihldkhedpkaaGreatDoorYYG19
set_option linter.all false
set_option maxHeartbeats 16000000
set_option maxRecDepth 100000
section
namespace Go.Proofs.YtknihldkhedpkaaGreatDoor.PT
open Go.RowKit Go.Proofs.YtknihldkhedpkaaGreatDoorW.PrintWords Go.Proofs.YtknihldkhedpkaaGreatDoorW.PrintLast Go.Proofs.YtknihldkhedpkaaGreatDoorW.PrintMore
attribute [local go_sem] nQ nR qz qA lU lV nS nT
def aM.l0:Nat→List (mG)→List (mG)→Int→Option (Bool)
 | 0,_,_,_=>none
 | k+1,x0,x1,x5=>if x5<(x0.length:Int) then (if 0≤x5 then (if x5<(x1.length:Int) then ((bJ.f ((aI x0 x5).f0) ((aI x0 x5).f1) ((aI x0 x5).f2) ((aI x0 x5).f3) ((aI x0 x5).f4) ((aI x0 x5).f5) ((aI x1 x5).f0) ((aI x1 x5).f1) ((aI x1 x5).f2) ((aI x1 x5).f3) ((aI x1 x5).f4) ((aI x1 x5).f5)).bind fun X7=>(if X7=true then (aM.l0 k x0 x1 (wrap64 (x5+1))) else (some false))) else (none)) else (none)) else (some true)
def aM.f (k:Nat) (l0:List (mG)) (l1:List (mG)):Option (Bool):=if (l0.length:Int)=(l1.length:Int) then (aM.l0 k l0 l1 0) else (some false)
theorem aM.eG:∀k,(∀y0 y1 y2,bQ (aM.l0 k y0 y1 y2) (aM.l0 (k+1) y0 y1 y2))
 | 0=>fun _ _ _ r h=>by simp[aM.l0] at h
 | k+1=>by
  have jH:=aM.eG k
  ·intro y0 y1 y2;unfold aM.l0
   repeat' first
   | (with_reducible exact jH _ _ _)
   | (with_reducible exact bQ.refl _)
   | (with_reducible exact bQ.none _)
   | (with_reducible refine bQ.ite ?_ ?_)
   | (with_reducible refine bQ.bind ?_ (fun _=>?_))
   | exact jH _ _ _
   | exact bQ.none _
   | refine bQ.ite ?_ ?_
   | refine bQ.bind ?_ (fun _=>?_)
theorem aM.mono:∀a0 a1 k,bQ (aM.f k a0 a1) (aM.f (k+1) a0 a1):=by
 intro a0 a1 k;have jH:=aM.eG k;unfold aM.f
 repeat' first
   | (with_reducible exact jH _ _ _)
   | (with_reducible exact bQ.refl _)
   | (with_reducible exact bQ.none _)
   | (with_reducible refine bQ.ite ?_ ?_)
   | (with_reducible refine bQ.bind ?_ (fun _=>?_))
   | exact jH _ _ _
   | exact bQ.none _
   | refine bQ.ite ?_ ?_
   | refine bQ.bind ?_ (fun _=>?_)
def aM.T6:Bool × List (List Nat × List Nat):=(true,[([],[]),([],[]),([0,1],[0,1]),([2],[2]),([],[]),([],[]),([4,5],[4,5]),([6],[6]),([3,7],[3,7]),([8],[8])])
def aM.B6:List Nat:=[0,0,3,7,0,0,48,112,255,511]
theorem aM.afh:sj .any (opsOf Tryz.f24 6)=aM.T6:=by kernel_rfl
theorem aM.aas:vw aM.T6.2 aM.B6=true:=by kernel_rfl
theorem aM.calls (k:Nat) (A0:Option Addr) (c0:Nat) (l0:List (mG)) (A1:Option Addr) (c1:Nat) (l1:List (mG)) (r:Bool) (w:World) (hr0:Kd.C oW w A0 l0.length l0) (hc0:l0.length≤c0) (hr1:Kd.C oW w A1 l1.length l1) (hc1:l1.length≤c1) (h:aM.f k l0 l1=some r) :
  Calls Tryz.prog 24 #[.slice A0 l0.length c0,.slice A1 l1.length c1] w fun e w'=>e=.returned (.bool r)∧Below w.heap.size w w':=by
 have OT:=Tryz.underlying29;have pQ:=ah.mk hr0;have OL:=ah.mk hc0;clear hr0 hc0;have HR1:=ah.mk hr1;have Hl:=ah.mk hc1;clear hr1 hc1;have HB:=ah.mk (Below.refl w.heap.size w);have H:(if (l0.length:Int)=(l1.length:Int) then (aM.l0 k l0 l1 0) else (some false))=some r:=h;clear h
 by_cases c3:(l0.length:Int)=(l1.length:Int)
 ·rw[if_pos c3] at H;have ou:((l0.length:Int) == (l1.length:Int))=true:=beq_iff_eq.mpr c3;have zh:((l0.length:Int) != (l1.length:Int))=false:=bne_eq_false_iff_eq.mpr c3
  have U1:(l0.length == l1.length)=true:=by first|simpa using c3|(simp at c3 ⊢;omega)
  clear c3;have H':=ah.mk H;clear H
  go_enter Tryz.func24,Tryz.ntmps24
  go_wp2
  go_loopg [5] k (fun kq v5 w'=>∃(aW:Int),v5=.int .i64 aW∧ah (aM.l0 kq l0 l1 aW=some r)∧ah (kq≤k)∧ah (Below w.heap.size w w'))
  case atStart=>exact⟨(0),(by first|rfl|(simp;done)|(simp[*];done)),H',⟨Nat.le_refl _⟩,⟨by repeat (first|(with_reducible first|exact HB.out|apply ay|apply au|apply aA)|exact HB.out)⟩⟩
  case round=>
   clear H'
   try clear c1
   try clear c2
   try clear p2
   try clear c3
   try clear ou
   try clear zh
   try clear U1
   obtain⟨aW,rfl,HA,jC,HB⟩:=hrel
   cases gk with
   | zero=>exact absurd HA.out (by simp[aM.l0])
   | succ k1=>
    have H:=HA.out;clear HA;simp only[aM.l0] at H
    by_cases c4:aW<(l0.length:Int)
    ·rw[if_pos c4] at H;have mO:decide (aW<(l0.length:Int))=true:=decide_eq_true c4;clear c4;by_cases c5:0≤aW
     ·rw[if_pos c5] at H;have ER:decide (0≤aW)=true:=decide_eq_true c5;clear c5
      by_cases c6:aW<(l1.length:Int)
      ·rw[if_pos c6] at H;have OD:decide (aW<(l1.length:Int))=true:=decide_eq_true c6;clear c6;replace H:=Option.bind_eq_some_iff.mp H;obtain⟨X7,A70,H⟩:=H;replace H:(if X7=true then (aM.l0 k1 l0 l1 (wrap64 (aW+1))) else (some false))=some r:=H;have A7:=ah.mk A70;clear A70;by_cases c8:X7=true
       ·subst c8
        have H1:(aM.l0 k1 l0 l1 (wrap64 (aW+1)))=some r:=by rw[if_pos rfl] at H;exact H
        clear H;have H:=H1;clear H1;have H':=ah.mk H;clear H
        try go_wp2
        have eF:=ah.mk (aA HB.out);clear HB;have HB:=eF;clear eF;have O7:0≤(aW:Int):=of_decide_eq_true (by first|(with_reducible assumption)|assumption);have O8:aW<(l0.length:Int):=of_decide_eq_true (by first|(with_reducible assumption)|assumption);obtain⟨lQ,Fb,Fe,Fg,Fh,e245,oz,oC,oD,oF,oG,oH,Ao,Aq,Aw,Ay⟩:=uQ pQ.out aW O7 O8;have qM:=oH;have qN:=oG;have qO:=oF;have qP:=oD;have qQ:=oC;have qR:=oz;cases e245;replace oz:=(HB.out.cell (World.block_lt_of_cell? w _ oz)).trans oz;replace oC:=(HB.out.cell (World.block_lt_of_cell? w _ oC)).trans oC;replace oD:=(HB.out.cell (World.block_lt_of_cell? w _ oD)).trans oD;replace oF:=(HB.out.cell (World.block_lt_of_cell? w _ oF)).trans oF;replace oG:=(HB.out.cell (World.block_lt_of_cell? w _ oG)).trans oG;replace oH:=(HB.out.cell (World.block_lt_of_cell? w _ oH)).trans oH;have Az:=ah.mk Aq;have Kz:=ah.mk Ao;clear Aq Ao;have AA:=ah.mk Ay;have KA:=ah.mk Aw;clear Ay Aw;replace O7:=eq_true O7;replace O8:=eq_true O8;have O9:0≤(aW:Int):=of_decide_eq_true (by first|(with_reducible assumption)|assumption);have Pb:aW<(l1.length:Int):=of_decide_eq_true (by first|(with_reducible assumption)|assumption);obtain⟨lS,Fj,Fq,Fu,Fv,e246,oI,oJ,oK,oL,oM,oN,AB,AJ,AL,AO⟩:=uQ HR1.out aW O9 Pb;have qU:=oN;have qV:=oM;have qW:=oL;have qX:=oK;have qY:=oJ;have qZ:=oI;cases e246;replace oI:=(HB.out.cell (World.block_lt_of_cell? w _ oI)).trans oI;replace oJ:=(HB.out.cell (World.block_lt_of_cell? w _ oJ)).trans oJ;replace oK:=(HB.out.cell (World.block_lt_of_cell? w _ oK)).trans oK;replace oL:=(HB.out.cell (World.block_lt_of_cell? w _ oL)).trans oL;replace oM:=(HB.out.cell (World.block_lt_of_cell? w _ oM)).trans oM;replace oN:=(HB.out.cell (World.block_lt_of_cell? w _ oN)).trans oN;have AP:=ah.mk AJ;have KC:=ah.mk AB;clear AJ AB;have AQ:=ah.mk AO;have KD:=ah.mk AL;clear AO AL;replace O9:=eq_true O9;replace Pb:=eq_true Pb
        refine kW (n:=10) (S:=fun w'=>w'.cell? (lQ.add ((aW).toNat*6))=some (.int .i64 ((aI l0 aW).f0))∧w'.cell? ⟨(lQ.add ((aW).toNat*6)).block,(lQ.add ((aW).toNat*6)).off+1,none⟩=some (.string ((aI l0 aW).f1))∧w'.cell? ⟨(lQ.add ((aW).toNat*6)).block,(lQ.add ((aW).toNat*6)).off+2,none⟩=some (.string ((aI l0 aW).f2))∧w'.cell? ⟨(lQ.add ((aW).toNat*6)).block,(lQ.add ((aW).toNat*6)).off+3,none⟩=some (.int .i64 ((aI l0 aW).f3))∧w'.cell? ⟨(lQ.add ((aW).toNat*6)).block,(lQ.add ((aW).toNat*6)).off+4,none⟩=some (.slice Fb ((aI l0 aW).f4).length Fe)∧w'.cell? ⟨(lQ.add ((aW).toNat*6)).block,(lQ.add ((aW).toNat*6)).off+5,none⟩=some (.slice Fg ((aI l0 aW).f5).length Fh)∧w'.cell? (lS.add ((aW).toNat*6))=some (.int .i64 ((aI l1 aW).f0))∧w'.cell? ⟨(lS.add ((aW).toNat*6)).block,(lS.add ((aW).toNat*6)).off+1,none⟩=some (.string ((aI l1 aW).f1))∧w'.cell? ⟨(lS.add ((aW).toNat*6)).block,(lS.add ((aW).toNat*6)).off+2,none⟩=some (.string ((aI l1 aW).f2))∧w'.cell? ⟨(lS.add ((aW).toNat*6)).block,(lS.add ((aW).toNat*6)).off+3,none⟩=some (.int .i64 ((aI l1 aW).f3))∧w'.cell? ⟨(lS.add ((aW).toNat*6)).block,(lS.add ((aW).toNat*6)).off+4,none⟩=some (.slice Fj ((aI l1 aW).f4).length Fq)∧w'.cell? ⟨(lS.add ((aW).toNat*6)).block,(lS.add ((aW).toNat*6)).off+5,none⟩=some (.slice Fu ((aI l1 aW).f5).length Fv)) (ds:=[]) #[false,false,false,false,false,false,false,false,false,false] (by kernel_rfl) rfl rfl ⟨((HB.out.cell (World.block_lt_of_cell? w _ qR)).trans qR),((HB.out.cell (World.block_lt_of_cell? w _ qQ)).trans qQ),((HB.out.cell (World.block_lt_of_cell? w _ qP)).trans qP),((HB.out.cell (World.block_lt_of_cell? w _ qO)).trans qO),((HB.out.cell (World.block_lt_of_cell? w _ qN)).trans qN),((HB.out.cell (World.block_lt_of_cell? w _ qM)).trans qM),((HB.out.cell (World.block_lt_of_cell? w _ qZ)).trans qZ),((HB.out.cell (World.block_lt_of_cell? w _ qY)).trans qY),((HB.out.cell (World.block_lt_of_cell? w _ qX)).trans qX),((HB.out.cell (World.block_lt_of_cell? w _ qW)).trans qW),((HB.out.cell (World.block_lt_of_cell? w _ qV)).trans qV),((HB.out.cell (World.block_lt_of_cell? w _ qU)).trans qU)⟩ (fun hHeld=>?_);refine xP aM.afh aM.aas (fun su Va=>?_);generalize wr.drew=w9 at HB Az AA AP AQ oz oC oD oF oG oH oI oJ oK oL oM oN hHeld ⊢;refine bA (i:=0) (N:=some 17) (v:=?_) (a':=?_) #[true,false,false,false,false,false,false,false,false,false] rfl rfl (jd su.out (by kernel_rfl)) (fun _ _ _ h=>h) (Or.inl ⟨by rfl,?_⟩) ?_ ?_;rotate_left
        ·intro w'
         go_simp
         with_reducible rfl
        rotate_left
        ·simp only[Act.put,aYa,aYb,aYc,aG,aH];rfl
        refine bA (i:=1) (N:=some 18) (v:=?_) (a':=?_) #[true,true,false,false,false,false,false,false,false,false] rfl rfl (jd su.out (by kernel_rfl)) (fun _ _ _ h=>h) (Or.inl ⟨by rfl,?_⟩) ?_ ?_;rotate_left
        ·intro w'
         go_simp
         with_reducible rfl
        rotate_left
        ·simp only[Act.put,aYa,aYb,aYc,aG,aH];rfl
        refine bA (i:=2) (N:=some 19) (v:=?_) (a':=?_) #[true,true,true,false,false,false,false,false,false,false] rfl rfl (jd su.out (by kernel_rfl)) (fun _ _ _ h=>h) (Or.inl ⟨by rfl,?_⟩) ?_ ?_;rotate_left
        ·intro w'
         go_simp
         with_reducible rfl
        rotate_left
        ·simp only[Act.put,aYa,aYb,aYc,aG,aH];rfl
        refine bA (i:=4) (N:=some 21) (v:=?_) (a':=?_) #[true,true,true,false,true,false,false,false,false,false] rfl rfl (jd su.out (by kernel_rfl)) (fun _ _ _ h=>h) (Or.inl ⟨by rfl,?_⟩) ?_ ?_;rotate_left
        ·intro w'
         go_simp
         with_reducible rfl
        rotate_left
        ·simp only[Act.put,aYa,aYb,aYc,aG,aH];rfl
        refine bA (i:=5) (N:=some 22) (v:=?_) (a':=?_) #[true,true,true,false,true,true,false,false,false,false] rfl rfl (jd su.out (by kernel_rfl)) (fun _ _ _ h=>h) (Or.inl ⟨by rfl,?_⟩) ?_ ?_;rotate_left
        ·intro w'
         go_simp
         with_reducible rfl
        rotate_left
        ·simp only[Act.put,aYa,aYb,aYc,aG,aH];rfl
        refine bA (i:=6) (N:=some 23) (v:=?_) (a':=?_) #[true,true,true,false,true,true,true,false,false,false] rfl rfl (jd su.out (by kernel_rfl)) (fun _ _ _ h=>h) (Or.inl ⟨by rfl,?_⟩) ?_ ?_;rotate_left
        ·intro w'
         go_simp
         with_reducible rfl
        rotate_left
        ·simp only[Act.put,aYa,aYb,aYc,aG,aH];rfl
        refine dM (i:=3) (N:=some 20) (v:=?_) (a':=?_) #[true,true,true,true,true,true,true,false,false,false] rfl rfl (qc su.out Va.out (by kernel_rfl)) (fun _ _ _ h=>h) (Or.inl ⟨by rfl,?_⟩) hHeld ?_ ?_;rotate_left
        ·rintro w' ⟨s0,s1,s2,s3,s4,s5,s6,s7,s8,s9,s10,s11⟩
         go_simp
         with_reducible rfl
        rotate_left
        ·simp only[Act.put,aYa,aYb,aYc,aG,aH];rfl
        refine dM (i:=7) (N:=some 24) (v:=?_) (a':=?_) #[true,true,true,true,true,true,true,true,false,false] rfl rfl (qc su.out Va.out (by kernel_rfl)) (fun _ _ _ h=>h) (Or.inl ⟨by rfl,?_⟩) hHeld ?_ ?_;rotate_left
        ·rintro w' ⟨s0,s1,s2,s3,s4,s5,s6,s7,s8,s9,s10,s11⟩
         go_simp
         with_reducible rfl
        rotate_left
        ·simp only[Act.put,aYa,aYb,aYc,aG,aH];rfl
        refine kg (i:=8) (N:=some 25) #[true,true,true,true,true,true,true,true,true,false] rfl rfl (wU su.out (by kernel_rfl)) (by decide) (fun K hK=>?_);refine mq Tryz.func34 (by kernel_rfl) rfl #[.agg #[.int .i64 ((aI l0 aW).f0),.string ((aI l0 aW).f1),.string ((aI l0 aW).f2),.int .i64 ((aI l0 aW).f3),.slice Fb ((aI l0 aW).f4).length Fe,.slice Fg ((aI l0 aW).f5).length Fh],.agg #[.int .i64 ((aI l1 aW).f0),.string ((aI l1 aW).f1),.string ((aI l1 aW).f2),.int .i64 ((aI l1 aW).f3),.slice Fj ((aI l1 aW).f4).length Fq,.slice Fu ((aI l1 aW).f5).length Fv]] (by rfl) rfl rfl (by (try simp only[List.map_toArray,List.map_cons,List.map_nil]);first|done|rfl|(simp only[List.length_drop,List.length_take];rfl)) ?_
        with_reducible refine (bJ.calls ((aI l0 aW).f0) ((aI l0 aW).f1) ((aI l0 aW).f2) ((aI l0 aW).f3) _ _ ((aI l0 aW).f4) _ _ ((aI l0 aW).f5) ((aI l1 aW).f0) ((aI l1 aW).f1) ((aI l1 aW).f2) ((aI l1 aW).f3) _ _ ((aI l1 aW).f4) _ _ ((aI l1 aW).f5) true _ ?iW ?iX ?rZ ?r9 ?E5 ?E8 ?E9 ?Fa A7.out).mono ?_
        (case iW=>repeat (first|exact (Kd.aC Az.out HB.out)|(with_reducible refine Kd.dW ?_ _)|(with_reducible refine Kd.dL ?_ _)|(with_reducible refine Kd.fV ?_)))
        (case iX=>exact Kz.out)
        (case rZ=>repeat (first|exact (Kd.aC AA.out HB.out)|(with_reducible refine Kd.dW ?_ _)|(with_reducible refine Kd.dL ?_ _)|(with_reducible refine Kd.fV ?_)))
        (case r9=>exact KA.out)
        (case E5=>repeat (first|exact (Kd.aC AP.out HB.out)|(with_reducible refine Kd.dW ?_ _)|(with_reducible refine Kd.dL ?_ _)|(with_reducible refine Kd.fV ?_)))
        (case E8=>exact KC.out)
        (case E9=>repeat (first|exact (Kd.aC AQ.out HB.out)|(with_reducible refine Kd.dW ?_ _)|(with_reducible refine Kd.dL ?_ _)|(with_reducible refine Kd.fV ?_)))
        (case Fa=>exact KD.out)
        rintro e IK ⟨rfl,hb⟩;refine⟨_,rfl,?_⟩;have eF:=ah.mk (bM (by repeat (first|(with_reducible first|exact HB.out|apply ay|apply au|apply aA)|exact HB.out)) hb);clear HB;have HB:=eF;clear eF
        (try clear hb)
        (try clear hb2)
        (try clear hk)
        (try clear hi)
        refine hK.out _ _ ⟨((HB.out.cell (World.block_lt_of_cell? w _ qR)).trans qR),((HB.out.cell (World.block_lt_of_cell? w _ qQ)).trans qQ),((HB.out.cell (World.block_lt_of_cell? w _ qP)).trans qP),((HB.out.cell (World.block_lt_of_cell? w _ qO)).trans qO),((HB.out.cell (World.block_lt_of_cell? w _ qN)).trans qN),((HB.out.cell (World.block_lt_of_cell? w _ qM)).trans qM),((HB.out.cell (World.block_lt_of_cell? w _ qZ)).trans qZ),((HB.out.cell (World.block_lt_of_cell? w _ qY)).trans qY),((HB.out.cell (World.block_lt_of_cell? w _ qX)).trans qX),((HB.out.cell (World.block_lt_of_cell? w _ qW)).trans qW),((HB.out.cell (World.block_lt_of_cell? w _ qV)).trans qV),((HB.out.cell (World.block_lt_of_cell? w _ qU)).trans qU)⟩ (fun hHeld=>?_);clear hK K;refine eB (a':=?_) ?_ ?_;rotate_left
        ·show Act.put _ (some 25) _=_
         simp only[Act.put,aYa,aYb,aYc,aG,aH];rfl
        refine bA (i:=9) (N:=some 26) (v:=?_) (a':=?_) #[true,true,true,true,true,true,true,true,true,true] rfl rfl (jd su.out (by kernel_rfl)) (fun _ _ _ h=>h) (Or.inl ⟨by rfl,?_⟩) ?_ ?_;rotate_left
        ·intro w'
         go_simp
         with_reducible rfl
        rotate_left
        ·simp only[Act.put,aYa,aYb,aYc,aG,aH];rfl
        refine ku (DU su.out (by kernel_rfl)) ?_
        try go_wp2
        go_roundg k1
        case measure=>have:=jC.out;omega
        case rel=>exact⟨(wrap64 (aW+1)),(by first|rfl|(simp;done)|(simp[*];done)),H',⟨by have:=jC.out;omega⟩,⟨by repeat (first|(with_reducible first|exact HB.out|apply ay|apply au|apply aA)|exact HB.out)⟩⟩
       ·replace c8:=Bool.eq_false_iff.mpr c8;subst c8
        have H1:(some false)=some r:=by rw[if_neg (show ¬(false=true) by decide)] at H;exact H
        clear H;have H:=H1;clear H1;obtain rfl:=Option.some.inj H
        try go_wp2
        have eF:=ah.mk (aA HB.out);clear HB;have HB:=eF;clear eF;have O7:0≤(aW:Int):=of_decide_eq_true (by first|(with_reducible assumption)|assumption);have O8:aW<(l0.length:Int):=of_decide_eq_true (by first|(with_reducible assumption)|assumption);obtain⟨lQ,Fb,Fe,Fg,Fh,e245,oz,oC,oD,oF,oG,oH,Ao,Aq,Aw,Ay⟩:=uQ pQ.out aW O7 O8;have qM:=oH;have qN:=oG;have qO:=oF;have qP:=oD;have qQ:=oC;have qR:=oz;cases e245;replace oz:=(HB.out.cell (World.block_lt_of_cell? w _ oz)).trans oz;replace oC:=(HB.out.cell (World.block_lt_of_cell? w _ oC)).trans oC;replace oD:=(HB.out.cell (World.block_lt_of_cell? w _ oD)).trans oD;replace oF:=(HB.out.cell (World.block_lt_of_cell? w _ oF)).trans oF;replace oG:=(HB.out.cell (World.block_lt_of_cell? w _ oG)).trans oG;replace oH:=(HB.out.cell (World.block_lt_of_cell? w _ oH)).trans oH;have Az:=ah.mk Aq;have Kz:=ah.mk Ao;clear Aq Ao;have AA:=ah.mk Ay;have KA:=ah.mk Aw;clear Ay Aw;replace O7:=eq_true O7;replace O8:=eq_true O8;have O9:0≤(aW:Int):=of_decide_eq_true (by first|(with_reducible assumption)|assumption);have Pb:aW<(l1.length:Int):=of_decide_eq_true (by first|(with_reducible assumption)|assumption);obtain⟨lS,Fj,Fq,Fu,Fv,e246,oI,oJ,oK,oL,oM,oN,AB,AJ,AL,AO⟩:=uQ HR1.out aW O9 Pb;have qU:=oN;have qV:=oM;have qW:=oL;have qX:=oK;have qY:=oJ;have qZ:=oI;cases e246;replace oI:=(HB.out.cell (World.block_lt_of_cell? w _ oI)).trans oI;replace oJ:=(HB.out.cell (World.block_lt_of_cell? w _ oJ)).trans oJ;replace oK:=(HB.out.cell (World.block_lt_of_cell? w _ oK)).trans oK;replace oL:=(HB.out.cell (World.block_lt_of_cell? w _ oL)).trans oL;replace oM:=(HB.out.cell (World.block_lt_of_cell? w _ oM)).trans oM;replace oN:=(HB.out.cell (World.block_lt_of_cell? w _ oN)).trans oN;have AP:=ah.mk AJ;have KC:=ah.mk AB;clear AJ AB;have AQ:=ah.mk AO;have KD:=ah.mk AL;clear AO AL;replace O9:=eq_true O9;replace Pb:=eq_true Pb
        refine kW (n:=10) (S:=fun w'=>w'.cell? (lQ.add ((aW).toNat*6))=some (.int .i64 ((aI l0 aW).f0))∧w'.cell? ⟨(lQ.add ((aW).toNat*6)).block,(lQ.add ((aW).toNat*6)).off+1,none⟩=some (.string ((aI l0 aW).f1))∧w'.cell? ⟨(lQ.add ((aW).toNat*6)).block,(lQ.add ((aW).toNat*6)).off+2,none⟩=some (.string ((aI l0 aW).f2))∧w'.cell? ⟨(lQ.add ((aW).toNat*6)).block,(lQ.add ((aW).toNat*6)).off+3,none⟩=some (.int .i64 ((aI l0 aW).f3))∧w'.cell? ⟨(lQ.add ((aW).toNat*6)).block,(lQ.add ((aW).toNat*6)).off+4,none⟩=some (.slice Fb ((aI l0 aW).f4).length Fe)∧w'.cell? ⟨(lQ.add ((aW).toNat*6)).block,(lQ.add ((aW).toNat*6)).off+5,none⟩=some (.slice Fg ((aI l0 aW).f5).length Fh)∧w'.cell? (lS.add ((aW).toNat*6))=some (.int .i64 ((aI l1 aW).f0))∧w'.cell? ⟨(lS.add ((aW).toNat*6)).block,(lS.add ((aW).toNat*6)).off+1,none⟩=some (.string ((aI l1 aW).f1))∧w'.cell? ⟨(lS.add ((aW).toNat*6)).block,(lS.add ((aW).toNat*6)).off+2,none⟩=some (.string ((aI l1 aW).f2))∧w'.cell? ⟨(lS.add ((aW).toNat*6)).block,(lS.add ((aW).toNat*6)).off+3,none⟩=some (.int .i64 ((aI l1 aW).f3))∧w'.cell? ⟨(lS.add ((aW).toNat*6)).block,(lS.add ((aW).toNat*6)).off+4,none⟩=some (.slice Fj ((aI l1 aW).f4).length Fq)∧w'.cell? ⟨(lS.add ((aW).toNat*6)).block,(lS.add ((aW).toNat*6)).off+5,none⟩=some (.slice Fu ((aI l1 aW).f5).length Fv)) (ds:=[]) #[false,false,false,false,false,false,false,false,false,false] (by kernel_rfl) rfl rfl ⟨((HB.out.cell (World.block_lt_of_cell? w _ qR)).trans qR),((HB.out.cell (World.block_lt_of_cell? w _ qQ)).trans qQ),((HB.out.cell (World.block_lt_of_cell? w _ qP)).trans qP),((HB.out.cell (World.block_lt_of_cell? w _ qO)).trans qO),((HB.out.cell (World.block_lt_of_cell? w _ qN)).trans qN),((HB.out.cell (World.block_lt_of_cell? w _ qM)).trans qM),((HB.out.cell (World.block_lt_of_cell? w _ qZ)).trans qZ),((HB.out.cell (World.block_lt_of_cell? w _ qY)).trans qY),((HB.out.cell (World.block_lt_of_cell? w _ qX)).trans qX),((HB.out.cell (World.block_lt_of_cell? w _ qW)).trans qW),((HB.out.cell (World.block_lt_of_cell? w _ qV)).trans qV),((HB.out.cell (World.block_lt_of_cell? w _ qU)).trans qU)⟩ (fun hHeld=>?_);refine xP aM.afh aM.aas (fun su Va=>?_);generalize wr.drew=BO at HB Az AA AP AQ oz oC oD oF oG oH oI oJ oK oL oM oN hHeld ⊢;refine bA (i:=0) (N:=some 17) (v:=?_) (a':=?_) #[true,false,false,false,false,false,false,false,false,false] rfl rfl (jd su.out (by kernel_rfl)) (fun _ _ _ h=>h) (Or.inl ⟨by rfl,?_⟩) ?_ ?_;rotate_left
        ·intro w'
         go_simp
         with_reducible rfl
        rotate_left
        ·simp only[Act.put,aYa,aYb,aYc,aG,aH];rfl
        refine bA (i:=1) (N:=some 18) (v:=?_) (a':=?_) #[true,true,false,false,false,false,false,false,false,false] rfl rfl (jd su.out (by kernel_rfl)) (fun _ _ _ h=>h) (Or.inl ⟨by rfl,?_⟩) ?_ ?_;rotate_left
        ·intro w'
         go_simp
         with_reducible rfl
        rotate_left
        ·simp only[Act.put,aYa,aYb,aYc,aG,aH];rfl
        refine bA (i:=2) (N:=some 19) (v:=?_) (a':=?_) #[true,true,true,false,false,false,false,false,false,false] rfl rfl (jd su.out (by kernel_rfl)) (fun _ _ _ h=>h) (Or.inl ⟨by rfl,?_⟩) ?_ ?_;rotate_left
        ·intro w'
         go_simp
         with_reducible rfl
        rotate_left
        ·simp only[Act.put,aYa,aYb,aYc,aG,aH];rfl
        refine bA (i:=4) (N:=some 21) (v:=?_) (a':=?_) #[true,true,true,false,true,false,false,false,false,false] rfl rfl (jd su.out (by kernel_rfl)) (fun _ _ _ h=>h) (Or.inl ⟨by rfl,?_⟩) ?_ ?_;rotate_left
        ·intro w'
         go_simp
         with_reducible rfl
        rotate_left
        ·simp only[Act.put,aYa,aYb,aYc,aG,aH];rfl
        refine bA (i:=5) (N:=some 22) (v:=?_) (a':=?_) #[true,true,true,false,true,true,false,false,false,false] rfl rfl (jd su.out (by kernel_rfl)) (fun _ _ _ h=>h) (Or.inl ⟨by rfl,?_⟩) ?_ ?_;rotate_left
        ·intro w'
         go_simp
         with_reducible rfl
        rotate_left
        ·simp only[Act.put,aYa,aYb,aYc,aG,aH];rfl
        refine bA (i:=6) (N:=some 23) (v:=?_) (a':=?_) #[true,true,true,false,true,true,true,false,false,false] rfl rfl (jd su.out (by kernel_rfl)) (fun _ _ _ h=>h) (Or.inl ⟨by rfl,?_⟩) ?_ ?_;rotate_left
        ·intro w'
         go_simp
         with_reducible rfl
        rotate_left
        ·simp only[Act.put,aYa,aYb,aYc,aG,aH];rfl
        refine dM (i:=3) (N:=some 20) (v:=?_) (a':=?_) #[true,true,true,true,true,true,true,false,false,false] rfl rfl (qc su.out Va.out (by kernel_rfl)) (fun _ _ _ h=>h) (Or.inl ⟨by rfl,?_⟩) hHeld ?_ ?_;rotate_left
        ·rintro w' ⟨s0,s1,s2,s3,s4,s5,s6,s7,s8,s9,s10,s11⟩
         go_simp
         with_reducible rfl
        rotate_left
        ·simp only[Act.put,aYa,aYb,aYc,aG,aH];rfl
        refine dM (i:=7) (N:=some 24) (v:=?_) (a':=?_) #[true,true,true,true,true,true,true,true,false,false] rfl rfl (qc su.out Va.out (by kernel_rfl)) (fun _ _ _ h=>h) (Or.inl ⟨by rfl,?_⟩) hHeld ?_ ?_;rotate_left
        ·rintro w' ⟨s0,s1,s2,s3,s4,s5,s6,s7,s8,s9,s10,s11⟩
         go_simp
         with_reducible rfl
        rotate_left
        ·simp only[Act.put,aYa,aYb,aYc,aG,aH];rfl
        refine kg (i:=8) (N:=some 25) #[true,true,true,true,true,true,true,true,true,false] rfl rfl (wU su.out (by kernel_rfl)) (by decide) (fun K hK=>?_);refine mq Tryz.func34 (by kernel_rfl) rfl #[.agg #[.int .i64 ((aI l0 aW).f0),.string ((aI l0 aW).f1),.string ((aI l0 aW).f2),.int .i64 ((aI l0 aW).f3),.slice Fb ((aI l0 aW).f4).length Fe,.slice Fg ((aI l0 aW).f5).length Fh],.agg #[.int .i64 ((aI l1 aW).f0),.string ((aI l1 aW).f1),.string ((aI l1 aW).f2),.int .i64 ((aI l1 aW).f3),.slice Fj ((aI l1 aW).f4).length Fq,.slice Fu ((aI l1 aW).f5).length Fv]] (by rfl) rfl rfl (by (try simp only[List.map_toArray,List.map_cons,List.map_nil]);first|done|rfl|(simp only[List.length_drop,List.length_take];rfl)) ?_
        with_reducible refine (bJ.calls ((aI l0 aW).f0) ((aI l0 aW).f1) ((aI l0 aW).f2) ((aI l0 aW).f3) _ _ ((aI l0 aW).f4) _ _ ((aI l0 aW).f5) ((aI l1 aW).f0) ((aI l1 aW).f1) ((aI l1 aW).f2) ((aI l1 aW).f3) _ _ ((aI l1 aW).f4) _ _ ((aI l1 aW).f5) false _ ?iW ?iX ?rZ ?r9 ?E5 ?E8 ?E9 ?Fa A7.out).mono ?_
        (case iW=>repeat (first|exact (Kd.aC Az.out HB.out)|(with_reducible refine Kd.dW ?_ _)|(with_reducible refine Kd.dL ?_ _)|(with_reducible refine Kd.fV ?_)))
        (case iX=>exact Kz.out)
        (case rZ=>repeat (first|exact (Kd.aC AA.out HB.out)|(with_reducible refine Kd.dW ?_ _)|(with_reducible refine Kd.dL ?_ _)|(with_reducible refine Kd.fV ?_)))
        (case r9=>exact KA.out)
        (case E5=>repeat (first|exact (Kd.aC AP.out HB.out)|(with_reducible refine Kd.dW ?_ _)|(with_reducible refine Kd.dL ?_ _)|(with_reducible refine Kd.fV ?_)))
        (case E8=>exact KC.out)
        (case E9=>repeat (first|exact (Kd.aC AQ.out HB.out)|(with_reducible refine Kd.dW ?_ _)|(with_reducible refine Kd.dL ?_ _)|(with_reducible refine Kd.fV ?_)))
        (case Fa=>exact KD.out)
        rintro e LZ ⟨rfl,hb⟩;refine⟨_,rfl,?_⟩;have eF:=ah.mk (bM (by repeat (first|(with_reducible first|exact HB.out|apply ay|apply au|apply aA)|exact HB.out)) hb);clear HB;have HB:=eF;clear eF
        (try clear hb)
        (try clear hb2)
        (try clear hk)
        (try clear hi)
        refine hK.out _ _ ⟨((HB.out.cell (World.block_lt_of_cell? w _ qR)).trans qR),((HB.out.cell (World.block_lt_of_cell? w _ qQ)).trans qQ),((HB.out.cell (World.block_lt_of_cell? w _ qP)).trans qP),((HB.out.cell (World.block_lt_of_cell? w _ qO)).trans qO),((HB.out.cell (World.block_lt_of_cell? w _ qN)).trans qN),((HB.out.cell (World.block_lt_of_cell? w _ qM)).trans qM),((HB.out.cell (World.block_lt_of_cell? w _ qZ)).trans qZ),((HB.out.cell (World.block_lt_of_cell? w _ qY)).trans qY),((HB.out.cell (World.block_lt_of_cell? w _ qX)).trans qX),((HB.out.cell (World.block_lt_of_cell? w _ qW)).trans qW),((HB.out.cell (World.block_lt_of_cell? w _ qV)).trans qV),((HB.out.cell (World.block_lt_of_cell? w _ qU)).trans qU)⟩ (fun hHeld=>?_);clear hK K;refine eB (a':=?_) ?_ ?_;rotate_left
        ·show Act.put _ (some 25) _=_
         simp only[Act.put,aYa,aYb,aYc,aG,aH];rfl
        refine bA (i:=9) (N:=some 26) (v:=?_) (a':=?_) #[true,true,true,true,true,true,true,true,true,true] rfl rfl (jd su.out (by kernel_rfl)) (fun _ _ _ h=>h) (Or.inl ⟨by rfl,?_⟩) ?_ ?_;rotate_left
        ·intro w'
         go_simp
         with_reducible rfl
        rotate_left
        ·simp only[Act.put,aYa,aYb,aYc,aG,aH];rfl
        refine ku (DU su.out (by kernel_rfl)) ?_
        try go_wp2
        go_ret
        exact⟨by first|rfl|(simp[aU,aV] <;> rfl)|(simp[*,aU,aV] <;> rfl),by repeat (first|(with_reducible first|exact HB.out|apply ay|apply au|apply aA)|exact HB.out)⟩
      ·rw[if_neg c6] at H;exact absurd H (by simp)
     ·rw[if_neg c5] at H;exact absurd H (by simp)
    ·rw[if_neg c4] at H;have mO:decide (aW<(l0.length:Int))=false:=decide_eq_false c4;clear c4;obtain rfl:=Option.some.inj H
     go_wp2
     go_ret
     exact⟨by first|rfl|(simp[aU,aV] <;> rfl)|(simp[*,aU,aV] <;> rfl),by repeat (first|(with_reducible first|exact HB.out|apply ay|apply au|apply aA)|exact HB.out)⟩
 ·rw[if_neg c3] at H;have ou:((l0.length:Int) == (l1.length:Int))=false:=beq_eq_false_iff_ne.mpr c3;have zh:((l0.length:Int) != (l1.length:Int))=true:=bne_iff_ne.mpr c3
  have U1:(l0.length == l1.length)=false:=by first|simpa using c3|(simp at c3 ⊢;omega)
  obtain rfl:=Option.some.inj H
  go_enter Tryz.func24,Tryz.ntmps24
  go_wp2
  go_ret
  exact⟨by first|rfl|(simp[aU,aV] <;> rfl)|(simp[*,aU,aV] <;> rfl),by repeat (first|(with_reducible first|exact HB.out|apply ay|apply au|apply aA)|exact HB.out)⟩
end Go.Proofs.YtknihldkhedpkaaGreatDoor.PT
end
section
namespace Go.Proofs.YtknihldkhedpkaaGreatDoor
open Go.RowKit Go.Lib
open Go.Proofs.YtknihldkhedpkaaGreatDoorW.PrintWords Go.Proofs.YtknihldkhedpkaaGreatDoorW.PrintLast Go.Proofs.YtknihldkhedpkaaGreatDoor.PT
structure Came (l:List It):Prop where
 n:l.length<1466015503701
 r:∀x∈l,x.f4.length<8796093022208
 fit:∀x∈l,Fit x
theorem Came.all {l:List It} (h:Came l):l.all lW=true:=List.all_eq_true.2 (fun x hx=>QM (h.fit x hx))
theorem Came.nil:Came []:=⟨by decide,fun _ h=>absurd h List.not_mem_nil,fun _ h=>absurd h List.not_mem_nil⟩
theorem Ck {α:Type} (l:List α) (i:Nat) (h:i<l.length):l.take i++[l[i]]=l.take (i+1):=(List.take_succ_eq_append_getElem h).symm
theorem yG (l:List Ru) (hl:l.length<8796093022208):∀(d i:Nat),i+d=l.length→Ev (fun k=>aT.l0 k l (l.take i) (i:Int)) l
 | 0,i,h=>by
  refine Ev.step (fun k=>?_) (Ev.now _);rw[aT.l0,if_neg (by omega),List.take_of_length_le (by omega)]
 | d+1,i,h=>by
  have hi:i<l.length:=by omega
  refine Ev.step (fun k=>?_) (yG l hl d (i+1) (by omega));rw[aT.l0,if_pos (by omega),if_pos (by omega),if_pos (by rw[List.length_take];omega),xQ l i hi,sS (by omega)];rw[show ([⟨l[i].f0,l[i].f1⟩]:List Ru)=[l[i]] from rfl,Ck l i hi]
theorem MU (l:List Ru) (hl:l.length<8796093022208):Ev (fun k=>aT.f k l) l:=yG l hl l.length 0 (by omega)
theorem Jm (l:List Int) (hl:l.length<140737488355328):∀(d i:Nat),i+d=l.length→Ev (fun k=>aR.l0 k l (l.take i) (i:Int)) l
 | 0,i,h=>by
  refine Ev.step (fun k=>?_) (Ev.now _);rw[aR.l0,if_neg (by omega),List.take_of_length_le (by omega)]
 | d+1,i,h=>by
  have hi:i<l.length:=by omega
  refine Ev.step (fun k=>?_) (Jm l hl d (i+1) (by omega));rw[aR.l0,if_pos (by omega),if_pos (by omega),if_pos (by rw[List.length_take];omega),LH l i hi,sS (by omega),Ck l i hi]
theorem KE (l:List Int) (hl:l.length<140737488355328):Ev (fun k=>aR.f k l) l:=Jm l hl l.length 0 (by omega)
theorem MV (x:It) (hx:Fit x) (hr:x.f4.length<8796093022208):Ev (fun k=>bX.f k x.f0 x.f1 x.f2 x.f3 x.f4 x.f5) (x.f0,x.f1,x.f2,x.f3,x.f4,x.f5) :=
 Ev.bind (MU x.f4 hr) (Ev.bind (KE x.f5 (by have:=hx.d;omega)) (Ev.now _))
theorem Rv (xs:List It) (i:Nat) (h:i<xs.length):aI xs (i:Int)=xs[i]:=by simp[aI,h]
theorem Fw (l:List It) (hc:Came l):∀(d i:Nat),i+d=l.length→Ev (fun k=>bn.l0 k l (l.take i) (i:Int)) l
 | 0,i,h=>by
  refine Ev.step (fun k=>?_) (Ev.now _);rw[bn.l0,if_neg (by omega),List.take_of_length_le (by omega)]
 | d+1,i,h=>by
  have hi:i<l.length:=by omega
  have hn:=hc.n;have hm:=List.getElem_mem hi;refine Ev.step (f:=fun k=>(bX.f k l[i].f0 l[i].f1 l[i].f2 l[i].f3 l[i].f4 l[i].f5).bind fun bt=>bn.l0 k l (l.take i++[⟨bt.1,bt.2.1,bt.2.2.1,bt.2.2.2.1,bt.2.2.2.2.1,bt.2.2.2.2.2⟩]) ((i+1:Nat):Int)) (fun k=>?_) ?_
  ·rw[bn.l0,if_pos (by omega),if_pos (by omega),Rv l i hi,sS (by omega)]
   congr 1
   funext bt
   rw[if_pos (by rw[List.length_take];omega)]
  ·refine Ev.bind (MV l[i] (hc.fit _ hm) (hc.r _ hm)) ?_;have ih:=Fw l hc d (i+1) (by omega);rw[← Ck l i hi] at ih;exact ih
theorem MW (l:List It) (hc:Came l):Ev (fun k=>bn.f k l) l:=Fw l hc l.length 0 (by omega)
theorem Ph (x:It):EM x x=true:=by
 unfold EM;rw[decide_eq_true rfl,decide_eq_true rfl,decide_eq_true rfl,vo.2 rfl];simp
theorem MX (x:It):gG.f x.f0 x.f1 x.f2 x.f3 x.f4 x.f5 x.f0 x.f1 x.f2 x.f3 x.f4 x.f5=some true:=by
 unfold gG.f;rw[show (⟨x.f0,x.f1,x.f2,x.f3,x.f4,x.f5⟩:It)=x from rfl,Ph]
theorem yH (x:It):bJ.f x.f0 x.f1 x.f2 x.f3 x.f4 x.f5 x.f0 x.f1 x.f2 x.f3 x.f4 x.f5=some true:=by
 unfold bJ.f;rw[if_pos rfl,MX];rfl
theorem wV (l:List It) (hl:l.length<9223372036854775807):∀(d i:Nat),i+d=l.length→Ev (fun k=>aM.l0 k l l (i:Int)) true
 | 0,i,h=>Ev.step (fun k=>by rw[aM.l0,if_neg (by omega)]) (Ev.now _)
 | d+1,i,h=>by
  have hi:i<l.length:=by omega
  refine Ev.step (fun k=>?_) (wV l hl d (i+1) (by omega));rw[aM.l0,if_pos (by omega),if_pos (by omega),if_pos (by omega),Rv l i hi,yH,Option.bind_some,if_pos rfl,sS (by omega)]
theorem KF (l:List It) (hl:l.length<9223372036854775807):Ev (fun k=>aM.f k l l) true :=
 Ev.congr (fun k=>by rw[aM.f,if_pos rfl];rfl) (wV l hl l.length 0 (by omega))
theorem ab9 {l:List It} (h:Came l):iy.f l=some (cK l):=by
 unfold iy.f;rw[if_pos h.all]
theorem SK {l:List It} (h:Came l):Ev (fun k=>fI.f k l) ((cK l).2 == 0):=by
 refine Ev.bind (MW l h) ?_;refine Ev.congr (fun k=>?_) (Ev.now _);rw[ab9 h,Option.bind_some];rfl
end Go.Proofs.YtknihldkhedpkaaGreatDoor
end
