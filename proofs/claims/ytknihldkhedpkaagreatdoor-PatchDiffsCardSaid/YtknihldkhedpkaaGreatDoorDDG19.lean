import Derived.Test.YtknihldkhedpkaaGreatDoorDDG1
import Derived.Test.YtknihldkhedpkaaGreatDoorDDG18
set_option linter.all false
set_option maxHeartbeats 16000000
set_option maxRecDepth 100000
namespace Go.Proofs.YtknihldkhedpkaaGreatDoor.PT
open Go.RowKit Go.Proofs.YtknihldkhedpkaaGreatDoorW.PrintWords Go.Proofs.YtknihldkhedpkaaGreatDoorW.PrintLast Go.Proofs.YtknihldkhedpkaaGreatDoorW.PrintMore
attribute [local go_sem] kI kJ mI mJ jE jF kK kL
def bS.l0:Nat→List (kV)→ByteArray→Int→Int→ByteArray→Option (Int)
 | 0,_,_,_,_,_=>none
 | k+1,x0,x1,x5,x6,x7=>if x5<x6 then (if 0≤(wrap64 (Int.tdiv (wrap64 (x5+x6)) 2)) then (if (wrap64 (Int.tdiv (wrap64 (x5+x6)) 2))<(x0.length:Int) then ((bK.f ((aI x0 (wrap64 (Int.tdiv (wrap64 (x5+x6)) 2))).f1)).bind fun IW=>(if (Op.bytesLess IW.toList x7.toList)=true then (bS.l0 k x0 x1 (wrap64 ((wrap64 (Int.tdiv (wrap64 (x5+x6)) 2))+1)) x6 x7) else (bS.l0 k x0 x1 x5 (wrap64 (Int.tdiv (wrap64 (x5+x6)) 2)) x7))) else (none)) else (none)) else (if x5<(x0.length:Int) then (if 0≤x5 then (if ((aI x0 x5).f1).toList=x1.toList then (some x5) else (some (-1))) else (none)) else (some (-1)))
def bS.f (k:Nat) (l0:List (kV)) (a1:ByteArray):Option (Int):=(bK.f a1).bind fun yV=>(bS.l0 k l0 a1 0 (l0.length:Int) yV)
theorem bS.calls (k:Nat) (A0:Option Addr) (c0:Nat) (l0:List (kV)) (a1:ByteArray) (r:Int) (w:World) (hr0:Kd.C mV w A0 l0.length l0) (hc0:l0.length≤c0) (h:bS.f k l0 a1=some r) :
  Calls Tryz.prog 69 #[.slice A0 l0.length c0,.string a1] w fun e w'=>e=.returned (.int .i64 r)∧Below w.heap.size w w':=by
 have nC:=ah.mk hr0;have VW:=ah.mk hc0;clear hr0 hc0;have HB:=ah.mk (Below.refl w.heap.size w);have H:((bK.f a1).bind fun yV=>(bS.l0 k l0 a1 0 (l0.length:Int) yV))=some r:=h;clear h;replace H:=Option.bind_eq_some_iff.mp H;obtain⟨yV,SA,H⟩:=H;replace H:(bS.l0 k l0 a1 0 (l0.length:Int) yV)=some r:=H;have A3:=ah.mk SA;clear SA;have H':=ah.mk H;clear H
 go_enter Tryz.func69,Tryz.ntmps69
 go_wp2_with (first|((with_reducible refine fM (f:=68) rfl ?_);refine oh (some 12) rfl rfl Tryz.func68 aD rfl #[.string a1] rfl qw ?_;(with_reducible refine (bK.calls a1 yV _ A3.out).mono ?_);rintro e w4 ⟨rfl,hb⟩;refine⟨_,rfl,?_⟩;have dM:=ah.mk (bM dG hb);clear HB;have HB:=dM;clear dM;(try clear hb);(try clear hb2);(try clear hk);(try clear hi)))
 go_loopg [5,6] k (fun kq v5 v6 w'=>∃(aR:Int) (GR:Int),v5=.int .i64 aR∧v6=.int .i64 GR∧ah (bS.l0 kq l0 a1 aR GR yV=some r)∧ah (kq≤k)∧ah (Below w.heap.size w w'))
 case atStart=>exact⟨(0),((l0.length:Int)),dV,dV,H',⟨Nat.le_refl _⟩,⟨by repeat (first|(with_reducible first|exact HB.out|apply aG|apply av|apply aK)|exact HB.out)⟩⟩
 case round=>
  clear H'
  try clear p2
  obtain⟨aR,GR,rfl,rfl,HA,jH,HB⟩:=hrel
  cases gk with
  | zero=>exact absurd HA.out (by simp[bS.l0])
  | succ k1=>
   have H:=HA.out;clear HA;simp only[bS.l0] at H;by_cases c5:aR<GR
   ·rw[if_pos c5] at H;have Bg:decide (aR<GR)=true:=decide_eq_true c5;clear c5
    obtain⟨Fq,Qk⟩:∃j_:Int,(wrap64 (Int.tdiv (wrap64 (aR+GR)) 2))=j_:=⟨_,rfl⟩
    replace H:(if 0≤(Fq) then (if (Fq)<(l0.length:Int) then ((bK.f ((aI l0 (Fq)).f1)).bind fun IW=>(if (Op.bytesLess IW.toList yV.toList)=true then (bS.l0 k1 l0 a1 (wrap64 ((Fq)+1)) GR yV) else (bS.l0 k1 l0 a1 aR Fq yV))) else (none)) else (none))=some r:=by first|(rw[Qk] at H;exact H)|(simp only[Qk] at H ⊢;exact H)
    have ap0:(IntKind.i64.wrap (Int.tdiv (wrap64 (aR+GR)) 2))=Fq:=(eG _).trans Qk
    by_cases c7:0≤(Fq)
    ·rw[if_pos c7] at H;have KY:decide (0≤(Fq))=true:=decide_eq_true c7;clear c7
     by_cases c8:(Fq)<(l0.length:Int)
     ·rw[if_pos c8] at H;have U9:decide ((Fq)<(l0.length:Int))=true:=decide_eq_true c8;clear c8;replace H:=Option.bind_eq_some_iff.mp H;obtain⟨IW,A90,H⟩:=H;replace H:(if (Op.bytesLess IW.toList yV.toList)=true then (bS.l0 k1 l0 a1 (wrap64 ((Fq)+1)) GR yV) else (bS.l0 k1 l0 a1 aR Fq yV))=some r:=H;have A9:=ah.mk A90;clear A90;by_cases c10:(Op.bytesLess IW.toList yV.toList)=true
      ·rw[if_pos c10] at H;have zw:(Op.bytesLess IW.toList yV.toList)=true:=c10;clear c10;have H':=ah.mk H;clear H;have Ql:0≤((Fq):Int):=of_decide_eq_true bg;have Qm:(Fq)<(l0.length:Int):=of_decide_eq_true bg;obtain⟨ah0,aeQ,aeR,aeS,aeT,e323,vE,vF,vG,vH,vI,vJ,BJ,BK,BL,BM⟩:=jh nC.out (Fq) Ql Qm;cases e323;replace vE:=(HB.out.cell (World.block_lt_of_cell? w _ vE)).trans vE;replace vF:=(HB.out.cell (World.block_lt_of_cell? w _ vF)).trans vF;replace vG:=(HB.out.cell (World.block_lt_of_cell? w _ vG)).trans vG;replace vH:=(HB.out.cell (World.block_lt_of_cell? w _ vH)).trans vH;replace vI:=(HB.out.cell (World.block_lt_of_cell? w _ vI)).trans vI;replace vJ:=(HB.out.cell (World.block_lt_of_cell? w _ vJ)).trans vJ;have aao:=ah.mk BK;have aap:=ah.mk BJ;clear BK BJ;have aaq:=ah.mk BM;have aar:=ah.mk BL;clear BM BL;replace Ql:=eq_true Ql;replace Qm:=eq_true Qm
       go_wp2_with (first|((with_reducible refine fM (f:=68) rfl ?_);refine oh (some 25) rfl rfl Tryz.func68 aD rfl #[.string ((aI l0 (Fq)).f1)] rfl (by (try simp only[List.map_toArray,List.map_cons,List.map_nil]);first|done|(simp only[Qk];rfl)|rfl|(simp only[List.length_drop,List.length_take];rfl)) ?_;(with_reducible refine (bK.calls ((aI l0 (Fq)).f1) IW _ A9.out).mono ?_);rintro e Dq ⟨rfl,hb⟩;refine⟨_,rfl,?_⟩;have dM:=ah.mk (bM dG hb);clear HB;have HB:=dM;clear dM;(try clear hb);(try clear hb2);(try clear hk);(try clear hi)))
       go_roundg k1
       case measure=>have:=jH.out;omega
       case rel=>exact⟨(wrap64 ((Fq)+1)),(GR),(by first|rfl|(simp;done)|(simp only[← Qk] <;> (first|rfl|simp))|(simp[*];done)),dV,H',⟨by have:=jH.out;omega⟩,⟨by repeat (first|(with_reducible first|exact HB.out|apply aG|apply av|apply aK)|exact HB.out)⟩⟩
      rw[if_neg c10] at H
      have zw:(Op.bytesLess IW.toList yV.toList)=false:=by simpa using c10
      clear c10;have H':=ah.mk H;clear H;have Ql:0≤((Fq):Int):=of_decide_eq_true bg;have Qm:(Fq)<(l0.length:Int):=of_decide_eq_true bg;obtain⟨ah0,aeQ,aeR,aeS,aeT,e323,vE,vF,vG,vH,vI,vJ,BJ,BK,BL,BM⟩:=jh nC.out (Fq) Ql Qm;cases e323;replace vE:=(HB.out.cell (World.block_lt_of_cell? w _ vE)).trans vE;replace vF:=(HB.out.cell (World.block_lt_of_cell? w _ vF)).trans vF;replace vG:=(HB.out.cell (World.block_lt_of_cell? w _ vG)).trans vG;replace vH:=(HB.out.cell (World.block_lt_of_cell? w _ vH)).trans vH;replace vI:=(HB.out.cell (World.block_lt_of_cell? w _ vI)).trans vI;replace vJ:=(HB.out.cell (World.block_lt_of_cell? w _ vJ)).trans vJ;have aao:=ah.mk BK;have aap:=ah.mk BJ;clear BK BJ;have aaq:=ah.mk BM;have aar:=ah.mk BL;clear BM BL;replace Ql:=eq_true Ql;replace Qm:=eq_true Qm
      go_wp2_with (first|((with_reducible refine fM (f:=68) rfl ?_);refine oh (some 25) rfl rfl Tryz.func68 aD rfl #[.string ((aI l0 (Fq)).f1)] rfl (by (try simp only[List.map_toArray,List.map_cons,List.map_nil]);first|done|(simp only[Qk];rfl)|rfl|(simp only[List.length_drop,List.length_take];rfl)) ?_;(with_reducible refine (bK.calls ((aI l0 (Fq)).f1) IW _ A9.out).mono ?_);rintro e PS ⟨rfl,hb⟩;refine⟨_,rfl,?_⟩;have dM:=ah.mk (bM dG hb);clear HB;have HB:=dM;clear dM;(try clear hb);(try clear hb2);(try clear hk);(try clear hi)))
      go_roundg k1
      case measure=>have:=jH.out;omega
      case rel=>exact⟨(aR),(Fq),dV,(by first|rfl|(simp;done)|(simp only[← Qk] <;> (first|rfl|simp))|(simp[*];done)),H',⟨by have:=jH.out;omega⟩,⟨by repeat (first|(with_reducible first|exact HB.out|apply aG|apply av|apply aK)|exact HB.out)⟩⟩
     rw[if_neg c8] at H;exact absurd H bB
    rw[if_neg c7] at H;exact absurd H bB
   rw[if_neg c5] at H;have Bg:decide (aR<GR)=false:=decide_eq_false c5;clear c5
   by_cases c13:aR<(l0.length:Int)
   ·rw[if_pos c13] at H;have ah1:decide (aR<(l0.length:Int))=true:=decide_eq_true c13;clear c13;by_cases c14:0≤aR
    ·rw[if_pos c14] at H;have NC:decide (0≤aR)=true:=decide_eq_true c14;clear c14;by_cases c15:((aI l0 aR).f1).toList=a1.toList
     ·rw[if_pos c15] at H;have ah2:(((aI l0 aR).f1).toList == a1.toList)=true:=beq_iff_eq.mpr c15;have ah3:(((aI l0 aR).f1).toList != a1.toList)=false:=bne_eq_false_iff_eq.mpr c15;clear c15;obtain rfl:=Option.some.inj H;have Qn:0≤(aR:Int):=of_decide_eq_true bg;have Qo:aR<(l0.length:Int):=of_decide_eq_true bg;obtain⟨ah4,aeU,aeV,aeW,aeX,aeY,vK,vL,vM,vN,vO,vP,BN,BO,BP,BQ⟩:=jh nC.out aR Qn Qo;cases aeY;replace vK:=(HB.out.cell (World.block_lt_of_cell? w _ vK)).trans vK;replace vL:=(HB.out.cell (World.block_lt_of_cell? w _ vL)).trans vL;replace vM:=(HB.out.cell (World.block_lt_of_cell? w _ vM)).trans vM;replace vN:=(HB.out.cell (World.block_lt_of_cell? w _ vN)).trans vN;replace vO:=(HB.out.cell (World.block_lt_of_cell? w _ vO)).trans vO;replace vP:=(HB.out.cell (World.block_lt_of_cell? w _ vP)).trans vP;have aas:=ah.mk BO;have aat:=ah.mk BN;clear BO BN;have aau:=ah.mk BQ;have aav:=ah.mk BP;clear BQ BP;replace Qn:=eq_true Qn;replace Qo:=eq_true Qo
      go_wp2
      go_ret
      exact⟨by first|rfl|(simp[aY,aZ] <;> rfl)|(simp[*,aY,aZ] <;> rfl),by repeat (first|(with_reducible first|exact HB.out|apply aG|apply av|apply aK)|exact HB.out)⟩
     rw[if_neg c15] at H;have ah2:(((aI l0 aR).f1).toList == a1.toList)=false:=beq_eq_false_iff_ne.mpr c15;have ah3:(((aI l0 aR).f1).toList != a1.toList)=true:=bne_iff_ne.mpr c15;obtain rfl:=Option.some.inj H;have Qn:0≤(aR:Int):=of_decide_eq_true bg;have Qo:aR<(l0.length:Int):=of_decide_eq_true bg;obtain⟨ah4,aeU,aeV,aeW,aeX,aeY,vK,vL,vM,vN,vO,vP,BN,BO,BP,BQ⟩:=jh nC.out aR Qn Qo;cases aeY;replace vK:=(HB.out.cell (World.block_lt_of_cell? w _ vK)).trans vK;replace vL:=(HB.out.cell (World.block_lt_of_cell? w _ vL)).trans vL;replace vM:=(HB.out.cell (World.block_lt_of_cell? w _ vM)).trans vM;replace vN:=(HB.out.cell (World.block_lt_of_cell? w _ vN)).trans vN;replace vO:=(HB.out.cell (World.block_lt_of_cell? w _ vO)).trans vO;replace vP:=(HB.out.cell (World.block_lt_of_cell? w _ vP)).trans vP;have aas:=ah.mk BO;have aat:=ah.mk BN;clear BO BN;have aau:=ah.mk BQ;have aav:=ah.mk BP;clear BQ BP;replace Qn:=eq_true Qn;replace Qo:=eq_true Qo
     go_wp2
     go_ret
     exact⟨by first|rfl|(simp[aY,aZ] <;> rfl)|(simp[*,aY,aZ] <;> rfl),by repeat (first|(with_reducible first|exact HB.out|apply aG|apply av|apply aK)|exact HB.out)⟩
    rw[if_neg c14] at H;exact absurd H bB
   rw[if_neg c13] at H;have ah1:decide (aR<(l0.length:Int))=false:=decide_eq_false c13;clear c13;obtain rfl:=Option.some.inj H
   go_wp2
   go_ret
   exact⟨by first|rfl|(simp[aY,aZ] <;> rfl)|(simp[*,aY,aZ] <;> rfl),by repeat (first|(with_reducible first|exact HB.out|apply aG|apply av|apply aK)|exact HB.out)⟩
end Go.Proofs.YtknihldkhedpkaaGreatDoor.PT
