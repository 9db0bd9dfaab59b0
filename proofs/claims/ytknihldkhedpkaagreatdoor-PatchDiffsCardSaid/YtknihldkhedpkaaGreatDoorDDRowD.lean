import Derived.Test.YtknihldkhedpkaaGreatDoorCards
import Derived.Test.YtknihldkhedpkaaGreatDoorTie
import Derived.Test.YtknihldkhedpkaaGreatDoorDDG15
import Derived.Test.YtknihldkhedpkaaGreatDoorDDG29
import Derived.WalkKit
import Derived.ProofKit
import Derived.OpenShut
import Derived.Below
import Derived.Deep.DeepHandedRow
import Derived.Lib.LaidTab
set_option linter.all false
set_option maxHeartbeats 16000000
set_option maxRecDepth 100000
namespace Go.Proofs.YtknihldkhedpkaaGreatDoor.patchDiffs
open Go.ChangeShapes Go.WideShapes Go.ChangeAt Go.RowKit
open Go.Proofs.YtknihldkhedpkaaGreatDoorW.PrintWords Go.Proofs.YtknihldkhedpkaaGreatDoorW.PrintLast Go.Proofs.YtknihldkhedpkaaGreatDoor.PT
theorem own:ownKnob Tryz.prog.godebug=none:=by kernel_rfl
theorem laidOut:laidOutB Tryz.prog=true:=by kernel_rfl
def laying (cs:Array Value):Obj→Obj
 | .cells _ t frozen=>.cells cs t frozen
 | o=>o
noncomputable def D5 (os:Os):World :=
 { World.holding Tryz.prog os ⟨#[],#[],[]⟩ with heap:=(((World.holding Tryz.prog os ⟨#[],#[],[]⟩).heap.modify 1 (laying ((Go.Pinned.utf8FirstZ.map fun (n:Nat)=>Value.int .u8 (n:Int)).toArray))).modify 2 (laying ((([128,191,160,191,128,159,144,191,128,143]++List.replicate 22 0:List Int).map fun n=>Value.int .u8 n).toArray))) }
def Uw:Array Value:=#[.slice none 0 0,.slice none 0 0]
theorem Y2 (os:Os):laidMet Tryz.prog Rows.patchDiffsRow.laid ((D5 os).forCall (fun _ _=>0) ⟨#[],Uw,[]⟩).memory :=
 laidMet_of_run' 8 aD aD
theorem reads (os:Os) {H:Type} (enc:TypeId × Value→H):∃places,DataW.whole enc Tryz.prog ((D5 os).forCall (fun _ _=>0) ⟨#[],Uw,[]⟩).memory Tryz.f5.params.toList Rows.patchDiffsSpec.vars false Uw.toList 8=some ([.nil,.nil],[],places) :=
 ⟨[],by kernel_rfl⟩
theorem walk (W:World) (A0:Option Addr) (c0:Nat) (l0:List It) (A1:Option Addr) (c1:Nat) (l1:List It) (h0:Kd.C mV W A0 l0.length l0) (k0:l0.length≤c0) (h1:Kd.C mV W A1 l1.length l1) (k1:l1.length≤c1)
  (m0:Came l0) (m1:Came l1):Calls Tryz.prog 5 #[.slice A0 l0.length c0,.slice A1 l1.length c1] W fun e w'=>e=.returned (.bool true)∧Below W.heap.size W w':=by
 exact YK A0 c0 l0 A1 c1 l1 W h0 k0 h1 k1 m0 m1 YJ
theorem lifted (os:Os) (started:os.Started) (H:Type) (enc:TypeId × Value→H) (F:Stop.Interp) :
  ReturnsInHanded {} Tryz.checked os 5 .any ((OpenSpec.ofChange Rows.patchDiffsSpec).preRow enc Tryz.prog Tryz.f5 Rows.patchDiffsRow.domain false Rows.patchDiffsRow.laid) (((OpenSpec.ofChange Rows.patchDiffsSpec).at F).post enc Tryz.prog Tryz.f5 false true false false):=by
 obtain⟨places,hx⟩:=reads os enc
 refine returnsInHanded_of_row (C:=Tryz.checked) (s:=OpenSpec.ofChange Rows.patchDiffsSpec) own started aD Tryz.func5
  (witness_row_at (enc:=enc) (C:=Tryz.checked) false (D5 os) Uw rfl aD aD aD
   (OpenSpec.preRow_of_cond 8 hx aD (fun k hk=>by cases hk) aD (Y2 os))) ?_
 intro W base args ds gs before hval0 hW _ _ hsz0 hL _ _;have hval:∀(j:Nat) t v,Tryz.f5.params[j]?=some t→args[j]?=some v→Value.okWide Tryz.prog W .any base t v:=hval0;have hsz:(DataW.weightsEach Tryz.prog (Tryz.f5.params.toList++Rows.patchDiffsSpec.plain.varTypes Tryz.prog) (ds++gs)).all (·≤reachBytes)=true:=hsz0;have hW':=hW;obtain⟨p,q,hA0,hV,rfl,hfz,hnd⟩:=hW;have hA:DataW.TrodAll enc Tryz.prog W 0 (fun _=>true) true Tryz.f5.params.toList args.toList ds p:=hA0;rw[Tryz.params5] at hA hval hsz;obtain⟨v0,vs0,d0,ds0,p0,q0,hargs,rfl,rfl,h0,r0⟩:=trodAll_cons hA;obtain⟨v1,vs1,d1,ds1,p1,q1,rfl,rfl,rfl,h1,r1⟩:=trodAll_cons r0;obtain⟨rfl,rfl,rfl⟩:=trodAll_nil r1
 obtain rfl:args=#[v0,v1]:=by cases args;simp_all
 obtain⟨rfl,rfl⟩:=trodVars_none hV;obtain⟨a0,aut,cap0,rfl⟩:=okWide_slice Tryz.underlying25 (hval 0 25 v0 rfl rfl);obtain⟨a1,len1,apq,rfl⟩:=okWide_slice Tryz.underlying25 (hval 1 25 v1 rfl rfl);have k0:=h0;have k1:=h1
 have lt0:∀x∈p0,x.block<W.heap.size:=by obtain⟨m,hm⟩:=k0;exact DataW.trod_lt m _ _ _ hm
 have lt1:∀x∈p1,x.block<W.heap.size:=by obtain⟨m,hm⟩:=k1;exact DataW.trod_lt m _ _ _ hm
 have hwt:∀(j:Nat) (d:DataW H),([d0,d1]:List (DataW H))[j]?=some d→∀n∈d.weights Tryz.prog 25,n≤reachBytes:=fun j d hd n hn=>by
  have hj:j<2:=(List.getElem?_eq_some_iff.1 hd).1;have hm:=DataW.weights_mem_each (P:=Tryz.prog) (ts:=[25,25]) (j:=j) (t:=25) (by rcases (show j=0∨j=1 by omega) with rfl|rfl <;> rfl) hd n hn;exact of_decide_eq_true (List.all_eq_true.1 hsz n hm)
 obtain⟨l0,rfl,n0,g0,m0⟩:=Tm.arg h0 (hwt 0 d0 rfl);obtain⟨l1,rfl,n1,g1,m1⟩:=Tm.arg h1 (hwt 1 d1 rfl);clear hA0 hval0 hsz0 hsz
 refine (walk W a0 cap0 l0 a1 apq l1 g0 n0 g1 n1 m0 m1).mono fun e W' ⟨he,bel⟩=>?_
 subst he;exact⟨_,rfl,_,_,_,[],_,[],hW',trodAll_mk1 (shut_bool Tryz.underlying4 _),(trodAll_cons_mk (Below.trod laidOut aD (of_decide_eq_true aD) k0 bel lt0) (trodAll_cons_mk (Below.trod laidOut aD (of_decide_eq_true aD) k1 bel lt1) trodAll_mk0)),rfl,bel.frame _,fun h=>by cases h⟩
theorem said:Rows.PatchDiffsSaid :=
 OpenClaim.holds_of_cond 5 Tryz.f5 rfl rfl rfl rfl rfl rfl rfl ⟨rfl,rfl,rfl,rfl,rfl⟩ rfl rfl rfl rfl rfl aD Tryz.func5 aD
  (of_decide_eq_true aD) (by unfold Func.isWrapper;first|(rw[if_pos (by decide +kernel)];kernel_rfl)|(rw[if_neg (by decide +kernel)];exact⟨rfl,rfl⟩))
  (fun os started H enc _ F=>by rw[OpenClaim.pre_eq_preRow];exact lifted os started H enc F)
theorem plain (f:FuncId) (fn:Func) (hf:Tryz.pinned.checked.prog.funcNamed "vellum/vellumlaw18.PatchDiffs" = some f) (hfn:Tryz.pinned.checked.prog.funcs[f]?=some fn) :
  true=Tryz.pinned.checked.prog.looks []∧∀(j:Nat) t,fn.params[j]?=some t→Tryz.pinned.checked.prog.wantsStandIn t=false:=by
 obtain rfl:f=5:=Option.some.inj ((show Tryz.prog.funcNamed "vellum/vellumlaw18.PatchDiffs" = some 5 by kernel_rfl).symm.trans hf) |>.symm
 obtain rfl:fn=Tryz.f5:=(Option.some.inj (Tryz.func5.symm.trans hfn)).symm;refine⟨by kernel_rfl,fun j t ht=>?_⟩;rw[Tryz.params5] at ht
 obtain rfl:t=25:=by simpa using Array.mem_of_getElem? ht
 exact (show Tryz.prog.wantsStandIn 25=false by kernel_rfl)
theorem card:Rows.PatchDiffsCardSaid :=
 Claim7.holds_tied_plain_at .later [] _ _ _ _ said (fun _ h=>by cases h) aD (fun _ h=>by cases h) patchDiffs_row_tie rfl ⟨rfl,rfl⟩ aD rfl plain aD
end Go.Proofs.YtknihldkhedpkaaGreatDoor.patchDiffs
namespace Go.Proofs.YtknihldkhedpkaaGreatDoor
theorem patchDiffs_holds:Rows.PatchDiffsCardSaid:=patchDiffs.card
#print axioms patchDiffs_holds
end Go.Proofs.YtknihldkhedpkaaGreatDoor
