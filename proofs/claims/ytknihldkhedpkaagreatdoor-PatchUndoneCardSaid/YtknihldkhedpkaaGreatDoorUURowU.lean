import Derived.Test.YtknihldkhedpkaaGreatDoorCards
import Derived.Test.YtknihldkhedpkaaGreatDoorTie
import Derived.Test.YtknihldkhedpkaaGreatDoorUUG25
import Derived.Test.YtknihldkhedpkaaGreatDoorUUG29
import Derived.WalkKit
import Derived.ProofKit
import Derived.OpenShut
import Derived.Below
import Derived.Deep.DeepHandedRow
import Derived.Lib.LaidTab
set_option linter.all false
set_option maxHeartbeats 16000000
set_option maxRecDepth 100000
namespace Go.Proofs.YtknihldkhedpkaaGreatDoor.patchUndone
open Go.ChangeShapes Go.WideShapes Go.ChangeAt Go.RowKit
open Go.Proofs.YtknihldkhedpkaaGreatDoorW.PrintWords Go.Proofs.YtknihldkhedpkaaGreatDoorW.PrintLast Go.Proofs.YtknihldkhedpkaaGreatDoor.PT
theorem own:ownKnob Tryz.prog.godebug=none:=by kernel_rfl
theorem laidOut:laidOutB Tryz.prog=true:=by kernel_rfl
def laying (cs:Array Value):Obj→Obj
 | .cells _ t frozen=>.cells cs t frozen
 | o=>o
noncomputable def DF (os:Os):World :=
 { World.holding Tryz.prog os ⟨#[],#[],[]⟩ with heap:=(((World.holding Tryz.prog os ⟨#[],#[],[]⟩).heap.modify 1 (laying ((Go.Pinned.utf8FirstZ.map fun (n:Nat)=>Value.int .u8 (n:Int)).toArray))).modify 2 (laying ((([128,191,160,191,128,159,144,191,128,143]++List.replicate 22 0:List Int).map fun n=>Value.int .u8 n).toArray))) }
def T9:Array Value:=#[.slice none 0 0,.slice none 0 0,.slice none 0 0]
theorem Ya (os:Os):laidMet Tryz.prog Rows.patchUndoneRow.laid ((DF os).forCall (fun _ _=>0) ⟨#[],T9,[]⟩).memory :=
 laidMet_of_run' 8 aA aA
theorem reads (os:Os) {H:Type} (enc:TypeId × Value→H):∃places,DataW.whole enc Tryz.prog ((DF os).forCall (fun _ _=>0) ⟨#[],T9,[]⟩).memory Tryz.f9.params.toList Rows.patchUndoneSpec.vars false T9.toList 8=some ([.nil,.nil,.nil],[],places) :=
 ⟨[],by kernel_rfl⟩
theorem walk (W:World) (A0:Option Addr) (c0:Nat) (l0:List It) (A1:Option Addr) (c1:Nat) (l1:List It) (A2:Option Addr) (c2:Nat) (l2:List It) (h0:Kd.C om W A0 l0.length l0) (k0:l0.length≤c0) (h1:Kd.C om W A1 l1.length l1) (k1:l1.length≤c1) (h2:Kd.C om W A2 l2.length l2) (k2:l2.length≤c2)
  (m0:Came l0) (m1:Came l1) (m2:Came l2):Calls Tryz.prog 9 #[.slice A0 l0.length c0,.slice A1 l1.length c1,.slice A2 l2.length c2] W fun e w'=>e=.returned (.bool true)∧Below W.heap.size W w':=by
 exact XJ A0 c0 l0 A1 c1 l1 A2 c2 l2 W h0 k0 h1 k1 h2 k2 m0 m1 m2 XK
theorem lifted (os:Os) (started:os.Started) (H:Type) (enc:TypeId × Value→H) (F:Stop.Interp) :
  ReturnsInHanded {} Tryz.checked os 9 .any ((OpenSpec.ofChange Rows.patchUndoneSpec).preRow enc Tryz.prog Tryz.f9 Rows.patchUndoneRow.domain false Rows.patchUndoneRow.laid) (((OpenSpec.ofChange Rows.patchUndoneSpec).at F).post enc Tryz.prog Tryz.f9 false true false false):=by
 obtain⟨places,hx⟩:=reads os enc
 refine returnsInHanded_of_row (C:=Tryz.checked) (s:=OpenSpec.ofChange Rows.patchUndoneSpec) own started aA Tryz.func9
  (witness_row_at (enc:=enc) (C:=Tryz.checked) false (DF os) T9 rfl aA aA aA
   (OpenSpec.preRow_of_cond 8 hx aA (fun k hk=>by cases hk) aA (Ya os))) ?_
 intro W base args ds gs before hval0 hW _ _ hsz0 hL _ _;have hval:∀(j:Nat) t v,Tryz.f9.params[j]?=some t→args[j]?=some v→Value.okWide Tryz.prog W .any base t v:=hval0;have hsz:(DataW.weightsEach Tryz.prog (Tryz.f9.params.toList++Rows.patchUndoneSpec.plain.varTypes Tryz.prog) (ds++gs)).all (·≤reachBytes)=true:=hsz0;have hW':=hW;obtain⟨p,q,hA0,hV,rfl,hfz,hnd⟩:=hW;have hA:DataW.TrodAll enc Tryz.prog W 0 (fun _=>true) true Tryz.f9.params.toList args.toList ds p:=hA0;rw[Tryz.params9] at hA hval hsz;obtain⟨v0,vs0,d0,ds0,p0,q0,hargs,rfl,rfl,h0,r0⟩:=trodAll_cons hA;obtain⟨v1,vs1,d1,ds1,p1,q1,rfl,rfl,rfl,h1,r1⟩:=trodAll_cons r0;obtain⟨v2,vs2,d2,ds2,p2,q2,rfl,rfl,rfl,h2,r2⟩:=trodAll_cons r1;obtain⟨rfl,rfl,rfl⟩:=trodAll_nil r2
 obtain rfl:args=#[v0,v1,v2]:=by cases args;simp_all
 obtain⟨rfl,rfl⟩:=trodVars_none hV;obtain⟨a0,atQ,cap0,rfl⟩:=okWide_slice Tryz.underlying25 (hval 0 25 v0 rfl rfl);obtain⟨a1,len1,aoI,rfl⟩:=okWide_slice Tryz.underlying25 (hval 1 25 v1 rfl rfl);obtain⟨a2,len2,cap2,rfl⟩:=okWide_slice Tryz.underlying25 (hval 2 25 v2 rfl rfl);have k0:=h0;have k1:=h1;have k2:=h2
 have lt0:∀x∈p0,x.block<W.heap.size:=by obtain⟨m,hm⟩:=k0;exact DataW.trod_lt m _ _ _ hm
 have lt1:∀x∈p1,x.block<W.heap.size:=by obtain⟨m,hm⟩:=k1;exact DataW.trod_lt m _ _ _ hm
 have lt2:∀x∈p2,x.block<W.heap.size:=by obtain⟨m,hm⟩:=k2;exact DataW.trod_lt m _ _ _ hm
 have hwt:∀(j:Nat) (d:DataW H),([d0,d1,d2]:List (DataW H))[j]?=some d→∀n∈d.weights Tryz.prog 25,n≤reachBytes:=fun j d hd n hn=>by
  have hj:j<3:=(List.getElem?_eq_some_iff.1 hd).1;have hm:=DataW.weights_mem_each (P:=Tryz.prog) (ts:=[25,25,25]) (j:=j) (t:=25) (by rcases (show j=0∨j=1∨j=2 by omega) with rfl|rfl|rfl <;> rfl) hd n hn;exact of_decide_eq_true (List.all_eq_true.1 hsz n hm)
 obtain⟨l0,rfl,n0,g0,m0⟩:=Mi.arg h0 (hwt 0 d0 rfl);obtain⟨l1,rfl,n1,g1,m1⟩:=Mi.arg h1 (hwt 1 d1 rfl);obtain⟨l2,rfl,n2,g2,m2⟩:=Mi.arg h2 (hwt 2 d2 rfl);clear hA0 hval0 hsz0 hsz
 refine (walk W a0 cap0 l0 a1 aoI l1 a2 cap2 l2 g0 n0 g1 n1 g2 n2 m0 m1 m2).mono fun e W' ⟨he,bel⟩=>?_
 subst he;exact⟨_,rfl,_,_,_,[],_,[],hW',trodAll_mk1 (shut_bool Tryz.underlying4 _),(trodAll_cons_mk (Below.trod laidOut aA (of_decide_eq_true aA) k0 bel lt0) (trodAll_cons_mk (Below.trod laidOut aA (of_decide_eq_true aA) k1 bel lt1) (trodAll_cons_mk (Below.trod laidOut aA (of_decide_eq_true aA) k2 bel lt2) trodAll_mk0))),rfl,bel.frame _,fun h=>by cases h⟩
theorem said:Rows.PatchUndoneSaid :=
 OpenClaim.holds_of_cond 9 Tryz.f9 rfl rfl rfl rfl rfl rfl rfl ⟨rfl,rfl,rfl,rfl,rfl⟩ rfl rfl rfl rfl rfl aA Tryz.func9 aA
  (of_decide_eq_true aA) (by unfold Func.isWrapper;first|(rw[if_pos (by decide +kernel)];kernel_rfl)|(rw[if_neg (by decide +kernel)];exact⟨rfl,rfl⟩))
  (fun os started H enc _ F=>by rw[OpenClaim.pre_eq_preRow];exact lifted os started H enc F)
theorem plain (f:FuncId) (fn:Func) (hf:Tryz.pinned.checked.prog.funcNamed "vellum/vellumlaw18.PatchUndone" = some f) (hfn:Tryz.pinned.checked.prog.funcs[f]?=some fn) :
  true=Tryz.pinned.checked.prog.looks []∧∀(j:Nat) t,fn.params[j]?=some t→Tryz.pinned.checked.prog.wantsStandIn t=false:=by
 obtain rfl:f=9:=Option.some.inj ((show Tryz.prog.funcNamed "vellum/vellumlaw18.PatchUndone" = some 9 by kernel_rfl).symm.trans hf) |>.symm
 obtain rfl:fn=Tryz.f9:=(Option.some.inj (Tryz.func9.symm.trans hfn)).symm;refine⟨by kernel_rfl,fun j t ht=>?_⟩;rw[Tryz.params9] at ht
 obtain rfl:t=25:=by simpa using Array.mem_of_getElem? ht
 exact (show Tryz.prog.wantsStandIn 25=false by kernel_rfl)
theorem card:Rows.PatchUndoneCardSaid :=
 Claim7.holds_tied_plain_at .later [] _ _ _ _ said (fun _ h=>by cases h) aA (fun _ h=>by cases h) patchUndone_row_tie rfl ⟨rfl,rfl⟩ aA rfl plain aA
end Go.Proofs.YtknihldkhedpkaaGreatDoor.patchUndone
namespace Go.Proofs.YtknihldkhedpkaaGreatDoor
theorem patchUndone_holds:Rows.PatchUndoneCardSaid:=patchUndone.card
#print axioms patchUndone_holds
end Go.Proofs.YtknihldkhedpkaaGreatDoor
