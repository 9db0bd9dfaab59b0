/- CheckSays: the row and its card. -/
import Derived.Test.YtjlgfcgdagikgaaDoorCards
import Derived.Test.YtjlgfcgdagikgaaDoorTie
import Derived.Test.YtjlgfcgdagikgaaDoorWalkC
import Derived.WalkKit
import Derived.ProofKit
import Derived.OpenShut
import Derived.Below
import Derived.Deep.DeepHandedRow
import Derived.Lib.LaidTab
namespace Go.Proofs.YtjlgfcgdagikgaaDoor.checkSays
open Go.ChangeShapes Go.WideShapes Go.ChangeAt Go.RowKit
open Go.Proofs.YtjlgfcgdagikgaaDoor.says
set_option linter.unusedVariables false
set_option linter.unusedSimpArgs false

theorem own : ownKnob Tryd.prog.godebug = none := by kernel_rfl
theorem laidOut : laidOutB Tryd.prog = true := by kernel_rfl

/-- What stands third and fourth on the list: the powers of ten; the words. -/
theorem table {W : World} (h : laidMetH Tryd.prog Rows.checkSaysRow.laid W) : Tabs W ∧ Words W := by
  have h1 : laidMet Tryd.prog Rows.checkSaysRow.laid W := h
  obtain ⟨ps, ⟨_, _, _, _, _, q1, _, _, _, _, h2, _⟩, _⟩ := h1
  obtain ⟨_, _, _, _, _, q2, _, _, _, _, h3, _⟩ := h2
  obtain ⟨g', t', cs, fuel, p, q, hg', ht', hvar, hd, h4, _⟩ := h3
  obtain ⟨g4, t4, cs4, fuel4, p4, q4, hg4, ht4, hvar4, hd4, _, _⟩ := h4
  constructor
  · have hg : Tryd.prog.globalNamed "internal/strconv.uint64pow10" = some 1 := by kernel_rfl
    have hty : (Tryd.prog.globals[1]?).map (·.type) = some 83 := by kernel_rfl
    obtain rfl := Option.some.inj (hg.symm.trans hg')
    obtain rfl := Option.some.inj (hty.symm.trans ht')
    unfold Tabs Lib.TabIs
    rw [hvar]
    have hd' : DataW.trod (fun _ => ()) Tryd.prog W 0 (fun _ => true) false fuel 83 cs.toList = some (Lib.tabData .u64 Lib.pow10Tab, p) := hd
    rw [← Lib.cells_of_tab Tryd.underlying83 Tryd.underlying61 (by kernel_rfl) (by kernel_rfl) hd']
  · have hg : Tryd.prog.globalNamed "vellum/vellumlaw12.words" = some 0 := by kernel_rfl
    have hty : (Tryd.prog.globals[0]?).map (·.type) = some 37 := by kernel_rfl
    obtain rfl := Option.some.inj (hg.symm.trans hg4)
    obtain rfl := Option.some.inj (hty.symm.trans ht4)
    have hd' : DataW.trod (fun _ => ()) Tryd.prog W 0 (fun _ => true) false fuel4 37 cs4.toList = some (.agg (wordsC.map fun z => .lit (.string z)), p4) := hd4
    intro k hk
    have hc := strs_cells Tryd.underlying37 Tryd.underlying9 (by kernel_rfl) hd' k hk
    rw [World.var?_cell hg hvar4 k, ← Array.getElem?_toList]
    exact hc

/-- A block's cells laid anew. -/
def laying (cs : Array Value) : Obj → Obj
  | .cells _ t frozen => .cells cs t frozen
  | o => o
/-- A WORLD FOR THE WITNESS: the settled one, the tables as their initialisers lay them. -/
noncomputable def laidWorld (os : Os) : World :=
  { World.holding Tryd.prog os ⟨#[], #[], []⟩ with heap := ((((World.holding Tryd.prog os ⟨#[], #[], []⟩).heap.modify 0 (laying #[.string ⟨#[]⟩, .string ⟨#[110, 111, 100, 101, 32, 78, 58, 32, 98, 114, 111, 107, 101, 110, 32, 115, 108, 111, 116]⟩, .string ⟨#[110, 111, 100, 101, 32, 49, 32, 105, 115, 32, 110, 111, 32, 114, 111, 111, 116]⟩, .string ⟨#[110, 111, 100, 101, 32, 78, 58, 32, 115, 105, 122, 101, 32, 79, 32, 109, 97, 121, 32, 110, 111, 116, 32, 98, 101]⟩, .string ⟨#[110, 111, 100, 101, 32, 78, 58, 32, 105, 110, 100, 101, 120, 32, 73, 44, 32, 100, 101, 112, 116, 104, 32, 79, 58, 32, 112, 111, 105, 110, 116, 101, 114, 32, 66, 32, 111, 117, 116, 32, 111, 102, 32, 114, 97, 110, 103, 101]⟩, .string ⟨#[110, 111, 100, 101, 32, 78, 58, 32, 105, 110, 100, 101, 120, 32, 73, 44, 32, 100, 101, 112, 116, 104, 32, 79, 58, 32, 98, 108, 111, 99, 107, 32, 66, 32, 105, 115, 32, 111, 119, 110, 101, 100, 32, 97, 108, 114, 101, 97, 100, 121]⟩, .string ⟨#[110, 111, 100, 101, 32, 78, 58, 32, 105, 110, 100, 101, 120, 32, 73, 58, 32, 98, 108, 111, 99, 107, 32, 66, 32, 98, 101, 104, 105, 110, 100, 32, 116, 104, 101, 32, 115, 105, 122, 101]⟩, .string ⟨#[110, 111, 100, 101, 32, 78, 58, 32, 105, 110, 100, 101, 120, 32, 73, 44, 32, 100, 101, 112, 116, 104, 32, 79, 58, 32, 98, 108, 111, 99, 107, 32, 66, 32, 104, 97, 115, 32, 110, 111, 32, 112, 111, 105, 110, 116, 101, 114]⟩, .string ⟨#[110, 111, 100, 101, 32, 78, 58, 32, 111, 119, 110, 115, 32, 79]⟩, .string ⟨#[110, 111, 100, 101, 32, 78, 58, 32, 105, 110, 100, 101, 120, 32, 73, 58, 32, 98, 108, 111, 99, 107, 32, 66, 32, 104, 97, 115, 32, 98, 121, 116, 101, 115, 32, 98, 101, 104, 105, 110, 100, 32, 116, 104, 101, 32, 115, 105, 122, 101]⟩, .string ⟨#[98, 108, 111, 99, 107, 32, 66, 58, 32, 98, 105, 116, 32, 79]⟩, .string ⟨#[110, 111, 100, 101, 32, 78, 58, 32, 98, 105, 116, 32, 79]⟩, .string ⟨#[110, 111, 100, 101, 32, 78, 58, 32, 115, 108, 111, 116, 32, 73, 58, 32, 98, 114, 111, 107, 101, 110, 32, 101, 110, 116, 114, 121]⟩, .string ⟨#[110, 111, 100, 101, 32, 78, 58, 32, 115, 108, 111, 116, 32, 73, 58, 32, 97, 32, 110, 97, 109, 101, 32, 116, 119, 105, 99, 101]⟩, .string ⟨#[110, 111, 100, 101, 32, 78, 58, 32, 115, 108, 111, 116, 32, 73, 58, 32, 101, 110, 116, 114, 121, 32, 111, 102, 32, 110, 111, 100, 101, 32, 79]⟩, .string ⟨#[110, 111, 100, 101, 32, 78, 58, 32, 105, 110, 100, 101, 120, 32, 73, 58, 32, 104, 111, 108, 101, 32, 105, 110, 32, 97, 32, 100, 105, 114, 101, 99, 116, 111, 114, 121]⟩, .string ⟨#[110, 111, 100, 101, 32, 78, 58, 32, 108, 97, 115, 116, 32, 98, 108, 111, 99, 107, 32, 119, 105, 116, 104, 111, 117, 116, 32, 97, 110, 32, 101, 110, 116, 114, 121]⟩, .string ⟨#[110, 111, 100, 101, 32, 78, 58, 32, 108, 105, 110, 107, 115, 32, 115, 104, 111, 117, 108, 100, 32, 98, 101, 32, 79]⟩, .string ⟨#[110, 111, 100, 101, 32, 78, 58, 32, 104, 97, 110, 103, 115, 32, 119, 114, 111, 110, 103, 32, 79]⟩, .string ⟨#[110, 111, 100, 101, 32, 78, 58, 32, 119, 105, 116, 104, 111, 117, 116, 32, 97, 32, 110, 97, 109, 101]⟩, .string ⟨#[110, 111, 100, 101, 32, 78, 58, 32, 110, 111, 116, 32, 98, 101, 108, 111, 119, 32, 116, 104, 101, 32, 114, 111, 111, 116]⟩, .string ⟨#[110, 111, 100, 101, 32, 78, 58, 32, 116, 101, 120, 116, 32, 119, 105, 116, 104, 32, 97, 32, 122, 101, 114, 111]⟩])).modify 1 (laying #[.int .u64 1, .int .u64 10, .int .u64 100, .int .u64 1000, .int .u64 10000, .int .u64 100000, .int .u64 1000000, .int .u64 10000000, .int .u64 100000000, .int .u64 1000000000, .int .u64 10000000000, .int .u64 100000000000, .int .u64 1000000000000, .int .u64 10000000000000, .int .u64 100000000000000, .int .u64 1000000000000000, .int .u64 10000000000000000, .int .u64 100000000000000000, .int .u64 1000000000000000000, .int .u64 10000000000000000000])).modify 2 (laying #[.int .u8 0, .int .u8 1, .int .u8 28, .int .u8 2, .int .u8 29, .int .u8 14, .int .u8 24, .int .u8 3, .int .u8 30, .int .u8 22, .int .u8 20, .int .u8 15, .int .u8 25, .int .u8 17, .int .u8 4, .int .u8 8, .int .u8 31, .int .u8 27, .int .u8 13, .int .u8 23, .int .u8 21, .int .u8 19, .int .u8 16, .int .u8 7, .int .u8 26, .int .u8 12, .int .u8 18, .int .u8 6, .int .u8 11, .int .u8 5, .int .u8 10, .int .u8 9])).modify 3 (laying #[.int .u8 0, .int .u8 1, .int .u8 56, .int .u8 2, .int .u8 57, .int .u8 49, .int .u8 28, .int .u8 3, .int .u8 61, .int .u8 58, .int .u8 42, .int .u8 50, .int .u8 38, .int .u8 29, .int .u8 17, .int .u8 4, .int .u8 62, .int .u8 47, .int .u8 59, .int .u8 36, .int .u8 45, .int .u8 43, .int .u8 51, .int .u8 22, .int .u8 53, .int .u8 39, .int .u8 33, .int .u8 30, .int .u8 24, .int .u8 18, .int .u8 12, .int .u8 5, .int .u8 63, .int .u8 55, .int .u8 48, .int .u8 27, .int .u8 60, .int .u8 41, .int .u8 37, .int .u8 16, .int .u8 46, .int .u8 35, .int .u8 44, .int .u8 21, .int .u8 52, .int .u8 32, .int .u8 23, .int .u8 11, .int .u8 54, .int .u8 26, .int .u8 40, .int .u8 15, .int .u8 34, .int .u8 20, .int .u8 31, .int .u8 10, .int .u8 25, .int .u8 14, .int .u8 19, .int .u8 9, .int .u8 13, .int .u8 8, .int .u8 7, .int .u8 6]) }
theorem laid_met (os : Os) : laidMet Tryd.prog Rows.checkSaysRow.laid ((laidWorld os).forCall (fun _ _ => 0) ⟨#[], #[.slice none 0 0], []⟩).memory :=
  laidMet_of_run' 8 (by kernel_rfl) (by kernel_rfl)
theorem reads (os : Os) {H : Type} (enc : TypeId × Value → H) : ∃ places, DataW.whole enc Tryd.prog ((laidWorld os).forCall (fun _ _ => 0) ⟨#[], #[.slice none 0 0], []⟩).memory Tryd.f4.params.toList Rows.checkSaysSpec.vars false #[Value.slice none 0 0].toList 8 = some ([.nil], [], places) :=
  ⟨[], by kernel_rfl⟩

set_option maxRecDepth 100000 in
theorem lifted (os : Os) (started : os.Started) (H : Type) (enc : TypeId × Value → H) (F : Stop.Interp) :
    ReturnsInHanded {} Tryd.checked os 4 .any ((OpenSpec.ofChange Rows.checkSaysSpec).preRow enc Tryd.prog Tryd.f4 Rows.checkSaysRow.domain false Rows.checkSaysRow.laid) (((OpenSpec.ofChange Rows.checkSaysSpec).at F).post enc Tryd.prog Tryd.f4 false true false false) := by
  obtain ⟨places, hx⟩ := reads os enc
  refine returnsInHanded_of_row (C := Tryd.checked) (s := OpenSpec.ofChange Rows.checkSaysSpec) own started (by kernel_rfl) Tryd.func4
    (witness_row_at (enc := enc) (C := Tryd.checked) false (laidWorld os) #[.slice none 0 0] rfl (by kernel_rfl) (by kernel_rfl) (by kernel_rfl)
      (OpenSpec.preRow_of_cond 8 hx (by kernel_rfl) (fun k hk => by cases hk) (by kernel_rfl) (laid_met os))) ?_
  intro W base args ds gs before hval0 hW _ _ _ hL _ _
  have hval : ∀ (j : Nat) t v, Tryd.f4.params[j]? = some t → args[j]? = some v → Value.okWide Tryd.prog W .any base t v := hval0
  obtain ⟨hT, hWd⟩ := table hL
  have hW' := hW
  obtain ⟨p, q, hA0, hV, rfl, hfz, hnd⟩ := hW
  have hA : DataW.TrodAll enc Tryd.prog W 0 (fun _ => true) true Tryd.f4.params.toList args.toList ds p := hA0
  rw [Tryd.params4] at hA hval
  obtain ⟨v0, vs0, d0, ds0, p0, q0, hargs, rfl, rfl, h0, r0⟩ := trodAll_cons hA
  obtain ⟨rfl, rfl, rfl⟩ := trodAll_nil r0
  obtain rfl : args = #[v0] := by cases args; simp_all
  obtain ⟨rfl, rfl⟩ := trodVars_none hV
  obtain ⟨a0, len0, cap0, rfl⟩ := okWide_slice Tryd.underlying27 (hval 0 27 v0 rfl rfl)
  have k0 := h0
  have lt0 : ∀ x ∈ p0, x.block < W.heap.size := by obtain ⟨m, hm⟩ := k0; exact DataW.trod_lt m _ _ _ hm
  obtain ⟨hc, hn, V, hV5⟩ := fives_read Tryd.underlying27 Tryd.underlying29 (by kernel_rfl) 3 Tryd.underlying3 (by kernel_rfl) rfl rfl rfl rfl rfl rfl rfl rfl rfl rfl h0
  clear hA0 hval0
  refine (check_walk a0 len0 cap0 V W hV5 hn hT hWd).mono fun e W' ⟨he, bel⟩ => ?_
  subst he
  exact ⟨_, rfl, _, _, _, [], _, [], hW', trodAll_mk1 (shut_bool Tryd.underlying4 _), (trodAll_cons_mk (Below.trod laidOut (by kernel_rfl) (of_decide_eq_true (by kernel_rfl)) k0 bel lt0) trodAll_mk0), rfl, bel.frame _, fun h => by cases h⟩

theorem said : Rows.CheckSaysSaid :=
  OpenClaim.holds_of_cond 4 Tryd.f4 rfl rfl rfl rfl rfl rfl rfl ⟨rfl, rfl, rfl, rfl, rfl⟩ rfl rfl rfl rfl rfl (by kernel_rfl) Tryd.func4 (by kernel_rfl)
    (of_decide_eq_true (by kernel_rfl)) (by unfold Func.isWrapper; first | (rw [if_pos (by decide +kernel)]; kernel_rfl) | (rw [if_neg (by decide +kernel)]; exact ⟨rfl, rfl⟩))
    (fun os started H enc _ F => by rw [OpenClaim.pre_eq_preRow]; exact lifted os started H enc F)

theorem plain (f : FuncId) (fn : Func) (hf : Tryd.pinned.checked.prog.funcNamed "vellum/vellumlaw12.CheckSays" = some f) (hfn : Tryd.pinned.checked.prog.funcs[f]? = some fn) :
    true = Tryd.pinned.checked.prog.looks [] ∧ ∀ (j : Nat) t, fn.params[j]? = some t → Tryd.pinned.checked.prog.wantsStandIn t = false := by
  obtain rfl : f = 4 := Option.some.inj ((show Tryd.prog.funcNamed "vellum/vellumlaw12.CheckSays" = some 4 by kernel_rfl).symm.trans hf) |>.symm
  obtain rfl : fn = Tryd.f4 := (Option.some.inj (Tryd.func4.symm.trans hfn)).symm
  refine ⟨by kernel_rfl, fun j t ht => ?_⟩
  rw [Tryd.params4] at ht
  obtain rfl : t = 27 := by simpa using Array.mem_of_getElem? ht
  exact (show Tryd.prog.wantsStandIn 27 = false by kernel_rfl)

theorem card : Rows.CheckSaysCardSaid :=
  Claim7.holds_tied_plain_at .later [] _ _ _ _ said (fun _ h => by cases h) (by kernel_rfl) (fun _ h => by cases h) checkSays_row_tie rfl ⟨rfl, rfl⟩ (by kernel_rfl) rfl plain (by kernel_rfl)
end Go.Proofs.YtjlgfcgdagikgaaDoor.checkSays
namespace Go.Proofs.YtjlgfcgdagikgaaDoor
theorem checkSays_holds : Rows.CheckSaysCardSaid := checkSays.card
#print axioms checkSays_holds
end Go.Proofs.YtjlgfcgdagikgaaDoor
