/- WalkSplits: for every list of texts every walk.Split answers what the document's Split answers. Conditions: none beyond the form's own reach. -/
import Derived.Test.YtjlgfcgdagikgaaRows
import Derived.Test.YtjlgfcgdagikgaaPWalkx3
import Derived.Test.YtjlgfcgdagikgaaPureSplit
import Derived.Test.YtjlgfcgdagikgaaStrs
import Derived.WalkKit
import Derived.ProofKit
import Derived.OpenShut
import Derived.ShutString
import Derived.ChangeOld
import Derived.Below
import Derived.SizedLaws
namespace Go.Proofs.Ytjlgfcgdagikgaa.walkSplits
open Go.ChangeShapes Go.WideShapes Go.ChangeAt Go.RowKit
open Go.ChangeMaps (open_string shut_string)
open Go.Proofs.Ytjlgfcgdagikgaa.PWalk Go.Proofs.Ytjlgfcgdagikgaa.Pure
open Go.Proofs.YtjlgfcgdagikgaaW.PrintWords Go.Proofs.YtjlgfcgdagikgaaW.PrintLast
set_option linter.unusedVariables false

theorem law_loop (l : List ByteArray) (hl : l.length ≤ 9223372036854775807) : ∀ (d i : Nat), i + d = l.length → Ev (fun k => vellumlaw11_WalkSplits.l0 k l i) true
  | 0, i, h => Ev.step (fun k => by rw [vellumlaw11_WalkSplits.l0, if_neg (by omega)]) (Ev.now _)
  | d + 1, i, h => by
    have ih := law_loop l hl d (i + 1) (by omega)
    have hi : i < l.length := by omega
    refine Ev.step (fun k => by rw [vellumlaw11_WalkSplits.l0, if_pos (by omega), if_pos (by omega), rd_at l i hi]) ?_
    refine Ev.bind (split_ev l[i]) ?_
    refine Ev.bind (ref_split_ev l[i]) ?_
    refine Ev.congr (fun k => by rw [if_pos rfl]) ?_
    refine Ev.bind (same_ev _ ?_) ?_
    · have hp := parts_len (bs l[i])
      rw [List.length_map]
      unfold splitE
      split
      · simp
      · split
        · split
          · show (parts (bs l[i])).length ≤ _
            omega
          · simp
        · simp
    · have hw : wrap64 ((i : Int) + 1) = ((i + 1 : Nat) : Int) := by unfold wrap64; omega
      simp only [if_true, hw]
      exact ih

theorem pure_law (l : List ByteArray) (hl : l.length ≤ 9223372036854775807) : ∃ k, vellumlaw11_WalkSplits.f k l = some true := by
  refine Ev.rounds (g := fun k => vellumlaw11_WalkSplits.f k l) ?_
  unfold vellumlaw11_WalkSplits.f
  refine Ev.bind (split_ev _) ?_
  have e : splitE (bs ⟨#[47, 97, 47, 47, 98, 47, 46]⟩) = ([[97], [98]], 0) := by decide
  rw [e]
  refine Ev.congr (fun k => by rw [if_pos rfl]) ?_
  refine Ev.bind (same_ev _ (by decide)) ?_
  exact Ev.step (fun k => by rw [vellumlaw11_WalkSplits.j0, if_neg (by decide)]; rfl) (law_loop l hl l.length 0 (by omega))

theorem own : ownKnob Try.prog.godebug = none := by kernel_rfl
theorem laidOut : laidOutB Try.prog = true := by kernel_rfl

theorem walk (A : Option Addr) (len cap : Nat) (w : World) (l : List ByteArray) (hl : l.length = len) (hr : Kd.C Kd.string w A len l) (hc : len ≤ cap) :
    Calls Try.prog 6 #[.slice A len cap] w fun e w' => e = .returned (.bool true) ∧ Below w.heap.size w w' := by
  subst hl
  obtain ⟨k, h⟩ := pure_law l hr.2.1
  exact vellumlaw11_WalkSplits.calls k A cap l true w hr hc h

set_option maxRecDepth 100000 in
theorem lifted (os : Os) (started : os.Started) (H : Type) (enc : TypeId × Value → H) :
    ReturnsInHanded {} Try.checked os 6 .any (Rows.walkSplitsSpec.pre6 enc Try.prog Try.f6 Rows.walkSplitsRow.domain false) (Rows.walkSplitsSpec.post enc Try.prog Try.f6 false true false false) := by
  refine returnsInHanded_of_change_sized (C := Try.checked) own started (by kernel_rfl) Try.func6
    (ChangeSpec.witness6 (enc := enc) (C := Try.checked) false ⟨#[], #[.slice none 0 0], []⟩ 8 (by kernel_rfl) (by kernel_rfl) (by kernel_rfl) (by kernel_rfl)) ?_
  intro W base args ds gs before hval0 hW hcnd hsz0 _
  have hsz : (DataW.weightsEach Try.prog (Try.f6.params.toList ++ Rows.walkSplitsSpec.plain.varTypes Try.prog) (ds ++ gs)).all (· ≤ reachBytes) = true := hsz0
  have hval : ∀ (j : Nat) t v, Try.f6.params[j]? = some t → args[j]? = some v → Value.okWide Try.prog W .any base t v := hval0
  have hW' := hW
  obtain ⟨p, q, hA0, hV, rfl, hfz, hnd⟩ := hW
  have hA : DataW.TrodAll enc Try.prog W 0 (fun _ => true) true Try.f6.params.toList args.toList ds p := hA0
  rw [Try.params6] at hA hval hsz
  obtain ⟨v0, vs0, d0, ds0, p0, q0, hargs, rfl, rfl, h0, r0⟩ := trodAll_cons hA
  obtain ⟨rfl, rfl, rfl⟩ := trodAll_nil r0
  obtain rfl : args = #[v0] := by cases args; simp_all
  obtain ⟨rfl, rfl⟩ := trodVars_none hV
  obtain ⟨a0, len0, cap0, rfl⟩ := okWide_slice Try.underlying23 (hval 0 23 v0 rfl rfl)
  have k0 := h0
  have lt0 : ∀ x ∈ p0, x.block < W.heap.size := by obtain ⟨m, hm⟩ := k0; exact DataW.trod_lt m _ _ _ hm
  obtain ⟨l, hl, hr, hc, _, _⟩ := strs_read Try.underlying23 Try.underlying9 (by kernel_rfl) h0
  clear hA0 hval0 hsz0 hsz
  refine (walk a0 len0 cap0 W l hl hr hc).mono fun e W' ⟨he, bel⟩ => ?_
  subst he
  exact ⟨_, rfl, _, _, _, [], _, [], hW', trodAll_mk1 (shut_bool Try.underlying4 _), (trodAll_cons_mk (Below.trod laidOut (by kernel_rfl) (of_decide_eq_true (by kernel_rfl)) k0 bel lt0) trodAll_mk0), rfl, bel.frame _, fun h => by cases h⟩
theorem over : Rows.walkSplitsRow.holds Try.pinned (OpenSpec.ofChange Rows.walkSplitsSpec) :=
  OpenClaim.holds_of_wide 6 Try.f6 rfl rfl rfl rfl rfl rfl rfl ⟨rfl, rfl, rfl, rfl, rfl⟩ rfl rfl rfl rfl rfl (by kernel_rfl) Try.func6 (by kernel_rfl)
    (of_decide_eq_true (by kernel_rfl)) (by unfold Func.isWrapper; first | (rw [if_pos (by decide +kernel)]; kernel_rfl) | (rw [if_neg (by decide +kernel)]; exact ⟨rfl, rfl⟩))
    (fun os started H enc _ => lifted os started H enc)
theorem proved : Rows.WalkSplitsSaid := over
end Go.Proofs.Ytjlgfcgdagikgaa.walkSplits
namespace Go.Proofs.Ytjlgfcgdagikgaa
theorem walkSplits_holds : Rows.WalkSplitsSaid := walkSplits.proved
#print axioms walkSplits_holds
end Go.Proofs.Ytjlgfcgdagikgaa
