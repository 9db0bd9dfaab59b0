/- Packed by this session's own program (wip/tools/pack.py): what the claim needs of its texts. -/
import Derived.Test.YtkfikinjlbbibaaDoorURng
import Derived.BigQuiet
import Derived.OrdersIn
import Derived.Test.YtkfikinjlbbibaaDoorUW
namespace Go.Proofs.YtkfikinjlbbibaaDoor
open Go.RowKit
open Go.Proofs.YtkfikinjlbbibaaDoorW.PrintLast
set_option linter.unusedVariables false
set_option linter.unusedSimpArgs false
section
variable {P : Program}
theorem uponIn_of_upon {o : Oper} {a : Act} {next next' : Act → World → Prop} {Q : Exit → Act → World → Prop} {l n : Nat} (hn : ∀ a w, next a w → next' a w) {r : Result Next} (h : o.upon P a next Q r) :
    o.uponIn (Fence.wide.inRound l) n P a next' Q r := by
  cases r with
  | ok nx w' =>
    cases nx with
    | value v => exact hn _ _ h
    | skip => exact hn _ _ h
    | defer d => exact hn _ _ h
    | enter f args =>
      refine ⟨fun h => (by cases h), CallsIn.inRound l (callsIn_wide.2 (Calls.mono h ?_))⟩
      intro e w hh
      cases e with
      | returned v => exact hn _ _ hh
      | panicked c => exact hh
      | outgrown => exact hh
    | row row args =>
      refine ⟨fun h => (by cases h), fun c cs _ => ?_⟩
      obtain ⟨v, w2, hr, hs⟩ := h c cs
      exact ⟨v, w2, hn _ _ hr, stepsIn_wide.2 hs⟩
    | _ => exact h.elim
  | halt x w' =>
    cases x <;> first | exact h | exact h.elim
theorem opIn_of_op {ops : Array Oper} {Q : Exit → Act → World → Prop} {l n i : Nat} {K K' : Act → World → Prop} {a : Act} {w : World} (hd : ∀ o ∈ ops, ∀ c, o.op ≠ .defer c) (hQ : ¬ LetsOut Q) (hn : ∀ a w, K a w → K' a w) (h : wpOp P ops Q i K a w) :
    wpOpIn (Fence.wide.inRound l) n P ops Q i K' a w := by
  unfold wpOp at h
  unfold wpOpIn
  cases ho : ops[i]? with
  | none =>
    rw [ho] at h
    exact hn _ _ h
  | some o =>
    rw [ho] at h
    dsimp only at h ⊢
    by_cases hw : Region.wanted o (yielded ops a.tmps) = true
    · rw [if_pos hw] at h ⊢
      rcases h with h | h
      · refine ⟨fun _ _ => trivial, ?_⟩
        rw [Oper.semAt_eq _ _ _ (hd o (Array.mem_of_getElem? ho))]
        exact uponIn_of_upon hn h
      · exact absurd h.2 hQ
    · rw [if_neg hw] at h ⊢
      exact ⟨fun _ _ => trivial, hn _ _ h⟩
theorem anyIn_of_any {md : Region.Mode} {ops : Array Oper} {Q : Exit → Act → World → Prop} {l n : Nat} (hd : ∀ o ∈ ops, ∀ c, o.op ≠ .defer c) (hQ : ¬ LetsOut Q) : ∀ (fuel : Nat) (listed : Array Bool) (a : Act) (w : World),
    wpAny P md ops Q fuel listed a w → wpAnyIn (Fence.wide.inRound l) n P md ops Q fuel listed a w
  | 0, listed, a, w, h => h
  | fuel + 1, listed, a, w, h => ⟨h.1, fun i hi => opIn_of_op hd hQ (fun a w h => anyIn_of_any hd hQ fuel _ a w h) (h.2 i hi)⟩
def noDefer (l : List Oper) : Bool := l.all fun o => match o.op with | .defer _ => false | _ => true
theorem noDefer_all {l : List Oper} (h : noDefer l = true) : ∀ o ∈ l.toArray, ∀ c, o.op ≠ .defer c := by
  intro o ho c e
  have := List.all_eq_true.1 h o (by simpa using ho)
  rw [e] at this
  cases this
theorem wpIn_region_quiet {id : Nat} {Q : Exit → Act → World → Prop} {a : Act} {w : World} {ls : List Oper} {l n : Nat} (hm : P.follows .mixedOrders = true) (hB : Region.lexB .any ls.toArray = true) (hd : noDefer ls = true) (hQ : ¬ LetsOut Q)
    (h : wpQuiet P ls.toArray (fun w' => ∃ n, w' = w.drewN n) (fun a' => ∀ w', (∃ n, w' = w.drewN n) → Q .normal a' w') ls a) : (Code.region id ls.toArray true).wpIn (Fence.wide.inRound l) n P Q a w := by
  simp only [Region.lexB, Bool.and_eq_true] at hB
  refine wpIn_region_any hm (anyIn_of_any (noDefer_all hd) hQ _ _ _ _ (wpAny_of_quiet (C := fun w' => ∃ n, w' = w.drewN n) (Q := fun a' => ∀ w', (∃ n, w' = w.drewN n) → Q .normal a' w') (fun _ w' hw' h => h w' hw') _ _ _ _ ⟨1, rfl⟩ ?_))
  have := wpAnyQ_lex (C := fun w' => ∃ n, w' = w.drewN n) (md := .any) hB.1 ls 0 (Array.replicate ls.length false) a (by simp) (by simpa using hB.2) h
  simpa using this
theorem startIn_ {id n lq nF : Nat} {Q : Exit → Act → World → Prop} {a : Act} {w : World} {ls : List Oper} {S : World → Prop} {ds : List Nat} (l : Array Bool) (hm : P.follows .mixedOrders = true) (hd : noDefer ls = true) (hQ : ¬ LetsOut Q) (hn : ls.toArray.size = n) (hl : Array.replicate n false = l) (hS : S w.drew)
    (h : S w.drew → wpAnyLast P .any ls.toArray Q S ds n l a w.drew) : (Code.region id ls.toArray true).wpIn (Fence.wide.inRound lq) nF P Q a w := by
  subst hn
  subst hl
  exact wpIn_region_any hm (anyIn_of_any (noDefer_all hd) hQ _ _ _ _ (wpAny_of_last _ _ _ _ (h hS)))
end
end Go.Proofs.YtkfikinjlbbibaaDoor
