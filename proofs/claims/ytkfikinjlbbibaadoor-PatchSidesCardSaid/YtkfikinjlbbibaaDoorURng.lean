/- Packed by this session's own program (wip/tools/pack.py): what the claim needs of its texts. -/
import Derived.RangeFuncNested
import Derived.RangeFuncBound
import Derived.RangeFuncCalls
import Derived.RangeFuncLeaves
import Derived.WalkKit
import Derived.OwnWalkIn
import Derived.TacticsInMore
namespace Go.Proofs.YtkfikinjlbbibaaDoor
open Go.RowKit
set_option linter.unusedVariables false
set_option linter.unusedSimpArgs false
def Still (B : Nat) (A C : World) : Prop := A.heap.size ≤ C.heap.size ∧ ∀ k o, B ≤ k → A.heap[k]? = some o → o.isCells = false → C.heap[k]? = some o
theorem Still.refl (B : Nat) (A : World) : Still B A A := ⟨Nat.le_refl _, fun _ _ _ h _ => h⟩
theorem Still.trans {B : Nat} {X Y Z : World} (h : Still B X Y) (k : Still B Y Z) : Still B X Z := ⟨Nat.le_trans h.1 k.1, fun i o hB hi ho => k.2 i o hB (h.2 i o hB hi ho) ho⟩
theorem Still.below {B : Nat} {X Y : World} (h : Below X.heap.size X Y) : Still B X Y := ⟨h.size, fun i o _ hi _ => (h.block i (Array.getElem?_eq_some_iff.1 hi).1).trans hi⟩
section
variable {P : Program} {α : Type}
def Tells (P : Program) (gf : Nat) (lb : Array Value) (encs : α → Array Value) (Good : List α → α → World → Prop) (St Kp : World → World → Prop) (S : List α → Prop) (w : World) : Prop :=
  ∀ (l : Nat) (J : List α → World → Prop) (W : World), Below w.heap.size w W →
    (∀ pre A B, J pre A → St A B → J pre B) →
    (∀ pre x A, J pre A → Good pre x A → YieldAt Fence.wide 0 P l (encs x) A fun e B => e = .returned (.bool true) ∧ J (pre ++ [x]) B ∧ Kp A B) →
    J [] W → Calls P gf (#[.func (.yield l) #[] #[]] ++ lb) W fun e B => (∃ v, e = .returned v) ∧ ∃ xs, S xs ∧ J xs B
theorem range_over {g : Operand} {ps : Array Tmp} {assign body : Code} {Q : Exit → Act → World → Prop} {a : Act} {w : World} {gf : Nat} {lb : Array Value}
    (hg : a.eval g = .func (.func gf) #[] lb) (eg : ∀ args w, (callFunc gf args).run P w = .ok (.enter gf args) w)
    {encs : α → Array Value} (hps : ∀ x, (encs x).size = ps.size) {Good : List α → α → World → Prop} {St Kp : World → World → Prop} {S : List α → Prop}
    (hseq : Tells P gf lb encs Good St Kp S w)
    (I : List α → World → Prop) (a₁ : α → Act)
    (hSt : ∀ A B, St A B → Still w.heap.size A B)
    (hISt : ∀ pre A B, I pre A → St A B → I pre B)
    (hIp : ∀ pre W l o o', I pre W → w.heap.size ≤ l → W.heap[l]? = some o → o.isCells = false → I pre (W.putObj l o'))
    (hGp : ∀ pre x W l o o', Good pre x W → w.heap.size ≤ l → W.heap[l]? = some o → o.isCells = false → Good pre x (W.putObj l o'))
    (hKp : ∀ A B l o o1 p o2, w.heap.size ≤ l → A.heap[l]? = some o → o.isCells = false → Kp (A.putObj l o1) B → B.heap[l]? = some p → p.isCells = false → Kp A (B.putObj l o2))
    (h0 : ∀ o o', I [] ((w.alloc o).alloc o'))
    (hassign : ∀ (l : Nat) (x : α) (W : World) (K : Act → World → Prop), K (a₁ x) W →
      assign.wpIn (Fence.wide.inRound l) 0 P (Exit.then K (fun _ _ _ => False)) { tmps := (ps.zip (encs x)).foldl (fun t (p, v) => t.setIfInBounds p v) a.tmps, defers := [] } W)
    (hbody : ∀ (l : Nat) (pre : List α) (x : α) (W : World), I pre W → Good pre x W → body.wpIn (Fence.wide.inRound l) 0 P (fun e _ B => e = .normal ∧ I (pre ++ [x]) B ∧ Kp W B ∧ Still w.heap.size W B) (a₁ x) W)
    (hdone : ∀ xs W, S xs → w.heap.size < W.heap.size → I xs W → W.heap[w.heap.size]? = some (.deferred (some [])) → Q .normal { a with defers := { target := .collected w.heap.size, args := #[] } :: a.defers } W) :
    (Code.rangeFunc g ps assign body).wp P Q a w := by
  refine (wpIn_wide (n := 1)).1 (wpIn_rangeFunc (fun fn hfn => ?_))
  obtain ⟨rec, hrec⟩ : ∃ rec : LoopState → Option Code → Loop, rec = fun st pe => { state := st, pending := pe, fn, tmps := a.tmps, params := ps, assign, body, defers := w.heap.size } := ⟨_, rfl⟩
  obtain ⟨s, hs⟩ : ∃ s, s = w.heap.size := ⟨_, rfl⟩
  obtain ⟨W1, hW1⟩ : ∃ W1, W1 = (w.alloc (.deferred (some []))).alloc (.loop (rec .ready none)) := ⟨_, rfl⟩
  have hD1 : W1.heap[s]? = some (.deferred (some [])) := by
    rw [hW1, hs]
    exact (Below.heap_alloc _ _ _ (by simp)).trans (World.alloc_heap_new w _)
  have hL1 : W1.heap[s + 1]? = some (.loop (rec .ready none)) := by
    rw [hW1, hs]
    have := World.alloc_heap_new (w.alloc (.deferred (some []))) (.loop (rec .ready none))
    rwa [World.size_alloc] at this
  have hB1 : Below w.heap.size w W1 := by
    rw [hW1]
    exact ((Below.refl _ w).alloc (Nat.le_refl _) _).alloc (by simp) _
  refine ⟨s + 1, [{ target := .collected s, args := #[] }], W1, { target := .fn (.func gf) lb, args := #[.func (.yield (s + 1)) #[] #[]] }, W1, gf, #[.func (.yield (s + 1)) #[] #[]] ++ lb, W1, ?_, ?_, fun f' hf' => trivial, ?_, ?_, ?_⟩
  · rw [hW1, hrec, hs]
    exact run_enterLoop_outer _ _ _ _ _
  · simp only [resolve, hg]
    simp [go_sem]
  · simp [invoke, go_sem, eg]
  · intro h
    cases h
  · refine callsIn_wide.2 ((hseq (s + 1) (fun pre W => I pre W ∧ W.heap[s + 1]? = some (.loop (rec .ready none)) ∧ W.heap[s]? = some (.deferred (some []))) W1 hB1 ?_ ?_ ⟨hW1 ▸ h0 _ _, hL1, hD1⟩).mono ?_)
    · rintro pre A B ⟨hi, hl, hd⟩ hab
      exact ⟨hISt _ _ _ hi hab, (hSt _ _ hab).2 _ _ (by omega) hl rfl, (hSt _ _ hab).2 _ _ (by omega) hd rfl⟩
    · rintro pre x A ⟨hi, hl, hd⟩ hgood
      have hlt := (Array.getElem?_eq_some_iff.1 hl).1
      have hy := run_yield (P := P) (args := encs x) hl (by rw [hrec]; exact hps x)
      rw [hrec] at hy
      refine ⟨fn, _, assign, body, hy, roundIn_of_wpIn hfn (hassign _ x A _ ⟨_, run_beginRound hl (by rw [hrec]), ?_⟩)⟩
      have hl2 : (A.putObj (s + 1) (.loop { rec .ready none with state := .busy })).heap[s + 1]? = some (.loop { rec .ready none with state := .busy }) := World.putObj_heap_same hlt
      have hd2 : (A.putObj (s + 1) (.loop { rec .ready none with state := .busy })).heap[s]? = some (.deferred (some [])) := (World.putObj_heap_other (by omega)).trans hd
      refine wpIn_mono (hbody _ pre x _ (hIp _ _ _ _ _ hi (by omega) hl rfl) (hGp _ _ _ _ _ _ hgood (by omega) hl rfl)) ?_
      rintro e a3 B ⟨rfl, hi3, hk3, hs3⟩
      have hl3 := hs3.2 _ _ (by omega) hl2 rfl
      have hd3 := hs3.2 _ _ (by omega) hd2 rfl
      have hr := run_endRound (P := P) none hl3
      have hlt3 := (Array.getElem?_eq_some_iff.1 hl3).1
      refine ⟨_, _, hr, rfl, ⟨hIp _ _ _ _ _ hi3 (by omega) hl3 rfl, ?_, (World.putObj_heap_other (by omega)).trans hd3⟩, hKp _ _ _ _ _ _ _ (by omega) hl rfl hk3 hl3 rfl⟩
      rw [World.putObj_heap_same hlt3, hrec]
      rfl
    · rintro e B ⟨⟨v, rfl⟩, xs, hxs, hi, hl, hd⟩
      have hr := run_endLoop (P := P) hl (by rw [hrec]; simp)
      refine ⟨_, _, hr, ?_⟩
      rw [hrec]
      rw [hs] at hd hl ⊢
      have h2 := (Array.getElem?_eq_some_iff.1 hd).1
      exact hdone _ _ hxs (by simpa [World.putObj] using h2) (hIp _ _ _ _ _ hi (by omega) hl rfl) ((World.putObj_heap_other (by omega)).trans hd)
end
end Go.Proofs.YtkfikinjlbbibaaDoor
