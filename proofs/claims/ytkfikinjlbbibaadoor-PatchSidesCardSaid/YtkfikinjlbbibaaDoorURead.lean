/- Packed by this session's own program (wip/tools/pack.py): what the claim needs of its texts. -/
import Derived.Test.YtkfikinjlbbibaaDoorUPTx0
import Derived.Test.YtkfikinjlbbibaaDoorUW
import Derived.Deep.Slices
import Derived.SizedLaws
namespace Go.Proofs.YtkfikinjlbbibaaDoor
open Go.RowKit Go.ChangeShapes Go.WideShapes Go.Deep
open Go.Proofs.YtkfikinjlbbibaaDoorW.PrintWords Go.Proofs.YtkfikinjlbbibaaDoorW.PrintLast
set_option linter.unusedVariables false
set_option linter.unusedSimpArgs false
def Rdr (P : Program) (t : TypeId) {α : Type} (d : Kd α) (good : α → Prop) : Prop :=
  ∀ (H : Type) (enc : TypeId × Value → H) (W : World) (base : Nat) (spare : Nat → Bool) (held : Bool) (fuel : Nat) (cs : List Value) (dd : DataW H) (ps : List MemPlace),
    DataW.trod enc P W base spare held fuel t cs = some (dd, ps) → (∀ n ∈ dd.weights P t, n ≤ reachBytes) → ∃ x, d.K W x cs ∧ good x
theorem Rdr.int {P : Program} {t : TypeId} {k : IntKind} (ht : P.underlying t = some (.int k)) : Rdr P t (Kd.int k) (fun n => (Lit.int k n).wf = true) := by
  intro H enc W base spare held fuel cs dd ps h _
  obtain ⟨n, rfl, _, hw⟩ := DataW.trod_int ht h
  exact ⟨n, rfl, hw⟩
theorem Rdr.string {P : Program} {t : TypeId} (ht : P.underlying t = some .string) : Rdr P t Kd.string (fun s => s.size ≤ reachBytes) := by
  intro H enc W base spare held fuel cs dd ps h hw
  obtain ⟨s, rfl, hx, _⟩ := DataW.trod_string ht h
  injection hx with hd _
  subst hd
  refine ⟨s, rfl, ?_⟩
  have := hw s.data.toList.length (by simp [DataW.weights])
  rw [data_length] at this
  exact this
theorem mem_weightsAll {H : Type} {P : Program} {e : TypeId} : ∀ {l : List (DataW H)} {d : DataW H}, d ∈ l → ∀ n ∈ d.weights P e, n ∈ DataW.weightsAll P e l
  | x :: l, d, h, n, hn => by
    rw [DataW.weightsAll]
    rcases List.mem_cons.1 h with rfl | h
    · exact List.mem_append_left _ hn
    · exact List.mem_append_right _ (mem_weightsAll h n hn)
theorem Rdr.slice {P : Program} {t e : TypeId} {α : Type} {d : Kd α} {good : α → Prop} (q : Nat) (ht : P.underlying t = some (.slice e)) (hc : P.cellsOf e = d.sz) (h : Rdr P e d good) :
    Rdr P t (Kd.slice q d) (fun l => l.length * P.bytesOf e ≤ reachBytes ∧ ∀ x ∈ l, good x) := by
  intro H enc W base spare held fuel cs dd ps hf hw
  rcases open_slice ht hf with ⟨rfl, _⟩ | ⟨A, len, cap, m, n, D, Pl, rfl, hb, hl, hm, hmm, hx2, hx⟩
  · exact ⟨[], ⟨none, 0, rfl, Nat.le_refl _, ⟨rfl, Nat.zero_le _, fun h => absurd h (Nat.lt_irrefl 0)⟩⟩, by simp, fun _ h => absurd h List.not_mem_nil⟩
  · injection hx2 with hd _
    subst hd
    have hlm : len ≤ m := by rw [hmm]; split <;> omega
    have hw' : ∀ i, i < len → ∀ k ∈ (D i).weights P e, k ≤ reachBytes := fun i hi k hk => by
      refine hw k ?_
      simp only [DataW.weights, ht]
      exact List.mem_cons_of_mem _ (List.mem_append_left _ (mem_weightsAll (List.mem_map.2 ⟨i, List.mem_range.2 hi, rfl⟩) k hk))
    have each : ∀ i, i < len → ∃ x : α, good x ∧ ∃ c, c.length = d.sz ∧ d.K W x c ∧ ∀ j u, c[j]? = some u → W.cell? (A.add (i * d.sz + j)) = some u := by
      intro i hi
      obtain ⟨cs', h1, h2⟩ := hx i (by omega)
      rw [hc] at h1
      obtain ⟨_, hlen, hcell⟩ := World.cells?_some h1
      obtain ⟨x, hK, hg⟩ := h H enc W base spare held n cs' _ _ h2 (hw' i hi)
      refine ⟨x, hg, cs', hlen, hK, fun j u hj => ?_⟩
      have hjl : j < cs'.length := (List.getElem?_eq_some_iff.1 hj).1
      have := hcell j (by omega)
      rw [Go.Proofs.YtkfikinjlbbibaaDoorW.PrintWords.add_add] at this
      rw [this, hj]
    have hq : ∃ l : List α, l.length = len ∧ ∀ i x, l[i]? = some x → good x ∧ ∃ c, c.length = d.sz ∧ d.K W x c ∧ ∀ j u, c[j]? = some u → W.cell? (A.add (i * d.sz + j)) = some u := by
      have go : ∀ k, k ≤ len → ∃ l : List α, l.length = k ∧ ∀ i x, l[i]? = some x → good x ∧ ∃ c, c.length = d.sz ∧ d.K W x c ∧ ∀ j u, c[j]? = some u → W.cell? (A.add (i * d.sz + j)) = some u := by
        intro k
        induction k with
        | zero => exact fun _ => ⟨[], rfl, fun i x hx => by simp at hx⟩
        | succ k ih =>
          intro hk
          obtain ⟨l, hll, hlx⟩ := ih (by omega)
          obtain ⟨x, hg, hcx⟩ := each k (by omega)
          refine ⟨l ++ [x], by simp [hll], fun i y hy => ?_⟩
          rcases Nat.lt_or_ge i l.length with hi | hi
          · rw [List.getElem?_append_left hi] at hy
            exact hlx i y hy
          · rw [List.getElem?_append_right hi] at hy
            have h0 : i - l.length = 0 := by
              have := (List.getElem?_eq_some_iff.1 hy).1
              simp at this
              omega
            rw [h0] at hy
            simp at hy
            subst hy
            obtain rfl : i = k := by omega
            exact ⟨hg, hcx⟩
      exact go len (Nat.le_refl _)
    obtain ⟨l, hll, hlx⟩ := hq
    refine ⟨l, ⟨some A, cap, by rw [hll], by omega, ⟨rfl, by unfold maxLen at hm; omega, fun _ => ⟨A, rfl, fun j p hj => ?_⟩⟩⟩, ?_, fun x hxm => ?_⟩
    · obtain ⟨_, c, h1, h2, h3⟩ := hlx j p hj
      exact ⟨c, h1, h2, h3⟩
    · have := hw ((len + (m - len)) * P.bytesOf e) (by simp [DataW.weights, ht])
      rw [hll]
      exact Nat.le_trans (Nat.mul_le_mul_right _ (Nat.le_add_right _ _)) this
    · obtain ⟨i, hi⟩ := List.getElem?_of_mem hxm
      exact (hlx i x hi).1
def RdF (P : Program) (fs : List Field) (off : Nat) {α : Type} (d : Kd α) (good : α → Prop) : Prop :=
  ∀ (H : Type) (enc : TypeId × Value → H) (W : World) (base : Nat) (spare : Nat → Bool) (held : Bool) (fuel : Nat) (cs : List Value) (xs : List (DataW H × List MemPlace)),
    cs.length = off + d.sz → xs.length = fs.length → (∀ (i : Nat) (f : Field), fs[i]? = some f → DataW.trod enc P W base spare held fuel f.type ((cs.drop f.offset).take (P.cellsOf f.type)) = xs[i]?) →
    (∀ n ∈ DataW.weightsEach P (fs.map (·.type)) (xs.map (·.1)), n ≤ reachBytes) → ∃ x, d.K W x (cs.drop off) ∧ good x
theorem RdF.last {P : Program} {f : Field} {off : Nat} {α : Type} {d : Kd α} {good : α → Prop} (ho : f.offset = off) (hc : P.cellsOf f.type = d.sz) (h : Rdr P f.type d good) : RdF P [f] off d good := by
  intro H enc W base spare held fuel cs xs hl hx hf hw
  match xs, hx with
  | [y], _ =>
    have h0 := hf 0 f rfl
    rw [ho, hc, List.take_of_length_le (by rw [List.length_drop]; omega)] at h0
    exact h H enc W base spare held fuel _ _ _ h0 (fun n hn => hw n (by simp only [List.map_cons, List.map_nil, DataW.weightsEach]; exact List.mem_append_left _ hn))
theorem RdF.cons {P : Program} {f : Field} {fs : List Field} {off : Nat} {α β : Type} {a : Kd α} {b : Kd β} {ga : α → Prop} {gb : β → Prop} (ho : f.offset = off) (hc : P.cellsOf f.type = a.sz) (h : Rdr P f.type a ga) (hs : RdF P fs (off + a.sz) b gb) :
    RdF P (f :: fs) off (Kd.pair a b) (fun x => ga x.1 ∧ gb x.2) := by
  intro H enc W base spare held fuel cs xs hl hx hf hw
  match xs, hx with
  | y :: ys, hx =>
    have hsz : (Kd.pair a b).sz = a.sz + b.sz := rfl
    rw [hsz] at hl
    have h0 := hf 0 f rfl
    rw [ho, hc] at h0
    obtain ⟨x, hK, hg⟩ := h H enc W base spare held fuel _ _ _ h0 (fun n hn => hw n (by simp only [List.map_cons, DataW.weightsEach]; exact List.mem_append_left _ hn))
    obtain ⟨z, hK2, hg2⟩ := hs H enc W base spare held fuel cs ys (by omega) (by simpa using hx) (fun i g hi => by have := hf (i + 1) g hi; simpa using this) (fun n hn => hw n (by simp only [List.map_cons, DataW.weightsEach]; exact List.mem_append_right _ hn))
    refine ⟨(x, z), ⟨(cs.drop off).take a.sz, cs.drop (off + a.sz), ?_, hK, hK2⟩, hg, hg2⟩
    conv => lhs; rw [← List.take_append_drop a.sz (cs.drop off)]
    rw [List.drop_drop]
theorem Rdr.struct {P : Program} {t : TypeId} {fs : Array Field} {α β : Type} {d : Kd α} {good : α → Prop} (f : β → α) (hsur : ∀ y, ∃ x, f x = y) (ht : P.underlying t = some (.struct fs)) (hc : P.cellsOf t = d.sz) (h : RdF P fs.toList 0 d good) :
    Rdr P t (Kd.iso d f) (fun x => good (f x)) := by
  intro H enc W base spare held fuel cs dd ps hf hw
  obtain ⟨xs, n, _, hx, hl, hxl, hfl⟩ := DataW.trod_struct ht hf
  injection hx with hd _
  subst hd
  obtain ⟨y, hK, hg⟩ := h H enc W base spare held n cs xs (by rw [hl, hc]; omega) (by simpa using hxl) (fun i g hi => hfl i g (by simpa using hi)) (fun k hk => hw k (by simp only [DataW.weights, ht]; exact hk))
  obtain ⟨x, rfl⟩ := hsur y
  exact ⟨x, hK, hg⟩
theorem RdF.good {P : Program} {fs : List Field} {off : Nat} {α : Type} {d : Kd α} {g g' : α → Prop} (h : RdF P fs off d g) (hg : ∀ x, g x → g' x) : RdF P fs off d g' := by
  intro H enc W base spare held fuel cs xs h1 h2 h3 h4
  obtain ⟨x, a, b⟩ := h H enc W base spare held fuel cs xs h1 h2 h3 h4
  exact ⟨x, a, hg x b⟩
theorem Rdr.good {P : Program} {t : TypeId} {α : Type} {d : Kd α} {g g' : α → Prop} (h : Rdr P t d g) (hg : ∀ x, g x → g' x) : Rdr P t d g' := by
  intro H enc W base spare held fuel cs dd ps h1 h2
  obtain ⟨x, a, b⟩ := h H enc W base spare held fuel cs dd ps h1 h2
  exact ⟨x, a, hg x b⟩
theorem Rdr.arg {P : Program} {t : TypeId} {α : Type} {d : Kd α} {good : List α → Prop} {q : Nat} (h : Rdr P t (Kd.slice q d) good) {H : Type} {enc : TypeId × Value → H} {W : World} {base : Nat} {spare : Nat → Bool} {held : Bool} {A : Option Addr} {len cap : Nat} {dd : DataW H} {ps : List MemPlace}
    (hT : DataW.Trod enc P W base spare held t (.slice A len cap) dd ps) (hw : ∀ n ∈ dd.weights P t, n ≤ reachBytes) : ∃ l, len = l.length ∧ len ≤ cap ∧ d.C W A len l ∧ good l := by
  obtain ⟨fuel, hf⟩ := hT
  obtain ⟨l, ⟨A', c', he, hl, hC⟩, hg⟩ := h H enc W base spare held fuel _ _ _ hf hw
  simp [Value.cells] at he
  obtain ⟨rfl, rfl, rfl⟩ := he
  exact ⟨l, rfl, hl, hC, hg⟩
end Go.Proofs.YtkfikinjlbbibaaDoor
