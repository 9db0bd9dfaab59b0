/- Reading an argument that is a slice of structs of five ints. -/
import Derived.Test.YtjlgfcgdagikgaaDoorRef
import Derived.Test.YtjlgfcgdagikgaaDoorChk
import Derived.Deep.SlicePairs
namespace Go.Proofs.YtjlgfcgdagikgaaDoor.says
open Go.RowKit Go.ChangeShapes Go.WideShapes Go.Deep
set_option linter.unusedVariables false
set_option linter.unusedSimpArgs false

/-- n structs of five ints behind A. -/
def Fives (w : World) (A : Option Addr) (n : Nat) (V : Nat → Nat → Int) : Prop :=
  0 < n → ∃ x, A = some x ∧ ∀ i, i < n → ∀ j, j < 5 → w.cell? (x.add (i * 5 + j)) = some (.int .i64 (V i j)) ∧ fits (V i j)

theorem fives_read {H : Type} {enc : TypeId × Value → H} {P : Program} {W : World} {base : Nat} {spare : Nat → Bool} {held : Bool} {t e : TypeId} {f0 f1 f2 f3 f4 : Field} {a : Option Addr} {len cap : Nat} {d : DataW H} {ps : List MemPlace}
    (ht : P.underlying t = some (.slice e)) (he : P.underlying e = some (.struct #[f0, f1, f2, f3, f4])) (ce : P.cellsOf e = 5) (ti : TypeId) (hi : P.underlying ti = some (.int .i64)) (ci : P.cellsOf ti = 1)
    (t0 : f0.type = ti) (t1 : f1.type = ti) (t2 : f2.type = ti) (t3 : f3.type = ti) (t4 : f4.type = ti)
    (o0 : f0.offset = 0) (o1 : f1.offset = 1) (o2 : f2.offset = 2) (o3 : f3.offset = 3) (o4 : f4.offset = 4)
    (h : DataW.Trod enc P W base spare held t (.slice a len cap) d ps) : len ≤ cap ∧ len ≤ 9223372036854775807 ∧ ∃ V, Fives W a len V := by
  obtain ⟨fuel, hf⟩ := h
  rcases open_slice ht hf with ⟨hc, hx⟩ | ⟨A, len', cap', m, n, D, Pl, hcs, hb, hl, hm, hmm, hx2, hx⟩
  · simp [Value.cells] at hc
    obtain ⟨rfl, rfl, rfl⟩ := hc
    exact ⟨Nat.le_refl _, by decide, fun _ _ => 0, fun h => absurd h (by omega)⟩
  · simp [Value.cells] at hcs
    obtain ⟨rfl, rfl, rfl⟩ := hcs
    have hlm : len ≤ m := by rw [hmm]; split <;> omega
    have each : ∀ i, i < len → ∃ q : Nat → Int, ∀ j, j < 5 → W.cell? (A.add (i * 5 + j)) = some (.int .i64 (q j)) ∧ fits (q j) := by
      intro i hil
      obtain ⟨cs', h1, h2⟩ := hx i (by omega)
      rw [ce] at h1
      obtain ⟨_, hlen, hcell⟩ := World.cells?_some h1
      obtain ⟨xs, k, hk, hxy, _, hxl, hfl⟩ := DataW.trod_struct he h2
      match xs, hxl, cs', hlen with
      | [y0, y1, y2, y3, y4], _, [v0, v1, v2, v3, v4], _ =>
        have g0 := hfl 0 f0 rfl
        have g1 := hfl 1 f1 rfl
        have g2 := hfl 2 f2 rfl
        have g3 := hfl 3 f3 rfl
        have g4 := hfl 4 f4 rfl
        simp [o0, o1, o2, o3, o4, t0, t1, t2, t3, t4, ci] at g0 g1 g2 g3 g4
        obtain ⟨n0, e0, _, w0⟩ := DataW.trod_int hi g0
        obtain ⟨n1, e1, _, w1⟩ := DataW.trod_int hi g1
        obtain ⟨n2, e2, _, w2⟩ := DataW.trod_int hi g2
        obtain ⟨n3, e3, _, w3⟩ := DataW.trod_int hi g3
        obtain ⟨n4, e4, _, w4⟩ := DataW.trod_int hi g4
        have c0 := hcell 0 (by omega)
        have c1 := hcell 1 (by omega)
        have c2 := hcell 2 (by omega)
        have c3 := hcell 3 (by omega)
        have c4 := hcell 4 (by omega)
        rw [add_add] at c0 c1 c2 c3 c4
        have wf : ∀ n : Int, (Lit.int .i64 n).wf = true → fits n := fun n h => by
          simpa [fits, Lit.wf, IntKind.min, IntKind.max, IntKind.signed, IntKind.bits] using h
        simp at e0 e1 e2 e3 e4
        subst e0 e1 e2 e3 e4
        refine ⟨fun j => match j with | 0 => n0 | 1 => n1 | 2 => n2 | 3 => n3 | _ => n4, fun j hj => ?_⟩
        match j, hj with
        | 0, _ => exact ⟨by simpa using c0, wf _ w0⟩
        | 1, _ => exact ⟨by simpa using c1, wf _ w1⟩
        | 2, _ => exact ⟨by simpa using c2, wf _ w2⟩
        | 3, _ => exact ⟨by simpa using c3, wf _ w3⟩
        | 4, _ => exact ⟨by simpa using c4, wf _ w4⟩
        | j + 5, h => exact absurd h (by omega)
    obtain ⟨q, hq⟩ := choose_lt each
    exact ⟨hl, by unfold maxLen at hm; omega, q, fun _ => ⟨A, rfl, hq⟩⟩
end Go.Proofs.YtjlgfcgdagikgaaDoor.says
