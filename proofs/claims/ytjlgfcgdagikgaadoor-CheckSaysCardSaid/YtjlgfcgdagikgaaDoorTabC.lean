/- The table of words, as the row's list lays it; vellumlaw12.said. -/
import Derived.Test.YtjlgfcgdagikgaaDoorDec
import Derived.Test.YtjlgfcgdagikgaaDoorChk
import Derived.Test.YtjlgfcgdagikgaaDoorFives
import Derived.OpenShut
namespace Go.Proofs.YtjlgfcgdagikgaaDoor.says
open Go.RowKit Go.ChangeShapes Go.WideShapes
open Go.Proofs.YtjlgfcgdagikgaaDoor.repl Go.Proofs.YtjlgfcgdagikgaaDoor.PCheckSays
open Go.Proofs.YtjlgfcgdagikgaaDoorW.PrintWords Go.Proofs.YtjlgfcgdagikgaaDoorW.PrintLast Go.Proofs.YtjlgfcgdagikgaaDoorW.PrintMore
set_option linter.unusedVariables false
set_option linter.unusedSimpArgs false

/-- An array of strings that reads as zs holds them. -/
theorem strs_cells {H : Type} {enc : TypeId × Value → H} {P : Program} {w : World} {base : Nat} {sp : Nat → Bool} {held : Bool} {fuel : Nat} {t e : TypeId} {n : Nat} {cs : List Value} {zs : List (List UInt8)} {p : List MemPlace}
    (ht : P.underlying t = some (.array n e)) (he : P.underlying e = some .string) (hce : P.cellsOf e = 1)
    (h : DataW.trod enc P w base sp held fuel t cs = some (.agg (zs.map fun z => .lit (.string z)), p)) (k : Nat) (hk : k < zs.length) : cs[k]? = some (.string ⟨(zs.getD k []).toArray⟩) := by
  obtain ⟨xs, m, hm, hx, hlen, hxl, hel⟩ := DataW.trod_array ht h
  have hkn : k < n := by
    have h1 : (xs.map (·.1)).length = zs.length := by
      have := congrArg (fun d => d) hx
      simp only [Prod.mk.injEq, DataW.agg.injEq] at hx
      rw [← hx.1]; simp
    simp at h1
    omega
  have h2 := hel k hkn
  rw [hce, Nat.mul_one] at h2
  have hxk : ∃ y, xs[k]? = some y := ⟨xs[k]'(by omega), List.getElem?_eq_getElem (by omega)⟩
  obtain ⟨y, hy⟩ := hxk
  rw [hy] at h2
  obtain ⟨s, hs, hys, _⟩ := DataW.trod_string he h2
  have h3 : cs[k]? = some (.string s) := by
    have := congrArg (fun l : List Value => l[0]?) hs
    simpa [List.getElem?_take, List.getElem?_drop] using this
  simp only [Prod.mk.injEq, DataW.agg.injEq] at hx
  have h4 : (xs.map (·.1))[k]? = some (DataW.lit (.string (zs.getD k [])) : DataW H) := by
    rw [← hx.1, List.getElem?_map, List.getElem?_eq_getElem hk, List.getD_eq_getElem?_getD, List.getElem?_eq_getElem hk]
    rfl
  rw [List.getElem?_map, hy, hys] at h4
  simp only [Option.map_some, Option.some.injEq, DataW.lit.injEq, Lit.string.injEq] at h4
  rw [h3, ← h4]

def wordsC : List (List UInt8) := [
  [],
  [110, 111, 100, 101, 32, 78, 58, 32, 98, 114, 111, 107, 101, 110, 32, 115, 108, 111, 116],
  [110, 111, 100, 101, 32, 49, 32, 105, 115, 32, 110, 111, 32, 114, 111, 111, 116],
  [110, 111, 100, 101, 32, 78, 58, 32, 115, 105, 122, 101, 32, 79, 32, 109, 97, 121, 32, 110, 111, 116, 32, 98, 101],
  [110, 111, 100, 101, 32, 78, 58, 32, 105, 110, 100, 101, 120, 32, 73, 44, 32, 100, 101, 112, 116, 104, 32, 79, 58, 32, 112, 111, 105, 110, 116, 101, 114, 32, 66, 32, 111, 117, 116, 32, 111, 102, 32, 114, 97, 110, 103, 101],
  [110, 111, 100, 101, 32, 78, 58, 32, 105, 110, 100, 101, 120, 32, 73, 44, 32, 100, 101, 112, 116, 104, 32, 79, 58, 32, 98, 108, 111, 99, 107, 32, 66, 32, 105, 115, 32, 111, 119, 110, 101, 100, 32, 97, 108, 114, 101, 97, 100, 121],
  [110, 111, 100, 101, 32, 78, 58, 32, 105, 110, 100, 101, 120, 32, 73, 58, 32, 98, 108, 111, 99, 107, 32, 66, 32, 98, 101, 104, 105, 110, 100, 32, 116, 104, 101, 32, 115, 105, 122, 101],
  [110, 111, 100, 101, 32, 78, 58, 32, 105, 110, 100, 101, 120, 32, 73, 44, 32, 100, 101, 112, 116, 104, 32, 79, 58, 32, 98, 108, 111, 99, 107, 32, 66, 32, 104, 97, 115, 32, 110, 111, 32, 112, 111, 105, 110, 116, 101, 114],
  [110, 111, 100, 101, 32, 78, 58, 32, 111, 119, 110, 115, 32, 79],
  [110, 111, 100, 101, 32, 78, 58, 32, 105, 110, 100, 101, 120, 32, 73, 58, 32, 98, 108, 111, 99, 107, 32, 66, 32, 104, 97, 115, 32, 98, 121, 116, 101, 115, 32, 98, 101, 104, 105, 110, 100, 32, 116, 104, 101, 32, 115, 105, 122, 101],
  [98, 108, 111, 99, 107, 32, 66, 58, 32, 98, 105, 116, 32, 79],
  [110, 111, 100, 101, 32, 78, 58, 32, 98, 105, 116, 32, 79],
  [110, 111, 100, 101, 32, 78, 58, 32, 115, 108, 111, 116, 32, 73, 58, 32, 98, 114, 111, 107, 101, 110, 32, 101, 110, 116, 114, 121],
  [110, 111, 100, 101, 32, 78, 58, 32, 115, 108, 111, 116, 32, 73, 58, 32, 97, 32, 110, 97, 109, 101, 32, 116, 119, 105, 99, 101],
  [110, 111, 100, 101, 32, 78, 58, 32, 115, 108, 111, 116, 32, 73, 58, 32, 101, 110, 116, 114, 121, 32, 111, 102, 32, 110, 111, 100, 101, 32, 79],
  [110, 111, 100, 101, 32, 78, 58, 32, 105, 110, 100, 101, 120, 32, 73, 58, 32, 104, 111, 108, 101, 32, 105, 110, 32, 97, 32, 100, 105, 114, 101, 99, 116, 111, 114, 121],
  [110, 111, 100, 101, 32, 78, 58, 32, 108, 97, 115, 116, 32, 98, 108, 111, 99, 107, 32, 119, 105, 116, 104, 111, 117, 116, 32, 97, 110, 32, 101, 110, 116, 114, 121],
  [110, 111, 100, 101, 32, 78, 58, 32, 108, 105, 110, 107, 115, 32, 115, 104, 111, 117, 108, 100, 32, 98, 101, 32, 79],
  [110, 111, 100, 101, 32, 78, 58, 32, 104, 97, 110, 103, 115, 32, 119, 114, 111, 110, 103, 32, 79],
  [110, 111, 100, 101, 32, 78, 58, 32, 119, 105, 116, 104, 111, 117, 116, 32, 97, 32, 110, 97, 109, 101],
  [110, 111, 100, 101, 32, 78, 58, 32, 110, 111, 116, 32, 98, 101, 108, 111, 119, 32, 116, 104, 101, 32, 114, 111, 111, 116],
  [110, 111, 100, 101, 32, 78, 58, 32, 116, 101, 120, 116, 32, 119, 105, 116, 104, 32, 97, 32, 122, 101, 114, 111]]
abbrev Words (w : World) : Prop := ∀ k, k < 22 → w.cell? ⟨0, k, none⟩ = some (.string ⟨(wordsC.getD k []).toArray⟩)
theorem wordC_at : ∀ j : Fin 21, check_saying.f ((j.1 + 1 : Nat) : Int) = some ⟨(wordsC.getD (j.1 + 1) []).toArray⟩ ∧ (⟨(wordsC.getD (j.1 + 1) []).toArray⟩ : ByteArray).toList.isEmpty = false := by
  decide +kernel
theorem wordC_none (k : Int) (h : k < 1 ∨ 21 < k) : check_saying.f k = some ⟨#[]⟩ := by
  unfold check_saying.f
  repeat rw [if_neg (by omega)]
end Go.Proofs.YtjlgfcgdagikgaaDoor.says
