/- (*strings.byteReplacer).Replace: each byte by the table. -/
import Derived.Test.YtjlgfcgdagikgaaDoorStrs
namespace Go.Proofs.YtjlgfcgdagikgaaDoor.repl
open Go.RowKit
open Go.Proofs.YtjlgfcgdagikgaaDoorW.PrintWords Go.Proofs.YtjlgfcgdagikgaaDoorW.PrintLast Go.Proofs.YtjlgfcgdagikgaaDoorW.PrintMore
set_option linter.unusedVariables false

/-- A row of n bytes that may be written. -/
def Row (w : World) (g n : Nat) (f : Nat → UInt8) : Prop := ∀ j, j < n → w.cell? ⟨g, j, none⟩ = some (.int .u8 (f j).toNat) ∧ w.frozen? ⟨g, j, none⟩ = false
theorem Row.congr {w : World} {g n : Nat} {f f' : Nat → UInt8} (h : Row w g n f) (e : ∀ j, j < n → f j = f' j) : Row w g n f' := fun j hj => by rw [← e j hj]; exact h j hj
theorem Row.set {w : World} {g n : Nat} {f : Nat → UInt8} (h : Row w g n f) (i : Nat) (v : UInt8) : Row (w.setCell ⟨g, i, none⟩ (.int .u8 v.toNat)) g n (fun j => if j = i then v else f j) := by
  intro x hx
  refine ⟨?_, by rw [World.frozen?_setCell]; exact (h x hx).2⟩
  by_cases e : x = i
  · subst e
    rw [World.cell?_setCell_same _ _ _ (h x hx).1]
    simp
  · rw [World.cell?_setCell_other _ _ _ _ (fun h => by injection h; omega)]
    simp only [if_neg e]
    exact (h x hx).1
theorem row_new (w : World) (s : ByteArray) : Row (Lib.bytesWorld w 5 s) w.heap.size s.size (fun j => s.data.toList.getD j 0) := by
  intro j hj
  refine ⟨Lib.bytesWorld_cell w 5 s j hj, ?_⟩
  unfold World.frozen?
  rw [Lib.bytesWorld_at_new]
  have : s.size ≤ (Lib.bytesCells w 5 s).size := by simp [Lib.bytesCells]
  simp
  omega

/-- the byte at i -/
def at_ (s : ByteArray) (i : Nat) : UInt8 := s.data.toList.getD i 0
theorem at_get (s : ByteArray) (i : Nat) (h : i < s.size) : s[i] = at_ s i := by
  unfold at_
  have hj2 : i < s.data.toList.length := by simpa using h
  rw [List.getD_eq_getElem?_getD, List.getElem?_eq_getElem hj2]
  simp [ByteArray.getElem_eq_getElem_data]

def mapB (T : UInt8 → UInt8) (s : ByteArray) : ByteArray := ⟨(s.data.toList.map T).toArray⟩

theorem at_list (s : ByteArray) (i : Nat) (h : i < s.data.toList.length) : s.data.toList[i] = at_ s i := by
  unfold at_
  rw [List.getD_eq_getElem?_getD, List.getElem?_eq_getElem h]
  rfl
theorem mapB_id (T : UInt8 → UInt8) (s : ByteArray) (h : ∀ j, j < s.size → T (at_ s j) = at_ s j) : mapB T s = s := by
  have : s.data.toList.map T = s.data.toList := by
    apply List.ext_getElem (by simp)
    intro j h1 h2
    rw [List.getElem_map, at_list s j h2]
    exact h j (by simpa using h2)
  unfold mapB
  rw [this]
theorem back_map (T : UInt8 → UInt8) (s : ByteArray) (g cap : Nat) (w : World) (h : Row w g s.size (fun j => if j < s.size then T (at_ s j) else at_ s j)) :
    (convert 55 9 (.slice (some ⟨g, 0, none⟩) s.size cap)).run Tryd.prog w = .ok (.string (mapB T s)) w := by
  have hl : (s.data.toList.map T).length = s.size := by simp
  have := run_convert_bytes_back (P := Tryd.prog) w 55 9 5 ⟨g, 0, none⟩ cap (s.data.toList.map T) Tryd.underlying55 Tryd.underlying5 Tryd.underlying9 (fun j hj => by
    have hj2 : j < s.data.toList.length := by simpa using hj
    have hj3 : j < s.size := by simpa using hj
    rw [show (⟨g, 0, none⟩ : Addr).add j = ⟨g, j, none⟩ by unfold Addr.add; split <;> simp_all, (h j hj3).1]; dsimp only; rw [if_pos hj3, List.getElem_map, at_list s j hj2])
  rw [hl] at this
  exact this

set_option maxHeartbeats 4000000 in
set_option maxRecDepth 100000 in
theorem replace_bytes (b : Nat) (F : Nat → Value) (T : UInt8 → UInt8) (s : ByteArray) (w : World) (hT : Tab w b F) (hF : ∀ c : UInt8, F c.toNat = .int .u8 (T c).toNat) (hs : s.size ≤ 9223372036854775806) :
    Calls Tryd.prog 92 #[.pointer (some ⟨b, 0, none⟩), .string s] w fun e w' => e = .returned (.string (mapB T s)) ∧ Below w.heap.size w w' := by
  have HT := Aside0.mk hT
  have HF := Aside0.mk hF
  have HS := Aside0.mk hs
  clear hT hF hs
  have heq : ∀ w : World, (binOp .eql 55 (.slice none 0 0) (.slice none 0 0)).run Tryd.prog w = .ok (.bool true) w := fun _ => rfl
  have heq2 : ∀ (a : Addr) (n c : Nat) (w : World), (binOp .eql 55 (.slice (some a) n c) (.slice none 0 0)).run Tryd.prog w = .ok (.bool false) w := fun _ _ _ _ => rfl
  go_enter Tryd.func92, Tryd.ntmps92
  go_wp2_with (fail)
  go_loopg [5, 6, 7] s.size (fun g v5 v6 _ wx => ∃ i : Nat, i + g = s.size ∧ v6 = .int .i64 i ∧ Aside0 (Below w.heap.size w wx) ∧
    ((v5 = .slice none 0 0 ∧ Aside0 (∀ j, j < i → T (at_ s j) = at_ s j)) ∨ ∃ g2 cap, v5 = .slice (some ⟨g2, 0, none⟩) s.size cap ∧ Aside0 (w.heap.size ≤ g2 ∧ Row wx g2 s.size (fun j => if j < i then T (at_ s j) else at_ s j))))
  case atStart => exact ⟨0, by omega, rfl, ⟨Below.refl _ _⟩, .inl ⟨rfl, ⟨fun j h => by omega⟩⟩⟩
  case round =>
    obtain ⟨i, hi, rfl, HB, hcase⟩ := hrel
    by_cases hin : i < s.size
    · obtain ⟨c, hc⟩ : ∃ c, c = at_ s i := ⟨_, rfl⟩
      have hg : ∀ h : i < s.size, s[i]'h = c := fun h => by rw [hc]; exact at_get s i h
      obtain ⟨hx, hz⟩ := HT.out c.toNat c.toNat_lt
      have hx := pw_cell_below HB.out hx
      rw [HF.out c] at hx
      have q1 : (i : Int) < s.size := by omega
      have q3 : ((c.toNat : Nat) : Int) < 256 := by have := c.toNat_lt; omega
      have q4 : c.toNat < 256 := c.toNat_lt
      have q5 : IntKind.i64.wrap ((i : Int) + 1) = i + 1 := by have := HS.out; rw [IntKind.wrap_i64]; omega
      have HC := Aside0.mk hc
      clear hz hc
      by_cases ht : T c = c
      · have q6 : ((((T c).toNat : Nat) : Int) != ((c.toNat : Nat) : Int)) = false := by rw [ht]; exact bne_self_eq_false _
        have HTC := Aside0.mk ht
        clear ht
        have HCase := Aside0.mk hcase
        clear hcase
        go_wp2_with (fail)
        go_roundg (s.size - (i + 1))
        case measure => omega
        case rel =>
          refine ⟨i + 1, by omega, by first | rfl | simp, HB, ?_⟩
          rcases HCase.out with ⟨h1, h2⟩ | ⟨g2, cap, h1, h2, h3⟩
          · refine .inl ⟨h1, ⟨fun j hj => ?_⟩⟩
            rcases Nat.lt_succ_iff_lt_or_eq.1 hj with h | h
            · exact h2.out j h
            · rw [h, ← HC.out]; exact HTC.out
          · refine .inr ⟨g2, cap, h1, h2, h3.congr (fun j _ => ?_)⟩
            by_cases h : j < i
            · rw [if_pos h, if_pos (by omega)]
            · rw [if_neg h]
              by_cases h' : j < i + 1
              · have : j = i := by omega
                rw [if_pos h', this, ← HC.out, HTC.out]
              · rw [if_neg h']
      · have q6 : ((((T c).toNat : Nat) : Int) != ((c.toNat : Nat) : Int)) = true := by
          rw [bne_iff_ne]
          intro h
          exact ht (UInt8.toNat_inj.1 (by omega))
        clear ht
        have hcv := Lib.run_convert_string_bytes (P := Tryd.prog) wr 9 55 5 s Tryd.underlying9 Tryd.underlying55 Tryd.underlying5
        have hx2 := (Lib.bytesWorld_old wr 5 s ⟨b, c.toNat, none⟩ (World.block_lt_of_cell? _ _ hx)).trans hx
        rcases hcase with ⟨rfl, h2⟩ | ⟨g2, cap, rfl, h2⟩
        · obtain ⟨hy, hy2⟩ := row_new wr s i hin
          go_wp2_with (fail)
          go_roundg (s.size - (i + 1))
          case measure => omega
          case rel =>
            refine ⟨i + 1, by omega, by first | rfl | simp, ?_, .inr ⟨_, _, rfl, ⟨?_, ?_⟩⟩⟩
            · exact ⟨(HB.out.grown (grown_bytes _ 5 s) HB.out.size (fun k e => by simp at e)).setCell HB.out.size _⟩
            · exact HB.out.size
            · exact ((row_new wr s).set i (T c)).congr (fun j _ => by
                by_cases h : j = i
                · rw [if_pos h, if_pos (by omega), h, ← HC.out]
                · rw [if_neg h]
                  by_cases h' : j < i + 1
                  · rw [if_pos h', h2.out j (by omega)]; rfl
                  · rw [if_neg h']; rfl)
        · obtain ⟨hy, hy2⟩ := h2.out.2 i hin
          go_wp2_with (fail)
          go_roundg (s.size - (i + 1))
          case measure => omega
          case rel =>
            refine ⟨i + 1, by omega, by first | rfl | simp, ?_, .inr ⟨_, _, rfl, ⟨h2.out.1, ?_⟩⟩⟩
            · exact ⟨HB.out.setCell h2.out.1 _⟩
            · exact (h2.out.2.set i (T c)).congr (fun j _ => by
                by_cases h : j = i
                · rw [if_pos h, if_pos (by omega), h, ← HC.out]
                · rw [if_neg h]
                  by_cases h' : j < i
                  · rw [if_pos h', if_pos (by omega)]
                  · rw [if_neg h', if_neg (by omega)])
    · obtain rfl : i = s.size := by omega
      rcases hcase with ⟨rfl, h2⟩ | ⟨g2, cap, rfl, h2⟩
      · go_wp2_with (fail)
        go_ret
        refine ⟨?_, HB.out⟩
        rw [mapB_id T s h2.out]
        rfl
      · have hcv := back_map T s g2 cap wr h2.out.2
        go_wp2_with (fail)
        go_ret
        exact ⟨rfl, HB.out⟩
end Go.Proofs.YtjlgfcgdagikgaaDoor.repl
