/- SalvageSays: the walk. -/
import Derived.Test.YtjlgfcgdagikgaaDoorFives
namespace Go.Proofs.YtjlgfcgdagikgaaDoor.says
open Go.RowKit Go.Deep
open Go.Proofs.YtjlgfcgdagikgaaDoor.repl
open Go.Proofs.YtjlgfcgdagikgaaDoorW.PrintWords Go.Proofs.YtjlgfcgdagikgaaDoorW.PrintLast Go.Proofs.YtjlgfcgdagikgaaDoorW.PrintMore
set_option linter.unusedVariables false
set_option linter.unusedSimpArgs false

theorem loose : savSay 17 12 0 0 0 = ⟨#[110, 111, 100, 101, 32, 49, 50, 58, 32, 108, 111, 111, 115, 101]⟩ := by
  decide +kernel
theorem fits_small (n : Nat) (h : n < 1000) : fits n := ⟨by omega, by omega⟩

abbrev Row5 (w1 : World) (y : Addr) (k a b c d : Int) (w' : World) : Prop :=
  w'.cell? y = some (.int .i64 k) ∧ w'.cell? ⟨y.block, y.off + 1, none⟩ = some (.int .i64 a) ∧ w'.cell? ⟨y.block, y.off + 2, none⟩ = some (.int .i64 b) ∧ w'.cell? ⟨y.block, y.off + 3, none⟩ = some (.int .i64 c) ∧ w'.cell? ⟨y.block, y.off + 4, none⟩ = some (.int .i64 d) ∧ Aside0 (Below w1.heap.size w1 w')
theorem row_five {w w1 : World} {x y : Addr} {i : Nat} {V : Nat → Nat → Int} (hy : y = x.add (i * 5)) (hb : Below w.heap.size w w1) (h : ∀ j, j < 5 → w.cell? (x.add (i * 5 + j)) = some (.int .i64 (V i j)) ∧ fits (V i j)) :
    (w1.cell? y = some (.int .i64 (V i 0)) ∧ w1.cell? ⟨y.block, y.off + 1, none⟩ = some (.int .i64 (V i 1)) ∧ w1.cell? ⟨y.block, y.off + 2, none⟩ = some (.int .i64 (V i 2)) ∧ w1.cell? ⟨y.block, y.off + 3, none⟩ = some (.int .i64 (V i 3)) ∧ w1.cell? ⟨y.block, y.off + 4, none⟩ = some (.int .i64 (V i 4))) ∧
      fits (V i 1) ∧ fits (V i 2) ∧ fits (V i 3) ∧ fits (V i 4) ∧ y.block < w1.heap.size := by
  subst hy
  have e : ∀ j, j < 5 → w1.cell? ((x.add (i * 5)).add j) = some (.int .i64 (V i j)) := fun j hj => by rw [Deep.add_add]; exact pw_cell_below hb (h j hj).1
  have e0 := e 0 (by omega)
  have e00 : w1.cell? (x.add (i * 5)) = some (.int .i64 (V i 0)) := by simpa [Addr.add] using e0
  have ad : ∀ j, j ≠ 0 → (x.add (i * 5)).add j = ⟨(x.add (i * 5)).block, (x.add (i * 5)).off + j, none⟩ := fun j hj => by simp [Addr.add, hj]
  exact ⟨⟨e00, by rw [← ad 1 (by omega)]; exact e 1 (by omega), by rw [← ad 2 (by omega)]; exact e 2 (by omega), by rw [← ad 3 (by omega)]; exact e 3 (by omega), by rw [← ad 4 (by omega)]; exact e 4 (by omega)⟩, (h 1 (by omega)).2, (h 2 (by omega)).2, (h 3 (by omega)).2, (h 4 (by omega)).2, World.block_lt_of_cell? _ _ e00⟩
theorem row5_start {w1 : World} {y : Addr} {k a b c d : Int} (h : w1.cell? y = some (.int .i64 k) ∧ w1.cell? ⟨y.block, y.off + 1, none⟩ = some (.int .i64 a) ∧ w1.cell? ⟨y.block, y.off + 2, none⟩ = some (.int .i64 b) ∧ w1.cell? ⟨y.block, y.off + 3, none⟩ = some (.int .i64 c) ∧ w1.cell? ⟨y.block, y.off + 4, none⟩ = some (.int .i64 d)) : Row5 w1 y k a b c d w1.drew :=
  ⟨h.1, h.2.1, h.2.2.1, h.2.2.2.1, h.2.2.2.2, ⟨below_drew (Below.refl _ _)⟩⟩
theorem add_block (y : Addr) (j : Nat) : (y.add j).block = y.block := by unfold Addr.add; split <;> rfl
theorem row5_below {w1 w w' : World} {y : Addr} {k a b c d : Int} {B : Nat} (hb : Below B w w') (hB : w1.heap.size ≤ B) (hy : y.block < w1.heap.size) (h : Row5 w1 y k a b c d w) : Row5 w1 y k a b c d w' := by
  have e : ∀ j, w'.cell? ⟨y.block, y.off + j, none⟩ = w.cell? ⟨y.block, y.off + j, none⟩ := fun j => hb.cell (by show y.block < B; omega)
  have e0 : w'.cell? y = w.cell? y := hb.cell (by omega)
  obtain ⟨h0, h1, h2, h3, h4, h5⟩ := h
  exact ⟨by rw [e0]; exact h0, by rw [e]; exact h1, by rw [e]; exact h2, by rw [e]; exact h3, by rw [e]; exact h4, ⟨h5.out.trans (hb.mono hB)⟩⟩

set_option maxRecDepth 100000 in
set_option maxHeartbeats 8000000 in
theorem salvage_walk (A : Option Addr) (n c : Nat) (V : Nat → Nat → Int) (w : World) (hV : Fives w A n V) (hn : n ≤ 9223372036854775807) (ht : Tabs w) :
    Calls Tryd.prog 3 #[.slice A n c] w fun e w' => e = .returned (.bool true) ∧ Below w.heap.size w w' := by
  have HT := Aside0.mk ht
  have HV := Aside0.mk hV
  have HN := Aside0.mk hn
  clear ht hV hn
  go_enter Tryd.func3, Tryd.ntmps3
  go_wp2_with (go_at_call 5; refine (sav_say 17 12 0 0 0 (fits_small 12 (by decide)) (fits_small 0 (by decide)) (fits_small 0 (by decide)) (fits_small 0 (by decide)) _ HT.out).mono ?_; rintro e w2 ⟨rfl, hb2⟩; rw [loose]; have HB2 := Aside0.mk hb2; clear hb2)
  go_loopg [3] n (fun g v3 wx => ∃ i : Nat, i + g = n ∧ v3 = .int .i64 i ∧ Aside0 (Below w.heap.size w wx))
  case atStart => exact ⟨0, by omega, rfl, HB2⟩
  case round =>
    clear HB2
    obtain ⟨i, hi, rfl, HB⟩ := hrel
    by_cases hin : i < n
    · obtain ⟨x, hx, hc⟩ := HV.out (by omega)
      subst hx
      have q1 : (i : Int) < n := by omega
      have HC := Aside0.mk (hc i hin)
      clear hc
      go_upto_region 6 with (fail)
      have HF := Aside0.mk (row_five (y := x.add (i * 5)) rfl HB.out HC.out)
      have HT2 := Aside0.mk (tab_below HT.out HB.out)
      go_region_held3 (fun w' => Row5 wr (x.add (i * 5)) (V i 0) (V i 1) (V i 2) (V i 3) (V i 4) w')
        (first | exact row5_start HF.out.1 | (go_split_ands; exact row5_below (by assumption) (Aside0.out (by assumption : Aside0 (Below wr.heap.size wr _))).size HF.out.2.2.2.2.2 ⟨by assumption, by assumption, by assumption, by assumption, by assumption, by assumption⟩))
        (first
          | (go_at_call 5; refine (sav_say (V i 0) (V i 1) (V i 2) (V i 3) (V i 4) HF.out.2.1 HF.out.2.2.1 HF.out.2.2.2.1 HF.out.2.2.2.2.1 _ (tab_below HT2.out (by go_split_ands; exact (Aside0.out (by assumption : Aside0 (Below wr.heap.size wr _)))))).mono ?_; rintro e w3 ⟨rfl, hb3⟩)
          | (go_at_call 6; refine (ref_say (V i 0) (V i 1) (V i 2) (V i 3) (V i 4) HF.out.2.1 HF.out.2.2.1 HF.out.2.2.2.1 HF.out.2.2.2.2.1 _ (tab_below HT2.out (by go_split_ands; exact (Aside0.out (by assumption : Aside0 (Below wr.heap.size wr _)))))).mono ?_; rintro e w3 ⟨rfl, hb3⟩))
      go_split_ands
      have HB3 := Aside0.mk (HB.out.trans ((Aside0.out (by assumption : Aside0 (Below wr.heap.size wr _))).mono HB.out.size))
      have q5 : IntKind.i64.wrap ((i : Int) + 1) = i + 1 := by have := HN.out; rw [IntKind.wrap_i64]; omega
      go_wp2_with (fail)
      go_roundg (n - (i + 1))
      case measure => omega
      case rel => exact ⟨i + 1, by omega, by simp, HB3⟩
    · obtain rfl : i = n := by omega
      go_wp2_with (fail)
      go_ret
      exact ⟨rfl, HB.out⟩
end Go.Proofs.YtjlgfcgdagikgaaDoor.says
