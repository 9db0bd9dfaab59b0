-- Printed by this session's own program (wip/tools/printx.py) by way of the kit's print.py. Not trusted: Lean checks it.
import Derived.Test.YtjlgfcgdagikgaaPWalkx0
import Derived.Test.YtjlgfcgdagikgaaTame
namespace Go.Proofs.Ytjlgfcgdagikgaa.PWalk
open Go.RowKit Go.Proofs.YtjlgfcgdagikgaaW.PrintWords Go.Proofs.YtjlgfcgdagikgaaW.PrintLast Go.Proofs.YtjlgfcgdagikgaaW.PrintMore
attribute [local go_sem] max2_int min2_int max_two min_two max_three min_three max_four min_four   -- for this text's walks alone
set_option linter.unusedVariables false
set_option linter.unusedSimpArgs false

/-! ### vellumref11_Cut: function 18 -/
mutual
def vellumref11_Cut.l0 : Nat → ByteArray → Int → Option (ByteArray × ByteArray)
  | 0, _, _ => none
  | k + 1, x0, x4 => if x4 < (x0.size : Int) then (vellumref11_Cut.l1 k x0 x4 x4) else (some ((⟨#[]⟩ : ByteArray), (⟨#[]⟩ : ByteArray)))
def vellumref11_Cut.l1 : Nat → ByteArray → Int → Int → Option (ByteArray × ByteArray)
  | 0, _, _, _ => none
  | k + 1, x0, x4, x5 => if x5 < (x0.size : Int) then (if 0 ≤ x5 then (if (bt x0 x5) = 47 then (if 0 ≤ x4 then (if x4 ≤ x5 then (if x5 ≤ (x0.size : Int) then (if (x0.extract (x4 : Int).toNat (x5 : Int).toNat).toList = ([] : List UInt8) then (vellumref11_Cut.l0 k x0 (wrap64 (x5 + 1))) else (if (x0.extract (x4 : Int).toNat (x5 : Int).toNat).toList = ([46] : List UInt8) then (vellumref11_Cut.l0 k x0 (wrap64 (x5 + 1))) else (some (x0.extract (x4 : Int).toNat (x5 : Int).toNat, x0.extract (x5 : Int).toNat x0.size)))) else (none)) else (none)) else (none)) else (vellumref11_Cut.l1 k x0 x4 (wrap64 (x5 + 1)))) else (none)) else (if 0 ≤ x4 then (if x4 ≤ x5 then (if x5 ≤ (x0.size : Int) then (if (x0.extract (x4 : Int).toNat (x5 : Int).toNat).toList = ([] : List UInt8) then (vellumref11_Cut.l0 k x0 (wrap64 (x5 + 1))) else (if (x0.extract (x4 : Int).toNat (x5 : Int).toNat).toList = ([46] : List UInt8) then (vellumref11_Cut.l0 k x0 (wrap64 (x5 + 1))) else (if 0 ≤ x5 then (some (x0.extract (x4 : Int).toNat (x5 : Int).toNat, x0.extract (x5 : Int).toNat x0.size)) else (none)))) else (none)) else (none)) else (none))
end
def vellumref11_Cut.f (k : Nat) (a0 : ByteArray) : Option (ByteArray × ByteArray) := vellumref11_Cut.l0 k a0 0
theorem vellumref11_Cut.mono_l : ∀ k, (∀ y0 y1, LeO (vellumref11_Cut.l0 k y0 y1) (vellumref11_Cut.l0 (k + 1) y0 y1)) ∧ (∀ y0 y1 y2, LeO (vellumref11_Cut.l1 k y0 y1 y2) (vellumref11_Cut.l1 (k + 1) y0 y1 y2))
  | 0 => ⟨fun _ _ r h => by simp [vellumref11_Cut.l0] at h, fun _ _ _ r h => by simp [vellumref11_Cut.l1] at h⟩
  | k + 1 => by
    obtain ⟨ih0, ih1⟩ := vellumref11_Cut.mono_l k
    refine ⟨?_, ?_⟩
    · intro y0 y1
      unfold vellumref11_Cut.l0
      repeat' first
      | (with_reducible exact ih0 _ _)
      | (with_reducible exact ih1 _ _ _)
      | (with_reducible exact LeO.refl _)
      | (with_reducible exact LeO.none _)
      | (with_reducible refine LeO.ite ?_ ?_)
      | (with_reducible refine LeO.bind ?_ (fun _ => ?_))
      | exact ih0 _ _
      | exact ih1 _ _ _
      | exact LeO.none _
      | refine LeO.ite ?_ ?_
      | refine LeO.bind ?_ (fun _ => ?_)
    · intro y0 y1 y2
      unfold vellumref11_Cut.l1
      repeat' first
      | (with_reducible exact ih0 _ _)
      | (with_reducible exact ih1 _ _ _)
      | (with_reducible exact LeO.refl _)
      | (with_reducible exact LeO.none _)
      | (with_reducible refine LeO.ite ?_ ?_)
      | (with_reducible refine LeO.bind ?_ (fun _ => ?_))
      | exact ih0 _ _
      | exact ih1 _ _ _
      | exact LeO.none _
      | refine LeO.ite ?_ ?_
      | refine LeO.bind ?_ (fun _ => ?_)
theorem vellumref11_Cut.mono : ∀ a0 k, LeO (vellumref11_Cut.f k a0) (vellumref11_Cut.f (k + 1) a0) := by
  intro a0 k
  obtain ⟨ih0, ih1⟩ := vellumref11_Cut.mono_l k
  unfold vellumref11_Cut.f
  repeat' first
      | (with_reducible exact ih0 _ _)
      | (with_reducible exact ih1 _ _ _)
      | (with_reducible exact LeO.refl _)
      | (with_reducible exact LeO.none _)
      | (with_reducible refine LeO.ite ?_ ?_)
      | (with_reducible refine LeO.bind ?_ (fun _ => ?_))
      | exact ih0 _ _
      | exact ih1 _ _ _
      | exact LeO.none _
      | refine LeO.ite ?_ ?_
      | refine LeO.bind ?_ (fun _ => ?_)
set_option maxHeartbeats 8000000 in
set_option maxRecDepth 100000 in
theorem vellumref11_Cut.calls (k : Nat) (a0 : ByteArray) (r1 : ByteArray) (r2 : ByteArray) (w : World) (h : vellumref11_Cut.f k a0 = some (r1, r2)) :
    Calls Try.prog 18 #[.string a0] w fun e w' => e = .returned (.tuple #[.string r1, .string r2]) ∧ Drawn0 w w' := by
  have H : (vellumref11_Cut.l0 k a0 0) = some (r1, r2) := h
  clear h
  have H' := Aside0.mk H
  clear H
  go_enter Try.func18, Try.ntmps18
  go_wp2
  repeat (go_quiet (fail); try go_wp2)
  go_loopg [4] k (fun kq v4 w' => ∃ (x4_1 : Int), v4 = .int .i64 x4_1 ∧ Aside0 (vellumref11_Cut.l0 kq a0 x4_1 = some (r1, r2)) ∧ Aside0 (kq ≤ k) ∧ Drawn0 w w')
  case atStart => exact ⟨(0), (by first | rfl | (simp; done) | (simp [*]; done)), H', ⟨Nat.le_refl _⟩, by repeat (first | exact Drawn0.refl _ | apply Drawn0.step)⟩
  case round =>
    clear H'
    try clear c1
    obtain ⟨x4_1, rfl, HA, HK1, ⟨m1, rfl⟩⟩ := hrel
    cases gk with
    | zero => exact absurd HA.out (by simp [vellumref11_Cut.l0])
    | succ k1 =>
      have H := HA.out
      clear HA
      simp only [vellumref11_Cut.l0] at H
      by_cases c2 : x4_1 < (a0.size : Int)
      · rw [if_pos c2] at H
        have c2b0 : decide (x4_1 < (a0.size : Int)) = true := decide_eq_true c2
        clear c2
        have H' := Aside0.mk H
        clear H
        go_wp2
        repeat (go_quiet (fail); try go_wp2)
        go_loopg [5] k1 (fun kq v5 w' => ∃ (x5_2 : Int), v5 = .int .i64 x5_2 ∧ Aside0 (vellumref11_Cut.l1 kq a0 x4_1 x5_2 = some (r1, r2)) ∧ Aside0 (kq ≤ k1) ∧ Drawn0 w w')
        case atStart => exact ⟨(x4_1), (by first | rfl | (simp; done) | (simp [*]; done)), H', ⟨Nat.le_refl _⟩, by repeat (first | exact Drawn0.refl _ | apply Drawn0.step)⟩
        case round =>
          clear H'
          try clear c1
          try clear c2
          try clear c2b0
          try clear p2
          obtain ⟨x5_2, rfl, HA, HK2, ⟨m2, rfl⟩⟩ := hrel
          cases gk with
          | zero => exact absurd HA.out (by simp [vellumref11_Cut.l1])
          | succ k2 =>
            have H := HA.out
            clear HA
            simp only [vellumref11_Cut.l1] at H
            by_cases c3 : x5_2 < (a0.size : Int)
            · rw [if_pos c3] at H
              have c3b0 : decide (x5_2 < (a0.size : Int)) = true := decide_eq_true c3
              clear c3
              by_cases c4 : 0 ≤ x5_2
              · rw [if_pos c4] at H
                have c4b0 : decide (0 ≤ x5_2) = true := decide_eq_true c4
                clear c4
                by_cases c6 : (bt a0 x5_2) = 47
                · rw [if_pos c6] at H
                  have c6b0 : ((bt a0 x5_2) == 47) = true := beq_iff_eq.mpr c6
                  have c6b1 : ((bt a0 x5_2) != 47) = false := bne_eq_false_iff_eq.mpr c6
                  clear c6
                  by_cases c7 : 0 ≤ x4_1
                  · rw [if_pos c7] at H
                    have c7b0 := eq_true c7
                    have c7b1 : decide (0 ≤ x4_1) = true := decide_eq_true c7
                    clear c7
                    by_cases c8 : x4_1 ≤ x5_2
                    · rw [if_pos c8] at H
                      have c8b0 := eq_true c8
                      have c8b1 : decide (x4_1 ≤ x5_2) = true := decide_eq_true c8
                      clear c8
                      by_cases c9 : x5_2 ≤ (a0.size : Int)
                      · rw [if_pos c9] at H
                        have c9b0 := eq_true c9
                        have c9b1 : decide (x5_2 ≤ (a0.size : Int)) = true := decide_eq_true c9
                        clear c9
                        by_cases c10 : (a0.extract (x4_1 : Int).toNat (x5_2 : Int).toNat).toList = ([] : List UInt8)
                        · rw [if_pos c10] at H
                          have c10b0 : ((a0.extract (x4_1 : Int).toNat (x5_2 : Int).toNat).toList == ([] : List UInt8)) = true := beq_iff_eq.mpr c10
                          have c10b1 : ((a0.extract (x4_1 : Int).toNat (x5_2 : Int).toNat).toList != ([] : List UInt8)) = false := bne_eq_false_iff_eq.mpr c10
                          clear c10
                          have H' := Aside0.mk H
                          clear H
                          have p5 : 0 ≤ (x5_2 : Int) := of_decide_eq_true (by first | (with_reducible assumption) | assumption)
                          have q5 : x5_2 < (a0.size : Int) := of_decide_eq_true (by first | (with_reducible assumption) | assumption)
                          have hx5 := bt_at a0 x5_2
                          replace p5 := eq_true p5
                          replace q5 := eq_true q5
                          go_wp2
                          repeat (go_quiet (fail); try go_wp2)
                          go_roundg k2
                          case measure => have := HK1.out; have := HK2.out; omega
                          case rel => exact ⟨(wrap64 (x5_2 + 1)), (by first | rfl | (simp; done) | (simp [*]; done)), H', ⟨by have := HK1.out; have := HK2.out; omega⟩, by repeat (first | exact Drawn0.refl _ | apply Drawn0.step)⟩
                        · rw [if_neg c10] at H
                          have c10b0 : ((a0.extract (x4_1 : Int).toNat (x5_2 : Int).toNat).toList == ([] : List UInt8)) = false := beq_eq_false_iff_ne.mpr c10
                          have c10b1 : ((a0.extract (x4_1 : Int).toNat (x5_2 : Int).toNat).toList != ([] : List UInt8)) = true := bne_iff_ne.mpr c10
                          by_cases c11 : (a0.extract (x4_1 : Int).toNat (x5_2 : Int).toNat).toList = ([46] : List UInt8)
                          · rw [if_pos c11] at H
                            have c11b0 : ((a0.extract (x4_1 : Int).toNat (x5_2 : Int).toNat).toList == ([46] : List UInt8)) = true := beq_iff_eq.mpr c11
                            have c11b1 : ((a0.extract (x4_1 : Int).toNat (x5_2 : Int).toNat).toList != ([46] : List UInt8)) = false := bne_eq_false_iff_eq.mpr c11
                            clear c11
                            have H' := Aside0.mk H
                            clear H
                            have p5 : 0 ≤ (x5_2 : Int) := of_decide_eq_true (by first | (with_reducible assumption) | assumption)
                            have q5 : x5_2 < (a0.size : Int) := of_decide_eq_true (by first | (with_reducible assumption) | assumption)
                            have hx5 := bt_at a0 x5_2
                            replace p5 := eq_true p5
                            replace q5 := eq_true q5
                            go_wp2
                            repeat (go_quiet (fail); try go_wp2)
                            go_roundg k2
                            case measure => have := HK1.out; have := HK2.out; omega
                            case rel => exact ⟨(wrap64 (x5_2 + 1)), (by first | rfl | (simp; done) | (simp [*]; done)), H', ⟨by have := HK1.out; have := HK2.out; omega⟩, by repeat (first | exact Drawn0.refl _ | apply Drawn0.step)⟩
                          · rw [if_neg c11] at H
                            have c11b0 : ((a0.extract (x4_1 : Int).toNat (x5_2 : Int).toNat).toList == ([46] : List UInt8)) = false := beq_eq_false_iff_ne.mpr c11
                            have c11b1 : ((a0.extract (x4_1 : Int).toNat (x5_2 : Int).toNat).toList != ([46] : List UInt8)) = true := bne_iff_ne.mpr c11
                            have c12b0 := eq_true (of_decide_eq_true (by first | (with_reducible assumption) | assumption) : 0 ≤ x5_2)
                            have c13b0 := eq_true (of_decide_eq_true (by first | (with_reducible assumption) | assumption) : x5_2 ≤ (a0.size : Int))
                            simp only [Option.some.injEq, Prod.mk.injEq] at H
                            obtain ⟨rfl, rfl⟩ := H
                            have p5 : 0 ≤ (x5_2 : Int) := of_decide_eq_true (by first | (with_reducible assumption) | assumption)
                            have q5 : x5_2 < (a0.size : Int) := of_decide_eq_true (by first | (with_reducible assumption) | assumption)
                            have hx5 := bt_at a0 x5_2
                            replace p5 := eq_true p5
                            replace q5 := eq_true q5
                            go_wp2
                            repeat (go_quiet (fail); try go_wp2)
                            go_ret2
                            exact ⟨by first | rfl | (simp; done) | (simp [*]; done), by repeat (first | exact Drawn0.refl _ | apply Drawn0.step)⟩
                      · rw [if_neg c9] at H
                        exact absurd H (by simp)
                    · rw [if_neg c8] at H
                      exact absurd H (by simp)
                  · rw [if_neg c7] at H
                    exact absurd H (by simp)
                · rw [if_neg c6] at H
                  have c6b0 : ((bt a0 x5_2) == 47) = false := beq_eq_false_iff_ne.mpr c6
                  have c6b1 : ((bt a0 x5_2) != 47) = true := bne_iff_ne.mpr c6
                  have H' := Aside0.mk H
                  clear H
                  have p5 : 0 ≤ (x5_2 : Int) := of_decide_eq_true (by first | (with_reducible assumption) | assumption)
                  have q5 : x5_2 < (a0.size : Int) := of_decide_eq_true (by first | (with_reducible assumption) | assumption)
                  have hx5 := bt_at a0 x5_2
                  replace p5 := eq_true p5
                  replace q5 := eq_true q5
                  go_wp2
                  repeat (go_quiet (fail); try go_wp2)
                  go_roundg k2
                  case measure => have := HK1.out; have := HK2.out; omega
                  case rel => exact ⟨(wrap64 (x5_2 + 1)), (by first | rfl | (simp; done) | (simp [*]; done)), H', ⟨by have := HK1.out; have := HK2.out; omega⟩, by repeat (first | exact Drawn0.refl _ | apply Drawn0.step)⟩
              · rw [if_neg c4] at H
                exact absurd H (by simp)
            · rw [if_neg c3] at H
              have c3b0 : decide (x5_2 < (a0.size : Int)) = false := decide_eq_false c3
              clear c3
              by_cases c14 : 0 ≤ x4_1
              · rw [if_pos c14] at H
                have c14b0 := eq_true c14
                have c14b1 : decide (0 ≤ x4_1) = true := decide_eq_true c14
                clear c14
                by_cases c15 : x4_1 ≤ x5_2
                · rw [if_pos c15] at H
                  have c15b0 := eq_true c15
                  have c15b1 : decide (x4_1 ≤ x5_2) = true := decide_eq_true c15
                  clear c15
                  by_cases c16 : x5_2 ≤ (a0.size : Int)
                  · rw [if_pos c16] at H
                    have c16b0 := eq_true c16
                    have c16b1 : decide (x5_2 ≤ (a0.size : Int)) = true := decide_eq_true c16
                    clear c16
                    by_cases c17 : (a0.extract (x4_1 : Int).toNat (x5_2 : Int).toNat).toList = ([] : List UInt8)
                    · rw [if_pos c17] at H
                      have c17b0 : ((a0.extract (x4_1 : Int).toNat (x5_2 : Int).toNat).toList == ([] : List UInt8)) = true := beq_iff_eq.mpr c17
                      have c17b1 : ((a0.extract (x4_1 : Int).toNat (x5_2 : Int).toNat).toList != ([] : List UInt8)) = false := bne_eq_false_iff_eq.mpr c17
                      clear c17
                      have H' := Aside0.mk H
                      clear H
                      go_wp2
                      repeat (go_quiet (fail); try go_wp2)
                      go_roundg k2
                      case measure => have := HK1.out; have := HK2.out; omega
                      case rel => exact ⟨(wrap64 (x5_2 + 1)), (by first | rfl | (simp; done) | (simp [*]; done)), H', ⟨by have := HK1.out; have := HK2.out; omega⟩, by repeat (first | exact Drawn0.refl _ | apply Drawn0.step)⟩
                    · rw [if_neg c17] at H
                      have c17b0 : ((a0.extract (x4_1 : Int).toNat (x5_2 : Int).toNat).toList == ([] : List UInt8)) = false := beq_eq_false_iff_ne.mpr c17
                      have c17b1 : ((a0.extract (x4_1 : Int).toNat (x5_2 : Int).toNat).toList != ([] : List UInt8)) = true := bne_iff_ne.mpr c17
                      by_cases c18 : (a0.extract (x4_1 : Int).toNat (x5_2 : Int).toNat).toList = ([46] : List UInt8)
                      · rw [if_pos c18] at H
                        have c18b0 : ((a0.extract (x4_1 : Int).toNat (x5_2 : Int).toNat).toList == ([46] : List UInt8)) = true := beq_iff_eq.mpr c18
                        have c18b1 : ((a0.extract (x4_1 : Int).toNat (x5_2 : Int).toNat).toList != ([46] : List UInt8)) = false := bne_eq_false_iff_eq.mpr c18
                        clear c18
                        have H' := Aside0.mk H
                        clear H
                        go_wp2
                        repeat (go_quiet (fail); try go_wp2)
                        go_roundg k2
                        case measure => have := HK1.out; have := HK2.out; omega
                        case rel => exact ⟨(wrap64 (x5_2 + 1)), (by first | rfl | (simp; done) | (simp [*]; done)), H', ⟨by have := HK1.out; have := HK2.out; omega⟩, by repeat (first | exact Drawn0.refl _ | apply Drawn0.step)⟩
                      · rw [if_neg c18] at H
                        have c18b0 : ((a0.extract (x4_1 : Int).toNat (x5_2 : Int).toNat).toList == ([46] : List UInt8)) = false := beq_eq_false_iff_ne.mpr c18
                        have c18b1 : ((a0.extract (x4_1 : Int).toNat (x5_2 : Int).toNat).toList != ([46] : List UInt8)) = true := bne_iff_ne.mpr c18
                        by_cases c19 : 0 ≤ x5_2
                        · rw [if_pos c19] at H
                          have c19b0 := eq_true c19
                          have c19b1 : decide (0 ≤ x5_2) = true := decide_eq_true c19
                          clear c19
                          have c20b0 := eq_true (of_decide_eq_true (by first | (with_reducible assumption) | assumption) : x5_2 ≤ (a0.size : Int))
                          simp only [Option.some.injEq, Prod.mk.injEq] at H
                          obtain ⟨rfl, rfl⟩ := H
                          go_wp2
                          repeat (go_quiet (fail); try go_wp2)
                          go_ret2
                          exact ⟨by first | rfl | (simp; done) | (simp [*]; done), by repeat (first | exact Drawn0.refl _ | apply Drawn0.step)⟩
                        · rw [if_neg c19] at H
                          exact absurd H (by simp)
                  · rw [if_neg c16] at H
                    exact absurd H (by simp)
                · rw [if_neg c15] at H
                  exact absurd H (by simp)
              · rw [if_neg c14] at H
                exact absurd H (by simp)
      · rw [if_neg c2] at H
        have c2b0 : decide (x4_1 < (a0.size : Int)) = false := decide_eq_false c2
        clear c2
        simp only [Option.some.injEq, Prod.mk.injEq] at H
        obtain ⟨rfl, rfl⟩ := H
        go_wp2
        repeat (go_quiet (fail); try go_wp2)
        go_ret2
        exact ⟨by first | rfl | (simp; done) | (simp [*]; done), by repeat (first | exact Drawn0.refl _ | apply Drawn0.step)⟩

/-! ### vellumref2_Name: function 22 -/
mutual
def vellumref2_Name.j0 : Nat → ByteArray → Bool → Option (Int)
  | 0, _, _ => none
  | k + 1, x0, x16 => if x16 = true then (some 21) else (vellumref2_Name.l0 k x0 0)
def vellumref2_Name.l0 : Nat → ByteArray → Int → Option (Int)
  | 0, _, _ => none
  | k + 1, x0, x3 => if x3 < (x0.size : Int) then (if 0 ≤ x3 then (if (bt x0 x3) = 47 then (some 21) else (if (bt x0 x3) = 0 then (some 21) else (vellumref2_Name.l0 k x0 (wrap64 (x3 + 1))))) else (none)) else (some 0)
end
def vellumref2_Name.f (k : Nat) (a0 : ByteArray) : Option (Int) := if (a0.size : Int) > 54 then (some 7) else (if a0.toList = ([] : List UInt8) then (vellumref2_Name.j0 k a0 true) else (if a0.toList = ([46] : List UInt8) then (vellumref2_Name.j0 k a0 true) else (vellumref2_Name.j0 k a0 (a0.toList == ([46, 46] : List UInt8)))))
theorem vellumref2_Name.mono_l : ∀ k, (∀ y0 y1, LeO (vellumref2_Name.j0 k y0 y1) (vellumref2_Name.j0 (k + 1) y0 y1)) ∧ (∀ y0 y1, LeO (vellumref2_Name.l0 k y0 y1) (vellumref2_Name.l0 (k + 1) y0 y1))
  | 0 => ⟨fun _ _ r h => by simp [vellumref2_Name.j0] at h, fun _ _ r h => by simp [vellumref2_Name.l0] at h⟩
  | k + 1 => by
    obtain ⟨ih0, ih1⟩ := vellumref2_Name.mono_l k
    refine ⟨?_, ?_⟩
    · intro y0 y1
      unfold vellumref2_Name.j0
      repeat' first
      | (with_reducible exact ih0 _ _)
      | (with_reducible exact ih1 _ _)
      | (with_reducible exact LeO.refl _)
      | (with_reducible exact LeO.none _)
      | (with_reducible refine LeO.ite ?_ ?_)
      | (with_reducible refine LeO.bind ?_ (fun _ => ?_))
      | exact ih0 _ _
      | exact ih1 _ _
      | exact LeO.none _
      | refine LeO.ite ?_ ?_
      | refine LeO.bind ?_ (fun _ => ?_)
    · intro y0 y1
      unfold vellumref2_Name.l0
      repeat' first
      | (with_reducible exact ih0 _ _)
      | (with_reducible exact ih1 _ _)
      | (with_reducible exact LeO.refl _)
      | (with_reducible exact LeO.none _)
      | (with_reducible refine LeO.ite ?_ ?_)
      | (with_reducible refine LeO.bind ?_ (fun _ => ?_))
      | exact ih0 _ _
      | exact ih1 _ _
      | exact LeO.none _
      | refine LeO.ite ?_ ?_
      | refine LeO.bind ?_ (fun _ => ?_)
theorem vellumref2_Name.mono : ∀ a0 k, LeO (vellumref2_Name.f k a0) (vellumref2_Name.f (k + 1) a0) := by
  intro a0 k
  obtain ⟨ih0, ih1⟩ := vellumref2_Name.mono_l k
  unfold vellumref2_Name.f
  repeat' first
      | (with_reducible exact ih0 _ _)
      | (with_reducible exact ih1 _ _)
      | (with_reducible exact LeO.refl _)
      | (with_reducible exact LeO.none _)
      | (with_reducible refine LeO.ite ?_ ?_)
      | (with_reducible refine LeO.bind ?_ (fun _ => ?_))
      | exact ih0 _ _
      | exact ih1 _ _
      | exact LeO.none _
      | refine LeO.ite ?_ ?_
      | refine LeO.bind ?_ (fun _ => ?_)
set_option maxHeartbeats 8000000 in
set_option maxRecDepth 100000 in
theorem vellumref2_Name.calls (k : Nat) (a0 : ByteArray) (r : Int) (w : World) (h : vellumref2_Name.f k a0 = some r) :
    Calls Try.prog 22 #[.string a0] w fun e w' => e = .returned (.int .i64 r) ∧ Drawn0 w w' := by
  have H : (if (a0.size : Int) > 54 then (some 7) else (if a0.toList = ([] : List UInt8) then (vellumref2_Name.j0 k a0 true) else (if a0.toList = ([46] : List UInt8) then (vellumref2_Name.j0 k a0 true) else (vellumref2_Name.j0 k a0 (a0.toList == ([46, 46] : List UInt8)))))) = some r := h
  clear h
  by_cases c2 : (a0.size : Int) > 54
  · rw [if_pos c2] at H
    have c2b0 : decide (54 < (a0.size : Int)) = true := decide_eq_true c2
    have c2b1 : decide (54 < a0.size) = true := decide_eq_true (by omega)
    clear c2
    obtain rfl := Option.some.inj H
    go_enter Try.func22, Try.ntmps22
    go_wp2
    go_ret
    exact ⟨by first | rfl | (simp; done) | (simp [*]; done), by repeat (first | exact Drawn0.refl _ | apply Drawn0.step)⟩
  · rw [if_neg c2] at H
    have c2b0 : decide (54 < (a0.size : Int)) = false := decide_eq_false c2
    have c2b1 : decide (54 < a0.size) = false := decide_eq_false (by omega)
    clear c2
    have HC3 := Aside0.mk H
    clear H
    go_enter Try.func22, Try.ntmps22
    go_upto_region 3 with (fail)
    go_cut [16] (fun v16 wc => ∃ (kq : Nat) (x16_2 : Bool), v16 = .bool x16_2 ∧ Aside0 (vellumref2_Name.j0 kq a0 x16_2 = some r) ∧ Aside0 (kq ≤ k) ∧ Drawn0 w wc)
    case first =>
      have H := HC3.out
      clear HC3
      by_cases c4 : a0.toList = ([] : List UInt8)
      · rw [if_pos c4] at H
        have c4b0 : (a0.toList == ([] : List UInt8)) = true := beq_iff_eq.mpr c4
        have c4b1 : (a0.toList != ([] : List UInt8)) = false := bne_eq_false_iff_eq.mpr c4
        clear c4
        (first | rw [c4b0] | (simp only [i64_w, i32_w]; rw [c4b0]) | skip)
        have H' := Aside0.mk H
        clear H
        go_wp2
        go_meet
        case rel => exact ⟨_, (true), (by first | rfl | (simp; done) | (simp [*]; done)), H', ⟨by first | omega | exact Nat.le_refl _⟩, by repeat (first | exact Drawn0.refl _ | apply Drawn0.step)⟩
      · rw [if_neg c4] at H
        have c4b0 : (a0.toList == ([] : List UInt8)) = false := beq_eq_false_iff_ne.mpr c4
        have c4b1 : (a0.toList != ([] : List UInt8)) = true := bne_iff_ne.mpr c4
        (first | rw [c4b0] | (simp only [i64_w, i32_w]; rw [c4b0]) | skip)
        by_cases c5 : a0.toList = ([46] : List UInt8)
        · rw [if_pos c5] at H
          have c5b0 : (a0.toList == ([46] : List UInt8)) = true := beq_iff_eq.mpr c5
          have c5b1 : (a0.toList != ([46] : List UInt8)) = false := bne_eq_false_iff_eq.mpr c5
          clear c5
          have H' := Aside0.mk H
          clear H
          go_wp2
          go_meet
          case rel => exact ⟨_, (true), (by first | rfl | (simp; done) | (simp [*]; done)), H', ⟨by first | omega | exact Nat.le_refl _⟩, by repeat (first | exact Drawn0.refl _ | apply Drawn0.step)⟩
        · rw [if_neg c5] at H
          have c5b0 : (a0.toList == ([46] : List UInt8)) = false := beq_eq_false_iff_ne.mpr c5
          have c5b1 : (a0.toList != ([46] : List UInt8)) = true := bne_iff_ne.mpr c5
          have H' := Aside0.mk H
          clear H
          go_wp2
          go_meet
          case rel => exact ⟨_, ((a0.toList == ([46, 46] : List UInt8))), (by first | rfl | (simp; done) | (simp [*]; done)), H', ⟨by first | omega | exact Nat.le_refl _⟩, by repeat (first | exact Drawn0.refl _ | apply Drawn0.step)⟩
    case rest =>
      clear HC3
      try clear c2
      try clear c2b0
      try clear c2b1
      try clear p2
      try clear c4
      try clear c4b0
      try clear c4b1
      try clear c5
      try clear c5b0
      try clear c5b1
      obtain ⟨kq, x16_2, rfl, HA, HJ2, ⟨mc2, rfl⟩⟩ := hcut
      cases kq with
      | zero => exact absurd HA.out (by simp [vellumref2_Name.j0])
      | succ kj2 =>
        have H := HA.out
        clear HA
        simp only [vellumref2_Name.j0] at H
        by_cases c6 : x16_2 = true
        · subst c6
          have H1 : (some 21) = some r := by rw [if_pos rfl] at H; exact H
          clear H
          have H := H1
          clear H1
          obtain rfl := Option.some.inj H
          go_wp2
          go_ret
          exact ⟨by first | rfl | (simp; done) | (simp [*]; done), by repeat (first | exact Drawn0.refl _ | apply Drawn0.step)⟩
        · replace c6 := Bool.eq_false_iff.mpr c6
          subst c6
          have H1 : (vellumref2_Name.l0 kj2 a0 0) = some r := by rw [if_neg (show ¬ (false = true) by decide)] at H; exact H
          clear H
          have H := H1
          clear H1
          have H' := Aside0.mk H
          clear H
          go_wp2
          go_loopg [3] kj2 (fun kq v3 w' => ∃ (x3_2 : Int), v3 = .int .i64 x3_2 ∧ Aside0 (vellumref2_Name.l0 kq a0 x3_2 = some r) ∧ Aside0 (kq ≤ kj2) ∧ Drawn0 w w')
          case atStart => exact ⟨(0), (by first | rfl | (simp; done) | (simp [*]; done)), H', ⟨Nat.le_refl _⟩, by repeat (first | exact Drawn0.refl _ | apply Drawn0.step)⟩
          case round =>
            clear H'
            try clear c2
            try clear c2b0
            try clear c2b1
            try clear p2
            try clear c4
            try clear c4b0
            try clear c4b1
            try clear c5
            try clear c5b0
            try clear c5b1
            try clear c6
            try clear p2
            obtain ⟨x3_2, rfl, HA, HK2, ⟨m2, rfl⟩⟩ := hrel
            cases gk with
            | zero => exact absurd HA.out (by simp [vellumref2_Name.l0])
            | succ k2 =>
              have H := HA.out
              clear HA
              simp only [vellumref2_Name.l0] at H
              by_cases c7 : x3_2 < (a0.size : Int)
              · rw [if_pos c7] at H
                have c7b0 : decide (x3_2 < (a0.size : Int)) = true := decide_eq_true c7
                clear c7
                by_cases c8 : 0 ≤ x3_2
                · rw [if_pos c8] at H
                  have c8b0 : decide (0 ≤ x3_2) = true := decide_eq_true c8
                  clear c8
                  by_cases c10 : (bt a0 x3_2) = 47
                  · rw [if_pos c10] at H
                    have c10b0 : ((bt a0 x3_2) == 47) = true := beq_iff_eq.mpr c10
                    have c10b1 : ((bt a0 x3_2) != 47) = false := bne_eq_false_iff_eq.mpr c10
                    clear c10
                    obtain rfl := Option.some.inj H
                    have p9 : 0 ≤ (x3_2 : Int) := of_decide_eq_true (by first | (with_reducible assumption) | assumption)
                    have q9 : x3_2 < (a0.size : Int) := of_decide_eq_true (by first | (with_reducible assumption) | assumption)
                    have hx9 := bt_at a0 x3_2
                    replace p9 := eq_true p9
                    replace q9 := eq_true q9
                    go_wp2
                    go_ret
                    exact ⟨by first | rfl | (simp; done) | (simp [*]; done), by repeat (first | exact Drawn0.refl _ | apply Drawn0.step)⟩
                  · rw [if_neg c10] at H
                    have c10b0 : ((bt a0 x3_2) == 47) = false := beq_eq_false_iff_ne.mpr c10
                    have c10b1 : ((bt a0 x3_2) != 47) = true := bne_iff_ne.mpr c10
                    by_cases c12 : (bt a0 x3_2) = 0
                    · rw [if_pos c12] at H
                      have c12b0 : ((bt a0 x3_2) == 0) = true := beq_iff_eq.mpr c12
                      have c12b1 : ((bt a0 x3_2) != 0) = false := bne_eq_false_iff_eq.mpr c12
                      clear c12
                      obtain rfl := Option.some.inj H
                      have p9 : 0 ≤ (x3_2 : Int) := of_decide_eq_true (by first | (with_reducible assumption) | assumption)
                      have q9 : x3_2 < (a0.size : Int) := of_decide_eq_true (by first | (with_reducible assumption) | assumption)
                      have hx9 := bt_at a0 x3_2
                      replace p9 := eq_true p9
                      replace q9 := eq_true q9
                      have p11 : 0 ≤ (x3_2 : Int) := of_decide_eq_true (by first | (with_reducible assumption) | assumption)
                      have q11 : x3_2 < (a0.size : Int) := of_decide_eq_true (by first | (with_reducible assumption) | assumption)
                      have hx11 := bt_at a0 x3_2
                      replace p11 := eq_true p11
                      replace q11 := eq_true q11
                      go_wp2
                      go_ret
                      exact ⟨by first | rfl | (simp; done) | (simp [*]; done), by repeat (first | exact Drawn0.refl _ | apply Drawn0.step)⟩
                    · rw [if_neg c12] at H
                      have c12b0 : ((bt a0 x3_2) == 0) = false := beq_eq_false_iff_ne.mpr c12
                      have c12b1 : ((bt a0 x3_2) != 0) = true := bne_iff_ne.mpr c12
                      have H' := Aside0.mk H
                      clear H
                      have p9 : 0 ≤ (x3_2 : Int) := of_decide_eq_true (by first | (with_reducible assumption) | assumption)
                      have q9 : x3_2 < (a0.size : Int) := of_decide_eq_true (by first | (with_reducible assumption) | assumption)
                      have hx9 := bt_at a0 x3_2
                      replace p9 := eq_true p9
                      replace q9 := eq_true q9
                      have p11 : 0 ≤ (x3_2 : Int) := of_decide_eq_true (by first | (with_reducible assumption) | assumption)
                      have q11 : x3_2 < (a0.size : Int) := of_decide_eq_true (by first | (with_reducible assumption) | assumption)
                      have hx11 := bt_at a0 x3_2
                      replace p11 := eq_true p11
                      replace q11 := eq_true q11
                      go_wp2
                      go_roundg k2
                      case measure => have := HJ2.out; have := HK2.out; omega
                      case rel => exact ⟨(wrap64 (x3_2 + 1)), (by first | rfl | (simp; done) | (simp [*]; done)), H', ⟨by have := HJ2.out; have := HK2.out; omega⟩, by repeat (first | exact Drawn0.refl _ | apply Drawn0.step)⟩
                · rw [if_neg c8] at H
                  exact absurd H (by simp)
              · rw [if_neg c7] at H
                have c7b0 : decide (x3_2 < (a0.size : Int)) = false := decide_eq_false c7
                clear c7
                obtain rfl := Option.some.inj H
                go_wp2
                go_ret
                exact ⟨by first | rfl | (simp; done) | (simp [*]; done), by repeat (first | exact Drawn0.refl _ | apply Drawn0.step)⟩

/-! ### vellumref11_wrong: function 17 -/
def vellumref11_wrong.l0 : Nat → ByteArray → Option (Int)
  | 0, _ => none
  | k + 1, x0 => (vellumref11_Cut.f k x0).bind fun bt109 => (if bt109.1.toList = ([] : List UInt8) then (some 0) else ((vellumref2_Name.f k bt109.1).bind fun t111 => (if bt109.1.toList = ([46, 46] : List UInt8) then (vellumref11_wrong.l0 k bt109.2) else (if t111 = 0 then (vellumref11_wrong.l0 k bt109.2) else (some t111)))))
def vellumref11_wrong.f (k : Nat) (a0 : ByteArray) : Option (Int) := vellumref11_wrong.l0 k a0
theorem vellumref11_wrong.mono_l : ∀ k, (∀ y0, LeO (vellumref11_wrong.l0 k y0) (vellumref11_wrong.l0 (k + 1) y0))
  | 0 => fun _ r h => by simp [vellumref11_wrong.l0] at h
  | k + 1 => by
    have ih0 := vellumref11_wrong.mono_l k
    · intro y0
      unfold vellumref11_wrong.l0
      repeat' first
      | (with_reducible exact ih0 _)
      | (with_reducible exact vellumref11_Cut.mono _ _)
      | (with_reducible exact vellumref2_Name.mono _ _)
      | (with_reducible exact LeO.refl _)
      | (with_reducible exact LeO.none _)
      | (with_reducible refine LeO.ite ?_ ?_)
      | (with_reducible refine LeO.bind ?_ (fun _ => ?_))
      | exact ih0 _
      | exact vellumref11_Cut.mono _ _
      | exact vellumref2_Name.mono _ _
      | exact LeO.none _
      | refine LeO.ite ?_ ?_
      | refine LeO.bind ?_ (fun _ => ?_)
theorem vellumref11_wrong.mono : ∀ a0 k, LeO (vellumref11_wrong.f k a0) (vellumref11_wrong.f (k + 1) a0) := by
  intro a0 k
  have ih0 := vellumref11_wrong.mono_l k
  unfold vellumref11_wrong.f
  repeat' first
      | (with_reducible exact ih0 _)
      | (with_reducible exact vellumref11_Cut.mono _ _)
      | (with_reducible exact vellumref2_Name.mono _ _)
      | (with_reducible exact LeO.refl _)
      | (with_reducible exact LeO.none _)
      | (with_reducible refine LeO.ite ?_ ?_)
      | (with_reducible refine LeO.bind ?_ (fun _ => ?_))
      | exact ih0 _
      | exact vellumref11_Cut.mono _ _
      | exact vellumref2_Name.mono _ _
      | exact LeO.none _
      | refine LeO.ite ?_ ?_
      | refine LeO.bind ?_ (fun _ => ?_)
set_option maxHeartbeats 8000000 in
set_option maxRecDepth 100000 in
theorem vellumref11_wrong.calls (k : Nat) (a0 : ByteArray) (r : Int) (w : World) (h : vellumref11_wrong.f k a0 = some r) :
    Calls Try.prog 17 #[.string a0] w fun e w' => e = .returned (.int .i64 r) ∧ Drawn0 w w' := by
  have H : (vellumref11_wrong.l0 k a0) = some r := h
  clear h
  have H' := Aside0.mk H
  clear H
  go_enter Try.func17, Try.ntmps17
  go_wp2
  go_loopg [0] k (fun kq v0 w' => ∃ (x0_1 : ByteArray), v0 = .string x0_1 ∧ Aside0 (vellumref11_wrong.l0 kq x0_1 = some r) ∧ Aside0 (kq ≤ k) ∧ Drawn0 w w')
  case atStart => exact ⟨(a0), (by first | rfl | (simp; done) | (simp [*]; done)), H', ⟨Nat.le_refl _⟩, by repeat (first | exact Drawn0.refl _ | apply Drawn0.step)⟩
  case round =>
    clear H'
    try clear c1
    obtain ⟨x0_1, rfl, HA, HK1, ⟨m1, rfl⟩⟩ := hrel
    cases gk with
    | zero => exact absurd HA.out (by simp [vellumref11_wrong.l0])
    | succ k1 =>
      have H := HA.out
      clear HA
      simp only [vellumref11_wrong.l0] at H
      replace H := Option.bind_eq_some_iff.mp H
      obtain ⟨⟨t109, t110⟩, A20, H⟩ := H
      replace H : (if t109.toList = ([] : List UInt8) then (some 0) else ((vellumref2_Name.f k1 t109).bind fun t111 => (if t109.toList = ([46, 46] : List UInt8) then (vellumref11_wrong.l0 k1 t110) else (if t111 = 0 then (vellumref11_wrong.l0 k1 t110) else (some t111))))) = some r := H
      have A2 := Aside0.mk A20
      clear A20
      by_cases c3 : t109.toList = ([] : List UInt8)
      · rw [if_pos c3] at H
        have c3b0 : (t109.toList == ([] : List UInt8)) = true := beq_iff_eq.mpr c3
        have c3b1 : (t109.toList != ([] : List UInt8)) = false := bne_eq_false_iff_eq.mpr c3
        clear c3
        obtain rfl := Option.some.inj H
        go_wp2_with (first | ((with_reducible refine gate_callee (f := 18) rfl ?_); refine goesL_ (some 8) rfl rfl Try.func18 (by kernel_rfl) rfl #[.string x0_1] rfl (by (try simp only [List.map_toArray, List.map_cons, List.map_nil]); first | done | rfl | (simp only [List.length_drop, List.length_take]; rfl)) ?_; (with_reducible refine (vellumref11_Cut.calls k1 x0_1 t109 t110 _ A2.out).mono ?_); rintro e w' ⟨rfl, ⟨nd, rfl⟩⟩; refine ⟨_, rfl, ?_⟩))
        go_ret
        exact ⟨by first | rfl | (simp; done) | (simp [*]; done), by repeat (first | exact Drawn0.refl _ | apply Drawn0.step)⟩
      · rw [if_neg c3] at H
        have c3b0 : (t109.toList == ([] : List UInt8)) = false := beq_eq_false_iff_ne.mpr c3
        have c3b1 : (t109.toList != ([] : List UInt8)) = true := bne_iff_ne.mpr c3
        replace H := Option.bind_eq_some_iff.mp H
        obtain ⟨t111, A40, H⟩ := H
        replace H : (if t109.toList = ([46, 46] : List UInt8) then (vellumref11_wrong.l0 k1 t110) else (if t111 = 0 then (vellumref11_wrong.l0 k1 t110) else (some t111))) = some r := H
        have A4 := Aside0.mk A40
        clear A40
        by_cases c5 : t109.toList = ([46, 46] : List UInt8)
        · rw [if_pos c5] at H
          have c5b0 : (t109.toList == ([46, 46] : List UInt8)) = true := beq_iff_eq.mpr c5
          have c5b1 : (t109.toList != ([46, 46] : List UInt8)) = false := bne_eq_false_iff_eq.mpr c5
          clear c5
          have H' := Aside0.mk H
          clear H
          go_wp2_with (first | ((with_reducible refine gate_callee (f := 18) rfl ?_); refine goesL_ (some 8) rfl rfl Try.func18 (by kernel_rfl) rfl #[.string x0_1] rfl (by (try simp only [List.map_toArray, List.map_cons, List.map_nil]); first | done | rfl | (simp only [List.length_drop, List.length_take]; rfl)) ?_; (with_reducible refine (vellumref11_Cut.calls k1 x0_1 t109 t110 _ A2.out).mono ?_); rintro e w' ⟨rfl, ⟨nd, rfl⟩⟩; refine ⟨_, rfl, ?_⟩) | ((with_reducible refine gate_callee (f := 22) rfl ?_); refine goesL_ (some 14) rfl rfl Try.func22 (by kernel_rfl) rfl #[.string t109] rfl (by (try simp only [List.map_toArray, List.map_cons, List.map_nil]); first | done | rfl | (simp only [List.length_drop, List.length_take]; rfl)) ?_; (with_reducible refine (vellumref2_Name.calls k1 t109 t111 _ A4.out).mono ?_); rintro e w' ⟨rfl, ⟨nd, rfl⟩⟩; refine ⟨_, rfl, ?_⟩))
          go_roundg k1
          case measure => have := HK1.out; omega
          case rel => exact ⟨(t110), (by first | rfl | (simp; done) | (simp [*]; done)), H', ⟨by have := HK1.out; omega⟩, by repeat (first | exact Drawn0.refl _ | apply Drawn0.step)⟩
        · rw [if_neg c5] at H
          have c5b0 : (t109.toList == ([46, 46] : List UInt8)) = false := beq_eq_false_iff_ne.mpr c5
          have c5b1 : (t109.toList != ([46, 46] : List UInt8)) = true := bne_iff_ne.mpr c5
          by_cases c6 : t111 = 0
          · rw [if_pos c6] at H
            have c6b0 : (t111 == 0) = true := beq_iff_eq.mpr c6
            have c6b1 : (t111 != 0) = false := bne_eq_false_iff_eq.mpr c6
            clear c6
            have H' := Aside0.mk H
            clear H
            go_wp2_with (first | ((with_reducible refine gate_callee (f := 18) rfl ?_); refine goesL_ (some 8) rfl rfl Try.func18 (by kernel_rfl) rfl #[.string x0_1] rfl (by (try simp only [List.map_toArray, List.map_cons, List.map_nil]); first | done | rfl | (simp only [List.length_drop, List.length_take]; rfl)) ?_; (with_reducible refine (vellumref11_Cut.calls k1 x0_1 t109 t110 _ A2.out).mono ?_); rintro e w' ⟨rfl, ⟨nd, rfl⟩⟩; refine ⟨_, rfl, ?_⟩) | ((with_reducible refine gate_callee (f := 22) rfl ?_); refine goesL_ (some 14) rfl rfl Try.func22 (by kernel_rfl) rfl #[.string t109] rfl (by (try simp only [List.map_toArray, List.map_cons, List.map_nil]); first | done | rfl | (simp only [List.length_drop, List.length_take]; rfl)) ?_; (with_reducible refine (vellumref2_Name.calls k1 t109 t111 _ A4.out).mono ?_); rintro e w' ⟨rfl, ⟨nd, rfl⟩⟩; refine ⟨_, rfl, ?_⟩))
            go_roundg k1
            case measure => have := HK1.out; omega
            case rel => exact ⟨(t110), (by first | rfl | (simp; done) | (simp [*]; done)), H', ⟨by have := HK1.out; omega⟩, by repeat (first | exact Drawn0.refl _ | apply Drawn0.step)⟩
          · rw [if_neg c6] at H
            have c6b0 : (t111 == 0) = false := beq_eq_false_iff_ne.mpr c6
            have c6b1 : (t111 != 0) = true := bne_iff_ne.mpr c6
            obtain rfl := Option.some.inj H
            go_wp2_with (first | ((with_reducible refine gate_callee (f := 18) rfl ?_); refine goesL_ (some 8) rfl rfl Try.func18 (by kernel_rfl) rfl #[.string x0_1] rfl (by (try simp only [List.map_toArray, List.map_cons, List.map_nil]); first | done | rfl | (simp only [List.length_drop, List.length_take]; rfl)) ?_; (with_reducible refine (vellumref11_Cut.calls k1 x0_1 t109 t110 _ A2.out).mono ?_); rintro e w' ⟨rfl, ⟨nd, rfl⟩⟩; refine ⟨_, rfl, ?_⟩) | ((with_reducible refine gate_callee (f := 22) rfl ?_); refine goesL_ (some 14) rfl rfl Try.func22 (by kernel_rfl) rfl #[.string t109] rfl (by (try simp only [List.map_toArray, List.map_cons, List.map_nil]); first | done | rfl | (simp only [List.length_drop, List.length_take]; rfl)) ?_; (with_reducible refine (vellumref2_Name.calls k1 t109 t111 _ A4.out).mono ?_); rintro e w' ⟨rfl, ⟨nd, rfl⟩⟩; refine ⟨_, rfl, ?_⟩))
            go_ret
            exact ⟨by first | rfl | (simp; done) | (simp [*]; done), by repeat (first | exact Drawn0.refl _ | apply Drawn0.step)⟩

end Go.Proofs.Ytjlgfcgdagikgaa.PWalk
