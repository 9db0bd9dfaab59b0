/- Packed by this session's own program (wip/tools/pack.py): what the claim needs of its texts. -/
import Derived.Test.YtkfikinjlbbibaaDoorUPTx0
namespace Go.Proofs.YtkfikinjlbbibaaDoor.PT
open Go.RowKit Go.Proofs.YtkfikinjlbbibaaDoorW.PrintWords Go.Proofs.YtkfikinjlbbibaaDoorW.PrintLast Go.Proofs.YtkfikinjlbbibaaDoorW.PrintMore
attribute [local go_sem] max2_int min2_int max_two min_two max_three min_three max_four min_four
set_option linter.unusedVariables false
set_option linter.unusedSimpArgs false
def vellumlaw18_told.l0 : Nat → List (S38) → ByteArray → Int → Int → Int → Option (Bool)
  | 0, _, _, _, _, _ => none
  | k + 1, x0, x1, x2, x3, x9 => if x9 < (x0.length : Int) then (if 0 ≤ x9 then (if ((rd_T38 x0 x9).f1).toList = x1.toList then (if ((rd_T38 x0 x9).f0) ≥ x2 then (if ((rd_T38 x0 x9).f0) ≤ x3 then (some true) else (vellumlaw18_told.l0 k x0 x1 x2 x3 (wrap64 (x9 + 1)))) else (vellumlaw18_told.l0 k x0 x1 x2 x3 (wrap64 (x9 + 1)))) else (vellumlaw18_told.l0 k x0 x1 x2 x3 (wrap64 (x9 + 1)))) else (none)) else (some false)
def vellumlaw18_told.f (k : Nat) (l0 : List (S38)) (a1 : ByteArray) (a2 : Int) (a3 : Int) : Option (Bool) := vellumlaw18_told.l0 k l0 a1 a2 a3 0
theorem vellumlaw18_told.mono_l : ∀ k, (∀ y0 y1 y2 y3 y4, LeO (vellumlaw18_told.l0 k y0 y1 y2 y3 y4) (vellumlaw18_told.l0 (k + 1) y0 y1 y2 y3 y4))
  | 0 => fun _ _ _ _ _ r h => by simp [vellumlaw18_told.l0] at h
  | k + 1 => by
    have ih0 := vellumlaw18_told.mono_l k
    · intro y0 y1 y2 y3 y4
      unfold vellumlaw18_told.l0
      repeat' first
      | (with_reducible exact ih0 _ _ _ _ _)
      | (with_reducible exact LeO.refl _)
      | (with_reducible exact LeO.none _)
      | (with_reducible refine LeO.ite ?_ ?_)
      | (with_reducible refine LeO.bind ?_ (fun _ => ?_))
      | exact ih0 _ _ _ _ _
      | exact LeO.none _
      | refine LeO.ite ?_ ?_
      | refine LeO.bind ?_ (fun _ => ?_)
theorem vellumlaw18_told.mono : ∀ a0 a1 a2 a3 k, LeO (vellumlaw18_told.f k a0 a1 a2 a3) (vellumlaw18_told.f (k + 1) a0 a1 a2 a3) := by
  intro a0 a1 a2 a3 k
  have ih0 := vellumlaw18_told.mono_l k
  unfold vellumlaw18_told.f
  repeat' first
      | (with_reducible exact ih0 _ _ _ _ _)
      | (with_reducible exact LeO.refl _)
      | (with_reducible exact LeO.none _)
      | (with_reducible refine LeO.ite ?_ ?_)
      | (with_reducible refine LeO.bind ?_ (fun _ => ?_))
      | exact ih0 _ _ _ _ _
      | exact LeO.none _
      | refine LeO.ite ?_ ?_
      | refine LeO.bind ?_ (fun _ => ?_)
set_option maxHeartbeats 8000000 in
set_option maxRecDepth 100000 in
theorem vellumlaw18_told.calls (k : Nat) (A0 : Option Addr) (c0 : Nat) (l0 : List (S38)) (a1 : ByteArray) (a2 : Int) (a3 : Int) (r : Bool) (w : World) (hr0 : Kd.C k38 w A0 l0.length l0) (hc0 : l0.length ≤ c0) (h : vellumlaw18_told.f k l0 a1 a2 a3 = some r) :
    Calls Tryd.prog 17 #[.slice A0 l0.length c0, .string a1, .int .i64 a2, .int .i64 a3] w fun e w' => e = .returned (.bool r) ∧ Drawn0 w w' := by
  have HR0 := Aside0.mk hr0
  have HC0 := Aside0.mk hc0
  clear hr0 hc0
  have H : (vellumlaw18_told.l0 k l0 a1 a2 a3 0) = some r := h
  clear h
  have H' := Aside0.mk H
  clear H
  go_enter Tryd.func17, Tryd.ntmps17
  go_wp2
  go_loopg [9] k (fun kq v9 w' => ∃ (x9_1 : Int), v9 = .int .i64 x9_1 ∧ Aside0 (vellumlaw18_told.l0 kq l0 a1 a2 a3 x9_1 = some r) ∧ Aside0 (kq ≤ k) ∧ Drawn0 w w')
  case atStart => exact ⟨(0), (by first | rfl | (simp; done) | (simp [*]; done)), H', ⟨Nat.le_refl _⟩, by repeat (first | exact Drawn0.refl _ | apply Drawn0.step)⟩
  case round =>
    clear H'
    try clear c1
    try clear p2
    obtain ⟨x9_1, rfl, HA, HK1, ⟨m1, rfl⟩⟩ := hrel
    cases gk with
    | zero => exact absurd HA.out (by simp [vellumlaw18_told.l0])
    | succ k1 =>
      have H := HA.out
      clear HA
      simp only [vellumlaw18_told.l0] at H
      by_cases c5 : x9_1 < (l0.length : Int)
      · rw [if_pos c5] at H
        have c5b0 : decide (x9_1 < (l0.length : Int)) = true := decide_eq_true c5
        clear c5
        by_cases c6 : 0 ≤ x9_1
        · rw [if_pos c6] at H
          have c6b0 : decide (0 ≤ x9_1) = true := decide_eq_true c6
          clear c6
          by_cases c7 : ((rd_T38 l0 x9_1).f1).toList = a1.toList
          · rw [if_pos c7] at H
            have c7b0 : (((rd_T38 l0 x9_1).f1).toList == a1.toList) = true := beq_iff_eq.mpr c7
            have c7b1 : (((rd_T38 l0 x9_1).f1).toList != a1.toList) = false := bne_eq_false_iff_eq.mpr c7
            clear c7
            by_cases c8 : ((rd_T38 l0 x9_1).f0) ≥ a2
            · rw [if_pos c8] at H
              have c8b0 : decide (a2 ≤ ((rd_T38 l0 x9_1).f0)) = true := decide_eq_true c8
              clear c8
              by_cases c9 : ((rd_T38 l0 x9_1).f0) ≤ a3
              · rw [if_pos c9] at H
                have c9b0 : decide (((rd_T38 l0 x9_1).f0) ≤ a3) = true := decide_eq_true c9
                clear c9
                obtain rfl := Option.some.inj H
                have p299 : 0 ≤ (x9_1 : Int) := of_decide_eq_true (by first | (with_reducible assumption) | assumption)
                have q299 : x9_1 < (l0.length : Int) := of_decide_eq_true (by first | (with_reducible assumption) | assumption)
                obtain ⟨ad299, e299, hx299_0, hx299_1⟩ := at_T38 HR0.out x9_1 p299 q299
                cases e299
                replace p299 := eq_true p299
                replace q299 := eq_true q299
                have p300 : 0 ≤ (x9_1 : Int) := of_decide_eq_true (by first | (with_reducible assumption) | assumption)
                have q300 : x9_1 < (l0.length : Int) := of_decide_eq_true (by first | (with_reducible assumption) | assumption)
                obtain ⟨ad300, e300, hx300_0, hx300_1⟩ := at_T38 HR0.out x9_1 p300 q300
                obtain rfl : ad299 = ad300 := (by injection e300)
                replace p300 := eq_true p300
                replace q300 := eq_true q300
                have p301 : 0 ≤ (x9_1 : Int) := of_decide_eq_true (by first | (with_reducible assumption) | assumption)
                have q301 : x9_1 < (l0.length : Int) := of_decide_eq_true (by first | (with_reducible assumption) | assumption)
                obtain ⟨ad301, e301, hx301_0, hx301_1⟩ := at_T38 HR0.out x9_1 p301 q301
                obtain rfl : ad299 = ad301 := (by injection e301)
                replace p301 := eq_true p301
                replace q301 := eq_true q301
                go_wp2
                go_ret
                exact ⟨by first | rfl | (simp; done) | (simp [*]; done), by repeat (first | exact Drawn0.refl _ | apply Drawn0.step)⟩
              · rw [if_neg c9] at H
                have c9b0 : decide (((rd_T38 l0 x9_1).f0) ≤ a3) = false := decide_eq_false c9
                clear c9
                have H' := Aside0.mk H
                clear H
                have p299 : 0 ≤ (x9_1 : Int) := of_decide_eq_true (by first | (with_reducible assumption) | assumption)
                have q299 : x9_1 < (l0.length : Int) := of_decide_eq_true (by first | (with_reducible assumption) | assumption)
                obtain ⟨ad299, e299, hx299_0, hx299_1⟩ := at_T38 HR0.out x9_1 p299 q299
                cases e299
                replace p299 := eq_true p299
                replace q299 := eq_true q299
                have p300 : 0 ≤ (x9_1 : Int) := of_decide_eq_true (by first | (with_reducible assumption) | assumption)
                have q300 : x9_1 < (l0.length : Int) := of_decide_eq_true (by first | (with_reducible assumption) | assumption)
                obtain ⟨ad300, e300, hx300_0, hx300_1⟩ := at_T38 HR0.out x9_1 p300 q300
                obtain rfl : ad299 = ad300 := (by injection e300)
                replace p300 := eq_true p300
                replace q300 := eq_true q300
                have p301 : 0 ≤ (x9_1 : Int) := of_decide_eq_true (by first | (with_reducible assumption) | assumption)
                have q301 : x9_1 < (l0.length : Int) := of_decide_eq_true (by first | (with_reducible assumption) | assumption)
                obtain ⟨ad301, e301, hx301_0, hx301_1⟩ := at_T38 HR0.out x9_1 p301 q301
                obtain rfl : ad299 = ad301 := (by injection e301)
                replace p301 := eq_true p301
                replace q301 := eq_true q301
                go_wp2
                go_roundg k1
                case measure => have := HK1.out; omega
                case rel => exact ⟨(wrap64 (x9_1 + 1)), (by first | rfl | (simp; done) | (simp [*]; done)), H', ⟨by have := HK1.out; omega⟩, by repeat (first | exact Drawn0.refl _ | apply Drawn0.step)⟩
            · rw [if_neg c8] at H
              have c8b0 : decide (a2 ≤ ((rd_T38 l0 x9_1).f0)) = false := decide_eq_false c8
              clear c8
              have H' := Aside0.mk H
              clear H
              have p299 : 0 ≤ (x9_1 : Int) := of_decide_eq_true (by first | (with_reducible assumption) | assumption)
              have q299 : x9_1 < (l0.length : Int) := of_decide_eq_true (by first | (with_reducible assumption) | assumption)
              obtain ⟨ad299, e299, hx299_0, hx299_1⟩ := at_T38 HR0.out x9_1 p299 q299
              cases e299
              replace p299 := eq_true p299
              replace q299 := eq_true q299
              have p300 : 0 ≤ (x9_1 : Int) := of_decide_eq_true (by first | (with_reducible assumption) | assumption)
              have q300 : x9_1 < (l0.length : Int) := of_decide_eq_true (by first | (with_reducible assumption) | assumption)
              obtain ⟨ad300, e300, hx300_0, hx300_1⟩ := at_T38 HR0.out x9_1 p300 q300
              obtain rfl : ad299 = ad300 := (by injection e300)
              replace p300 := eq_true p300
              replace q300 := eq_true q300
              go_wp2
              go_roundg k1
              case measure => have := HK1.out; omega
              case rel => exact ⟨(wrap64 (x9_1 + 1)), (by first | rfl | (simp; done) | (simp [*]; done)), H', ⟨by have := HK1.out; omega⟩, by repeat (first | exact Drawn0.refl _ | apply Drawn0.step)⟩
          · rw [if_neg c7] at H
            have c7b0 : (((rd_T38 l0 x9_1).f1).toList == a1.toList) = false := beq_eq_false_iff_ne.mpr c7
            have c7b1 : (((rd_T38 l0 x9_1).f1).toList != a1.toList) = true := bne_iff_ne.mpr c7
            have H' := Aside0.mk H
            clear H
            have p299 : 0 ≤ (x9_1 : Int) := of_decide_eq_true (by first | (with_reducible assumption) | assumption)
            have q299 : x9_1 < (l0.length : Int) := of_decide_eq_true (by first | (with_reducible assumption) | assumption)
            obtain ⟨ad299, e299, hx299_0, hx299_1⟩ := at_T38 HR0.out x9_1 p299 q299
            cases e299
            replace p299 := eq_true p299
            replace q299 := eq_true q299
            go_wp2
            go_roundg k1
            case measure => have := HK1.out; omega
            case rel => exact ⟨(wrap64 (x9_1 + 1)), (by first | rfl | (simp; done) | (simp [*]; done)), H', ⟨by have := HK1.out; omega⟩, by repeat (first | exact Drawn0.refl _ | apply Drawn0.step)⟩
        · rw [if_neg c6] at H
          exact absurd H (by simp)
      · rw [if_neg c5] at H
        have c5b0 : decide (x9_1 < (l0.length : Int)) = false := decide_eq_false c5
        clear c5
        obtain rfl := Option.some.inj H
        go_wp2
        go_ret
        exact ⟨by first | rfl | (simp; done) | (simp [*]; done), by repeat (first | exact Drawn0.refl _ | apply Drawn0.step)⟩
end Go.Proofs.YtkfikinjlbbibaaDoor.PT
