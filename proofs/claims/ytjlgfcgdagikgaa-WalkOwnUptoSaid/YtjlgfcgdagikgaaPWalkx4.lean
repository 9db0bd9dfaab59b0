-- Printed by this session's own program (wip/tools/printx.py) by way of the kit's print.py. Not trusted: Lean checks it.
import Derived.Test.YtjlgfcgdagikgaaPWalkx0
import Derived.Test.YtjlgfcgdagikgaaPWalkx1
import Derived.Test.YtjlgfcgdagikgaaPWalkx3
import Derived.Test.YtjlgfcgdagikgaaTame
namespace Go.Proofs.Ytjlgfcgdagikgaa.PWalk
open Go.RowKit Go.Proofs.YtjlgfcgdagikgaaW.PrintWords Go.Proofs.YtjlgfcgdagikgaaW.PrintLast Go.Proofs.YtjlgfcgdagikgaaW.PrintMore
attribute [local go_sem] max2_int min2_int max_two min_two max_three min_three max_four min_four   -- for this text's walks alone
set_option linter.unusedVariables false
set_option linter.unusedSimpArgs false

/-! ### vellumlaw11_WalkParts: function 7 -/
mutual
def vellumlaw11_WalkParts.j0 : Nat → List ByteArray → List Int → List Int → Bool → Option (Bool)
  | 0, _, _, _, _ => none
  | k + 1, x0, x1, x2, x23 => if x23 = true then (some false) else ((walk_Split.f k (⟨#[47, 120, 47, 46, 46, 47, 121, 47]⟩ : ByteArray)).bind fun bt148 => (if bt148.2 = 0 then ((vellumlaw11_SameParts.f k bt148.1 (([(⟨#[120]⟩ : ByteArray), (⟨#[46, 46]⟩ : ByteArray), (⟨#[121]⟩ : ByteArray)] : List ByteArray))).bind fun t155 => (vellumlaw11_WalkParts.j1 k x0 x1 x2 (!t155))) else (vellumlaw11_WalkParts.j1 k x0 x1 x2 true)))
def vellumlaw11_WalkParts.j1 : Nat → List ByteArray → List Int → List Int → Bool → Option (Bool)
  | 0, _, _, _, _ => none
  | k + 1, x0, x1, x2, x35 => if x35 = true then (some false) else (vellumlaw11_WalkParts.l0 k x0 x1 x2 ([] : List ByteArray) 0)
def vellumlaw11_WalkParts.l0 : Nat → List ByteArray → List Int → List Int → List ByteArray → Int → Option (Bool)
  | 0, _, _, _, _, _ => none
  | k + 1, x0, x1, x2, x9, x10 => if x10 < (x0.length : Int) then (vellumlaw11_WalkParts.j3 k x0 x1 x2 x9 x10 (decide (x10 < 1024))) else (vellumlaw11_WalkParts.j3 k x0 x1 x2 x9 x10 false)
def vellumlaw11_WalkParts.j3 : Nat → List ByteArray → List Int → List Int → List ByteArray → Int → Bool → Option (Bool)
  | 0, _, _, _, _, _, _ => none
  | k + 1, x0, x1, x2, x9, x10, x43 => if x43 = true then (if 0 ≤ x10 then (if x10 < (x0.length : Int) then ((vellumlaw11_tame.f (rdOf ByteArray.empty x0 x10)).bind fun t157 => (if (x1.length : Int) > 0 then (if (x1.length : Int) = 0 then (none) else (if 0 ≤ (Int.tmod x10 (x1.length : Int)) then (if (Int.tmod x10 (x1.length : Int)) < (x1.length : Int) then (if (Int.tmod (rd x1 (Int.tmod x10 (x1.length : Int))) 4) = 1 then (if x9.length < 8796093022208 then (vellumlaw11_WalkParts.l0 k x0 x1 x2 (x9 ++ [(⟨#[46, 46]⟩ : ByteArray)]) (wrap64 (x10 + 1))) else (none)) else (if x9.length < 8796093022208 then (vellumlaw11_WalkParts.l0 k x0 x1 x2 (x9 ++ [t157]) (wrap64 (x10 + 1))) else (none))) else (none)) else (none))) else (if x9.length < 8796093022208 then (vellumlaw11_WalkParts.l0 k x0 x1 x2 (x9 ++ [t157]) (wrap64 (x10 + 1))) else (none)))) else (none)) else (none)) else ((vellumlaw11_path.f k x9 x2).bind fun t168 => ((walk_Split.f k t168).bind fun bt169 => (if (t168.size : Int) > 1023 then (if bt169.2 = 7 then (some ((bt169.1.length : Int) == 0)) else (some false)) else (if bt169.2 = 0 then ((vellumlaw11_SameParts.f k bt169.1 x9).bind fun t173 => (some t173)) else (some false)))))
end
def vellumlaw11_WalkParts.f (k : Nat) (l0 : List ByteArray) (l1 : List Int) (l2 : List Int) : Option (Bool) := (walk_Split.f k (⟨#[47]⟩ : ByteArray)).bind fun bt144 => (if bt144.2 = 0 then (vellumlaw11_WalkParts.j0 k l0 l1 l2 ((bt144.1.length : Int) != 0)) else (vellumlaw11_WalkParts.j0 k l0 l1 l2 true))
theorem vellumlaw11_WalkParts.mono_l : ∀ k, (∀ y0 y1 y2 y3, LeO (vellumlaw11_WalkParts.j0 k y0 y1 y2 y3) (vellumlaw11_WalkParts.j0 (k + 1) y0 y1 y2 y3)) ∧ (∀ y0 y1 y2 y3, LeO (vellumlaw11_WalkParts.j1 k y0 y1 y2 y3) (vellumlaw11_WalkParts.j1 (k + 1) y0 y1 y2 y3)) ∧ (∀ y0 y1 y2 y3 y4, LeO (vellumlaw11_WalkParts.l0 k y0 y1 y2 y3 y4) (vellumlaw11_WalkParts.l0 (k + 1) y0 y1 y2 y3 y4)) ∧ (∀ y0 y1 y2 y3 y4 y5, LeO (vellumlaw11_WalkParts.j3 k y0 y1 y2 y3 y4 y5) (vellumlaw11_WalkParts.j3 (k + 1) y0 y1 y2 y3 y4 y5))
  | 0 => ⟨fun _ _ _ _ r h => by simp [vellumlaw11_WalkParts.j0] at h, fun _ _ _ _ r h => by simp [vellumlaw11_WalkParts.j1] at h, fun _ _ _ _ _ r h => by simp [vellumlaw11_WalkParts.l0] at h, fun _ _ _ _ _ _ r h => by simp [vellumlaw11_WalkParts.j3] at h⟩
  | k + 1 => by
    obtain ⟨ih0, ih1, ih2, ih3⟩ := vellumlaw11_WalkParts.mono_l k
    refine ⟨?_, ?_, ?_, ?_⟩
    · intro y0 y1 y2 y3
      unfold vellumlaw11_WalkParts.j0
      repeat' first
      | (with_reducible exact ih0 _ _ _ _)
      | (with_reducible exact ih1 _ _ _ _)
      | (with_reducible exact ih2 _ _ _ _ _)
      | (with_reducible exact ih3 _ _ _ _ _ _)
      | (with_reducible exact vellumlaw11_SameParts.mono _ _ _)
      | (with_reducible exact vellumlaw11_path.mono _ _ _)
      | (with_reducible exact walk_Split.mono _ _)
      | (with_reducible exact LeO.refl _)
      | (with_reducible exact LeO.none _)
      | (with_reducible refine LeO.ite ?_ ?_)
      | (with_reducible refine LeO.bind ?_ (fun _ => ?_))
      | exact ih0 _ _ _ _
      | exact ih1 _ _ _ _
      | exact ih2 _ _ _ _ _
      | exact ih3 _ _ _ _ _ _
      | exact vellumlaw11_SameParts.mono _ _ _
      | exact vellumlaw11_path.mono _ _ _
      | exact walk_Split.mono _ _
      | exact LeO.none _
      | refine LeO.ite ?_ ?_
      | refine LeO.bind ?_ (fun _ => ?_)
    · intro y0 y1 y2 y3
      unfold vellumlaw11_WalkParts.j1
      repeat' first
      | (with_reducible exact ih0 _ _ _ _)
      | (with_reducible exact ih1 _ _ _ _)
      | (with_reducible exact ih2 _ _ _ _ _)
      | (with_reducible exact ih3 _ _ _ _ _ _)
      | (with_reducible exact vellumlaw11_SameParts.mono _ _ _)
      | (with_reducible exact vellumlaw11_path.mono _ _ _)
      | (with_reducible exact walk_Split.mono _ _)
      | (with_reducible exact LeO.refl _)
      | (with_reducible exact LeO.none _)
      | (with_reducible refine LeO.ite ?_ ?_)
      | (with_reducible refine LeO.bind ?_ (fun _ => ?_))
      | exact ih0 _ _ _ _
      | exact ih1 _ _ _ _
      | exact ih2 _ _ _ _ _
      | exact ih3 _ _ _ _ _ _
      | exact vellumlaw11_SameParts.mono _ _ _
      | exact vellumlaw11_path.mono _ _ _
      | exact walk_Split.mono _ _
      | exact LeO.none _
      | refine LeO.ite ?_ ?_
      | refine LeO.bind ?_ (fun _ => ?_)
    · intro y0 y1 y2 y3 y4
      unfold vellumlaw11_WalkParts.l0
      repeat' first
      | (with_reducible exact ih0 _ _ _ _)
      | (with_reducible exact ih1 _ _ _ _)
      | (with_reducible exact ih2 _ _ _ _ _)
      | (with_reducible exact ih3 _ _ _ _ _ _)
      | (with_reducible exact vellumlaw11_SameParts.mono _ _ _)
      | (with_reducible exact vellumlaw11_path.mono _ _ _)
      | (with_reducible exact walk_Split.mono _ _)
      | (with_reducible exact LeO.refl _)
      | (with_reducible exact LeO.none _)
      | (with_reducible refine LeO.ite ?_ ?_)
      | (with_reducible refine LeO.bind ?_ (fun _ => ?_))
      | exact ih0 _ _ _ _
      | exact ih1 _ _ _ _
      | exact ih2 _ _ _ _ _
      | exact ih3 _ _ _ _ _ _
      | exact vellumlaw11_SameParts.mono _ _ _
      | exact vellumlaw11_path.mono _ _ _
      | exact walk_Split.mono _ _
      | exact LeO.none _
      | refine LeO.ite ?_ ?_
      | refine LeO.bind ?_ (fun _ => ?_)
    · intro y0 y1 y2 y3 y4 y5
      unfold vellumlaw11_WalkParts.j3
      repeat' first
      | (with_reducible exact ih0 _ _ _ _)
      | (with_reducible exact ih1 _ _ _ _)
      | (with_reducible exact ih2 _ _ _ _ _)
      | (with_reducible exact ih3 _ _ _ _ _ _)
      | (with_reducible exact vellumlaw11_SameParts.mono _ _ _)
      | (with_reducible exact vellumlaw11_path.mono _ _ _)
      | (with_reducible exact walk_Split.mono _ _)
      | (with_reducible exact LeO.refl _)
      | (with_reducible exact LeO.none _)
      | (with_reducible refine LeO.ite ?_ ?_)
      | (with_reducible refine LeO.bind ?_ (fun _ => ?_))
      | exact ih0 _ _ _ _
      | exact ih1 _ _ _ _
      | exact ih2 _ _ _ _ _
      | exact ih3 _ _ _ _ _ _
      | exact vellumlaw11_SameParts.mono _ _ _
      | exact vellumlaw11_path.mono _ _ _
      | exact walk_Split.mono _ _
      | exact LeO.none _
      | refine LeO.ite ?_ ?_
      | refine LeO.bind ?_ (fun _ => ?_)
theorem vellumlaw11_WalkParts.mono : ∀ a0 a1 a2 k, LeO (vellumlaw11_WalkParts.f k a0 a1 a2) (vellumlaw11_WalkParts.f (k + 1) a0 a1 a2) := by
  intro a0 a1 a2 k
  obtain ⟨ih0, ih1, ih2, ih3⟩ := vellumlaw11_WalkParts.mono_l k
  unfold vellumlaw11_WalkParts.f
  repeat' first
      | (with_reducible exact ih0 _ _ _ _)
      | (with_reducible exact ih1 _ _ _ _)
      | (with_reducible exact ih2 _ _ _ _ _)
      | (with_reducible exact ih3 _ _ _ _ _ _)
      | (with_reducible exact vellumlaw11_SameParts.mono _ _ _)
      | (with_reducible exact vellumlaw11_path.mono _ _ _)
      | (with_reducible exact walk_Split.mono _ _)
      | (with_reducible exact LeO.refl _)
      | (with_reducible exact LeO.none _)
      | (with_reducible refine LeO.ite ?_ ?_)
      | (with_reducible refine LeO.bind ?_ (fun _ => ?_))
      | exact ih0 _ _ _ _
      | exact ih1 _ _ _ _
      | exact ih2 _ _ _ _ _
      | exact ih3 _ _ _ _ _ _
      | exact vellumlaw11_SameParts.mono _ _ _
      | exact vellumlaw11_path.mono _ _ _
      | exact walk_Split.mono _ _
      | exact LeO.none _
      | refine LeO.ite ?_ ?_
      | refine LeO.bind ?_ (fun _ => ?_)
set_option maxHeartbeats 8000000 in
set_option maxRecDepth 100000 in
theorem vellumlaw11_WalkParts.calls (k : Nat) (A0 : Option Addr) (c0 : Nat) (l0 : List ByteArray) (A1 : Option Addr) (c1 : Nat) (l1 : List Int) (A2 : Option Addr) (c2 : Nat) (l2 : List Int) (r : Bool) (w : World) (hr0 : Kd.C Kd.string w A0 l0.length l0) (hc0 : l0.length ≤ c0) (hr1 : Kd.C (Kd.int .i64) w A1 l1.length l1) (hc1 : l1.length ≤ c1) (hr2 : Kd.C (Kd.int .i64) w A2 l2.length l2) (hc2 : l2.length ≤ c2) (h : vellumlaw11_WalkParts.f k l0 l1 l2 = some r) :
    Calls Try.prog 7 #[.slice A0 l0.length c0, .slice A1 l1.length c1, .slice A2 l2.length c2] w fun e w' => e = .returned (.bool r) ∧ Below w.heap.size w w' := by
  have HR0 := Aside0.mk hr0
  have HC0 := Aside0.mk hc0
  clear hr0 hc0
  have HR1 := Aside0.mk hr1
  have HC1 := Aside0.mk hc1
  clear hr1 hc1
  have HR2 := Aside0.mk hr2
  have HC2 := Aside0.mk hc2
  clear hr2 hc2
  have HB := Aside0.mk (Below.refl w.heap.size w)
  have H : ((walk_Split.f k (⟨#[47]⟩ : ByteArray)).bind fun bt144 => (if bt144.2 = 0 then (vellumlaw11_WalkParts.j0 k l0 l1 l2 ((bt144.1.length : Int) != 0)) else (vellumlaw11_WalkParts.j0 k l0 l1 l2 true))) = some r := h
  clear h
  replace H := Option.bind_eq_some_iff.mp H
  obtain ⟨⟨t144, t145⟩, A40, H⟩ := H
  replace H : (if t145 = 0 then (vellumlaw11_WalkParts.j0 k l0 l1 l2 ((t144.length : Int) != 0)) else (vellumlaw11_WalkParts.j0 k l0 l1 l2 true)) = some r := H
  have A4 := Aside0.mk A40
  clear A40
  have HC5 := Aside0.mk H
  clear H
  go_enter Try.func7, Try.ntmps7
  go_upto_region 2 with (first | ((with_reducible refine gate_callee (f := 9) rfl ?_); refine goesL_ (some 14) rfl rfl Try.func9 (by kernel_rfl) rfl #[.string (⟨#[47]⟩ : ByteArray)] rfl (by (try simp only [List.map_toArray, List.map_cons, List.map_nil]); first | done | rfl | (simp only [List.length_drop, List.length_take]; rfl)) ?_; (with_reducible refine (walk_Split.calls k (⟨#[47]⟩ : ByteArray) t144 t145 _ A4.out).mono ?_); rintro e w6 ⟨v146, rfl, ho0, hb⟩; refine ⟨_, rfl, ?_⟩; have n0_ := Aside0.mk (Kd.R_lower ho0 (below_size (by repeat (first | (with_reducible first | exact HB.out | apply below_alloc | apply pw_below_drewN | apply below_drew1) | exact HB.out)))); have n1_ := Aside0.mk (below_step (by repeat (first | (with_reducible first | exact HB.out | apply below_alloc | apply pw_below_drewN | apply below_drew1) | exact HB.out)) hb); clear HB; have HO147 := n0_; have HB := n1_; clear n0_ n1_; (try clear hb); (try clear hb2); (try clear hk); (try clear hi); (try clear ho0)))
  (try simp only [Act.put, List.setIfInBounds_toArray, List.set_cons_zero, List.set_cons_succ])
  go_cut [23] (fun v23 wc => ∃ (kq : Nat) (x23_4 : Bool), v23 = .bool x23_4 ∧ Aside0 (vellumlaw11_WalkParts.j0 kq l0 l1 l2 x23_4 = some r) ∧ Aside0 (kq ≤ k) ∧ Aside0 (Below w.heap.size w wc))
  case first =>
    have H := HC5.out
    clear HC5
    by_cases c7 : t145 = 0
    · rw [if_pos c7] at H
      have c7b0 : (t145 == 0) = true := beq_iff_eq.mpr c7
      have c7b1 : (t145 != 0) = false := bne_eq_false_iff_eq.mpr c7
      clear c7
      (first | rw [c7b0] | (simp only [i64_w, i32_w]; rw [c7b0]) | skip)
      have H' := Aside0.mk H
      clear H
      obtain ⟨Ao8, co8, eo8⟩ := Kd.R_slice HO147.out
      subst eo8
      go_wp2
      go_meet
      case rel => exact ⟨_, (((t144.length : Int) != 0)), (by first | rfl | (simp; done) | (simp [*]; done)), H', ⟨by first | omega | exact Nat.le_refl _⟩, ⟨by repeat (first | (with_reducible first | exact HB.out | apply below_alloc | apply pw_below_drewN | apply below_drew1) | exact HB.out)⟩⟩
    · rw [if_neg c7] at H
      have c7b0 : (t145 == 0) = false := beq_eq_false_iff_ne.mpr c7
      have c7b1 : (t145 != 0) = true := bne_iff_ne.mpr c7
      (first | rw [c7b0] | (simp only [i64_w, i32_w]; rw [c7b0]) | skip)
      have H' := Aside0.mk H
      clear H
      go_wp2
      go_meet
      case rel => exact ⟨_, (true), (by first | rfl | (simp; done) | (simp [*]; done)), H', ⟨by first | omega | exact Nat.le_refl _⟩, ⟨by repeat (first | (with_reducible first | exact HB.out | apply below_alloc | apply pw_below_drewN | apply below_drew1) | exact HB.out)⟩⟩
  case rest =>
    clear HC5
    try clear c1
    try clear c2
    try clear p2
    try clear c7
    try clear c7b0
    try clear c7b1
    obtain ⟨kq, x23_4, rfl, HA, HJ4, HB⟩ := hcut
    cases kq with
    | zero => exact absurd HA.out (by simp [vellumlaw11_WalkParts.j0])
    | succ kj4 =>
      have H := HA.out
      clear HA
      simp only [vellumlaw11_WalkParts.j0] at H
      by_cases c9 : x23_4 = true
      · subst c9
        have H1 : (some false) = some r := by rw [if_pos rfl] at H; exact H
        clear H
        have H := H1
        clear H1
        obtain rfl := Option.some.inj H
        go_wp2
        go_ret
        exact ⟨by first | rfl | (simp [errW_none, errW_some] <;> rfl) | (simp [*, errW_none, errW_some] <;> rfl), by repeat (first | (with_reducible first | exact HB.out | apply below_alloc | apply pw_below_drewN | apply below_drew1) | exact HB.out)⟩
      · replace c9 := Bool.eq_false_iff.mpr c9
        subst c9
        have H1 : ((walk_Split.f kj4 (⟨#[47, 120, 47, 46, 46, 47, 121, 47]⟩ : ByteArray)).bind fun bt148 => (if bt148.2 = 0 then ((vellumlaw11_SameParts.f kj4 bt148.1 (([(⟨#[120]⟩ : ByteArray), (⟨#[46, 46]⟩ : ByteArray), (⟨#[121]⟩ : ByteArray)] : List ByteArray))).bind fun t155 => (vellumlaw11_WalkParts.j1 kj4 l0 l1 l2 (!t155))) else (vellumlaw11_WalkParts.j1 kj4 l0 l1 l2 true))) = some r := by rw [if_neg (show ¬ (false = true) by decide)] at H; exact H
        clear H
        have H := H1
        clear H1
        replace H := Option.bind_eq_some_iff.mp H
        obtain ⟨⟨t148, t149⟩, A100, H⟩ := H
        replace H : (if t149 = 0 then ((vellumlaw11_SameParts.f kj4 t148 (([(⟨#[120]⟩ : ByteArray), (⟨#[46, 46]⟩ : ByteArray), (⟨#[121]⟩ : ByteArray)] : List ByteArray))).bind fun t155 => (vellumlaw11_WalkParts.j1 kj4 l0 l1 l2 (!t155))) else (vellumlaw11_WalkParts.j1 kj4 l0 l1 l2 true)) = some r := H
        have A10 := Aside0.mk A100
        clear A100
        have HC11 := Aside0.mk H
        clear H
        go_upto_region 5 with (first | ((with_reducible refine gate_callee (f := 9) rfl ?_); refine goesL_ (some 25) rfl rfl Try.func9 (by kernel_rfl) rfl #[.string (⟨#[47, 120, 47, 46, 46, 47, 121, 47]⟩ : ByteArray)] rfl (by (try simp only [List.map_toArray, List.map_cons, List.map_nil]); first | done | rfl | (simp only [List.length_drop, List.length_take]; rfl)) ?_; (with_reducible refine (walk_Split.calls kj4 (⟨#[47, 120, 47, 46, 46, 47, 121, 47]⟩ : ByteArray) t148 t149 _ A10.out).mono ?_); rintro e w12 ⟨v150, rfl, ho0, hb⟩; refine ⟨_, rfl, ?_⟩; have n0_ := Aside0.mk (Kd.R_lower ho0 (below_size (by repeat (first | (with_reducible first | exact HB.out | apply below_alloc | apply pw_below_drewN | apply below_drew1) | exact HB.out)))); have n1_ := Aside0.mk (below_step (by repeat (first | (with_reducible first | exact HB.out | apply below_alloc | apply pw_below_drewN | apply below_drew1) | exact HB.out)) hb); clear HB; have HO151 := n0_; have HB := n1_; clear n0_ n1_; (try clear hb); (try clear hb2); (try clear hk); (try clear hi); (try clear ho0)))
        (try simp only [Act.put, List.setIfInBounds_toArray, List.set_cons_zero, List.set_cons_succ])
        go_cut [35] (fun v35 wc => ∃ (kq : Nat) (x35_10 : Bool), v35 = .bool x35_10 ∧ Aside0 (vellumlaw11_WalkParts.j1 kq l0 l1 l2 x35_10 = some r) ∧ Aside0 (kq ≤ kj4) ∧ Aside0 (Below w.heap.size w wc))
        case first =>
          have H := HC11.out
          clear HC11
          by_cases c13 : t149 = 0
          · rw [if_pos c13] at H
            have c13b0 : (t149 == 0) = true := beq_iff_eq.mpr c13
            have c13b1 : (t149 != 0) = false := bne_eq_false_iff_eq.mpr c13
            clear c13
            (first | rw [c13b0] | (simp only [i64_w, i32_w]; rw [c13b0]) | skip)
            obtain ⟨y152, hy152⟩ : ∃ y_ : List ByteArray, y_ = (([(⟨#[120]⟩ : ByteArray), (⟨#[46, 46]⟩ : ByteArray), (⟨#[121]⟩ : ByteArray)] : List ByteArray)) := ⟨_, rfl⟩
            replace H : ((vellumlaw11_SameParts.f kj4 t148 y152).bind fun t155 => (vellumlaw11_WalkParts.j1 kj4 l0 l1 l2 (!t155))) = some r := by first | (rw [hy152]; with_reducible exact H) | (have H2_ := (Option.bind_some _ _).symm.trans H; rw [hy152]; with_reducible exact H2_) | (have H2_ := (Option.bind_some _ _).symm.trans H; with_reducible exact H2_) | with_reducible exact H | (rw [hy152]; exact H) | exact H
            have Ny152 := Aside0.mk hy152
            clear hy152
            replace H := Option.bind_eq_some_iff.mp H
            obtain ⟨t155, A140, H⟩ := H
            replace H : (vellumlaw11_WalkParts.j1 kj4 l0 l1 l2 (!t155)) = some r := H
            have A14 := Aside0.mk A140
            clear A140
            have H' := Aside0.mk H
            clear H
            go_wp2_with (first | ((with_reducible refine gate_dst (N := 32) rfl ?_); (try (refine gate_guard (by rfl) ?_; dsimp only)); refine Kd.R_lit Kd.string _ 9 ?hg (N := 32) ?hd (xs := ([(⟨#[120]⟩ : ByteArray), (⟨#[46, 46]⟩ : ByteArray), (⟨#[121]⟩ : ByteArray)] : List ByteArray)) (inner := [.string (⟨#[120]⟩ : ByteArray), .string (⟨#[46, 46]⟩ : ByteArray), .string (⟨#[121]⟩ : ByteArray)]) (ok := fun _ => True) (okp := fun _ => True) ?hr ?hp (fun _ hk => hk) trivial (Below.refl _ _) (Nat.le_refl _) (by simp) ?_; (case hd => rfl); (case hg => rfl); (case hr => first | (go_simp; done) | (go_simp; rfl)); (case hp => exact (Reps.one (show Kd.M Kd.string _ _ _ (⟨#[120]⟩ : ByteArray) [.string (⟨#[120]⟩ : ByteArray)] from rfl) (Reps.one (show Kd.M Kd.string _ _ _ (⟨#[46, 46]⟩ : ByteArray) [.string (⟨#[46, 46]⟩ : ByteArray)] from rfl) (Reps.one (show Kd.M Kd.string _ _ _ (⟨#[121]⟩ : ByteArray) [.string (⟨#[121]⟩ : ByteArray)] from rfl) (Reps.none _ _))))); intro v153 w15 ho16 hb hg_ hnew_; clear hg_ hnew_; (first | rw [← Ny152.out] at ho16 | (simp only [Int.reduceToNat] at ho16; rw [← Ny152.out] at ho16)); have n0_ := Aside0.mk (Kd.R_elder' (by (with_reducible repeat (first | apply Kd.R_alloc | apply Kd.R_drewN | apply Kd.R_drew)); exact HO151.out) (Kd.R_base ho16) hb); have n1_ := Aside0.mk (Kd.R_lower (Kd.R_new' ho16 (Kd.R_lt (by (with_reducible repeat (first | apply Kd.R_alloc | apply Kd.R_drewN | apply Kd.R_drew)); exact HO151.out))) (below_size (by repeat (first | (with_reducible first | exact HB.out | apply below_alloc | apply pw_below_drewN | apply below_drew1) | exact HB.out)))); have n2_ := Aside0.mk (below_step (by repeat (first | (with_reducible first | exact HB.out | apply below_alloc | apply pw_below_drewN | apply below_drew1) | exact HB.out)) hb); clear HO151; clear HB; have HO151 := n0_; have HO154 := n1_; have HB := n2_; clear n0_ n1_ n2_; clear hb ho16; obtain ⟨Ao17, co17, eo17⟩ := Kd.R_slice HO151.out; subst eo17; obtain ⟨Ao18, co18, eo18⟩ := Kd.R_slice HO154.out; subst eo18) | (go_at_call 10; (with_reducible refine (vellumlaw11_SameParts.calls kj4 _ _ t148 _ _ y152 t155 _ ?side1 ?side2 ?side3 ?side4 A14.out).mono ?_); (case side1 => repeat (first | exact (Kd.R_reads' HO151.out).2.2 | (with_reducible refine Kd.C_alloc ?_ _) | (with_reducible refine Kd.C_drewN ?_ _) | (with_reducible refine Kd.C_drew ?_))); (case side2 => exact (Kd.R_reads' HO151.out).2.1); (case side3 => repeat (first | exact (Kd.R_reads' HO154.out).2.2 | (with_reducible refine Kd.C_alloc ?_ _) | (with_reducible refine Kd.C_drewN ?_ _) | (with_reducible refine Kd.C_drew ?_))); (case side4 => exact (Kd.R_reads' HO154.out).2.1); rintro e w' ⟨rfl, ⟨nd, rfl⟩⟩))
            go_meet
            case rel => exact ⟨_, (!t155), (by first | rfl | (simp; done) | (simp [*]; done)), H', ⟨by have := HJ4.out; first | omega | exact Nat.le_refl _⟩, ⟨by repeat (first | (with_reducible first | exact HB.out | apply below_alloc | apply pw_below_drewN | apply below_drew1) | exact HB.out)⟩⟩
          · rw [if_neg c13] at H
            have c13b0 : (t149 == 0) = false := beq_eq_false_iff_ne.mpr c13
            have c13b1 : (t149 != 0) = true := bne_iff_ne.mpr c13
            (first | rw [c13b0] | (simp only [i64_w, i32_w]; rw [c13b0]) | skip)
            have H' := Aside0.mk H
            clear H
            go_wp2
            go_meet
            case rel => exact ⟨_, (true), (by first | rfl | (simp; done) | (simp [*]; done)), H', ⟨by have := HJ4.out; first | omega | exact Nat.le_refl _⟩, ⟨by repeat (first | (with_reducible first | exact HB.out | apply below_alloc | apply pw_below_drewN | apply below_drew1) | exact HB.out)⟩⟩
        case rest =>
          clear HC11
          try clear c1
          try clear c2
          try clear p2
          try clear c7
          try clear c7b0
          try clear c7b1
          try clear c9
          try clear c13
          try clear c13b0
          try clear c13b1
          try clear p2
          obtain ⟨kq, x35_10, rfl, HA, HJ10, HB⟩ := hcut
          cases kq with
          | zero => exact absurd HA.out (by simp [vellumlaw11_WalkParts.j1])
          | succ kj10 =>
            have H := HA.out
            clear HA
            simp only [vellumlaw11_WalkParts.j1] at H
            by_cases c19 : x35_10 = true
            · subst c19
              have H1 : (some false) = some r := by rw [if_pos rfl] at H; exact H
              clear H
              have H := H1
              clear H1
              obtain rfl := Option.some.inj H
              go_wp2
              go_ret
              exact ⟨by first | rfl | (simp [errW_none, errW_some] <;> rfl) | (simp [*, errW_none, errW_some] <;> rfl), by repeat (first | (with_reducible first | exact HB.out | apply below_alloc | apply pw_below_drewN | apply below_drew1) | exact HB.out)⟩
            · replace c19 := Bool.eq_false_iff.mpr c19
              subst c19
              have H1 : (vellumlaw11_WalkParts.l0 kj10 l0 l1 l2 ([] : List ByteArray) 0) = some r := by rw [if_neg (show ¬ (false = true) by decide)] at H; exact H
              clear H
              have H := H1
              clear H1
              have H' := Aside0.mk H
              clear H
              go_wp2
              go_loopg [9, 10] kj10 (fun kq v9 v10 w' => ∃ (x9_3 : List ByteArray) (x10_3 : Int), v10 = .int .i64 x10_3 ∧ Aside0 (vellumlaw11_WalkParts.l0 kq l0 l1 l2 x9_3 x10_3 = some r) ∧ Aside0 (kq ≤ kj10) ∧ Aside0 (Kd.R Kd.string 9 w' w.heap.size (fun _ => True) v9 x9_3) ∧ Aside0 (Below w.heap.size w w'))
              case atStart => exact ⟨(([] : List ByteArray)), (0), (by first | rfl | (simp; done) | (simp [*]; done)), H', ⟨Nat.le_refl _⟩, ⟨by first | exact Kd.R_nil _ _ _ _ _ | exact Kd.N_nil _ _ _ _ _ | exact Kd.V_nil _ _ _ _ _ | exact Kd.Q_nil _ _ _ _ _ | exact Kd.S_nil _ _ _ _ _⟩, ⟨by repeat (first | (with_reducible first | exact HB.out | apply below_alloc | apply pw_below_drewN | apply below_drew1) | exact HB.out)⟩⟩
              case round =>
                clear H'
                try clear c1
                try clear c2
                try clear p2
                try clear c7
                try clear c7b0
                try clear c7b1
                try clear c9
                try clear c13
                try clear c13b0
                try clear c13b1
                try clear c19
                try clear p2
                obtain ⟨x9_3, x10_3, rfl, HA, HK3, HO_9, HB⟩ := hrel
                cases gk with
                | zero => exact absurd HA.out (by simp [vellumlaw11_WalkParts.l0])
                | succ k3 =>
                  have H := HA.out
                  clear HA
                  simp only [vellumlaw11_WalkParts.l0] at H
                  have HC20 := Aside0.mk H
                  clear H
                  go_upto_region 9 with (fail)
                  go_cut [43] (fun v43 wc => ∃ (kq : Nat) (x43_19 : Bool), v43 = .bool x43_19 ∧ Aside0 (vellumlaw11_WalkParts.j3 kq l0 l1 l2 x9_3 x10_3 x43_19 = some r) ∧ Aside0 (kq ≤ k3) ∧ Aside0 (Kd.R Kd.string 9 wc w.heap.size (fun _ => True) u9 x9_3) ∧ Aside0 (Below w.heap.size w wc))
                  case first =>
                    have H := HC20.out
                    clear HC20
                    by_cases c21 : x10_3 < (l0.length : Int)
                    · rw [if_pos c21] at H
                      have c21b0 : decide (x10_3 < (l0.length : Int)) = true := decide_eq_true c21
                      clear c21
                      (first | rw [c21b0] | (simp only [i64_w, i32_w]; rw [c21b0]) | skip)
                      have H' := Aside0.mk H
                      clear H
                      go_wp2
                      go_meet
                      case rel => exact ⟨_, (decide (x10_3 < 1024)), (by first | rfl | (simp; done) | (simp [*]; done)), H', ⟨by have := HJ4.out; have := HJ10.out; have := HK3.out; first | omega | exact Nat.le_refl _⟩, ⟨by (with_reducible repeat (first | apply Kd.R_alloc | apply Kd.R_drewN | apply Kd.R_drew)); exact HO_9.out⟩, ⟨by repeat (first | (with_reducible first | exact HB.out | apply below_alloc | apply pw_below_drewN | apply below_drew1) | exact HB.out)⟩⟩
                    · rw [if_neg c21] at H
                      have c21b0 : decide (x10_3 < (l0.length : Int)) = false := decide_eq_false c21
                      clear c21
                      (first | rw [c21b0] | (simp only [i64_w, i32_w]; rw [c21b0]) | skip)
                      have H' := Aside0.mk H
                      clear H
                      go_wp2
                      go_meet
                      case rel => exact ⟨_, (false), (by first | rfl | (simp; done) | (simp [*]; done)), H', ⟨by have := HJ4.out; have := HJ10.out; have := HK3.out; first | omega | exact Nat.le_refl _⟩, ⟨by (with_reducible repeat (first | apply Kd.R_alloc | apply Kd.R_drewN | apply Kd.R_drew)); exact HO_9.out⟩, ⟨by repeat (first | (with_reducible first | exact HB.out | apply below_alloc | apply pw_below_drewN | apply below_drew1) | exact HB.out)⟩⟩
                  case rest =>
                    clear HC20
                    try clear c1
                    try clear c2
                    try clear p2
                    try clear c7
                    try clear c7b0
                    try clear c7b1
                    try clear c9
                    try clear c13
                    try clear c13b0
                    try clear c13b1
                    try clear c19
                    try clear c21
                    try clear c21b0
                    try clear p2
                    obtain ⟨kq, x43_19, rfl, HA, HJ19, HO_9, HB⟩ := hcut
                    cases kq with
                    | zero => exact absurd HA.out (by simp [vellumlaw11_WalkParts.j3])
                    | succ kj19 =>
                      have H := HA.out
                      clear HA
                      simp only [vellumlaw11_WalkParts.j3] at H
                      by_cases c22 : x43_19 = true
                      · subst c22
                        have H1 : (if 0 ≤ x10_3 then (if x10_3 < (l0.length : Int) then ((vellumlaw11_tame.f (rdOf ByteArray.empty l0 x10_3)).bind fun t157 => (if (l1.length : Int) > 0 then (if (l1.length : Int) = 0 then (none) else (if 0 ≤ (Int.tmod x10_3 (l1.length : Int)) then (if (Int.tmod x10_3 (l1.length : Int)) < (l1.length : Int) then (if (Int.tmod (rd l1 (Int.tmod x10_3 (l1.length : Int))) 4) = 1 then (if x9_3.length < 8796093022208 then (vellumlaw11_WalkParts.l0 kj19 l0 l1 l2 (x9_3 ++ [(⟨#[46, 46]⟩ : ByteArray)]) (wrap64 (x10_3 + 1))) else (none)) else (if x9_3.length < 8796093022208 then (vellumlaw11_WalkParts.l0 kj19 l0 l1 l2 (x9_3 ++ [t157]) (wrap64 (x10_3 + 1))) else (none))) else (none)) else (none))) else (if x9_3.length < 8796093022208 then (vellumlaw11_WalkParts.l0 kj19 l0 l1 l2 (x9_3 ++ [t157]) (wrap64 (x10_3 + 1))) else (none)))) else (none)) else (none)) = some r := by rw [if_pos rfl] at H; exact H
                        clear H
                        have H := H1
                        clear H1
                        by_cases c23 : 0 ≤ x10_3
                        · rw [if_pos c23] at H
                          have c23b0 : decide (0 ≤ x10_3) = true := decide_eq_true c23
                          clear c23
                          by_cases c24 : x10_3 < (l0.length : Int)
                          · rw [if_pos c24] at H
                            have c24b0 : decide (x10_3 < (l0.length : Int)) = true := decide_eq_true c24
                            clear c24
                            replace H := Option.bind_eq_some_iff.mp H
                            obtain ⟨t157, A250, H⟩ := H
                            replace H : (if (l1.length : Int) > 0 then (if (l1.length : Int) = 0 then (none) else (if 0 ≤ (Int.tmod x10_3 (l1.length : Int)) then (if (Int.tmod x10_3 (l1.length : Int)) < (l1.length : Int) then (if (Int.tmod (rd l1 (Int.tmod x10_3 (l1.length : Int))) 4) = 1 then (if x9_3.length < 8796093022208 then (vellumlaw11_WalkParts.l0 kj19 l0 l1 l2 (x9_3 ++ [(⟨#[46, 46]⟩ : ByteArray)]) (wrap64 (x10_3 + 1))) else (none)) else (if x9_3.length < 8796093022208 then (vellumlaw11_WalkParts.l0 kj19 l0 l1 l2 (x9_3 ++ [t157]) (wrap64 (x10_3 + 1))) else (none))) else (none)) else (none))) else (if x9_3.length < 8796093022208 then (vellumlaw11_WalkParts.l0 kj19 l0 l1 l2 (x9_3 ++ [t157]) (wrap64 (x10_3 + 1))) else (none))) = some r := H
                            have A25 := Aside0.mk A250
                            clear A250
                            by_cases c26 : (l1.length : Int) > 0
                            · rw [if_pos c26] at H
                              have c26b0 : decide (0 < (l1.length : Int)) = true := decide_eq_true c26
                              have c26b1 : decide (0 < l1.length) = true := decide_eq_true (by omega)
                              clear c26
                              by_cases c27 : (l1.length : Int) = 0
                              · rw [if_pos c27] at H
                                exact absurd H (by simp)
                              · rw [if_neg c27] at H
                                have c27b0 : ((l1.length : Int) == 0) = false := beq_eq_false_iff_ne.mpr c27
                                have c27b1 : ((l1.length : Int) != 0) = true := bne_iff_ne.mpr c27
                                have c27b2 : ¬ (l1 = []) := fun h_ => c27 (by rw [h_]; rfl)
                                obtain ⟨ji28, hji28⟩ : ∃ j_ : Int, (Int.tmod x10_3 (l1.length : Int)) = j_ := ⟨_, rfl⟩
                                replace H : (if 0 ≤ (ji28) then (if (ji28) < (l1.length : Int) then (if (Int.tmod (rd l1 (ji28)) 4) = 1 then (if x9_3.length < 8796093022208 then (vellumlaw11_WalkParts.l0 kj19 l0 l1 l2 (x9_3 ++ [(⟨#[46, 46]⟩ : ByteArray)]) (wrap64 (x10_3 + 1))) else (none)) else (if x9_3.length < 8796093022208 then (vellumlaw11_WalkParts.l0 kj19 l0 l1 l2 (x9_3 ++ [t157]) (wrap64 (x10_3 + 1))) else (none))) else (none)) else (none)) = some r := by first | (rw [hji28] at H; exact H) | (simp only [hji28] at H ⊢; exact H)
                                (try rw [hji28] at A25)
                                by_cases c29 : 0 ≤ (ji28)
                                · rw [if_pos c29] at H
                                  have c29b0 : decide (0 ≤ (ji28)) = true := decide_eq_true c29
                                  clear c29
                                  by_cases c30 : (ji28) < (l1.length : Int)
                                  · rw [if_pos c30] at H
                                    have c30b0 : decide ((ji28) < (l1.length : Int)) = true := decide_eq_true c30
                                    clear c30
                                    by_cases c31 : (Int.tmod (rd l1 (ji28)) 4) = 1
                                    · rw [if_pos c31] at H
                                      have c31b0 : ((Int.tmod (rd l1 (ji28)) 4) == 1) = true := beq_iff_eq.mpr c31
                                      have c31b1 : ((Int.tmod (rd l1 (ji28)) 4) != 1) = false := bne_eq_false_iff_eq.mpr c31
                                      clear c31
                                      by_cases c32 : x9_3.length < 8796093022208
                                      · rw [if_pos c32] at H
                                        have LMc32 := Aside0.mk c32
                                        clear c32
                                        obtain ⟨y159, hy159⟩ : ∃ y_ : List ByteArray, y_ = (x9_3 ++ [(⟨#[46, 46]⟩ : ByteArray)]) := ⟨_, rfl⟩
                                        replace H : (vellumlaw11_WalkParts.l0 kj19 l0 l1 l2 y159 (wrap64 (x10_3 + 1))) = some r := by first | (rw [hy159]; with_reducible exact H) | (have H2_ := (Option.bind_some _ _).symm.trans H; rw [hy159]; with_reducible exact H2_) | (have H2_ := (Option.bind_some _ _).symm.trans H; with_reducible exact H2_) | with_reducible exact H | (rw [hy159]; exact H) | exact H
                                        have Ny159 := Aside0.mk hy159
                                        clear hy159
                                        have H' := Aside0.mk H
                                        clear H
                                        have p156 : 0 ≤ (x10_3 : Int) := of_decide_eq_true (by first | (with_reducible assumption) | assumption)
                                        have q156 : x10_3 < (l0.length : Int) := of_decide_eq_true (by first | (with_reducible assumption) | assumption)
                                        obtain ⟨ad156, e156, hx156_0⟩ := Kd.at_string HR0.out x10_3 p156 q156
                                        cases e156
                                        replace hx156_0 := (HB.out.cell (World.block_lt_of_cell? w _ hx156_0)).trans hx156_0
                                        replace p156 := eq_true p156
                                        replace q156 := eq_true q156
                                        go_wp2_with (first | ((with_reducible refine gate_callee (f := 12) rfl ?_); refine goesL_ (some 50) rfl rfl Try.func12 (by kernel_rfl) rfl #[.string (rdOf ByteArray.empty l0 x10_3)] rfl (by (try simp only [List.map_toArray, List.map_cons, List.map_nil]); first | done | rfl | (simp only [List.length_drop, List.length_take]; rfl)) ?_; (with_reducible refine (vellumlaw11_tame.calls (rdOf ByteArray.empty l0 x10_3) t157 _ A25.out).mono ?_); rintro e w33 ⟨rfl, hb⟩; refine ⟨_, rfl, ?_⟩; have n0_ := Aside0.mk (Kd.R_below (by (with_reducible repeat (first | apply Kd.R_alloc | apply Kd.R_drewN | apply Kd.R_drew)); exact HO_9.out) hb); have n1_ := Aside0.mk (below_step (by repeat (first | (with_reducible first | exact HB.out | apply below_alloc | apply pw_below_drewN | apply below_drew1) | exact HB.out)) hb); clear HO_9; clear HB; have HO_9 := n0_; have HB := n1_; clear n0_ n1_; (try clear hb); (try clear hb2); (try clear hk); (try clear hi); have p158 : 0 ≤ ((ji28) : Int) := of_decide_eq_true (by first | (with_reducible assumption) | assumption); have q158 : (ji28) < (l1.length : Int) := of_decide_eq_true (by first | (with_reducible assumption) | assumption); obtain ⟨ad158, e158, hx158_0⟩ := Kd.at_int HR1.out (ji28) p158 q158; cases e158; replace hx158_0 := (HB.out.cell (World.block_lt_of_cell? w _ hx158_0)).trans hx158_0; replace p158 := eq_true p158; replace q158 := eq_true q158) | ((with_reducible refine gate_builtin (b := .append) (xs := #[.tmp 65, .tmp 67]) rfl ?_); (try (refine gate_guard (by rfl) ?_; dsimp only)); at_builtin; refine Kd.R_append Kd.string (w0 := w) w.heap.size rfl (.tmp 65) (.tmp 67) 23 9 (.string ⟨#[]⟩) 16 rfl Try.underlying23 info9 rfl (by decide) (by omega) u9 x9_3 (⟨#[46, 46]⟩ : ByteArray) [.string (⟨#[46, 46]⟩ : ByteArray)] (fun _ => True) (fun _ => False) rfl rfl ?aP (fun _ hk => hk.elim) ?aF ?aO ?aB ?aS ?aL ?_; (case aP => exact rfl); (case aB => exact (by repeat (first | (with_reducible first | exact HB.out | apply below_alloc | apply pw_below_drewN | apply below_drew1) | exact HB.out))); (case aF => exact (fun _ _ => trivial)); (case aO => exact (by (with_reducible repeat (first | apply Kd.R_alloc | apply Kd.R_drewN | apply Kd.R_drew)); exact HO_9.out)); (case aS => exact (below_size (by repeat (first | (with_reducible first | exact HB.out | apply below_alloc | apply pw_below_drewN | apply below_drew1) | exact HB.out)))); (case aL => have := LMc32.out; omega); intro v160 w34 ho hb hg hat; rw [← Ny159.out] at ho; have n0_ := Aside0.mk (hb); have n1_ := Aside0.mk (ho); clear HB; clear HO_9; have HB := n0_; have HO161 := n1_; clear n0_ n1_; clear ho hb hg hat))
                                        go_roundg kj19
                                        case measure => have := HJ4.out; have := HJ10.out; have := HK3.out; have := HJ19.out; omega
                                        case rel => exact ⟨(y159), (wrap64 (x10_3 + 1)), (by first | rfl | (simp; done) | (simp [*]; done)), H', ⟨by have := HJ4.out; have := HJ10.out; have := HK3.out; have := HJ19.out; omega⟩, ⟨by (with_reducible repeat (first | apply Kd.R_alloc | apply Kd.R_drewN | apply Kd.R_drew)); exact HO161.out⟩, ⟨by repeat (first | (with_reducible first | exact HB.out | apply below_alloc | apply pw_below_drewN | apply below_drew1) | exact HB.out)⟩⟩
                                      · rw [if_neg c32] at H
                                        exact absurd H (by simp)
                                    · rw [if_neg c31] at H
                                      have c31b0 : ((Int.tmod (rd l1 (ji28)) 4) == 1) = false := beq_eq_false_iff_ne.mpr c31
                                      have c31b1 : ((Int.tmod (rd l1 (ji28)) 4) != 1) = true := bne_iff_ne.mpr c31
                                      by_cases c35 : x9_3.length < 8796093022208
                                      · rw [if_pos c35] at H
                                        have LMc35 := Aside0.mk c35
                                        clear c35
                                        obtain ⟨y162, hy162⟩ : ∃ y_ : List ByteArray, y_ = (x9_3 ++ [t157]) := ⟨_, rfl⟩
                                        replace H : (vellumlaw11_WalkParts.l0 kj19 l0 l1 l2 y162 (wrap64 (x10_3 + 1))) = some r := by first | (rw [hy162]; with_reducible exact H) | (have H2_ := (Option.bind_some _ _).symm.trans H; rw [hy162]; with_reducible exact H2_) | (have H2_ := (Option.bind_some _ _).symm.trans H; with_reducible exact H2_) | with_reducible exact H | (rw [hy162]; exact H) | exact H
                                        have Ny162 := Aside0.mk hy162
                                        clear hy162
                                        have H' := Aside0.mk H
                                        clear H
                                        have p156 : 0 ≤ (x10_3 : Int) := of_decide_eq_true (by first | (with_reducible assumption) | assumption)
                                        have q156 : x10_3 < (l0.length : Int) := of_decide_eq_true (by first | (with_reducible assumption) | assumption)
                                        obtain ⟨ad156, e156, hx156_0⟩ := Kd.at_string HR0.out x10_3 p156 q156
                                        cases e156
                                        replace hx156_0 := (HB.out.cell (World.block_lt_of_cell? w _ hx156_0)).trans hx156_0
                                        replace p156 := eq_true p156
                                        replace q156 := eq_true q156
                                        go_wp2_with (first | ((with_reducible refine gate_callee (f := 12) rfl ?_); refine goesL_ (some 50) rfl rfl Try.func12 (by kernel_rfl) rfl #[.string (rdOf ByteArray.empty l0 x10_3)] rfl (by (try simp only [List.map_toArray, List.map_cons, List.map_nil]); first | done | rfl | (simp only [List.length_drop, List.length_take]; rfl)) ?_; (with_reducible refine (vellumlaw11_tame.calls (rdOf ByteArray.empty l0 x10_3) t157 _ A25.out).mono ?_); rintro e w36 ⟨rfl, hb⟩; refine ⟨_, rfl, ?_⟩; have n0_ := Aside0.mk (Kd.R_below (by (with_reducible repeat (first | apply Kd.R_alloc | apply Kd.R_drewN | apply Kd.R_drew)); exact HO_9.out) hb); have n1_ := Aside0.mk (below_step (by repeat (first | (with_reducible first | exact HB.out | apply below_alloc | apply pw_below_drewN | apply below_drew1) | exact HB.out)) hb); clear HO_9; clear HB; have HO_9 := n0_; have HB := n1_; clear n0_ n1_; (try clear hb); (try clear hb2); (try clear hk); (try clear hi); have p158 : 0 ≤ ((ji28) : Int) := of_decide_eq_true (by first | (with_reducible assumption) | assumption); have q158 : (ji28) < (l1.length : Int) := of_decide_eq_true (by first | (with_reducible assumption) | assumption); obtain ⟨ad158, e158, hx158_0⟩ := Kd.at_int HR1.out (ji28) p158 q158; cases e158; replace hx158_0 := (HB.out.cell (World.block_lt_of_cell? w _ hx158_0)).trans hx158_0; replace p158 := eq_true p158; replace q158 := eq_true q158) | ((with_reducible refine gate_builtin (b := .append) (xs := #[.tmp 65, .tmp 67]) rfl ?_); (try (refine gate_guard (by rfl) ?_; dsimp only)); at_builtin; refine Kd.R_append Kd.string (w0 := w) w.heap.size rfl (.tmp 65) (.tmp 67) 23 9 (.string ⟨#[]⟩) 16 rfl Try.underlying23 info9 rfl (by decide) (by omega) u9 x9_3 t157 [.string t157] (fun _ => True) (fun _ => False) rfl rfl ?aP (fun _ hk => hk.elim) ?aF ?aO ?aB ?aS ?aL ?_; (case aP => exact rfl); (case aB => exact (by repeat (first | (with_reducible first | exact HB.out | apply below_alloc | apply pw_below_drewN | apply below_drew1) | exact HB.out))); (case aF => exact (fun _ _ => trivial)); (case aO => exact (by (with_reducible repeat (first | apply Kd.R_alloc | apply Kd.R_drewN | apply Kd.R_drew)); exact HO_9.out)); (case aS => exact (below_size (by repeat (first | (with_reducible first | exact HB.out | apply below_alloc | apply pw_below_drewN | apply below_drew1) | exact HB.out)))); (case aL => have := LMc35.out; omega); intro v163 w37 ho hb hg hat; rw [← Ny162.out] at ho; have n0_ := Aside0.mk (hb); have n1_ := Aside0.mk (ho); clear HB; clear HO_9; have HB := n0_; have HO164 := n1_; clear n0_ n1_; clear ho hb hg hat))
                                        go_roundg kj19
                                        case measure => have := HJ4.out; have := HJ10.out; have := HK3.out; have := HJ19.out; omega
                                        case rel => exact ⟨(y162), (wrap64 (x10_3 + 1)), (by first | rfl | (simp; done) | (simp [*]; done)), H', ⟨by have := HJ4.out; have := HJ10.out; have := HK3.out; have := HJ19.out; omega⟩, ⟨by (with_reducible repeat (first | apply Kd.R_alloc | apply Kd.R_drewN | apply Kd.R_drew)); exact HO164.out⟩, ⟨by repeat (first | (with_reducible first | exact HB.out | apply below_alloc | apply pw_below_drewN | apply below_drew1) | exact HB.out)⟩⟩
                                      · rw [if_neg c35] at H
                                        exact absurd H (by simp)
                                  · rw [if_neg c30] at H
                                    exact absurd H (by simp)
                                · rw [if_neg c29] at H
                                  exact absurd H (by simp)
                            · rw [if_neg c26] at H
                              have c26b0 : decide (0 < (l1.length : Int)) = false := decide_eq_false c26
                              have c26b1 : decide (0 < l1.length) = false := decide_eq_false (by omega)
                              clear c26
                              by_cases c38 : x9_3.length < 8796093022208
                              · rw [if_pos c38] at H
                                have LMc38 := Aside0.mk c38
                                clear c38
                                obtain ⟨y165, hy165⟩ : ∃ y_ : List ByteArray, y_ = (x9_3 ++ [t157]) := ⟨_, rfl⟩
                                replace H : (vellumlaw11_WalkParts.l0 kj19 l0 l1 l2 y165 (wrap64 (x10_3 + 1))) = some r := by first | (rw [hy165]; with_reducible exact H) | (have H2_ := (Option.bind_some _ _).symm.trans H; rw [hy165]; with_reducible exact H2_) | (have H2_ := (Option.bind_some _ _).symm.trans H; with_reducible exact H2_) | with_reducible exact H | (rw [hy165]; exact H) | exact H
                                have Ny165 := Aside0.mk hy165
                                clear hy165
                                have H' := Aside0.mk H
                                clear H
                                have p156 : 0 ≤ (x10_3 : Int) := of_decide_eq_true (by first | (with_reducible assumption) | assumption)
                                have q156 : x10_3 < (l0.length : Int) := of_decide_eq_true (by first | (with_reducible assumption) | assumption)
                                obtain ⟨ad156, e156, hx156_0⟩ := Kd.at_string HR0.out x10_3 p156 q156
                                cases e156
                                replace hx156_0 := (HB.out.cell (World.block_lt_of_cell? w _ hx156_0)).trans hx156_0
                                replace p156 := eq_true p156
                                replace q156 := eq_true q156
                                go_wp2_with (first | ((with_reducible refine gate_callee (f := 12) rfl ?_); refine goesL_ (some 50) rfl rfl Try.func12 (by kernel_rfl) rfl #[.string (rdOf ByteArray.empty l0 x10_3)] rfl (by (try simp only [List.map_toArray, List.map_cons, List.map_nil]); first | done | rfl | (simp only [List.length_drop, List.length_take]; rfl)) ?_; (with_reducible refine (vellumlaw11_tame.calls (rdOf ByteArray.empty l0 x10_3) t157 _ A25.out).mono ?_); rintro e w39 ⟨rfl, hb⟩; refine ⟨_, rfl, ?_⟩; have n0_ := Aside0.mk (Kd.R_below (by (with_reducible repeat (first | apply Kd.R_alloc | apply Kd.R_drewN | apply Kd.R_drew)); exact HO_9.out) hb); have n1_ := Aside0.mk (below_step (by repeat (first | (with_reducible first | exact HB.out | apply below_alloc | apply pw_below_drewN | apply below_drew1) | exact HB.out)) hb); clear HO_9; clear HB; have HO_9 := n0_; have HB := n1_; clear n0_ n1_; (try clear hb); (try clear hb2); (try clear hk); (try clear hi)) | ((with_reducible refine gate_builtin (b := .append) (xs := #[.tmp 65, .tmp 67]) rfl ?_); (try (refine gate_guard (by rfl) ?_; dsimp only)); at_builtin; refine Kd.R_append Kd.string (w0 := w) w.heap.size rfl (.tmp 65) (.tmp 67) 23 9 (.string ⟨#[]⟩) 16 rfl Try.underlying23 info9 rfl (by decide) (by omega) u9 x9_3 t157 [.string t157] (fun _ => True) (fun _ => False) rfl rfl ?aP (fun _ hk => hk.elim) ?aF ?aO ?aB ?aS ?aL ?_; (case aP => exact rfl); (case aB => exact (by repeat (first | (with_reducible first | exact HB.out | apply below_alloc | apply pw_below_drewN | apply below_drew1) | exact HB.out))); (case aF => exact (fun _ _ => trivial)); (case aO => exact (by (with_reducible repeat (first | apply Kd.R_alloc | apply Kd.R_drewN | apply Kd.R_drew)); exact HO_9.out)); (case aS => exact (below_size (by repeat (first | (with_reducible first | exact HB.out | apply below_alloc | apply pw_below_drewN | apply below_drew1) | exact HB.out)))); (case aL => have := LMc38.out; omega); intro v166 w40 ho hb hg hat; rw [← Ny165.out] at ho; have n0_ := Aside0.mk (hb); have n1_ := Aside0.mk (ho); clear HB; clear HO_9; have HB := n0_; have HO167 := n1_; clear n0_ n1_; clear ho hb hg hat))
                                go_roundg kj19
                                case measure => have := HJ4.out; have := HJ10.out; have := HK3.out; have := HJ19.out; omega
                                case rel => exact ⟨(y165), (wrap64 (x10_3 + 1)), (by first | rfl | (simp; done) | (simp [*]; done)), H', ⟨by have := HJ4.out; have := HJ10.out; have := HK3.out; have := HJ19.out; omega⟩, ⟨by (with_reducible repeat (first | apply Kd.R_alloc | apply Kd.R_drewN | apply Kd.R_drew)); exact HO167.out⟩, ⟨by repeat (first | (with_reducible first | exact HB.out | apply below_alloc | apply pw_below_drewN | apply below_drew1) | exact HB.out)⟩⟩
                              · rw [if_neg c38] at H
                                exact absurd H (by simp)
                          · rw [if_neg c24] at H
                            exact absurd H (by simp)
                        · rw [if_neg c23] at H
                          exact absurd H (by simp)
                      · replace c22 := Bool.eq_false_iff.mpr c22
                        subst c22
                        have H1 : ((vellumlaw11_path.f kj19 x9_3 l2).bind fun t168 => ((walk_Split.f kj19 t168).bind fun bt169 => (if (t168.size : Int) > 1023 then (if bt169.2 = 7 then (some ((bt169.1.length : Int) == 0)) else (some false)) else (if bt169.2 = 0 then ((vellumlaw11_SameParts.f kj19 bt169.1 x9_3).bind fun t173 => (some t173)) else (some false))))) = some r := by rw [if_neg (show ¬ (false = true) by decide)] at H; exact H
                        clear H
                        have H := H1
                        clear H1
                        replace H := Option.bind_eq_some_iff.mp H
                        obtain ⟨t168, A410, H⟩ := H
                        replace H : ((walk_Split.f kj19 t168).bind fun bt169 => (if (t168.size : Int) > 1023 then (if bt169.2 = 7 then (some ((bt169.1.length : Int) == 0)) else (some false)) else (if bt169.2 = 0 then ((vellumlaw11_SameParts.f kj19 bt169.1 x9_3).bind fun t173 => (some t173)) else (some false)))) = some r := H
                        have A41 := Aside0.mk A410
                        clear A410
                        replace H := Option.bind_eq_some_iff.mp H
                        obtain ⟨⟨t169, t170⟩, A420, H⟩ := H
                        replace H : (if (t168.size : Int) > 1023 then (if t170 = 7 then (some ((t169.length : Int) == 0)) else (some false)) else (if t170 = 0 then ((vellumlaw11_SameParts.f kj19 t169 x9_3).bind fun t173 => (some t173)) else (some false))) = some r := H
                        have A42 := Aside0.mk A420
                        clear A420
                        by_cases c43 : (t168.size : Int) > 1023
                        · rw [if_pos c43] at H
                          have c43b0 : decide (1023 < (t168.size : Int)) = true := decide_eq_true c43
                          have c43b1 : decide (1023 < t168.size) = true := decide_eq_true (by omega)
                          clear c43
                          by_cases c44 : t170 = 7
                          · rw [if_pos c44] at H
                            have c44b0 : (t170 == 7) = true := beq_iff_eq.mpr c44
                            have c44b1 : (t170 != 7) = false := bne_eq_false_iff_eq.mpr c44
                            clear c44
                            obtain rfl := Option.some.inj H
                            obtain ⟨Ao45, co45, eo45⟩ := Kd.R_slice HO_9.out
                            subst eo45
                            go_wp2_with (first | ((with_reducible refine gate_callee (f := 13) rfl ?_); refine goesL_ (some 71) rfl rfl Try.func13 (by kernel_rfl) rfl #[.slice Ao45 x9_3.length co45, .slice A2 l2.length c2] rfl (by (try simp only [List.map_toArray, List.map_cons, List.map_nil]); first | done | rfl | (simp only [List.length_drop, List.length_take]; rfl)) ?_; (with_reducible refine (vellumlaw11_path.calls kj19 _ _ x9_3 _ _ l2 t168 _ ?side1 ?side2 ?side3 ?side4 A41.out).mono ?_); (case side1 => repeat (first | exact (Kd.R_reads' HO_9.out).2.2 | (with_reducible refine Kd.C_alloc ?_ _) | (with_reducible refine Kd.C_drewN ?_ _) | (with_reducible refine Kd.C_drew ?_))); (case side2 => exact (Kd.R_reads' HO_9.out).2.1); (case side3 => repeat (first | exact (Kd.C_below HR2.out HB.out) | (with_reducible refine Kd.C_alloc ?_ _) | (with_reducible refine Kd.C_drewN ?_ _) | (with_reducible refine Kd.C_drew ?_))); (case side4 => exact HC2.out); rintro e w' ⟨rfl, ⟨nd, rfl⟩⟩; refine ⟨_, rfl, ?_⟩) | ((with_reducible refine gate_callee (f := 9) rfl ?_); refine goesL_ (some 74) rfl rfl Try.func9 (by kernel_rfl) rfl #[.string t168] rfl (by (try simp only [List.map_toArray, List.map_cons, List.map_nil]); first | done | rfl | (simp only [List.length_drop, List.length_take]; rfl)) ?_; (with_reducible refine (walk_Split.calls kj19 t168 t169 t170 _ A42.out).mono ?_); rintro e w46 ⟨v171, rfl, ho0, hb⟩; refine ⟨_, rfl, ?_⟩; have n0_ := Aside0.mk (Kd.R_elder' (by (with_reducible repeat (first | apply Kd.R_alloc | apply Kd.R_drewN | apply Kd.R_drew)); exact HO_9.out) (Kd.R_base ho0) hb); have n1_ := Aside0.mk (Kd.R_lower (Kd.R_new' ho0 (Kd.R_lt (by (with_reducible repeat (first | apply Kd.R_alloc | apply Kd.R_drewN | apply Kd.R_drew)); exact HO_9.out))) (below_size (by repeat (first | (with_reducible first | exact HB.out | apply below_alloc | apply pw_below_drewN | apply below_drew1) | exact HB.out)))); have n2_ := Aside0.mk (below_step (by repeat (first | (with_reducible first | exact HB.out | apply below_alloc | apply pw_below_drewN | apply below_drew1) | exact HB.out)) hb); clear HO_9; clear HB; have HO_9 := n0_; have HO172 := n1_; have HB := n2_; clear n0_ n1_ n2_; (try clear hb); (try clear hb2); (try clear hk); (try clear hi); (try clear ho0); obtain ⟨Ao47, co47, eo47⟩ := Kd.R_slice HO172.out; subst eo47))
                            go_ret
                            exact ⟨by first | rfl | (simp [errW_none, errW_some] <;> rfl) | (simp [*, errW_none, errW_some] <;> rfl), by repeat (first | (with_reducible first | exact HB.out | apply below_alloc | apply pw_below_drewN | apply below_drew1) | exact HB.out)⟩
                          · rw [if_neg c44] at H
                            have c44b0 : (t170 == 7) = false := beq_eq_false_iff_ne.mpr c44
                            have c44b1 : (t170 != 7) = true := bne_iff_ne.mpr c44
                            obtain rfl := Option.some.inj H
                            obtain ⟨Ao48, co48, eo48⟩ := Kd.R_slice HO_9.out
                            subst eo48
                            go_wp2_with (first | ((with_reducible refine gate_callee (f := 13) rfl ?_); refine goesL_ (some 71) rfl rfl Try.func13 (by kernel_rfl) rfl #[.slice Ao48 x9_3.length co48, .slice A2 l2.length c2] rfl (by (try simp only [List.map_toArray, List.map_cons, List.map_nil]); first | done | rfl | (simp only [List.length_drop, List.length_take]; rfl)) ?_; (with_reducible refine (vellumlaw11_path.calls kj19 _ _ x9_3 _ _ l2 t168 _ ?side1 ?side2 ?side3 ?side4 A41.out).mono ?_); (case side1 => repeat (first | exact (Kd.R_reads' HO_9.out).2.2 | (with_reducible refine Kd.C_alloc ?_ _) | (with_reducible refine Kd.C_drewN ?_ _) | (with_reducible refine Kd.C_drew ?_))); (case side2 => exact (Kd.R_reads' HO_9.out).2.1); (case side3 => repeat (first | exact (Kd.C_below HR2.out HB.out) | (with_reducible refine Kd.C_alloc ?_ _) | (with_reducible refine Kd.C_drewN ?_ _) | (with_reducible refine Kd.C_drew ?_))); (case side4 => exact HC2.out); rintro e w' ⟨rfl, ⟨nd, rfl⟩⟩; refine ⟨_, rfl, ?_⟩) | ((with_reducible refine gate_callee (f := 9) rfl ?_); refine goesL_ (some 74) rfl rfl Try.func9 (by kernel_rfl) rfl #[.string t168] rfl (by (try simp only [List.map_toArray, List.map_cons, List.map_nil]); first | done | rfl | (simp only [List.length_drop, List.length_take]; rfl)) ?_; (with_reducible refine (walk_Split.calls kj19 t168 t169 t170 _ A42.out).mono ?_); rintro e w49 ⟨v171, rfl, ho0, hb⟩; refine ⟨_, rfl, ?_⟩; have n0_ := Aside0.mk (Kd.R_elder' (by (with_reducible repeat (first | apply Kd.R_alloc | apply Kd.R_drewN | apply Kd.R_drew)); exact HO_9.out) (Kd.R_base ho0) hb); have n1_ := Aside0.mk (Kd.R_lower (Kd.R_new' ho0 (Kd.R_lt (by (with_reducible repeat (first | apply Kd.R_alloc | apply Kd.R_drewN | apply Kd.R_drew)); exact HO_9.out))) (below_size (by repeat (first | (with_reducible first | exact HB.out | apply below_alloc | apply pw_below_drewN | apply below_drew1) | exact HB.out)))); have n2_ := Aside0.mk (below_step (by repeat (first | (with_reducible first | exact HB.out | apply below_alloc | apply pw_below_drewN | apply below_drew1) | exact HB.out)) hb); clear HO_9; clear HB; have HO_9 := n0_; have HO172 := n1_; have HB := n2_; clear n0_ n1_ n2_; (try clear hb); (try clear hb2); (try clear hk); (try clear hi); (try clear ho0)))
                            go_ret
                            exact ⟨by first | rfl | (simp [errW_none, errW_some] <;> rfl) | (simp [*, errW_none, errW_some] <;> rfl), by repeat (first | (with_reducible first | exact HB.out | apply below_alloc | apply pw_below_drewN | apply below_drew1) | exact HB.out)⟩
                        · rw [if_neg c43] at H
                          have c43b0 : decide (1023 < (t168.size : Int)) = false := decide_eq_false c43
                          have c43b1 : decide (1023 < t168.size) = false := decide_eq_false (by omega)
                          clear c43
                          by_cases c50 : t170 = 0
                          · rw [if_pos c50] at H
                            have c50b0 : (t170 == 0) = true := beq_iff_eq.mpr c50
                            have c50b1 : (t170 != 0) = false := bne_eq_false_iff_eq.mpr c50
                            clear c50
                            replace H := Option.bind_eq_some_iff.mp H
                            obtain ⟨t173, A510, H⟩ := H
                            replace H : (some t173) = some r := H
                            have A51 := Aside0.mk A510
                            clear A510
                            obtain rfl := Option.some.inj H
                            obtain ⟨Ao52, co52, eo52⟩ := Kd.R_slice HO_9.out
                            subst eo52
                            go_wp2_with (first | ((with_reducible refine gate_callee (f := 13) rfl ?_); refine goesL_ (some 71) rfl rfl Try.func13 (by kernel_rfl) rfl #[.slice Ao52 x9_3.length co52, .slice A2 l2.length c2] rfl (by (try simp only [List.map_toArray, List.map_cons, List.map_nil]); first | done | rfl | (simp only [List.length_drop, List.length_take]; rfl)) ?_; (with_reducible refine (vellumlaw11_path.calls kj19 _ _ x9_3 _ _ l2 t168 _ ?side1 ?side2 ?side3 ?side4 A41.out).mono ?_); (case side1 => repeat (first | exact (Kd.R_reads' HO_9.out).2.2 | (with_reducible refine Kd.C_alloc ?_ _) | (with_reducible refine Kd.C_drewN ?_ _) | (with_reducible refine Kd.C_drew ?_))); (case side2 => exact (Kd.R_reads' HO_9.out).2.1); (case side3 => repeat (first | exact (Kd.C_below HR2.out HB.out) | (with_reducible refine Kd.C_alloc ?_ _) | (with_reducible refine Kd.C_drewN ?_ _) | (with_reducible refine Kd.C_drew ?_))); (case side4 => exact HC2.out); rintro e w' ⟨rfl, ⟨nd, rfl⟩⟩; refine ⟨_, rfl, ?_⟩) | ((with_reducible refine gate_callee (f := 9) rfl ?_); refine goesL_ (some 74) rfl rfl Try.func9 (by kernel_rfl) rfl #[.string t168] rfl (by (try simp only [List.map_toArray, List.map_cons, List.map_nil]); first | done | rfl | (simp only [List.length_drop, List.length_take]; rfl)) ?_; (with_reducible refine (walk_Split.calls kj19 t168 t169 t170 _ A42.out).mono ?_); rintro e w53 ⟨v171, rfl, ho0, hb⟩; refine ⟨_, rfl, ?_⟩; have n0_ := Aside0.mk (Kd.R_elder' (by (with_reducible repeat (first | apply Kd.R_alloc | apply Kd.R_drewN | apply Kd.R_drew)); exact HO_9.out) (Kd.R_base ho0) hb); have n1_ := Aside0.mk (Kd.R_lower (Kd.R_new' ho0 (Kd.R_lt (by (with_reducible repeat (first | apply Kd.R_alloc | apply Kd.R_drewN | apply Kd.R_drew)); exact HO_9.out))) (below_size (by repeat (first | (with_reducible first | exact HB.out | apply below_alloc | apply pw_below_drewN | apply below_drew1) | exact HB.out)))); have n2_ := Aside0.mk (below_step (by repeat (first | (with_reducible first | exact HB.out | apply below_alloc | apply pw_below_drewN | apply below_drew1) | exact HB.out)) hb); clear HO_9; clear HB; have HO_9 := n0_; have HO172 := n1_; have HB := n2_; clear n0_ n1_ n2_; (try clear hb); (try clear hb2); (try clear hk); (try clear hi); (try clear ho0); obtain ⟨Ao54, co54, eo54⟩ := Kd.R_slice HO172.out; subst eo54) | (go_at_call 10; (with_reducible refine (vellumlaw11_SameParts.calls kj19 _ _ t169 _ _ x9_3 t173 _ ?side1 ?side2 ?side3 ?side4 A51.out).mono ?_); (case side1 => repeat (first | exact (Kd.R_reads' HO172.out).2.2 | (with_reducible refine Kd.C_alloc ?_ _) | (with_reducible refine Kd.C_drewN ?_ _) | (with_reducible refine Kd.C_drew ?_))); (case side2 => exact (Kd.R_reads' HO172.out).2.1); (case side3 => repeat (first | exact (Kd.R_reads' HO_9.out).2.2 | (with_reducible refine Kd.C_alloc ?_ _) | (with_reducible refine Kd.C_drewN ?_ _) | (with_reducible refine Kd.C_drew ?_))); (case side4 => exact (Kd.R_reads' HO_9.out).2.1); rintro e w' ⟨rfl, ⟨nd, rfl⟩⟩))
                            go_ret
                            exact ⟨by first | rfl | (simp [errW_none, errW_some] <;> rfl) | (simp [*, errW_none, errW_some] <;> rfl), by repeat (first | (with_reducible first | exact HB.out | apply below_alloc | apply pw_below_drewN | apply below_drew1) | exact HB.out)⟩
                          · rw [if_neg c50] at H
                            have c50b0 : (t170 == 0) = false := beq_eq_false_iff_ne.mpr c50
                            have c50b1 : (t170 != 0) = true := bne_iff_ne.mpr c50
                            obtain rfl := Option.some.inj H
                            obtain ⟨Ao55, co55, eo55⟩ := Kd.R_slice HO_9.out
                            subst eo55
                            go_wp2_with (first | ((with_reducible refine gate_callee (f := 13) rfl ?_); refine goesL_ (some 71) rfl rfl Try.func13 (by kernel_rfl) rfl #[.slice Ao55 x9_3.length co55, .slice A2 l2.length c2] rfl (by (try simp only [List.map_toArray, List.map_cons, List.map_nil]); first | done | rfl | (simp only [List.length_drop, List.length_take]; rfl)) ?_; (with_reducible refine (vellumlaw11_path.calls kj19 _ _ x9_3 _ _ l2 t168 _ ?side1 ?side2 ?side3 ?side4 A41.out).mono ?_); (case side1 => repeat (first | exact (Kd.R_reads' HO_9.out).2.2 | (with_reducible refine Kd.C_alloc ?_ _) | (with_reducible refine Kd.C_drewN ?_ _) | (with_reducible refine Kd.C_drew ?_))); (case side2 => exact (Kd.R_reads' HO_9.out).2.1); (case side3 => repeat (first | exact (Kd.C_below HR2.out HB.out) | (with_reducible refine Kd.C_alloc ?_ _) | (with_reducible refine Kd.C_drewN ?_ _) | (with_reducible refine Kd.C_drew ?_))); (case side4 => exact HC2.out); rintro e w' ⟨rfl, ⟨nd, rfl⟩⟩; refine ⟨_, rfl, ?_⟩) | ((with_reducible refine gate_callee (f := 9) rfl ?_); refine goesL_ (some 74) rfl rfl Try.func9 (by kernel_rfl) rfl #[.string t168] rfl (by (try simp only [List.map_toArray, List.map_cons, List.map_nil]); first | done | rfl | (simp only [List.length_drop, List.length_take]; rfl)) ?_; (with_reducible refine (walk_Split.calls kj19 t168 t169 t170 _ A42.out).mono ?_); rintro e w56 ⟨v171, rfl, ho0, hb⟩; refine ⟨_, rfl, ?_⟩; have n0_ := Aside0.mk (Kd.R_elder' (by (with_reducible repeat (first | apply Kd.R_alloc | apply Kd.R_drewN | apply Kd.R_drew)); exact HO_9.out) (Kd.R_base ho0) hb); have n1_ := Aside0.mk (Kd.R_lower (Kd.R_new' ho0 (Kd.R_lt (by (with_reducible repeat (first | apply Kd.R_alloc | apply Kd.R_drewN | apply Kd.R_drew)); exact HO_9.out))) (below_size (by repeat (first | (with_reducible first | exact HB.out | apply below_alloc | apply pw_below_drewN | apply below_drew1) | exact HB.out)))); have n2_ := Aside0.mk (below_step (by repeat (first | (with_reducible first | exact HB.out | apply below_alloc | apply pw_below_drewN | apply below_drew1) | exact HB.out)) hb); clear HO_9; clear HB; have HO_9 := n0_; have HO172 := n1_; have HB := n2_; clear n0_ n1_ n2_; (try clear hb); (try clear hb2); (try clear hk); (try clear hi); (try clear ho0)))
                            go_ret
                            exact ⟨by first | rfl | (simp [errW_none, errW_some] <;> rfl) | (simp [*, errW_none, errW_some] <;> rfl), by repeat (first | (with_reducible first | exact HB.out | apply below_alloc | apply pw_below_drewN | apply below_drew1) | exact HB.out)⟩

/-! ### vellumlaw11_word: function 14 -/
def vellumlaw11_word.f (a0 : Int) (a1 : Int) : Option (ByteArray) := some (strOfNums (([(a0) % 256, (a0 / 256) % 256, (a0 / 65536) % 256, (a0 / 16777216) % 256, (a1) % 256] : List Int)))
set_option maxHeartbeats 8000000 in
set_option maxRecDepth 100000 in
theorem vellumlaw11_word.calls (a0 : Int) (a1 : Int) (r : ByteArray) (w : World) (h : vellumlaw11_word.f a0 a1 = some r) :
    Calls Try.prog 14 #[.int .i64 a0, .int .i64 a1] w fun e w' => e = .returned (.string r) ∧ Below w.heap.size w w' := by
  have HB := Aside0.mk (Below.refl w.heap.size w)
  have H : (some (strOfNums (([(a0) % 256, (a0 / 256) % 256, (a0 / 65536) % 256, (a0 / 16777216) % 256, (a1) % 256] : List Int)))) = some r := h
  clear h
  obtain ⟨y174, hy174⟩ : ∃ y_ : List Int, y_ = (([(a0) % 256, (a0 / 256) % 256, (a0 / 65536) % 256, (a0 / 16777216) % 256, (a1) % 256] : List Int)) := ⟨_, rfl⟩
  replace H : (some (strOfNums y174)) = some r := by first | (rw [hy174]; with_reducible exact H) | (have H2_ := (Option.bind_some _ _).symm.trans H; rw [hy174]; with_reducible exact H2_) | (have H2_ := (Option.bind_some _ _).symm.trans H; with_reducible exact H2_) | with_reducible exact H | (rw [hy174]; exact H) | exact H
  have Ny174 := Aside0.mk hy174
  clear hy174
  obtain rfl := Option.some.inj H
  go_enter Try.func14, Try.ntmps14
  go_wp2_with (first | ((with_reducible refine gate_dst (N := 18) rfl ?_); refine Kd.R_lit (Kd.int .u8) _ 5 ?hg (N := 18) ?hd (xs := ([(a0) % 256, (a0 / 256) % 256, (a0 / 65536) % 256, (a0 / 16777216) % 256, (a1) % 256] : List Int)) (inner := [.int .u8 ((a0) % 256), .int .u8 ((a0 / 256) % 256), .int .u8 ((a0 / 65536) % 256), .int .u8 ((a0 / 16777216) % 256), .int .u8 ((a1) % 256)]) (ok := fun _ => True) (okp := fun _ => True) ?hr ?hp (fun _ hk => hk) trivial (Below.refl _ _) (Nat.le_refl _) (by simp) ?_; (case hd => rfl); (case hg => rfl); (case hr => first | (go_simp; done) | (go_simp; rfl)); (case hp => exact (Reps.one (show Kd.M (Kd.int .u8) _ _ _ ((a0) % 256) [.int .u8 ((a0) % 256)] from rfl) (Reps.one (show Kd.M (Kd.int .u8) _ _ _ ((a0 / 256) % 256) [.int .u8 ((a0 / 256) % 256)] from rfl) (Reps.one (show Kd.M (Kd.int .u8) _ _ _ ((a0 / 65536) % 256) [.int .u8 ((a0 / 65536) % 256)] from rfl) (Reps.one (show Kd.M (Kd.int .u8) _ _ _ ((a0 / 16777216) % 256) [.int .u8 ((a0 / 16777216) % 256)] from rfl) (Reps.one (show Kd.M (Kd.int .u8) _ _ _ ((a1) % 256) [.int .u8 ((a1) % 256)] from rfl) (Reps.none _ _))))))); intro v175 w3 ho4 hb hg_ hnew_; clear hg_ hnew_; (first | rw [← Ny174.out] at ho4 | (simp only [Int.reduceToNat] at ho4; rw [← Ny174.out] at ho4)); have n0_ := Aside0.mk (Kd.R_lower ho4 (below_size (by repeat (first | (with_reducible first | exact HB.out | apply below_alloc | apply pw_below_drewN | apply below_drew1) | exact HB.out)))); have n1_ := Aside0.mk (below_step (by repeat (first | (with_reducible first | exact HB.out | apply below_alloc | apply pw_below_drewN | apply below_drew1) | exact HB.out)) hb); clear HB; have HO176 := n0_; have HB := n1_; clear n0_ n1_; clear hb ho4; have hcv5 := own_string (P := Try.prog) Try.underlying42 Try.underlying5 Try.underlying9 (Kd.own_of_R HO176.out)))
  go_ret
  exact ⟨by first | rfl | (simp [errW_none, errW_some] <;> rfl) | (simp [*, errW_none, errW_some] <;> rfl), by repeat (first | (with_reducible first | exact HB.out | apply below_alloc | apply pw_below_drewN | apply below_drew1) | exact HB.out)⟩

-- NOT PRINTED: function 8 (vellumlaw11_WalkOwn)

end Go.Proofs.Ytjlgfcgdagikgaa.PWalk
