/- Packed by this session's own program (wip/tools/pack.py): what the claim needs of its texts. -/
import Derived.Test.YtkfikinjlbbibaaDoorUPTx0
namespace Go.Proofs.YtkfikinjlbbibaaDoor.PT
open Go.RowKit Go.Proofs.YtkfikinjlbbibaaDoorW.PrintWords Go.Proofs.YtkfikinjlbbibaaDoorW.PrintLast Go.Proofs.YtkfikinjlbbibaaDoorW.PrintMore
attribute [local go_sem] max2_int min2_int max_two min_two max_three min_three max_four min_four
set_option linter.unusedVariables false
set_option linter.unusedSimpArgs false
mutual
def dump_filled.j0 : Nat → Bool → Int → ByteArray → ByteArray → Int → List (S73) → List Int → Option (Bool)
  | 0, _, _, _, _, _, _, _ => none
  | k + 1, x15, x113000, x113001, x113002, x113003, x113004, x113005 => if x15 = true then (some false) else (dump_filled.l0 k (-1) 0 x113004 (x113004.length : Int) 0 x113000 x113001 x113002 x113003 x113004 x113005)
def dump_filled.l0 : Nat → Int → Int → List (S73) → Int → Int → Int → ByteArray → ByteArray → Int → List (S73) → List Int → Option (Bool)
  | 0, _, _, _, _, _, _, _, _, _, _, _ => none
  | k + 1, x3, x4, x17, x18, x19, x113000, x113001, x113002, x113003, x113004, x113005 => if x19 < x18 then (if 0 ≤ x19 then (if x19 < (x17.length : Int) then (if ((rd_T73 x17 x19).f0) < 0 then (some false) else (if ((rd_T73 x17 x19).f0) ≤ x3 then (some false) else (if ((rd_T73 x17 x19).f1) ≤ ((rd_T73 x17 x19).f0) then (some false) else (if ((rd_T73 x17 x19).f1) > (wrap64 (Int.tdiv (wrap64 ((wrap64 (x113003 + 512)) - 1)) 512)) then (some false) else (dump_filled.l0 k ((rd_T73 x17 x19).f1) (wrap64 (x4 + (wrap64 (((rd_T73 x17 x19).f1) - ((rd_T73 x17 x19).f0))))) x17 x18 (wrap64 (x19 + 1)) x113000 x113001 x113002 x113003 x113004 x113005))))) else (none)) else (none)) else (if (x113005.length : Int) = (wrap64 (x4 * 512)) then (if x4 = 0 then (some true) else (dump_filled.l1 k x3 x113003 x113000 x113001 x113002 x113003 x113004 x113005)) else (some false))
def dump_filled.l1 : Nat → Int → Int → Int → ByteArray → ByteArray → Int → List (S73) → List Int → Option (Bool)
  | 0, _, _, _, _, _, _, _, _ => none
  | k + 1, x3, x7, x113000, x113001, x113002, x113003, x113004, x113005 => if x7 < (wrap64 (x3 * 512)) then (if 0 ≤ (wrap64 ((wrap64 ((x113005.length : Int) - (wrap64 (x3 * 512)))) + x7)) then (if (wrap64 ((wrap64 ((x113005.length : Int) - (wrap64 (x3 * 512)))) + x7)) < (x113005.length : Int) then (if (rd x113005 (wrap64 ((wrap64 ((x113005.length : Int) - (wrap64 (x3 * 512)))) + x7))) = 0 then (dump_filled.l1 k x3 (wrap64 (x7 + 1)) x113000 x113001 x113002 x113003 x113004 x113005) else (some false)) else (none)) else (none)) else (some true)
end
def dump_filled.f (k : Nat) (a0_0 : Int) (a0_1 : ByteArray) (a0_2 : ByteArray) (a0_3 : Int) (l0_4 : List (S73)) (l0_5 : List Int) : Option (Bool) := if a0_3 < 0 then (dump_filled.j0 k true a0_0 a0_1 a0_2 a0_3 l0_4 l0_5) else (dump_filled.j0 k (decide (a0_3 > 8459264)) a0_0 a0_1 a0_2 a0_3 l0_4 l0_5)
theorem dump_filled.mono_l : ∀ k, (∀ y0 y1 y2 y3 y4 y5 y6, LeO (dump_filled.j0 k y0 y1 y2 y3 y4 y5 y6) (dump_filled.j0 (k + 1) y0 y1 y2 y3 y4 y5 y6)) ∧ (∀ y0 y1 y2 y3 y4 y5 y6 y7 y8 y9 y10, LeO (dump_filled.l0 k y0 y1 y2 y3 y4 y5 y6 y7 y8 y9 y10) (dump_filled.l0 (k + 1) y0 y1 y2 y3 y4 y5 y6 y7 y8 y9 y10)) ∧ (∀ y0 y1 y2 y3 y4 y5 y6 y7, LeO (dump_filled.l1 k y0 y1 y2 y3 y4 y5 y6 y7) (dump_filled.l1 (k + 1) y0 y1 y2 y3 y4 y5 y6 y7))
  | 0 => ⟨fun _ _ _ _ _ _ _ r h => by simp [dump_filled.j0] at h, fun _ _ _ _ _ _ _ _ _ _ _ r h => by simp [dump_filled.l0] at h, fun _ _ _ _ _ _ _ _ r h => by simp [dump_filled.l1] at h⟩
  | k + 1 => by
    obtain ⟨ih0, ih1, ih2⟩ := dump_filled.mono_l k
    refine ⟨?_, ?_, ?_⟩
    · intro y0 y1 y2 y3 y4 y5 y6
      unfold dump_filled.j0
      repeat' first
      | (with_reducible exact ih0 _ _ _ _ _ _ _)
      | (with_reducible exact ih1 _ _ _ _ _ _ _ _ _ _ _)
      | (with_reducible exact ih2 _ _ _ _ _ _ _ _)
      | (with_reducible exact LeO.refl _)
      | (with_reducible exact LeO.none _)
      | (with_reducible refine LeO.ite ?_ ?_)
      | (with_reducible refine LeO.bind ?_ (fun _ => ?_))
      | exact ih0 _ _ _ _ _ _ _
      | exact ih1 _ _ _ _ _ _ _ _ _ _ _
      | exact ih2 _ _ _ _ _ _ _ _
      | exact LeO.none _
      | refine LeO.ite ?_ ?_
      | refine LeO.bind ?_ (fun _ => ?_)
    · intro y0 y1 y2 y3 y4 y5 y6 y7 y8 y9 y10
      unfold dump_filled.l0
      repeat' first
      | (with_reducible exact ih0 _ _ _ _ _ _ _)
      | (with_reducible exact ih1 _ _ _ _ _ _ _ _ _ _ _)
      | (with_reducible exact ih2 _ _ _ _ _ _ _ _)
      | (with_reducible exact LeO.refl _)
      | (with_reducible exact LeO.none _)
      | (with_reducible refine LeO.ite ?_ ?_)
      | (with_reducible refine LeO.bind ?_ (fun _ => ?_))
      | exact ih0 _ _ _ _ _ _ _
      | exact ih1 _ _ _ _ _ _ _ _ _ _ _
      | exact ih2 _ _ _ _ _ _ _ _
      | exact LeO.none _
      | refine LeO.ite ?_ ?_
      | refine LeO.bind ?_ (fun _ => ?_)
    · intro y0 y1 y2 y3 y4 y5 y6 y7
      unfold dump_filled.l1
      repeat' first
      | (with_reducible exact ih0 _ _ _ _ _ _ _)
      | (with_reducible exact ih1 _ _ _ _ _ _ _ _ _ _ _)
      | (with_reducible exact ih2 _ _ _ _ _ _ _ _)
      | (with_reducible exact LeO.refl _)
      | (with_reducible exact LeO.none _)
      | (with_reducible refine LeO.ite ?_ ?_)
      | (with_reducible refine LeO.bind ?_ (fun _ => ?_))
      | exact ih0 _ _ _ _ _ _ _
      | exact ih1 _ _ _ _ _ _ _ _ _ _ _
      | exact ih2 _ _ _ _ _ _ _ _
      | exact LeO.none _
      | refine LeO.ite ?_ ?_
      | refine LeO.bind ?_ (fun _ => ?_)
theorem dump_filled.mono : ∀ a0 a1 a2 a3 a4 a5 k, LeO (dump_filled.f k a0 a1 a2 a3 a4 a5) (dump_filled.f (k + 1) a0 a1 a2 a3 a4 a5) := by
  intro a0 a1 a2 a3 a4 a5 k
  obtain ⟨ih0, ih1, ih2⟩ := dump_filled.mono_l k
  unfold dump_filled.f
  repeat' first
      | (with_reducible exact ih0 _ _ _ _ _ _ _)
      | (with_reducible exact ih1 _ _ _ _ _ _ _ _ _ _ _)
      | (with_reducible exact ih2 _ _ _ _ _ _ _ _)
      | (with_reducible exact LeO.refl _)
      | (with_reducible exact LeO.none _)
      | (with_reducible refine LeO.ite ?_ ?_)
      | (with_reducible refine LeO.bind ?_ (fun _ => ?_))
      | exact ih0 _ _ _ _ _ _ _
      | exact ih1 _ _ _ _ _ _ _ _ _ _ _
      | exact ih2 _ _ _ _ _ _ _ _
      | exact LeO.none _
      | refine LeO.ite ?_ ?_
      | refine LeO.bind ?_ (fun _ => ?_)
set_option maxHeartbeats 8000000 in
set_option maxRecDepth 100000 in
theorem dump_filled.calls (k : Nat) (a0_0 : Int) (a0_1 : ByteArray) (a0_2 : ByteArray) (a0_3 : Int) (A0_4 : Option Addr) (c0_4 : Nat) (l0_4 : List (S73)) (A0_5 : Option Addr) (c0_5 : Nat) (l0_5 : List Int) (r : Bool) (w : World) (hr0_4 : Kd.C k73 w A0_4 l0_4.length l0_4) (hc0_4 : l0_4.length ≤ c0_4) (hr0_5 : Kd.C (Kd.int .u8) w A0_5 l0_5.length l0_5) (hc0_5 : l0_5.length ≤ c0_5) (h : dump_filled.f k a0_0 a0_1 a0_2 a0_3 l0_4 l0_5 = some r) :
    Calls Tryd.prog 42 #[.agg #[.int .i64 a0_0, .string a0_1, .string a0_2, .int .i64 a0_3, .slice A0_4 l0_4.length c0_4, .slice A0_5 l0_5.length c0_5]] w fun e w' => e = .returned (.bool r) ∧ Below w.heap.size w w' := by
  have hu27 := Tryd.underlying27
  have hu73 := Tryd.underlying73
  have HR0_4 := Aside0.mk hr0_4
  have HC0_4 := Aside0.mk hc0_4
  clear hr0_4 hc0_4
  have HR0_5 := Aside0.mk hr0_5
  have HC0_5 := Aside0.mk hc0_5
  clear hr0_5 hc0_5
  have HB := Aside0.mk (Below.refl w.heap.size w)
  have H : (if a0_3 < 0 then (dump_filled.j0 k true a0_0 a0_1 a0_2 a0_3 l0_4 l0_5) else (dump_filled.j0 k (decide (a0_3 > 8459264)) a0_0 a0_1 a0_2 a0_3 l0_4 l0_5)) = some r := h
  clear h
  have HC2 := Aside0.mk H
  clear H
  go_enter Tryd.func42, Tryd.ntmps42
  go_upto_region 1 with (first | ((with_reducible refine gate_dst (N := 1) rfl ?_); refine box_event ?hg (N := 1) ?hd (cs := #[.int .i64 a0_0, .string a0_1, .string a0_2, .int .i64 a0_3, .slice A0_4 l0_4.length c0_4, .slice A0_5 l0_5.length c0_5]) (t := 27) ?hr ?_; (case hd => rfl); (case hg => rfl); (case hr => first | (go_simp; done) | (go_simp; rfl)); intro gb112 hg w3 hbox hb; have n0_ := Aside0.mk (below_step (by repeat (first | (with_reducible first | exact HB.out | apply below_alloc | apply pw_below_drewN | apply below_drew1) | exact HB.out)) hb); have n1_ := Aside0.mk (hbox); have n2_ := Aside0.mk ((by rw [hg]; exact (below_size (by repeat (first | (with_reducible first | exact HB.out | apply below_alloc | apply pw_below_drewN | apply below_drew1) | exact HB.out))) : w.heap.size ≤ gb112)); have n3_ := Aside0.mk ((by rw [hg]; exact (below_size (by repeat (first | (with_reducible first | exact HB.out | apply below_alloc | apply pw_below_drewN | apply below_drew1) | exact HB.out))) : w.heap.size ≤ gb112)); clear HB; have HB := n0_; have BK112 := n1_; have GW112 := n2_; have GE112 := n3_; clear n0_ n1_ n2_ n3_; clear hb hbox hg))
  (try simp only [Act.put, List.setIfInBounds_toArray, List.set_cons_zero, List.set_cons_succ])
  go_cut [15] (fun v15 wc => ∃ (kq : Nat) (x15_1 : Bool), v15 = .bool x15_1 ∧ Aside0 (dump_filled.j0 kq x15_1 a0_0 a0_1 a0_2 a0_3 l0_4 l0_5 = some r) ∧ Aside0 (kq ≤ k) ∧ Aside0 (wc.heap[gb112]? = some (.cells #[.int .i64 a0_0, .string a0_1, .string a0_2, .int .i64 a0_3, (.slice A0_4 l0_4.length c0_4), (.slice A0_5 l0_5.length c0_5)] 27 (0, 0))) ∧ Aside0 (Below w.heap.size w wc))
  case first =>
    have H := HC2.out
    clear HC2
    by_cases c4 : a0_3 < 0
    · rw [if_pos c4] at H
      have c4b0 : decide (a0_3 < 0) = true := decide_eq_true c4
      clear c4
      (first | rw [c4b0] | (simp only [i64_w, i32_w]; rw [c4b0]) | skip)
      have H' := Aside0.mk H
      clear H
      have hcz5_0 : w3.cell? ⟨gb112, 0, none⟩ = some (.int .i64 a0_0) := (blk_cell BK112.out 0).trans rfl
      have hcz5_1 : w3.cell? ⟨gb112, 1, none⟩ = some (.string a0_1) := (blk_cell BK112.out 1).trans rfl
      have hcz5_2 : w3.cell? ⟨gb112, 2, none⟩ = some (.string a0_2) := (blk_cell BK112.out 2).trans rfl
      have hcz5_3 : w3.cell? ⟨gb112, 3, none⟩ = some (.int .i64 a0_3) := (blk_cell BK112.out 3).trans rfl
      have hcz5_4 : w3.cell? ⟨gb112, 4, none⟩ = some (.slice A0_4 l0_4.length c0_4) := (blk_cell BK112.out 4).trans rfl
      have hcz5_5 : w3.cell? ⟨gb112, 5, none⟩ = some (.slice A0_5 l0_5.length c0_5) := (blk_cell BK112.out 5).trans rfl
      have hfz5_0 := blk_frozen BK112.out 0
      have hfz5_1 := blk_frozen BK112.out 1
      have hfz5_2 := blk_frozen BK112.out 2
      have hfz5_3 := blk_frozen BK112.out 3
      have hfz5_4 := blk_frozen BK112.out 4
      have hfz5_5 := blk_frozen BK112.out 5
      go_wp2
      go_meet
      case rel => exact ⟨_, (true), (by first | rfl | (simp; done) | (simp [*]; done)), H', ⟨by first | omega | exact Nat.le_refl _⟩, ⟨by (with_reducible repeat (first | refine blk_drewN ?_ _ | refine blk_drew ?_ | refine blk_alloc ?_ _)); exact BK112.out⟩, ⟨by repeat (first | (with_reducible first | exact HB.out | apply below_alloc | apply pw_below_drewN | apply below_drew1 | refine below_set ?_ GE112.out) | exact HB.out)⟩⟩
    · rw [if_neg c4] at H
      have c4b0 : decide (a0_3 < 0) = false := decide_eq_false c4
      clear c4
      (first | rw [c4b0] | (simp only [i64_w, i32_w]; rw [c4b0]) | skip)
      have H' := Aside0.mk H
      clear H
      have hcz6_0 : w3.cell? ⟨gb112, 0, none⟩ = some (.int .i64 a0_0) := (blk_cell BK112.out 0).trans rfl
      have hcz6_1 : w3.cell? ⟨gb112, 1, none⟩ = some (.string a0_1) := (blk_cell BK112.out 1).trans rfl
      have hcz6_2 : w3.cell? ⟨gb112, 2, none⟩ = some (.string a0_2) := (blk_cell BK112.out 2).trans rfl
      have hcz6_3 : w3.cell? ⟨gb112, 3, none⟩ = some (.int .i64 a0_3) := (blk_cell BK112.out 3).trans rfl
      have hcz6_4 : w3.cell? ⟨gb112, 4, none⟩ = some (.slice A0_4 l0_4.length c0_4) := (blk_cell BK112.out 4).trans rfl
      have hcz6_5 : w3.cell? ⟨gb112, 5, none⟩ = some (.slice A0_5 l0_5.length c0_5) := (blk_cell BK112.out 5).trans rfl
      have hfz6_0 := blk_frozen BK112.out 0
      have hfz6_1 := blk_frozen BK112.out 1
      have hfz6_2 := blk_frozen BK112.out 2
      have hfz6_3 := blk_frozen BK112.out 3
      have hfz6_4 := blk_frozen BK112.out 4
      have hfz6_5 := blk_frozen BK112.out 5
      go_wp2
      go_meet
      case rel => exact ⟨_, (decide (a0_3 > 8459264)), (by first | rfl | (simp; done) | (simp [*]; done)), H', ⟨by first | omega | exact Nat.le_refl _⟩, ⟨by (with_reducible repeat (first | refine blk_drewN ?_ _ | refine blk_drew ?_ | refine blk_alloc ?_ _)); exact BK112.out⟩, ⟨by repeat (first | (with_reducible first | exact HB.out | apply below_alloc | apply pw_below_drewN | apply below_drew1 | refine below_set ?_ GE112.out) | exact HB.out)⟩⟩
  case rest =>
    clear HC2
    try clear p2
    try clear c4
    try clear c4b0
    try clear hcz5_0
    try clear hcz5_1
    try clear hcz5_2
    try clear hcz5_3
    try clear hcz5_4
    try clear hcz5_5
    try clear hcz6_0
    try clear hcz6_1
    try clear hcz6_2
    try clear hcz6_3
    try clear hcz6_4
    try clear hcz6_5
    try clear hfz5_0
    try clear hfz5_1
    try clear hfz5_2
    try clear hfz5_3
    try clear hfz5_4
    try clear hfz5_5
    try clear hfz6_0
    try clear hfz6_1
    try clear hfz6_2
    try clear hfz6_3
    try clear hfz6_4
    try clear hfz6_5
    obtain ⟨kq, x15_1, rfl, HA, HJ1, BK112, HB⟩ := hcut
    cases kq with
    | zero => exact absurd HA.out (by simp [dump_filled.j0])
    | succ kj1 =>
      have H := HA.out
      clear HA
      simp only [dump_filled.j0] at H
      by_cases c7 : x15_1 = true
      · subst c7
        have H1 : (some false) = some r := by rw [if_pos rfl] at H; exact H
        clear H
        have H := H1
        clear H1
        obtain rfl := Option.some.inj H
        go_wp2
        go_ret
        exact ⟨by first | rfl | (simp [errW_none, errW_some] <;> rfl) | (simp [*, errW_none, errW_some] <;> rfl), by repeat (first | (with_reducible first | exact HB.out | apply below_alloc | apply pw_below_drewN | apply below_drew1 | refine below_set ?_ GE112.out) | exact HB.out)⟩
      · replace c7 := Bool.eq_false_iff.mpr c7
        subst c7
        have H1 : (dump_filled.l0 kj1 (-1) 0 l0_4 (l0_4.length : Int) 0 a0_0 a0_1 a0_2 a0_3 l0_4 l0_5) = some r := by rw [if_neg (show ¬ (false = true) by decide)] at H; exact H
        clear H
        have H := H1
        clear H1
        have H' := Aside0.mk H
        clear H
        have hcz8_0 : wc.cell? ⟨gb112, 0, none⟩ = some (.int .i64 a0_0) := (blk_cell BK112.out 0).trans rfl
        have hcz8_1 : wc.cell? ⟨gb112, 1, none⟩ = some (.string a0_1) := (blk_cell BK112.out 1).trans rfl
        have hcz8_2 : wc.cell? ⟨gb112, 2, none⟩ = some (.string a0_2) := (blk_cell BK112.out 2).trans rfl
        have hcz8_3 : wc.cell? ⟨gb112, 3, none⟩ = some (.int .i64 a0_3) := (blk_cell BK112.out 3).trans rfl
        have hcz8_4 : wc.cell? ⟨gb112, 4, none⟩ = some (.slice A0_4 l0_4.length c0_4) := (blk_cell BK112.out 4).trans rfl
        have hcz8_5 : wc.cell? ⟨gb112, 5, none⟩ = some (.slice A0_5 l0_5.length c0_5) := (blk_cell BK112.out 5).trans rfl
        have hfz8_0 := blk_frozen BK112.out 0
        have hfz8_1 := blk_frozen BK112.out 1
        have hfz8_2 := blk_frozen BK112.out 2
        have hfz8_3 := blk_frozen BK112.out 3
        have hfz8_4 := blk_frozen BK112.out 4
        have hfz8_5 := blk_frozen BK112.out 5
        go_wp2
        go_loopg [3, 4, 19] kj1 (fun kq v3 v4 v19 w' => ∃ (x3_2 : Int) (x4_2 : Int) (x19_2 : Int), v3 = .int .i64 x3_2 ∧ v4 = .int .i64 x4_2 ∧ v19 = .int .i64 x19_2 ∧ Aside0 (dump_filled.l0 kq x3_2 x4_2 l0_4 (l0_4.length : Int) x19_2 a0_0 a0_1 a0_2 a0_3 l0_4 l0_5 = some r) ∧ Aside0 (kq ≤ kj1) ∧ Aside0 (w'.heap[gb112]? = some (.cells #[.int .i64 a0_0, .string a0_1, .string a0_2, .int .i64 a0_3, (.slice A0_4 l0_4.length c0_4), (.slice A0_5 l0_5.length c0_5)] 27 (0, 0))) ∧ Aside0 (Below w.heap.size w w'))
        case atStart => exact ⟨((-1)), (0), (0), (by first | rfl | (simp; done) | (simp [*]; done)), (by first | rfl | (simp; done) | (simp [*]; done)), (by first | rfl | (simp; done) | (simp [*]; done)), H', ⟨Nat.le_refl _⟩, ⟨by (with_reducible repeat (first | refine blk_drewN ?_ _ | refine blk_drew ?_ | refine blk_alloc ?_ _)); exact BK112.out⟩, ⟨by repeat (first | (with_reducible first | exact HB.out | apply below_alloc | apply pw_below_drewN | apply below_drew1 | refine below_set ?_ GE112.out) | exact HB.out)⟩⟩
        case round =>
          clear H'
          try clear p2
          try clear c4
          try clear c4b0
          try clear c7
          try clear hcz5_0
          try clear hcz5_1
          try clear hcz5_2
          try clear hcz5_3
          try clear hcz5_4
          try clear hcz5_5
          try clear hcz6_0
          try clear hcz6_1
          try clear hcz6_2
          try clear hcz6_3
          try clear hcz6_4
          try clear hcz6_5
          try clear hcz8_0
          try clear hcz8_1
          try clear hcz8_2
          try clear hcz8_3
          try clear hcz8_4
          try clear hcz8_5
          try clear hfz5_0
          try clear hfz5_1
          try clear hfz5_2
          try clear hfz5_3
          try clear hfz5_4
          try clear hfz5_5
          try clear hfz6_0
          try clear hfz6_1
          try clear hfz6_2
          try clear hfz6_3
          try clear hfz6_4
          try clear hfz6_5
          try clear hfz8_0
          try clear hfz8_1
          try clear hfz8_2
          try clear hfz8_3
          try clear hfz8_4
          try clear hfz8_5
          try clear p2
          obtain ⟨x3_2, x4_2, x19_2, rfl, rfl, rfl, HA, HK2, BK112, HB⟩ := hrel
          cases gk with
          | zero => exact absurd HA.out (by simp [dump_filled.l0])
          | succ k2 =>
            have H := HA.out
            clear HA
            simp only [dump_filled.l0] at H
            by_cases c9 : x19_2 < (l0_4.length : Int)
            · rw [if_pos c9] at H
              have c9b0 : decide (x19_2 < (l0_4.length : Int)) = true := decide_eq_true c9
              clear c9
              by_cases c10 : 0 ≤ x19_2
              · rw [if_pos c10] at H
                have c10b0 : decide (0 ≤ x19_2) = true := decide_eq_true c10
                clear c10
                by_cases c11 : x19_2 < (l0_4.length : Int)
                · rw [if_pos c11] at H
                  have c11b0 : decide (x19_2 < (l0_4.length : Int)) = true := decide_eq_true c11
                  clear c11
                  by_cases c12 : ((rd_T73 l0_4 x19_2).f0) < 0
                  · rw [if_pos c12] at H
                    have c12b0 : decide (((rd_T73 l0_4 x19_2).f0) < 0) = true := decide_eq_true c12
                    clear c12
                    obtain rfl := Option.some.inj H
                    have p113 : 0 ≤ (x19_2 : Int) := of_decide_eq_true (by first | (with_reducible assumption) | assumption)
                    have q113 : x19_2 < (l0_4.length : Int) := of_decide_eq_true (by first | (with_reducible assumption) | assumption)
                    obtain ⟨ad113, e113, hx113_0, hx113_1⟩ := at_T73 HR0_4.out x19_2 p113 q113
                    cases e113
                    replace hx113_0 := (HB.out.cell (World.block_lt_of_cell? w _ hx113_0)).trans hx113_0
                    replace hx113_1 := (HB.out.cell (World.block_lt_of_cell? w _ hx113_1)).trans hx113_1
                    replace p113 := eq_true p113
                    replace q113 := eq_true q113
                    go_wp2_with (first | ((with_reducible refine gate_dst (N := 6) rfl ?_); refine box_event ?hg (N := 6) ?hd (cs := #[.int .i64 0, .int .i64 0]) (t := 73) ?hr ?_; (case hd => rfl); (case hg => rfl); (case hr => first | (go_simp; done) | (go_simp; rfl)); intro gb114 hg w13 hbox hb; have n0_ := Aside0.mk (blk_below (g := gb112) (o := .cells #[.int .i64 a0_0, .string a0_1, .string a0_2, .int .i64 a0_3, .slice (some ad113) l0_4.length c0_4, .slice A0_5 l0_5.length c0_5] 27 (0, 0)) (by (with_reducible repeat (first | refine blk_drewN ?_ _ | refine blk_drew ?_ | refine blk_alloc ?_ _)); exact BK112.out) hb); have n1_ := Aside0.mk (below_step (by repeat (first | (with_reducible first | exact HB.out | apply below_alloc | apply pw_below_drewN | apply below_drew1 | refine below_set ?_ GE112.out) | exact HB.out)) hb); have n2_ := Aside0.mk (hbox); have n3_ := Aside0.mk ((by rw [hg]; exact (below_size (by repeat (first | (with_reducible first | exact HB.out | apply below_alloc | apply pw_below_drewN | apply below_drew1 | refine below_set ?_ GE112.out) | exact HB.out))) : w.heap.size ≤ gb114)); have n4_ := Aside0.mk ((by rw [hg]; exact (below_size (by repeat (first | (with_reducible first | exact HB.out | apply below_alloc | apply pw_below_drewN | apply below_drew1 | refine below_set ?_ GE112.out) | exact HB.out))) : w.heap.size ≤ gb114)); have n5_ := Aside0.mk ((by rw [hg]; exact Nat.ne_of_lt (blk_lt (g := gb112) (o := .cells #[.int .i64 a0_0, .string a0_1, .string a0_2, .int .i64 a0_3, .slice (some ad113) l0_4.length c0_4, .slice A0_5 l0_5.length c0_5] 27 (0, 0)) (by (with_reducible repeat (first | refine blk_drewN ?_ _ | refine blk_drew ?_ | refine blk_alloc ?_ _)); exact BK112.out)) : gb112 ≠ gb114)); have n6_ := Aside0.mk ((by rw [hg]; exact Nat.ne_of_gt (blk_lt (g := gb112) (o := .cells #[.int .i64 a0_0, .string a0_1, .string a0_2, .int .i64 a0_3, .slice (some ad113) l0_4.length c0_4, .slice A0_5 l0_5.length c0_5] 27 (0, 0)) (by (with_reducible repeat (first | refine blk_drewN ?_ _ | refine blk_drew ?_ | refine blk_alloc ?_ _)); exact BK112.out)) : gb114 ≠ gb112)); clear BK112; clear HB; have BK112 := n0_; have HB := n1_; have BK114 := n2_; have GW114 := n3_; have GE114 := n4_; have NB112_114 := n5_; have NB114_112 := n6_; clear n0_ n1_ n2_ n3_ n4_ n5_ n6_; clear hb hbox hg; have hnb14 := NB114_112.out; have hnc14 := NB112_114.out; have hcz15_0 : w13.cell? ⟨gb114, 0, none⟩ = some (.int .i64 0) := (blk_cell BK114.out 0).trans rfl; have hcz15_1 : w13.cell? ⟨gb114, 1, none⟩ = some (.int .i64 0) := (blk_cell BK114.out 1).trans rfl; have hfz15_0 := blk_frozen BK114.out 0; have hfz15_1 := blk_frozen BK114.out 1))
                    go_ret
                    exact ⟨by first | rfl | (simp [errW_none, errW_some] <;> rfl) | (simp [*, errW_none, errW_some] <;> rfl), by repeat (first | (with_reducible first | exact HB.out | apply below_alloc | apply pw_below_drewN | apply below_drew1 | refine below_set ?_ GE112.out | refine below_set ?_ GE114.out) | exact HB.out)⟩
                  · rw [if_neg c12] at H
                    have c12b0 : decide (((rd_T73 l0_4 x19_2).f0) < 0) = false := decide_eq_false c12
                    clear c12
                    by_cases c16 : ((rd_T73 l0_4 x19_2).f0) ≤ x3_2
                    · rw [if_pos c16] at H
                      have c16b0 : decide (((rd_T73 l0_4 x19_2).f0) ≤ x3_2) = true := decide_eq_true c16
                      clear c16
                      obtain rfl := Option.some.inj H
                      have p113 : 0 ≤ (x19_2 : Int) := of_decide_eq_true (by first | (with_reducible assumption) | assumption)
                      have q113 : x19_2 < (l0_4.length : Int) := of_decide_eq_true (by first | (with_reducible assumption) | assumption)
                      obtain ⟨ad113, e113, hx113_0, hx113_1⟩ := at_T73 HR0_4.out x19_2 p113 q113
                      cases e113
                      replace hx113_0 := (HB.out.cell (World.block_lt_of_cell? w _ hx113_0)).trans hx113_0
                      replace hx113_1 := (HB.out.cell (World.block_lt_of_cell? w _ hx113_1)).trans hx113_1
                      replace p113 := eq_true p113
                      replace q113 := eq_true q113
                      go_wp2_with (first | ((with_reducible refine gate_dst (N := 6) rfl ?_); refine box_event ?hg (N := 6) ?hd (cs := #[.int .i64 0, .int .i64 0]) (t := 73) ?hr ?_; (case hd => rfl); (case hg => rfl); (case hr => first | (go_simp; done) | (go_simp; rfl)); intro gb114 hg w17 hbox hb; have n0_ := Aside0.mk (blk_below (g := gb112) (o := .cells #[.int .i64 a0_0, .string a0_1, .string a0_2, .int .i64 a0_3, .slice (some ad113) l0_4.length c0_4, .slice A0_5 l0_5.length c0_5] 27 (0, 0)) (by (with_reducible repeat (first | refine blk_drewN ?_ _ | refine blk_drew ?_ | refine blk_alloc ?_ _)); exact BK112.out) hb); have n1_ := Aside0.mk (below_step (by repeat (first | (with_reducible first | exact HB.out | apply below_alloc | apply pw_below_drewN | apply below_drew1 | refine below_set ?_ GE112.out) | exact HB.out)) hb); have n2_ := Aside0.mk (hbox); have n3_ := Aside0.mk ((by rw [hg]; exact (below_size (by repeat (first | (with_reducible first | exact HB.out | apply below_alloc | apply pw_below_drewN | apply below_drew1 | refine below_set ?_ GE112.out) | exact HB.out))) : w.heap.size ≤ gb114)); have n4_ := Aside0.mk ((by rw [hg]; exact (below_size (by repeat (first | (with_reducible first | exact HB.out | apply below_alloc | apply pw_below_drewN | apply below_drew1 | refine below_set ?_ GE112.out) | exact HB.out))) : w.heap.size ≤ gb114)); have n5_ := Aside0.mk ((by rw [hg]; exact Nat.ne_of_lt (blk_lt (g := gb112) (o := .cells #[.int .i64 a0_0, .string a0_1, .string a0_2, .int .i64 a0_3, .slice (some ad113) l0_4.length c0_4, .slice A0_5 l0_5.length c0_5] 27 (0, 0)) (by (with_reducible repeat (first | refine blk_drewN ?_ _ | refine blk_drew ?_ | refine blk_alloc ?_ _)); exact BK112.out)) : gb112 ≠ gb114)); have n6_ := Aside0.mk ((by rw [hg]; exact Nat.ne_of_gt (blk_lt (g := gb112) (o := .cells #[.int .i64 a0_0, .string a0_1, .string a0_2, .int .i64 a0_3, .slice (some ad113) l0_4.length c0_4, .slice A0_5 l0_5.length c0_5] 27 (0, 0)) (by (with_reducible repeat (first | refine blk_drewN ?_ _ | refine blk_drew ?_ | refine blk_alloc ?_ _)); exact BK112.out)) : gb114 ≠ gb112)); clear BK112; clear HB; have BK112 := n0_; have HB := n1_; have BK114 := n2_; have GW114 := n3_; have GE114 := n4_; have NB112_114 := n5_; have NB114_112 := n6_; clear n0_ n1_ n2_ n3_ n4_ n5_ n6_; clear hb hbox hg; have hnb18 := NB114_112.out; have hnc18 := NB112_114.out; have hcz19_0 : w17.cell? ⟨gb114, 0, none⟩ = some (.int .i64 0) := (blk_cell BK114.out 0).trans rfl; have hcz19_1 : w17.cell? ⟨gb114, 1, none⟩ = some (.int .i64 0) := (blk_cell BK114.out 1).trans rfl; have hfz19_0 := blk_frozen BK114.out 0; have hfz19_1 := blk_frozen BK114.out 1))
                      go_ret
                      exact ⟨by first | rfl | (simp [errW_none, errW_some] <;> rfl) | (simp [*, errW_none, errW_some] <;> rfl), by repeat (first | (with_reducible first | exact HB.out | apply below_alloc | apply pw_below_drewN | apply below_drew1 | refine below_set ?_ GE112.out | refine below_set ?_ GE114.out) | exact HB.out)⟩
                    · rw [if_neg c16] at H
                      have c16b0 : decide (((rd_T73 l0_4 x19_2).f0) ≤ x3_2) = false := decide_eq_false c16
                      clear c16
                      by_cases c20 : ((rd_T73 l0_4 x19_2).f1) ≤ ((rd_T73 l0_4 x19_2).f0)
                      · rw [if_pos c20] at H
                        have c20b0 : decide (((rd_T73 l0_4 x19_2).f1) ≤ ((rd_T73 l0_4 x19_2).f0)) = true := decide_eq_true c20
                        clear c20
                        obtain rfl := Option.some.inj H
                        have p113 : 0 ≤ (x19_2 : Int) := of_decide_eq_true (by first | (with_reducible assumption) | assumption)
                        have q113 : x19_2 < (l0_4.length : Int) := of_decide_eq_true (by first | (with_reducible assumption) | assumption)
                        obtain ⟨ad113, e113, hx113_0, hx113_1⟩ := at_T73 HR0_4.out x19_2 p113 q113
                        cases e113
                        replace hx113_0 := (HB.out.cell (World.block_lt_of_cell? w _ hx113_0)).trans hx113_0
                        replace hx113_1 := (HB.out.cell (World.block_lt_of_cell? w _ hx113_1)).trans hx113_1
                        replace p113 := eq_true p113
                        replace q113 := eq_true q113
                        go_wp2_with (first | ((with_reducible refine gate_dst (N := 6) rfl ?_); refine box_event ?hg (N := 6) ?hd (cs := #[.int .i64 0, .int .i64 0]) (t := 73) ?hr ?_; (case hd => rfl); (case hg => rfl); (case hr => first | (go_simp; done) | (go_simp; rfl)); intro gb114 hg w21 hbox hb; have n0_ := Aside0.mk (blk_below (g := gb112) (o := .cells #[.int .i64 a0_0, .string a0_1, .string a0_2, .int .i64 a0_3, .slice (some ad113) l0_4.length c0_4, .slice A0_5 l0_5.length c0_5] 27 (0, 0)) (by (with_reducible repeat (first | refine blk_drewN ?_ _ | refine blk_drew ?_ | refine blk_alloc ?_ _)); exact BK112.out) hb); have n1_ := Aside0.mk (below_step (by repeat (first | (with_reducible first | exact HB.out | apply below_alloc | apply pw_below_drewN | apply below_drew1 | refine below_set ?_ GE112.out) | exact HB.out)) hb); have n2_ := Aside0.mk (hbox); have n3_ := Aside0.mk ((by rw [hg]; exact (below_size (by repeat (first | (with_reducible first | exact HB.out | apply below_alloc | apply pw_below_drewN | apply below_drew1 | refine below_set ?_ GE112.out) | exact HB.out))) : w.heap.size ≤ gb114)); have n4_ := Aside0.mk ((by rw [hg]; exact (below_size (by repeat (first | (with_reducible first | exact HB.out | apply below_alloc | apply pw_below_drewN | apply below_drew1 | refine below_set ?_ GE112.out) | exact HB.out))) : w.heap.size ≤ gb114)); have n5_ := Aside0.mk ((by rw [hg]; exact Nat.ne_of_lt (blk_lt (g := gb112) (o := .cells #[.int .i64 a0_0, .string a0_1, .string a0_2, .int .i64 a0_3, .slice (some ad113) l0_4.length c0_4, .slice A0_5 l0_5.length c0_5] 27 (0, 0)) (by (with_reducible repeat (first | refine blk_drewN ?_ _ | refine blk_drew ?_ | refine blk_alloc ?_ _)); exact BK112.out)) : gb112 ≠ gb114)); have n6_ := Aside0.mk ((by rw [hg]; exact Nat.ne_of_gt (blk_lt (g := gb112) (o := .cells #[.int .i64 a0_0, .string a0_1, .string a0_2, .int .i64 a0_3, .slice (some ad113) l0_4.length c0_4, .slice A0_5 l0_5.length c0_5] 27 (0, 0)) (by (with_reducible repeat (first | refine blk_drewN ?_ _ | refine blk_drew ?_ | refine blk_alloc ?_ _)); exact BK112.out)) : gb114 ≠ gb112)); clear BK112; clear HB; have BK112 := n0_; have HB := n1_; have BK114 := n2_; have GW114 := n3_; have GE114 := n4_; have NB112_114 := n5_; have NB114_112 := n6_; clear n0_ n1_ n2_ n3_ n4_ n5_ n6_; clear hb hbox hg; have hnb22 := NB114_112.out; have hnc22 := NB112_114.out; have hcz23_0 : w21.cell? ⟨gb114, 0, none⟩ = some (.int .i64 0) := (blk_cell BK114.out 0).trans rfl; have hcz23_1 : w21.cell? ⟨gb114, 1, none⟩ = some (.int .i64 0) := (blk_cell BK114.out 1).trans rfl; have hfz23_0 := blk_frozen BK114.out 0; have hfz23_1 := blk_frozen BK114.out 1))
                        go_ret
                        exact ⟨by first | rfl | (simp [errW_none, errW_some] <;> rfl) | (simp [*, errW_none, errW_some] <;> rfl), by repeat (first | (with_reducible first | exact HB.out | apply below_alloc | apply pw_below_drewN | apply below_drew1 | refine below_set ?_ GE112.out | refine below_set ?_ GE114.out) | exact HB.out)⟩
                      · rw [if_neg c20] at H
                        have c20b0 : decide (((rd_T73 l0_4 x19_2).f1) ≤ ((rd_T73 l0_4 x19_2).f0)) = false := decide_eq_false c20
                        clear c20
                        by_cases c24 : ((rd_T73 l0_4 x19_2).f1) > (wrap64 (Int.tdiv (wrap64 ((wrap64 (a0_3 + 512)) - 1)) 512))
                        · rw [if_pos c24] at H
                          have c24b0 : decide ((wrap64 (Int.tdiv (wrap64 ((wrap64 (a0_3 + 512)) - 1)) 512)) < ((rd_T73 l0_4 x19_2).f1)) = true := decide_eq_true c24
                          clear c24
                          obtain rfl := Option.some.inj H
                          have p113 : 0 ≤ (x19_2 : Int) := of_decide_eq_true (by first | (with_reducible assumption) | assumption)
                          have q113 : x19_2 < (l0_4.length : Int) := of_decide_eq_true (by first | (with_reducible assumption) | assumption)
                          obtain ⟨ad113, e113, hx113_0, hx113_1⟩ := at_T73 HR0_4.out x19_2 p113 q113
                          cases e113
                          replace hx113_0 := (HB.out.cell (World.block_lt_of_cell? w _ hx113_0)).trans hx113_0
                          replace hx113_1 := (HB.out.cell (World.block_lt_of_cell? w _ hx113_1)).trans hx113_1
                          replace p113 := eq_true p113
                          replace q113 := eq_true q113
                          go_wp2_with (first | ((with_reducible refine gate_dst (N := 6) rfl ?_); refine box_event ?hg (N := 6) ?hd (cs := #[.int .i64 0, .int .i64 0]) (t := 73) ?hr ?_; (case hd => rfl); (case hg => rfl); (case hr => first | (go_simp; done) | (go_simp; rfl)); intro gb114 hg w25 hbox hb; have n0_ := Aside0.mk (blk_below (g := gb112) (o := .cells #[.int .i64 a0_0, .string a0_1, .string a0_2, .int .i64 a0_3, .slice (some ad113) l0_4.length c0_4, .slice A0_5 l0_5.length c0_5] 27 (0, 0)) (by (with_reducible repeat (first | refine blk_drewN ?_ _ | refine blk_drew ?_ | refine blk_alloc ?_ _)); exact BK112.out) hb); have n1_ := Aside0.mk (below_step (by repeat (first | (with_reducible first | exact HB.out | apply below_alloc | apply pw_below_drewN | apply below_drew1 | refine below_set ?_ GE112.out) | exact HB.out)) hb); have n2_ := Aside0.mk (hbox); have n3_ := Aside0.mk ((by rw [hg]; exact (below_size (by repeat (first | (with_reducible first | exact HB.out | apply below_alloc | apply pw_below_drewN | apply below_drew1 | refine below_set ?_ GE112.out) | exact HB.out))) : w.heap.size ≤ gb114)); have n4_ := Aside0.mk ((by rw [hg]; exact (below_size (by repeat (first | (with_reducible first | exact HB.out | apply below_alloc | apply pw_below_drewN | apply below_drew1 | refine below_set ?_ GE112.out) | exact HB.out))) : w.heap.size ≤ gb114)); have n5_ := Aside0.mk ((by rw [hg]; exact Nat.ne_of_lt (blk_lt (g := gb112) (o := .cells #[.int .i64 a0_0, .string a0_1, .string a0_2, .int .i64 a0_3, .slice (some ad113) l0_4.length c0_4, .slice A0_5 l0_5.length c0_5] 27 (0, 0)) (by (with_reducible repeat (first | refine blk_drewN ?_ _ | refine blk_drew ?_ | refine blk_alloc ?_ _)); exact BK112.out)) : gb112 ≠ gb114)); have n6_ := Aside0.mk ((by rw [hg]; exact Nat.ne_of_gt (blk_lt (g := gb112) (o := .cells #[.int .i64 a0_0, .string a0_1, .string a0_2, .int .i64 a0_3, .slice (some ad113) l0_4.length c0_4, .slice A0_5 l0_5.length c0_5] 27 (0, 0)) (by (with_reducible repeat (first | refine blk_drewN ?_ _ | refine blk_drew ?_ | refine blk_alloc ?_ _)); exact BK112.out)) : gb114 ≠ gb112)); clear BK112; clear HB; have BK112 := n0_; have HB := n1_; have BK114 := n2_; have GW114 := n3_; have GE114 := n4_; have NB112_114 := n5_; have NB114_112 := n6_; clear n0_ n1_ n2_ n3_ n4_ n5_ n6_; clear hb hbox hg; have hnb26 := NB114_112.out; have hnc26 := NB112_114.out; have hcz27_0 : w25.cell? ⟨gb114, 0, none⟩ = some (.int .i64 0) := (blk_cell BK114.out 0).trans rfl; have hcz27_1 : w25.cell? ⟨gb114, 1, none⟩ = some (.int .i64 0) := (blk_cell BK114.out 1).trans rfl; have hfz27_0 := blk_frozen BK114.out 0; have hfz27_1 := blk_frozen BK114.out 1; have hcz28_0 : w25.cell? ⟨gb112, 0, none⟩ = some (.int .i64 a0_0) := (blk_cell BK112.out 0).trans rfl; have hcz28_1 : w25.cell? ⟨gb112, 1, none⟩ = some (.string a0_1) := (blk_cell BK112.out 1).trans rfl; have hcz28_2 : w25.cell? ⟨gb112, 2, none⟩ = some (.string a0_2) := (blk_cell BK112.out 2).trans rfl; have hcz28_3 : w25.cell? ⟨gb112, 3, none⟩ = some (.int .i64 a0_3) := (blk_cell BK112.out 3).trans rfl; have hcz28_4 : w25.cell? ⟨gb112, 4, none⟩ = some (.slice (some ad113) l0_4.length c0_4) := (blk_cell BK112.out 4).trans rfl; have hcz28_5 : w25.cell? ⟨gb112, 5, none⟩ = some (.slice A0_5 l0_5.length c0_5) := (blk_cell BK112.out 5).trans rfl; have hfz28_0 := blk_frozen BK112.out 0; have hfz28_1 := blk_frozen BK112.out 1; have hfz28_2 := blk_frozen BK112.out 2; have hfz28_3 := blk_frozen BK112.out 3; have hfz28_4 := blk_frozen BK112.out 4; have hfz28_5 := blk_frozen BK112.out 5))
                          go_ret
                          exact ⟨by first | rfl | (simp [errW_none, errW_some] <;> rfl) | (simp [*, errW_none, errW_some] <;> rfl), by repeat (first | (with_reducible first | exact HB.out | apply below_alloc | apply pw_below_drewN | apply below_drew1 | refine below_set ?_ GE112.out | refine below_set ?_ GE114.out) | exact HB.out)⟩
                        · rw [if_neg c24] at H
                          have c24b0 : decide ((wrap64 (Int.tdiv (wrap64 ((wrap64 (a0_3 + 512)) - 1)) 512)) < ((rd_T73 l0_4 x19_2).f1)) = false := decide_eq_false c24
                          clear c24
                          have H' := Aside0.mk H
                          clear H
                          have p113 : 0 ≤ (x19_2 : Int) := of_decide_eq_true (by first | (with_reducible assumption) | assumption)
                          have q113 : x19_2 < (l0_4.length : Int) := of_decide_eq_true (by first | (with_reducible assumption) | assumption)
                          obtain ⟨ad113, e113, hx113_0, hx113_1⟩ := at_T73 HR0_4.out x19_2 p113 q113
                          cases e113
                          replace hx113_0 := (HB.out.cell (World.block_lt_of_cell? w _ hx113_0)).trans hx113_0
                          replace hx113_1 := (HB.out.cell (World.block_lt_of_cell? w _ hx113_1)).trans hx113_1
                          replace p113 := eq_true p113
                          replace q113 := eq_true q113
                          go_wp2_with (first | ((with_reducible refine gate_dst (N := 6) rfl ?_); refine box_event ?hg (N := 6) ?hd (cs := #[.int .i64 0, .int .i64 0]) (t := 73) ?hr ?_; (case hd => rfl); (case hg => rfl); (case hr => first | (go_simp; done) | (go_simp; rfl)); intro gb114 hg w29 hbox hb; have n0_ := Aside0.mk (blk_below (g := gb112) (o := .cells #[.int .i64 a0_0, .string a0_1, .string a0_2, .int .i64 a0_3, .slice (some ad113) l0_4.length c0_4, .slice A0_5 l0_5.length c0_5] 27 (0, 0)) (by (with_reducible repeat (first | refine blk_drewN ?_ _ | refine blk_drew ?_ | refine blk_alloc ?_ _)); exact BK112.out) hb); have n1_ := Aside0.mk (below_step (by repeat (first | (with_reducible first | exact HB.out | apply below_alloc | apply pw_below_drewN | apply below_drew1 | refine below_set ?_ GE112.out) | exact HB.out)) hb); have n2_ := Aside0.mk (hbox); have n3_ := Aside0.mk ((by rw [hg]; exact (below_size (by repeat (first | (with_reducible first | exact HB.out | apply below_alloc | apply pw_below_drewN | apply below_drew1 | refine below_set ?_ GE112.out) | exact HB.out))) : w.heap.size ≤ gb114)); have n4_ := Aside0.mk ((by rw [hg]; exact (below_size (by repeat (first | (with_reducible first | exact HB.out | apply below_alloc | apply pw_below_drewN | apply below_drew1 | refine below_set ?_ GE112.out) | exact HB.out))) : w.heap.size ≤ gb114)); have n5_ := Aside0.mk ((by rw [hg]; exact Nat.ne_of_lt (blk_lt (g := gb112) (o := .cells #[.int .i64 a0_0, .string a0_1, .string a0_2, .int .i64 a0_3, .slice (some ad113) l0_4.length c0_4, .slice A0_5 l0_5.length c0_5] 27 (0, 0)) (by (with_reducible repeat (first | refine blk_drewN ?_ _ | refine blk_drew ?_ | refine blk_alloc ?_ _)); exact BK112.out)) : gb112 ≠ gb114)); have n6_ := Aside0.mk ((by rw [hg]; exact Nat.ne_of_gt (blk_lt (g := gb112) (o := .cells #[.int .i64 a0_0, .string a0_1, .string a0_2, .int .i64 a0_3, .slice (some ad113) l0_4.length c0_4, .slice A0_5 l0_5.length c0_5] 27 (0, 0)) (by (with_reducible repeat (first | refine blk_drewN ?_ _ | refine blk_drew ?_ | refine blk_alloc ?_ _)); exact BK112.out)) : gb114 ≠ gb112)); clear BK112; clear HB; have BK112 := n0_; have HB := n1_; have BK114 := n2_; have GW114 := n3_; have GE114 := n4_; have NB112_114 := n5_; have NB114_112 := n6_; clear n0_ n1_ n2_ n3_ n4_ n5_ n6_; clear hb hbox hg; have hnb30 := NB114_112.out; have hnc30 := NB112_114.out; have hcz31_0 : w29.cell? ⟨gb114, 0, none⟩ = some (.int .i64 0) := (blk_cell BK114.out 0).trans rfl; have hcz31_1 : w29.cell? ⟨gb114, 1, none⟩ = some (.int .i64 0) := (blk_cell BK114.out 1).trans rfl; have hfz31_0 := blk_frozen BK114.out 0; have hfz31_1 := blk_frozen BK114.out 1; have hcz32_0 : w29.cell? ⟨gb112, 0, none⟩ = some (.int .i64 a0_0) := (blk_cell BK112.out 0).trans rfl; have hcz32_1 : w29.cell? ⟨gb112, 1, none⟩ = some (.string a0_1) := (blk_cell BK112.out 1).trans rfl; have hcz32_2 : w29.cell? ⟨gb112, 2, none⟩ = some (.string a0_2) := (blk_cell BK112.out 2).trans rfl; have hcz32_3 : w29.cell? ⟨gb112, 3, none⟩ = some (.int .i64 a0_3) := (blk_cell BK112.out 3).trans rfl; have hcz32_4 : w29.cell? ⟨gb112, 4, none⟩ = some (.slice (some ad113) l0_4.length c0_4) := (blk_cell BK112.out 4).trans rfl; have hcz32_5 : w29.cell? ⟨gb112, 5, none⟩ = some (.slice A0_5 l0_5.length c0_5) := (blk_cell BK112.out 5).trans rfl; have hfz32_0 := blk_frozen BK112.out 0; have hfz32_1 := blk_frozen BK112.out 1; have hfz32_2 := blk_frozen BK112.out 2; have hfz32_3 := blk_frozen BK112.out 3; have hfz32_4 := blk_frozen BK112.out 4; have hfz32_5 := blk_frozen BK112.out 5))
                          go_roundg k2
                          case measure => have := HJ1.out; have := HK2.out; omega
                          case rel => exact ⟨((rd_T73 l0_4 x19_2).f1), (wrap64 (x4_2 + (wrap64 (((rd_T73 l0_4 x19_2).f1) - ((rd_T73 l0_4 x19_2).f0))))), (wrap64 (x19_2 + 1)), (by first | rfl | (simp; done) | (simp [*]; done)), (by first | rfl | (simp; done) | (simp [*]; done)), (by first | rfl | (simp; done) | (simp [*]; done)), H', ⟨by have := HJ1.out; have := HK2.out; omega⟩, ⟨by (with_reducible repeat (first | refine blk_drewN ?_ _ | refine blk_drew ?_ | refine blk_alloc ?_ _)); refine blk_far ?_ NB112_114.out _; (with_reducible repeat (first | refine blk_drewN ?_ _ | refine blk_drew ?_ | refine blk_alloc ?_ _)); refine blk_far ?_ NB112_114.out _; (with_reducible repeat (first | refine blk_drewN ?_ _ | refine blk_drew ?_ | refine blk_alloc ?_ _)); exact BK112.out⟩, ⟨by repeat (first | (with_reducible first | exact HB.out | apply below_alloc | apply pw_below_drewN | apply below_drew1 | refine below_set ?_ GE112.out | refine below_set ?_ GE114.out) | exact HB.out)⟩⟩
                · rw [if_neg c11] at H
                  exact absurd H (by simp)
              · rw [if_neg c10] at H
                exact absurd H (by simp)
            · rw [if_neg c9] at H
              have c9b0 : decide (x19_2 < (l0_4.length : Int)) = false := decide_eq_false c9
              clear c9
              by_cases c33 : (l0_5.length : Int) = (wrap64 (x4_2 * 512))
              · rw [if_pos c33] at H
                have c33b0 : ((l0_5.length : Int) == (wrap64 (x4_2 * 512))) = true := beq_iff_eq.mpr c33
                have c33b1 : ((l0_5.length : Int) != (wrap64 (x4_2 * 512))) = false := bne_eq_false_iff_eq.mpr c33
                clear c33
                by_cases c34 : x4_2 = 0
                · rw [if_pos c34] at H
                  have c34b0 : (x4_2 == 0) = true := beq_iff_eq.mpr c34
                  have c34b1 : (x4_2 != 0) = false := bne_eq_false_iff_eq.mpr c34
                  clear c34
                  obtain rfl := Option.some.inj H
                  have hcz35_0 : wr.cell? ⟨gb112, 0, none⟩ = some (.int .i64 a0_0) := (blk_cell BK112.out 0).trans rfl
                  have hcz35_1 : wr.cell? ⟨gb112, 1, none⟩ = some (.string a0_1) := (blk_cell BK112.out 1).trans rfl
                  have hcz35_2 : wr.cell? ⟨gb112, 2, none⟩ = some (.string a0_2) := (blk_cell BK112.out 2).trans rfl
                  have hcz35_3 : wr.cell? ⟨gb112, 3, none⟩ = some (.int .i64 a0_3) := (blk_cell BK112.out 3).trans rfl
                  have hcz35_4 : wr.cell? ⟨gb112, 4, none⟩ = some (.slice A0_4 l0_4.length c0_4) := (blk_cell BK112.out 4).trans rfl
                  have hcz35_5 : wr.cell? ⟨gb112, 5, none⟩ = some (.slice A0_5 l0_5.length c0_5) := (blk_cell BK112.out 5).trans rfl
                  have hfz35_0 := blk_frozen BK112.out 0
                  have hfz35_1 := blk_frozen BK112.out 1
                  have hfz35_2 := blk_frozen BK112.out 2
                  have hfz35_3 := blk_frozen BK112.out 3
                  have hfz35_4 := blk_frozen BK112.out 4
                  have hfz35_5 := blk_frozen BK112.out 5
                  go_wp2
                  go_ret
                  exact ⟨by first | rfl | (simp [errW_none, errW_some] <;> rfl) | (simp [*, errW_none, errW_some] <;> rfl), by repeat (first | (with_reducible first | exact HB.out | apply below_alloc | apply pw_below_drewN | apply below_drew1 | refine below_set ?_ GE112.out) | exact HB.out)⟩
                · rw [if_neg c34] at H
                  have c34b0 : (x4_2 == 0) = false := beq_eq_false_iff_ne.mpr c34
                  have c34b1 : (x4_2 != 0) = true := bne_iff_ne.mpr c34
                  have H' := Aside0.mk H
                  clear H
                  have hcz36_0 : wr.cell? ⟨gb112, 0, none⟩ = some (.int .i64 a0_0) := (blk_cell BK112.out 0).trans rfl
                  have hcz36_1 : wr.cell? ⟨gb112, 1, none⟩ = some (.string a0_1) := (blk_cell BK112.out 1).trans rfl
                  have hcz36_2 : wr.cell? ⟨gb112, 2, none⟩ = some (.string a0_2) := (blk_cell BK112.out 2).trans rfl
                  have hcz36_3 : wr.cell? ⟨gb112, 3, none⟩ = some (.int .i64 a0_3) := (blk_cell BK112.out 3).trans rfl
                  have hcz36_4 : wr.cell? ⟨gb112, 4, none⟩ = some (.slice A0_4 l0_4.length c0_4) := (blk_cell BK112.out 4).trans rfl
                  have hcz36_5 : wr.cell? ⟨gb112, 5, none⟩ = some (.slice A0_5 l0_5.length c0_5) := (blk_cell BK112.out 5).trans rfl
                  have hfz36_0 := blk_frozen BK112.out 0
                  have hfz36_1 := blk_frozen BK112.out 1
                  have hfz36_2 := blk_frozen BK112.out 2
                  have hfz36_3 := blk_frozen BK112.out 3
                  have hfz36_4 := blk_frozen BK112.out 4
                  have hfz36_5 := blk_frozen BK112.out 5
                  go_wp2
                  go_loopg [7] k2 (fun kq v7 w' => ∃ (x7_3 : Int), v7 = .int .i64 x7_3 ∧ Aside0 (dump_filled.l1 kq x3_2 x7_3 a0_0 a0_1 a0_2 a0_3 l0_4 l0_5 = some r) ∧ Aside0 (kq ≤ k2) ∧ Aside0 (w'.heap[gb112]? = some (.cells #[.int .i64 a0_0, .string a0_1, .string a0_2, .int .i64 a0_3, (.slice A0_4 l0_4.length c0_4), (.slice A0_5 l0_5.length c0_5)] 27 (0, 0))) ∧ Aside0 (Below w.heap.size w w'))
                  case atStart => exact ⟨(a0_3), (by first | rfl | (simp; done) | (simp [*]; done)), H', ⟨Nat.le_refl _⟩, ⟨by (with_reducible repeat (first | refine blk_drewN ?_ _ | refine blk_drew ?_ | refine blk_alloc ?_ _)); exact BK112.out⟩, ⟨by repeat (first | (with_reducible first | exact HB.out | apply below_alloc | apply pw_below_drewN | apply below_drew1 | refine below_set ?_ GE112.out) | exact HB.out)⟩⟩
                  case round =>
                    clear H'
                    try clear c1
                    try clear p1
                    try clear q1
                    try clear hx1
                    try clear c2
                    try clear p2
                    try clear c3
                    try clear c4
                    try clear c4b0
                    try clear p6
                    try clear c7
                    try clear c9
                    try clear c9b0
                    try clear c10
                    try clear c10b0
                    try clear c11
                    try clear c11b0
                    try clear p11
                    try clear q11
                    try clear hx11
                    try clear c12
                    try clear c12b0
                    try clear c14
                    try clear c16
                    try clear c16b0
                    try clear c18
                    try clear c20
                    try clear c20b0
                    try clear c22
                    try clear c24
                    try clear c24b0
                    try clear c26
                    try clear c30
                    try clear c33
                    try clear c33b0
                    try clear c33b1
                    try clear c34
                    try clear c34b0
                    try clear c34b1
                    try clear hcz15_0
                    try clear hcz15_1
                    try clear hcz19_0
                    try clear hcz19_1
                    try clear hcz23_0
                    try clear hcz23_1
                    try clear hcz27_0
                    try clear hcz27_1
                    try clear hcz28_0
                    try clear hcz28_1
                    try clear hcz28_2
                    try clear hcz28_3
                    try clear hcz28_4
                    try clear hcz28_5
                    try clear hcz31_0
                    try clear hcz31_1
                    try clear hcz32_0
                    try clear hcz32_1
                    try clear hcz32_2
                    try clear hcz32_3
                    try clear hcz32_4
                    try clear hcz32_5
                    try clear hcz35_0
                    try clear hcz35_1
                    try clear hcz35_2
                    try clear hcz35_3
                    try clear hcz35_4
                    try clear hcz35_5
                    try clear hcz36_0
                    try clear hcz36_1
                    try clear hcz36_2
                    try clear hcz36_3
                    try clear hcz36_4
                    try clear hcz36_5
                    try clear hcz5_0
                    try clear hcz5_1
                    try clear hcz5_2
                    try clear hcz5_3
                    try clear hcz5_4
                    try clear hcz5_5
                    try clear hcz6_0
                    try clear hcz6_1
                    try clear hcz6_2
                    try clear hcz6_3
                    try clear hcz6_4
                    try clear hcz6_5
                    try clear hcz8_0
                    try clear hcz8_1
                    try clear hcz8_2
                    try clear hcz8_3
                    try clear hcz8_4
                    try clear hcz8_5
                    try clear hfz15_0
                    try clear hfz15_1
                    try clear hfz19_0
                    try clear hfz19_1
                    try clear hfz23_0
                    try clear hfz23_1
                    try clear hfz27_0
                    try clear hfz27_1
                    try clear hfz28_0
                    try clear hfz28_1
                    try clear hfz28_2
                    try clear hfz28_3
                    try clear hfz28_4
                    try clear hfz28_5
                    try clear hfz31_0
                    try clear hfz31_1
                    try clear hfz32_0
                    try clear hfz32_1
                    try clear hfz32_2
                    try clear hfz32_3
                    try clear hfz32_4
                    try clear hfz32_5
                    try clear hfz35_0
                    try clear hfz35_1
                    try clear hfz35_2
                    try clear hfz35_3
                    try clear hfz35_4
                    try clear hfz35_5
                    try clear hfz36_0
                    try clear hfz36_1
                    try clear hfz36_2
                    try clear hfz36_3
                    try clear hfz36_4
                    try clear hfz36_5
                    try clear hfz5_0
                    try clear hfz5_1
                    try clear hfz5_2
                    try clear hfz5_3
                    try clear hfz5_4
                    try clear hfz5_5
                    try clear hfz6_0
                    try clear hfz6_1
                    try clear hfz6_2
                    try clear hfz6_3
                    try clear hfz6_4
                    try clear hfz6_5
                    try clear hfz8_0
                    try clear hfz8_1
                    try clear hfz8_2
                    try clear hfz8_3
                    try clear hfz8_4
                    try clear hfz8_5
                    try clear hx113_0
                    try clear hx113_1
                    try clear p113
                    try clear p2
                    try clear q113
                    obtain ⟨x7_3, rfl, HA, HK3, BK112, HB⟩ := hrel
                    cases gk with
                    | zero => exact absurd HA.out (by simp [dump_filled.l1])
                    | succ k3 =>
                      have H := HA.out
                      clear HA
                      simp only [dump_filled.l1] at H
                      by_cases c37 : x7_3 < (wrap64 (x3_2 * 512))
                      · rw [if_pos c37] at H
                        have c37b0 : decide (x7_3 < (wrap64 (x3_2 * 512))) = true := decide_eq_true c37
                        clear c37
                        obtain ⟨ji38, hji38⟩ : ∃ j_ : Int, (wrap64 ((wrap64 ((l0_5.length : Int) - (wrap64 (x3_2 * 512)))) + x7_3)) = j_ := ⟨_, rfl⟩
                        replace H : (if 0 ≤ (ji38) then (if (ji38) < (l0_5.length : Int) then (if (rd l0_5 (ji38)) = 0 then (dump_filled.l1 k3 x3_2 (wrap64 (x7_3 + 1)) a0_0 a0_1 a0_2 a0_3 l0_4 l0_5) else (some false)) else (none)) else (none)) = some r := by first | (rw [hji38] at H; exact H) | (simp only [hji38] at H ⊢; exact H)
                        have hji38w : (IntKind.i64.wrap ((wrap64 ((l0_5.length : Int) - (wrap64 (x3_2 * 512)))) + x7_3)) = ji38 := (i64_w _).trans hji38
                        by_cases c39 : 0 ≤ (ji38)
                        · rw [if_pos c39] at H
                          have c39b0 : decide (0 ≤ (ji38)) = true := decide_eq_true c39
                          clear c39
                          by_cases c40 : (ji38) < (l0_5.length : Int)
                          · rw [if_pos c40] at H
                            have c40b0 : decide ((ji38) < (l0_5.length : Int)) = true := decide_eq_true c40
                            clear c40
                            by_cases c41 : (rd l0_5 (ji38)) = 0
                            · rw [if_pos c41] at H
                              have c41b0 : ((rd l0_5 (ji38)) == 0) = true := beq_iff_eq.mpr c41
                              have c41b1 : ((rd l0_5 (ji38)) != 0) = false := bne_eq_false_iff_eq.mpr c41
                              clear c41
                              have H' := Aside0.mk H
                              clear H
                              have hcz42_0 : wr.cell? ⟨gb112, 0, none⟩ = some (.int .i64 a0_0) := (blk_cell BK112.out 0).trans rfl
                              have hcz42_1 : wr.cell? ⟨gb112, 1, none⟩ = some (.string a0_1) := (blk_cell BK112.out 1).trans rfl
                              have hcz42_2 : wr.cell? ⟨gb112, 2, none⟩ = some (.string a0_2) := (blk_cell BK112.out 2).trans rfl
                              have hcz42_3 : wr.cell? ⟨gb112, 3, none⟩ = some (.int .i64 a0_3) := (blk_cell BK112.out 3).trans rfl
                              have hcz42_4 : wr.cell? ⟨gb112, 4, none⟩ = some (.slice A0_4 l0_4.length c0_4) := (blk_cell BK112.out 4).trans rfl
                              have hcz42_5 : wr.cell? ⟨gb112, 5, none⟩ = some (.slice A0_5 l0_5.length c0_5) := (blk_cell BK112.out 5).trans rfl
                              have hfz42_0 := blk_frozen BK112.out 0
                              have hfz42_1 := blk_frozen BK112.out 1
                              have hfz42_2 := blk_frozen BK112.out 2
                              have hfz42_3 := blk_frozen BK112.out 3
                              have hfz42_4 := blk_frozen BK112.out 4
                              have hfz42_5 := blk_frozen BK112.out 5
                              have p115 : 0 ≤ ((ji38) : Int) := of_decide_eq_true (by first | (with_reducible assumption) | assumption)
                              have q115 : (ji38) < (l0_5.length : Int) := of_decide_eq_true (by first | (with_reducible assumption) | assumption)
                              obtain ⟨ad115, e115, hx115_0⟩ := Kd.at_int HR0_5.out (ji38) p115 q115
                              cases e115
                              replace hx115_0 := (HB.out.cell (World.block_lt_of_cell? w _ hx115_0)).trans hx115_0
                              replace p115 := eq_true p115
                              replace q115 := eq_true q115
                              go_wp2
                              go_roundg k3
                              case measure => have := HJ1.out; have := HK2.out; have := HK3.out; omega
                              case rel => exact ⟨(wrap64 (x7_3 + 1)), (by first | rfl | (simp; done) | (simp [*]; done)), H', ⟨by have := HJ1.out; have := HK2.out; have := HK3.out; omega⟩, ⟨by (with_reducible repeat (first | refine blk_drewN ?_ _ | refine blk_drew ?_ | refine blk_alloc ?_ _)); exact BK112.out⟩, ⟨by repeat (first | (with_reducible first | exact HB.out | apply below_alloc | apply pw_below_drewN | apply below_drew1 | refine below_set ?_ GE112.out) | exact HB.out)⟩⟩
                            · rw [if_neg c41] at H
                              have c41b0 : ((rd l0_5 (ji38)) == 0) = false := beq_eq_false_iff_ne.mpr c41
                              have c41b1 : ((rd l0_5 (ji38)) != 0) = true := bne_iff_ne.mpr c41
                              obtain rfl := Option.some.inj H
                              have hcz43_0 : wr.cell? ⟨gb112, 0, none⟩ = some (.int .i64 a0_0) := (blk_cell BK112.out 0).trans rfl
                              have hcz43_1 : wr.cell? ⟨gb112, 1, none⟩ = some (.string a0_1) := (blk_cell BK112.out 1).trans rfl
                              have hcz43_2 : wr.cell? ⟨gb112, 2, none⟩ = some (.string a0_2) := (blk_cell BK112.out 2).trans rfl
                              have hcz43_3 : wr.cell? ⟨gb112, 3, none⟩ = some (.int .i64 a0_3) := (blk_cell BK112.out 3).trans rfl
                              have hcz43_4 : wr.cell? ⟨gb112, 4, none⟩ = some (.slice A0_4 l0_4.length c0_4) := (blk_cell BK112.out 4).trans rfl
                              have hcz43_5 : wr.cell? ⟨gb112, 5, none⟩ = some (.slice A0_5 l0_5.length c0_5) := (blk_cell BK112.out 5).trans rfl
                              have hfz43_0 := blk_frozen BK112.out 0
                              have hfz43_1 := blk_frozen BK112.out 1
                              have hfz43_2 := blk_frozen BK112.out 2
                              have hfz43_3 := blk_frozen BK112.out 3
                              have hfz43_4 := blk_frozen BK112.out 4
                              have hfz43_5 := blk_frozen BK112.out 5
                              have p115 : 0 ≤ ((ji38) : Int) := of_decide_eq_true (by first | (with_reducible assumption) | assumption)
                              have q115 : (ji38) < (l0_5.length : Int) := of_decide_eq_true (by first | (with_reducible assumption) | assumption)
                              obtain ⟨ad115, e115, hx115_0⟩ := Kd.at_int HR0_5.out (ji38) p115 q115
                              cases e115
                              replace hx115_0 := (HB.out.cell (World.block_lt_of_cell? w _ hx115_0)).trans hx115_0
                              replace p115 := eq_true p115
                              replace q115 := eq_true q115
                              go_wp2
                              go_ret
                              exact ⟨by first | rfl | (simp [errW_none, errW_some] <;> rfl) | (simp only [← hji38]; first | rfl | (simp [errW_none, errW_some] <;> rfl)) | (simp [*, errW_none, errW_some] <;> rfl), by repeat (first | (with_reducible first | exact HB.out | apply below_alloc | apply pw_below_drewN | apply below_drew1 | refine below_set ?_ GE112.out) | exact HB.out)⟩
                          · rw [if_neg c40] at H
                            exact absurd H (by simp)
                        · rw [if_neg c39] at H
                          exact absurd H (by simp)
                      · rw [if_neg c37] at H
                        have c37b0 : decide (x7_3 < (wrap64 (x3_2 * 512))) = false := decide_eq_false c37
                        clear c37
                        obtain rfl := Option.some.inj H
                        go_wp2
                        go_ret
                        exact ⟨by first | rfl | (simp [errW_none, errW_some] <;> rfl) | (simp [*, errW_none, errW_some] <;> rfl), by repeat (first | (with_reducible first | exact HB.out | apply below_alloc | apply pw_below_drewN | apply below_drew1 | refine below_set ?_ GE112.out) | exact HB.out)⟩
              · rw [if_neg c33] at H
                have c33b0 : ((l0_5.length : Int) == (wrap64 (x4_2 * 512))) = false := beq_eq_false_iff_ne.mpr c33
                have c33b1 : ((l0_5.length : Int) != (wrap64 (x4_2 * 512))) = true := bne_iff_ne.mpr c33
                obtain rfl := Option.some.inj H
                have hcz44_0 : wr.cell? ⟨gb112, 0, none⟩ = some (.int .i64 a0_0) := (blk_cell BK112.out 0).trans rfl
                have hcz44_1 : wr.cell? ⟨gb112, 1, none⟩ = some (.string a0_1) := (blk_cell BK112.out 1).trans rfl
                have hcz44_2 : wr.cell? ⟨gb112, 2, none⟩ = some (.string a0_2) := (blk_cell BK112.out 2).trans rfl
                have hcz44_3 : wr.cell? ⟨gb112, 3, none⟩ = some (.int .i64 a0_3) := (blk_cell BK112.out 3).trans rfl
                have hcz44_4 : wr.cell? ⟨gb112, 4, none⟩ = some (.slice A0_4 l0_4.length c0_4) := (blk_cell BK112.out 4).trans rfl
                have hcz44_5 : wr.cell? ⟨gb112, 5, none⟩ = some (.slice A0_5 l0_5.length c0_5) := (blk_cell BK112.out 5).trans rfl
                have hfz44_0 := blk_frozen BK112.out 0
                have hfz44_1 := blk_frozen BK112.out 1
                have hfz44_2 := blk_frozen BK112.out 2
                have hfz44_3 := blk_frozen BK112.out 3
                have hfz44_4 := blk_frozen BK112.out 4
                have hfz44_5 := blk_frozen BK112.out 5
                go_wp2
                go_ret
                exact ⟨by first | rfl | (simp [errW_none, errW_some] <;> rfl) | (simp [*, errW_none, errW_some] <;> rfl), by repeat (first | (with_reducible first | exact HB.out | apply below_alloc | apply pw_below_drewN | apply below_drew1 | refine below_set ?_ GE112.out) | exact HB.out)⟩
def bytes_Equal.f (l0 : List Int) (l1 : List Int) : Option (Bool) := some ((strOfNums l0).toList == (strOfNums l1).toList)
set_option maxHeartbeats 8000000 in
set_option maxRecDepth 100000 in
theorem bytes_Equal.calls (A0 : Option Addr) (c0 : Nat) (l0 : List Int) (A1 : Option Addr) (c1 : Nat) (l1 : List Int) (r : Bool) (w : World) (hr0 : Kd.C (Kd.int .u8) w A0 l0.length l0) (hc0 : l0.length ≤ c0) (hr1 : Kd.C (Kd.int .u8) w A1 l1.length l1) (hc1 : l1.length ≤ c1) (h : bytes_Equal.f l0 l1 = some r) :
    Calls Tryd.prog 49 #[.slice A0 l0.length c0, .slice A1 l1.length c1] w fun e w' => e = .returned (.bool r) ∧ Drawn0 w w' := by
  have HR0 := Aside0.mk hr0
  have HC0 := Aside0.mk hc0
  clear hr0 hc0
  have HR1 := Aside0.mk hr1
  have HC1 := Aside0.mk hc1
  clear hr1 hc1
  have H : (some ((strOfNums l0).toList == (strOfNums l1).toList)) = some r := h
  clear h
  obtain rfl := Option.some.inj H
  have hcv3 := Kd.C_string (P := Tryd.prog) (A := A0) (c := c0) Tryd.underlying25 Tryd.underlying5 Tryd.underlying9 HR0.out
  have hcv4 := Kd.C_string (P := Tryd.prog) (A := A1) (c := c1) Tryd.underlying25 Tryd.underlying5 Tryd.underlying9 HR1.out
  go_enter Tryd.func49, Tryd.ntmps49
  go_wp2
  go_ret
  exact ⟨by first | rfl | (simp; done) | (simp [*]; done), by repeat (first | exact Drawn0.refl _ | apply Drawn0.step)⟩
def vellumlaw18_twinRuns.l0 : Nat → List (S73) → List (S73) → Int → Option ((List (S73)))
  | 0, _, _, _ => none
  | k + 1, x0, x3, x4 => if x4 < (x0.length : Int) then (if 0 ≤ x4 then (if x3.length < 8796093022208 then (vellumlaw18_twinRuns.l0 k x0 (x3 ++ [(⟨(rd_T73 x0 x4).f0, (rd_T73 x0 x4).f1⟩ : S73)]) (wrap64 (x4 + 1))) else (none)) else (none)) else (some x3)
def vellumlaw18_twinRuns.f (k : Nat) (l0 : List (S73)) : Option ((List (S73))) := vellumlaw18_twinRuns.l0 k l0 ([] : List (S73)) 0
theorem vellumlaw18_twinRuns.mono_l : ∀ k, (∀ y0 y1 y2, LeO (vellumlaw18_twinRuns.l0 k y0 y1 y2) (vellumlaw18_twinRuns.l0 (k + 1) y0 y1 y2))
  | 0 => fun _ _ _ r h => by simp [vellumlaw18_twinRuns.l0] at h
  | k + 1 => by
    have ih0 := vellumlaw18_twinRuns.mono_l k
    · intro y0 y1 y2
      unfold vellumlaw18_twinRuns.l0
      repeat' first
      | (with_reducible exact ih0 _ _ _)
      | (with_reducible exact LeO.refl _)
      | (with_reducible exact LeO.none _)
      | (with_reducible refine LeO.ite ?_ ?_)
      | (with_reducible refine LeO.bind ?_ (fun _ => ?_))
      | exact ih0 _ _ _
      | exact LeO.none _
      | refine LeO.ite ?_ ?_
      | refine LeO.bind ?_ (fun _ => ?_)
theorem vellumlaw18_twinRuns.mono : ∀ a0 k, LeO (vellumlaw18_twinRuns.f k a0) (vellumlaw18_twinRuns.f (k + 1) a0) := by
  intro a0 k
  have ih0 := vellumlaw18_twinRuns.mono_l k
  unfold vellumlaw18_twinRuns.f
  repeat' first
      | (with_reducible exact ih0 _ _ _)
      | (with_reducible exact LeO.refl _)
      | (with_reducible exact LeO.none _)
      | (with_reducible refine LeO.ite ?_ ?_)
      | (with_reducible refine LeO.bind ?_ (fun _ => ?_))
      | exact ih0 _ _ _
      | exact LeO.none _
      | refine LeO.ite ?_ ?_
      | refine LeO.bind ?_ (fun _ => ?_)
set_option maxHeartbeats 8000000 in
set_option maxRecDepth 100000 in
theorem vellumlaw18_twinRuns.calls (k : Nat) (A0 : Option Addr) (c0 : Nat) (l0 : List (S73)) (r : List (S73)) (w : World) (hr0 : Kd.C k73 w A0 l0.length l0) (hc0 : l0.length ≤ c0) (h : vellumlaw18_twinRuns.f k l0 = some r) :
    Calls Tryd.prog 38 #[.slice A0 l0.length c0] w fun e w' => ∃ v0_ : Value, e = .returned (v0_) ∧ Kd.R k73 73 w' w.heap.size (fun _ => True) v0_ r ∧ Below w.heap.size w w' := by
  have hu73 := Tryd.underlying73
  have HR0 := Aside0.mk hr0
  have HC0 := Aside0.mk hc0
  clear hr0 hc0
  have HB := Aside0.mk (Below.refl w.heap.size w)
  have H : (vellumlaw18_twinRuns.l0 k l0 ([] : List (S73)) 0) = some r := h
  clear h
  have H' := Aside0.mk H
  clear H
  go_enter Tryd.func38, Tryd.ntmps38
  go_wp2
  go_loopg [3, 4] k (fun kq v3 v4 w' => ∃ (x3_1 : List (S73)) (x4_1 : Int), v4 = .int .i64 x4_1 ∧ Aside0 (vellumlaw18_twinRuns.l0 kq l0 x3_1 x4_1 = some r) ∧ Aside0 (kq ≤ k) ∧ Aside0 (Kd.R k73 73 w' w.heap.size (fun _ => True) v3 x3_1) ∧ Aside0 (Below w.heap.size w w'))
  case atStart => exact ⟨(([] : List (S73))), (0), (by first | rfl | (simp; done) | (simp [*]; done)), H', ⟨Nat.le_refl _⟩, ⟨by first | exact Kd.R_nil _ _ _ _ _ | exact Kd.N_nil _ _ _ _ _ | exact Kd.V_nil _ _ _ _ _ | exact Kd.Q_nil _ _ _ _ _ | exact Kd.S_nil _ _ _ _ _⟩, ⟨by repeat (first | (with_reducible first | exact HB.out | apply below_alloc | apply pw_below_drewN | apply below_drew1) | exact HB.out)⟩⟩
  case round =>
    clear H'
    obtain ⟨x3_1, x4_1, rfl, HA, HK1, HO_3, HB⟩ := hrel
    cases gk with
    | zero => exact absurd HA.out (by simp [vellumlaw18_twinRuns.l0])
    | succ k1 =>
      have H := HA.out
      clear HA
      simp only [vellumlaw18_twinRuns.l0] at H
      by_cases c2 : x4_1 < (l0.length : Int)
      · rw [if_pos c2] at H
        have c2b0 : decide (x4_1 < (l0.length : Int)) = true := decide_eq_true c2
        clear c2
        by_cases c3 : 0 ≤ x4_1
        · rw [if_pos c3] at H
          have c3b0 : decide (0 ≤ x4_1) = true := decide_eq_true c3
          clear c3
          by_cases c4 : x3_1.length < 8796093022208
          · rw [if_pos c4] at H
            have LMc4 := Aside0.mk c4
            clear c4
            obtain ⟨y125, hy125⟩ : ∃ y_ : List (S73), y_ = (x3_1 ++ [(⟨(rd_T73 l0 x4_1).f0, (rd_T73 l0 x4_1).f1⟩ : S73)]) := ⟨_, rfl⟩
            replace H : (vellumlaw18_twinRuns.l0 k1 l0 y125 (wrap64 (x4_1 + 1))) = some r := by first | (rw [hy125]; with_reducible exact H) | (have H2_ := (Option.bind_some _ _).symm.trans H; rw [hy125]; with_reducible exact H2_) | (have H2_ := (Option.bind_some _ _).symm.trans H; with_reducible exact H2_) | with_reducible exact H | (rw [hy125]; exact H) | exact H
            have Ny125 := Aside0.mk hy125
            clear hy125
            have H' := Aside0.mk H
            clear H
            have p124 : 0 ≤ (x4_1 : Int) := of_decide_eq_true (by first | (with_reducible assumption) | assumption)
            have q124 : x4_1 < (l0.length : Int) := of_decide_eq_true (by first | (with_reducible assumption) | assumption)
            obtain ⟨ad124, e124, hx124_0, hx124_1⟩ := at_T73 HR0.out x4_1 p124 q124
            cases e124
            replace hx124_0 := (HB.out.cell (World.block_lt_of_cell? w _ hx124_0)).trans hx124_0
            replace hx124_1 := (HB.out.cell (World.block_lt_of_cell? w _ hx124_1)).trans hx124_1
            replace p124 := eq_true p124
            replace q124 := eq_true q124
            go_wp2_with (first | ((with_reducible refine gate_builtin (b := .append) (xs := #[.tmp 11, .tmp 16]) rfl ?_); at_builtin; refine Kd.R_append k73 (w0 := w) w.heap.size rfl (.tmp 11) (.tmp 16) 24 73 (.agg #[(.int .i64 0), (.int .i64 0)]) 16 rfl Tryd.underlying24 info73 rfl (by decide) (by omega) u3 x3_1 (⟨(rd_T73 l0 x4_1).f0, (rd_T73 l0 x4_1).f1⟩ : S73) [.int .i64 ((rd_T73 l0 x4_1).f0), .int .i64 ((rd_T73 l0 x4_1).f1)] (fun _ => True) (fun _ => False) rfl rfl ?aP (fun _ hk => hk.elim) ?aF ?aO ?aB ?aS ?aL ?_; (case aP => exact k73_mkM _ _ _ (⟨(rd_T73 l0 x4_1).f0, (rd_T73 l0 x4_1).f1⟩ : S73)); (case aB => exact (by repeat (first | (with_reducible first | exact HB.out | apply below_alloc | apply pw_below_drewN | apply below_drew1) | exact HB.out))); (case aF => exact (fun _ _ => trivial)); (case aO => exact (by (with_reducible repeat (first | apply Kd.R_alloc | apply Kd.R_drewN | apply Kd.R_drew)); exact HO_3.out)); (case aS => exact (below_size (by repeat (first | (with_reducible first | exact HB.out | apply below_alloc | apply pw_below_drewN | apply below_drew1) | exact HB.out)))); (case aL => have := LMc4.out; omega); intro v126 w5 ho hb hg hat; rw [← Ny125.out] at ho; have n0_ := Aside0.mk (hb); have n1_ := Aside0.mk (ho); clear HB; clear HO_3; have HB := n0_; have HO127 := n1_; clear n0_ n1_; clear ho hb hg hat))
            go_roundg k1
            case measure => have := HK1.out; omega
            case rel => exact ⟨(y125), (wrap64 (x4_1 + 1)), (by first | rfl | (simp; done) | (simp [*]; done)), H', ⟨by have := HK1.out; omega⟩, ⟨by (with_reducible repeat (first | apply Kd.R_alloc | apply Kd.R_drewN | apply Kd.R_drew)); exact HO127.out⟩, ⟨by repeat (first | (with_reducible first | exact HB.out | apply below_alloc | apply pw_below_drewN | apply below_drew1) | exact HB.out)⟩⟩
          · rw [if_neg c4] at H
            exact absurd H (by simp)
        · rw [if_neg c3] at H
          exact absurd H (by simp)
      · rw [if_neg c2] at H
        have c2b0 : decide (x4_1 < (l0.length : Int)) = false := decide_eq_false c2
        clear c2
        obtain rfl := Option.some.inj H
        go_wp2
        go_ret
        exact ⟨_, by first | rfl | (simp [errW_none, errW_some] <;> rfl) | (simp [*, errW_none, errW_some] <;> rfl), by (with_reducible repeat (first | apply Kd.R_alloc | apply Kd.R_drewN | apply Kd.R_drew)); exact HO_3.out, by repeat (first | (with_reducible first | exact HB.out | apply below_alloc | apply pw_below_drewN | apply below_drew1) | exact HB.out)⟩
end Go.Proofs.YtkfikinjlbbibaaDoor.PT
