/- Packed by this session's own program (wip/tools/pack.py): what the claim needs of its texts. -/
import Derived.Test.YtkfikinjlbbibaaDoorUPTx0
import Derived.Test.YtkfikinjlbbibaaDoorUSameG
namespace Go.Proofs.YtkfikinjlbbibaaDoor.PT
open Go.RowKit Go.Proofs.YtkfikinjlbbibaaDoorW.PrintWords Go.Proofs.YtkfikinjlbbibaaDoorW.PrintLast Go.Proofs.YtkfikinjlbbibaaDoorW.PrintMore
attribute [local go_sem] max2_int min2_int max_two min_two max_three min_three max_four min_four
set_option linter.unusedVariables false
set_option linter.unusedSimpArgs false
def vellumlaw18_sameItem.f (a0_0 : Int) (a0_1 : ByteArray) (a0_2 : ByteArray) (a0_3 : Int) (l0_4 : List (S73)) (l0_5 : List Int) (a1_0 : Int) (a1_1 : ByteArray) (a1_2 : ByteArray) (a1_3 : Int) (l1_4 : List (S73)) (l1_5 : List Int) : Option (Bool) := if a0_1.toList = a1_1.toList then ((vellumref18_Same.f a0_0 a0_1 a0_2 a0_3 l0_4 l0_5 a1_0 a1_1 a1_2 a1_3 l1_4 l1_5).bind fun t160 => (some t160)) else (some false)
set_option maxHeartbeats 8000000 in
set_option maxRecDepth 100000 in
theorem vellumlaw18_sameItem.calls (a0_0 : Int) (a0_1 : ByteArray) (a0_2 : ByteArray) (a0_3 : Int) (A0_4 : Option Addr) (c0_4 : Nat) (l0_4 : List (S73)) (A0_5 : Option Addr) (c0_5 : Nat) (l0_5 : List Int) (a1_0 : Int) (a1_1 : ByteArray) (a1_2 : ByteArray) (a1_3 : Int) (A1_4 : Option Addr) (c1_4 : Nat) (l1_4 : List (S73)) (A1_5 : Option Addr) (c1_5 : Nat) (l1_5 : List Int) (r : Bool) (w : World) (hr0_4 : Kd.C k73 w A0_4 l0_4.length l0_4) (hc0_4 : l0_4.length ≤ c0_4) (hr0_5 : Kd.C (Kd.int .u8) w A0_5 l0_5.length l0_5) (hc0_5 : l0_5.length ≤ c0_5) (hr1_4 : Kd.C k73 w A1_4 l1_4.length l1_4) (hc1_4 : l1_4.length ≤ c1_4) (hr1_5 : Kd.C (Kd.int .u8) w A1_5 l1_5.length l1_5) (hc1_5 : l1_5.length ≤ c1_5) (h : vellumlaw18_sameItem.f a0_0 a0_1 a0_2 a0_3 l0_4 l0_5 a1_0 a1_1 a1_2 a1_3 l1_4 l1_5 = some r) :
    Calls Tryd.prog 15 #[.agg #[.int .i64 a0_0, .string a0_1, .string a0_2, .int .i64 a0_3, .slice A0_4 l0_4.length c0_4, .slice A0_5 l0_5.length c0_5], .agg #[.int .i64 a1_0, .string a1_1, .string a1_2, .int .i64 a1_3, .slice A1_4 l1_4.length c1_4, .slice A1_5 l1_5.length c1_5]] w fun e w' => e = .returned (.bool r) ∧ Below w.heap.size w w' := by
  have hu27 := Tryd.underlying27
  have HR0_4 := Aside0.mk hr0_4
  have HC0_4 := Aside0.mk hc0_4
  clear hr0_4 hc0_4
  have HR0_5 := Aside0.mk hr0_5
  have HC0_5 := Aside0.mk hc0_5
  clear hr0_5 hc0_5
  have HR1_4 := Aside0.mk hr1_4
  have HC1_4 := Aside0.mk hc1_4
  clear hr1_4 hc1_4
  have HR1_5 := Aside0.mk hr1_5
  have HC1_5 := Aside0.mk hc1_5
  clear hr1_5 hc1_5
  have HB := Aside0.mk (Below.refl w.heap.size w)
  have H : (if a0_1.toList = a1_1.toList then ((vellumref18_Same.f a0_0 a0_1 a0_2 a0_3 l0_4 l0_5 a1_0 a1_1 a1_2 a1_3 l1_4 l1_5).bind fun t160 => (some t160)) else (some false)) = some r := h
  clear h
  by_cases c3 : a0_1.toList = a1_1.toList
  · rw [if_pos c3] at H
    have c3b0 : (a0_1.toList == a1_1.toList) = true := beq_iff_eq.mpr c3
    have c3b1 : (a0_1.toList != a1_1.toList) = false := bne_eq_false_iff_eq.mpr c3
    clear c3
    replace H := Option.bind_eq_some_iff.mp H
    obtain ⟨t160, A40, H⟩ := H
    replace H : (some t160) = some r := H
    have A4 := Aside0.mk A40
    clear A40
    obtain rfl := Option.some.inj H
    go_enter Tryd.func15, Tryd.ntmps15
    go_wp2_with (first | ((with_reducible refine gate_dst (N := 2) rfl ?_); refine box_event ?hg (N := 2) ?hd (cs := #[.int .i64 a0_0, .string a0_1, .string a0_2, .int .i64 a0_3, .slice A0_4 l0_4.length c0_4, .slice A0_5 l0_5.length c0_5]) (t := 27) ?hr ?_; (case hd => rfl); (case hg => rfl); (case hr => first | (go_simp; done) | (go_simp; rfl)); intro gb158 hg w5 hbox hb; have n0_ := Aside0.mk (below_step (by repeat (first | (with_reducible first | exact HB.out | apply below_alloc | apply pw_below_drewN | apply below_drew1) | exact HB.out)) hb); have n1_ := Aside0.mk (hbox); have n2_ := Aside0.mk ((by rw [hg]; exact (below_size (by repeat (first | (with_reducible first | exact HB.out | apply below_alloc | apply pw_below_drewN | apply below_drew1) | exact HB.out))) : w.heap.size ≤ gb158)); have n3_ := Aside0.mk ((by rw [hg]; exact (below_size (by repeat (first | (with_reducible first | exact HB.out | apply below_alloc | apply pw_below_drewN | apply below_drew1) | exact HB.out))) : w.heap.size ≤ gb158)); clear HB; have HB := n0_; have BK158 := n1_; have GW158 := n2_; have GE158 := n3_; clear n0_ n1_ n2_ n3_; clear hb hbox hg) | ((with_reducible refine gate_dst (N := 3) rfl ?_); refine box_event ?hg (N := 3) ?hd (cs := #[.int .i64 a1_0, .string a1_1, .string a1_2, .int .i64 a1_3, .slice A1_4 l1_4.length c1_4, .slice A1_5 l1_5.length c1_5]) (t := 27) ?hr ?_; (case hd => rfl); (case hg => rfl); (case hr => first | (go_simp; done) | (go_simp; rfl)); intro gb159 hg w6 hbox hb; have n0_ := Aside0.mk (blk_below (g := gb158) (o := .cells #[.int .i64 a0_0, .string a0_1, .string a0_2, .int .i64 a0_3, .slice A0_4 l0_4.length c0_4, .slice A0_5 l0_5.length c0_5] 27 (0, 0)) (by (with_reducible repeat (first | refine blk_drewN ?_ _ | refine blk_drew ?_ | refine blk_alloc ?_ _)); exact BK158.out) hb); have n1_ := Aside0.mk (below_step (by repeat (first | (with_reducible first | exact HB.out | apply below_alloc | apply pw_below_drewN | apply below_drew1 | refine below_set ?_ GE158.out) | exact HB.out)) hb); have n2_ := Aside0.mk (hbox); have n3_ := Aside0.mk ((by rw [hg]; exact (below_size (by repeat (first | (with_reducible first | exact HB.out | apply below_alloc | apply pw_below_drewN | apply below_drew1 | refine below_set ?_ GE158.out) | exact HB.out))) : w.heap.size ≤ gb159)); have n4_ := Aside0.mk ((by rw [hg]; exact (below_size (by repeat (first | (with_reducible first | exact HB.out | apply below_alloc | apply pw_below_drewN | apply below_drew1 | refine below_set ?_ GE158.out) | exact HB.out))) : w.heap.size ≤ gb159)); have n5_ := Aside0.mk ((by rw [hg]; exact Nat.ne_of_lt (blk_lt (g := gb158) (o := .cells #[.int .i64 a0_0, .string a0_1, .string a0_2, .int .i64 a0_3, .slice A0_4 l0_4.length c0_4, .slice A0_5 l0_5.length c0_5] 27 (0, 0)) (by (with_reducible repeat (first | refine blk_drewN ?_ _ | refine blk_drew ?_ | refine blk_alloc ?_ _)); exact BK158.out)) : gb158 ≠ gb159)); have n6_ := Aside0.mk ((by rw [hg]; exact Nat.ne_of_gt (blk_lt (g := gb158) (o := .cells #[.int .i64 a0_0, .string a0_1, .string a0_2, .int .i64 a0_3, .slice A0_4 l0_4.length c0_4, .slice A0_5 l0_5.length c0_5] 27 (0, 0)) (by (with_reducible repeat (first | refine blk_drewN ?_ _ | refine blk_drew ?_ | refine blk_alloc ?_ _)); exact BK158.out)) : gb159 ≠ gb158)); clear BK158; clear HB; have BK158 := n0_; have HB := n1_; have BK159 := n2_; have GW159 := n3_; have GE159 := n4_; have NB158_159 := n5_; have NB159_158 := n6_; clear n0_ n1_ n2_ n3_ n4_ n5_ n6_; clear hb hbox hg; have hnb7 := NB158_159.out; have hnc7 := NB159_158.out; have hcz8_0 : w6.cell? ⟨gb158, 0, none⟩ = some (.int .i64 a0_0) := (blk_cell BK158.out 0).trans rfl; have hcz8_1 : w6.cell? ⟨gb158, 1, none⟩ = some (.string a0_1) := (blk_cell BK158.out 1).trans rfl; have hcz8_2 : w6.cell? ⟨gb158, 2, none⟩ = some (.string a0_2) := (blk_cell BK158.out 2).trans rfl; have hcz8_3 : w6.cell? ⟨gb158, 3, none⟩ = some (.int .i64 a0_3) := (blk_cell BK158.out 3).trans rfl; have hcz8_4 : w6.cell? ⟨gb158, 4, none⟩ = some (.slice A0_4 l0_4.length c0_4) := (blk_cell BK158.out 4).trans rfl; have hcz8_5 : w6.cell? ⟨gb158, 5, none⟩ = some (.slice A0_5 l0_5.length c0_5) := (blk_cell BK158.out 5).trans rfl; have hfz8_0 := blk_frozen BK158.out 0; have hfz8_1 := blk_frozen BK158.out 1; have hfz8_2 := blk_frozen BK158.out 2; have hfz8_3 := blk_frozen BK158.out 3; have hfz8_4 := blk_frozen BK158.out 4; have hfz8_5 := blk_frozen BK158.out 5; have hcz9_0 : w6.cell? ⟨gb159, 0, none⟩ = some (.int .i64 a1_0) := (blk_cell BK159.out 0).trans rfl; have hcz9_1 : w6.cell? ⟨gb159, 1, none⟩ = some (.string a1_1) := (blk_cell BK159.out 1).trans rfl; have hcz9_2 : w6.cell? ⟨gb159, 2, none⟩ = some (.string a1_2) := (blk_cell BK159.out 2).trans rfl; have hcz9_3 : w6.cell? ⟨gb159, 3, none⟩ = some (.int .i64 a1_3) := (blk_cell BK159.out 3).trans rfl; have hcz9_4 : w6.cell? ⟨gb159, 4, none⟩ = some (.slice A1_4 l1_4.length c1_4) := (blk_cell BK159.out 4).trans rfl; have hcz9_5 : w6.cell? ⟨gb159, 5, none⟩ = some (.slice A1_5 l1_5.length c1_5) := (blk_cell BK159.out 5).trans rfl; have hfz9_0 := blk_frozen BK159.out 0; have hfz9_1 := blk_frozen BK159.out 1; have hfz9_2 := blk_frozen BK159.out 2; have hfz9_3 := blk_frozen BK159.out 3; have hfz9_4 := blk_frozen BK159.out 4; have hfz9_5 := blk_frozen BK159.out 5) | (go_at_call 16; (with_reducible refine (vellumref18_Same.calls a0_0 a0_1 a0_2 a0_3 _ _ l0_4 _ _ l0_5 a1_0 a1_1 a1_2 a1_3 _ _ l1_4 _ _ l1_5 t160 _ ?side1 ?side2 ?side3 ?side4 ?side5 ?side6 ?side7 ?side8 A4.out).mono ?_); (case side1 => repeat (first | exact (Kd.C_below HR0_4.out HB.out) | (with_reducible refine Kd.C_alloc ?_ _) | (with_reducible refine Kd.C_drewN ?_ _) | (with_reducible refine Kd.C_drew ?_))); (case side2 => exact HC0_4.out); (case side3 => repeat (first | exact (Kd.C_below HR0_5.out HB.out) | (with_reducible refine Kd.C_alloc ?_ _) | (with_reducible refine Kd.C_drewN ?_ _) | (with_reducible refine Kd.C_drew ?_))); (case side4 => exact HC0_5.out); (case side5 => repeat (first | exact (Kd.C_below HR1_4.out HB.out) | (with_reducible refine Kd.C_alloc ?_ _) | (with_reducible refine Kd.C_drewN ?_ _) | (with_reducible refine Kd.C_drew ?_))); (case side6 => exact HC1_4.out); (case side7 => repeat (first | exact (Kd.C_below HR1_5.out HB.out) | (with_reducible refine Kd.C_alloc ?_ _) | (with_reducible refine Kd.C_drewN ?_ _) | (with_reducible refine Kd.C_drew ?_))); (case side8 => exact HC1_5.out); rintro e w10 ⟨rfl, hb⟩; have n0_ := Aside0.mk (blk_below (g := gb158) (o := .cells #[.int .i64 a0_0, .string a0_1, .string a0_2, .int .i64 a0_3, .slice A0_4 l0_4.length c0_4, .slice A0_5 l0_5.length c0_5] 27 (0, 0)) (by (with_reducible repeat (first | refine blk_drewN ?_ _ | refine blk_drew ?_ | refine blk_alloc ?_ _)); exact BK158.out) hb); have n1_ := Aside0.mk (blk_below (g := gb159) (o := .cells #[.int .i64 a1_0, .string a1_1, .string a1_2, .int .i64 a1_3, .slice A1_4 l1_4.length c1_4, .slice A1_5 l1_5.length c1_5] 27 (0, 0)) (by (with_reducible repeat (first | refine blk_drewN ?_ _ | refine blk_drew ?_ | refine blk_alloc ?_ _)); exact BK159.out) hb); have n2_ := Aside0.mk (below_step (by repeat (first | (with_reducible first | exact HB.out | apply below_alloc | apply pw_below_drewN | apply below_drew1 | refine below_set ?_ GE158.out | refine below_set ?_ GE159.out) | exact HB.out)) hb); clear BK158; clear BK159; clear HB; have BK158 := n0_; have BK159 := n1_; have HB := n2_; clear n0_ n1_ n2_; (try clear hb); (try clear hb2); (try clear hk); (try clear hi)))
    go_ret
    exact ⟨by first | rfl | (simp [errW_none, errW_some] <;> rfl) | (simp [*, errW_none, errW_some] <;> rfl), by repeat (first | (with_reducible first | exact HB.out | apply below_alloc | apply pw_below_drewN | apply below_drew1 | refine below_set ?_ GE158.out | refine below_set ?_ GE159.out) | exact HB.out)⟩
  · rw [if_neg c3] at H
    have c3b0 : (a0_1.toList == a1_1.toList) = false := beq_eq_false_iff_ne.mpr c3
    have c3b1 : (a0_1.toList != a1_1.toList) = true := bne_iff_ne.mpr c3
    obtain rfl := Option.some.inj H
    go_enter Tryd.func15, Tryd.ntmps15
    go_wp2_with (first | ((with_reducible refine gate_dst (N := 2) rfl ?_); refine box_event ?hg (N := 2) ?hd (cs := #[.int .i64 a0_0, .string a0_1, .string a0_2, .int .i64 a0_3, .slice A0_4 l0_4.length c0_4, .slice A0_5 l0_5.length c0_5]) (t := 27) ?hr ?_; (case hd => rfl); (case hg => rfl); (case hr => first | (go_simp; done) | (go_simp; rfl)); intro gb158 hg w11 hbox hb; have n0_ := Aside0.mk (below_step (by repeat (first | (with_reducible first | exact HB.out | apply below_alloc | apply pw_below_drewN | apply below_drew1) | exact HB.out)) hb); have n1_ := Aside0.mk (hbox); have n2_ := Aside0.mk ((by rw [hg]; exact (below_size (by repeat (first | (with_reducible first | exact HB.out | apply below_alloc | apply pw_below_drewN | apply below_drew1) | exact HB.out))) : w.heap.size ≤ gb158)); have n3_ := Aside0.mk ((by rw [hg]; exact (below_size (by repeat (first | (with_reducible first | exact HB.out | apply below_alloc | apply pw_below_drewN | apply below_drew1) | exact HB.out))) : w.heap.size ≤ gb158)); clear HB; have HB := n0_; have BK158 := n1_; have GW158 := n2_; have GE158 := n3_; clear n0_ n1_ n2_ n3_; clear hb hbox hg) | ((with_reducible refine gate_dst (N := 3) rfl ?_); refine box_event ?hg (N := 3) ?hd (cs := #[.int .i64 a1_0, .string a1_1, .string a1_2, .int .i64 a1_3, .slice A1_4 l1_4.length c1_4, .slice A1_5 l1_5.length c1_5]) (t := 27) ?hr ?_; (case hd => rfl); (case hg => rfl); (case hr => first | (go_simp; done) | (go_simp; rfl)); intro gb159 hg w12 hbox hb; have n0_ := Aside0.mk (blk_below (g := gb158) (o := .cells #[.int .i64 a0_0, .string a0_1, .string a0_2, .int .i64 a0_3, .slice A0_4 l0_4.length c0_4, .slice A0_5 l0_5.length c0_5] 27 (0, 0)) (by (with_reducible repeat (first | refine blk_drewN ?_ _ | refine blk_drew ?_ | refine blk_alloc ?_ _)); exact BK158.out) hb); have n1_ := Aside0.mk (below_step (by repeat (first | (with_reducible first | exact HB.out | apply below_alloc | apply pw_below_drewN | apply below_drew1 | refine below_set ?_ GE158.out) | exact HB.out)) hb); have n2_ := Aside0.mk (hbox); have n3_ := Aside0.mk ((by rw [hg]; exact (below_size (by repeat (first | (with_reducible first | exact HB.out | apply below_alloc | apply pw_below_drewN | apply below_drew1 | refine below_set ?_ GE158.out) | exact HB.out))) : w.heap.size ≤ gb159)); have n4_ := Aside0.mk ((by rw [hg]; exact (below_size (by repeat (first | (with_reducible first | exact HB.out | apply below_alloc | apply pw_below_drewN | apply below_drew1 | refine below_set ?_ GE158.out) | exact HB.out))) : w.heap.size ≤ gb159)); have n5_ := Aside0.mk ((by rw [hg]; exact Nat.ne_of_lt (blk_lt (g := gb158) (o := .cells #[.int .i64 a0_0, .string a0_1, .string a0_2, .int .i64 a0_3, .slice A0_4 l0_4.length c0_4, .slice A0_5 l0_5.length c0_5] 27 (0, 0)) (by (with_reducible repeat (first | refine blk_drewN ?_ _ | refine blk_drew ?_ | refine blk_alloc ?_ _)); exact BK158.out)) : gb158 ≠ gb159)); have n6_ := Aside0.mk ((by rw [hg]; exact Nat.ne_of_gt (blk_lt (g := gb158) (o := .cells #[.int .i64 a0_0, .string a0_1, .string a0_2, .int .i64 a0_3, .slice A0_4 l0_4.length c0_4, .slice A0_5 l0_5.length c0_5] 27 (0, 0)) (by (with_reducible repeat (first | refine blk_drewN ?_ _ | refine blk_drew ?_ | refine blk_alloc ?_ _)); exact BK158.out)) : gb159 ≠ gb158)); clear BK158; clear HB; have BK158 := n0_; have HB := n1_; have BK159 := n2_; have GW159 := n3_; have GE159 := n4_; have NB158_159 := n5_; have NB159_158 := n6_; clear n0_ n1_ n2_ n3_ n4_ n5_ n6_; clear hb hbox hg; have hnb13 := NB158_159.out; have hnc13 := NB159_158.out; have hcz14_0 : w12.cell? ⟨gb158, 0, none⟩ = some (.int .i64 a0_0) := (blk_cell BK158.out 0).trans rfl; have hcz14_1 : w12.cell? ⟨gb158, 1, none⟩ = some (.string a0_1) := (blk_cell BK158.out 1).trans rfl; have hcz14_2 : w12.cell? ⟨gb158, 2, none⟩ = some (.string a0_2) := (blk_cell BK158.out 2).trans rfl; have hcz14_3 : w12.cell? ⟨gb158, 3, none⟩ = some (.int .i64 a0_3) := (blk_cell BK158.out 3).trans rfl; have hcz14_4 : w12.cell? ⟨gb158, 4, none⟩ = some (.slice A0_4 l0_4.length c0_4) := (blk_cell BK158.out 4).trans rfl; have hcz14_5 : w12.cell? ⟨gb158, 5, none⟩ = some (.slice A0_5 l0_5.length c0_5) := (blk_cell BK158.out 5).trans rfl; have hfz14_0 := blk_frozen BK158.out 0; have hfz14_1 := blk_frozen BK158.out 1; have hfz14_2 := blk_frozen BK158.out 2; have hfz14_3 := blk_frozen BK158.out 3; have hfz14_4 := blk_frozen BK158.out 4; have hfz14_5 := blk_frozen BK158.out 5; have hcz15_0 : w12.cell? ⟨gb159, 0, none⟩ = some (.int .i64 a1_0) := (blk_cell BK159.out 0).trans rfl; have hcz15_1 : w12.cell? ⟨gb159, 1, none⟩ = some (.string a1_1) := (blk_cell BK159.out 1).trans rfl; have hcz15_2 : w12.cell? ⟨gb159, 2, none⟩ = some (.string a1_2) := (blk_cell BK159.out 2).trans rfl; have hcz15_3 : w12.cell? ⟨gb159, 3, none⟩ = some (.int .i64 a1_3) := (blk_cell BK159.out 3).trans rfl; have hcz15_4 : w12.cell? ⟨gb159, 4, none⟩ = some (.slice A1_4 l1_4.length c1_4) := (blk_cell BK159.out 4).trans rfl; have hcz15_5 : w12.cell? ⟨gb159, 5, none⟩ = some (.slice A1_5 l1_5.length c1_5) := (blk_cell BK159.out 5).trans rfl; have hfz15_0 := blk_frozen BK159.out 0; have hfz15_1 := blk_frozen BK159.out 1; have hfz15_2 := blk_frozen BK159.out 2; have hfz15_3 := blk_frozen BK159.out 3; have hfz15_4 := blk_frozen BK159.out 4; have hfz15_5 := blk_frozen BK159.out 5))
    go_ret
    exact ⟨by first | rfl | (simp [errW_none, errW_some] <;> rfl) | (simp [*, errW_none, errW_some] <;> rfl), by repeat (first | (with_reducible first | exact HB.out | apply below_alloc | apply pw_below_drewN | apply below_drew1 | refine below_set ?_ GE158.out | refine below_set ?_ GE159.out) | exact HB.out)⟩
def vellumlaw18_sameItems.l0 : Nat → List (S27) → List (S27) → Int → Option (Bool)
  | 0, _, _, _ => none
  | k + 1, x0, x1, x5 => if x5 < (x0.length : Int) then (if 0 ≤ x5 then (if x5 < (x1.length : Int) then ((vellumlaw18_sameItem.f ((rd_T27 x0 x5).f0) ((rd_T27 x0 x5).f1) ((rd_T27 x0 x5).f2) ((rd_T27 x0 x5).f3) ((rd_T27 x0 x5).f4) ((rd_T27 x0 x5).f5) ((rd_T27 x1 x5).f0) ((rd_T27 x1 x5).f1) ((rd_T27 x1 x5).f2) ((rd_T27 x1 x5).f3) ((rd_T27 x1 x5).f4) ((rd_T27 x1 x5).f5)).bind fun t163 => (if t163 = true then (vellumlaw18_sameItems.l0 k x0 x1 (wrap64 (x5 + 1))) else (some false))) else (none)) else (none)) else (some true)
def vellumlaw18_sameItems.f (k : Nat) (l0 : List (S27)) (l1 : List (S27)) : Option (Bool) := if (l0.length : Int) = (l1.length : Int) then (vellumlaw18_sameItems.l0 k l0 l1 0) else (some false)
theorem vellumlaw18_sameItems.mono_l : ∀ k, (∀ y0 y1 y2, LeO (vellumlaw18_sameItems.l0 k y0 y1 y2) (vellumlaw18_sameItems.l0 (k + 1) y0 y1 y2))
  | 0 => fun _ _ _ r h => by simp [vellumlaw18_sameItems.l0] at h
  | k + 1 => by
    have ih0 := vellumlaw18_sameItems.mono_l k
    · intro y0 y1 y2
      unfold vellumlaw18_sameItems.l0
      repeat' first
      | (with_reducible exact ih0 _ _ _)
      | (with_reducible exact LeO.refl _)
      | (with_reducible exact LeO.none _)
      | (with_reducible refine LeO.ite ?_ ?_)
      | (with_reducible refine LeO.bind ?_ (fun _ => ?_))
      | exact ih0 _ _ _
      | exact LeO.none _
      | refine LeO.ite ?_ ?_
      | refine LeO.bind ?_ (fun _ => ?_)
theorem vellumlaw18_sameItems.mono : ∀ a0 a1 k, LeO (vellumlaw18_sameItems.f k a0 a1) (vellumlaw18_sameItems.f (k + 1) a0 a1) := by
  intro a0 a1 k
  have ih0 := vellumlaw18_sameItems.mono_l k
  unfold vellumlaw18_sameItems.f
  repeat' first
      | (with_reducible exact ih0 _ _ _)
      | (with_reducible exact LeO.refl _)
      | (with_reducible exact LeO.none _)
      | (with_reducible refine LeO.ite ?_ ?_)
      | (with_reducible refine LeO.bind ?_ (fun _ => ?_))
      | exact ih0 _ _ _
      | exact LeO.none _
      | refine LeO.ite ?_ ?_
      | refine LeO.bind ?_ (fun _ => ?_)
def vellumlaw18_sameItems.T6 : Bool × List (List Nat × List Nat) := (true, [([], []), ([], []), ([0, 1], [0, 1]), ([2], [2]), ([], []), ([], []), ([4, 5], [4, 5]), ([6], [6]), ([3, 7], [3, 7]), ([8], [8])])
def vellumlaw18_sameItems.B6 : List Nat := [0, 0, 3, 7, 0, 0, 48, 112, 255, 511]
theorem vellumlaw18_sameItems.tab6 : rtab .any (opsOf Tryd.f12 6) = vellumlaw18_sameItems.T6 := by kernel_rfl
theorem vellumlaw18_sameItems.bits6 : waitsOk vellumlaw18_sameItems.T6.2 vellumlaw18_sameItems.B6 = true := by kernel_rfl
set_option maxHeartbeats 8000000 in
set_option maxRecDepth 100000 in
theorem vellumlaw18_sameItems.calls (k : Nat) (A0 : Option Addr) (c0 : Nat) (l0 : List (S27)) (A1 : Option Addr) (c1 : Nat) (l1 : List (S27)) (r : Bool) (w : World) (hr0 : Kd.C k27 w A0 l0.length l0) (hc0 : l0.length ≤ c0) (hr1 : Kd.C k27 w A1 l1.length l1) (hc1 : l1.length ≤ c1) (h : vellumlaw18_sameItems.f k l0 l1 = some r) :
    Calls Tryd.prog 12 #[.slice A0 l0.length c0, .slice A1 l1.length c1] w fun e w' => e = .returned (.bool r) ∧ Below w.heap.size w w' := by
  have hu27 := Tryd.underlying27
  have HR0 := Aside0.mk hr0
  have HC0 := Aside0.mk hc0
  clear hr0 hc0
  have HR1 := Aside0.mk hr1
  have HC1 := Aside0.mk hc1
  clear hr1 hc1
  have HB := Aside0.mk (Below.refl w.heap.size w)
  have H : (if (l0.length : Int) = (l1.length : Int) then (vellumlaw18_sameItems.l0 k l0 l1 0) else (some false)) = some r := h
  clear h
  by_cases c3 : (l0.length : Int) = (l1.length : Int)
  · rw [if_pos c3] at H
    have c3b0 : ((l0.length : Int) == (l1.length : Int)) = true := beq_iff_eq.mpr c3
    have c3b1 : ((l0.length : Int) != (l1.length : Int)) = false := bne_eq_false_iff_eq.mpr c3
    have c3b2 : (l0.length == l1.length) = true := by first | simpa using c3 | (simp at c3 ⊢; omega)
    clear c3
    have H' := Aside0.mk H
    clear H
    go_enter Tryd.func12, Tryd.ntmps12
    go_wp2
    go_loopg [5] k (fun kq v5 w' => ∃ (x5_1 : Int), v5 = .int .i64 x5_1 ∧ Aside0 (vellumlaw18_sameItems.l0 kq l0 l1 x5_1 = some r) ∧ Aside0 (kq ≤ k) ∧ Aside0 (Below w.heap.size w w'))
    case atStart => exact ⟨(0), (by first | rfl | (simp; done) | (simp [*]; done)), H', ⟨Nat.le_refl _⟩, ⟨by repeat (first | (with_reducible first | exact HB.out | apply below_alloc | apply pw_below_drewN | apply below_drew1) | exact HB.out)⟩⟩
    case round =>
      clear H'
      try clear c1
      try clear p2
      try clear c3
      try clear c3b0
      try clear c3b1
      try clear c3b2
      obtain ⟨x5_1, rfl, HA, HK1, HB⟩ := hrel
      cases gk with
      | zero => exact absurd HA.out (by simp [vellumlaw18_sameItems.l0])
      | succ k1 =>
        have H := HA.out
        clear HA
        simp only [vellumlaw18_sameItems.l0] at H
        by_cases c4 : x5_1 < (l0.length : Int)
        · rw [if_pos c4] at H
          have c4b0 : decide (x5_1 < (l0.length : Int)) = true := decide_eq_true c4
          clear c4
          by_cases c5 : 0 ≤ x5_1
          · rw [if_pos c5] at H
            have c5b0 : decide (0 ≤ x5_1) = true := decide_eq_true c5
            clear c5
            by_cases c6 : x5_1 < (l1.length : Int)
            · rw [if_pos c6] at H
              have c6b0 : decide (x5_1 < (l1.length : Int)) = true := decide_eq_true c6
              clear c6
              replace H := Option.bind_eq_some_iff.mp H
              obtain ⟨t163, A70, H⟩ := H
              replace H : (if t163 = true then (vellumlaw18_sameItems.l0 k1 l0 l1 (wrap64 (x5_1 + 1))) else (some false)) = some r := H
              have A7 := Aside0.mk A70
              clear A70
              by_cases c8 : t163 = true
              · subst c8
                have H1 : (vellumlaw18_sameItems.l0 k1 l0 l1 (wrap64 (x5_1 + 1))) = some r := by rw [if_pos rfl] at H; exact H
                clear H
                have H := H1
                clear H1
                have H' := Aside0.mk H
                clear H
                try go_wp2
                have n0_ := Aside0.mk (below_drew1 HB.out)
                clear HB
                have HB := n0_
                clear n0_
                have p161 : 0 ≤ (x5_1 : Int) := of_decide_eq_true (by first | (with_reducible assumption) | assumption)
                have q161 : x5_1 < (l0.length : Int) := of_decide_eq_true (by first | (with_reducible assumption) | assumption)
                obtain ⟨ad161, A161_4, c161_4, A161_5, c161_5, e161, hx161_0, hx161_1, hx161_2, hx161_3, hx161_4, hx161_5, hl161_4, hi161_4, hl161_5, hi161_5⟩ := at_T27 HR0.out x5_1 p161 q161
                have hw161_5 := hx161_5
                have hw161_4 := hx161_4
                have hw161_3 := hx161_3
                have hw161_2 := hx161_2
                have hw161_1 := hx161_1
                have hw161_0 := hx161_0
                cases e161
                replace hx161_0 := (HB.out.cell (World.block_lt_of_cell? w _ hx161_0)).trans hx161_0
                replace hx161_1 := (HB.out.cell (World.block_lt_of_cell? w _ hx161_1)).trans hx161_1
                replace hx161_2 := (HB.out.cell (World.block_lt_of_cell? w _ hx161_2)).trans hx161_2
                replace hx161_3 := (HB.out.cell (World.block_lt_of_cell? w _ hx161_3)).trans hx161_3
                replace hx161_4 := (HB.out.cell (World.block_lt_of_cell? w _ hx161_4)).trans hx161_4
                replace hx161_5 := (HB.out.cell (World.block_lt_of_cell? w _ hx161_5)).trans hx161_5
                have HR161_4 := Aside0.mk hi161_4
                have HC161_4 := Aside0.mk hl161_4
                clear hi161_4 hl161_4
                have HR161_5 := Aside0.mk hi161_5
                have HC161_5 := Aside0.mk hl161_5
                clear hi161_5 hl161_5
                replace p161 := eq_true p161
                replace q161 := eq_true q161
                have p162 : 0 ≤ (x5_1 : Int) := of_decide_eq_true (by first | (with_reducible assumption) | assumption)
                have q162 : x5_1 < (l1.length : Int) := of_decide_eq_true (by first | (with_reducible assumption) | assumption)
                obtain ⟨ad162, A162_4, c162_4, A162_5, c162_5, e162, hx162_0, hx162_1, hx162_2, hx162_3, hx162_4, hx162_5, hl162_4, hi162_4, hl162_5, hi162_5⟩ := at_T27 HR1.out x5_1 p162 q162
                have hw162_5 := hx162_5
                have hw162_4 := hx162_4
                have hw162_3 := hx162_3
                have hw162_2 := hx162_2
                have hw162_1 := hx162_1
                have hw162_0 := hx162_0
                cases e162
                replace hx162_0 := (HB.out.cell (World.block_lt_of_cell? w _ hx162_0)).trans hx162_0
                replace hx162_1 := (HB.out.cell (World.block_lt_of_cell? w _ hx162_1)).trans hx162_1
                replace hx162_2 := (HB.out.cell (World.block_lt_of_cell? w _ hx162_2)).trans hx162_2
                replace hx162_3 := (HB.out.cell (World.block_lt_of_cell? w _ hx162_3)).trans hx162_3
                replace hx162_4 := (HB.out.cell (World.block_lt_of_cell? w _ hx162_4)).trans hx162_4
                replace hx162_5 := (HB.out.cell (World.block_lt_of_cell? w _ hx162_5)).trans hx162_5
                have HR162_4 := Aside0.mk hi162_4
                have HC162_4 := Aside0.mk hl162_4
                clear hi162_4 hl162_4
                have HR162_5 := Aside0.mk hi162_5
                have HC162_5 := Aside0.mk hl162_5
                clear hi162_5 hl162_5
                replace p162 := eq_true p162
                replace q162 := eq_true q162
                refine start_ (n := 10) (S := fun w' => w'.cell? (ad161.add ((x5_1).toNat * 6)) = some (.int .i64 ((rd_T27 l0 x5_1).f0)) ∧ w'.cell? ⟨(ad161.add ((x5_1).toNat * 6)).block, (ad161.add ((x5_1).toNat * 6)).off + 1, none⟩ = some (.string ((rd_T27 l0 x5_1).f1)) ∧ w'.cell? ⟨(ad161.add ((x5_1).toNat * 6)).block, (ad161.add ((x5_1).toNat * 6)).off + 2, none⟩ = some (.string ((rd_T27 l0 x5_1).f2)) ∧ w'.cell? ⟨(ad161.add ((x5_1).toNat * 6)).block, (ad161.add ((x5_1).toNat * 6)).off + 3, none⟩ = some (.int .i64 ((rd_T27 l0 x5_1).f3)) ∧ w'.cell? ⟨(ad161.add ((x5_1).toNat * 6)).block, (ad161.add ((x5_1).toNat * 6)).off + 4, none⟩ = some (.slice A161_4 ((rd_T27 l0 x5_1).f4).length c161_4) ∧ w'.cell? ⟨(ad161.add ((x5_1).toNat * 6)).block, (ad161.add ((x5_1).toNat * 6)).off + 5, none⟩ = some (.slice A161_5 ((rd_T27 l0 x5_1).f5).length c161_5) ∧ w'.cell? (ad162.add ((x5_1).toNat * 6)) = some (.int .i64 ((rd_T27 l1 x5_1).f0)) ∧ w'.cell? ⟨(ad162.add ((x5_1).toNat * 6)).block, (ad162.add ((x5_1).toNat * 6)).off + 1, none⟩ = some (.string ((rd_T27 l1 x5_1).f1)) ∧ w'.cell? ⟨(ad162.add ((x5_1).toNat * 6)).block, (ad162.add ((x5_1).toNat * 6)).off + 2, none⟩ = some (.string ((rd_T27 l1 x5_1).f2)) ∧ w'.cell? ⟨(ad162.add ((x5_1).toNat * 6)).block, (ad162.add ((x5_1).toNat * 6)).off + 3, none⟩ = some (.int .i64 ((rd_T27 l1 x5_1).f3)) ∧ w'.cell? ⟨(ad162.add ((x5_1).toNat * 6)).block, (ad162.add ((x5_1).toNat * 6)).off + 4, none⟩ = some (.slice A162_4 ((rd_T27 l1 x5_1).f4).length c162_4) ∧ w'.cell? ⟨(ad162.add ((x5_1).toNat * 6)).block, (ad162.add ((x5_1).toNat * 6)).off + 5, none⟩ = some (.slice A162_5 ((rd_T27 l1 x5_1).f5).length c162_5)) (ds := []) #[false, false, false, false, false, false, false, false, false, false] (by kernel_rfl) rfl rfl ⟨((HB.out.cell (World.block_lt_of_cell? w _ hw161_0)).trans hw161_0), ((HB.out.cell (World.block_lt_of_cell? w _ hw161_1)).trans hw161_1), ((HB.out.cell (World.block_lt_of_cell? w _ hw161_2)).trans hw161_2), ((HB.out.cell (World.block_lt_of_cell? w _ hw161_3)).trans hw161_3), ((HB.out.cell (World.block_lt_of_cell? w _ hw161_4)).trans hw161_4), ((HB.out.cell (World.block_lt_of_cell? w _ hw161_5)).trans hw161_5), ((HB.out.cell (World.block_lt_of_cell? w _ hw162_0)).trans hw162_0), ((HB.out.cell (World.block_lt_of_cell? w _ hw162_1)).trans hw162_1), ((HB.out.cell (World.block_lt_of_cell? w _ hw162_2)).trans hw162_2), ((HB.out.cell (World.block_lt_of_cell? w _ hw162_3)).trans hw162_3), ((HB.out.cell (World.block_lt_of_cell? w _ hw162_4)).trans hw162_4), ((HB.out.cell (World.block_lt_of_cell? w _ hw162_5)).trans hw162_5)⟩ (fun hHeld => ?_); refine with_tabW vellumlaw18_sameItems.tab6 vellumlaw18_sameItems.bits6 (fun HT_ HW_ => ?_)
                generalize wr.drew = w9 at HB HR161_4 HR161_5 HR162_4 HR162_5 hx161_0 hx161_1 hx161_2 hx161_3 hx161_4 hx161_5 hx162_0 hx162_1 hx162_2 hx162_3 hx162_4 hx162_5 hHeld ⊢
                refine pure_ (i := 0) (N := some 17) (v := ?_) (a' := ?_) #[true, false, false, false, false, false, false, false, false, false] rfl rfl (any_of HT_.out (by kernel_rfl)) (fun _ _ _ h => h) (Or.inl ⟨by rfl, ?_⟩) ?_ ?_
                rotate_left
                · intro w'
                  go_simp
                  with_reducible rfl
                rotate_left
                · simp only [Act.put, List.setIfInBounds_toArray, List.set_cons_zero, List.set_cons_succ, i64_w, i32_w]
                  rfl
                refine pure_ (i := 1) (N := some 18) (v := ?_) (a' := ?_) #[true, true, false, false, false, false, false, false, false, false] rfl rfl (any_of HT_.out (by kernel_rfl)) (fun _ _ _ h => h) (Or.inl ⟨by rfl, ?_⟩) ?_ ?_
                rotate_left
                · intro w'
                  go_simp
                  with_reducible rfl
                rotate_left
                · simp only [Act.put, List.setIfInBounds_toArray, List.set_cons_zero, List.set_cons_succ, i64_w, i32_w]
                  rfl
                refine pure_ (i := 2) (N := some 19) (v := ?_) (a' := ?_) #[true, true, true, false, false, false, false, false, false, false] rfl rfl (any_of HT_.out (by kernel_rfl)) (fun _ _ _ h => h) (Or.inl ⟨by rfl, ?_⟩) ?_ ?_
                rotate_left
                · intro w'
                  go_simp
                  with_reducible rfl
                rotate_left
                · simp only [Act.put, List.setIfInBounds_toArray, List.set_cons_zero, List.set_cons_succ, i64_w, i32_w]
                  rfl
                refine pure_ (i := 4) (N := some 21) (v := ?_) (a' := ?_) #[true, true, true, false, true, false, false, false, false, false] rfl rfl (any_of HT_.out (by kernel_rfl)) (fun _ _ _ h => h) (Or.inl ⟨by rfl, ?_⟩) ?_ ?_
                rotate_left
                · intro w'
                  go_simp
                  with_reducible rfl
                rotate_left
                · simp only [Act.put, List.setIfInBounds_toArray, List.set_cons_zero, List.set_cons_succ, i64_w, i32_w]
                  rfl
                refine pure_ (i := 5) (N := some 22) (v := ?_) (a' := ?_) #[true, true, true, false, true, true, false, false, false, false] rfl rfl (any_of HT_.out (by kernel_rfl)) (fun _ _ _ h => h) (Or.inl ⟨by rfl, ?_⟩) ?_ ?_
                rotate_left
                · intro w'
                  go_simp
                  with_reducible rfl
                rotate_left
                · simp only [Act.put, List.setIfInBounds_toArray, List.set_cons_zero, List.set_cons_succ, i64_w, i32_w]
                  rfl
                refine pure_ (i := 6) (N := some 23) (v := ?_) (a' := ?_) #[true, true, true, false, true, true, true, false, false, false] rfl rfl (any_of HT_.out (by kernel_rfl)) (fun _ _ _ h => h) (Or.inl ⟨by rfl, ?_⟩) ?_ ?_
                rotate_left
                · intro w'
                  go_simp
                  with_reducible rfl
                rotate_left
                · simp only [Act.put, List.setIfInBounds_toArray, List.set_cons_zero, List.set_cons_succ, i64_w, i32_w]
                  rfl
                refine take_ (i := 3) (N := some 20) (v := ?_) (a' := ?_) #[true, true, true, true, true, true, true, false, false, false] rfl rfl (take_ofW HT_.out HW_.out (by kernel_rfl)) (fun _ _ _ h => h) (Or.inl ⟨by rfl, ?_⟩) hHeld ?_ ?_
                rotate_left
                · rintro w' ⟨s0, s1, s2, s3, s4, s5, s6, s7, s8, s9, s10, s11⟩
                  go_simp
                  with_reducible rfl
                rotate_left
                · simp only [Act.put, List.setIfInBounds_toArray, List.set_cons_zero, List.set_cons_succ, i64_w, i32_w]
                  rfl
                refine take_ (i := 7) (N := some 24) (v := ?_) (a' := ?_) #[true, true, true, true, true, true, true, true, false, false] rfl rfl (take_ofW HT_.out HW_.out (by kernel_rfl)) (fun _ _ _ h => h) (Or.inl ⟨by rfl, ?_⟩) hHeld ?_ ?_
                rotate_left
                · rintro w' ⟨s0, s1, s2, s3, s4, s5, s6, s7, s8, s9, s10, s11⟩
                  go_simp
                  with_reducible rfl
                rotate_left
                · simp only [Act.put, List.setIfInBounds_toArray, List.set_cons_zero, List.set_cons_succ, i64_w, i32_w]
                  rfl
                refine one_ (i := 8) (N := some 25) #[true, true, true, true, true, true, true, true, true, false] rfl rfl (one_of HT_.out (by kernel_rfl)) (by decide) (fun K hK => ?_)
                refine goes_ Tryd.func15 (by kernel_rfl) rfl #[.agg #[.int .i64 ((rd_T27 l0 x5_1).f0), .string ((rd_T27 l0 x5_1).f1), .string ((rd_T27 l0 x5_1).f2), .int .i64 ((rd_T27 l0 x5_1).f3), .slice A161_4 ((rd_T27 l0 x5_1).f4).length c161_4, .slice A161_5 ((rd_T27 l0 x5_1).f5).length c161_5], .agg #[.int .i64 ((rd_T27 l1 x5_1).f0), .string ((rd_T27 l1 x5_1).f1), .string ((rd_T27 l1 x5_1).f2), .int .i64 ((rd_T27 l1 x5_1).f3), .slice A162_4 ((rd_T27 l1 x5_1).f4).length c162_4, .slice A162_5 ((rd_T27 l1 x5_1).f5).length c162_5]] (by rfl) rfl rfl (by (try simp only [List.map_toArray, List.map_cons, List.map_nil]); first | done | rfl | (simp only [List.length_drop, List.length_take]; rfl)) ?_
                with_reducible refine (vellumlaw18_sameItem.calls ((rd_T27 l0 x5_1).f0) ((rd_T27 l0 x5_1).f1) ((rd_T27 l0 x5_1).f2) ((rd_T27 l0 x5_1).f3) _ _ ((rd_T27 l0 x5_1).f4) _ _ ((rd_T27 l0 x5_1).f5) ((rd_T27 l1 x5_1).f0) ((rd_T27 l1 x5_1).f1) ((rd_T27 l1 x5_1).f2) ((rd_T27 l1 x5_1).f3) _ _ ((rd_T27 l1 x5_1).f4) _ _ ((rd_T27 l1 x5_1).f5) true _ ?side1 ?side2 ?side3 ?side4 ?side5 ?side6 ?side7 ?side8 A7.out).mono ?_
                (case side1 => repeat (first | exact (Kd.C_below HR161_4.out HB.out) | (with_reducible refine Kd.C_alloc ?_ _) | (with_reducible refine Kd.C_drewN ?_ _) | (with_reducible refine Kd.C_drew ?_)))
                (case side2 => exact HC161_4.out)
                (case side3 => repeat (first | exact (Kd.C_below HR161_5.out HB.out) | (with_reducible refine Kd.C_alloc ?_ _) | (with_reducible refine Kd.C_drewN ?_ _) | (with_reducible refine Kd.C_drew ?_)))
                (case side4 => exact HC161_5.out)
                (case side5 => repeat (first | exact (Kd.C_below HR162_4.out HB.out) | (with_reducible refine Kd.C_alloc ?_ _) | (with_reducible refine Kd.C_drewN ?_ _) | (with_reducible refine Kd.C_drew ?_)))
                (case side6 => exact HC162_4.out)
                (case side7 => repeat (first | exact (Kd.C_below HR162_5.out HB.out) | (with_reducible refine Kd.C_alloc ?_ _) | (with_reducible refine Kd.C_drewN ?_ _) | (with_reducible refine Kd.C_drew ?_)))
                (case side8 => exact HC162_5.out)
                rintro e w10 ⟨rfl, hb⟩
                refine ⟨_, rfl, ?_⟩
                have n0_ := Aside0.mk (below_step (by repeat (first | (with_reducible first | exact HB.out | apply below_alloc | apply pw_below_drewN | apply below_drew1) | exact HB.out)) hb)
                clear HB
                have HB := n0_
                clear n0_
                (try clear hb)
                (try clear hb2)
                (try clear hk)
                (try clear hi)
                refine hK.out _ _ ⟨((HB.out.cell (World.block_lt_of_cell? w _ hw161_0)).trans hw161_0), ((HB.out.cell (World.block_lt_of_cell? w _ hw161_1)).trans hw161_1), ((HB.out.cell (World.block_lt_of_cell? w _ hw161_2)).trans hw161_2), ((HB.out.cell (World.block_lt_of_cell? w _ hw161_3)).trans hw161_3), ((HB.out.cell (World.block_lt_of_cell? w _ hw161_4)).trans hw161_4), ((HB.out.cell (World.block_lt_of_cell? w _ hw161_5)).trans hw161_5), ((HB.out.cell (World.block_lt_of_cell? w _ hw162_0)).trans hw162_0), ((HB.out.cell (World.block_lt_of_cell? w _ hw162_1)).trans hw162_1), ((HB.out.cell (World.block_lt_of_cell? w _ hw162_2)).trans hw162_2), ((HB.out.cell (World.block_lt_of_cell? w _ hw162_3)).trans hw162_3), ((HB.out.cell (World.block_lt_of_cell? w _ hw162_4)).trans hw162_4), ((HB.out.cell (World.block_lt_of_cell? w _ hw162_5)).trans hw162_5)⟩ (fun hHeld => ?_)
                clear hK K
                refine norm_ (a' := ?_) ?_ ?_
                rotate_left
                · show Act.put _ (some 25) _ = _
                  simp only [Act.put, List.setIfInBounds_toArray, List.set_cons_zero, List.set_cons_succ, i64_w, i32_w]
                  rfl
                refine pure_ (i := 9) (N := some 26) (v := ?_) (a' := ?_) #[true, true, true, true, true, true, true, true, true, true] rfl rfl (any_of HT_.out (by kernel_rfl)) (fun _ _ _ h => h) (Or.inl ⟨by rfl, ?_⟩) ?_ ?_
                rotate_left
                · intro w'
                  go_simp
                  with_reducible rfl
                rotate_left
                · simp only [Act.put, List.setIfInBounds_toArray, List.set_cons_zero, List.set_cons_succ, i64_w, i32_w]
                  rfl
                refine done_ (done_of HT_.out (by kernel_rfl)) ?_
                try go_wp2
                go_roundg k1
                case measure => have := HK1.out; omega
                case rel => exact ⟨(wrap64 (x5_1 + 1)), (by first | rfl | (simp; done) | (simp [*]; done)), H', ⟨by have := HK1.out; omega⟩, ⟨by repeat (first | (with_reducible first | exact HB.out | apply below_alloc | apply pw_below_drewN | apply below_drew1) | exact HB.out)⟩⟩
              · replace c8 := Bool.eq_false_iff.mpr c8
                subst c8
                have H1 : (some false) = some r := by rw [if_neg (show ¬ (false = true) by decide)] at H; exact H
                clear H
                have H := H1
                clear H1
                obtain rfl := Option.some.inj H
                try go_wp2
                have n0_ := Aside0.mk (below_drew1 HB.out)
                clear HB
                have HB := n0_
                clear n0_
                have p161 : 0 ≤ (x5_1 : Int) := of_decide_eq_true (by first | (with_reducible assumption) | assumption)
                have q161 : x5_1 < (l0.length : Int) := of_decide_eq_true (by first | (with_reducible assumption) | assumption)
                obtain ⟨ad161, A161_4, c161_4, A161_5, c161_5, e161, hx161_0, hx161_1, hx161_2, hx161_3, hx161_4, hx161_5, hl161_4, hi161_4, hl161_5, hi161_5⟩ := at_T27 HR0.out x5_1 p161 q161
                have hw161_5 := hx161_5
                have hw161_4 := hx161_4
                have hw161_3 := hx161_3
                have hw161_2 := hx161_2
                have hw161_1 := hx161_1
                have hw161_0 := hx161_0
                cases e161
                replace hx161_0 := (HB.out.cell (World.block_lt_of_cell? w _ hx161_0)).trans hx161_0
                replace hx161_1 := (HB.out.cell (World.block_lt_of_cell? w _ hx161_1)).trans hx161_1
                replace hx161_2 := (HB.out.cell (World.block_lt_of_cell? w _ hx161_2)).trans hx161_2
                replace hx161_3 := (HB.out.cell (World.block_lt_of_cell? w _ hx161_3)).trans hx161_3
                replace hx161_4 := (HB.out.cell (World.block_lt_of_cell? w _ hx161_4)).trans hx161_4
                replace hx161_5 := (HB.out.cell (World.block_lt_of_cell? w _ hx161_5)).trans hx161_5
                have HR161_4 := Aside0.mk hi161_4
                have HC161_4 := Aside0.mk hl161_4
                clear hi161_4 hl161_4
                have HR161_5 := Aside0.mk hi161_5
                have HC161_5 := Aside0.mk hl161_5
                clear hi161_5 hl161_5
                replace p161 := eq_true p161
                replace q161 := eq_true q161
                have p162 : 0 ≤ (x5_1 : Int) := of_decide_eq_true (by first | (with_reducible assumption) | assumption)
                have q162 : x5_1 < (l1.length : Int) := of_decide_eq_true (by first | (with_reducible assumption) | assumption)
                obtain ⟨ad162, A162_4, c162_4, A162_5, c162_5, e162, hx162_0, hx162_1, hx162_2, hx162_3, hx162_4, hx162_5, hl162_4, hi162_4, hl162_5, hi162_5⟩ := at_T27 HR1.out x5_1 p162 q162
                have hw162_5 := hx162_5
                have hw162_4 := hx162_4
                have hw162_3 := hx162_3
                have hw162_2 := hx162_2
                have hw162_1 := hx162_1
                have hw162_0 := hx162_0
                cases e162
                replace hx162_0 := (HB.out.cell (World.block_lt_of_cell? w _ hx162_0)).trans hx162_0
                replace hx162_1 := (HB.out.cell (World.block_lt_of_cell? w _ hx162_1)).trans hx162_1
                replace hx162_2 := (HB.out.cell (World.block_lt_of_cell? w _ hx162_2)).trans hx162_2
                replace hx162_3 := (HB.out.cell (World.block_lt_of_cell? w _ hx162_3)).trans hx162_3
                replace hx162_4 := (HB.out.cell (World.block_lt_of_cell? w _ hx162_4)).trans hx162_4
                replace hx162_5 := (HB.out.cell (World.block_lt_of_cell? w _ hx162_5)).trans hx162_5
                have HR162_4 := Aside0.mk hi162_4
                have HC162_4 := Aside0.mk hl162_4
                clear hi162_4 hl162_4
                have HR162_5 := Aside0.mk hi162_5
                have HC162_5 := Aside0.mk hl162_5
                clear hi162_5 hl162_5
                replace p162 := eq_true p162
                replace q162 := eq_true q162
                refine start_ (n := 10) (S := fun w' => w'.cell? (ad161.add ((x5_1).toNat * 6)) = some (.int .i64 ((rd_T27 l0 x5_1).f0)) ∧ w'.cell? ⟨(ad161.add ((x5_1).toNat * 6)).block, (ad161.add ((x5_1).toNat * 6)).off + 1, none⟩ = some (.string ((rd_T27 l0 x5_1).f1)) ∧ w'.cell? ⟨(ad161.add ((x5_1).toNat * 6)).block, (ad161.add ((x5_1).toNat * 6)).off + 2, none⟩ = some (.string ((rd_T27 l0 x5_1).f2)) ∧ w'.cell? ⟨(ad161.add ((x5_1).toNat * 6)).block, (ad161.add ((x5_1).toNat * 6)).off + 3, none⟩ = some (.int .i64 ((rd_T27 l0 x5_1).f3)) ∧ w'.cell? ⟨(ad161.add ((x5_1).toNat * 6)).block, (ad161.add ((x5_1).toNat * 6)).off + 4, none⟩ = some (.slice A161_4 ((rd_T27 l0 x5_1).f4).length c161_4) ∧ w'.cell? ⟨(ad161.add ((x5_1).toNat * 6)).block, (ad161.add ((x5_1).toNat * 6)).off + 5, none⟩ = some (.slice A161_5 ((rd_T27 l0 x5_1).f5).length c161_5) ∧ w'.cell? (ad162.add ((x5_1).toNat * 6)) = some (.int .i64 ((rd_T27 l1 x5_1).f0)) ∧ w'.cell? ⟨(ad162.add ((x5_1).toNat * 6)).block, (ad162.add ((x5_1).toNat * 6)).off + 1, none⟩ = some (.string ((rd_T27 l1 x5_1).f1)) ∧ w'.cell? ⟨(ad162.add ((x5_1).toNat * 6)).block, (ad162.add ((x5_1).toNat * 6)).off + 2, none⟩ = some (.string ((rd_T27 l1 x5_1).f2)) ∧ w'.cell? ⟨(ad162.add ((x5_1).toNat * 6)).block, (ad162.add ((x5_1).toNat * 6)).off + 3, none⟩ = some (.int .i64 ((rd_T27 l1 x5_1).f3)) ∧ w'.cell? ⟨(ad162.add ((x5_1).toNat * 6)).block, (ad162.add ((x5_1).toNat * 6)).off + 4, none⟩ = some (.slice A162_4 ((rd_T27 l1 x5_1).f4).length c162_4) ∧ w'.cell? ⟨(ad162.add ((x5_1).toNat * 6)).block, (ad162.add ((x5_1).toNat * 6)).off + 5, none⟩ = some (.slice A162_5 ((rd_T27 l1 x5_1).f5).length c162_5)) (ds := []) #[false, false, false, false, false, false, false, false, false, false] (by kernel_rfl) rfl rfl ⟨((HB.out.cell (World.block_lt_of_cell? w _ hw161_0)).trans hw161_0), ((HB.out.cell (World.block_lt_of_cell? w _ hw161_1)).trans hw161_1), ((HB.out.cell (World.block_lt_of_cell? w _ hw161_2)).trans hw161_2), ((HB.out.cell (World.block_lt_of_cell? w _ hw161_3)).trans hw161_3), ((HB.out.cell (World.block_lt_of_cell? w _ hw161_4)).trans hw161_4), ((HB.out.cell (World.block_lt_of_cell? w _ hw161_5)).trans hw161_5), ((HB.out.cell (World.block_lt_of_cell? w _ hw162_0)).trans hw162_0), ((HB.out.cell (World.block_lt_of_cell? w _ hw162_1)).trans hw162_1), ((HB.out.cell (World.block_lt_of_cell? w _ hw162_2)).trans hw162_2), ((HB.out.cell (World.block_lt_of_cell? w _ hw162_3)).trans hw162_3), ((HB.out.cell (World.block_lt_of_cell? w _ hw162_4)).trans hw162_4), ((HB.out.cell (World.block_lt_of_cell? w _ hw162_5)).trans hw162_5)⟩ (fun hHeld => ?_); refine with_tabW vellumlaw18_sameItems.tab6 vellumlaw18_sameItems.bits6 (fun HT_ HW_ => ?_)
                generalize wr.drew = w11 at HB HR161_4 HR161_5 HR162_4 HR162_5 hx161_0 hx161_1 hx161_2 hx161_3 hx161_4 hx161_5 hx162_0 hx162_1 hx162_2 hx162_3 hx162_4 hx162_5 hHeld ⊢
                refine pure_ (i := 0) (N := some 17) (v := ?_) (a' := ?_) #[true, false, false, false, false, false, false, false, false, false] rfl rfl (any_of HT_.out (by kernel_rfl)) (fun _ _ _ h => h) (Or.inl ⟨by rfl, ?_⟩) ?_ ?_
                rotate_left
                · intro w'
                  go_simp
                  with_reducible rfl
                rotate_left
                · simp only [Act.put, List.setIfInBounds_toArray, List.set_cons_zero, List.set_cons_succ, i64_w, i32_w]
                  rfl
                refine pure_ (i := 1) (N := some 18) (v := ?_) (a' := ?_) #[true, true, false, false, false, false, false, false, false, false] rfl rfl (any_of HT_.out (by kernel_rfl)) (fun _ _ _ h => h) (Or.inl ⟨by rfl, ?_⟩) ?_ ?_
                rotate_left
                · intro w'
                  go_simp
                  with_reducible rfl
                rotate_left
                · simp only [Act.put, List.setIfInBounds_toArray, List.set_cons_zero, List.set_cons_succ, i64_w, i32_w]
                  rfl
                refine pure_ (i := 2) (N := some 19) (v := ?_) (a' := ?_) #[true, true, true, false, false, false, false, false, false, false] rfl rfl (any_of HT_.out (by kernel_rfl)) (fun _ _ _ h => h) (Or.inl ⟨by rfl, ?_⟩) ?_ ?_
                rotate_left
                · intro w'
                  go_simp
                  with_reducible rfl
                rotate_left
                · simp only [Act.put, List.setIfInBounds_toArray, List.set_cons_zero, List.set_cons_succ, i64_w, i32_w]
                  rfl
                refine pure_ (i := 4) (N := some 21) (v := ?_) (a' := ?_) #[true, true, true, false, true, false, false, false, false, false] rfl rfl (any_of HT_.out (by kernel_rfl)) (fun _ _ _ h => h) (Or.inl ⟨by rfl, ?_⟩) ?_ ?_
                rotate_left
                · intro w'
                  go_simp
                  with_reducible rfl
                rotate_left
                · simp only [Act.put, List.setIfInBounds_toArray, List.set_cons_zero, List.set_cons_succ, i64_w, i32_w]
                  rfl
                refine pure_ (i := 5) (N := some 22) (v := ?_) (a' := ?_) #[true, true, true, false, true, true, false, false, false, false] rfl rfl (any_of HT_.out (by kernel_rfl)) (fun _ _ _ h => h) (Or.inl ⟨by rfl, ?_⟩) ?_ ?_
                rotate_left
                · intro w'
                  go_simp
                  with_reducible rfl
                rotate_left
                · simp only [Act.put, List.setIfInBounds_toArray, List.set_cons_zero, List.set_cons_succ, i64_w, i32_w]
                  rfl
                refine pure_ (i := 6) (N := some 23) (v := ?_) (a' := ?_) #[true, true, true, false, true, true, true, false, false, false] rfl rfl (any_of HT_.out (by kernel_rfl)) (fun _ _ _ h => h) (Or.inl ⟨by rfl, ?_⟩) ?_ ?_
                rotate_left
                · intro w'
                  go_simp
                  with_reducible rfl
                rotate_left
                · simp only [Act.put, List.setIfInBounds_toArray, List.set_cons_zero, List.set_cons_succ, i64_w, i32_w]
                  rfl
                refine take_ (i := 3) (N := some 20) (v := ?_) (a' := ?_) #[true, true, true, true, true, true, true, false, false, false] rfl rfl (take_ofW HT_.out HW_.out (by kernel_rfl)) (fun _ _ _ h => h) (Or.inl ⟨by rfl, ?_⟩) hHeld ?_ ?_
                rotate_left
                · rintro w' ⟨s0, s1, s2, s3, s4, s5, s6, s7, s8, s9, s10, s11⟩
                  go_simp
                  with_reducible rfl
                rotate_left
                · simp only [Act.put, List.setIfInBounds_toArray, List.set_cons_zero, List.set_cons_succ, i64_w, i32_w]
                  rfl
                refine take_ (i := 7) (N := some 24) (v := ?_) (a' := ?_) #[true, true, true, true, true, true, true, true, false, false] rfl rfl (take_ofW HT_.out HW_.out (by kernel_rfl)) (fun _ _ _ h => h) (Or.inl ⟨by rfl, ?_⟩) hHeld ?_ ?_
                rotate_left
                · rintro w' ⟨s0, s1, s2, s3, s4, s5, s6, s7, s8, s9, s10, s11⟩
                  go_simp
                  with_reducible rfl
                rotate_left
                · simp only [Act.put, List.setIfInBounds_toArray, List.set_cons_zero, List.set_cons_succ, i64_w, i32_w]
                  rfl
                refine one_ (i := 8) (N := some 25) #[true, true, true, true, true, true, true, true, true, false] rfl rfl (one_of HT_.out (by kernel_rfl)) (by decide) (fun K hK => ?_)
                refine goes_ Tryd.func15 (by kernel_rfl) rfl #[.agg #[.int .i64 ((rd_T27 l0 x5_1).f0), .string ((rd_T27 l0 x5_1).f1), .string ((rd_T27 l0 x5_1).f2), .int .i64 ((rd_T27 l0 x5_1).f3), .slice A161_4 ((rd_T27 l0 x5_1).f4).length c161_4, .slice A161_5 ((rd_T27 l0 x5_1).f5).length c161_5], .agg #[.int .i64 ((rd_T27 l1 x5_1).f0), .string ((rd_T27 l1 x5_1).f1), .string ((rd_T27 l1 x5_1).f2), .int .i64 ((rd_T27 l1 x5_1).f3), .slice A162_4 ((rd_T27 l1 x5_1).f4).length c162_4, .slice A162_5 ((rd_T27 l1 x5_1).f5).length c162_5]] (by rfl) rfl rfl (by (try simp only [List.map_toArray, List.map_cons, List.map_nil]); first | done | rfl | (simp only [List.length_drop, List.length_take]; rfl)) ?_
                with_reducible refine (vellumlaw18_sameItem.calls ((rd_T27 l0 x5_1).f0) ((rd_T27 l0 x5_1).f1) ((rd_T27 l0 x5_1).f2) ((rd_T27 l0 x5_1).f3) _ _ ((rd_T27 l0 x5_1).f4) _ _ ((rd_T27 l0 x5_1).f5) ((rd_T27 l1 x5_1).f0) ((rd_T27 l1 x5_1).f1) ((rd_T27 l1 x5_1).f2) ((rd_T27 l1 x5_1).f3) _ _ ((rd_T27 l1 x5_1).f4) _ _ ((rd_T27 l1 x5_1).f5) false _ ?side1 ?side2 ?side3 ?side4 ?side5 ?side6 ?side7 ?side8 A7.out).mono ?_
                (case side1 => repeat (first | exact (Kd.C_below HR161_4.out HB.out) | (with_reducible refine Kd.C_alloc ?_ _) | (with_reducible refine Kd.C_drewN ?_ _) | (with_reducible refine Kd.C_drew ?_)))
                (case side2 => exact HC161_4.out)
                (case side3 => repeat (first | exact (Kd.C_below HR161_5.out HB.out) | (with_reducible refine Kd.C_alloc ?_ _) | (with_reducible refine Kd.C_drewN ?_ _) | (with_reducible refine Kd.C_drew ?_)))
                (case side4 => exact HC161_5.out)
                (case side5 => repeat (first | exact (Kd.C_below HR162_4.out HB.out) | (with_reducible refine Kd.C_alloc ?_ _) | (with_reducible refine Kd.C_drewN ?_ _) | (with_reducible refine Kd.C_drew ?_)))
                (case side6 => exact HC162_4.out)
                (case side7 => repeat (first | exact (Kd.C_below HR162_5.out HB.out) | (with_reducible refine Kd.C_alloc ?_ _) | (with_reducible refine Kd.C_drewN ?_ _) | (with_reducible refine Kd.C_drew ?_)))
                (case side8 => exact HC162_5.out)
                rintro e w12 ⟨rfl, hb⟩
                refine ⟨_, rfl, ?_⟩
                have n0_ := Aside0.mk (below_step (by repeat (first | (with_reducible first | exact HB.out | apply below_alloc | apply pw_below_drewN | apply below_drew1) | exact HB.out)) hb)
                clear HB
                have HB := n0_
                clear n0_
                (try clear hb)
                (try clear hb2)
                (try clear hk)
                (try clear hi)
                refine hK.out _ _ ⟨((HB.out.cell (World.block_lt_of_cell? w _ hw161_0)).trans hw161_0), ((HB.out.cell (World.block_lt_of_cell? w _ hw161_1)).trans hw161_1), ((HB.out.cell (World.block_lt_of_cell? w _ hw161_2)).trans hw161_2), ((HB.out.cell (World.block_lt_of_cell? w _ hw161_3)).trans hw161_3), ((HB.out.cell (World.block_lt_of_cell? w _ hw161_4)).trans hw161_4), ((HB.out.cell (World.block_lt_of_cell? w _ hw161_5)).trans hw161_5), ((HB.out.cell (World.block_lt_of_cell? w _ hw162_0)).trans hw162_0), ((HB.out.cell (World.block_lt_of_cell? w _ hw162_1)).trans hw162_1), ((HB.out.cell (World.block_lt_of_cell? w _ hw162_2)).trans hw162_2), ((HB.out.cell (World.block_lt_of_cell? w _ hw162_3)).trans hw162_3), ((HB.out.cell (World.block_lt_of_cell? w _ hw162_4)).trans hw162_4), ((HB.out.cell (World.block_lt_of_cell? w _ hw162_5)).trans hw162_5)⟩ (fun hHeld => ?_)
                clear hK K
                refine norm_ (a' := ?_) ?_ ?_
                rotate_left
                · show Act.put _ (some 25) _ = _
                  simp only [Act.put, List.setIfInBounds_toArray, List.set_cons_zero, List.set_cons_succ, i64_w, i32_w]
                  rfl
                refine pure_ (i := 9) (N := some 26) (v := ?_) (a' := ?_) #[true, true, true, true, true, true, true, true, true, true] rfl rfl (any_of HT_.out (by kernel_rfl)) (fun _ _ _ h => h) (Or.inl ⟨by rfl, ?_⟩) ?_ ?_
                rotate_left
                · intro w'
                  go_simp
                  with_reducible rfl
                rotate_left
                · simp only [Act.put, List.setIfInBounds_toArray, List.set_cons_zero, List.set_cons_succ, i64_w, i32_w]
                  rfl
                refine done_ (done_of HT_.out (by kernel_rfl)) ?_
                try go_wp2
                go_ret
                exact ⟨by first | rfl | (simp [errW_none, errW_some] <;> rfl) | (simp [*, errW_none, errW_some] <;> rfl), by repeat (first | (with_reducible first | exact HB.out | apply below_alloc | apply pw_below_drewN | apply below_drew1) | exact HB.out)⟩
            · rw [if_neg c6] at H
              exact absurd H (by simp)
          · rw [if_neg c5] at H
            exact absurd H (by simp)
        · rw [if_neg c4] at H
          have c4b0 : decide (x5_1 < (l0.length : Int)) = false := decide_eq_false c4
          clear c4
          obtain rfl := Option.some.inj H
          go_wp2
          go_ret
          exact ⟨by first | rfl | (simp [errW_none, errW_some] <;> rfl) | (simp [*, errW_none, errW_some] <;> rfl), by repeat (first | (with_reducible first | exact HB.out | apply below_alloc | apply pw_below_drewN | apply below_drew1) | exact HB.out)⟩
  · rw [if_neg c3] at H
    have c3b0 : ((l0.length : Int) == (l1.length : Int)) = false := beq_eq_false_iff_ne.mpr c3
    have c3b1 : ((l0.length : Int) != (l1.length : Int)) = true := bne_iff_ne.mpr c3
    have c3b2 : (l0.length == l1.length) = false := by first | simpa using c3 | (simp at c3 ⊢; omega)
    obtain rfl := Option.some.inj H
    go_enter Tryd.func12, Tryd.ntmps12
    go_wp2
    go_ret
    exact ⟨by first | rfl | (simp [errW_none, errW_some] <;> rfl) | (simp [*, errW_none, errW_some] <;> rfl), by repeat (first | (with_reducible first | exact HB.out | apply below_alloc | apply pw_below_drewN | apply below_drew1) | exact HB.out)⟩
end Go.Proofs.YtkfikinjlbbibaaDoor.PT
