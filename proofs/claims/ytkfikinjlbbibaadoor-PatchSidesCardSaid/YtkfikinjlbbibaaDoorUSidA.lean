/- Packed by this session's own program (wip/tools/pack.py): what the claim needs of its texts. -/
import Derived.Test.YtkfikinjlbbibaaDoorUAtI
import Derived.Test.YtkfikinjlbbibaaDoorUThr
import Derived.Test.YtkfikinjlbbibaaDoorUPTx11
namespace Go.Proofs.YtkfikinjlbbibaaDoor
open Go.RowKit Go.Lib
open Go.Proofs.YtkfikinjlbbibaaDoorW.PrintWords Go.Proofs.YtkfikinjlbbibaaDoorW.PrintLast Go.Proofs.YtkfikinjlbbibaaDoor.PT
set_option linter.unusedVariables false
set_option linter.unusedSimpArgs false
theorem told_loop (C : List Cf) (p : ByteArray) (lo hi : Int) (hl : C.length < 9223372036854775807) : ∀ (d i : Nat), i + d = C.length → Ev (fun k => vellumlaw18_told.l0 k C p lo hi (i : Int)) (toldP (C.drop i) p lo hi)
  | 0, i, h => by
    rw [List.drop_of_length_le (by omega)]
    exact Ev.step (fun k => by rw [vellumlaw18_told.l0, if_neg (by omega)]; rfl) (Ev.now _)
  | d + 1, i, h => by
    have hi2 : i < C.length := by omega
    have ih := told_loop C p lo hi hl d (i + 1) (by omega)
    have go : ∀ k, vellumlaw18_told.l0 (k + 1) C p lo hi (i : Int) = if C[i].f1.toList = p.toList then (if C[i].f0 ≥ lo then (if C[i].f0 ≤ hi then some true else vellumlaw18_told.l0 k C p lo hi ((i + 1 : Nat) : Int)) else vellumlaw18_told.l0 k C p lo hi ((i + 1 : Nat) : Int)) else vellumlaw18_told.l0 k C p lo hi ((i + 1 : Nat) : Int) := fun k => by
      rw [vellumlaw18_told.l0, if_pos (by omega), if_pos (by omega), rdCf_at C i hi2, wrap_up (by omega)]
    have hc : toldP (C.drop i) p lo hi = ((decide (bs C[i].f1 = bs p) && (decide (lo ≤ C[i].f0) && decide (C[i].f0 ≤ hi))) || toldP (C.drop (i + 1)) p lo hi) := by
      unfold toldP
      rw [List.drop_eq_getElem_cons hi2, List.any_cons]
    rw [hc]
    have e1 : (C[i].f1.toList = p.toList) ↔ bs C[i].f1 = bs p := by rw [Lib.toList_data, Lib.toList_data]; rfl
    by_cases h1 : C[i].f1.toList = p.toList
    · by_cases h2 : C[i].f0 ≥ lo
      · by_cases h3 : C[i].f0 ≤ hi
        · rw [decide_eq_true (e1.1 h1), decide_eq_true (show lo ≤ C[i].f0 from h2), decide_eq_true h3]
          exact Ev.step (fun k => by rw [go, if_pos h1, if_pos h2, if_pos h3]; rfl) (Ev.now _)
        · rw [decide_eq_false h3, Bool.and_false, Bool.and_false, Bool.false_or]
          exact Ev.step (fun k => by rw [go, if_pos h1, if_pos h2, if_neg h3]) ih
      · rw [decide_eq_false (show ¬ lo ≤ C[i].f0 from h2), Bool.false_and, Bool.and_false, Bool.false_or]
        exact Ev.step (fun k => by rw [go, if_pos h1, if_neg h2]) ih
    · rw [decide_eq_false (fun h => h1 (e1.2 h)), Bool.false_and, Bool.false_or]
      exact Ev.step (fun k => by rw [go, if_neg h1]) ih
theorem told_c (C : List Cf) (p : ByteArray) (lo hi : Int) (A : Option Addr) (c : Nat) (W : World) (hC : Kd.C k38 W A C.length C) (hc : C.length ≤ c) (hl : C.length < 9223372036854775807) :
    Calls Tryd.prog 17 #[.slice A C.length c, .string p, .int .i64 lo, .int .i64 hi] W fun e w' => e = .returned (.bool (toldP C p lo hi)) ∧ Drawn0 W w' := by
  obtain ⟨k, hk⟩ := Ev.rounds (told_loop C p lo hi hl C.length 0 (by omega))
  rw [List.drop_zero] at hk
  exact vellumlaw18_told.calls k A c C p lo hi _ W hC hc hk
theorem same_c {x y : It} {v u : Value} {W : World} (hx : IV W x v) (hy : IV W y u) : Calls Tryd.prog 16 #[v, u] W fun e w' => e = .returned (.bool (sameP x y)) ∧ Below W.heap.size W w' := by
  obtain ⟨A4, c4, A5, c5, rfl, l4, g4, l5, g5⟩ := hx
  obtain ⟨B4, d4, B5, d5, rfl, m4, k4, m5, k5⟩ := hy
  exact vellumref18_Same.calls x.f0 x.f1 x.f2 x.f3 A4 c4 x.f4 A5 c5 x.f5 y.f0 y.f1 y.f2 y.f3 B4 d4 y.f4 B5 d5 y.f5 _ W g4 l4 g5 l5 k4 m4 k5 m5 rfl
def sameItemP (x y : It) : Bool := decide (x.f1.toList = y.f1.toList) && sameP x y
theorem sameItem_c {x y : It} {v u : Value} {W : World} (hx : IV W x v) (hy : IV W y u) : Calls Tryd.prog 15 #[v, u] W fun e w' => e = .returned (.bool (sameItemP x y)) ∧ Below W.heap.size W w' := by
  obtain ⟨A4, c4, A5, c5, rfl, l4, g4, l5, g5⟩ := hx
  obtain ⟨B4, d4, B5, d5, rfl, m4, k4, m5, k5⟩ := hy
  refine vellumlaw18_sameItem.calls x.f0 x.f1 x.f2 x.f3 A4 c4 x.f4 A5 c5 x.f5 y.f0 y.f1 y.f2 y.f3 B4 d4 y.f4 B5 d5 y.f5 _ W g4 l4 g5 l5 k4 m4 k5 m5 ?_
  unfold vellumlaw18_sameItem.f sameItemP
  by_cases h : x.f1.toList = y.f1.toList
  · rw [if_pos h, decide_eq_true h]
    rfl
  · rw [if_neg h, decide_eq_false h]
    rfl
theorem add_plain0 (g i : Nat) : (⟨g, 0, none⟩ : Addr).add i = ⟨g, i, none⟩ := by
  unfold Addr.add
  split
  · rename_i h
    rw [h]
  · simp
theorem dd_row {W : World} {g : Nat} (h : W.heap[g]? = some (.cells #[.int .i64 2, .string ⟨#[47, 100]⟩, .string ⟨#[]⟩, .int .i64 0, .slice none 0 0, .slice none 0 0] 27 (0, 0))) : Kd.C k27 W (some ⟨g, 0, none⟩) [dd].length [dd] := by
  have nr : Kd.C k73 W none 0 [] := ⟨rfl, Nat.zero_le _, fun h => absurd h (Nat.lt_irrefl 0)⟩
  have nb : Kd.C (Kd.int .u8) W none 0 [] := ⟨rfl, Nat.zero_le _, fun h => absurd h (Nat.lt_irrefl 0)⟩
  refine ⟨rfl, by decide, fun _ => ⟨_, rfl, fun j p hj => ?_⟩⟩
  have hj0 : j = 0 := by
    have := (List.getElem?_eq_some_iff.1 hj).1
    simp at this
    omega
  subst hj0
  obtain rfl : dd = p := by simpa using hj
  refine ⟨_, ?_, k27_mk W dd (A4 := none) (c4 := 0) (Nat.le_refl _) nr (A5 := none) (c5 := 0) (Nat.le_refl _) nb, fun i u hi => ?_⟩
  · rfl
  · have hb := blk_cell h i
    rw [Nat.zero_mul, show ((⟨g, 0, none⟩ : Addr).add (0 + i)) = ⟨g, i, none⟩ by rw [Nat.zero_add, add_plain0], hb]
    have : (#[Value.int .i64 2, .string ⟨#[47, 100]⟩, .string ⟨#[]⟩, .int .i64 0, .slice none 0 0, .slice none 0 0] : Array Value)[i]? = ([Value.int .i64 2, .string ⟨#[47, 100]⟩, .string ⟨#[]⟩, .int .i64 0, .slice none 0 0, .slice none 0 0] : List Value)[i]? := by simp
    rw [this]
    exact hi
theorem nil_row (W : World) : Kd.C k27 W none ([] : List It).length [] := ⟨rfl, Nat.zero_le _, fun h => absurd h (Nat.lt_irrefl 0)⟩
theorem all_dd {W : World} {g h : Nat} (h1 : W.heap[g]? = some (.cells #[.int .i64 2, .string ⟨#[47, 100]⟩, .string ⟨#[]⟩, .int .i64 0, .slice none 0 0, .slice none 0 0] 27 (0, 0))) (h2 : W.heap[h]? = some (.cells #[.int .i64 2, .string ⟨#[47, 100]⟩, .string ⟨#[]⟩, .int .i64 0, .slice none 0 0, .slice none 0 0] 27 (0, 0))) :
    Calls Tryd.prog 5 #[.slice none 0 0, .slice none 0 0, .slice (some ⟨g, 0, none⟩) 1 1, .slice (some ⟨h, 0, none⟩) 1 1] W fun e w' => e = .returned (.bool true) ∧ Below W.heap.size W w' := by
  obtain ⟨k, hk⟩ := Ev.rounds (all_ev Came.nil Came.nil dd_tree.came (by decide) (merge_right_alone Tree.nil dd_tree))
  exact vellumlaw18_all.calls k none 0 [] none 0 [] _ 1 [dd] _ 1 [dd] true W (nil_row W) (Nat.le_refl _) (nil_row W) (Nat.le_refl _) (dd_row h1) (Nat.le_refl _) (dd_row h2) (Nat.le_refl _) hk
theorem twins_c {l : List It} {A : Option Addr} {c : Nat} {W : World} (hC : Kd.C k27 W A l.length l) (hc : l.length ≤ c) (m : Came l) : Calls Tryd.prog 8 #[.slice A l.length c] W fun e w' => ∃ B d, e = .returned (.slice B l.length d) ∧ l.length ≤ d ∧ Kd.C k27 w' B l.length l ∧ Below W.heap.size W w' := by
  obtain ⟨k, hk⟩ := Ev.rounds (twins_ev l m)
  refine (vellumlaw18_twins.calls k A c l l W hC hc hk).mono ?_
  rintro e w' ⟨v, rfl, hs, hb⟩
  obtain ⟨B, d, rfl, hd, hC'⟩ := Kd.S_reads hs
  exact ⟨B, d, rfl, hd, hC', hb⟩
theorem merge_c {b l r : List It} {A0 A1 A2 : Option Addr} {c0 c1 c2 : Nat} {W : World} (h0 : Kd.C k27 W A0 b.length b) (k0 : b.length ≤ c0) (h1 : Kd.C k27 W A1 l.length l) (k1 : l.length ≤ c1) (h2 : Kd.C k27 W A2 r.length r) (k2 : r.length ≤ c2) (m0 : Came b) (m1 : Came l) (m2 : Came r) :
    Calls Tryd.prog 7 #[.slice A0 b.length c0, .slice A1 l.length c1, .slice A2 r.length c2] W fun e w' => ∃ A c B d, e = .returned (.tuple #[.slice A (mergeP b l r).1.length c, .slice B (mergeP b l r).2.1.length d, .int .i64 (mergeP b l r).2.2]) ∧ (mergeP b l r).1.length ≤ c ∧ Kd.C k27 w' A (mergeP b l r).1.length (mergeP b l r).1 ∧ (mergeP b l r).2.1.length ≤ d ∧ Kd.C k38 w' B (mergeP b l r).2.1.length (mergeP b l r).2.1 ∧ Below W.heap.size W w' := by
  refine (patch_Merge.calls A0 c0 b A1 c1 l A2 c2 r (mergeP b l r).1 (mergeP b l r).2.1 (mergeP b l r).2.2 W h0 k0 h1 k1 h2 k2 (merge_f m0 m1 m2)).mono ?_
  rintro e w' ⟨v, u, rfl, hs, hr, hb⟩
  obtain ⟨A, c, rfl, hc, hC⟩ := Kd.S_reads hs
  obtain ⟨B, d, rfl, hd, hD⟩ := Kd.R_reads hr
  exact ⟨A, c, B, d, rfl, hc, hC, hd, hD, hb⟩
theorem unlike_c {b l r : List It} {A0 A1 A2 : Option Addr} {c0 c1 c2 : Nat} {W : World} (h0 : Kd.C k27 W A0 b.length b) (k0 : b.length ≤ c0) (h1 : Kd.C k27 W A1 l.length l) (k1 : l.length ≤ c1) (h2 : Kd.C k27 W A2 r.length r) (k2 : r.length ≤ c2) (m0 : Came b) (m1 : Came l) (m2 : Came r) :
    Calls Tryd.prog 10 #[.slice A0 b.length c0, .slice A1 l.length c1, .slice A2 r.length c2] W fun e w' => e = .returned (.int .i64 (unlikeP b l r)) ∧ Below W.heap.size W w' := by
  obtain ⟨k, hk⟩ := Ev.rounds (unlike_ev m0 m1 m2)
  exact vellumlaw18_unlike.calls k _ A0 c0 b _ A1 c1 l _ A2 c2 r _ W (Kd.V_mk k0 (Kd.C_F k27_heap h0)) (Kd.V_mk k1 (Kd.C_F k27_heap h1)) (Kd.V_mk k2 (Kd.C_F k27_heap h2)) hk
theorem isTree_c {l : List It} {A : Option Addr} {c : Nat} {W : World} (hC : Kd.C k27 W A l.length l) (hc : l.length ≤ c) (m : Came l) : Calls Tryd.prog 6 #[.slice A l.length c] W fun e w' => e = .returned (.bool ((packP l).2 == 0)) ∧ Below W.heap.size W w' := by
  obtain ⟨k, hk⟩ := Ev.rounds (isTree_ev m)
  exact vellumlaw18_isTree.calls k A c l _ W hC hc hk
theorem much_c {l r : List It} {A1 A2 : Option Addr} {c1 c2 : Nat} {W : World} (h1 : Kd.C k27 W A1 l.length l) (k1 : l.length ≤ c1) (h2 : Kd.C k27 W A2 r.length r) (k2 : r.length ≤ c2) (t1 : Tree l) (t2 : Tree r) :
    Calls Tryd.prog 11 #[.slice A1 l.length c1, .slice A2 r.length c2] W fun e w' => e = .returned (.bool (decide (muchP l r))) ∧ Below W.heap.size W w' := by
  obtain ⟨k, hk⟩ := Ev.rounds (muchB l r t1 t2)
  exact vellumlaw18_much.calls k A1 c1 l A2 c2 r _ W h1 k1 h2 k2 hk
theorem num_c (n : Int) (W : World) : Calls Tryd.prog 9 #[.int .i64 n] W fun e w' => e = .returned (.int .i64 n) ∧ Below W.heap.size W w' :=
  (vellumlaw18_num.calls n n W rfl).mono fun e w' ⟨he, hd⟩ => ⟨he, hd.below⟩
end Go.Proofs.YtkfikinjlbbibaaDoor
