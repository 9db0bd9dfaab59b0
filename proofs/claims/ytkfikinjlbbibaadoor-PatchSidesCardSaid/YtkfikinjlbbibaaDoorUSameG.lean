/- Packed by this session's own program (wip/tools/pack.py): what the claim needs of its texts. -/
import Derived.Test.YtkfikinjlbbibaaDoorUPuD
import Derived.Test.YtkfikinjlbbibaaDoorUPTx5
import Derived.Test.YtkfikinjlbbibaaDoorUW
import Derived.WalkKit
namespace Go.Proofs.YtkfikinjlbbibaaDoor
open Go.RowKit Go.Lib
open Go.Proofs.YtkfikinjlbbibaaDoorW.PrintWords Go.Proofs.YtkfikinjlbbibaaDoorW.PrintLast Go.Proofs.YtkfikinjlbbibaaDoor.PT
set_option linter.unusedVariables false
set_option linter.unusedSimpArgs false
def runsEq : List Ru → List Ru → Bool
  | [], [] => true
  | a :: l, b :: m => decide (a.f0 = b.f0) && (decide (a.f1 = b.f1) && runsEq l m)
  | _, _ => false
theorem runsEq_iff : ∀ {l m : List Ru}, runsEq l m = true ↔ l = m
  | [], [] => by simp [runsEq]
  | [], _ :: _ => by simp [runsEq]
  | _ :: _, [] => by simp [runsEq]
  | a :: l, b :: m => by
    rw [runsEq, Bool.and_eq_true, Bool.and_eq_true, runsEq_iff, decide_eq_true_iff, decide_eq_true_iff]
    constructor
    · rintro ⟨h0, h1, rfl⟩
      cases a; cases b
      simp only at h0 h1
      subst h0 h1
      rfl
    · rintro h
      injection h with h1 h2
      subst h1
      exact ⟨rfl, rfl, h2⟩
def sameP (x y : It) : Bool := decide (x.f0 = y.f0) && (decide (bs x.f2 = bs y.f2) && (decide (x.f3 = y.f3) && (runsEq x.f4 y.f4 && ((strOfNums x.f5).toList == (strOfNums y.f5).toList))))
theorem runs_loop (l m : List Ru) (hl : l.length ≤ 9223372036854775807) (hm : l.length = m.length) : ∀ (d i : Nat), i + d = l.length → Ev (fun k => vellumref18_sameRuns.l0 k l m i) (runsEq (l.drop i) (m.drop i))
  | 0, i, h => by
    rw [show l.drop i = [] from List.drop_of_length_le (by omega), show m.drop i = [] from List.drop_of_length_le (by omega)]
    exact Ev.step (fun k => by rw [vellumref18_sameRuns.l0, if_neg (by omega)]; rfl) (Ev.now _)
  | d + 1, i, h => by
    have hi : i < l.length := by omega
    have hi2 : i < m.length := by omega
    have e1 := rdRu_at l i hi
    have e2 := rdRu_at m i hi2
    rw [List.drop_eq_getElem_cons hi, List.drop_eq_getElem_cons hi2, runsEq]
    have go : ∀ k, vellumref18_sameRuns.l0 (k + 1) l m i = (if l[i].f0 = m[i].f0 then if l[i].f1 = m[i].f1 then vellumref18_sameRuns.l0 k l m ((i + 1 : Nat) : Int) else some false else some false) := by
      intro k
      rw [vellumref18_sameRuns.l0, if_pos (by omega), if_pos (by omega), if_pos (by omega), e1, e2, wrap_up (by omega)]
    by_cases h0 : l[i].f0 = m[i].f0
    · by_cases h1 : l[i].f1 = m[i].f1
      · rw [decide_eq_true h0, decide_eq_true h1, Bool.true_and, Bool.true_and]
        exact Ev.step (fun k => by rw [go, if_pos h0, if_pos h1]) (runs_loop l m hl hm d (i + 1) (by omega))
      · rw [decide_eq_false h1, Bool.false_and, Bool.and_false]
        exact Ev.step (fun k => by rw [go, if_pos h0, if_neg h1]) (Ev.now _)
    · rw [decide_eq_false h0, Bool.false_and]
      exact Ev.step (fun k => by rw [go, if_neg h0]) (Ev.now _)
theorem runsEq_ne {l m : List Ru} (h : l.length ≠ m.length) : runsEq l m = false := by
  cases hb : runsEq l m with
  | false => rfl
  | true => exact absurd (congrArg List.length (runsEq_iff.1 hb)) h
theorem runs_ev (l m : List Ru) (hl : l.length ≤ 9223372036854775807) : Ev (fun k => vellumref18_sameRuns.f k l m) (runsEq l m) := by
  unfold vellumref18_sameRuns.f
  by_cases h : l.length = m.length
  · exact Ev.congr (fun k => by rw [if_pos (by omega)]; rfl) (runs_loop l m hl h l.length 0 (by omega))
  · rw [runsEq_ne h]
    exact Ev.congr (fun k => by rw [if_neg (by omega)]) (Ev.now _)
def vellumref18_Same.f (a0_0 : Int) (a0_1 : ByteArray) (a0_2 : ByteArray) (a0_3 : Int) (l0_4 : List (S73)) (l0_5 : List Int) (a1_0 : Int) (a1_1 : ByteArray) (a1_2 : ByteArray) (a1_3 : Int) (l1_4 : List (S73)) (l1_5 : List Int) : Option Bool :=
  some (sameP ⟨a0_0, a0_1, a0_2, a0_3, l0_4, l0_5⟩ ⟨a1_0, a1_1, a1_2, a1_3, l1_4, l1_5⟩)
set_option maxHeartbeats 8000000 in
set_option maxRecDepth 100000 in
theorem vellumref18_Same.calls (a0_0 : Int) (a0_1 : ByteArray) (a0_2 : ByteArray) (a0_3 : Int) (A0_4 : Option Addr) (c0_4 : Nat) (l0_4 : List (S73)) (A0_5 : Option Addr) (c0_5 : Nat) (l0_5 : List Int) (a1_0 : Int) (a1_1 : ByteArray) (a1_2 : ByteArray) (a1_3 : Int) (A1_4 : Option Addr) (c1_4 : Nat) (l1_4 : List (S73)) (A1_5 : Option Addr) (c1_5 : Nat) (l1_5 : List Int) (r : Bool) (w : World) (hr0_4 : Kd.C k73 w A0_4 l0_4.length l0_4) (hc0_4 : l0_4.length ≤ c0_4) (hr0_5 : Kd.C (Kd.int .u8) w A0_5 l0_5.length l0_5) (hc0_5 : l0_5.length ≤ c0_5) (hr1_4 : Kd.C k73 w A1_4 l1_4.length l1_4) (hc1_4 : l1_4.length ≤ c1_4) (hr1_5 : Kd.C (Kd.int .u8) w A1_5 l1_5.length l1_5) (hc1_5 : l1_5.length ≤ c1_5) (h : vellumref18_Same.f a0_0 a0_1 a0_2 a0_3 l0_4 l0_5 a1_0 a1_1 a1_2 a1_3 l1_4 l1_5 = some r) :
    Calls Tryd.prog 16 #[.agg #[.int .i64 a0_0, .string a0_1, .string a0_2, .int .i64 a0_3, .slice A0_4 l0_4.length c0_4, .slice A0_5 l0_5.length c0_5], .agg #[.int .i64 a1_0, .string a1_1, .string a1_2, .int .i64 a1_3, .slice A1_4 l1_4.length c1_4, .slice A1_5 l1_5.length c1_5]] w fun e w' => e = .returned (.bool r) ∧ Below w.heap.size w w' := by
  unfold vellumref18_Same.f at h
  obtain rfl := Option.some.inj h
  clear h
  obtain ⟨X, hX⟩ : ∃ X, #[Value.int .i64 a0_0, .string a0_1, .string a0_2, .int .i64 a0_3, .slice A0_4 l0_4.length c0_4, .slice A0_5 l0_5.length c0_5] = X := ⟨_, rfl⟩
  obtain ⟨Y, hY⟩ : ∃ Y, #[Value.int .i64 a1_0, .string a1_1, .string a1_2, .int .i64 a1_3, .slice A1_4 l1_4.length c1_4, .slice A1_5 l1_5.length c1_5] = Y := ⟨_, rfl⟩
  have hb := ((Below.refl w.heap.size w).alloc (Nat.le_refl _) (.cells X 27)).alloc (by simp) (.cells Y 27)
  have hbx := blk_alloc (blk_new w (.cells X 27)) (.cells Y 27)
  have hby := blk_new (w.alloc (.cells X 27)) (.cells Y 27)
  rw [World.size_alloc] at hby
  rw [← hX, ← hY] at hb hbx hby
  have HR4 := Aside0.mk (Kd.C_below hr0_4 hb)
  have HR5 := Aside0.mk (Kd.C_below hr0_5 hb)
  have HQ4 := Aside0.mk (Kd.C_below hr1_4 hb)
  have HQ5 := Aside0.mk (Kd.C_below hr1_5 hb)
  have hn4 := hr0_4.2.1
  have HB := Aside0.mk hb
  have HBX := Aside0.mk hbx
  have HBY := Aside0.mk hby
  obtain ⟨kr, hkr⟩ := Ev.rounds (runs_ev l0_4 l1_4 hn4)
  obtain ⟨rr, hrr⟩ : ∃ r, runsEq l0_4 l1_4 = r := ⟨_, rfl⟩
  rw [hrr] at hkr
  have HKR := Aside0.mk hkr
  have HRR := Aside0.mk hrr
  have hstr : ∀ s t : ByteArray, decide (bs s = bs t) = (s.toList == t.toList) := fun s t => by
    rw [Lib.toList_data, Lib.toList_data]
    unfold bs
    by_cases e : s.data.toList = t.data.toList
    · rw [decide_eq_true e, beq_iff_eq.2 e]
    · rw [decide_eq_false e, beq_eq_false_iff_ne.2 e]
  unfold sameP
  simp only [hstr]
  rw [hrr]
  have hu := Tryd.underlying27
  clear hb hbx hby hkr hrr hr0_4 hr0_5 hr1_4 hr1_5 hX hY hstr hn4
  by_cases e0 : a0_0 = a1_0
  · have e0b : (a0_0 == a1_0) = true := beq_iff_eq.2 e0
    rw [decide_eq_true e0, Bool.true_and]
    clear e0
    cases e2 : (a0_2.toList == a1_2.toList) with
    | false =>
      go_enter Tryd.func16, Tryd.ntmps16
      go_wp2_with fail
      go_ret
      exact ⟨rfl, HB.out⟩
    | true =>
      rw [Bool.true_and]
      by_cases e3 : a0_3 = a1_3
      · have e3b : (a0_3 == a1_3) = true := beq_iff_eq.2 e3
        rw [decide_eq_true e3, Bool.true_and]
        clear e3
        go_enter Tryd.func16, Tryd.ntmps16
        go_wp2_with fail
        refine (vellumref18_sameRuns.calls kr A0_4 c0_4 l0_4 A1_4 c1_4 l1_4 rr _ HR4.out hc0_4 HQ4.out hc1_4 HKR.out).mono ?_
        rintro e w3 ⟨rfl, hd3⟩
        have hb3 := hd3.below
        have hbx3 := blk_below HBX.out hb3
        have hby3 := blk_below HBY.out hb3
        have x5 : w3.cell? ⟨w.heap.size, 5, none⟩ = some (.slice A0_5 l0_5.length c0_5) := by rw [blk_cell hbx3]; rfl
        have y5 : w3.cell? ⟨w.heap.size + 1, 5, none⟩ = some (.slice A1_5 l1_5.length c1_5) := by rw [blk_cell hby3]; rfl
        have hcx := Kd.C_string (P := Tryd.prog) (src := 25) (dst := 9) (e := 5) (c := c0_5) Tryd.underlying25 Tryd.underlying5 Tryd.underlying9 (Kd.C_below HR5.out hb3)
        have hcy := Kd.C_string (P := Tryd.prog) (src := 25) (dst := 9) (e := 5) (c := c1_5) Tryd.underlying25 Tryd.underlying5 Tryd.underlying9 (Kd.C_below HQ5.out hb3)
        have HB3 := Aside0.mk (HB.out.trans (hb3.mono HB.out.size))
        clear hd3 hb3 hbx3 hby3
        cases rr with
        | false =>
          go_wp2_with fail
          go_ret
          exact ⟨rfl, HB3.out⟩
        | true =>
          go_wp2_with fail
          go_ret
          exact ⟨rfl, HB3.out⟩
      · have e3b : (a0_3 == a1_3) = false := beq_eq_false_iff_ne.2 e3
        rw [decide_eq_false e3, Bool.false_and]
        clear e3
        go_enter Tryd.func16, Tryd.ntmps16
        go_wp2_with fail
        go_ret
        exact ⟨rfl, HB.out⟩
  · have e0b : (a0_0 == a1_0) = false := beq_eq_false_iff_ne.2 e0
    rw [decide_eq_false e0, Bool.false_and]
    clear e0
    go_enter Tryd.func16, Tryd.ntmps16
    go_wp2_with fail
    go_ret
    exact ⟨rfl, HB.out⟩
end Go.Proofs.YtkfikinjlbbibaaDoor
