/- Packed by this session's own program (wip/tools/pack.py): what the claim needs of its texts. -/
import Derived.Test.YtkfikinjlbbibaaDoorUPur
namespace Go.Proofs.YtkfikinjlbbibaaDoor
open Go.RowKit Go.Lib
open Go.Proofs.YtkfikinjlbbibaaDoorW.PrintWords Go.Proofs.YtkfikinjlbbibaaDoorW.PrintLast Go.Proofs.YtkfikinjlbbibaaDoor.PT
set_option linter.unusedVariables false
set_option linter.unusedSimpArgs false
def IV (w : World) (x : It) (v : Value) : Prop := ∃ A4 c4 A5 c5, v = .agg #[.int .i64 x.f0, .string x.f1, .string x.f2, .int .i64 x.f3, .slice A4 x.f4.length c4, .slice A5 x.f5.length c5] ∧ x.f4.length ≤ c4 ∧ Kd.C k73 w A4 x.f4.length x.f4 ∧ x.f5.length ≤ c5 ∧ Kd.C (Kd.int .u8) w A5 x.f5.length x.f5
theorem IV.below {w w1 : World} {x : It} {v : Value} (h : IV w x v) (hb : Below w.heap.size w w1) : IV w1 x v := by
  obtain ⟨A4, c4, A5, c5, e, l4, g4, l5, g5⟩ := h
  exact ⟨A4, c4, A5, c5, e, l4, Kd.C_below g4 hb, l5, Kd.C_below g5 hb⟩
theorem IV.zero (w : World) : IV w zIt (.agg #[.int .i64 0, .string ⟨#[]⟩, .string ⟨#[]⟩, .int .i64 0, .slice none 0 0, .slice none 0 0]) :=
  ⟨none, 0, none, 0, rfl, Nat.le_refl _, ⟨rfl, Nat.zero_le _, fun h => absurd h (Nat.lt_irrefl 0)⟩, Nat.le_refl _, ⟨rfl, Nat.zero_le _, fun h => absurd h (Nat.lt_irrefl 0)⟩⟩
theorem atP_cons (x : It) (l : List It) (p : ByteArray) : atP (x :: l) p = if x.f1.toList = p.toList then (x, true) else atP l p := by
  unfold atP
  by_cases e : bs x.f1 = bs p
  · rw [List.find?_cons_of_pos (by simpa using e), if_pos (by rw [Lib.toList_data, Lib.toList_data]; exact e)]
  · rw [List.find?_cons_of_neg (by simpa using e), if_neg (by rw [Lib.toList_data, Lib.toList_data]; exact e)]
set_option maxHeartbeats 4000000 in
set_option maxRecDepth 100000 in
theorem at_any (A : Option Addr) (c : Nat) (l : List It) (p : ByteArray) (w : World) (hr : Kd.C k27 w A l.length l) (hn : l.length < 4611686018427387904) :
    Calls Tryd.prog 14 #[.slice A l.length c, .string p] w fun e w' => ∃ v, e = .returned (.tuple #[v, .bool (atP l p).2]) ∧ IV w (atP l p).1 v ∧ Below w.heap.size w w' := by
  have HR := Aside0.mk hr
  have hu := Tryd.underlying27
  clear hr
  go_enter Tryd.func14, Tryd.ntmps14
  go_wp2
  go_loopg [6] l.length (fun g s6 wr => ∃ i : Nat, l.length - i ≤ g ∧ s6 = .int .i64 i ∧ i ≤ l.length ∧ Aside0 (atP l p = atP (l.drop i) p) ∧ Aside0 (wr = w.alloc (.cells #[.int .i64 0, .string ⟨#[]⟩, .string ⟨#[]⟩, .int .i64 0, .slice none 0 0, .slice none 0 0] 27)))
  case atStart => exact ⟨0, by omega, rfl, by omega, ⟨by simp⟩, ⟨rfl⟩⟩
  case round =>
    obtain ⟨i, hig, rfl, hi, HE, HW⟩ := hrel
    have hw := HW.out
    subst hw
    clear HW
    by_cases hi2 : i < l.length
    · have hd : decide ((i : Int) < (l.length : Int)) = true := decide_eq_true (by omega)
      have hd2 : decide (i < l.length) = true := decide_eq_true hi2
      obtain ⟨ad, A4, c4, A5, c5, hA, r0, r1, r2, r3, r4, r5, l4, g4, l5, g5⟩ := at_T27 HR.out (i : Int) (by omega) (by omega)
      rw [Int.toNat_natCast] at r0 r1 r2 r3 r4 r5
      have hrd : rd_T27 l (i : Int) = l[i] := by simp [rd_T27, hi2]
      have hE := HE.out
      rw [List.drop_eq_getElem_cons hi2, atP_cons] at hE
      obtain ⟨x, hx⟩ : ∃ x, l[i] = x := ⟨_, rfl⟩
      rw [hrd, hx] at r0 r1 r2 r3 r4 r5 l4 g4 l5 g5
      rw [hx] at hE
      subst hA
      have HX := Aside0.mk (show IV w x (.agg #[.int .i64 x.f0, .string x.f1, .string x.f2, .int .i64 x.f3, .slice A4 x.f4.length c4, .slice A5 x.f5.length c5]) from ⟨A4, c4, A5, c5, rfl, l4, g4, l5, g5⟩)
      have hb := (Below.refl w.heap.size w).alloc (Nat.le_refl _) (.cells #[.int .i64 0, .string ⟨#[]⟩, .string ⟨#[]⟩, .int .i64 0, .slice none 0 0, .slice none 0 0] 27)
      have q0 := pw_cell_below hb r0
      have q1 := pw_cell_below hb r1
      have q2 := pw_cell_below hb r2
      have q3 := pw_cell_below hb r3
      have q4 := pw_cell_below hb r4
      have q5 := pw_cell_below hb r5
      clear hrd hx l4 g4 l5 g5 r0 r1 r2 r3 r4 r5 hb HE
      by_cases he : x.f1.toList = p.toList
      · have heb : (x.f1.toList == p.toList) = true := beq_iff_eq.2 he
        rw [if_pos he] at hE
        have HE := Aside0.mk hE
        clear hE he
        go_wp2
        refine bodyPost_ret (v := .tuple #[.agg #[.int .i64 x.f0, .string x.f1, .string x.f2, .int .i64 x.f3, .slice A4 x.f4.length c4, .slice A5 x.f5.length c5], .bool true]) (by simp [results, Tryd.results14, go_sem]) rfl ?_
        rw [HE.out]
        exact ⟨_, rfl, HX.out, (Below.refl _ _).alloc (Nat.le_refl _) _⟩
      · have heb : (x.f1.toList == p.toList) = false := beq_eq_false_iff_ne.2 he
        rw [if_neg he] at hE
        have HE := Aside0.mk hE
        clear hE he
        go_wp2
        go_roundg (l.length - (i + 1))
        case measure => omega
        case rel => exact ⟨i + 1, by omega, by first | rfl | simp, by omega, HE, ⟨rfl⟩⟩
    · have hd : decide ((i : Int) < (l.length : Int)) = false := decide_eq_false (by omega)
      have hd2 : decide (i < l.length) = false := decide_eq_false hi2
      have hE := HE.out
      rw [List.drop_of_length_le (by omega)] at hE
      have HE := Aside0.mk (show atP l p = (zIt, false) from hE)
      clear hE
      go_wp2
      refine bodyPost_ret (v := .tuple #[.agg #[.int .i64 0, .string ⟨#[]⟩, .string ⟨#[]⟩, .int .i64 0, .slice none 0 0, .slice none 0 0], .bool false]) (by simp [results, Tryd.results14, go_sem]) rfl ?_
      rw [HE.out]
      exact ⟨_, rfl, IV.zero _, (Below.refl _ _).alloc (Nat.le_refl _) _⟩
end Go.Proofs.YtkfikinjlbbibaaDoor
