/- Packed by this session's own program (wip/tools/pack.py): what the claim needs of its texts. -/
import Derived.Test.YtkfikinjlbbibaaDoorUShelf
import Derived.Test.YtkfikinjlbbibaaDoorUW
import Derived.Shelf.Strings.SplitCore
import Derived.Shelf.Strings.Builder2
import Derived.Lib.SplitLaws
import Derived.Lib.Builder
import Derived.Deep.LoopGhost
import Derived.WalkKit
namespace Go.Proofs.YtkfikinjlbbibaaDoor
open Go.RowKit Go.Lib Go.Shelf
open Go.Proofs.YtkfikinjlbbibaaDoorW.PrintWords Go.Proofs.YtkfikinjlbbibaaDoorW.PrintLast
set_option linter.unusedVariables false
set_option linter.unusedSimpArgs false
def splitP (s sep : ByteArray) : List ByteArray := Lib.splitB sep 0 (Lib.countB s sep) s
def strings_Split.f (a0 a1 : ByteArray) : Option (List ByteArray) := if a0.size < 4294967281 ∧ a1.size = 1 then some (splitP a0 a1) else none
theorem count_one_any (s sep : ByteArray) (h : sep.size = 1) (w : World) :
    Calls Tryd.prog 55 #[.string s, .string sep] w fun e w' => e = .returned (.int .i64 (Lib.countB s sep)) ∧ w' = w := by
  obtain ⟨c, rfl⟩ := Lib.one_byte sep h
  refine (Tryd.strings_Count_one s c w).mono fun e w' ⟨he, hw⟩ => ⟨?_, hw⟩
  rw [he]
  show _ = Ending.returned (Value.int .i64 ((Lib.count s.data.toList [c] : Nat) : Int))
  rw [Lib.count_one]
  rfl
theorem index_one_any (s sep : ByteArray) (h : sep.size = 1) (w : World) :
    Calls Tryd.prog 57 #[.string s, .string sep] w fun e w' => e = .returned (.int .i64 (Lib.indexB s sep)) ∧ w' = w := by
  obtain ⟨c, rfl⟩ := Lib.one_byte sep h
  refine (Tryd.strings_Index_one s c w).mono fun e w' ⟨he, hw⟩ => ⟨?_, hw⟩
  rw [he]
  show _ = Ending.returned (Value.int .i64 (Lib.index s.data.toList [c]))
  rw [Lib.index_one]
theorem split_one (s sep : ByteArray) (hs : s.size < 4294967281) (h : sep.size = 1) (w : World) :
    Calls Tryd.prog 51 #[.string s, .string sep] w fun e w' =>
      e = .returned (.slice (some ⟨w.heap.size, 0, none⟩) (splitP s sep).length (splitP s sep).length) ∧ w' = w.alloc (.cells ((splitP s sep).map Value.string).toArray 9) := by
  have hle := Lib.countB_le sep (by omega) s.size s (Nat.le_refl _)
  have hlen := Lib.splitB_all sep (by omega) 0 _ s rfl
  have c := Any.strings_genSplit_core (P := Tryd.prog) (ρ := Tryd.lays221_ren) Tryd.lays221 (by kernel_rfl) s sep 0 (-1) (Lib.countB s sep + 1) w hs (by omega) (Nat.zero_le _)
    (fun x c hx => index_one_any x sep h _) (count_one_any s sep h w) (by decide) (by decide) (by rw [if_pos (by decide)]; omega)
  rw [Nat.add_sub_cancel, hlen] at c
  have e2 : Lib.cellsOf (Lib.splitB sep 0 (Lib.countB s sep) s) (Lib.countB s sep + 1) = ((Lib.splitB sep 0 (Lib.countB s sep) s).map Value.string).toArray := by rw [← hlen]; exact Lib.cellsOf_full _
  rw [e2] at c
  have c2 : Calls Tryd.prog 62 #[.string s, .string sep, .int .i64 0, .int .i64 (-1)] w fun e w' => e = .returned (.slice (some ⟨w.heap.size, 0, none⟩) (Lib.countB s sep + 1) (Lib.countB s sep + 1)) ∧ w' = w.alloc (.cells ((Lib.splitB sep 0 (Lib.countB s sep) s).map Value.string).toArray 9) := c
  have hlen2 : (splitP s sep).length = Lib.countB s sep + 1 := hlen
  rw [hlen2]
  clear hle hlen e2 c hlen2
  go_enter Tryd.func51, Tryd.ntmps51
  go_wp2_with (go_at_call 62; refine c2.mono ?_; rintro e w' ⟨rfl, hw⟩; rw [hw])
  go_ret
  exact ⟨rfl, rfl⟩
theorem strings_Split.calls (a0 a1 : ByteArray) (r : List ByteArray) (w : World) (h : strings_Split.f a0 a1 = some r) :
    Calls Tryd.prog 51 #[.string a0, .string a1] w fun e w' => ∃ v0_ : Value, e = .returned v0_ ∧ Kd.R Kd.string 9 w' w.heap.size (fun _ => True) v0_ r ∧ Below w.heap.size w w' := by
  unfold strings_Split.f at h
  by_cases hc : a0.size < 4294967281 ∧ a1.size = 1
  · rw [if_pos hc] at h
    obtain rfl := Option.some.inj h
    refine (split_one a0 a1 hc.1 hc.2 w).mono ?_
    rintro e w' ⟨rfl, rfl⟩
    have hle := Lib.countB_le a1 (by omega) a0.size a0 (Nat.le_refl _)
    have hlen : (splitP a0 a1).length = Lib.countB a0 a1 + 1 := Lib.splitB_all a1 (by omega) 0 _ a0 rfl
    exact ⟨_, rfl, Kd.R_of_own (own_lit_of (enc := Value.string) w w.heap.size 9 (splitP a0 a1) (Nat.le_refl _) (by omega)) (fun _ _ => trivial), (Below.refl _ _).alloc (Nat.le_refl _) _⟩
  · rw [if_neg hc] at h
    cases h
def swapL (a b : UInt8) (l : List UInt8) : List UInt8 := l.map fun c => if c = a then b else c
def swapB (a b : UInt8) (s : ByteArray) : ByteArray := ⟨(swapL a b s.data.toList).toArray⟩
theorem swapL_none {a b : UInt8} : ∀ {l : List UInt8}, l.count a = 0 → swapL a b l = l
  | [], _ => rfl
  | c :: l, h => by
    rw [List.count_cons] at h
    have hc : ¬ c = a := by
      intro e
      rw [e] at h
      simp at h
    have ih := swapL_none (a := a) (b := b) (l := l) (by omega)
    unfold swapL at ih ⊢
    rw [List.map_cons, ih, if_neg hc]
theorem swapL_hit {a b : UInt8} : ∀ {l : List UInt8}, 0 < l.count a → ∃ j : Nat, Lib.indexByte l a = j ∧ j < l.length ∧ swapL a b (l.take (j + 1)) = l.take j ++ [b] ∧ (l.drop (j + 1)).count a + 1 = l.count a
  | [], h => by simp at h
  | c :: l, h => by
    by_cases hc : c = a
    · subst hc
      refine ⟨0, by simp [Lib.indexByte], by simp, by simp [swapL], by simp⟩
    · rw [List.count_cons_of_ne hc] at h
      obtain ⟨j, h1, h2, h3, h4⟩ := swapL_hit (a := a) (b := b) h
      refine ⟨j + 1, ?_, by simp; omega, ?_, by rw [List.drop_succ_cons, h4, List.count_cons_of_ne hc]⟩
      · unfold Lib.indexByte
        rw [h1, if_neg (by simpa using hc), if_neg (by rw [beq_eq_false_iff_ne.2 (show (j : Int) ≠ -1 by omega)]; exact Bool.false_ne_true)]
        omega
      · rw [List.take_succ_cons, List.take_succ_cons, List.cons_append, ← h3]
        unfold swapL
        rw [List.map_cons, if_neg hc]
theorem swapL_append (a b : UInt8) (l m : List UInt8) : swapL a b (l ++ m) = swapL a b l ++ swapL a b m := List.map_append
theorem swap_next {a b : UInt8} {L : List UInt8} {start j : Nat} (hs : start ≤ L.length) (h3 : swapL a b ((L.drop start).take (j + 1)) = (L.drop start).take j ++ [b]) :
    swapL a b (L.take (start + j + 1)) = swapL a b (L.take start) ++ (L.drop start).take j ++ [b] := by
  rw [Nat.add_assoc, List.take_add, swapL_append, h3, List.append_assoc]
theorem one_ne {a b : UInt8} (h : a ≠ b) : ((⟨#[a]⟩ : ByteArray).toList == (⟨#[b]⟩ : ByteArray).toList) = false := (Lib.bytes_beq_false_iff _ _).2 (fun e => h (by injection e with e; injection e with e; injection e))
set_option maxHeartbeats 16000000 in
set_option maxRecDepth 1000000 in
theorem replace_one (s : ByteArray) (a b : UInt8) (w : World) (hs : s.size < 4294967281) (hab : a ≠ b) :
    Calls Tryd.prog 47 #[.string s, .string ⟨#[a]⟩, .string ⟨#[b]⟩, .int .i64 (-1)] w fun e w' => e = .returned (.string (swapB a b s)) ∧ Below w.heap.size w w' := by
  have hC := Tryd.strings_Count_one s a w
  have hbeq := one_ne hab
  have hbeq2 : (a == b) = false := beq_eq_false_iff_ne.2 hab
  obtain ⟨cn, hcn⟩ : ∃ cn : Nat, Lib.countByte s.data.toList a = cn := ⟨_, rfl⟩
  have hcn' : s.data.toList.count a = cn := hcn
  have hlenL : s.data.toList.length = s.size := (Lib.size_eq s).symm
  have hcl : cn ≤ s.size := by rw [← hcn', ← hlenL]; exact List.count_le_length
  rw [hcn] at hC
  by_cases hc0 : cn = 0
  · subst hc0
    have hR : swapB a b s = s := by
      unfold swapB
      rw [swapL_none hcn']
    rw [hR]
    clear hR hcn hcn' hcl hlenL
    go_enter Tryd.func47, Tryd.ntmps47
    go_wp2_with (go_at_call 55; refine hC.mono ?_; rintro e w' ⟨rfl, hw⟩; rw [hw])
    go_ret
    exact ⟨rfl, Below.refl _ _⟩
  · have hcz : ((cn : Int) == 0) = false := beq_eq_false_iff_ne.2 (by omega)
    have hcd : decide (cn < s.size + 1) = true := decide_eq_true (by omega)
    have HC := Aside0.mk hcn'
    have HL := Aside0.mk hlenL
    clear hcn hcn' hlenL
    go_enter Tryd.func47, Tryd.ntmps47
    go_wp2_with (first | (go_at_call 55; refine hC.mono ?_; rintro e w' ⟨rfl, hw⟩; rw [hw]))
    clear hC
    have hsz0 : wrap64 ((s.size : Int) + wrap64 ((cn : Int) * wrap64 ((1 : Int) - 1))) = (s.size : Int) := by unfold wrap64; omega
    refine (Tryd.Builder_Grow_fresh w.heap.size w.heap.size s.size _ (Nat.le_refl _) (heap_alloc_new w _) (by simp) (by omega)).mono ?_
    rintro e w1 ⟨rfl, hb0, hb1⟩
    have H1 := Aside0.mk (Or.inr hb0 : Lib.IsBuilder 95 5 w.heap.size w.heap.size (Lib.byteCells []) w1)
    have Hb1 := Aside0.mk (((Below.refl w.heap.size w).alloc (Nat.le_refl _) _).trans hb1)
    clear hb0 hb1 hsz0
    go_wp2_with fail
    go_loopg [11, 53] cn (fun g s11 s53 wx => ∃ (i start : Nat) (acc : List UInt8), s53 = .int .i64 i ∧ s11 = .int .i64 start ∧ i + g = cn ∧ start ≤ s.size ∧
      Aside0 (Lib.IsBuilder 95 5 w.heap.size w.heap.size (Lib.byteCells acc) wx) ∧ Aside0 (Below w.heap.size w wx) ∧ Aside0 (acc = swapL a b (s.data.toList.take start)) ∧ Aside0 ((s.data.toList.drop start).count a = g))
    case atStart => exact ⟨0, 0, [], rfl, rfl, by omega, Nat.zero_le _, H1, Hb1, ⟨by simp [swapL]⟩, ⟨by rw [List.drop_zero]; exact HC.out⟩⟩
    case round =>
      obtain ⟨i, start, acc, rfl, rfl, hig, hst, HB, HW, HA, HG⟩ := hrel
      have hBw : w.heap.size ≤ wr.heap.size := HW.out.size
      have c1 : (0 : Int) ≤ (start : Int) := by omega
      have c2 : (start : Int) ≤ (s.size : Int) := by omega
      cases gk with
      | zero =>
        have hiK : ¬ ((i : Int) < (cn : Int)) := by omega
        have hal : acc.length ≤ s.size := by rw [HA.out, swapL, List.length_map, List.length_take]; have := HL.out; omega
        go_wp2_with fail
        refine (Any.Builder_WriteString (P := Tryd.prog) (ρ := Tryd.lays154_ren) { Tryd.lays154 with } Tryd.Builder_Extra_154 w.heap.size w.heap.size _ _ wr HB.out (by rw [Lib.byteCells_length, ByteArray.size_extract]; omega) hBw).mono ?_
        rintro e w3 ⟨rfl, h3, hb3⟩
        rw [Lib.strCells_eq, Lib.extract_to_end, ← Lib.byteCells_append] at h3
        have hfin : acc ++ s.data.toList.drop start = swapL a b s.data.toList := by
          rw [HA.out]
          conv => rhs; rw [← List.take_append_drop start s.data.toList, swapL_append, swapL_none HG.out]
        rw [hfin] at h3
        have H3 := Aside0.mk (Or.inr h3 : Lib.IsBuilder 95 5 w.heap.size w.heap.size _ w3)
        have Hb3 := Aside0.mk (HW.out.trans hb3)
        have hBw3 : w.heap.size ≤ w3.heap.size := Hb3.out.size
        clear h3 hb3 hfin
        go_wp2_with fail
        refine (Tryd.Builder_String_any w.heap.size w.heap.size _ w3 H3.out hBw3).mono ?_
        rintro e w5 ⟨rfl, hb5⟩
        have Hb5 := Aside0.mk (Hb3.out.trans hb5)
        clear hb5
        go_wp2
        go_ret
        exact ⟨rfl, Hb5.out⟩
      | succ g =>
        have hiK : (i : Int) < (cn : Int) := by omega
        obtain ⟨j, hj, hjl, hsw, hct⟩ := swapL_hit (a := a) (b := b) (l := s.data.toList.drop start) (by rw [HG.out]; omega)
        have hroom : start + j + 1 ≤ s.size := by rw [List.length_drop, HL.out] at hjl; omega
        have c3 : (start : Int) ≤ (start : Int) + (j : Int) := by omega
        have c4 : (start : Int) + (j : Int) ≤ (s.size : Int) := by omega
        have hal : acc.length ≤ s.size := by rw [HA.out, swapL, List.length_map, List.length_take]; have := HL.out; omega
        have hnext : Lib.byteCells acc ++ Lib.strCells (s.extract start (start + j)) ++ Lib.strCells ⟨#[b]⟩ = Lib.byteCells (swapL a b (s.data.toList.take (start + j + 1))) := by
          rw [Lib.strCells_eq, Lib.strCells_eq, Lib.extract_data, Nat.add_sub_cancel_left, ← Lib.byteCells_append, ← Lib.byteCells_append, swap_next (by rw [HL.out]; omega) hsw, HA.out]
        have hcnt : (s.data.toList.drop (start + j + 1)).count a = g := by
          have h1 := HG.out
          rw [List.drop_drop] at hct
          rw [show start + j + 1 = start + (j + 1) by omega]
          omega
        have hj2 : Lib.indexByte (s.extract start s.size).data.toList a = j := by rw [Lib.extract_to_end]; exact hj
        have Hn := Aside0.mk hnext
        have Hc := Aside0.mk hcnt
        clear hnext hcnt HG hj hsw hct hjl HA
        go_wp2_with (first | (go_at_call 57; refine (Tryd.strings_Index_one _ a _).mono ?_; rintro e w' ⟨rfl, hw⟩; rw [hw, hj2]))
        clear hj2
        refine (Any.Builder_WriteString (P := Tryd.prog) (ρ := Tryd.lays154_ren) { Tryd.lays154 with } Tryd.Builder_Extra_154 w.heap.size w.heap.size _ (s.extract start (start + j)) wr HB.out (by rw [Lib.byteCells_length, ByteArray.size_extract]; omega) hBw).mono ?_
        rintro e w3 ⟨rfl, h3, hb3⟩
        have hBw3 : w.heap.size ≤ w3.heap.size := Nat.le_trans hBw hb3.size
        have H3 := Aside0.mk h3
        have Hb3 := Aside0.mk hb3
        clear h3 hb3
        go_wp2_with fail
        refine (Any.Builder_WriteString (P := Tryd.prog) (ρ := Tryd.lays154_ren) { Tryd.lays154 with } Tryd.Builder_Extra_154 w.heap.size w.heap.size _ ⟨#[b]⟩ w3 (Or.inr H3.out) (by rw [List.length_append, Lib.byteCells_length, Lib.strCells_length, ByteArray.size_extract]; show _ + 1 ≤ _; omega) hBw3).mono ?_
        rintro e w4 ⟨rfl, h4, hb4⟩
        rw [Hn.out] at h4
        have H4 := Aside0.mk (Or.inr h4 : Lib.IsBuilder 95 5 w.heap.size w.heap.size _ w4)
        have Hb4 := Aside0.mk ((HW.out.trans Hb3.out).trans hb4)
        clear h4 hb4
        go_wp2
        go_roundg g
        case measure => omega
        case rel => exact ⟨i + 1, start + j + 1, _, by first | rfl | simp, by first | rfl | simp, by omega, by omega, H4, Hb4, ⟨rfl⟩, Hc⟩
theorem replaceAll_one (s : ByteArray) (a b : UInt8) (w : World) (hs : s.size < 4294967281) (hab : a ≠ b) :
    Calls Tryd.prog 33 #[.string s, .string ⟨#[a]⟩, .string ⟨#[b]⟩] w fun e w' => e = .returned (.string (swapB a b s)) ∧ Below w.heap.size w w' := by
  have c := replace_one s a b w hs hab
  go_enter Tryd.func33, Tryd.ntmps33
  go_wp2_with (go_at_call 47; refine c.mono ?_; rintro e w' ⟨rfl, hb⟩)
  go_ret
  exact ⟨rfl, hb⟩
end Go.Proofs.YtkfikinjlbbibaaDoor
