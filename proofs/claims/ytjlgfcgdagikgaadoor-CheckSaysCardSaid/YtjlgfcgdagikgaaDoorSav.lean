/- salvage.Say: the words of a loss. -/
import Derived.Test.YtjlgfcgdagikgaaDoorSay
namespace Go.Proofs.YtjlgfcgdagikgaaDoor.says
open Go.RowKit
open Go.Proofs.YtjlgfcgdagikgaaDoor.repl
open Go.Proofs.YtjlgfcgdagikgaaDoorW.PrintWords Go.Proofs.YtjlgfcgdagikgaaDoorW.PrintLast Go.Proofs.YtjlgfcgdagikgaaDoorW.PrintMore
set_option linter.unusedVariables false
set_option linter.unusedSimpArgs false

def wordsS : List ByteArray := [
  ⟨#[]⟩,
  ⟨#[110, 111, 32, 115, 117, 112, 101, 114, 98, 108, 111, 99, 107]⟩,
  ⟨#[110, 111, 32, 108, 111, 103, 58, 32, 101, 114, 114, 111, 114, 32, 79]⟩,
  ⟨#[114, 101, 99, 111, 114, 100, 32, 73, 32, 98, 114, 111, 107, 101, 110, 58, 32, 79, 32, 108, 101, 116, 32, 103, 111]⟩,
  ⟨#[110, 111, 32, 114, 111, 111, 116]⟩,
  ⟨#[110, 111, 100, 101, 32, 78, 58, 32, 98, 114, 111, 107, 101, 110, 32, 115, 108, 111, 116]⟩,
  ⟨#[110, 111, 100, 101, 32, 78, 58, 32, 105, 110, 100, 101, 120, 32, 73, 44, 32, 100, 101, 112, 116, 104, 32, 79, 58, 32, 112, 111, 105, 110, 116, 101, 114, 32, 66, 32, 111, 117, 116, 32, 111, 102, 32, 114, 97, 110, 103, 101]⟩,
  ⟨#[110, 111, 100, 101, 32, 78, 58, 32, 105, 110, 100, 101, 120, 32, 73, 44, 32, 100, 101, 112, 116, 104, 32, 79, 58, 32, 98, 108, 111, 99, 107, 32, 66, 32, 105, 115, 32, 97, 110, 111, 116, 104, 101, 114, 39, 115]⟩,
  ⟨#[110, 111, 100, 101, 32, 78, 58, 32, 105, 110, 100, 101, 120, 32, 73, 58, 32, 98, 108, 111, 99, 107, 32, 66, 32, 98, 101, 104, 105, 110, 100, 32, 116, 104, 101, 32, 115, 105, 122, 101]⟩,
  ⟨#[110, 111, 100, 101, 32, 78, 58, 32, 105, 110, 100, 101, 120, 32, 73, 58, 32, 98, 108, 111, 99, 107, 32, 66, 32, 104, 97, 115, 32, 98, 121, 116, 101, 115, 32, 98, 101, 104, 105, 110, 100, 32, 116, 104, 101, 32, 115, 105, 122, 101]⟩,
  ⟨#[110, 111, 100, 101, 32, 78, 58, 32, 79, 32, 104, 111, 108, 101, 115, 32, 105, 110, 32, 97, 32, 100, 105, 114, 101, 99, 116, 111, 114, 121]⟩,
  ⟨#[110, 111, 100, 101, 32, 78, 58, 32, 115, 108, 111, 116, 32, 73, 58, 32, 98, 114, 111, 107, 101, 110, 32, 101, 110, 116, 114, 121]⟩,
  ⟨#[110, 111, 100, 101, 32, 78, 58, 32, 115, 108, 111, 116, 32, 73, 58, 32, 97, 32, 110, 97, 109, 101, 32, 116, 119, 105, 99, 101]⟩,
  ⟨#[110, 111, 100, 101, 32, 78, 58, 32, 115, 108, 111, 116, 32, 73, 58, 32, 101, 110, 116, 114, 121, 32, 111, 102, 32, 110, 111, 100, 101, 32, 79]⟩,
  ⟨#[110, 111, 100, 101, 32, 78, 58, 32, 110, 111, 32, 116, 101, 120, 116]⟩,
  ⟨#[110, 111, 100, 101, 32, 78, 58, 32, 115, 108, 111, 116, 32, 73, 58, 32, 100, 105, 114, 101, 99, 116, 111, 114, 121, 32, 79, 32, 111, 110, 99, 101, 32, 109, 111, 114, 101]⟩,
  ⟨#[110, 111, 100, 101, 32, 78, 58, 32, 115, 108, 111, 116, 32, 73, 58, 32, 116, 104, 101, 32, 112, 97, 116, 104, 32, 111, 102, 32, 110, 111, 100, 101, 32, 79, 32, 105, 115, 32, 116, 111, 111, 32, 108, 111, 110, 103]⟩,
  ⟨#[110, 111, 100, 101, 32, 78, 58, 32, 108, 111, 111, 115, 101]⟩,
  ⟨#[79, 32, 105, 116, 101, 109, 115, 32, 116, 111, 111, 32, 109, 97, 110, 121]⟩]
def wordS (k : Nat) : ByteArray := wordsS.getD k ⟨#[]⟩
theorem wordS_size (k : Nat) : (wordS k).size ≤ 1000 := by
  have h : ∀ j : Fin 19, (wordS j.1).size ≤ 1000 := by decide
  by_cases hk : k < 19
  · exact h ⟨k, hk⟩
  · unfold wordS
    rw [List.getD_eq_getElem?_getD, List.getElem?_eq_none (by have : wordsS.length = 19 := rfl; omega)]
    decide

set_option maxRecDepth 100000 in
set_option maxHeartbeats 8000000 in
theorem sayings_calls (w : World) :
    Calls Tryd.prog 9 #[] w fun e w' => ∃ x, e = .returned (.slice (some ⟨x, 0, none⟩) 19 19) ∧ (∀ k, k < 19 → w'.cell? ⟨x, k, none⟩ = some (.string (wordS k))) ∧ Below w.heap.size w w' := by
  go_enter Tryd.func9, Tryd.ntmps9
  go_wp2_with (fail)
  go_ret
  refine ⟨w.heap.size, rfl, fun k hk => ?_, ?_⟩
  · rw [cell_of_row _ _ k _ 9 (0, 0) (heap_alloc_last w _)]
    match k, hk with
    | 0, _ => exact rfl
    | 1, _ => exact rfl
    | 2, _ => exact rfl
    | 3, _ => exact rfl
    | 4, _ => exact rfl
    | 5, _ => exact rfl
    | 6, _ => exact rfl
    | 7, _ => exact rfl
    | 8, _ => exact rfl
    | 9, _ => exact rfl
    | 10, _ => exact rfl
    | 11, _ => exact rfl
    | 12, _ => exact rfl
    | 13, _ => exact rfl
    | 14, _ => exact rfl
    | 15, _ => exact rfl
    | 16, _ => exact rfl
    | 17, _ => exact rfl
    | 18, _ => exact rfl
    | k + 19, h => exact absurd h (by omega)
  · exact below_alloc (Below.refl _ w) _

def noLoss : ByteArray := ⟨#[110, 111, 32, 108, 111, 115, 115]⟩
def savSay (k a b c d : Int) : ByteArray := if k < 1 ∨ 19 ≤ k then noLoss else said (wordS k.toNat) a b c d

/-- The words' cell too. -/
abbrev Stand2 (w1 : World) (x : Nat) (a b c d : Int) (y j : Nat) (k : Int) (t : ByteArray) (w' : World) : Prop :=
  w'.cell? ⟨x, 1, none⟩ = some (.int .i64 a) ∧ w'.cell? ⟨x, 2, none⟩ = some (.int .i64 b) ∧ w'.cell? ⟨x, 3, none⟩ = some (.int .i64 c) ∧ w'.cell? ⟨x, 4, none⟩ = some (.int .i64 d) ∧
    w'.cell? ⟨x, 0, none⟩ = some (.int .i64 k) ∧ w'.cell? ⟨y, j, none⟩ = some (.string t) ∧ Aside0 (Below w1.heap.size w1 w')
theorem stand2_start {w1 : World} {x y j : Nat} {k a b c d : Int} {t : ByteArray} (h : Five w1 x k a b c d) (hy : w1.cell? ⟨y, j, none⟩ = some (.string t)) : Stand2 w1 x a b c d y j k t w1.drew :=
  ⟨h.2.1, h.2.2.1, h.2.2.2.1, h.2.2.2.2, h.1, hy, ⟨below_drew (Below.refl _ _)⟩⟩
theorem stand2_below {w1 w w' : World} {x y j : Nat} {a b c d k : Int} {t : ByteArray} {B : Nat} (hx : x < w1.heap.size ∧ y < w1.heap.size) (hb : Below B w w') (hB : w1.heap.size ≤ B) (h : Stand2 w1 x a b c d y j k t w) : Stand2 w1 x a b c d y j k t w' := by
  have e : ∀ j, w'.cell? ⟨x, j, none⟩ = w.cell? ⟨x, j, none⟩ := fun j => hb.cell (by show x < B; omega)
  have e2 : ∀ j, w'.cell? ⟨y, j, none⟩ = w.cell? ⟨y, j, none⟩ := fun j => hb.cell (by show y < B; omega)
  obtain ⟨h1, h2, h3, h4, h0, h6, h5⟩ := h
  exact ⟨by rw [e]; exact h1, by rw [e]; exact h2, by rw [e]; exact h3, by rw [e]; exact h4, by rw [e]; exact h0, by rw [e2]; exact h6, ⟨h5.out.trans (hb.mono hB)⟩⟩
theorem stand2_alloc {w1 w : World} {x y j : Nat} {a b c d k : Int} {t : ByteArray} (hx : x < w1.heap.size ∧ y < w1.heap.size) (o : Obj) (h : Stand2 w1 x a b c d y j k t w) : Stand2 w1 x a b c d y j k t (w.alloc o) :=
  stand2_below hx (below_alloc_le (h.2.2.2.2.2.2.out.size) o) (Nat.le_refl _) h

set_option maxRecDepth 100000 in
set_option maxHeartbeats 8000000 in
theorem sav_say (k a b c d : Int) (ha : fits a) (hb : fits b) (hc : fits c) (hd : fits d) (w : World) (ht : Tabs w) :
    Calls Tryd.prog 5 #[.agg #[.int .i64 k, .int .i64 a, .int .i64 b, .int .i64 c, .int .i64 d]] w fun e w' => e = .returned (.string (savSay k a b c d)) ∧ Below w.heap.size w w' := by
  have HT := Aside0.mk ht
  have HR := Aside0.mk (And.intro ha (And.intro hb (And.intro hc hd)))
  clear ht ha hb hc hd
  go_enter Tryd.func5, Tryd.ntmps5
  go_upto_region 1 with (fail)
  obtain ⟨w1, hw1⟩ : ∃ w1, w1 = w.alloc (.cells #[.int .i64 k, .int .i64 a, .int .i64 b, .int .i64 c, .int .i64 d] 25) := ⟨_, rfl⟩
  obtain ⟨x, hx⟩ : ∃ x, x = w.heap.size := ⟨_, rfl⟩
  have h5 : Five w1 x k a b c d := by rw [hw1, hx]; exact five_new w k a b c d 25
  have HB1 := Aside0.mk (show Below w.heap.size w w1 by rw [hw1]; exact below_alloc (Below.refl _ _) _)
  have HX := Aside0.mk (show x < w1.heap.size by rw [hw1, hx]; simp)
  rw [← hw1, ← hx]
  have H5 := Aside0.mk h5
  clear hw1 hx h5
  go_upto_region 2 with (go_at_call 9; refine (sayings_calls _).mono ?_; rintro e w2 ⟨y, rfl, hy, hb2⟩; have HY := Aside0.mk (And.intro hy hb2); have c0 := (hb2.cell (p := ⟨x, 0, none⟩) HX.out).trans H5.out.1; clear hy hb2)
  have HB2 := Aside0.mk (HB1.out.trans (HY.out.2.mono HB1.out.size))
  have H52 := Aside0.mk (show Five w2 x k a b c d from by
    have e : ∀ j, w2.cell? ⟨x, j, none⟩ = w1.cell? ⟨x, j, none⟩ := fun j => HY.out.2.cell HX.out
    obtain ⟨h0, h1, h2, h3, h4⟩ := H5.out
    exact ⟨by rw [e]; exact h0, by rw [e]; exact h1, by rw [e]; exact h2, by rw [e]; exact h3, by rw [e]; exact h4⟩)
  by_cases h1 : k < 1
  · have H1 := Aside0.mk h1
    go_wp2_with (fail)
    go_ret
    exact ⟨by unfold savSay; rw [if_pos (.inl H1.out)]; rfl, HB2.out⟩
  by_cases h2 : 19 ≤ k
  · have H1 := Aside0.mk h2
    have q1 : decide (k < 1) = false := decide_eq_false h1
    clear h1
    go_wp2_with (fail)
    go_ret
    exact ⟨by unfold savSay; rw [if_pos (.inr H1.out)]; rfl, HB2.out⟩
  obtain ⟨n, rfl⟩ : ∃ n : Nat, k = n := ⟨k.toNat, by omega⟩
  have hn : n < 19 := by omega
  have HY2 := Aside0.mk (HY.out.1 n hn)
  have HSay := Aside0.mk (show savSay n a b c d = said (wordS n) a b c d by unfold savSay; rw [if_neg (by omega), Int.toNat_natCast])
  have q1 : decide ((n : Int) < 1) = false := decide_eq_false h1
  have q2 : decide (19 ≤ (n : Int)) = false := decide_eq_false h2
  have q3 : (n : Int) < 19 := by omega
  have q4 : (0 : Int) ≤ (n : Int) := by omega
  clear h1 h2
  go_upto_region 4 with (fail)
  have HX2 := Aside0.mk (show x < w2.heap.size ∧ y < w2.heap.size from ⟨World.block_lt_of_cell? _ _ c0, World.block_lt_of_cell? _ _ HY2.out⟩)
  have HT2 := Aside0.mk (tab_below HT.out HB2.out)
  clear H5 HB1 HX HT HY c0
  go_region_held3 (fun w' => Stand2 w2 x a b c d y n n (wordS n) w')
    (first | exact stand2_start H52.out HY2.out | (go_split_ands; first
      | exact stand2_below HX2.out (by assumption) (Aside0.out (by assumption : Aside0 (Below w2.heap.size w2 _))).size ⟨by assumption, by assumption, by assumption, by assumption, by assumption, by assumption, by assumption⟩
      | exact stand2_below HX2.out (by assumption) (by assumption) ⟨by assumption, by assumption, by assumption, by assumption, by assumption, by assumption, by assumption⟩
      | exact stand2_alloc HX2.out _ ⟨by assumption, by assumption, by assumption, by assumption, by assumption, by assumption, by assumption⟩))
    (first
      | (go_at_call 11; refine (itoa_any _ (by first | exact HR.out.1.1 | exact HR.out.2.1.1 | exact HR.out.2.2.1.1 | exact HR.out.2.2.2.1) (by first | exact HR.out.1.2 | exact HR.out.2.1.2 | exact HR.out.2.2.1.2 | exact HR.out.2.2.2.2) _ (tab_below HT2.out (by go_split_ands; exact (Aside0.out (by assumption : Aside0 (Below w2.heap.size w2 _)))))).mono ?_; rintro e w3 ⟨rfl, hb3⟩)
      | (go_at_call 10; refine (new_replacer _ 8 kc4 (kv4 (itB a) (itB b) (itB c) (itB d)) _ (old4 _ _ _ _ _)).mono ?_; rintro e w4 ⟨r, o', cap', rfl, hr4, hf4, hb4⟩; have hr5 : w2.heap.size ≤ r := Nat.le_trans (by go_split_ands; exact (Aside0.out (by assumption : Aside0 (Below w2.heap.size w2 _))).size) hr4)
      | (go_at_call 12; refine (replacer_any _ _ _ kc4 (kv4 (itB a) (itB b) (itB c) (itB d)) (wordS n) _ (by assumption) (wordS_size n) kc4_ne (kv4_size a b c d HR.out.1 HR.out.2.1 HR.out.2.2.1 HR.out.2.2.2)).mono ?_; rintro e w5 ⟨rfl, hb5⟩))
  go_wp2_with (fail)
  go_ret
  go_split_ands
  exact ⟨by rw [HSay.out]; rfl, HB2.out.trans ((Aside0.out (by assumption : Aside0 (Below w2.heap.size w2 _))).mono HB2.out.size)⟩
end Go.Proofs.YtjlgfcgdagikgaaDoor.says
