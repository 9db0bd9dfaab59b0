/- check.Say: the words of a fault. -/
import Derived.Test.YtjlgfcgdagikgaaDoorSay
import Derived.Test.YtjlgfcgdagikgaaDoorSaying
namespace Go.Proofs.YtjlgfcgdagikgaaDoor.says
open Go.RowKit
open Go.Proofs.YtjlgfcgdagikgaaDoor.repl Go.Proofs.YtjlgfcgdagikgaaDoor.PCheckSays
open Go.Proofs.YtjlgfcgdagikgaaDoorW.PrintWords Go.Proofs.YtjlgfcgdagikgaaDoorW.PrintLast Go.Proofs.YtjlgfcgdagikgaaDoorW.PrintMore
set_option linter.unusedVariables false
set_option linter.unusedSimpArgs false

/-- The words of a fault's kind. -/
def wordC (k : Int) : ByteArray := (check_saying.f k).getD ⟨#[]⟩
theorem ite_some {p : Prop} [Decidable p] {t : ByteArray} {r : Option ByteArray} (ht : t.size ≤ 1000) (hr : ∃ u, r = some u ∧ u.size ≤ 1000) : ∃ u, (if p then some t else r) = some u ∧ u.size ≤ 1000 := by
  by_cases h : p
  · exact ⟨t, if_pos h, ht⟩
  · rw [if_neg h]; exact hr
theorem wordC_ex (k : Int) : ∃ u, check_saying.f k = some u ∧ u.size ≤ 1000 := by
  unfold check_saying.f
  repeat' first
    | exact ⟨_, rfl, by decide⟩
    | refine ite_some (by decide) ?_
theorem wordC_f (k : Int) : check_saying.f k = some (wordC k) := by
  obtain ⟨u, hu, _⟩ := wordC_ex k
  unfold wordC
  rw [hu]
  rfl
theorem wordC_size (k : Int) : (wordC k).size ≤ 1000 := by
  obtain ⟨u, hu, hs⟩ := wordC_ex k
  unfold wordC
  rw [hu]
  exact hs
def chkSay (k a b c d : Int) : ByteArray := if (wordC k).toList.isEmpty = true then ⟨#[110, 111, 32, 102, 97, 117, 108, 116]⟩ else said (wordC k) a b c d

theorem stand_below2 {w1 w w' : World} {x : Nat} {a b c d : Int} {B : Nat} (hx : x < w1.heap.size) (hb : Below B w w') (hB : w1.heap.size ≤ B) (h : Stand w1 x a b c d w) : Stand w1 x a b c d w' := stand_below hx hB hb h
set_option maxRecDepth 100000 in
set_option maxHeartbeats 8000000 in
theorem chk_say (k a b c d : Int) (ha : fits a) (hb : fits b) (hc : fits c) (hd : fits d) (w : World) (ht : Tabs w) :
    Calls Tryd.prog 7 #[.agg #[.int .i64 k, .int .i64 a, .int .i64 b, .int .i64 c, .int .i64 d]] w fun e w' => e = .returned (.string (chkSay k a b c d)) ∧ Below w.heap.size w w' := by
  have HT := Aside0.mk ht
  have HR := Aside0.mk (And.intro ha (And.intro hb (And.intro hc hd)))
  have HB0 := Aside0.mk (Below.refl w.heap.size w)
  clear ht ha hb hc hd
  go_enter Tryd.func7, Tryd.ntmps7
  go_upto_region 1 with (fail)
  obtain ⟨w1, hw1⟩ : ∃ w1, w1 = w.alloc (.cells #[.int .i64 k, .int .i64 a, .int .i64 b, .int .i64 c, .int .i64 d] 29) := ⟨_, rfl⟩
  obtain ⟨x, hx⟩ : ∃ x, x = w.heap.size := ⟨_, rfl⟩
  have h5 : Five w1 x k a b c d := by rw [hw1, hx]; exact five_new w k a b c d 29
  have HB1 := Aside0.mk (show Below w.heap.size w w1 by rw [hw1]; exact below_alloc (Below.refl _ _) _)
  have HX := Aside0.mk (show x < w1.heap.size by rw [hw1, hx]; simp)
  rw [← hw1, ← hx]
  have c0 := h5.1
  have H5 := Aside0.mk h5
  clear hw1 hx h5
  go_upto_if 8 with (go_at_call 13; refine (check_saying.calls k _ _ (wordC_f k)).mono ?_; rintro e w2 ⟨rfl, nd, rfl⟩)
  generalize he : (wordC k).toList.isEmpty = eb
  have HE := Aside0.mk he
  clear he
  cases eb with
  | true =>
    go_wp2_with (fail)
    go_ret
    exact ⟨by unfold chkSay; rw [if_pos HE.out]; rfl, pw_below_drewN HB1.out _⟩
  | false =>
    clear c0
    go_upto_region 4 with (fail)
    obtain ⟨w2, hw2⟩ : ∃ w2, w2 = w1.drewN nd := ⟨_, rfl⟩
    have H52 := Aside0.mk (show Five w2 x k a b c d by rw [hw2]; exact H5.out)
    have HB2 := Aside0.mk (show Below w.heap.size w w2 by rw [hw2]; exact pw_below_drewN HB1.out _)
    have HX2 := Aside0.mk (show x < w2.heap.size by rw [hw2]; exact HX.out)
    have HT2 := Aside0.mk (tab_below HT.out HB2.out)
    rw [← hw2]
    clear hw2 H5 HB1 HX HT HB0
    go_region_held3 (fun w' => Stand w2 x a b c d w')
      (first | exact stand_start H52.out | (go_split_ands; first
        | exact stand_below HX2.out (Aside0.out (by assumption : Aside0 (Below w2.heap.size w2 _))).size (by assumption) ⟨by assumption, by assumption, by assumption, by assumption, by assumption⟩
        | exact stand_below2 HX2.out (by assumption) (by assumption) ⟨by assumption, by assumption, by assumption, by assumption, by assumption⟩
        | exact stand_alloc HX2.out _ ⟨by assumption, by assumption, by assumption, by assumption, by assumption⟩))
      (first
        | (go_at_call 11; refine (itoa_any _ (by first | exact HR.out.1.1 | exact HR.out.2.1.1 | exact HR.out.2.2.1.1 | exact HR.out.2.2.2.1) (by first | exact HR.out.1.2 | exact HR.out.2.1.2 | exact HR.out.2.2.1.2 | exact HR.out.2.2.2.2) _ (tab_below HT2.out (by go_split_ands; exact (Aside0.out (by assumption : Aside0 (Below w2.heap.size w2 _)))))).mono ?_; rintro e w3 ⟨rfl, hb3⟩)
        | (go_at_call 10; refine (new_replacer _ 8 kc4 (kv4 (itB a) (itB b) (itB c) (itB d)) _ (old4 _ _ _ _ _)).mono ?_; rintro e w4 ⟨r, o', cap', rfl, hr4, hf4, hb4⟩; have hr5 : w2.heap.size ≤ r := Nat.le_trans (by go_split_ands; exact (Aside0.out (by assumption : Aside0 (Below w2.heap.size w2 _))).size) hr4)
        | (go_at_call 12; refine (replacer_any _ _ _ kc4 (kv4 (itB a) (itB b) (itB c) (itB d)) (wordC k) _ (by assumption) (wordC_size k) kc4_ne (kv4_size a b c d HR.out.1 HR.out.2.1 HR.out.2.2.1 HR.out.2.2.2)).mono ?_; rintro e w5 ⟨rfl, hb5⟩))
    go_wp2_with (fail)
    go_ret
    go_split_ands
    exact ⟨by unfold chkSay; rw [if_neg (by rw [HE.out]; decide)]; rfl, HB2.out.trans ((Aside0.out (by assumption : Aside0 (Below w2.heap.size w2 _))).mono HB2.out.size)⟩
end Go.Proofs.YtjlgfcgdagikgaaDoor.says
