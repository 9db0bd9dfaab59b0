/- vellumref17.Say says what salvage.Say says. -/
import Derived.Test.YtjlgfcgdagikgaaDoorSav
namespace Go.Proofs.YtjlgfcgdagikgaaDoor.says
open Go.RowKit
open Go.Proofs.YtjlgfcgdagikgaaDoor.repl
open Go.Proofs.YtjlgfcgdagikgaaDoorW.PrintWords Go.Proofs.YtjlgfcgdagikgaaDoorW.PrintLast Go.Proofs.YtjlgfcgdagikgaaDoorW.PrintMore
set_option linter.unusedVariables false
set_option linter.unusedSimpArgs false

theorem eq_of_list {X Y : ByteArray} (h : X.data.toList = Y.data.toList) : X = Y := ByteArray.ext (by rw [← Array.toArray_toList (xs := X.data), h, Array.toArray_toList])

set_option maxRecDepth 100000 in
set_option maxHeartbeats 16000000 in
theorem ref_say (k a b c d : Int) (ha : fits a) (hb : fits b) (hc : fits c) (hd : fits d) (w : World) (ht : Tabs w) :
    Calls Tryd.prog 6 #[.agg #[.int .i64 k, .int .i64 a, .int .i64 b, .int .i64 c, .int .i64 d]] w fun e w' => e = .returned (.string (savSay k a b c d)) ∧ Below w.heap.size w w' := by
  have HT := Aside0.mk ht
  have HR := Aside0.mk (And.intro ha (And.intro hb (And.intro hc hd)))
  have SA := (itB_size a ha.1 ha.2).2
  have SB := (itB_size b hb.1 hb.2).2
  have SC := (itB_size c hc.1 hc.2).2
  have SD := (itB_size d hd.1 hd.2).2
  have HV : Aside0 (∀ n : Int, 1 ≤ n → n < 19 → savSay n a b c d = ⟨(rep (repOf kc4 (kv4 (itB a) (itB b) (itB c) (itB d))) (wordS n.toNat).data.toList).toArray⟩) := ⟨fun n h1 h2 => by
    unfold savSay said
    rw [if_neg (by omega)]⟩
  clear ht ha hb hc hd
  go_enter Tryd.func6, Tryd.ntmps6
  go_upto_region 1 with (fail)
  obtain ⟨w1, hw1⟩ : ∃ w1, w1 = w.alloc (.cells #[.int .i64 k, .int .i64 a, .int .i64 b, .int .i64 c, .int .i64 d] 25) := ⟨_, rfl⟩
  obtain ⟨x, hx⟩ : ∃ x, x = w.heap.size := ⟨_, rfl⟩
  have h5 : Five w1 x k a b c d := by rw [hw1, hx]; exact five_new w k a b c d 25
  have HB1 := Aside0.mk (show Below w.heap.size w w1 by rw [hw1]; exact below_alloc (Below.refl _ _) _)
  have HX := Aside0.mk (show x < w1.heap.size by rw [hw1, hx]; simp)
  rw [← hw1, ← hx]
  obtain ⟨c0, c1, c2, c3, c4⟩ := h5
  clear hw1 hx
  go_upto_region 2 with (go_at_call 11; refine (itoa_any a HR.out.1.1 HR.out.1.2 _ (tab_below HT.out HB1.out)).mono ?_; rintro e w2 ⟨rfl, hb2⟩; have d0 := pw_cell_below hb2 c0; have d2 := pw_cell_below hb2 c2; have d3 := pw_cell_below hb2 c3; have d4 := pw_cell_below hb2 c4; have HB2 := Aside0.mk (HB1.out.trans (hb2.mono HB1.out.size)); clear hb2)
  clear c0 c1 c2 c3 c4 HB1 HX
  go_upto_region 3 with (go_at_call 11; refine (itoa_any b HR.out.2.1.1 HR.out.2.1.2 _ (tab_below HT.out HB2.out)).mono ?_; rintro e w3 ⟨rfl, hb2⟩; have e0 := pw_cell_below hb2 d0; have e3 := pw_cell_below hb2 d3; have e4 := pw_cell_below hb2 d4; have HB3 := Aside0.mk (HB2.out.trans (hb2.mono HB2.out.size)); clear hb2)
  clear d0 d2 d3 d4 HB2
  go_upto_region 4 with (go_at_call 11; refine (itoa_any c HR.out.2.2.1.1 HR.out.2.2.1.2 _ (tab_below HT.out HB3.out)).mono ?_; rintro e w4 ⟨rfl, hb2⟩; have f0 := pw_cell_below hb2 e0; have f4 := pw_cell_below hb2 e4; have HB4 := Aside0.mk (HB3.out.trans (hb2.mono HB3.out.size)); clear hb2)
  clear e0 e3 e4 HB3
  go_upto_region 5 with (go_at_call 11; refine (itoa_any d HR.out.2.2.2.1 HR.out.2.2.2.2 _ (tab_below HT.out HB4.out)).mono ?_; rintro e w5 ⟨rfl, hb2⟩; have g0 := pw_cell_below hb2 f0; have HB5 := Aside0.mk (HB4.out.trans (hb2.mono HB4.out.size)); clear hb2)
  clear f0 f4 HB4 HT HR
  generalize itB a = A at SA HV ⊢
  generalize itB b = B at SB HV ⊢
  generalize itB c = C at SC HV ⊢
  generalize itB d = D at SD HV ⊢
  by_cases hk : k < 1 ∨ 19 ≤ k
  · have HO := Aside0.mk (show savSay k a b c d = noLoss by unfold savSay; rw [if_pos hk])
    clear HV
    have q1 : (k == 1) = false := beq_eq_false_iff_ne.2 (by omega)
    have q2 : (k == 2) = false := beq_eq_false_iff_ne.2 (by omega)
    have q3 : (k == 3) = false := beq_eq_false_iff_ne.2 (by omega)
    have q4 : (k == 4) = false := beq_eq_false_iff_ne.2 (by omega)
    have q5 : (k == 5) = false := beq_eq_false_iff_ne.2 (by omega)
    have q6 : (k == 6) = false := beq_eq_false_iff_ne.2 (by omega)
    have q7 : (k == 7) = false := beq_eq_false_iff_ne.2 (by omega)
    have q8 : (k == 8) = false := beq_eq_false_iff_ne.2 (by omega)
    have q9 : (k == 9) = false := beq_eq_false_iff_ne.2 (by omega)
    have q10 : (k == 10) = false := beq_eq_false_iff_ne.2 (by omega)
    have q11 : (k == 11) = false := beq_eq_false_iff_ne.2 (by omega)
    have q12 : (k == 12) = false := beq_eq_false_iff_ne.2 (by omega)
    have q13 : (k == 13) = false := beq_eq_false_iff_ne.2 (by omega)
    have q14 : (k == 14) = false := beq_eq_false_iff_ne.2 (by omega)
    have q15 : (k == 15) = false := beq_eq_false_iff_ne.2 (by omega)
    have q16 : (k == 16) = false := beq_eq_false_iff_ne.2 (by omega)
    have q17 : (k == 17) = false := beq_eq_false_iff_ne.2 (by omega)
    have q18 : (k == 18) = false := beq_eq_false_iff_ne.2 (by omega)
    clear hk
    go_wp2_with (fail)
    go_ret
    exact ⟨by rw [HO.out]; rfl, HB5.out⟩
  · have hk2 : k = 1 ∨ k = 2 ∨ k = 3 ∨ k = 4 ∨ k = 5 ∨ k = 6 ∨ k = 7 ∨ k = 8 ∨ k = 9 ∨ k = 10 ∨ k = 11 ∨ k = 12 ∨ k = 13 ∨ k = 14 ∨ k = 15 ∨ k = 16 ∨ k = 17 ∨ k = 18 := by omega
    clear hk
    rcases hk2 with rfl | rfl | rfl | rfl | rfl | rfl | rfl | rfl | rfl | rfl | rfl | rfl | rfl | rfl | rfl | rfl | rfl | rfl
    · have HS := Aside0.mk (HV.out 1 (by decide) (by decide))
      clear HV
      go_wp2_with (fail)
      go_ret
      refine ⟨?_, HB5.out⟩
      rw [HS.out]
      refine congrArg (fun z => Ending.returned (Value.string z)) (eq_of_list ?_)
      simp [rep, repC, repOf, kc4, kv4, wordS, wordsS, List.flatMap_cons, List.flatMap_nil]
    · have HS := Aside0.mk (HV.out 2 (by decide) (by decide))
      clear HV
      go_wp2_with (fail)
      go_ret
      refine ⟨?_, HB5.out⟩
      rw [HS.out]
      refine congrArg (fun z => Ending.returned (Value.string z)) (eq_of_list ?_)
      simp [rep, repC, repOf, kc4, kv4, wordS, wordsS, List.flatMap_cons, List.flatMap_nil]
    · have HS := Aside0.mk (HV.out 3 (by decide) (by decide))
      clear HV
      go_wp2_with (fail)
      go_ret
      refine ⟨?_, HB5.out⟩
      rw [HS.out]
      refine congrArg (fun z => Ending.returned (Value.string z)) (eq_of_list ?_)
      simp [rep, repC, repOf, kc4, kv4, wordS, wordsS, List.flatMap_cons, List.flatMap_nil]
    · have HS := Aside0.mk (HV.out 4 (by decide) (by decide))
      clear HV
      go_wp2_with (fail)
      go_ret
      refine ⟨?_, HB5.out⟩
      rw [HS.out]
      refine congrArg (fun z => Ending.returned (Value.string z)) (eq_of_list ?_)
      simp [rep, repC, repOf, kc4, kv4, wordS, wordsS, List.flatMap_cons, List.flatMap_nil]
    · have HS := Aside0.mk (HV.out 5 (by decide) (by decide))
      clear HV
      go_wp2_with (fail)
      go_ret
      refine ⟨?_, HB5.out⟩
      rw [HS.out]
      refine congrArg (fun z => Ending.returned (Value.string z)) (eq_of_list ?_)
      simp [rep, repC, repOf, kc4, kv4, wordS, wordsS, List.flatMap_cons, List.flatMap_nil]
    · have HS := Aside0.mk (HV.out 6 (by decide) (by decide))
      clear HV
      go_wp2_with (fail)
      go_ret
      refine ⟨?_, HB5.out⟩
      rw [HS.out]
      refine congrArg (fun z => Ending.returned (Value.string z)) (eq_of_list ?_)
      simp [rep, repC, repOf, kc4, kv4, wordS, wordsS, List.flatMap_cons, List.flatMap_nil]
    · have HS := Aside0.mk (HV.out 7 (by decide) (by decide))
      clear HV
      go_wp2_with (fail)
      go_ret
      refine ⟨?_, HB5.out⟩
      rw [HS.out]
      refine congrArg (fun z => Ending.returned (Value.string z)) (eq_of_list ?_)
      simp [rep, repC, repOf, kc4, kv4, wordS, wordsS, List.flatMap_cons, List.flatMap_nil]
    · have HS := Aside0.mk (HV.out 8 (by decide) (by decide))
      clear HV
      go_wp2_with (fail)
      go_ret
      refine ⟨?_, HB5.out⟩
      rw [HS.out]
      refine congrArg (fun z => Ending.returned (Value.string z)) (eq_of_list ?_)
      simp [rep, repC, repOf, kc4, kv4, wordS, wordsS, List.flatMap_cons, List.flatMap_nil]
    · have HS := Aside0.mk (HV.out 9 (by decide) (by decide))
      clear HV
      go_wp2_with (fail)
      go_ret
      refine ⟨?_, HB5.out⟩
      rw [HS.out]
      refine congrArg (fun z => Ending.returned (Value.string z)) (eq_of_list ?_)
      simp [rep, repC, repOf, kc4, kv4, wordS, wordsS, List.flatMap_cons, List.flatMap_nil]
    · have HS := Aside0.mk (HV.out 10 (by decide) (by decide))
      clear HV
      go_wp2_with (fail)
      go_ret
      refine ⟨?_, HB5.out⟩
      rw [HS.out]
      refine congrArg (fun z => Ending.returned (Value.string z)) (eq_of_list ?_)
      simp [rep, repC, repOf, kc4, kv4, wordS, wordsS, List.flatMap_cons, List.flatMap_nil]
    · have HS := Aside0.mk (HV.out 11 (by decide) (by decide))
      clear HV
      go_wp2_with (fail)
      go_ret
      refine ⟨?_, HB5.out⟩
      rw [HS.out]
      refine congrArg (fun z => Ending.returned (Value.string z)) (eq_of_list ?_)
      simp [rep, repC, repOf, kc4, kv4, wordS, wordsS, List.flatMap_cons, List.flatMap_nil]
    · have HS := Aside0.mk (HV.out 12 (by decide) (by decide))
      clear HV
      go_wp2_with (fail)
      go_ret
      refine ⟨?_, HB5.out⟩
      rw [HS.out]
      refine congrArg (fun z => Ending.returned (Value.string z)) (eq_of_list ?_)
      simp [rep, repC, repOf, kc4, kv4, wordS, wordsS, List.flatMap_cons, List.flatMap_nil]
    · have HS := Aside0.mk (HV.out 13 (by decide) (by decide))
      clear HV
      go_wp2_with (fail)
      go_ret
      refine ⟨?_, HB5.out⟩
      rw [HS.out]
      refine congrArg (fun z => Ending.returned (Value.string z)) (eq_of_list ?_)
      simp [rep, repC, repOf, kc4, kv4, wordS, wordsS, List.flatMap_cons, List.flatMap_nil]
    · have HS := Aside0.mk (HV.out 14 (by decide) (by decide))
      clear HV
      go_wp2_with (fail)
      go_ret
      refine ⟨?_, HB5.out⟩
      rw [HS.out]
      refine congrArg (fun z => Ending.returned (Value.string z)) (eq_of_list ?_)
      simp [rep, repC, repOf, kc4, kv4, wordS, wordsS, List.flatMap_cons, List.flatMap_nil]
    · have HS := Aside0.mk (HV.out 15 (by decide) (by decide))
      clear HV
      go_wp2_with (fail)
      go_ret
      refine ⟨?_, HB5.out⟩
      rw [HS.out]
      refine congrArg (fun z => Ending.returned (Value.string z)) (eq_of_list ?_)
      simp [rep, repC, repOf, kc4, kv4, wordS, wordsS, List.flatMap_cons, List.flatMap_nil]
    · have HS := Aside0.mk (HV.out 16 (by decide) (by decide))
      clear HV
      go_wp2_with (fail)
      go_ret
      refine ⟨?_, HB5.out⟩
      rw [HS.out]
      refine congrArg (fun z => Ending.returned (Value.string z)) (eq_of_list ?_)
      simp [rep, repC, repOf, kc4, kv4, wordS, wordsS, List.flatMap_cons, List.flatMap_nil]
    · have HS := Aside0.mk (HV.out 17 (by decide) (by decide))
      clear HV
      go_wp2_with (fail)
      go_ret
      refine ⟨?_, HB5.out⟩
      rw [HS.out]
      refine congrArg (fun z => Ending.returned (Value.string z)) (eq_of_list ?_)
      simp [rep, repC, repOf, kc4, kv4, wordS, wordsS, List.flatMap_cons, List.flatMap_nil]
    · have HS := Aside0.mk (HV.out 18 (by decide) (by decide))
      clear HV
      go_wp2_with (fail)
      go_ret
      refine ⟨?_, HB5.out⟩
      rw [HS.out]
      refine congrArg (fun z => Ending.returned (Value.string z)) (eq_of_list ?_)
      simp [rep, repC, repOf, kc4, kv4, wordS, wordsS, List.flatMap_cons, List.flatMap_nil]
end Go.Proofs.YtjlgfcgdagikgaaDoor.says
