/- vellumlaw12.said says what check.Say says. -/
import Derived.Test.YtjlgfcgdagikgaaDoorTabC
namespace Go.Proofs.YtjlgfcgdagikgaaDoor.says
open Go.RowKit
open Go.Proofs.YtjlgfcgdagikgaaDoor.repl Go.Proofs.YtjlgfcgdagikgaaDoor.PCheckSays
open Go.Proofs.YtjlgfcgdagikgaaDoorW.PrintWords Go.Proofs.YtjlgfcgdagikgaaDoorW.PrintLast Go.Proofs.YtjlgfcgdagikgaaDoorW.PrintMore
set_option linter.unusedVariables false
set_option linter.unusedSimpArgs false

theorem wordC_is (n : Nat) (h1 : 1 ≤ n) (h2 : n ≤ 21) : wordC (n : Int) = ⟨(wordsC.getD n []).toArray⟩ ∧ (⟨(wordsC.getD n []).toArray⟩ : ByteArray).toList.isEmpty = false := by
  have h := wordC_at ⟨n - 1, by omega⟩
  simp only [show n - 1 + 1 = n by omega] at h
  unfold wordC
  rw [h.1]
  exact ⟨rfl, h.2⟩
def noFault : ByteArray := ⟨#[110, 111, 32, 102, 97, 117, 108, 116]⟩
theorem chk_none (k a b c d : Int) (h : k < 1 ∨ 21 < k) : chkSay k a b c d = noFault := by
  unfold chkSay wordC
  rw [wordC_none k h]
  have : ((some (⟨#[]⟩ : ByteArray)).getD ⟨#[]⟩).toList.isEmpty = true := by decide +kernel
  rw [if_pos this]
  rfl
theorem chk_some (n : Nat) (a b c d : Int) (h1 : 1 ≤ n) (h2 : n ≤ 21) : chkSay n a b c d = ⟨(rep (repOf kc4 (kv4 (itB a) (itB b) (itB c) (itB d))) (wordC n).data.toList).toArray⟩ := by
  have h := wordC_is n h1 h2
  unfold chkSay
  rw [if_neg (by rw [h.1, h.2]; decide)]
  rfl
theorem app_rep (R : UInt8 → Option ByteArray) (s : ByteArray) (i : Nat) (h : i < s.size) (v : ByteArray) (hv : repC R (at_ s i) = v.data.toList) :
    (⟨(rep R (s.data.toList.take i)).toArray⟩ : ByteArray) ++ v = ⟨(rep R (s.data.toList.take (i + 1))).toArray⟩ := by
  apply ByteArray.ext
  rw [ByteArray.data_append, take_succ_at s i h, rep_append, hv, ← Array.toList_inj]
  simp only [Array.toList_append]

theorem extract_one (s : ByteArray) (i : Nat) (h : i < s.size) : s.extract i (i + 1) = ⟨#[at_ s i]⟩ := by
  apply ByteArray.ext
  rw [ByteArray.data_extract]
  have h2 : i < s.data.size := h
  apply Array.ext
  · rw [Array.size_extract]
    show min (i + 1) s.data.size - i = 1
    omega
  · intro j hj1 hj2
    have hj : j = 0 := by simpa using hj2
    subst hj
    simp only [Array.getElem_extract, Nat.add_zero]
    unfold at_
    rw [List.getD_eq_getElem?_getD, List.getElem?_eq_getElem (by simpa using h2)]
    simp
theorem slice_one (s : ByteArray) (i : Nat) (h : i < s.size) (w : World) :
    (Instr.slice 9 (.string s) (some (.int .i64 (i : Int))) (some (.int .i64 ((i : Int) + 1))) none).run Tryd.prog w = .ok (.string ⟨#[at_ s i]⟩) w := by
  have ht := Tryd.underlying9
  have h0 : (0 : Int) ≤ (i : Int) + 1 := by omega
  have h1 : (i : Int) + 1 ≤ s.size := by omega
  have h2 : (i : Int) ≤ (i : Int) + 1 := by omega
  have h3 : ((i : Int) + 1).toNat = i + 1 := by omega
  have h4 : i + 1 ≤ s.size := h
  rw [← extract_one s i h]
  simp [Instr.slice, run_underlying ht, Instr.sliceBounds, run_sliceBound, sliced, h0, h1, h2, h3, h4]

set_option maxRecDepth 100000 in
set_option maxHeartbeats 16000000 in
theorem said_calls (k a b c d : Int) (ha : fits a) (hb : fits b) (hc : fits c) (hd : fits d) (w : World) (hw : Words w) :
    Calls Tryd.prog 8 #[.agg #[.int .i64 k, .int .i64 a, .int .i64 b, .int .i64 c, .int .i64 d]] w fun e w' => e = .returned (.string (chkSay k a b c d)) ∧ Below w.heap.size w w' := by
  have HW := Aside0.mk hw
  have HR := Aside0.mk (And.intro ha (And.intro hb (And.intro hc hd)))
  have SA := (itB_size a ha.1 ha.2).2
  have SB := (itB_size b hb.1 hb.2).2
  have SC := (itB_size c hc.1 hc.2).2
  have SD := (itB_size d hd.1 hd.2).2
  clear hw ha hb hc hd
  go_enter Tryd.func8, Tryd.ntmps8
  go_upto_region 1 with (fail)
  obtain ⟨w1, hw1⟩ : ∃ w1, w1 = w.alloc (.cells #[.int .i64 k, .int .i64 a, .int .i64 b, .int .i64 c, .int .i64 d] 29) := ⟨_, rfl⟩
  obtain ⟨x, hx⟩ : ∃ x, x = w.heap.size := ⟨_, rfl⟩
  have h5 : Five w1 x k a b c d := by rw [hw1, hx]; exact five_new w k a b c d 29
  have HB1 := Aside0.mk (show Below w.heap.size w w1 by rw [hw1]; exact below_alloc (Below.refl _ _) _)
  rw [← hw1, ← hx]
  have c0 := h5.1
  have H5 := Aside0.mk h5
  clear hw1 hx h5
  by_cases h1 : k < 1
  · have HN := Aside0.mk (chk_none k a b c d (.inl h1))
    go_wp2_with (fail)
    go_ret
    exact ⟨by rw [HN.out]; rfl, HB1.out⟩
  by_cases h2 : 21 < k
  · have HN := Aside0.mk (chk_none k a b c d (.inr h2))
    have q1 : decide (k < 1) = false := decide_eq_false h1
    clear h1
    go_wp2_with (fail)
    go_ret
    exact ⟨by rw [HN.out]; rfl, HB1.out⟩
  obtain ⟨n, rfl⟩ : ∃ n : Nat, k = n := ⟨k.toNat, by omega⟩
  have hn1 : 1 ≤ n := by omega
  have hn2 : n ≤ 21 := by omega
  have HSay := Aside0.mk (chk_some n a b c d hn1 hn2)
  have hword := pw_cell_below HB1.out (HW.out n (by omega))
  rw [← (wordC_is n hn1 hn2).1] at hword
  obtain ⟨t, ht⟩ : ∃ t, t = wordC n := ⟨_, rfl⟩
  have HTs := Aside0.mk (show t.size ≤ 1000 by rw [ht]; exact wordC_size n)
  rw [← ht] at hword HSay
  have q1 : decide ((n : Int) < 1) = false := decide_eq_false h1
  have q2 : decide ((21 : Int) < n) = false := decide_eq_false h2
  have q3 : (n : Int) < 22 := by omega
  have q4 : n < 22 := by omega
  have q5 : (0 : Int) ≤ (n : Int) := by omega
  clear h1 h2 ht hn1 hn2
  go_wp2_with (fail)
  clear c0 hword q1 q2 q3 q4 q5
  obtain ⟨R, hR⟩ : ∃ R, R = repOf kc4 (kv4 (itB a) (itB b) (itB c) (itB d)) := ⟨_, rfl⟩
  rw [← hR] at HSay
  have HRd := Aside0.mk hR
  clear hR
  go_loopg [3, 5] t.size (fun g v3 v5 wx => ∃ i : Nat, i + g = t.size ∧ v5 = .int .i64 i ∧ v3 = .string ⟨(rep R (t.data.toList.take i)).toArray⟩ ∧ Aside0 ((⟨(rep R (t.data.toList.take i)).toArray⟩ : ByteArray).size ≤ i * 100) ∧ Aside0 (Below w1.heap.size w1 wx))
  case atStart => exact ⟨0, by omega, rfl, rfl, ⟨by simp [rep, ByteArray.size]⟩, ⟨Below.refl _ _⟩⟩
  case round =>
    obtain ⟨i, hi, rfl, rfl, HS, HB⟩ := hrel
    by_cases hin : i < t.size
    · have q1 : (i : Int) < t.size := by omega
      have hil : i ≤ 1000 := by have := HTs.out; omega
      obtain ⟨y, hy⟩ : ∃ y, y = at_ t i := ⟨_, rfl⟩
      have hg : ∀ h : i < t.size, t[i]'h = y := fun h => by rw [hy]; exact at_get t i h
      obtain ⟨S, hS⟩ : ∃ S : ByteArray, S = ⟨(rep R (t.data.toList.take i)).toArray⟩ := ⟨_, rfl⟩
      have hSl : S.size ≤ 100000 := by rw [hS]; have := HS.out; omega
      have HSt := Aside0.mk (fun v (hv : repC R y = v.data.toList) => (by rw [hS]; exact app_rep R t i hin v (by rw [← hy]; exact hv) : S ++ v = ⟨(rep R (t.data.toList.take (i + 1))).toArray⟩))
      have HSz := Aside0.mk (show S.size ≤ i * 100 by rw [hS]; exact HS.out)
      rw [← hS]
      have q5 : IntKind.i64.wrap ((i : Int) + 1) = i + 1 := by rw [IntKind.wrap_i64]; omega
      have hy2 := hy
      clear hS HS hy
      have beqT : ∀ m : UInt8, y = m → (((y.toNat : Nat) : Int) == ((m.toNat : Nat) : Int)) = true := fun m h => by rw [h]; exact beq_self_eq_true _
      have beqF : ∀ m : UInt8, y ≠ m → (((y.toNat : Nat) : Int) == ((m.toNat : Nat) : Int)) = false := fun m h => beq_eq_false_iff_ne.2 (fun e => h (UInt8.toNat_inj.1 (by omega)))
      by_cases h78 : y = 78
      · have e78 : (((y.toNat : Nat) : Int) == 78) = true := beqT 78 h78
        have HC := Aside0.mk (HSt.out (itB a) (by rw [HRd.out]; unfold repC repOf; rw [if_pos (show y = kc4 0 from h78)]; rfl))
        have hc := pw_cell_below HB.out H5.out.2.1
        clear beqT beqF hy2 h78
        go_wp2_with (go_at_call 14; refine (decimal_calls a HR.out.1 _).mono ?_; rintro e w3 ⟨rfl, hb3⟩; have HB3 := Aside0.mk (HB.out.trans (hb3.mono HB.out.size)); clear hb3)
        go_roundg (t.size - (i + 1))
        case measure => omega
        case rel => exact ⟨i + 1, by omega, by simp, by rw [HC.out], ⟨by rw [← HC.out, ByteArray.size_append]; have := HSz.out; omega⟩, HB3⟩
      by_cases h73 : y = 73
      · have e73 : (((y.toNat : Nat) : Int) == 73) = true := beqT 73 h73
        have e78 : (((y.toNat : Nat) : Int) == 78) = false := beqF 78 h78
        have HC := Aside0.mk (HSt.out (itB b) (by rw [HRd.out]; unfold repC repOf; rw [if_neg (show ¬ y = kc4 0 from h78)]; rw [if_pos (show y = kc4 1 from h73)]; rfl))
        have hc := pw_cell_below HB.out H5.out.2.2.1
        clear beqT beqF hy2 h78 h73
        go_wp2_with (go_at_call 14; refine (decimal_calls b HR.out.2.1 _).mono ?_; rintro e w3 ⟨rfl, hb3⟩; have HB3 := Aside0.mk (HB.out.trans (hb3.mono HB.out.size)); clear hb3)
        go_roundg (t.size - (i + 1))
        case measure => omega
        case rel => exact ⟨i + 1, by omega, by simp, by rw [HC.out], ⟨by rw [← HC.out, ByteArray.size_append]; have := HSz.out; omega⟩, HB3⟩
      by_cases h66 : y = 66
      · have e66 : (((y.toNat : Nat) : Int) == 66) = true := beqT 66 h66
        have e78 : (((y.toNat : Nat) : Int) == 78) = false := beqF 78 h78
        have e73 : (((y.toNat : Nat) : Int) == 73) = false := beqF 73 h73
        have HC := Aside0.mk (HSt.out (itB c) (by rw [HRd.out]; unfold repC repOf; rw [if_neg (show ¬ y = kc4 0 from h78)]; rw [if_neg (show ¬ y = kc4 1 from h73)]; rw [if_pos (show y = kc4 2 from h66)]; rfl))
        have hc := pw_cell_below HB.out H5.out.2.2.2.1
        clear beqT beqF hy2 h78 h73 h66
        go_wp2_with (go_at_call 14; refine (decimal_calls c HR.out.2.2.1 _).mono ?_; rintro e w3 ⟨rfl, hb3⟩; have HB3 := Aside0.mk (HB.out.trans (hb3.mono HB.out.size)); clear hb3)
        go_roundg (t.size - (i + 1))
        case measure => omega
        case rel => exact ⟨i + 1, by omega, by simp, by rw [HC.out], ⟨by rw [← HC.out, ByteArray.size_append]; have := HSz.out; omega⟩, HB3⟩
      by_cases h79 : y = 79
      · have e79 : (((y.toNat : Nat) : Int) == 79) = true := beqT 79 h79
        have e78 : (((y.toNat : Nat) : Int) == 78) = false := beqF 78 h78
        have e73 : (((y.toNat : Nat) : Int) == 73) = false := beqF 73 h73
        have e66 : (((y.toNat : Nat) : Int) == 66) = false := beqF 66 h66
        have HC := Aside0.mk (HSt.out (itB d) (by rw [HRd.out]; unfold repC repOf; rw [if_neg (show ¬ y = kc4 0 from h78)]; rw [if_neg (show ¬ y = kc4 1 from h73)]; rw [if_neg (show ¬ y = kc4 2 from h66)]; rw [if_pos (show y = kc4 3 from h79)]; rfl))
        have hc := pw_cell_below HB.out H5.out.2.2.2.2
        clear beqT beqF hy2 h78 h73 h66 h79
        go_wp2_with (go_at_call 14; refine (decimal_calls d HR.out.2.2.2 _).mono ?_; rintro e w3 ⟨rfl, hb3⟩; have HB3 := Aside0.mk (HB.out.trans (hb3.mono HB.out.size)); clear hb3)
        go_roundg (t.size - (i + 1))
        case measure => omega
        case rel => exact ⟨i + 1, by omega, by simp, by rw [HC.out], ⟨by rw [← HC.out, ByteArray.size_append]; have := HSz.out; omega⟩, HB3⟩
      have e78 : (((y.toNat : Nat) : Int) == 78) = false := beqF 78 h78
      have e73 : (((y.toNat : Nat) : Int) == 73) = false := beqF 73 h73
      have e66 : (((y.toNat : Nat) : Int) == 66) = false := beqF 66 h66
      have e79 : (((y.toNat : Nat) : Int) == 79) = false := beqF 79 h79
      have HC := Aside0.mk (HSt.out ⟨#[y]⟩ (by rw [HRd.out]; unfold repC; rw [repOf_none y (fun m hm => by match m, hm with | 0, _ => exact h78 | 1, _ => exact h73 | 2, _ => exact h66 | 3, _ => exact h79)]))
      clear beqT beqF h78 h73 h66 h79
      have hsl := slice_one t i hin wr
      rw [← hy2] at hsl
      clear hy2
      go_wp2_with (fail)
      go_roundg (t.size - (i + 1))
      case measure => omega
      case rel => exact ⟨i + 1, by omega, by simp, by rw [HC.out], ⟨by rw [← HC.out, ByteArray.size_append]; have := HSz.out; have h1 : (⟨#[y]⟩ : ByteArray).size = 1 := rfl; omega⟩, HB⟩
    · obtain rfl : i = t.size := by omega
      have h3 : t.data.toList.take t.size = t.data.toList := List.take_of_length_le (by simp)
      rw [h3, ← HSay.out]
      clear HSay HS h3
      go_wp2_with (fail)
      go_ret
      exact ⟨rfl, HB1.out.trans (HB.out.mono HB1.out.size)⟩
end Go.Proofs.YtjlgfcgdagikgaaDoor.says
