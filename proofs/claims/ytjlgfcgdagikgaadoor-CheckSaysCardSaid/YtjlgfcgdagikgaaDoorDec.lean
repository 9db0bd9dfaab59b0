/- What decimal answers: the number's decimal digits. -/
import Derived.Test.YtjlgfcgdagikgaaDoorDecimal
import Derived.Test.YtjlgfcgdagikgaaDoorSay
namespace Go.Proofs.YtjlgfcgdagikgaaDoor.says
open Go.RowKit
open Go.Proofs.YtjlgfcgdagikgaaDoor.repl Go.Proofs.YtjlgfcgdagikgaaDoor.PCheckSays
open Go.Proofs.YtjlgfcgdagikgaaDoorW.PrintWords Go.Proofs.YtjlgfcgdagikgaaDoorW.PrintLast Go.Proofs.YtjlgfcgdagikgaaDoorW.PrintMore
set_option linter.unusedVariables false
set_option linter.unusedSimpArgs false

theorem w64 (x : Int) (h0 : -9223372036854775808 ≤ x) (h1 : x ≤ 9223372036854775807) : wrap64 x = x := by
  rw [← i64_w, IntKind.wrap_i64]; omega

theorem dig_one (u : Nat) (acc : ByteArray) : strOfNums [((48 + (u % 10 : Nat) : Nat) : Int)] ++ acc = ⟨(UInt8.ofNat (48 + u % 10) :: acc.data.toList).toArray⟩ := by
  apply ByteArray.ext
  rw [ByteArray.data_append]
  unfold strOfNums
  rw [List.map_singleton, Int.toNat_natCast]
  rw [← Array.toList_inj]
  simp only [Array.toList_append, List.singleton_append]

theorem cons_size (x : UInt8) (acc : ByteArray) : (⟨(x :: acc.data.toList).toArray⟩ : ByteArray).size = acc.size + 1 := by
  show (x :: acc.data.toList).toArray.size = acc.data.size + 1
  rw [List.size_toArray, List.length_cons, Array.length_toList]
/-- the loop, from u digits on -/
theorem dec_loop (lb : Bool) : ∀ (u : Nat), 1 ≤ u → u ≤ 9223372036854775808 → ∀ (x : Int) (acc : ByteArray), (lb = true → x = -(u : Int)) → (lb = false → x = (u : Int)) → (lb = false → u ≤ 9223372036854775807) → acc.size + Lib.nDigits u ≤ 1000 →
    ∃ k, vellumlaw12_decimal.l0 k x acc lb = some ⟨((if lb = true then [45] else []) ++ Lib.decDigits u ++ acc.data.toList).toArray⟩ := by
  intro u
  induction u using Nat.strongRecOn with
  | ind u ih =>
    intro h1 h2 x acc hn hp hp2 hs
    have hx0 : ¬ x = 0 := by cases lb with
      | true => have := hn rfl; omega
      | false => have := hp rfl; omega
    have tm : Int.tmod (u : Int) 10 = ((u % 10 : Nat) : Int) := by rw [Int.tmod_eq_emod_of_nonneg (by omega)]; omega
    have td : Int.tdiv (u : Int) 10 = ((u / 10 : Nat) : Int) := by rw [Int.tdiv_eq_ediv_of_nonneg (by omega)]; omega
    have hdig : (if Int.tmod x 10 < 0 then wrap64 (48 + wrap64 (-(Int.tmod x 10))) % 256 else wrap64 (48 + Int.tmod x 10) % 256) = ((48 + u % 10 : Nat) : Int) := by
      cases lb with
      | false =>
        rw [hp rfl, tm, if_neg (by omega), w64 _ (by omega) (by omega)]
        omega
      | true =>
        rw [hn rfl, Int.neg_tmod, tm]
        by_cases hz : u % 10 = 0
        · rw [hz, if_neg (by decide)]
          rw [w64 _ (by decide) (by decide)]
          rfl
        · rw [if_pos (by omega), w64 (- -((u % 10 : Nat) : Int)) (by omega) (by omega), w64 _ (by omega) (by omega)]
          omega
    have hdiv : wrap64 (Int.tdiv x 10) = if lb = true then -((u / 10 : Nat) : Int) else ((u / 10 : Nat) : Int) := by
      cases lb with
      | false =>
        rw [hp rfl, td, w64 _ (by omega) (by omega)]
        rfl
      | true =>
        rw [hn rfl, Int.neg_tdiv, td, w64 _ (by omega) (by omega)]
        rfl
    have hstep : ∀ k, vellumlaw12_decimal.l0 (k + 1) x acc lb = vellumlaw12_decimal.l0 k (wrap64 (Int.tdiv x 10)) ⟨(UInt8.ofNat (48 + u % 10) :: acc.data.toList).toArray⟩ lb := by
      intro k
      have hd := dig_one u acc
      have hsz : ∀ d : Int, (strOfNums [d]).size + acc.size ≤ 9223372036854775807 := fun d => by
        have : (strOfNums [d]).size = 1 := rfl
        omega
      simp only [vellumlaw12_decimal.l0, if_neg hx0]
      by_cases hneg : Int.tmod x 10 < 0
      · rw [if_pos hneg] at hdig ⊢
        simp only [Option.bind_some, if_pos (hsz _)]
        rw [hdig, hd]
      · rw [if_neg hneg] at hdig ⊢
        simp only [Option.bind_some, if_pos (hsz _)]
        rw [hdig, hd]
    by_cases hlt : u < 10
    · have hz : u / 10 = 0 := by omega
      have hx' : wrap64 (Int.tdiv x 10) = 0 := by rw [hdiv, hz]; cases lb <;> rfl
      have hu : u % 10 = u := by omega
      refine ⟨2, ?_⟩
      rw [hstep 1, hx', Lib.decDigits_one hlt, hu]
      cases lb with
      | false =>
        simp only [vellumlaw12_decimal.l0]
        rfl
      | true =>
        have hsz : 1 + (⟨(UInt8.ofNat (48 + u) :: acc.data.toList).toArray⟩ : ByteArray).size ≤ 9223372036854775807 := by
          have := cons_size (UInt8.ofNat (48 + u)) acc
          omega
        simp only [vellumlaw12_decimal.l0, if_true, if_pos hsz]
        refine congrArg some (ByteArray.ext ?_)
        rw [ByteArray.data_append, ← Array.toList_inj]
        simp only [Array.toList_append]
        rfl
    · have hnd : Lib.nDigits u = Lib.nDigits (u / 10) + 1 := Lib.nDigits_big hlt
      have hsz := cons_size (UInt8.ofNat (48 + u % 10)) acc
      obtain ⟨k, hk⟩ := ih (u / 10) (by omega) (by omega) (by omega) (wrap64 (Int.tdiv x 10)) ⟨(UInt8.ofNat (48 + u % 10) :: acc.data.toList).toArray⟩
        (fun h => by rw [hdiv, if_pos h]) (fun h => by rw [hdiv, if_neg (by rw [h]; decide)]) (fun _ => by omega) (by rw [hsz]; omega)
      refine ⟨k + 1, ?_⟩
      rw [hstep k, hk]
      have hdd : Lib.decDigits u = Lib.decDigits (u / 10) ++ [UInt8.ofNat (48 + u % 10)] := by rw [Lib.decDigits, dif_neg hlt]
      rw [hdd]
      simp

theorem dec_ev (n : Int) (h : fits n) : ∃ k, vellumlaw12_decimal.f k n = some (itB n) := by
  unfold vellumlaw12_decimal.f itB Lib.itoa
  by_cases h0 : n = 0
  · subst h0
    refine ⟨0, ?_⟩
    rw [if_pos rfl, if_neg (by decide), Lib.decDigits_one (by decide)]
    rfl
  · simp only [if_neg h0]
    have hl : ∀ u : Nat, u ≤ 9223372036854775808 → (⟨#[]⟩ : ByteArray).size + Lib.nDigits u ≤ 1000 := fun u hu => by
      have := Lib.nDigits_le20 u (by omega)
      have h2 : (⟨#[]⟩ : ByteArray).size = 0 := rfl
      omega
    by_cases hneg : n < 0
    · obtain ⟨k, hk⟩ := dec_loop true n.natAbs (by omega) (by have := h.1; omega) n ⟨#[]⟩ (fun _ => by omega) (fun h => by cases h) (fun h => by cases h) (hl _ (by have := h.1; omega))
      refine ⟨k, ?_⟩
      rw [decide_eq_true hneg, hk, if_pos hneg]
      simp
    · obtain ⟨k, hk⟩ := dec_loop false n.toNat (by omega) (by have := h.2; omega) n ⟨#[]⟩ (fun h => by cases h) (fun _ => by omega) (fun _ => by have := h.2; omega) (hl _ (by have := h.2; omega))
      refine ⟨k, ?_⟩
      rw [decide_eq_false hneg, hk, if_neg hneg]
      simp

/-- vellumlaw12.decimal. -/
theorem decimal_calls (n : Int) (h : fits n) (w : World) : Calls Tryd.prog 14 #[.int .i64 n] w fun e w' => e = .returned (.string (itB n)) ∧ Below w.heap.size w w' := by
  obtain ⟨k, hk⟩ := dec_ev n h
  exact vellumlaw12_decimal.calls k n _ w hk
end Go.Proofs.YtjlgfcgdagikgaaDoor.says
