/- (*strings.byteStringReplacer).Replace: plain lemmas. -/
import Derived.Test.YtjlgfcgdagikgaaDoorByte
import Derived.Test.YtjlgfcgdagikgaaDoorShelf
namespace Go.Proofs.YtjlgfcgdagikgaaDoor.repl
open Go.RowKit
open Go.Proofs.YtjlgfcgdagikgaaDoorW.PrintWords Go.Proofs.YtjlgfcgdagikgaaDoorW.PrintLast Go.Proofs.YtjlgfcgdagikgaaDoorW.PrintMore
set_option linter.unusedVariables false

def lenR (R : UInt8 → Option ByteArray) (c : UInt8) : Nat := match R c with | some v => v.size | none => 1
def repC (R : UInt8 → Option ByteArray) (c : UInt8) : List UInt8 := match R c with | some v => v.data.toList | none => [c]
def tot (R : UInt8 → Option ByteArray) (l : List UInt8) : Nat := (l.map (lenR R)).sum
def rep (R : UInt8 → Option ByteArray) (l : List UInt8) : List UInt8 := l.flatMap (repC R)
theorem repC_length (R : UInt8 → Option ByteArray) (c : UInt8) : (repC R c).length = lenR R c := by unfold repC lenR; cases R c <;> simp
theorem rep_length (R : UInt8 → Option ByteArray) (l : List UInt8) : (rep R l).length = tot R l := by
  induction l with
  | nil => rfl
  | cons c l ih => simp only [rep, tot, List.flatMap_cons, List.length_append, List.map_cons, List.sum_cons, repC_length] at ih ⊢; rw [← ih]
theorem tot_append (R : UInt8 → Option ByteArray) (l : List UInt8) (c : UInt8) : tot R (l ++ [c]) = tot R l + lenR R c := by simp [tot]
theorem rep_append (R : UInt8 → Option ByteArray) (l : List UInt8) (c : UInt8) : rep R (l ++ [c]) = rep R l ++ repC R c := by simp [rep]
theorem rep_same (R : UInt8 → Option ByteArray) (l : List UInt8) (h : ∀ c, c ∈ l → R c = none) : rep R l = l := by
  induction l with
  | nil => rfl
  | cons c l ih =>
    have h1 := ih (fun x hx => h x (by simp [hx]))
    have h2 : repC R c = [c] := by unfold repC; rw [h c (by simp)]
    simp only [rep, List.flatMap_cons] at h1 ⊢
    rw [h1, h2]
    rfl
theorem tot_le (R : UInt8 → Option ByteArray) (l : List UInt8) (n : Nat) (h : ∀ c, lenR R c ≤ n) : tot R l ≤ l.length * n := by
  induction l with
  | nil => simp [tot]
  | cons c l ih =>
    have := h c
    simp only [tot, List.map_cons, List.sum_cons, List.length_cons, Nat.add_mul, Nat.one_mul] at ih ⊢
    omega
theorem take_succ_at (s : ByteArray) (i : Nat) (h : i < s.size) : s.data.toList.take (i + 1) = s.data.toList.take i ++ [at_ s i] := by
  have h2 : i < s.data.toList.length := by simpa using h
  rw [List.take_add_one, List.getElem?_eq_getElem h2, ← at_list s i h2]
  rfl
theorem tot_pre (R : UInt8 → Option ByteArray) (s : ByteArray) (i : Nat) (h1 : ∀ c, 1 ≤ lenR R c) : i ≤ s.size → i ≤ tot R (s.data.toList.take i) := by
  induction i with
  | zero => intro _; exact Nat.zero_le _
  | succ i ih =>
    intro h
    rw [take_succ_at s i h, tot_append]
    have := h1 (at_ s i)
    have := ih (by omega)
    omega

def sumK (h : Nat → Nat) : Nat → Nat
  | 0 => 0
  | k + 1 => sumK h k + h k
theorem sumK_add (f h : Nat → Nat) (k : Nat) : sumK (fun q => f q + h q) k = sumK f k + sumK h k := by
  induction k with
  | zero => rfl
  | succ k ih => simp only [sumK, ih]; omega
theorem sumK_congr {f h : Nat → Nat} {k : Nat} (e : ∀ q, q < k → f q = h q) : sumK f k = sumK h k := by
  induction k with
  | zero => rfl
  | succ k ih => simp only [sumK]; rw [ih (fun q hq => e q (by omega)), e k (by omega)]
/-- one key at most is met -/
theorem sumK_pick (key : Nat → UInt8) (c : UInt8) (X : Nat → Nat) (k : Nat) (hd : ∀ p q, p < k → q < k → p ≠ q → key p ≠ key q) :
    (∃ q, q < k ∧ c = key q ∧ sumK (fun q => if c = key q then X q else 0) k = X q) ∨ ((∀ q, q < k → c ≠ key q) ∧ sumK (fun q => if c = key q then X q else 0) k = 0) := by
  induction k with
  | zero => exact .inr ⟨fun q h => by omega, rfl⟩
  | succ k ih =>
    simp only [sumK]
    rcases ih (fun p q h1 h2 => hd p q (by omega) (by omega)) with ⟨q, hq, he, hs⟩ | ⟨hn, hs⟩
    · refine .inl ⟨q, by omega, he, ?_⟩
      rw [hs, if_neg (fun h => hd q k (by omega) (by omega) (by omega) (by rw [← he, ← h]))]
      rfl
    · by_cases h : c = key k
      · exact .inl ⟨k, by omega, h, by rw [hs, if_pos h, Nat.zero_add]⟩
      · refine .inr ⟨fun q hq => ?_, by rw [hs, if_neg h]⟩
        rcases Nat.lt_succ_iff_lt_or_eq.1 hq with h' | h'
        · exact hn q h'
        · rw [h']; exact h

/-- what the counts come to -/
theorem count_tot (R : UInt8 → Option ByteArray) (key : Nat → UInt8) (k : Nat) (hd : ∀ p q, p < k → q < k → p ≠ q → key p ≠ key q) (hR : ∀ c, (∀ q, q < k → c ≠ key q) → R c = none) (l : List UInt8) :
    l.length + sumK (fun q => l.count (key q) * lenR R (key q)) k = tot R l + sumK (fun q => l.count (key q)) k := by
  induction l with
  | nil =>
    have h1 : sumK (fun q => ([] : List UInt8).count (key q) * lenR R (key q)) k = sumK (fun q => ([] : List UInt8).count (key q)) k := sumK_congr (fun q _ => by simp)
    rw [h1]
    rfl
  | cons c l ih =>
    have e1 : sumK (fun q => (c :: l).count (key q) * lenR R (key q)) k = sumK (fun q => l.count (key q) * lenR R (key q)) k + sumK (fun q => if c = key q then lenR R (key q) else 0) k := by
      rw [← sumK_add]
      refine sumK_congr (fun q _ => ?_)
      rw [List.count_cons]
      by_cases h : c = key q
      · simp [h, Nat.add_mul]
      · simp [h]
    have e2 : sumK (fun q => (c :: l).count (key q)) k = sumK (fun q => l.count (key q)) k + sumK (fun q => if c = key q then 1 else 0) k := by
      rw [← sumK_add]
      refine sumK_congr (fun q _ => ?_)
      rw [List.count_cons]
      by_cases h : c = key q
      · simp [h]
      · simp [h]
    have e3 : tot R (c :: l) = lenR R c + tot R l := by simp [tot]
    rw [e1, e2, e3, List.length_cons]
    rcases sumK_pick key c (fun q => lenR R (key q)) k hd with ⟨q, hq, he, hs⟩ | ⟨hn, hs⟩
    · rcases sumK_pick key c (fun _ => 1) k hd with ⟨q2, hq2, he2, hs2⟩ | ⟨hn2, hs2⟩
      · rw [hs, hs2, ← he]
        omega
      · exact absurd he (hn2 q hq)
    · rcases sumK_pick key c (fun _ => 1) k hd with ⟨q2, hq2, he2, hs2⟩ | ⟨hn2, hs2⟩
      · exact absurd he2 (hn q2 hq2)
      · have : lenR R c = 1 := by unfold lenR; rw [hR c hn]
        rw [hs, hs2, this]
        omega
theorem count_none (R : UInt8 → Option ByteArray) (key : Nat → UInt8) (k : Nat) (hR : ∀ c, (∀ q, q < k → c ≠ key q) → R c = none) (l : List UInt8) (h : ∀ q, q < k → l.count (key q) = 0) : rep R l = l :=
  rep_same R l (fun c hc => hR c (fun q hq e => by
    have := h q hq
    rw [← e] at this
    exact absurd hc (List.count_eq_zero.1 this)))
end Go.Proofs.YtjlgfcgdagikgaaDoor.repl
