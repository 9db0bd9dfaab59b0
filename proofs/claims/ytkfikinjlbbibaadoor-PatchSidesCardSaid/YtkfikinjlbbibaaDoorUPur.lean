/- Packed by this session's own program (wip/tools/pack.py): what the claim needs of its texts. -/
import Derived.Test.YtkfikinjlbbibaaDoorUMrg
import Derived.KernelRfl
section
namespace Go.Proofs.YtkfikinjlbbibaaDoor
open Go.RowKit Go.Lib
open Go.Proofs.YtkfikinjlbbibaaDoorW.PrintWords Go.Proofs.YtkfikinjlbbibaaDoorW.PrintLast Go.Proofs.YtkfikinjlbbibaaDoor.PT
set_option linter.unusedVariables false
set_option linter.unusedSimpArgs false
theorem less_irrefl : ∀ a : List UInt8, Op.bytesLess a a = false
  | [] => rfl
  | a :: l => by
    have : ¬ a < a := by simp [UInt8.lt_iff_toNat_lt]
    simp [Op.bytesLess, this, less_irrefl l]
theorem less_trans : ∀ {a b c : List UInt8}, Op.bytesLess a b = true → Op.bytesLess b c = true → Op.bytesLess a c = true
  | a, b, [], _, h => by cases b <;> cases h
  | [], b, c :: z, _, _ => rfl
  | a :: x, [], c :: z, h, _ => by cases h
  | a :: x, b :: y, c :: z, h1, h2 => by
    simp only [Op.bytesLess, Bool.or_eq_true, Bool.and_eq_true, decide_eq_true_eq, beq_iff_eq] at h1 h2 ⊢
    rcases h1 with h1 | ⟨rfl, h1⟩
    · rcases h2 with h2 | ⟨rfl, h2⟩
      · exact .inl (by rw [UInt8.lt_iff_toNat_lt] at *; omega)
      · exact .inl h1
    · rcases h2 with h2 | ⟨rfl, h2⟩
      · exact .inl h2
      · exact .inr ⟨rfl, less_trans h1 h2⟩
theorem less_tri : ∀ {a b : List UInt8}, Op.bytesLess a b = false → Op.bytesLess b a = false → a = b
  | [], [], _, _ => rfl
  | [], b :: y, h, _ => by cases h
  | a :: x, [], _, h => by cases h
  | a :: x, b :: y, h1, h2 => by
    simp only [Op.bytesLess, Bool.or_eq_false_iff, Bool.and_eq_false_iff, decide_eq_false_iff_not, beq_eq_false_iff_ne] at h1 h2
    have e : a = b := by
      have h3 := h1.1
      have h4 := h2.1
      rw [UInt8.lt_iff_toNat_lt] at h3 h4
      exact UInt8.toNat_inj.1 (by omega)
    subst e
    rw [less_tri (h1.2.resolve_left (fun h => h rfl)) (h2.2.resolve_left (fun h => h rfl))]
theorem less_ne {a b : List UInt8} (h : Op.bytesLess a b = true) : a ≠ b := fun e => by
  subst e
  rw [less_irrefl] at h
  cases h
def joinL : List (List UInt8) → List UInt8
  | [] => []
  | a :: l => 47 :: (a ++ joinL l)
def tailZ : List (List UInt8) → List UInt8
  | [] => []
  | a :: l => 0 :: (a ++ tailZ l)
def aheadL : List (List UInt8) → List (List UInt8) → Bool
  | [], [] => false
  | [], _ :: _ => true
  | _ :: _, [] => false
  | a :: l, b :: m => if a = b then aheadL l m else Op.bytesLess a b
theorem aheadP_L : ∀ l m : List ByteArray, aheadP l m = aheadL (l.map bs) (m.map bs)
  | [], [] => rfl
  | [], _ :: _ => rfl
  | _ :: _, [] => rfl
  | a :: l, b :: m => by
    rw [aheadP, List.map_cons, List.map_cons, aheadL, aheadP_L l m]
theorem cut_less : ∀ {a b : List UInt8} {X Y : List UInt8}, (∀ c ∈ a, c ≠ 0) → (∀ c ∈ b, c ≠ 0) → (X = [] ∨ ∃ X', X = 0 :: X') → (Y = [] ∨ ∃ Y', Y = 0 :: Y') →
    Op.bytesLess (a ++ X) (b ++ Y) = if a = b then Op.bytesLess X Y else Op.bytesLess a b
  | [], [], X, Y, _, _, _, _ => by simp
  | [], b :: y, X, Y, _, hb, hX, _ => by
    have hb0 := hb b List.mem_cons_self
    rcases hX with rfl | ⟨X', rfl⟩
    · simp [Op.bytesLess]
    · have : (0 : UInt8) < b := by
        rw [UInt8.lt_iff_toNat_lt]
        have : b.toNat ≠ 0 := fun e => hb0 (UInt8.toNat_inj.1 e)
        simp
        omega
      simp [Op.bytesLess, this]
  | a :: x, [], X, Y, ha, _, _, hY => by
    have ha0 := ha a List.mem_cons_self
    rcases hY with rfl | ⟨Y', rfl⟩
    · simp [Op.bytesLess]
    · have : ¬ a < (0 : UInt8) := by
        rw [UInt8.lt_iff_toNat_lt]
        simp
      simp [Op.bytesLess, this, ha0]
  | a :: x, b :: y, X, Y, ha, hb, hX, hY => by
    have ih := cut_less (a := x) (b := y) (fun c h => ha c (List.mem_cons_of_mem _ h)) (fun c h => hb c (List.mem_cons_of_mem _ h)) hX hY
    rw [List.cons_append, List.cons_append, Op.bytesLess, ih]
    by_cases e : a = b
    · subst e
      by_cases e2 : x = y
      · subst e2
        have : ¬ a < a := by simp [UInt8.lt_iff_toNat_lt]
        simp [this]
      · rw [if_neg e2, if_neg (fun h => e2 (List.cons.inj h).2), Op.bytesLess]
    · rw [if_neg (fun h => e (List.cons.inj h).1), Op.bytesLess]
      have : (a == b) = false := beq_eq_false_iff_ne.2 e
      rw [this, Bool.false_and, Bool.false_and]
theorem tail_less : ∀ {l m : List (List UInt8)}, (∀ a ∈ l, ∀ c ∈ a, c ≠ 0) → (∀ a ∈ m, ∀ c ∈ a, c ≠ 0) → Op.bytesLess (tailZ l) (tailZ m) = aheadL l m
  | [], [], _, _ => rfl
  | [], b :: m, _, _ => rfl
  | a :: l, [], _, _ => rfl
  | a :: l, b :: m, h1, h2 => by
    have ht : ∀ l : List (List UInt8), tailZ l = [] ∨ ∃ X', tailZ l = 0 :: X' := fun l => by
      cases l with
      | nil => exact .inl rfl
      | cons a l => exact .inr ⟨_, rfl⟩
    have h0 : ¬ (0 : UInt8) < 0 := by decide
    rw [tailZ, tailZ, Op.bytesLess, cut_less (h1 a List.mem_cons_self) (h2 b List.mem_cons_self) (ht l) (ht m), aheadL, tail_less (fun x hx => h1 x (List.mem_cons_of_mem _ hx)) (fun x hx => h2 x (List.mem_cons_of_mem _ hx))]
    simp
theorem indexByte_cut : ∀ {l : List UInt8} {c : UInt8}, Lib.indexByte l c ≠ -1 → 0 ≤ Lib.indexByte l c ∧ l = l.take (Lib.indexByte l c).toNat ++ c :: l.drop ((Lib.indexByte l c).toNat + 1)
  | [], c, h => absurd rfl h
  | b :: l, c, h => by
    unfold Lib.indexByte at h ⊢
    by_cases e : (b == c) = true
    · rw [if_pos e]
      have := beq_iff_eq.1 e
      subst this
      simp
    · rw [if_neg e] at h ⊢
      by_cases e2 : (Lib.indexByte l c == -1) = true
      · rw [if_pos e2] at h
        exact absurd rfl h
      · rw [if_neg e2]
        obtain ⟨h1, h2⟩ := indexByte_cut (fun he => e2 (beq_iff_eq.2 he))
        refine ⟨by omega, ?_⟩
        rw [show (Lib.indexByte l c + 1).toNat = (Lib.indexByte l c).toNat + 1 by omega, List.take_succ_cons, List.drop_succ_cons, List.cons_append, ← h2]
theorem splitK_join : ∀ (k : Nat) (s : List UInt8), joinL (Lib.splitK [47] 0 k s) = 47 :: s
  | 0, s => by simp [Lib.splitK, joinL]
  | k + 1, s => by
    rw [Lib.splitK]
    by_cases h : (Lib.index s [47] == -1) = true
    · rw [if_pos h]
      simp [joinL]
    · rw [if_neg h, joinL, splitK_join k, Lib.index_one]
      rw [Lib.index_one] at h
      obtain ⟨h1, h2⟩ := indexByte_cut (fun he => h (beq_iff_eq.2 he))
      rw [Nat.add_zero]
      congr 1
      exact h2.symm
theorem parts_join {p : ByteArray} (h : slashed p = true) : bs p = joinL ((partsP p).map bs) := by
  have h1 : (partsP p).map bs = Lib.splitK [47] 0 (Lib.countB (p.extract 1 p.size) ⟨#[47]⟩) (p.extract 1 p.size).data.toList := Lib.splitB_data ⟨#[47]⟩ 0 _ _
  rw [h1, splitK_join]
  have hd := of_decide_eq_true h
  have e : (p.extract 1 p.size).data.toList = (bs p).drop 1 := Lib.extract_to_end p 1
  rw [e]
  cases hb : bs p with
  | nil => rw [hb] at hd; cases hd
  | cons a l =>
    rw [hb] at hd
    injection hd with hd
    subst hd
    rfl
theorem indexAny_none' : ∀ {l cs : List UInt8}, Lib.indexAny l cs = -1 → ∀ c ∈ l, cs.contains c = false
  | [], cs, _, c, hc => by cases hc
  | b :: l, cs, h, c, hc => by
    rw [Lib.indexAny] at h
    cases hb : cs.contains b with
    | true => rw [hb] at h; simp at h
    | false =>
      rw [hb] at h
      have h2 : Lib.indexAny l cs = -1 := by
        by_cases e : (Lib.indexAny l cs == -1) = true
        · exact beq_iff_eq.1 e
        · have hge := Lib.indexAny_ge cs l
          simp only [Bool.false_eq_true, if_false] at h
          rw [if_neg e] at h
          omega
      rcases List.mem_cons.1 hc with rfl | hc
      · exact hb
      · exact indexAny_none' h2 c hc
theorem name_clean {p : ByteArray} (h : nameOk p = true) : ∀ c ∈ bs p, c ≠ 47 ∧ c ≠ 0 := by
  have h := of_decide_eq_true h
  unfold codec_Name.f at h
  split at h
  · cases h
  · split at h
    · cases h
    · split at h
      · cases h
      · split at h
        · cases h
        · split at h
          · cases h
          · rename_i hn
            have hn : Lib.containsAny (bs p) [47, 0] = false := (Bool.not_eq_true _).mp hn
            unfold Lib.containsAny at hn
            have hn := of_decide_eq_false hn
            have hge := Lib.indexAny_ge [47, 0] (bs p)
            intro c hc
            have := indexAny_none' (show Lib.indexAny (bs p) [47, 0] = -1 by omega) c hc
            simp at this
            exact ⟨fun e => this.1 e, fun e => this.2 e⟩
def Vp (p : ByteArray) : Prop := (cutP p).2 = true
theorem Vp.parts {p : ByteArray} (h : Vp p) : (cutP p).1 = partsP p ∧ slashed p = true ∧ (partsP p).all nameOk = true := by
  have h1 : cutP p = ((cutP p).1, true) := by rw [← (show (cutP p).2 = true from h)]
  obtain ⟨_, h2, h3, h4⟩ := cut_true h1
  exact ⟨h3, h2, h4⟩
theorem swap_tail : ∀ {l : List (List UInt8)}, (∀ a ∈ l, ∀ c ∈ a, c ≠ 47) → swapL 47 0 (joinL l) = tailZ l
  | [], _ => rfl
  | a :: l, h => by
    have ih := swap_tail (l := l) (fun x hx => h x (List.mem_cons_of_mem _ hx))
    have ha : swapL 47 0 a = a := swapL_none (List.count_eq_zero_of_not_mem (fun hm => h a List.mem_cons_self 47 hm rfl))
    rw [joinL, tailZ, show (47 : UInt8) :: (a ++ joinL l) = [47] ++ (a ++ joinL l) from rfl, swapL_append, swapL_append, ha, ih]
    rfl
theorem swap_back : ∀ {l : List (List UInt8)}, (∀ a ∈ l, ∀ c ∈ a, c ≠ 0) → swapL 0 47 (tailZ l) = joinL l
  | [], _ => rfl
  | a :: l, h => by
    have ih := swap_back (l := l) (fun x hx => h x (List.mem_cons_of_mem _ hx))
    have ha : swapL 0 47 a = a := swapL_none (List.count_eq_zero_of_not_mem (fun hm => h a List.mem_cons_self 0 hm rfl))
    rw [joinL, tailZ, show (0 : UInt8) :: (a ++ tailZ l) = [0] ++ (a ++ tailZ l) from rfl, swapL_append, swapL_append, ha, ih]
    rfl
theorem parts_clean {p : ByteArray} (h : Vp p) : ∀ a ∈ (partsP p).map bs, ∀ c ∈ a, c ≠ 47 ∧ c ≠ 0 := by
  intro a ha c hc
  obtain ⟨q, hq, rfl⟩ := List.mem_map.1 ha
  exact name_clean (List.all_eq_true.1 h.parts.2.2 q hq) c hc
theorem key_tail {p : ByteArray} (h : Vp p) : bs (swapB 47 0 p) = tailZ ((partsP p).map bs) := by
  show swapL 47 0 (bs p) = _
  rw [parts_join h.parts.2.1, swap_tail (fun a ha c hc => (parts_clean h a ha c hc).1)]
theorem key_back {p : ByteArray} (h : Vp p) : swapB 0 47 (swapB 47 0 p) = p := by
  apply bs_inj
  show swapL 0 47 (bs (swapB 47 0 p)) = _
  rw [key_tail h, swap_back (fun a ha c hc => (parts_clean h a ha c hc).2), ← parts_join h.parts.2.1]
theorem key_inj {p q : ByteArray} (hp : Vp p) (hq : Vp q) (h : swapB 47 0 p = swapB 47 0 q) : p = q := by
  rw [← key_back hp, h, key_back hq]
theorem key_order {p q : ByteArray} (hp : Vp p) (hq : Vp q) : aheadP (cutP p).1 (cutP q).1 = Op.bytesLess (bs (swapB 47 0 p)) (bs (swapB 47 0 q)) := by
  rw [hp.parts.1, hq.parts.1, aheadP_L, key_tail hp, key_tail hq, tail_less (fun a ha c hc => (parts_clean hp a ha c hc).2) (fun a ha c hc => (parts_clean hq a ha c hc).2)]
end Go.Proofs.YtkfikinjlbbibaaDoor
end
section
namespace Go.Proofs.YtkfikinjlbbibaaDoor
open Go.RowKit Go.Lib
open Go.Proofs.YtkfikinjlbbibaaDoorW.PrintWords Go.Proofs.YtkfikinjlbbibaaDoorW.PrintLast Go.Proofs.YtkfikinjlbbibaaDoor.PT
set_option linter.unusedVariables false
set_option linter.unusedSimpArgs false
abbrev kl (x : It) : List UInt8 := bs (keyI x)
def Less (a b : List UInt8) : Prop := Op.bytesLess a b = true
theorem Less.trans {a b c : List UInt8} (h : Less a b) (k : Less b c) : Less a c := less_trans h k
theorem Less.ne {a b : List UInt8} (h : Less a b) : a ≠ b := less_ne h
theorem Less.tri {a b : List UInt8} (h : ¬ Less a b) (hn : a ≠ b) : Less b a := by
  cases hb : Op.bytesLess b a with
  | true => exact hb
  | false => exact absurd (less_tri ((Bool.not_eq_true _).mp h) hb) hn
structure Rise (l : List It) : Prop where
  path : ∀ x ∈ l, Vp x.f1
  keys : l.Pairwise (fun x y => Less (kl x) (kl y))
theorem Rise.nil : Rise [] := ⟨fun _ h => absurd h List.not_mem_nil, List.Pairwise.nil⟩
theorem Rise.drop {l : List It} (h : Rise l) (n : Nat) : Rise (l.drop n) := ⟨fun x hx => h.path x (List.mem_of_mem_drop hx), h.keys.sublist (List.drop_sublist n l)⟩
theorem Rise.tail {x : It} {l : List It} (h : Rise (x :: l)) : Rise l := ⟨fun y hy => h.path y (List.mem_cons_of_mem _ hy), (List.pairwise_cons.1 h.keys).2⟩
theorem Rise.head {x : It} {l : List It} (h : Rise (x :: l)) : ∀ y ∈ l, Less (kl x) (kl y) := (List.pairwise_cons.1 h.keys).1
theorem right_rise : ∀ {l : List It} {K : List (ByteArray × Int)} {b : Option (List ByteArray)}, rightGo K b l = true → Rise l ∧ ∀ q, Vp q → b = some (cutP q).1 → ∀ x ∈ l, Less (bs (swapB 47 0 q)) (kl x)
  | [], _, _, _ => ⟨Rise.nil, fun _ _ _ _ h => absurd h List.not_mem_nil⟩
  | y :: l, K, b, h => by
    rw [rightGo] at h
    simp only [Bool.and_eq_true, decide_eq_true_eq] at h
    obtain ⟨⟨⟨⟨h1, h2⟩, h3⟩, h4⟩, h5⟩ := h
    obtain ⟨hr, hq⟩ := right_rise h5
    have hv : Vp y.f1 := h1
    have hy := hq y.f1 hv rfl
    refine ⟨⟨fun x hx => ?_, List.pairwise_cons.2 ⟨hy, hr.keys⟩⟩, fun q hvq hb x hx => ?_⟩
    · rcases List.mem_cons.1 hx with rfl | hx
      · exact hv
      · exact hr.path x hx
    · have hqy : Less (bs (swapB 47 0 q)) (kl y) := by
        rw [hb] at h2
        rw [Option.all_some, key_order hvq hv] at h2
        exact h2
      rcases List.mem_cons.1 hx with rfl | hx
      · exact hqy
      · exact hqy.trans (hy x hx)
theorem rightP_rise {l : List It} (h : rightP l = true) : Rise l := (right_rise h).1
theorem Rise.inj {l : List It} (h : Rise l) : ∀ x ∈ l, ∀ y ∈ l, kl x = kl y → x = y := by
  induction l with
  | nil => intro x hx; cases hx
  | cons a l ih =>
    intro x hx y hy e
    rcases List.mem_cons.1 hx with hxa | hx1
    · rcases List.mem_cons.1 hy with hya | hy1
      · rw [hxa, hya]
      · subst hxa
        exact absurd e (h.head y hy1).ne
    · rcases List.mem_cons.1 hy with hya | hy1
      · subst hya
        exact absurd e.symm (h.head x hx1).ne
      · exact ih h.tail x hx1 y hy1 e
def st (l : List It) (k : List UInt8) : Option It := l.find? (fun x => decide (kl x = k))
theorem st_some {l : List It} {k : List UInt8} {x : It} (h : st l k = some x) : x ∈ l ∧ kl x = k := ⟨List.mem_of_find?_eq_some h, by have := List.find?_some h; simpa using this⟩
theorem st_none {l : List It} {k : List UInt8} (h : ∀ x ∈ l, kl x ≠ k) : st l k = none := List.find?_eq_none.2 (fun x hx => by simpa using h x hx)
theorem st_none_iff {l : List It} {k : List UInt8} (h : st l k = none) : ∀ x ∈ l, kl x ≠ k := fun x hx e => by
  have := List.find?_eq_none.1 h x hx
  simp at this
  exact this e
theorem st_mem {l : List It} (hl : Rise l) {x : It} (hx : x ∈ l) : st l (kl x) = some x := by
  cases h : st l (kl x) with
  | none => exact absurd rfl (st_none_iff h x hx)
  | some y =>
    obtain ⟨h1, h2⟩ := st_some h
    rw [hl.inj y h1 x hx h2]
theorem st_cons_ne {x : It} {l : List It} {k : List UInt8} (h : kl x ≠ k) : st (x :: l) k = st l k := by
  unfold st
  rw [List.find?_cons_of_neg]
  simpa using h
theorem st_cons_eq {x : It} {l : List It} {k : List UInt8} (h : kl x = k) : st (x :: l) k = some x := by
  unfold st
  rw [List.find?_cons_of_pos]
  simpa using h
section
variable {L : Nat → List It} {p : Nat → Nat}
theorem lst_none : ∀ {i : Nat}, lstP L p i = none → ∀ j, j < i → (L j)[p j]? = none
  | 0, _, j, h => by omega
  | i + 1, h, j, hj => by
    rw [lstP] at h
    cases hx : (L i)[p i]? with
    | none =>
      rw [hx] at h
      rcases Nat.lt_or_ge j i with h1 | h1
      · exact lst_none h j h1
      · obtain rfl : j = i := by omega
        exact hx
    | some x =>
      rw [hx] at h
      dsimp only at h
      cases hk : lstP L p i with
      | none => rw [hk] at h; cases h
      | some k =>
        rw [hk] at h
        dsimp only at h
        split at h <;> cases h
theorem lst_least : ∀ {i : Nat} {k : ByteArray}, lstP L p i = some k → ∀ j, j < i → ∀ x, (L j)[p j]? = some x → ¬ Less (kl x) (bs k)
  | 0, k, h, j, hj, _, _ => by omega
  | i + 1, k, h, j, hj, x, hx => by
    have hnn : ∀ a : List UInt8, ¬ Less a a := fun a h => by
      have h : Op.bytesLess a a = true := h
      rw [less_irrefl] at h
      cases h
    rw [lstP] at h
    cases hy : (L i)[p i]? with
    | none =>
      rw [hy] at h
      rcases Nat.lt_or_ge j i with h1 | h1
      · exact lst_least h j h1 x hx
      · obtain rfl : j = i := by omega
        rw [hx] at hy
        cases hy
    | some y =>
      rw [hy] at h
      dsimp only at h
      cases hk : lstP L p i with
      | none =>
        rw [hk] at h
        have := Option.some.inj h
        subst this
        rcases Nat.lt_or_ge j i with h1 | h1
        · rw [lst_none hk j h1] at hx
          cases hx
        · obtain rfl : j = i := by omega
          rw [hx] at hy
          obtain rfl := Option.some.inj hy
          exact hnn _
      | some k0 =>
        rw [hk] at h
        dsimp only at h
        split at h
        · rename_i hlt
          rw [Lib.toList_data, Lib.toList_data] at hlt
          have hlt : Less (kl y) (bs k0) := hlt
          have := Option.some.inj h
          subst this
          rcases Nat.lt_or_ge j i with h1 | h1
          · exact fun hl => lst_least hk j h1 x hx (Less.trans hl hlt)
          · obtain rfl : j = i := by omega
            rw [hx] at hy
            obtain rfl := Option.some.inj hy
            exact hnn _
        · rename_i hlt
          rw [Lib.toList_data, Lib.toList_data] at hlt
          have := Option.some.inj h
          subst this
          rcases Nat.lt_or_ge j i with h1 | h1
          · exact lst_least hk j h1 x hx
          · obtain rfl : j = i := by omega
            rw [hx] at hy
            obtain rfl := Option.some.inj hy
            exact hlt
def dr (L : Nat → List It) (p : Nat → Nat) (j : Nat) : List It := (L j).drop (p j)
theorem dr_none {j : Nat} (h : (L j)[p j]? = none) : dr L p j = [] := by
  unfold dr
  rw [List.getElem?_eq_none_iff] at h
  exact List.drop_of_length_le h
theorem dr_some {j : Nat} {x : It} (h : (L j)[p j]? = some x) : dr L p j = x :: (L j).drop (p j + 1) := by
  obtain ⟨hl, he⟩ := List.getElem?_eq_some_iff.1 h
  unfold dr
  rw [List.drop_eq_getElem_cons hl, he]
theorem here_is {k : ByteArray} {j : Nat} (hr : Rise (L j)) (hk : ∀ x, (L j)[p j]? = some x → ¬ Less (kl x) (bs k)) :
    hereP L p k j = st (dr L p j) (bs k) ∧ (∀ x ∈ dr L (nextP L p k) j, Less (bs k) (kl x)) ∧ (∀ k', Less (bs k) k' → st (dr L (nextP L p k) j) k' = st (dr L p j) k') ∧
      (∀ x ∈ dr L p j, kl x = bs k ∨ x ∈ dr L (nextP L p k) j) ∧ (∀ x ∈ dr L (nextP L p k) j, x ∈ dr L p j) := by
  cases hx : (L j)[p j]? with
  | none =>
    have hh : hereP L p k j = none := by unfold hereP; rw [hx]
    have hn : nextP L p k j = p j := by unfold nextP; rw [hh]; rfl
    have hd : dr L (nextP L p k) j = dr L p j := by unfold dr; rw [hn]
    rw [hd, dr_none hx, hh]
    exact ⟨rfl, fun _ h => absurd h List.not_mem_nil, fun _ _ => rfl, fun _ h => absurd h List.not_mem_nil, fun _ h => h⟩
  | some x =>
    have hkx := hk x hx
    have hdx := dr_some hx
    have hrd : Rise (dr L p j) := hr.drop (p j)
    rw [hdx] at hrd
    by_cases he : kl x = bs k
    · have hh : hereP L p k j = some x := by
        unfold hereP
        rw [hx]
        dsimp only
        rw [Lib.toList_data, Lib.toList_data]
        exact if_pos (beq_iff_eq.2 he)
      have hn : nextP L p k j = p j + 1 := by unfold nextP; rw [hh]; rfl
      have hd : dr L (nextP L p k) j = (L j).drop (p j + 1) := by unfold dr; rw [hn]
      rw [hd, hdx, hh]
      refine ⟨(st_cons_eq he).symm, fun y hy => by rw [← he]; exact hrd.head y hy, fun k' hk' => (st_cons_ne (by rw [he]; exact hk'.ne)).symm, fun y hy => ?_, fun y hy => List.mem_cons_of_mem _ hy⟩
      rcases List.mem_cons.1 hy with rfl | hy
      · exact .inl he
      · exact .inr hy
    · have hh : hereP L p k j = none := by
        unfold hereP
        rw [hx]
        dsimp only
        rw [Lib.toList_data, Lib.toList_data]
        exact if_neg (fun h => he (beq_iff_eq.1 h))
      have hn : nextP L p k j = p j := by unfold nextP; rw [hh]; rfl
      have hd : dr L (nextP L p k) j = dr L p j := by unfold dr; rw [hn]
      have hlt := Less.tri hkx he
      have hall : ∀ y ∈ x :: (L j).drop (p j + 1), Less (bs k) (kl y) := fun y hy => by
        rcases List.mem_cons.1 hy with rfl | hy
        · exact hlt
        · exact hlt.trans (hrd.head y hy)
      rw [hd, hdx, hh]
      exact ⟨(st_none (fun y hy e => (hall y hy).ne e.symm)).symm, hall, fun _ _ => rfl, fun y hy => .inr hy, fun _ h => h⟩
structure RSpec (D : Nat → List It) (rs : List Rd) : Prop where
  rise : rs.Pairwise (fun r s => Less (bs r.1) (bs s.1))
  here : ∀ r ∈ rs, r.2.1 = st (D 0) (bs r.1) ∧ r.2.2.1 = st (D 1) (bs r.1) ∧ r.2.2.2 = st (D 2) (bs r.1)
  from_ : ∀ r ∈ rs, ∃ j x, j < 3 ∧ x ∈ D j ∧ keyI x = r.1
  all : ∀ j x, j < 3 → x ∈ D j → ∃ r ∈ rs, r.1 = keyI x
theorem rounds_spec (hL : ∀ j, j < 3 → Rise (L j)) : ∀ (n : Nat) (p : Nat → Nat), leftN L p ≤ n → RSpec (dr L p) (roundsF L n p)
  | 0, p, hn => by
    have hz : ∀ j, j < 3 → dr L p j = [] := fun j hj => by
      refine List.drop_of_length_le ?_
      unfold leftN at hn
      rcases (show j = 0 ∨ j = 1 ∨ j = 2 by omega) with rfl | rfl | rfl <;> omega
    refine ⟨List.Pairwise.nil, fun _ h => absurd h List.not_mem_nil, fun _ h => absurd h List.not_mem_nil, fun j x hj hx => ?_⟩
    rw [hz j hj] at hx
    cases hx
  | n + 1, p, hn => by
    rw [roundsF]
    cases hk : lstP L p 3 with
    | none =>
      refine ⟨List.Pairwise.nil, fun _ h => absurd h List.not_mem_nil, fun _ h => absurd h List.not_mem_nil, fun j x hj hx => ?_⟩
      rw [dr_none (lst_none hk j hj)] at hx
      cases hx
    | some k =>
      have hlt := leftN_next hk
      have ih := rounds_spec hL n (nextP L p k) (by omega)
      have hh := fun j (hj : j < 3) => here_is (p := p) (hL j hj) (lst_least hk j hj)
      have hgt : ∀ r ∈ roundsF L n (nextP L p k), Less (bs k) (bs r.1) := fun r hr => by
        obtain ⟨j, x, hj, hx, e⟩ := ih.from_ r hr
        rw [← e]
        exact (hh j hj).2.1 x hx
      refine ⟨List.pairwise_cons.2 ⟨hgt, ih.rise⟩, fun r hr => ?_, fun r hr => ?_, fun j x hj hx => ?_⟩
      · rcases List.mem_cons.1 hr with rfl | hr
        · exact ⟨(hh 0 (by omega)).1, (hh 1 (by omega)).1, (hh 2 (by omega)).1⟩
        · have h := ih.here r hr
          rw [(hh 0 (by omega)).2.2.1 _ (hgt r hr), (hh 1 (by omega)).2.2.1 _ (hgt r hr), (hh 2 (by omega)).2.2.1 _ (hgt r hr)] at h
          exact h
      · rcases List.mem_cons.1 hr with rfl | hr
        · obtain ⟨j, x, hj, h1, h2⟩ := lstP_from hk
          exact ⟨j, x, hj, by rw [dr_some h1]; exact List.mem_cons_self, h2⟩
        · obtain ⟨j, x, hj, hx, e⟩ := ih.from_ r hr
          exact ⟨j, x, hj, (hh j hj).2.2.2.2 x hx, e⟩
      · rcases (hh j hj).2.2.2.1 x hx with e | hx2
        · exact ⟨_, List.mem_cons_self, (bs_inj e).symm⟩
        · obtain ⟨r, hr, e⟩ := ih.all j x hj hx2
          exact ⟨r, List.mem_cons_of_mem _ hr, e⟩
theorem rounds3_spec {a b c : List It} (ha : Rise a) (hb : Rise b) (hc : Rise c) : RSpec (three3 a b c) (rounds3 a b c) :=
  rounds_spec (L := three3 a b c) (three3_all ha hb hc) _ (fun _ => 0) (Nat.le_refl _)
end
theorem round_path {a b c : List It} (ha : Rise a) (hb : Rise b) (hc : Rise c) {r : Rd} (hr : r ∈ rounds3 a b c) : ∃ q, Vp q ∧ swapB 47 0 q = r.1 ∧ swapB 0 47 r.1 = q := by
  obtain ⟨j, x, hj, hx, e⟩ := (rounds3_spec ha hb hc).from_ r hr
  have hv : Vp x.f1 := by
    rcases (show j = 0 ∨ j = 1 ∨ j = 2 by omega) with rfl | rfl | rfl
    · exact ha.path x hx
    · exact hb.path x hx
    · exact hc.path x hx
  exact ⟨x.f1, hv, e, by rw [← e]; exact key_back hv⟩
end Go.Proofs.YtkfikinjlbbibaaDoor
end
section
namespace Go.Proofs.YtkfikinjlbbibaaDoor
open Go.RowKit Go.Lib
open Go.Proofs.YtkfikinjlbbibaaDoorW.PrintWords Go.Proofs.YtkfikinjlbbibaaDoorW.PrintLast Go.Proofs.YtkfikinjlbbibaaDoor.PT
set_option linter.unusedVariables false
set_option linter.unusedSimpArgs false
def K0 : List (ByteArray × Int) := [(⟨#[]⟩, 2)]
def kOf (K : List (ByteArray × Int)) (l : List It) : List (ByteArray × Int) := l.foldl (fun K y => (y.f1, y.f0) :: K) K
def lastOf (b : Option (List ByteArray)) : List It → Option (List ByteArray)
  | [] => b
  | x :: l => lastOf (some (cutP x.f1).1) l
def stepOk (K : List (ByteArray × Int)) (b : Option (List ByteArray)) (x : It) : Bool := (cutP x.f1).2 && (b.all fun b => aheadP b (cutP x.f1).1) && decide (kget K (dirOf x.f1) = 2) && itemOk K x
theorem right_cons (K : List (ByteArray × Int)) (b : Option (List ByteArray)) (x : It) (l : List It) : rightGo K b (x :: l) = (stepOk K b x && rightGo ((x.f1, x.f0) :: K) (some (cutP x.f1).1) l) := rfl
theorem right_snoc : ∀ (l : List It) (K : List (ByteArray × Int)) (b : Option (List ByteArray)) (x : It), rightGo K b (l ++ [x]) = (rightGo K b l && stepOk (kOf K l) (lastOf b l) x)
  | [], K, b, x => by
    rw [List.nil_append, right_cons]
    simp [rightGo, kOf, lastOf]
  | y :: l, K, b, x => by
    rw [List.cons_append, right_cons, right_snoc, right_cons, Bool.and_assoc]
    rfl
theorem lastOf_mem : ∀ (l : List It) (b : Option (List ByteArray)), lastOf b l = b ∨ ∃ y ∈ l, lastOf b l = some (cutP y.f1).1
  | [], b => .inl rfl
  | x :: l, b => by
    rw [lastOf]
    rcases lastOf_mem l (some (cutP x.f1).1) with h | ⟨y, hy, h⟩
    · exact .inr ⟨x, List.mem_cons_self, h⟩
    · exact .inr ⟨y, List.mem_cons_of_mem _ hy, h⟩
theorem kOf_snoc (K : List (ByteArray × Int)) (l : List It) (x : It) : kOf K (l ++ [x]) = (x.f1, x.f0) :: kOf K l := by
  unfold kOf
  rw [List.foldl_append]
  rfl
theorem itemOk_move {K K' : List (ByteArray × Int)} {x : It} (h : itemOk K x = true) (hn : x.f0 = 4 → kget K' x.f2 = 1) : itemOk K' x = true := by
  unfold itemOk at h ⊢
  split at h
  · rename_i h1
    rw [if_pos h1]
    exact h
  · rename_i h1
    rw [if_neg h1]
    split at h
    · rename_i h2
      rw [if_pos h2]
      exact h
    · rename_i h2
      rw [if_neg h2]
      split at h
      · rename_i h3
        rw [if_pos h3]
        exact h
      · rename_i h3
        rw [if_neg h3]
        split at h
        · rename_i h4
          rw [if_pos h4]
          rw [Bool.and_eq_true] at h ⊢
          exact ⟨h.1, decide_eq_true (hn h4)⟩
        · cases h
theorem itemOk_name {K : List (ByteArray × Int)} {x : It} (h : itemOk K x = true) (h4 : x.f0 = 4) : kget K x.f2 = 1 := by
  unfold itemOk at h
  rw [if_neg (by omega), if_neg (by omega), if_neg (by omega), if_pos h4, Bool.and_eq_true] at h
  exact of_decide_eq_true h.2
theorem right_ok : ∀ {l : List It} {K : List (ByteArray × Int)} {b : Option (List ByteArray)}, rightGo K b l = true → ∀ x ∈ l, ∃ K', itemOk K' x = true
  | [], _, _, _ => fun _ h => absurd h List.not_mem_nil
  | y :: l, K, b, h => by
    rw [rightGo] at h
    simp only [Bool.and_eq_true, decide_eq_true_eq] at h
    intro x hx
    rcases List.mem_cons.1 hx with rfl | hx1
    · exact ⟨K, h.1.2⟩
    · exact right_ok h.2 x hx1
abbrev pk (r : Rd) : Option It × Bool := pickP r.2.1 r.2.2.1 r.2.2.2
abbrev rp (r : Rd) : ByteArray := swapB 0 47 r.1
theorem mstep_none {S : Ms} {r : Rd} (h : (pk r).1 = none) : mstep S r = (S.1, S.2.1, if (pk r).2 = true then S.2.2 ++ [⟨1, rp r⟩] else S.2.2) := by
  rw [mstep_is, show (pickP r.2.1 r.2.2.1 r.2.2.2).1 = none from h]
  rfl
theorem mstep_some {S : Ms} {r : Rd} {x : It} (h : (pk r).1 = some x) : mstep S r = mstepP S (rp r) (some x) (pk r).2 := by
  rw [mstep_is, show (pickP r.2.1 r.2.2.1 r.2.2.2).1 = some x from h]
theorem mstepP_put {S : Ms} {p : ByteArray} {x : It} {bo : Bool} (h1 : kget S.1 (dirOf p) = 2) (h2 : x.f0 = 4 → kget S.1 x.f2 = 1) : mstepP S p (some x) bo = ((p, x.f0) :: S.1, S.2.1 ++ [x], if bo = true then S.2.2 ++ [⟨1, p⟩] else S.2.2) := by
  unfold mstepP
  dsimp only
  rw [if_neg (fun h => h h1), if_neg (fun h => h.2 (h2 h.1))]
theorem merge_right : ∀ (rs : List Rd) (S : Ms), rs.Pairwise (fun r s => Less (bs r.1) (bs s.1)) → S.1 = kOf K0 S.2.1 → rightGo K0 none S.2.1 = true → (∀ x ∈ S.2.1, ∀ r ∈ rs, Less (kl x) (bs r.1)) →
    (∀ r ∈ rs, ∀ x, (pk r).1 = some x → Vp x.f1 ∧ keyI x = r.1 ∧ ∃ K', itemOk K' x = true) →
    (rs.foldl mstep S).1 = kOf K0 (rs.foldl mstep S).2.1 ∧ rightGo K0 none (rs.foldl mstep S).2.1 = true
  | [], S, _, h1, h2, _, _ => ⟨h1, h2⟩
  | r :: rs, S, hs, h1, h2, h3, h4 => by
    rw [List.foldl_cons]
    have hs2 := List.pairwise_cons.1 hs
    have old : ∀ C, (rs.foldl mstep (S.1, S.2.1, C)).1 = kOf K0 (rs.foldl mstep (S.1, S.2.1, C)).2.1 ∧ rightGo K0 none (rs.foldl mstep (S.1, S.2.1, C)).2.1 = true := fun C =>
      merge_right rs (S.1, S.2.1, C) hs2.2 h1 h2 (fun x hx q hq => h3 x hx q (List.mem_cons_of_mem _ hq)) (fun q hq => h4 q (List.mem_cons_of_mem _ hq))
    cases hp : (pk r).1 with
    | none =>
      rw [mstep_none hp]
      exact old _
    | some x =>
      obtain ⟨hv, hk, K', hok⟩ := h4 r List.mem_cons_self x hp
      have hrp : rp r = x.f1 := by
        show swapB 0 47 r.1 = x.f1
        rw [← hk]
        exact key_back hv
      rw [mstep_some hp]
      by_cases c1 : kget S.1 (dirOf (rp r)) = 2
      · by_cases c2 : x.f0 = 4 ∧ kget S.1 x.f2 ≠ 1
        · rw [show mstepP S (rp r) (some x) (pk r).2 = (S.1, S.2.1, (if (pk r).2 = true then S.2.2 ++ [⟨1, rp r⟩] else S.2.2) ++ [⟨3, rp r⟩]) by unfold mstepP; dsimp only; rw [if_neg (fun h => h c1), if_pos c2]]
          exact old _
        · have hn : x.f0 = 4 → kget S.1 x.f2 = 1 := fun h => Classical.byContradiction (fun h' => c2 ⟨h, h'⟩)
          rw [mstepP_put c1 hn, hrp]
          have hkx : kl x = bs r.1 := by show bs (keyI x) = _; rw [hk]
          refine merge_right rs _ hs2.2 ?_ ?_ ?_ (fun q hq => h4 q (List.mem_cons_of_mem _ hq))
          · show (x.f1, x.f0) :: S.1 = _
            rw [h1, kOf_snoc]
          · show rightGo K0 none (S.2.1 ++ [x]) = true
            rw [right_snoc, h2, Bool.true_and]
            unfold stepOk
            rw [← h1]
            have e1 : (cutP x.f1).2 = true := hv
            have e2 : ((lastOf none S.2.1).all fun b => aheadP b (cutP x.f1).1) = true := by
              rcases lastOf_mem S.2.1 none with e | ⟨y, hy, e⟩
              · rw [e]
                rfl
              · rw [e, Option.all_some, key_order ((right_rise h2).1.path y hy) hv]
                have := h3 y hy r List.mem_cons_self
                rw [← hkx] at this
                exact this
            have e4 : itemOk S.1 x = true := itemOk_move hok hn
            rw [e1, e2, decide_eq_true (by rw [← hrp]; exact c1), e4]
            rfl
          · intro y hy q hq
            rcases List.mem_append.1 hy with hy | hy
            · exact h3 y hy q (List.mem_cons_of_mem _ hq)
            · obtain rfl := List.mem_singleton.1 hy
              rw [hkx]
              exact hs2.1 q hq
      · rw [show mstepP S (rp r) (some x) (pk r).2 = (S.1, S.2.1, (if (pk r).2 = true then S.2.2 ++ [⟨1, rp r⟩] else S.2.2) ++ [⟨2, rp r⟩]) by unfold mstepP; dsimp only; rw [if_pos c1]]
        exact old _
theorem merge_same : ∀ (rs : List Rd) (T1 T2 : List It) (K : List (ByteArray × Int)) (b : Option (List ByteArray)) (C : List Cf), rs.Pairwise (fun r s => Less (bs r.1) (bs s.1)) → Rise T2 → rightGo K b T2 = true →
    (∀ r ∈ rs, (pk r).1 = st T2 (bs r.1) ∧ (pk r).2 = false) → (∀ x ∈ T2, ∃ r ∈ rs, r.1 = keyI x) → rs.foldl mstep (K, T1, C) = (kOf K T2, T1 ++ T2, C)
  | [], T1, T2, K, b, C, _, _, _, _, h => by
    cases T2 with
    | nil => simp [kOf]
    | cons x T2 =>
      obtain ⟨r, hr, _⟩ := h x List.mem_cons_self
      exact absurd hr List.not_mem_nil
  | r :: rs, T1, T2, K, b, C, hs, hT, hR, hp, ha => by
    have hs2 := List.pairwise_cons.1 hs
    have hpr := hp r List.mem_cons_self
    rw [List.foldl_cons]
    cases T2 with
    | nil =>
      rw [mstep_none hpr.1, hpr.2]
      exact merge_same rs T1 [] K b C hs2.2 hT hR (fun q hq => hp q (List.mem_cons_of_mem _ hq)) (fun _ h => absurd h List.not_mem_nil)
    | cons x T2 =>
      obtain ⟨q, hq, hqx⟩ := ha x List.mem_cons_self
      rcases List.mem_cons.1 hq with rfl | hq1
      · have hkx : kl x = bs q.1 := by rw [hqx]
        have hv := hT.path x List.mem_cons_self
        have hrp : rp q = x.f1 := by
          show swapB 0 47 q.1 = x.f1
          rw [hqx]
          exact key_back hv
        rw [right_cons, Bool.and_eq_true] at hR
        obtain ⟨hR1, hR2⟩ := hR
        unfold stepOk at hR1
        simp only [Bool.and_eq_true, decide_eq_true_eq] at hR1
        obtain ⟨⟨⟨r1, r2⟩, r3⟩, r4⟩ := hR1
        have hp1 := hpr.1
        rw [st_cons_eq hkx] at hp1
        rw [mstep_some hp1, mstepP_put (by rw [hrp]; exact r3) (fun h => itemOk_name r4 h), hrp, hpr.2]
        have ih := merge_same rs (T1 ++ [x]) T2 ((x.f1, x.f0) :: K) (some (cutP x.f1).1) C hs2.2 hT.tail hR2 (fun r' hr' => by
          have h := hp r' (List.mem_cons_of_mem _ hr')
          rw [st_cons_ne (by rw [hkx]; exact (hs2.1 r' hr').ne)] at h
          exact h) (fun y hy => by
          obtain ⟨r', hr', e⟩ := ha y (List.mem_cons_of_mem _ hy)
          rcases List.mem_cons.1 hr' with rfl | hr1
          · have := hT.head y hy
            exact absurd (show kl x = kl y by rw [hkx, e]) this.ne
          · exact ⟨r', hr1, e⟩)
        rw [List.append_assoc] at ih
        exact ih
      · have hlt : Less (bs r.1) (kl x) := by
          have := hs2.1 q hq1
          rw [hqx] at this
          exact this
        have hn : st (x :: T2) (bs r.1) = none := st_none (fun y hy e => by
          rcases List.mem_cons.1 hy with rfl | hy1
          · exact hlt.ne e.symm
          · exact (hlt.trans (hT.head y hy1)).ne e.symm)
        rw [mstep_none (hpr.1.trans hn), hpr.2]
        refine merge_same rs T1 (x :: T2) K b C hs2.2 hT hR (fun q hq => hp q (List.mem_cons_of_mem _ hq)) (fun y hy => ?_)
        obtain ⟨r', hr', e⟩ := ha y hy
        rcases List.mem_cons.1 hr' with rfl | hr1
        · have : Less (bs r'.1) (kl y) := by
            rcases List.mem_cons.1 hy with rfl | hy1
            · exact hlt
            · exact hlt.trans (hT.head y hy1)
          exact absurd (by rw [e]) this.ne
        · exact ⟨r', hr1, e⟩
def wt (f : It → Nat) (o : Option It) : Nat := (o.map f).getD 0
theorem here_wt (f : It → Nat) {L : Nat → List It} {p : Nat → Nat} {k : ByteArray} {j : Nat} : wt f (hereP L p k j) + ((dr L (nextP L p k) j).map f).sum ≤ ((dr L p j).map f).sum := by
  cases hx : (L j)[p j]? with
  | none =>
    have hh : hereP L p k j = none := by unfold hereP; rw [hx]
    have hn : nextP L p k j = p j := by unfold nextP; rw [hh]; rfl
    have hd : dr L (nextP L p k) j = dr L p j := by unfold dr; rw [hn]
    rw [hd, hh]
    simp [wt]
  | some x =>
    have hdx := dr_some hx
    cases hh : hereP L p k j with
    | none =>
      have hn : nextP L p k j = p j := by unfold nextP; rw [hh]; rfl
      have hd : dr L (nextP L p k) j = dr L p j := by unfold dr; rw [hn]
      rw [hd]
      simp [wt]
    | some y =>
      have hn : nextP L p k j = p j + 1 := by unfold nextP; rw [hh]; rfl
      have hd : dr L (nextP L p k) j = (L j).drop (p j + 1) := by unfold dr; rw [hn]
      have hy : y = x := by
        unfold hereP at hh
        rw [hx] at hh
        dsimp only at hh
        split at hh
        · exact (Option.some.inj hh).symm
        · cases hh
      rw [hd, hdx, hy]
      simp [wt]
theorem rounds_wt (f : It → Nat) {L : Nat → List It} : ∀ (n : Nat) (p : Nat → Nat), ((roundsF L n p).map (fun r => wt f r.2.2.1)).sum ≤ ((dr L p 1).map f).sum ∧ ((roundsF L n p).map (fun r => wt f r.2.2.2)).sum ≤ ((dr L p 2).map f).sum
  | 0, p => by simp [roundsF]
  | n + 1, p => by
    rw [roundsF]
    cases hk : lstP L p 3 with
    | none => simp
    | some k =>
      have ih := rounds_wt f (L := L) n (nextP L p k)
      have h1 := here_wt f (L := L) (p := p) (k := k) (j := 1)
      have h2 := here_wt f (L := L) (p := p) (k := k) (j := 2)
      simp only [List.map_cons, List.sum_cons]
      omega
theorem pk_wt (f : It → Nat) (r : Rd) : wt f (pk r).1 ≤ wt f r.2.2.1 + wt f r.2.2.2 := by
  show wt f (pickP r.2.1 r.2.2.1 r.2.2.2).1 ≤ _
  unfold pickP
  repeat' split
  all_goals (dsimp only; omega)
theorem mstep_wt (f : It → Nat) (S : Ms) (r : Rd) : ((mstep S r).2.1.map f).sum ≤ (S.2.1.map f).sum + wt f (pk r).1 := by
  cases hp : (pk r).1 with
  | none =>
    rw [mstep_none hp]
    simp
  | some x =>
    rw [mstep_some hp]
    unfold mstepP
    dsimp only
    repeat' split
    all_goals simp [wt]
theorem fold_wt (f : It → Nat) : ∀ (rs : List Rd) (S : Ms), ((rs.foldl mstep S).2.1.map f).sum ≤ (S.2.1.map f).sum + (rs.map (fun r => wt f r.2.2.1)).sum + (rs.map (fun r => wt f r.2.2.2)).sum
  | [], S => by simp
  | r :: rs, S => by
    have h1 := fold_wt f rs (mstep S r)
    have h2 := mstep_wt f S r
    have h3 := pk_wt f r
    rw [List.foldl_cons, List.map_cons, List.map_cons, List.sum_cons, List.sum_cons]
    omega
theorem merged_wt (f : It → Nat) (b l r : List It) : (((merged b l r).2.1).map f).sum ≤ (l.map f).sum + (r.map f).sum := by
  have h1 := fold_wt f (rounds3 b l r) ms0
  have h2 := rounds_wt f (L := three3 b l r) (leftN (three3 b l r) (fun _ => 0)) (fun _ => 0)
  have h3 : (ms0.2.1.map f).sum = 0 := rfl
  have e1 : dr (three3 b l r) (fun _ => 0) 1 = l := rfl
  have e2 : dr (three3 b l r) (fun _ => 0) 2 = r := rfl
  rw [e1, e2] at h2
  show (((rounds3 b l r).foldl mstep ms0).2.1.map f).sum ≤ _
  have h2' : ((rounds3 b l r).map (fun q => wt f q.2.2.1)).sum ≤ (l.map f).sum ∧ ((rounds3 b l r).map (fun q => wt f q.2.2.2)).sum ≤ (r.map f).sum := h2
  omega
def isz (l : List It) : Nat := (l.map (fun x => (itemB x).length)).sum
theorem closeB_len (out : List Int) (n : Int) : (closeB out n).length = out.length + 9 := by
  unfold closeB
  simp only [List.length_append, leB_length]
theorem packGo_len : ∀ (l : List It) (out : List Int) (n : Nat), ((packGo out n l).2 = 0 ∧ (packGo out n l).1.length = out.length + isz l + 9) ∨ ((packGo out n l).2 = 7 ∧ 4194304 < out.length + isz l + 9)
  | [], out, n => .inl ⟨rfl, by rw [packGo, closeB_len]; rfl⟩
  | x :: l, out, n => by
    have hi : isz (x :: l) = (itemB x).length + isz l := by unfold isz; rw [List.map_cons, List.sum_cons]
    rw [packGo, hi]
    by_cases h : (out ++ itemB x).length + 9 > 4194304
    · rw [if_pos h]
      rw [List.length_append] at h
      exact .inr ⟨rfl, by omega⟩
    · rw [if_neg h]
      have := packGo_len l (out ++ itemB x) (n + 1)
      rw [List.length_append] at this
      rcases this with ⟨h1, h2⟩ | ⟨h1, h2⟩
      · exact .inl ⟨h1, by omega⟩
      · exact .inr ⟨h1, by omega⟩
theorem pack_len {l : List It} (h : (packP l).2 = 0) : (packP l).1.length = isz l + 17 := by
  unfold packP at h ⊢
  split at h
  · cases h
  · rename_i h1
    rw [if_neg h1]
    split at h
    · rename_i h2
      rw [if_pos h2]
      rcases packGo_len l magicD 0 with ⟨_, h3⟩ | ⟨h3, _⟩
      · rw [h3]
        have : magicD.length = 8 := rfl
        omega
      · rw [h3] at h
        cases h
    · cases h
theorem pack_small_len {l : List It} (h : (packP l).2 = 0) : (packP l).1.length ≤ 4194304 + 17 := by
  have h0 := pack_len h
  have h1 := h
  unfold packP at h1
  split at h1
  · cases h1
  · split at h1
    · have hgo : ∀ (m : List It) (out : List Int) (n : Nat), out.length ≤ 4194304 → (packGo out n m).2 = 0 → out.length + isz m ≤ 4194304 := by
        intro m
        induction m with
        | nil => intro out n ho _; simpa [isz] using ho
        | cons x m ih =>
          intro out n ho hz
          rw [packGo] at hz
          split at hz
          · cases hz
          · rename_i hc
            have := ih (out ++ itemB x) (n + 1) (by omega) hz
            rw [List.length_append] at this
            have hi : isz (x :: m) = (itemB x).length + isz m := by unfold isz; rw [List.map_cons, List.sum_cons]
            omega
      have := hgo l magicD 0 (by decide) h1
      omega
    · cases h1
def muchP (l r : List It) : Prop := 4096 < l.length + r.length ∨ 4194304 < (packP l).1.length + (packP r).1.length
instance (l r : List It) : Decidable (muchP l r) := by unfold muchP; infer_instance
theorem merged_rightP {b l r : List It} (hb : rightP b = true) (hl : rightP l = true) (hr : rightP r = true) : rightP (merged b l r).2.1 = true := by
  have hb' := rightP_rise hb
  have hl' := rightP_rise hl
  have hr' := rightP_rise hr
  have sp := rounds3_spec hb' hl' hr'
  refine (merge_right (rounds3 b l r) ms0 sp.rise rfl rfl (fun x hx => absurd hx List.not_mem_nil) (fun q hq x hx => ?_)).2
  have hh := sp.here q hq
  rcases pick_from q.2.1 q.2.2.1 q.2.2.2 hx with e | e
  · rw [e] at hh
    obtain ⟨h1, h2⟩ := st_some hh.2.1.symm
    exact ⟨hl'.path x h1, bs_inj h2, right_ok hl x h1⟩
  · rw [e] at hh
    obtain ⟨h1, h2⟩ := st_some hh.2.2.symm
    exact ⟨hr'.path x h1, bs_inj h2, right_ok hr x h1⟩
theorem merge_err {b l r : List It} (hb : (packP b).2 = 0) (hl : (packP l).2 = 0) (hr : (packP r).2 = 0) : ((packP (merged b l r).2.1).2 = 0 ∨ (packP (merged b l r).2.1).2 = 7) ∧ ((packP (merged b l r).2.1).2 ≠ 0 → muchP l r) := by
  have h1 := merged_rightP (pack_zero hb).2 (pack_zero hl).2 (pack_zero hr).2
  have w1 := merged_wt (fun _ => 1) b l r
  have w2 := merged_wt (fun x => (itemB x).length) b l r
  have hone : ∀ m : List It, (m.map (fun _ => 1)).sum = m.length := fun m => by
    induction m with
    | nil => rfl
    | cons a m ih => rw [List.map_cons, List.sum_cons, ih, List.length_cons]; omega
  rw [hone, hone, hone] at w1
  have el := pack_len hl
  have er := pack_len hr
  unfold packP
  by_cases hn : 4096 < (merged b l r).2.1.length
  · rw [if_pos hn]
    exact ⟨.inr rfl, fun _ => .inl (by omega)⟩
  · rw [if_neg hn, if_pos h1]
    rcases packGo_len (merged b l r).2.1 magicD 0 with ⟨h3, _⟩ | ⟨h3, h4⟩
    · exact ⟨.inl h3, fun h => absurd h3 h⟩
    · refine ⟨.inr h3, fun _ => .inr ?_⟩
      have : magicD.length = 8 := rfl
      have w2' : isz (merged b l r).2.1 ≤ isz l + isz r := w2
      omega
end Go.Proofs.YtkfikinjlbbibaaDoor
end
section
namespace Go.Proofs.YtkfikinjlbbibaaDoor
open Go.RowKit Go.Lib
open Go.Proofs.YtkfikinjlbbibaaDoorW.PrintWords Go.Proofs.YtkfikinjlbbibaaDoorW.PrintLast Go.Proofs.YtkfikinjlbbibaaDoor.PT
set_option linter.unusedVariables false
set_option linter.unusedSimpArgs false
theorem nums_inj : ∀ {xs ys : List Int}, (∀ n ∈ xs, 0 ≤ n ∧ n ≤ 255) → (∀ n ∈ ys, 0 ≤ n ∧ n ≤ 255) → (xs.map fun n => UInt8.ofNat n.toNat) = (ys.map fun n => UInt8.ofNat n.toNat) → xs = ys
  | [], [], _, _, _ => rfl
  | [], _ :: _, _, _, h => by cases h
  | _ :: _, [], _, _, h => by cases h
  | a :: xs, b :: ys, h1, h2, h => by
    rw [List.map_cons, List.map_cons] at h
    injection h with e1 e2
    have ha := h1 a List.mem_cons_self
    have hb := h2 b List.mem_cons_self
    have e3 := congrArg UInt8.toNat e1
    rw [UInt8.toNat_ofNat', UInt8.toNat_ofNat'] at e3
    rw [nums_inj (fun n hn => h1 n (List.mem_cons_of_mem _ hn)) (fun n hn => h2 n (List.mem_cons_of_mem _ hn)) e2]
    congr 1
    omega
theorem sameP_refl (x : It) : sameP x x = true := by
  unfold sameP
  rw [decide_eq_true rfl, decide_eq_true rfl, decide_eq_true rfl, runsEq_iff.2 rfl]
  simp
theorem sameP_eq {x y : It} (hx : Fit x) (hy : Fit y) (hp : x.f1 = y.f1) (h : sameP x y = true) : x = y := by
  unfold sameP at h
  simp only [Bool.and_eq_true, decide_eq_true_eq, beq_iff_eq] at h
  obtain ⟨h0, h2, h3, h4, h5⟩ := h
  rw [Lib.toList_data, Lib.toList_data] at h5
  have k5 := nums_inj hx.b hy.b h5
  have k4 := runsEq_iff.1 h4
  have k2 := bs_inj h2
  clear h5 h4 h2 hx hy
  cases x
  cases y
  simp only at h0 k2 h3 k4 k5 hp
  subst h0 k2 h3 k4 k5 hp
  rfl
theorem sameO_refl (u : Option It) : sameO u u = true := by
  cases u with
  | none => rfl
  | some x => exact sameP_refl x
structure Tree (l : List It) : Prop where
  pack : (packP l).2 = 0
  fit : ∀ x ∈ l, Fit x
theorem Tree.right {l : List It} (h : Tree l) : rightP l = true := (pack_zero h.pack).2
theorem Tree.rise {l : List It} (h : Tree l) : Rise l := rightP_rise h.right
theorem Tree.nil : Tree [] := ⟨rfl, fun _ h => absurd h List.not_mem_nil⟩
theorem same_st {a b : List It} (ha : Tree a) (hb : Tree b) {k : List UInt8} (h : sameO (st a k) (st b k) = true) : st a k = st b k := by
  cases hx : st a k with
  | none =>
    cases hy : st b k with
    | none => rfl
    | some y => rw [hx, hy] at h; cases h
  | some x =>
    cases hy : st b k with
    | none => rw [hx, hy] at h; cases h
    | some y =>
      rw [hx, hy] at h
      obtain ⟨m1, k1⟩ := st_some hx
      obtain ⟨m2, k2⟩ := st_some hy
      have hk : keyI x = keyI y := bs_inj (k1.trans k2.symm)
      rw [sameP_eq (ha.fit x m1) (hb.fit y m2) (key_inj (ha.rise.path x m1) (hb.rise.path y m2) hk) h]
theorem merge_T {b l r T : List It} (hb : Tree b) (hl : Tree l) (hr : Tree r) (hT : Tree T) (hp : ∀ q ∈ rounds3 b l r, (pk q).1 = st T (bs q.1) ∧ (pk q).2 = false) (ha : ∀ x ∈ T, ∃ q ∈ rounds3 b l r, q.1 = keyI x) : mergeP b l r = (T, [], 0) := by
  have sp := rounds3_spec hb.rise hl.rise hr.rise
  have hm : merged b l r = (kOf K0 T, T, []) := merge_same (rounds3 b l r) [] T K0 none [] sp.rise hT.rise hT.right hp ha
  unfold mergeP
  rw [if_neg (fun h => h hb.pack), if_neg (fun h => h hl.pack), if_neg (fun h => h hr.pack), hm]
  exact if_neg (fun h => h hT.pack)
theorem merge_right_alone {b r : List It} (hb : Tree b) (hr : Tree r) : mergeP b b r = (r, [], 0) := by
  have sp := rounds3_spec hb.rise hb.rise hr.rise
  refine merge_T hb hb hr hr (fun q hq => ?_) (fun x hx => sp.all 2 x (by omega) hx)
  obtain ⟨h0, h1, h2⟩ := sp.here q hq
  show (pickP q.2.1 q.2.2.1 q.2.2.2).1 = _ ∧ (pickP q.2.1 q.2.2.1 q.2.2.2).2 = _
  rw [h0, h1, h2]
  show (pickP (st b (bs q.1)) (st b (bs q.1)) (st r (bs q.1))).1 = st r (bs q.1) ∧ (pickP (st b (bs q.1)) (st b (bs q.1)) (st r (bs q.1))).2 = false
  unfold pickP
  by_cases h : (sameO (st b (bs q.1)) (st r (bs q.1)) || sameO (st r (bs q.1)) (st b (bs q.1))) = true
  · rw [if_pos h]
    rcases Bool.or_eq_true_iff.1 h with h | h
    · exact ⟨same_st hb hr h, rfl⟩
    · exact ⟨(same_st hr hb h).symm, rfl⟩
  · rw [if_neg h, if_pos (sameO_refl _)]
    exact ⟨rfl, rfl⟩
theorem merge_is {b l r : List It} (hb : Tree b) (hl : Tree l) (hr : Tree r) :
    mergeP b l r = if (packP (merged b l r).2.1).2 ≠ 0 then ([], [], (packP (merged b l r).2.1).2) else ((merged b l r).2.1, (merged b l r).2.2, 0) := by
  unfold mergeP
  rw [if_neg (fun h => h hb.pack), if_neg (fun h => h hl.pack), if_neg (fun h => h hr.pack)]
def dd : It := ⟨2, ⟨#[47, 100]⟩, ⟨#[]⟩, 0, [], []⟩
theorem dd_tree : Tree [dd] := ⟨by kernel_rfl, fun x hx => by
  obtain rfl := List.mem_singleton.1 hx
  exact ⟨by decide, by decide, by decide, by decide, fun n hn => absurd hn List.not_mem_nil⟩⟩
end Go.Proofs.YtkfikinjlbbibaaDoor
end
section
namespace Go.Proofs.YtkfikinjlbbibaaDoor
open Go.RowKit Go.Lib
open Go.Proofs.YtkfikinjlbbibaaDoorW.PrintWords Go.Proofs.YtkfikinjlbbibaaDoorW.PrintLast Go.Proofs.YtkfikinjlbbibaaDoor.PT
set_option linter.unusedVariables false
set_option linter.unusedSimpArgs false
def zIt : It := ⟨0, ⟨#[]⟩, ⟨#[]⟩, 0, [], []⟩
def atP (l : List It) (p : ByteArray) : It × Bool := match l.find? (fun x => decide (bs x.f1 = bs p)) with
  | some x => (x, true)
  | none => (zIt, false)
def toldP (C : List Cf) (p : ByteArray) (lo hi : Int) : Bool := C.any fun y => decide (bs y.f1 = bs p) && (decide (lo ≤ y.f0) && decide (y.f0 ≤ hi))
def it0 (o : Option It) : It := o.getD zIt
theorem find_st : ∀ {l : List It} {p : ByteArray}, Rise l → Vp p → l.find? (fun x => decide (bs x.f1 = bs p)) = st l (bs (swapB 47 0 p))
  | [], _, _, _ => rfl
  | x :: l, p, hl, hp => by
    have hv := hl.path x List.mem_cons_self
    by_cases e : bs x.f1 = bs p
    · have e2 : x.f1 = p := bs_inj e
      rw [st_cons_eq (show kl x = bs (swapB 47 0 p) by rw [← e2]; rfl), List.find?_cons_of_pos (by simpa using e)]
    · have e2 : kl x ≠ bs (swapB 47 0 p) := fun h => e (by rw [key_inj hv hp (bs_inj h)])
      rw [st_cons_ne e2, List.find?_cons_of_neg (by simpa using e), find_st hl.tail hp]
theorem at_st {l : List It} {p : ByteArray} (hl : Rise l) (hp : Vp p) : atP l p = (it0 (st l (bs (swapB 47 0 p))), (st l (bs (swapB 47 0 p))).isSome) := by
  unfold atP
  rw [find_st hl hp]
  cases st l (bs (swapB 47 0 p)) <;> rfl
theorem told_iff {C : List Cf} {p : ByteArray} {lo hi : Int} : toldP C p lo hi = true ↔ ∃ y ∈ C, y.f1 = p ∧ lo ≤ y.f0 ∧ y.f0 ≤ hi := by
  unfold toldP
  rw [List.any_eq_true]
  constructor
  · rintro ⟨y, hy, h⟩
    simp only [Bool.and_eq_true, decide_eq_true_eq] at h
    exact ⟨y, hy, bs_inj h.1, h.2⟩
  · rintro ⟨y, hy, h1, h2, h3⟩
    exact ⟨y, hy, by rw [h1, decide_eq_true rfl, decide_eq_true h2, decide_eq_true h3]; rfl⟩
theorem mstep_told (S : Ms) (r : Rd) : ∃ cs its, (mstep S r).2.2 = S.2.2 ++ cs ∧ (mstep S r).2.1 = S.2.1 ++ its ∧ (∀ y ∈ cs, y.f1 = rp r) ∧ ((∃ y ∈ cs, y.f0 = 1) ↔ (pk r).2 = true) ∧
    ((its = [] ∧ (∃ x, (pk r).1 = some x) ∧ ∃ y ∈ cs, 2 ≤ y.f0 ∧ y.f0 ≤ 3) ∨ ((∀ y ∈ cs, y.f0 = 1) ∧ its = (pk r).1.toList)) := by
  have one : ∀ b : Bool, ∃ cs : List Cf, (∀ C : List Cf, (if b = true then C ++ [⟨1, rp r⟩] else C) = C ++ cs) ∧ (∀ y ∈ cs, y.f1 = rp r ∧ y.f0 = 1) ∧ ((∃ y ∈ cs, y.f0 = 1) ↔ b = true) := fun b => by
    cases b with
    | false => exact ⟨[], fun C => by simp, fun y hy => absurd hy List.not_mem_nil, by simp⟩
    | true => exact ⟨[⟨1, rp r⟩], fun C => by simp, fun y hy => by obtain rfl := List.mem_singleton.1 hy; exact ⟨rfl, rfl⟩, by simp⟩
  obtain ⟨cs, h1, h2, h3⟩ := one (pk r).2
  have more : ∀ k : Int, 2 ≤ k → k ≤ 3 → ((∀ y ∈ cs ++ [(⟨k, rp r⟩ : Cf)], y.f1 = rp r) ∧ ((∃ y ∈ cs ++ [(⟨k, rp r⟩ : Cf)], y.f0 = 1) ↔ (pk r).2 = true) ∧ ∃ y ∈ cs ++ [(⟨k, rp r⟩ : Cf)], 2 ≤ y.f0 ∧ y.f0 ≤ 3) := fun k k2 k3 => by
    refine ⟨fun y hy => ?_, ?_, ⟨⟨k, rp r⟩, List.mem_append_right _ (List.mem_singleton.2 rfl), k2, k3⟩⟩
    · rcases List.mem_append.1 hy with hy | hy
      · exact (h2 y hy).1
      · obtain rfl := List.mem_singleton.1 hy
        rfl
    · rw [← h3]
      constructor
      · rintro ⟨y, hy, e⟩
        rcases List.mem_append.1 hy with hy | hy
        · exact ⟨y, hy, e⟩
        · obtain rfl := List.mem_singleton.1 hy
          dsimp only at e
          omega
      · rintro ⟨y, hy, e⟩
        exact ⟨y, List.mem_append_left _ hy, e⟩
  cases hp : (pk r).1 with
  | none =>
    rw [mstep_none hp]
    exact ⟨cs, [], h1 _, by simp, fun y hy => (h2 y hy).1, h3, .inr ⟨fun y hy => (h2 y hy).2, rfl⟩⟩
  | some x =>
    rw [mstep_some hp]
    by_cases c1 : kget S.1 (dirOf (rp r)) = 2
    · by_cases c2 : x.f0 = 4 ∧ kget S.1 x.f2 ≠ 1
      · rw [show mstepP S (rp r) (some x) (pk r).2 = (S.1, S.2.1, (if (pk r).2 = true then S.2.2 ++ [⟨1, rp r⟩] else S.2.2) ++ [⟨3, rp r⟩]) by unfold mstepP; dsimp only; rw [if_neg (fun h => h c1), if_pos c2]]
        obtain ⟨m1, m2, m3⟩ := more 3 (by omega) (by omega)
        exact ⟨cs ++ [⟨3, rp r⟩], [], by dsimp only; rw [h1, List.append_assoc], by simp, m1, m2, .inl ⟨rfl, ⟨x, rfl⟩, m3⟩⟩
      · have hn : x.f0 = 4 → kget S.1 x.f2 = 1 := fun h => Classical.byContradiction (fun h' => c2 ⟨h, h'⟩)
        rw [mstepP_put c1 hn]
        exact ⟨cs, [x], h1 _, rfl, fun y hy => (h2 y hy).1, h3, .inr ⟨fun y hy => (h2 y hy).2, rfl⟩⟩
    · rw [show mstepP S (rp r) (some x) (pk r).2 = (S.1, S.2.1, (if (pk r).2 = true then S.2.2 ++ [⟨1, rp r⟩] else S.2.2) ++ [⟨2, rp r⟩]) by unfold mstepP; dsimp only; rw [if_pos c1]]
      obtain ⟨m1, m2, m3⟩ := more 2 (by omega) (by omega)
      exact ⟨cs ++ [⟨2, rp r⟩], [], by dsimp only; rw [h1, List.append_assoc], by simp, m1, m2, .inl ⟨rfl, ⟨x, rfl⟩, m3⟩⟩
structure Done (done : List Rd) (S : Ms) : Prop where
  c : ∀ y ∈ S.2.2, ∃ r ∈ done, y.f1 = rp r
  i : ∀ x ∈ S.2.1, ∃ r ∈ done, (pk r).1 = some x
  both : ∀ r ∈ done, ((∃ y ∈ S.2.2, y.f1 = rp r ∧ y.f0 = 1) ↔ (pk r).2 = true)
  loose : ∀ r ∈ done, (∃ y ∈ S.2.2, y.f1 = rp r ∧ 2 ≤ y.f0 ∧ y.f0 ≤ 3) → (∃ x, (pk r).1 = some x) ∧ ∀ x ∈ S.2.1, keyI x ≠ r.1
  kept : ∀ r ∈ done, ¬ (∃ y ∈ S.2.2, y.f1 = rp r ∧ 2 ≤ y.f0 ∧ y.f0 ≤ 3) → ∀ x, (pk r).1 = some x → x ∈ S.2.1
theorem done_step {all done : List Rd} {S : Ms} {r : Rd} (hk : ∀ q ∈ all, ∀ x, (pk q).1 = some x → keyI x = q.1) (hd : ∀ q ∈ all, ∀ q' ∈ all, rp q = rp q' → q.1 = q'.1) (hin : ∀ q ∈ done, q ∈ all) (hr : r ∈ all) (hnew : ∀ q ∈ done, q.1 ≠ r.1) (h : Done done S) : Done (done ++ [r]) (mstep S r) := by
  obtain ⟨cs, its, e1, e2, h1, h2, h3⟩ := mstep_told S r
  have hne : ∀ q ∈ done, rp q ≠ rp r := fun q hq e => hnew q hq (hd q (hin q hq) r hr e)
  have hits : ∀ x ∈ its, (pk r).1 = some x := fun x hx => by
    rcases h3 with ⟨h3, _⟩ | ⟨_, h3⟩
    · rw [h3] at hx
      exact absurd hx List.not_mem_nil
    · rw [h3] at hx
      simpa using hx
  have oldc : ∀ q ∈ done, ∀ P : Cf → Prop, (∃ y ∈ S.2.2 ++ cs, y.f1 = rp q ∧ P y) ↔ (∃ y ∈ S.2.2, y.f1 = rp q ∧ P y) := fun q hq P => by
    constructor
    · rintro ⟨y, hy, e, p⟩
      rcases List.mem_append.1 hy with hy | hy
      · exact ⟨y, hy, e, p⟩
      · exact absurd (e.symm.trans (h1 y hy)) (hne q hq)
    · rintro ⟨y, hy, e, p⟩
      exact ⟨y, List.mem_append_left _ hy, e, p⟩
  have newc : ∀ P : Cf → Prop, (∃ y ∈ S.2.2 ++ cs, y.f1 = rp r ∧ P y) ↔ (∃ y ∈ cs, P y) := fun P => by
    constructor
    · rintro ⟨y, hy, e, p⟩
      rcases List.mem_append.1 hy with hy | hy
      · obtain ⟨q, hq, e2⟩ := h.c y hy
        exact absurd (e2.symm.trans e) (hne q hq)
      · exact ⟨y, hy, p⟩
    · rintro ⟨y, hy, p⟩
      exact ⟨y, List.mem_append_right _ hy, h1 y hy, p⟩
  have nokey : ∀ x ∈ S.2.1, keyI x ≠ r.1 := fun x hx e => by
    obtain ⟨q, hq, e2⟩ := h.i x hx
    exact hnew q hq ((hk q (hin q hq) x e2).symm.trans e)
  refine ⟨fun y hy => ?_, fun x hx => ?_, fun q hq => ?_, fun q hq hl => ?_, fun q hq hl x hx => ?_⟩
  · rw [e1] at hy
    rcases List.mem_append.1 hy with hy | hy
    · obtain ⟨q, hq, e⟩ := h.c y hy
      exact ⟨q, List.mem_append_left _ hq, e⟩
    · exact ⟨r, List.mem_append_right _ (List.mem_singleton.2 rfl), h1 y hy⟩
  · rw [e2] at hx
    rcases List.mem_append.1 hx with hx | hx
    · obtain ⟨q, hq, e⟩ := h.i x hx
      exact ⟨q, List.mem_append_left _ hq, e⟩
    · exact ⟨r, List.mem_append_right _ (List.mem_singleton.2 rfl), hits x hx⟩
  · rw [e1]
    rcases List.mem_append.1 hq with hq | hq
    · rw [oldc q hq]
      exact h.both q hq
    · obtain rfl := List.mem_singleton.1 hq
      rw [newc]
      exact h2
  · rw [e1] at hl
    rcases List.mem_append.1 hq with hq | hq
    · rw [oldc q hq] at hl
      obtain ⟨a, b⟩ := h.loose q hq hl
      refine ⟨a, fun x hx => ?_⟩
      rw [e2] at hx
      rcases List.mem_append.1 hx with hx | hx
      · exact b x hx
      · exact fun e => hnew q hq (e.symm.trans (hk r hr x (hits x hx)))
    · obtain rfl := List.mem_singleton.1 hq
      rw [newc] at hl
      rcases h3 with ⟨hi, hx, _⟩ | ⟨h3, _⟩
      · refine ⟨hx, fun x hx => ?_⟩
        rw [e2, hi, List.append_nil] at hx
        exact nokey x hx
      · obtain ⟨y, hy, a, b⟩ := hl
        have := h3 y hy
        omega
  · rw [e1] at hl
    rw [e2]
    rcases List.mem_append.1 hq with hq | hq
    · rw [oldc q hq] at hl
      exact List.mem_append_left _ (h.kept q hq hl x hx)
    · obtain rfl := List.mem_singleton.1 hq
      rw [newc] at hl
      rcases h3 with ⟨_, _, h3⟩ | ⟨_, h3⟩
      · exact absurd h3 hl
      · rw [h3, hx]
        exact List.mem_append_right _ (by simp)
theorem done_fold {all : List Rd} (hk : ∀ q ∈ all, ∀ x, (pk q).1 = some x → keyI x = q.1) (hd : ∀ q ∈ all, ∀ q' ∈ all, rp q = rp q' → q.1 = q'.1) (hs : all.Pairwise (fun r s => Less (bs r.1) (bs s.1))) : ∀ (rs done : List Rd) (S : Ms), all = done ++ rs → Done done S → Done all (rs.foldl mstep S)
  | [], done, S, e, h => by
    rw [List.append_nil] at e
    subst e
    exact h
  | r :: rs, done, S, e, h => by
    rw [List.foldl_cons]
    refine done_fold hk hd hs rs (done ++ [r]) _ (by rw [e]; simp) (done_step hk hd (fun q hq => by rw [e]; exact List.mem_append_left _ hq) (by rw [e]; simp) (fun q hq e2 => ?_) h)
    rw [e] at hs
    have := (List.pairwise_append.1 hs).2.2 q hq r List.mem_cons_self
    exact this.ne (by rw [e2])
theorem merged_done {b l r : List It} (hb : Tree b) (hl : Tree l) (hr : Tree r) : Done (rounds3 b l r) (merged b l r) := by
  have sp := rounds3_spec hb.rise hl.rise hr.rise
  refine done_fold (all := rounds3 b l r) (fun q hq x hx => ?_) (fun q hq q' hq' e => ?_) sp.rise (rounds3 b l r) [] ms0 rfl ⟨fun _ h => absurd h List.not_mem_nil, fun _ h => absurd h List.not_mem_nil, fun _ h => absurd h List.not_mem_nil, fun _ h => absurd h List.not_mem_nil, fun _ h => absurd h List.not_mem_nil⟩
  · have hh := sp.here q hq
    rcases pick_from q.2.1 q.2.2.1 q.2.2.2 hx with e | e
    · rw [e] at hh
      exact bs_inj (st_some hh.2.1.symm).2
    · rw [e] at hh
      exact bs_inj (st_some hh.2.2.symm).2
  · obtain ⟨p, _, k1, k2⟩ := round_path hb.rise hl.rise hr.rise hq
    obtain ⟨p', _, k3, k4⟩ := round_path hb.rise hl.rise hr.rise hq'
    have : p = p' := k2.symm.trans (e.trans k4)
    rw [← k1, ← k3, this]
theorem same_it0 {u v : Option It} (hu : ∀ x, u = some x → x.f0 ≠ 0) (hv : ∀ x, v = some x → x.f0 ≠ 0) : sameP (it0 u) (it0 v) = sameO u v := by
  cases u with
  | none =>
    cases v with
    | none => exact sameP_refl _
    | some y =>
      have : decide (zIt.f0 = y.f0) = false := decide_eq_false (fun e => hv y rfl e.symm)
      show sameP zIt y = false
      unfold sameP
      rw [this]
      rfl
  | some x =>
    cases v with
    | none =>
      have : decide (x.f0 = zIt.f0) = false := decide_eq_false (fun e => hu x rfl e)
      show sameP x zIt = false
      unfold sameP
      rw [this]
      rfl
    | some y => rfl
theorem st_kind {l : List It} (h : Tree l) {k : List UInt8} : ∀ x, st l k = some x → x.f0 ≠ 0 := fun x hx => by
  have := right_kinds h.right x (st_some hx).1
  omega
theorem pick_both (u v w : Option It) : (pickP u v w).2 = (!sameO v w && (!sameO v u && !sameO w u)) := by
  unfold pickP
  by_cases h1 : (sameO v w || sameO w u) = true
  · rw [if_pos h1]
    rcases Bool.or_eq_true_iff.1 h1 with h | h
    · rw [h]
      rfl
    · rw [h, Bool.not_true, Bool.and_false, Bool.and_false]
  · have h2 := (Bool.not_eq_true _).mp h1
    rw [Bool.or_eq_false_iff] at h2
    rw [if_neg h1]
    by_cases h3 : sameO v u = true
    · rw [if_pos h3, h3]
      simp
    · rw [if_neg h3, h2.1, h2.2, (Bool.not_eq_true _).mp h3]
      rfl
theorem pick_want {a b c : List It} (ha : Tree a) (hb : Tree b) (hc : Tree c) (k : List UInt8) : (pickP (st a k) (st b k) (st c k)).1 = if sameO (st b k) (st a k) = true then st c k else st b k := by
  have e1 := fun h => same_st (k := k) hb hc h
  have e2 := fun h => same_st (k := k) hc ha h
  unfold pickP
  by_cases h3 : sameO (st b k) (st a k) = true
  · rw [if_pos h3, if_pos h3]
    by_cases h1 : (sameO (st b k) (st c k) || sameO (st c k) (st a k)) = true
    · rw [if_pos h1]
      rcases Bool.or_eq_true_iff.1 h1 with h | h
      · exact e1 h
      · exact (same_st hb ha h3).trans (e2 h).symm
    · rw [if_neg h1]
  · rw [if_neg h3, if_neg h3]
    split <;> rfl
theorem sides {b l r : List It} (hb : Tree b) (hl : Tree l) (hr : Tree r) (hm : Tree (merged b l r).2.1) {x : It} (hx : x ∈ b ∨ x ∈ l ∨ x ∈ r) :
    toldP (merged b l r).2.2 x.f1 1 1 = (!sameP (atP l x.f1).1 (atP r x.f1).1 && (!sameP (atP l x.f1).1 (atP b x.f1).1 && !sameP (atP r x.f1).1 (atP b x.f1).1)) ∧
    (toldP (merged b l r).2.2 x.f1 2 3 = true → (atP (merged b l r).2.1 x.f1).2 = false ∧ (if sameP (atP l x.f1).1 (atP b x.f1).1 = true then (atP r x.f1).1 else (atP l x.f1).1).f0 ≠ 0) ∧
    (toldP (merged b l r).2.2 x.f1 2 3 = false → sameP (atP (merged b l r).2.1 x.f1).1 (if sameP (atP l x.f1).1 (atP b x.f1).1 = true then (atP r x.f1).1 else (atP l x.f1).1) = true) := by
  have sp := rounds3_spec hb.rise hl.rise hr.rise
  have dn := merged_done hb hl hr
  have hv : Vp x.f1 := by
    rcases hx with h | h | h
    · exact hb.rise.path x h
    · exact hl.rise.path x h
    · exact hr.rise.path x h
  obtain ⟨q, hq, hqk⟩ : ∃ q ∈ rounds3 b l r, q.1 = keyI x := by
    rcases hx with h | h | h
    · exact sp.all 0 x (by omega) h
    · exact sp.all 1 x (by omega) h
    · exact sp.all 2 x (by omega) h
  have hrp : rp q = x.f1 := by
    show swapB 0 47 q.1 = x.f1
    rw [hqk]
    exact key_back hv
  obtain ⟨s0, s1, s2⟩ := sp.here q hq
  have s0 : q.2.1 = st b (bs q.1) := s0
  have s1 : q.2.2.1 = st l (bs q.1) := s1
  have s2 : q.2.2.2 = st r (bs q.1) := s2
  have hkk : bs (swapB 47 0 x.f1) = bs q.1 := by rw [hqk]; rfl
  rw [at_st hb.rise hv, at_st hl.rise hv, at_st hr.rise hv, at_st hm.rise hv, hkk]
  dsimp only
  rw [same_it0 (st_kind hl) (st_kind hr), same_it0 (st_kind hl) (st_kind hb), same_it0 (st_kind hr) (st_kind hb)]
  have hpk1 : (pk q).1 = if sameO (st l (bs q.1)) (st b (bs q.1)) = true then st r (bs q.1) else st l (bs q.1) := by
    show (pickP q.2.1 q.2.2.1 q.2.2.2).1 = _
    rw [s0, s1, s2]
    exact pick_want hb hl hr _
  have hpk2 : (pk q).2 = (!sameO (st l (bs q.1)) (st r (bs q.1)) && (!sameO (st l (bs q.1)) (st b (bs q.1)) && !sameO (st r (bs q.1)) (st b (bs q.1)))) := by
    show (pickP q.2.1 q.2.2.1 q.2.2.2).2 = _
    rw [s0, s1, s2]
    exact pick_both _ _ _
  have hw : (if sameO (st l (bs q.1)) (st b (bs q.1)) = true then it0 (st r (bs q.1)) else it0 (st l (bs q.1))) = it0 (pk q).1 := by
    rw [hpk1]
    split <;> rfl
  have hkind : ∀ z, (pk q).1 = some z → z.f0 ≠ 0 := fun z hz => by
    rw [hpk1] at hz
    split at hz
    · exact st_kind hr z hz
    · exact st_kind hl z hz
  have hkey : ∀ z, (pk q).1 = some z → kl z = bs q.1 := fun z hz => by
    rw [hpk1] at hz
    split at hz
    · exact (st_some hz).2
    · exact (st_some hz).2
  rw [hw]
  refine ⟨?_, fun hlo => ?_, fun hlo => ?_⟩
  · rw [← hpk2]
    have h1 := dn.both q hq
    rw [hrp] at h1
    rw [Bool.eq_iff_iff, told_iff, ← h1]
    constructor
    · rintro ⟨y, hy, e, a, b⟩
      exact ⟨y, hy, e, by omega⟩
    · rintro ⟨y, hy, e, a⟩
      exact ⟨y, hy, e, by omega, by omega⟩
  · have h1 := dn.loose q hq (by rw [hrp]; exact told_iff.1 hlo)
    obtain ⟨⟨z, hz⟩, hno⟩ := h1
    have hn : st (merged b l r).2.1 (bs q.1) = none := st_none (fun y hy e => hno y hy (bs_inj e))
    rw [hn, hz]
    exact ⟨rfl, hkind z hz⟩
  · have hl2 : ¬ (∃ y ∈ (merged b l r).2.2, y.f1 = rp q ∧ 2 ≤ y.f0 ∧ y.f0 ≤ 3) := fun h => by
      rw [hrp] at h
      rw [told_iff.2 h] at hlo
      cases hlo
    cases hz : (pk q).1 with
    | some z =>
      have hzm := dn.kept q hq hl2 z hz
      have : st (merged b l r).2.1 (bs q.1) = some z := by rw [← hkey z hz]; exact st_mem hm.rise hzm
      rw [this]
      exact sameP_refl z
    | none =>
      have hn : st (merged b l r).2.1 (bs q.1) = none := st_none (fun y hy e => by
        obtain ⟨q', hq', e2⟩ := dn.i y hy
        have hk' : keyI y = q'.1 := by
          have hh := sp.here q' hq'
          rcases pick_from q'.2.1 q'.2.2.1 q'.2.2.2 e2 with e3 | e3
          · rw [e3] at hh
            exact bs_inj (st_some hh.2.1.symm).2
          · rw [e3] at hh
            exact bs_inj (st_some hh.2.2.symm).2
        have hqq : q'.1 = q.1 := hk'.symm.trans (bs_inj e)
        obtain ⟨t0, t1, t2⟩ := sp.here q' hq'
        have : pk q' = pk q := by
          show pickP q'.2.1 q'.2.2.1 q'.2.2.2 = pickP q.2.1 q.2.2.1 q.2.2.2
          rw [t0, t1, t2, s0, s1, s2, hqq]
          rfl
        rw [this, hz] at e2
        cases e2)
      rw [hn]
      exact sameP_refl _
theorem at_self {l : List It} (hl : Tree l) {y : It} (hy : y ∈ l) : atP l y.f1 = (y, true) := by
  rw [at_st hl.rise (hl.rise.path y hy), show bs (swapB 47 0 y.f1) = kl y from rfl, st_mem hl.rise hy]
  rfl
end Go.Proofs.YtkfikinjlbbibaaDoor
end
