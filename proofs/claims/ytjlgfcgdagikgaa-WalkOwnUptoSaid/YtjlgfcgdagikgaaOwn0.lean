/- WalkOwn: what its walk keeps. -/
import Derived.Test.YtjlgfcgdagikgaaPWalkx4
import Derived.Test.YtjlgfcgdagikgaaPureSplit
import Derived.Test.YtjlgfcgdagikgaaPureParts
import Derived.Deep.RegionHeld3
import Derived.Deep.DeepAppendRoom
import Derived.ArgAppend
namespace Go.Proofs.Ytjlgfcgdagikgaa.walkOwn
open Go.RowKit
open Go.Proofs.Ytjlgfcgdagikgaa.PWalk Go.Proofs.Ytjlgfcgdagikgaa.Pure
open Go.Proofs.YtjlgfcgdagikgaaW.PrintWords Go.Proofs.YtjlgfcgdagikgaaW.PrintLast Go.Proofs.YtjlgfcgdagikgaaW.PrintMore
set_option linter.unusedVariables false

/-- One element appended to a row of the call's own: in its place, or in a new block, all old ones kept. -/
theorem append_one {P : Program} {W : World} {ops : Array Oper} {rest : List Oper} {o : Oper} {a : Act} {Q : Exit → Act → World → Prop} (hgd : o.guard = none) (s x : Operand) (t e : TypeId) (z : Value) (bytes : Nat)
    (ho : o.op = .call { callee := .builtin .append, args := #[s, x], argTypes := #[t, t] })
    (ht : P.underlying t = some (.slice e)) (hinfo : (P.info? e).map (fun i => (i.zero, i.size, i.bytes)) = some (some z, 1, bytes)) (hz : z.cells.size = 1)
    (base g n cap : Nat) (xs : List Value) (y : Value) (hs : a.eval s = .slice (some ⟨g, 0, none⟩) n cap) (hx : a.eval x = .slice (some ⟨W.heap.size, 0, none⟩) 1 1) (h1 : y.oneCell' = true)
    (HO : W.ownsRow base e 1 (.slice (some ⟨g, 0, none⟩) n cap) n xs) (hbase : base ≤ W.heap.size) (hm : n + 1 ≤ maxLen) (hl : (n + 1) * bytes ≤ 140737488355328)
    (h : ∀ g' cap' w', w'.ownsRow base e 1 (.slice (some ⟨g', 0, none⟩) (n + 1) cap') (n + 1) (xs ++ [y]) → ((g' = g ∧ cap' = cap ∧ W.grownBy w' (some g)) ∨ (W.heap.size ≤ g' ∧ W.grownBy w' none)) →
      wpList P ops Q rest (a.put o.dst (.slice (some ⟨g', 0, none⟩) (n + 1) cap')) w') :
    wpList P ops Q (o :: rest) a (W.alloc (.cells #[y] e)) := by
  obtain ⟨i0, hi, hzz⟩ := Option.map_eq_some_iff.1 hinfo
  simp only [Prod.mk.injEq] at hzz
  obtain ⟨hz0, hz1, hz2⟩ := hzz
  have HO1 := HO.alloc (.cells #[y] e)
  by_cases hroom : n + 1 ≤ cap
  · refine wpList_append_own_spare (W.alloc (.cells #[y] e)) hgd s x t ho base e i0 1 ht hi hz1 g n cap xs hs HO1 ⟨W.heap.size, 0, none⟩ 1 1 [y] hx rfl (cell_one_new W y e) (by simpa using h1) hroom ?_
    intro w' hown hg
    exact h g cap w' hown (.inl ⟨rfl, rfl, World.grownBy.trans (World.grownBy_alloc W _ _) hg⟩)
  · refine wpList_append_grows (W.alloc (.cells #[y] e)) hgd s x t ho e i0 z 1 bytes ht hi hz0 hz1 hz2 hz (by decide) (some ⟨g, 0, none⟩) n cap xs hs (by simp) (by simpa using HO1.1) (fun b hb => by cases hb; exact HO1.cells (g := g) rfl) ⟨W.heap.size, 0, none⟩ 1 1 [y] hx rfl (cell_one_new W y e) (by simpa using h1) (by omega) hm hl ?_
    intro v' w' hown hg
    obtain ⟨g', cap', rfl, hb, _⟩ := hown.form (by omega)
    have hsz : (W.alloc (.cells #[y] e)).heap.size = W.heap.size + 1 := by simp
    rw [hsz] at hb
    have hg2 : W.grownBy w' none := World.grownBy.trans (World.grownBy_alloc W _ _) hg
    refine h g' cap' w' (own_weaken hown (by rw [hsz]; omega)) (.inr ⟨by omega, hg2⟩)

theorem info9o : (Try.prog.info? 9).map (fun i => (i.zero, i.size, i.bytes)) = some (some (.string ⟨#[]⟩), 1, 16) := by kernel_rfl
theorem info23o : (Try.prog.info? 23).map (fun i => (i.zero, i.size, i.bytes)) = some (some (.slice none 0 0), 1, 24) := by kernel_rfl

def wd (i k : Nat) : ByteArray := strOfNums [(i : Int) % 256, (i / 256 : Int) % 256, (i / 65536 : Int) % 256, (i / 16777216 : Int) % 256, (k : Int) % 256]
theorem word_any (i k : Nat) (w : World) : Calls Try.prog 14 #[.int .i64 i, .int .i64 k] w fun e w' => e = .returned (.string (wd i k)) ∧ Below w.heap.size w w' :=
  vellumlaw11_word.calls i k _ w rfl

/-- The lists that were kept: their values are slices of three over blocks of their own, all apart. -/
def slices (n : Nat) (ks : List (Nat × Nat)) : List Value := ks.map fun x => .slice (some ⟨x.1, 0, none⟩) n x.2

/-- What the kept lists hold, and that they lie apart. -/
structure KIn (B : Nat) (ks : List (Nat × Nat)) (F : Nat → List ByteArray) (w : World) : Prop where
  inner : ∀ (i : Nat) x, ks[i]? = some x → w.ownsRow B 9 1 (.slice (some ⟨x.1, 0, none⟩) 3 x.2) 3 ((F i).map Value.string)
  apart : ∀ (i j : Nat) x y, ks[i]? = some x → ks[j]? = some y → i ≠ j → x.1 ≠ y.1

structure Kept (B : Nat) (vk : Value) (ks : List (Nat × Nat)) (F : Nat → List ByteArray) (w : World) : Prop where
  row : w.ownsRow B 23 1 vk (slices 3 ks).length (slices 3 ks)
  kin : KIn B ks F w

theorem KIn.lt {B : Nat} {ks : List (Nat × Nat)} {F : Nat → List ByteArray} {w : World} (h : KIn B ks F w) {i : Nat} {x : Nat × Nat} (hx : ks[i]? = some x) : x.1 < w.heap.size :=
  own_lt (h.inner i x hx) x.1 rfl
theorem KIn.below {B : Nat} {ks : List (Nat × Nat)} {F : Nat → List ByteArray} {w w1 : World} (h : KIn B ks F w) (hb : Below w.heap.size w w1) : KIn B ks F w1 :=
  ⟨fun i x hx => pw_own_below (h.inner i x hx) hb, h.apart⟩
theorem Kept.below {B : Nat} {vk : Value} {ks : List (Nat × Nat)} {F : Nat → List ByteArray} {w w1 : World} (h : Kept B vk ks F w) (hb : Below w.heap.size w w1) : Kept B vk ks F w1 :=
  ⟨pw_own_below h.row hb, h.kin.below hb⟩
theorem slices_length (n : Nat) (ks : List (Nat × Nat)) : (slices n ks).length = ks.length := List.length_map _
theorem slices_snoc (n : Nat) (ks : List (Nat × Nat)) (x : Nat × Nat) : slices n ks ++ [.slice (some ⟨x.1, 0, none⟩) n x.2] = slices n (ks ++ [x]) := by simp [slices]

/-- One more list, of a block that is younger than all. -/
theorem KIn.snoc {B N : Nat} {ks : List (Nat × Nat)} {F : Nat → List ByteArray} {w : World} {x : Nat × Nat} (h : KIn B ks F w) (hold : ∀ (i : Nat) y, ks[i]? = some y → y.1 < N) (hN : N ≤ x.1)
    (hx : w.ownsRow B 9 1 (.slice (some ⟨x.1, 0, none⟩) 3 x.2) 3 ((F ks.length).map Value.string)) : KIn B (ks ++ [x]) F w := by
  have at_ : ∀ (i : Nat) y, (ks ++ [x])[i]? = some y → (i < ks.length ∧ ks[i]? = some y) ∨ (i = ks.length ∧ y = x) := by
    intro i y hy
    rcases Nat.lt_or_ge i ks.length with hlt | hge
    · rw [List.getElem?_append_left hlt] at hy
      exact .inl ⟨hlt, hy⟩
    · rw [List.getElem?_append_right hge] at hy
      have h0 : i - ks.length = 0 := by
        have := (List.getElem?_eq_some_iff.1 hy).1
        simp at this
        omega
      rw [h0] at hy
      simp at hy
      exact .inr ⟨by omega, hy.symm⟩
  refine ⟨fun i y hy => ?_, fun i j y z hy hz hij => ?_⟩
  · rcases at_ i y hy with ⟨_, hy⟩ | ⟨rfl, rfl⟩
    · exact h.inner i y hy
    · exact hx
  · rcases at_ i y hy with ⟨_, hy⟩ | ⟨rfl, rfl⟩
    · rcases at_ j z hz with ⟨_, hz⟩ | ⟨rfl, rfl⟩
      · exact h.apart i j y z hy hz hij
      · rename_i hy'; have := hold i y hy'; omega
    · rcases at_ j z hz with ⟨_, hz'⟩ | ⟨rfl, rfl⟩
      · have := hold j z hz'; omega
      · exact absurd rfl hij

/-- A row of another element type has been written. -/
theorem KIn.other {B : Nat} {ks : List (Nat × Nat)} {F : Nat → List ByteArray} {w w1 : World} {vk : Value} {n : Nat} {xs : List Value} (h : KIn B ks F w) (hk : w.ownsRow B 23 1 vk n xs) (hg : w.grownBy w1 vk.ownBlock) : KIn B ks F w1 :=
  ⟨fun i x hx => own_other (h.inner i x hx) hg (own_type_ne (h.inner i x hx) hk (by decide)), h.apart⟩

theorem kept_next {B N : Nat} {ks : List (Nat × Nat)} {F : Nat → List ByteArray} {vk v1 : Value} {w w1 : World} {g c : Nat} (h : Kept B vk ks F w) (hold : ∀ (i : Nat) y, ks[i]? = some y → y.1 < N) (hN : N ≤ g)
    (hx : w.ownsRow B 9 1 (.slice (some ⟨g, 0, none⟩) 3 c) 3 ((F ks.length).map Value.string)) (hr : w1.ownsRow B 23 1 v1 (slices 3 ks ++ [(Value.slice (some ⟨g, 0, none⟩) 3 c : Value)]).length (slices 3 ks ++ [(Value.slice (some ⟨g, 0, none⟩) 3 c : Value)])) (hg : w.grownBy w1 vk.ownBlock) :
    Kept B v1 (ks ++ [(g, c)]) F w1 := by
  have e := slices_snoc 3 ks (g, c)
  refine ⟨by rw [← e]; exact hr, (h.kin.snoc hold hN hx).other h.row hg⟩

theorem own_three {w : World} {base : Nat} {A : Option Addr} {c : Nat} {a b d : ByteArray} (h : Kd.R Kd.string 9 w base (fun _ => True) (.slice A 3 c) [a, b, d]) :
    ∃ g, A = some ⟨g, 0, none⟩ ∧ base ≤ g ∧ w.ownsRow base 9 1 (.slice (some ⟨g, 0, none⟩) 3 c) 3 ([a, b, d].map Value.string) := by
  have ho : w.ownsRow base 9 1 (.slice A 3 c) 3 ([a, b, d].map Value.string) := Kd.own_of_R h
  obtain ⟨g, c', e, hb, _⟩ := ho.form (by decide)
  injection e with e1 e2 e3
  subst e1
  exact ⟨g, rfl, hb, ho⟩

/-- One cell of one kept list is written. -/
theorem KIn.set {B : Nat} {ks : List (Nat × Nat)} {F : Nat → List ByteArray} {w : World} (h : KIn B ks F w) {i k : Nat} {x : Nat × Nat} (hx : ks[i]? = some x) (s : ByteArray) :
    KIn B ks (fun m => if m = i then (F i).set k s else F m) (w.setCell ⟨x.1, k, none⟩ (.string s)) := by
  refine ⟨fun m y hy => ?_, h.apart⟩
  by_cases e : m = i
  · subst e
    obtain rfl : x = y := Option.some.inj (hx.symm.trans hy)
    have := ((h.inner m x hx).stored k (.string s)).1
    rw [if_pos rfl, List.map_set]
    exact this
  · rw [if_neg e]
    exact ownsRow_setCell_other (h.inner m y hy) (by simp [Value.ownBlock]; exact h.apart m i y x hy hx e) _
theorem Kept.set {B : Nat} {vk : Value} {ks : List (Nat × Nat)} {F : Nat → List ByteArray} {w : World} (h : Kept B vk ks F w) {i k : Nat} {x : Nat × Nat} (hx : ks[i]? = some x) (s : ByteArray) :
    Kept B vk ks (fun m => if m = i then (F i).set k s else F m) (w.setCell ⟨x.1, k, none⟩ (.string s)) := by
  refine ⟨?_, h.kin.set hx s⟩
  have hne := own_type_ne h.row (h.kin.inner i x hx) (by decide)
  refine ownsRow_setCell_other h.row ?_ _
  rcases hne with e | e
  · rw [e]; simp
  · exact e
theorem Kept.congr {B : Nat} {vk : Value} {ks : List (Nat × Nat)} {F F' : Nat → List ByteArray} {w : World} (h : Kept B vk ks F w) (e : ∀ m, F m = F' m) : Kept B vk ks F' w :=
  ⟨h.row, ⟨fun i x hx => by rw [← e i]; exact h.kin.inner i x hx, h.kin.apart⟩⟩

def W3 (m : Nat) : List ByteArray := [wd m 0, wd m 1, wd m 2]
/-- What the kept lists hold while they are written over: all ahead of i, and k cells of the i-th. -/
def F2 (O : Nat → List ByteArray) (i k : Nat) (m : Nat) : List ByteArray := if m < i then W3 m else if m = i then (W3 m).take k ++ (O m).drop k else O m
theorem F2_next (O : Nat → List ByteArray) (i k : Nat) (hO : (O i).length = 3) (hk : k < 3) (m : Nat) : (if m = i then (F2 O i k i).set k (wd i k) else F2 O i k m) = F2 O i (k + 1) m := by
  by_cases e : m = i
  · subst e
    rw [if_pos rfl]
    simp only [F2, Nat.lt_irrefl, if_false, if_true]
    match O m, hO with
    | [a, b, c], _ =>
      match k, hk with
      | 0, _ => rfl
      | 1, _ => rfl
      | 2, _ => rfl
  · rw [if_neg e]
    simp only [F2, e, if_false]
theorem F2_done (O : Nat → List ByteArray) (i : Nat) (hO : (O i).length = 3) (m : Nat) : F2 O i 3 m = F2 O (i + 1) 0 m := by
  simp only [F2]
  by_cases h1 : m < i
  · rw [if_pos h1, if_pos (by omega)]
  · rw [if_neg h1]
    by_cases h2 : m = i
    · subst h2
      rw [if_pos rfl, if_pos (by omega)]
      match O m, hO with
      | [a, b, c], _ => rfl
    · rw [if_neg h2, if_neg (by omega)]
      split
      · simp
      · rfl
theorem F2_zero (O : Nat → List ByteArray) (m : Nat) : F2 O 0 0 m = O m := by
  simp only [F2, Nat.not_lt_zero, if_false]
  split <;> simp

theorem below_chain {a b c : World} (h1 : Below a.heap.size a b) (h2 : Below b.heap.size b c) : Below a.heap.size a c := below_then h1 h1.size h2
theorem row_at {w : World} {base e g n cap : Nat} {xs : List Value} (h : w.ownsRow base e 1 (.slice (some ⟨g, 0, none⟩) n cap) n xs) (j : Nat) (u : Value) (hj : xs[j]? = some u) : w.cell? ⟨g, j, none⟩ = some u ∧ w.frozen? ⟨g, j, none⟩ = false := by
  constructor
  · have := h.cells (g := g) rfl j u hj
    rwa [add_plain] at this
  · rcases h.2 with ⟨h', _⟩ | ⟨g', cap', cur, h', _, hh, _⟩
    · cases h'
    · have : g = g' := by injection h' with h'; injection h' with h'; injection h' with h'
      subst this
      simp [World.frozen?, hh]
theorem Kept.at_ {B n c i k : Nat} {A : Option Addr} {ks : List (Nat × Nat)} {F : Nat → List ByteArray} {w : World} (h : Kept B (.slice A n c) ks F w) (hn : ks.length = n) (hi : i < n) (hk : k < 3) :
    ∃ gk x, A = some ⟨gk, 0, none⟩ ∧ ks[i]? = some x ∧ w.cell? ⟨gk, i, none⟩ = some (.slice (some ⟨x.1, 0, none⟩) 3 x.2) ∧ w.cell? ⟨x.1, k, none⟩ = some (.string ((F i).getD k ByteArray.empty)) ∧ w.frozen? ⟨x.1, k, none⟩ = false := by
  have hr := h.row
  rw [slices_length, hn] at hr
  obtain ⟨gk, c', e, _, _⟩ := hr.form (by omega)
  injection e with e1 e2 e3
  subst e1
  have hx : ks[i]? = some ks[i] := List.getElem?_eq_getElem (by omega)
  have hin := h.kin.inner i _ hx
  have hl : (F i).length = 3 := by have := hin.1; simpa using this
  refine ⟨gk, ks[i], rfl, hx, (row_at hr i _ (by simp [slices, hx])).1, ?_⟩
  exact row_at hin k _ (by rw [List.getElem?_map, List.getElem?_eq_getElem (by omega), List.getD_eq_getElem?_getD, List.getElem?_eq_getElem (by omega)]; rfl)
theorem keep4_below {w3 w1 w2 : World} {a b : Addr} {u v : Value} (hb : Below w1.heap.size w1 w2) (h : w1.cell? a = some u) (h2 : w1.cell? b = some v) (h3 : w1.frozen? b = false) (k : Aside0 (Below w3.heap.size w3 w1)) :
    w2.cell? a = some u ∧ w2.cell? b = some v ∧ w2.frozen? b = false ∧ Aside0 (Below w3.heap.size w3 w2) :=
  ⟨pw_cell_below hb h, pw_cell_below hb h2, (hb.frozen (World.block_lt_of_cell? _ _ h2)).trans h3, ⟨below_chain k.out hb⟩⟩
theorem keep4_start {w3 : World} {a b : Addr} {u v : Value} (h : w3.cell? a = some u) (h2 : w3.cell? b = some v) (h3 : w3.frozen? b = false) :
    w3.drew.cell? a = some u ∧ w3.drew.cell? b = some v ∧ w3.drew.frozen? b = false ∧ Aside0 (Below w3.heap.size w3 w3.drew) := ⟨h, h2, h3, ⟨below_drew (Below.refl _ _)⟩⟩
theorem keep4_drewN {w3 w1 : World} {a b : Addr} {u v : Value} (n : Nat) (h : w1.cell? a = some u) (h2 : w1.cell? b = some v) (h3 : w1.frozen? b = false) (k : Aside0 (Below w3.heap.size w3 w1)) :
    (w1.drewN n).cell? a = some u ∧ (w1.drewN n).cell? b = some v ∧ (w1.drewN n).frozen? b = false ∧ Aside0 (Below w3.heap.size w3 (w1.drewN n)) := ⟨h, h2, h3, ⟨pw_below_drewN k.out n⟩⟩
theorem keep4_alloc {w3 w1 : World} {a b : Addr} {u v : Value} (o : Obj) (h : w1.cell? a = some u) (h2 : w1.cell? b = some v) (h3 : w1.frozen? b = false) (k : Aside0 (Below w3.heap.size w3 w1)) :
    (w1.alloc o).cell? a = some u ∧ (w1.alloc o).cell? b = some v ∧ (w1.alloc o).frozen? b = false ∧ Aside0 (Below w3.heap.size w3 (w1.alloc o)) := keep4_below ((Below.refl _ _).alloc (Nat.le_refl _) o) h h2 h3 k

theorem Kept.congr' {B : Nat} {vk : Value} {ks : List (Nat × Nat)} {F F' : Nat → List ByteArray} {w : World} (h : Kept B vk ks F w) (e : ∀ m, m < ks.length → F m = F' m) : Kept B vk ks F' w :=
  ⟨h.row, ⟨fun i x hx => by rw [← e i (List.getElem?_eq_some_iff.1 hx).1]; exact h.kin.inner i x hx, h.kin.apart⟩⟩
theorem F2_all (O : Nat → List ByteArray) (n m : Nat) (h : m < n) : F2 O n 0 m = W3 m := by simp [F2, h]

theorem own_prefix {w : World} {base e g n m cap : Nat} {xs ys : List Value} (h : w.ownsRow base e 1 (.slice (some ⟨g, 0, none⟩) m cap) m ys) (hn : n ≤ m) (hx : ys.take n = xs) (hl : xs.length = n) : w.ownsRow base e 1 (.slice (some ⟨g, 0, none⟩) n cap) n xs := by
  refine ⟨by rw [hl, Nat.mul_one], ?_⟩
  rcases h.2 with ⟨h', _⟩ | ⟨g', cap', cur, h', hb, hh, h1, h2, h3, h4⟩
  · cases h'
  · have e1 : g = g' := by injection h' with h'; injection h' with h'; injection h' with h'
    have e2 : cap = cap' := by injection h'
    subst e1 e2
    refine .inr ⟨g, cap, cur, rfl, hb, hh, by omega, h2, h3, ?_⟩
    rw [Nat.mul_one] at h4 ⊢
    rw [← hx, ← h4, List.take_take, Nat.min_eq_left hn]

/-- The first k words of list i. -/
def wds (i k : Nat) : List ByteArray := (List.range k).map (wd i)
theorem wds_succ (i k : Nat) : wds i (k + 1) = wds i k ++ [wd i k] := by simp [wds, List.range_succ]
theorem wds_take (i k : Nat) (h : 3 ≤ k) : ((wds i k).map Value.string).take 3 = (W3 i).map Value.string := by
  match k, h with
  | k + 3, _ =>
    have e : wds i (k + 3) = W3 i ++ ((List.range k).map fun j => wd i (j + 3)) := by
      simp only [wds, Nat.add_comm k 3, List.range_add, List.map_append, List.map_map]
      congr 1
      apply List.map_congr_left
      intro j _
      show wd i (3 + j) = wd i (j + 3)
      rw [Nat.add_comm]
    rw [e, List.map_append, List.take_left' (by rfl)]
theorem wds_len (i k : Nat) : (wds i k).length = k := by simp [wds]

/-- The kept lists and the long ones. -/
structure More (B n : Nat) (vk vm : Value) (ks ms : List (Nat × Nat)) (w : World) : Prop where
  rowK : w.ownsRow B 23 1 vk (slices 3 ks).length (slices 3 ks)
  rowM : w.ownsRow B 23 1 vm (slices 70 ms).length (slices 70 ms)
  rows : vm.ownBlock = none ∨ vk.ownBlock ≠ vm.ownBlock
  kin : KIn B ks W3 w
  min : ∀ (i : Nat) x, ms[i]? = some x → w.ownsRow B 9 1 (.slice (some ⟨x.1, 0, none⟩) 70 x.2) 70 ((wds i 70).map Value.string)
  apart : ∀ (i j : Nat) x y, ms[i]? = some x → ks[j]? = some y → i ≠ j → x.1 ≠ y.1

theorem More.below {B n : Nat} {vk vm : Value} {ks ms : List (Nat × Nat)} {w w1 : World} (h : More B n vk vm ks ms w) (hb : Below w.heap.size w w1) : More B n vk vm ks ms w1 :=
  ⟨pw_own_below h.rowK hb, pw_own_below h.rowM hb, h.rows, h.kin.below hb, fun i x hx => pw_own_below (h.min i x hx) hb, h.apart⟩
theorem More.at_ {B n m c i : Nat} {A : Option Addr} {vm : Value} {ks ms : List (Nat × Nat)} {w : World} (h : More B m (.slice A n c) vm ks ms w) (hn : ks.length = n) (hi : i < n) :
    ∃ gk x, A = some ⟨gk, 0, none⟩ ∧ ks[i]? = some x ∧ w.cell? ⟨gk, i, none⟩ = some (.slice (some ⟨x.1, 0, none⟩) 3 x.2) := by
  have hr := h.rowK
  rw [slices_length, hn] at hr
  obtain ⟨gk, c', e, _, _⟩ := hr.form (by omega)
  injection e with e1 e2 e3
  subst e1
  have hx : ks[i]? = some ks[i] := List.getElem?_eq_getElem (by omega)
  exact ⟨gk, ks[i], rfl, hx, (row_at hr i _ (by simp [slices, hx])).1⟩
/-- Nothing that was there has turned. -/
theorem More.fresh {B n : Nat} {vk vm : Value} {ks ms : List (Nat × Nat)} {w w1 : World} (h : More B n vk vm ks ms w) (hg : w.grownBy w1 none) : More B n vk vm ks ms w1 :=
  h.below ⟨hg.os, hg.tape, hg.output, hg.size, fun k hk => hg.block k hk (by simp)⟩
theorem More.row_ne {B n g c m : Nat} {vk vm : Value} {ks ms : List (Nat × Nat)} {w : World} {xs : List Value} (h : w.ownsRow B 23 1 vk n xs) {ys : List Value} (h2 : w.ownsRow B 9 1 (.slice (some ⟨g, 0, none⟩) m c) m ys) : vk.ownBlock = none ∨ vk.ownBlock ≠ some g :=
  own_type_ne h h2 (by decide)

/-- The list at hand was appended to in its place. -/
theorem More.inplace {B n N i g c k : Nat} {vk vm : Value} {ks ms : List (Nat × Nat)} {w w1 : World} {x : Nat × Nat} (h : More B n vk vm ks ms w) (hx : ks[i]? = some x) (hms : ms.length = i)
    (hg : w.grownBy w1 (some g)) (hgx : (g = x.1 ∧ c = x.2) ∨ (N ≤ g ∧ (∀ (j : Nat) y, ks[j]? = some y → y.1 < N) ∧ ∀ (j : Nat) y, ms[j]? = some y → y.1 < N))
    (ho0 : w.ownsRow B 9 1 (.slice (some ⟨g, 0, none⟩) k c) k ((wds i k).map Value.string)) (ho : w1.ownsRow B 9 1 (.slice (some ⟨g, 0, none⟩) (k + 1) c) (k + 1) ((wds i (k + 1)).map Value.string)) (hk : 3 ≤ k) : More B n vk vm ks ms w1 := by
  have hnb : ∀ {v : Value} {m : Nat} {xs : List Value}, w.ownsRow B 23 1 v m xs → w1.ownsRow B 23 1 v m xs := fun hv => own_other hv hg (own_type_ne hv ho0 (by decide))
  refine ⟨hnb h.rowK, hnb h.rowM, h.rows, ⟨fun j y hy => ?_, h.kin.apart⟩, fun j y hy => ?_, h.apart⟩
  · by_cases e : j = i
    · subst e
      obtain rfl : x = y := Option.some.inj (hx.symm.trans hy)
      rcases hgx with ⟨rfl, rfl⟩ | ⟨hN, hK, _⟩
      · exact own_prefix ho (by omega) (wds_take j (k + 1) (by omega)) rfl
      · exact own_other (h.kin.inner j x hy) hg (.inr (by simp [Value.ownBlock]; have := hK j x hy; omega))
    · refine own_other (h.kin.inner j y hy) hg (.inr ?_)
      simp only [Value.ownBlock, ne_eq, Option.some.injEq]
      rcases hgx with ⟨rfl, rfl⟩ | ⟨hN, hK, _⟩
      · exact h.kin.apart j i y x hy hx e
      · have := hK j y hy; omega
  · refine own_other (h.min j y hy) hg (.inr ?_)
    simp only [Value.ownBlock, ne_eq, Option.some.injEq]
    have hj : j < ms.length := (List.getElem?_eq_some_iff.1 hy).1
    rcases hgx with ⟨rfl, rfl⟩ | ⟨hN, _, hM⟩
    · exact h.apart j i y x hy hx (by omega)
    · have := hM j y hy; omega

theorem below_more {B g k c g' c' : Nat} {w W w' : World} {xs : List Value} (hb : Below B w W) (ho : W.ownsRow B 9 1 (.slice (some ⟨g, 0, none⟩) k c) k xs)
    (hc : (g' = g ∧ c' = c ∧ W.grownBy w' (some g)) ∨ (W.heap.size ≤ g' ∧ W.grownBy w' none)) (hB : B ≤ W.heap.size := by exact Below.size (by assumption)) : Below B w w' := by
  rcases hc with ⟨_, _, hg⟩ | ⟨_, hg⟩
  · exact hb.grown hg hB (fun j hj => by cases hj; exact own_base ho g rfl)
  · exact hb.grown hg hB (fun j hj => by cases hj)

/-- One more word behind the list at hand. -/
theorem more_step {B i k g c g' c' : Nat} {vk vm : Value} {ks ms : List (Nat × Nat)} {wo W w' : World} {x : Nat × Nat} (hx : ks[i]? = some x) (hms : ms.length = i) (hk : 3 ≤ k)
    (hK : ∀ (j : Nat) y, ks[j]? = some y → y.1 < wo.heap.size) (hM : ∀ (j : Nat) y, ms[j]? = some y → y.1 < wo.heap.size) (hG : (g = x.1 ∧ c = x.2) ∨ wo.heap.size ≤ g) (hS : wo.heap.size ≤ W.heap.size)
    (hO : W.ownsRow B 9 1 (.slice (some ⟨g, 0, none⟩) k c) k ((wds i k).map Value.string)) (h : More B 0 vk vm ks ms W)
    (hO' : w'.ownsRow B 9 1 (.slice (some ⟨g', 0, none⟩) (k + 1) c') (k + 1) ((wds i k).map Value.string ++ [.string (wd i k)]))
    (hc : (g' = g ∧ c' = c ∧ W.grownBy w' (some g)) ∨ (W.heap.size ≤ g' ∧ W.grownBy w' none)) :
    ((g' = x.1 ∧ c' = x.2) ∨ wo.heap.size ≤ g') ∧ More B 0 vk vm ks ms w' ∧ wo.heap.size ≤ w'.heap.size := by
  rcases hc with ⟨rfl, rfl, hg⟩ | ⟨hle, hg⟩
  · refine ⟨hG, h.inplace (N := wo.heap.size) hx hms hg ?_ hO (by rw [wds_succ, List.map_append]; exact hO') hk, Nat.le_trans hS hg.size⟩
    rcases hG with h1 | h1
    · exact .inl h1
    · exact .inr ⟨h1, hK, hM⟩
  · exact ⟨.inr (by omega), h.fresh hg, Nat.le_trans hS hg.size⟩

/-- The list at hand joins the long ones. -/
theorem more_next {B i g c : Nat} {vk vm v1 : Value} {ks ms : List (Nat × Nat)} {wo W w' : World} {x : Nat × Nat} (hx : ks[i]? = some x) (hms : ms.length = i)
    (hK : ∀ (j : Nat) y, ks[j]? = some y → y.1 < wo.heap.size) (hG : (g = x.1 ∧ c = x.2) ∨ wo.heap.size ≤ g)
    (hO : W.ownsRow B 9 1 (.slice (some ⟨g, 0, none⟩) 70 c) 70 ((wds i 70).map Value.string)) (h : More B 0 vk vm ks ms W)
    (hr : w'.ownsRow B 23 1 v1 (slices 70 ms ++ [(Value.slice (some ⟨g, 0, none⟩) 70 c : Value)]).length (slices 70 ms ++ [(Value.slice (some ⟨g, 0, none⟩) 70 c : Value)]))
    (hg : W.grownBy w' vm.ownBlock) (hat : v1.ownBlock = vm.ownBlock ∨ ∃ b, v1.ownBlock = some b ∧ W.heap.size ≤ b) : More B 0 vk v1 ks (ms ++ [(g, c)]) w' := by
  have e := slices_snoc 70 ms (g, c)
  have at_ : ∀ (m : Nat) y, (ms ++ [(g, c)])[m]? = some y → ms[m]? = some y ∨ (m = i ∧ y = (g, c)) := by
    intro m y hy
    rcases Nat.lt_or_ge m ms.length with hlt | hge
    · rw [List.getElem?_append_left hlt] at hy
      exact .inl hy
    · rw [List.getElem?_append_right hge] at hy
      have h0 : m - ms.length = 0 := by
        have := (List.getElem?_eq_some_iff.1 hy).1
        simp at this
        omega
      rw [h0] at hy
      simp at hy
      exact .inr ⟨by omega, hy.symm⟩
  have n9 : ∀ {v : Value} {m : Nat} {xs : List Value}, W.ownsRow B 9 1 v m xs → w'.ownsRow B 9 1 v m xs := fun hv => own_other hv hg (own_type_ne hv h.rowM (by decide))
  refine ⟨own_other h.rowK hg ?_, by rw [← e]; exact hr, ?_, ⟨fun j y hy => n9 (h.kin.inner j y hy), h.kin.apart⟩, fun j y hy => ?_, fun j m y z hy hz hjm => ?_⟩
  · rcases h.rows with e0 | e0
    · cases hv : vk.ownBlock with
      | none => exact .inl rfl
      | some b => rw [e0]; exact .inr (by simp)
    · exact .inr e0
  · rcases hat with e1 | ⟨b, e1, hb⟩
    · rw [e1]; exact h.rows
    · refine .inr ?_
      rw [e1]
      intro e2
      have := own_lt h.rowK b e2
      omega
  · rcases at_ j y hy with hy | ⟨rfl, rfl⟩
    · exact n9 (h.min j y hy)
    · exact n9 hO
  · rcases at_ j y hy with hy | ⟨rfl, rfl⟩
    · exact h.apart j m y z hy hz hjm
    · rcases hG with ⟨rfl, rfl⟩ | hG
      · exact h.kin.apart j m x z hx hz hjm
      · have := hK m z hz
        show g ≠ z.1
        omega

theorem More.all_ {B n m ck cm i k : Nat} {A Am : Option Addr} {ks ms : List (Nat × Nat)} {w : World} (h : More B m (.slice A n ck) (.slice Am n cm) ks ms w) (hn : ks.length = n) (hm : ms.length = n) (hi : i < n) (hk : k < 70) :
    ∃ gk gm x y, A = some ⟨gk, 0, none⟩ ∧ Am = some ⟨gm, 0, none⟩ ∧ w.cell? ⟨gm, i, none⟩ = some (.slice (some ⟨y, 0, none⟩) 70 (ms.getD i (0, 0)).2) ∧ w.cell? ⟨y, k, none⟩ = some (.string (wd i k)) ∧
      w.cell? ⟨gk, i, none⟩ = some (.slice (some ⟨x, 0, none⟩) 3 (ks.getD i (0, 0)).2) ∧ (k < 3 → w.cell? ⟨x, k, none⟩ = some (.string (wd i k))) := by
  have hr := h.rowK
  rw [slices_length, hn] at hr
  obtain ⟨gk, c', e, _, _⟩ := hr.form (by omega)
  injection e with e1 e2 e3
  subst e1
  have hr2 := h.rowM
  rw [slices_length, hm] at hr2
  obtain ⟨gm, c'', e, _, _⟩ := hr2.form (by omega)
  injection e with e1 e2 e3
  subst e1
  have hx : ks[i]? = some ks[i] := List.getElem?_eq_getElem (by omega)
  have hy : ms[i]? = some ms[i] := List.getElem?_eq_getElem (by omega)
  refine ⟨gk, gm, ks[i].1, ms[i].1, rfl, rfl, ?_, ?_, ?_, fun h3 => ?_⟩
  · rw [List.getD_eq_getElem?_getD, hy]
    exact (row_at hr2 i _ (by simp [slices, hy])).1
  · exact (row_at (h.min i _ hy) k _ (by simp [wds, hk])).1
  · rw [List.getD_eq_getElem?_getD, hx]
    exact (row_at hr i _ (by simp [slices, hx])).1
  · refine (row_at (h.kin.inner i _ hx) k _ ?_).1
    match k, h3 with
    | 0, _ => rfl
    | 1, _ => rfl
    | 2, _ => rfl

theorem keep5_start {w3 : World} {a0 a1 a2 a3 : Addr} {u0 u1 u2 u3 : Value} (h0 : w3.cell? a0 = some u0) (h1 : w3.cell? a1 = some u1) (h2 : w3.cell? a2 = some u2) (h3 : w3.cell? a3 = some u3) :
    w3.drew.cell? a0 = some u0 ∧ w3.drew.cell? a1 = some u1 ∧ w3.drew.cell? a2 = some u2 ∧ w3.drew.cell? a3 = some u3 ∧ Aside0 (Below w3.heap.size w3 w3.drew) := ⟨h0, h1, h2, h3, ⟨below_drew (Below.refl _ _)⟩⟩
theorem keep5_below {w3 w1 w2 : World} {a0 a1 a2 a3 : Addr} {u0 u1 u2 u3 : Value} (hb : Below w1.heap.size w1 w2) (h0 : w1.cell? a0 = some u0) (h1 : w1.cell? a1 = some u1) (h2 : w1.cell? a2 = some u2) (h3 : w1.cell? a3 = some u3) (k : Aside0 (Below w3.heap.size w3 w1)) :
    w2.cell? a0 = some u0 ∧ w2.cell? a1 = some u1 ∧ w2.cell? a2 = some u2 ∧ w2.cell? a3 = some u3 ∧ Aside0 (Below w3.heap.size w3 w2) := ⟨pw_cell_below hb h0, pw_cell_below hb h1, pw_cell_below hb h2, pw_cell_below hb h3, ⟨below_chain k.out hb⟩⟩
theorem keep5_drewN {w3 w1 : World} {a0 a1 a2 a3 : Addr} {u0 u1 u2 u3 : Value} (n : Nat) (h0 : w1.cell? a0 = some u0) (h1 : w1.cell? a1 = some u1) (h2 : w1.cell? a2 = some u2) (h3 : w1.cell? a3 = some u3) (k : Aside0 (Below w3.heap.size w3 w1)) :
    (w1.drewN n).cell? a0 = some u0 ∧ (w1.drewN n).cell? a1 = some u1 ∧ (w1.drewN n).cell? a2 = some u2 ∧ (w1.drewN n).cell? a3 = some u3 ∧ Aside0 (Below w3.heap.size w3 (w1.drewN n)) := ⟨h0, h1, h2, h3, ⟨pw_below_drewN k.out n⟩⟩
theorem keep3_start {w3 : World} {a0 a1 : Addr} {u0 u1 : Value} (h0 : w3.cell? a0 = some u0) (h1 : w3.cell? a1 = some u1) :
    w3.drew.cell? a0 = some u0 ∧ w3.drew.cell? a1 = some u1 ∧ Aside0 (Below w3.heap.size w3 w3.drew) := ⟨h0, h1, ⟨below_drew (Below.refl _ _)⟩⟩
theorem keep3_below {w3 w1 w2 : World} {a0 a1 : Addr} {u0 u1 : Value} (hb : Below w1.heap.size w1 w2) (h0 : w1.cell? a0 = some u0) (h1 : w1.cell? a1 = some u1) (k : Aside0 (Below w3.heap.size w3 w1)) :
    w2.cell? a0 = some u0 ∧ w2.cell? a1 = some u1 ∧ Aside0 (Below w3.heap.size w3 w2) := ⟨pw_cell_below hb h0, pw_cell_below hb h1, ⟨below_chain k.out hb⟩⟩
theorem keep3_drewN {w3 w1 : World} {a0 a1 : Addr} {u0 u1 : Value} (n : Nat) (h0 : w1.cell? a0 = some u0) (h1 : w1.cell? a1 = some u1) (k : Aside0 (Below w3.heap.size w3 w1)) :
    (w1.drewN n).cell? a0 = some u0 ∧ (w1.drewN n).cell? a1 = some u1 ∧ Aside0 (Below w3.heap.size w3 (w1.drewN n)) := ⟨h0, h1, ⟨pw_below_drewN k.out n⟩⟩

def tm (l : List ByteArray) (i : Nat) : ByteArray := mkB (tameL (bs (l.getD i ByteArray.empty)))
def three (l : List ByteArray) (i : Nat) : List ByteArray := [tm l i, ⟨#[121]⟩, tm l i]

theorem laid_len {ps : List (List UInt8)} {t : List UInt8} (h : walkParts.Laid ps t) : t.length ≤ 60 * ps.length + 6 := by
  induction h with
  | none => simp
  | last hs => have := walkParts.sep_len hs; omega
  | more hs hp ht ih =>
    have := walkParts.sep_len hs
    have := (walkParts.ok_good hp).1
    simp only [List.length_append, List.length_cons]
    omega

theorem keep_start {w3 : World} {a : Addr} {v : Value} (h : w3.cell? a = some v) : w3.drew.cell? a = some v ∧ Aside0 (Below w3.heap.size w3 w3.drew) := ⟨h, ⟨below_drew (Below.refl _ _)⟩⟩
theorem keep_below {w3 w1 w2 : World} {a : Addr} {v : Value} (hb : Below w1.heap.size w1 w2) (h : w1.cell? a = some v) (k : Aside0 (Below w3.heap.size w3 w1)) : w2.cell? a = some v ∧ Aside0 (Below w3.heap.size w3 w2) := ⟨pw_cell_below hb h, ⟨below_chain k.out hb⟩⟩
theorem keep_drewN {w3 w1 : World} {a : Addr} {v : Value} (n : Nat) (h : w1.cell? a = some v) (k : Aside0 (Below w3.heap.size w3 w1)) : (w1.drewN n).cell? a = some v ∧ Aside0 (Below w3.heap.size w3 (w1.drewN n)) := ⟨h, ⟨pw_below_drewN k.out n⟩⟩
theorem keep_alloc {w3 w1 : World} {a : Addr} {v : Value} (o : Obj) (h : w1.cell? a = some v) (k : Aside0 (Below w3.heap.size w3 w1)) : (w1.alloc o).cell? a = some v ∧ Aside0 (Below w3.heap.size w3 (w1.alloc o)) := keep_below ((Below.refl _ _).alloc (Nat.le_refl _) o) h k
theorem path_three (l : List ByteArray) (i : Nat) : ∃ k p, vellumlaw11_path.f k (three l i) [] = some p ∧ walk_Split.f k p = some (three l i, 0) := by
  have hok : ∀ p ∈ three l i, walkParts.okPart (bs p) := by
    intro p hp
    simp only [three, List.mem_cons, List.not_mem_nil, or_false] at hp
    rcases hp with rfl | rfl | rfl
    · exact .inr (walkParts.tame_ok _)
    · exact .inr (by decide)
    · exact .inr (walkParts.tame_ok _)
  obtain ⟨t, ht, hlaid, _⟩ := walkParts.path_loop (three l i) [] (show 3 ≤ 1024 by decide) hok (by decide) 3 0 ⟨#[]⟩ rfl (by decide)
  rw [List.drop_zero] at hlaid
  have ht : Ev (fun k => vellumlaw11_path.f k (three l i) []) (mkB t) := ht
  have hlen := laid_len hlaid
  have hps := walkParts.laid_parts hlaid
  have hs := split_ev (mkB t)
  rw [bs_mkB] at hs
  have e : splitE t = ((three l i).map bs, 0) := by
    unfold splitE
    have h3 : ((three l i).map bs).length = 3 := rfl
    have hh : t.head? = some 47 := by
      cases hlaid with
      | more hsep _ _ => exact walkParts.sep_head hsep _
    rw [if_neg (by omega), if_pos hh, hps, if_pos (walkParts.ok_right (walkParts.laid_ok hlaid))]
  rw [e] at hs
  have hm : List.map mkB (List.map bs (three l i)) = three l i := by rw [List.map_map, show (mkB ∘ bs) = id from funext fun x => mkB_bs x, List.map_id]
  dsimp only at hs
  rw [hm] at hs
  obtain ⟨K1, h1⟩ := ht
  obtain ⟨K2, h2⟩ := hs
  exact ⟨max K1 K2, mkB t, h1 _ (Nat.le_max_left _ _), h2 _ (Nat.le_max_right _ _)⟩

theorem nil_ints {w : World} : Kd.C (Kd.int .i64) w none 0 [] := ⟨rfl, by omega, fun h => absurd h (by omega)⟩
theorem cells_C {w : World} {b : Nat} {l : List ByteArray} (hb : w.heap[b]? = some (.cells (l.map Value.string).toArray 9 (0, 0))) (hl : l.length ≤ 9223372036854775807) : Kd.C Kd.string w (some ⟨b, 0, none⟩) l.length l := by
  refine ⟨rfl, hl, fun _ => ⟨_, rfl, fun j q hj => ⟨[.string q], rfl, rfl, fun m u hu => ?_⟩⟩⟩
  match m, hu with
  | 0, hu =>
    simp at hu
    subst hu
    show w.cell? ((⟨b, 0, none⟩ : Addr).add (j * 1 + 0)) = _
    rw [add_plain, Nat.mul_one, Nat.add_zero]
    simp [World.cell?, hb, hj]
theorem lit_three (W : World) (l : List ByteArray) (i : Nat) : Kd.C Kd.string (W.alloc (.cells #[.string (tm l i), .string ⟨#[121]⟩, .string (tm l i)] 9)) (some ⟨W.heap.size, 0, none⟩) 3 (three l i) :=
  cells_C (l := three l i) (heap_alloc_new W _) (show 3 ≤ 9223372036854775807 by decide)

end Go.Proofs.Ytjlgfcgdagikgaa.walkOwn
