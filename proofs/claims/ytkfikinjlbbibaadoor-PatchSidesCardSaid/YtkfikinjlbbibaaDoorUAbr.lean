/- Packed by this session's own program (wip/tools/pack.py): what the claim needs of its texts. -/
import Derived.Test.YtkfikinjlbbibaaDoorURng
import Derived.Test.YtkfikinjlbbibaaDoorUMrgC
namespace Go.Proofs.YtkfikinjlbbibaaDoor
open Go.RowKit Go.Lib
open Go.Proofs.YtkfikinjlbbibaaDoorW.PrintWords Go.Proofs.YtkfikinjlbbibaaDoorW.PrintLast Go.Proofs.YtkfikinjlbbibaaDoor.PT
set_option linter.unusedVariables false
set_option linter.unusedSimpArgs false
def keyI (x : It) : ByteArray := swapB 47 0 x.f1
def lstP (L : Nat → List It) (p : Nat → Nat) : Nat → Option ByteArray
  | 0 => none
  | i + 1 => match (L i)[p i]? with
    | none => lstP L p i
    | some x => match lstP L p i with
      | none => some (keyI x)
      | some k => if Op.bytesLess (keyI x).toList k.toList = true then some (keyI x) else some k
def hereP (L : Nat → List It) (p : Nat → Nat) (k : ByteArray) (j : Nat) : Option It :=
  match (L j)[p j]? with
  | none => none
  | some x => if (keyI x).toList == k.toList then some x else none
def nextP (L : Nat → List It) (p : Nat → Nat) (k : ByteArray) (j : Nat) : Nat := if (hereP L p k j).isSome = true then p j + 1 else p j
abbrev Rd := ByteArray × Option It × Option It × Option It
def roundsF (L : Nat → List It) : Nat → (Nat → Nat) → List Rd
  | 0, _ => []
  | n + 1, p => match lstP L p 3 with
    | none => []
    | some k => (k, hereP L p k 0, hereP L p k 1, hereP L p k 2) :: roundsF L n (nextP L p k)
theorem lstP_from {L : Nat → List It} {p : Nat → Nat} : ∀ {i : Nat} {k : ByteArray}, lstP L p i = some k → ∃ j x, j < i ∧ (L j)[p j]? = some x ∧ keyI x = k
  | 0, k, h => by cases h
  | i + 1, k, h => by
    rw [lstP] at h
    cases hx : (L i)[p i]? with
    | none =>
      rw [hx] at h
      obtain ⟨j, x, hj, h1, h2⟩ := lstP_from h
      exact ⟨j, x, by omega, h1, h2⟩
    | some x =>
      rw [hx] at h
      cases hk : lstP L p i with
      | none =>
        rw [hk] at h
        exact ⟨i, x, by omega, hx, Option.some.inj h⟩
      | some k0 =>
        rw [hk] at h
        dsimp only at h
        split at h
        · exact ⟨i, x, by omega, hx, Option.some.inj h⟩
        · obtain ⟨j, y, hj, h1, h2⟩ := lstP_from hk
          exact ⟨j, y, by omega, h1, h2.trans (Option.some.inj h)⟩
def leftN (L : Nat → List It) (p : Nat → Nat) : Nat := ((L 0).length - p 0) + ((L 1).length - p 1) + ((L 2).length - p 2)
theorem leftN_next {L : Nat → List It} {p : Nat → Nat} {k : ByteArray} (h : lstP L p 3 = some k) : leftN L (nextP L p k) < leftN L p := by
  obtain ⟨j, x, hj, h1, h2⟩ := lstP_from h
  have hm : ∀ i, p i ≤ nextP L p k i := fun i => by unfold nextP; split <;> omega
  have hlt : p j < (L j).length := by
    rcases Nat.lt_or_ge (p j) (L j).length with h | h
    · exact h
    · rw [List.getElem?_eq_none h] at h1; cases h1
  have hn : nextP L p k j = p j + 1 := by
    unfold nextP hereP
    rw [h1]
    dsimp only
    subst h2
    simp
  have h0 := hm 0
  have h1' := hm 1
  have h2' := hm 2
  unfold leftN
  rcases (show j = 0 ∨ j = 1 ∨ j = 2 by omega) with rfl | rfl | rfl <;> omega
structure Rnd where
  key : ByteArray
  g : Nat
  a : Option It
  b : Option It
  c : Option It
def Rnd.rd (x : Rnd) : Rd := (x.key, x.a, x.b, x.c)
def encR (x : Rnd) : Array Value := #[.string x.key, .slice (some ⟨x.g, 0, none⟩) 3 3]
def GoodR (rs : List Rd) (w0 : World) (pre : List Rnd) (x : Rnd) (W : World) : Prop :=
  (∃ rest, rs = pre.map Rnd.rd ++ x.rd :: rest) ∧ ∃ p0 p1 p2, W.heap[x.g]? = some (.cells #[p0, p1, p2] 55 (0, 0)) ∧ OI w0 p0 x.a ∧ OI w0 p1 x.b ∧ OI w0 p2 x.c
structure StR (B : Nat) (A C : World) : Prop where
  os : C.os = A.os
  tape : C.tape = A.tape
  output : C.output = A.output
  size : A.heap.size ≤ C.heap.size
  blocks : ∀ k, k < A.heap.size → C.heap[k]? = A.heap[k]? ∨ (B ≤ k ∧ ∃ cs cs' t, (t = 3 ∨ t = 55) ∧ A.heap[k]? = some (.cells cs t (0, 0)) ∧ C.heap[k]? = some (.cells cs' t (0, 0)))
theorem StR.below {B : Nat} {A C : World} (h : Below A.heap.size A C) : StR B A C := ⟨h.os, h.tape, h.output, h.size, fun k hk => .inl (h.block k hk)⟩
theorem StR.refl (B : Nat) (A : World) : StR B A A := StR.below (Below.refl _ _)
theorem StR.trans {B : Nat} {X Y Z : World} (h : StR B X Y) (k : StR B Y Z) : StR B X Z := ⟨k.os.trans h.os, k.tape.trans h.tape, k.output.trans h.output, Nat.le_trans h.size k.size, fun i hi => by
  rcases h.blocks i hi with e | ⟨hB, cs, cs', t, ht, e, e'⟩
  · rcases k.blocks i (Nat.lt_of_lt_of_le hi h.size) with f | ⟨hB, cs, cs', t, ht, f, f'⟩
    · exact .inl (f.trans e)
    · exact .inr ⟨hB, cs, cs', t, ht, e ▸ f, f'⟩
  · rcases k.blocks i (Nat.lt_of_lt_of_le hi h.size) with f | ⟨_, ds, ds', t', ht', f, f'⟩
    · exact .inr ⟨hB, cs, cs', t, ht, e, f.trans e'⟩
    · rw [e'] at f
      injection f with f
      injection f with f1 f2
      subst f2
      exact .inr ⟨hB, cs, ds', t, ht, e, f'⟩⟩
theorem StR.set {B : Nat} {A : World} {g t : Nat} {cs : Array Value} (h : A.heap[g]? = some (.cells cs t (0, 0))) (ht : t = 3 ∨ t = 55) (hB : B ≤ g) (j : Nat) (u : Value) : StR B A (A.setCell ⟨g, j, none⟩ u) := by
  have hb := (Below.refl 0 A).setCell (p := ⟨g, j, none⟩) (Nat.zero_le _) u
  refine ⟨hb.os, hb.tape, hb.output, hb.size, fun k hk => ?_⟩
  by_cases e : k = g
  · subst e
    exact .inr ⟨hB, cs, _, t, ht, h, blk_set h j u⟩
  · exact .inl (Below.heap_setCell A ⟨g, j, none⟩ u k e)
theorem StR.low {B n : Nat} {A C w0 : World} (h : StR B A C) (hn : n ≤ B) (hb : Below n w0 A) (hw : n ≤ w0.heap.size) : Below n w0 C :=
  ⟨h.os.trans hb.os, h.tape.trans hb.tape, h.output.trans hb.output, Nat.le_trans hb.size h.size, fun k hk => by
    rcases h.blocks k (by have := hb.size; omega) with e | ⟨hB, _⟩
    · exact e.trans (hb.block k hk)
    · omega⟩
theorem StR.keep {B : Nat} {A C : World} (h : StR B A C) {g t : Nat} {cs : Array Value} (hg : A.heap[g]? = some (.cells cs t (0, 0))) (hB : g < B) : C.heap[g]? = some (.cells cs t (0, 0)) := by
  rcases h.blocks g (blk_lt hg) with e | ⟨hB', _⟩
  · exact e.trans hg
  · omega
structure KpR (n0 : Nat) (S : Nat → Prop) (A C : World) : Prop where
  low : Below n0 A C
  same : ∀ k, S k → C.heap[k]? = A.heap[k]?
  nums : ∀ (k : Nat) (cs : Array Value), A.heap[k]? = some (Obj.cells cs 3 (0, 0)) → C.heap[k]? = some (Obj.cells cs 3 (0, 0))
structure Am (L : Nat → List It) (A : Nat → Option Addr) (c : Nat → Nat) (w0 : World) (b1 b2 br : Nat) (wx : World) : Prop where
  low : Below w0.heap.size w0 wx
  x1 : wx.heap[b1]? = some (.cells #[.func (.func 20) #[] #[]] 52 (0, 0))
  x2 : wx.heap[b2]? = some (.cells #[.slice (some ⟨br, 0, none⟩) 3 3] 44 (0, 0))
  xr : wx.heap[br]? = some (.cells #[.slice (A 0) (L 0).length (c 0), .slice (A 1) (L 1).length (c 1), .slice (A 2) (L 2).length (c 2)] 22 (0, 0))
section
variable {L : Nat → List It} {A : Nat → Option Addr} {c : Nat → Nat} {w0 : World} {b1 b2 br : Nat} {wx wy : World}
theorem Am.below (h : Am L A c w0 b1 b2 br wx) (hb : Below wx.heap.size wx wy) : Am L A c w0 b1 b2 br wy :=
  ⟨h.low.trans (hb.mono h.low.size), blk_below h.x1 hb, blk_below h.x2 hb, blk_below h.xr hb⟩
theorem Am.st (h : Am L A c w0 b1 b2 br wx) {B : Nat} (hs : StR B wx wy) (h0 : w0.heap.size ≤ B) (h1 : b1 < B) (h2 : b2 < B) (h3 : br < B) : Am L A c w0 b1 b2 br wy :=
  ⟨hs.low h0 h.low (Nat.le_refl _), hs.keep h.x1 h1, hs.keep h.x2 h2, hs.keep h.xr h3⟩
theorem Am.kp (h : Am L A c w0 b1 b2 br wx) (hk : KpR w0.heap.size (fun k => k = b1 ∨ k = b2 ∨ k = br) wx wy) : Am L A c w0 b1 b2 br wy :=
  ⟨h.low.trans hk.low, (hk.same _ (.inl rfl)).trans h.x1, (hk.same _ (.inr (.inl rfl))).trans h.x2, (hk.same _ (.inr (.inr rfl))).trans h.xr⟩
theorem Am.item (h : Am L A c w0 b1 b2 br wx) {i : Nat} {p : Nat} {ad : Addr} (hp : p < (L i).length) (hA : A i = some ad) (hr : Kd.C k27 w0 (A i) (L i).length (L i)) :
    OI w0 (.pointer (some (ad.add (p * 6)))) (some ((L i)[p]'hp)) := by
  obtain ⟨ad', A4, c4, A5, c5, e, r0, r1, r2, r3, r4, r5, l4, g4, l5, g5⟩ := at_T27 hr (p : Int) (by omega) (by omega)
  have hrd : rd_T27 (L i) (p : Int) = (L i)[p]'hp := by simp [rd_T27, hp]
  rw [hrd] at r0 r1 r2 r3 r4 r5 l4 g4 l5 g5
  rw [Int.toNat_natCast] at r0 r1 r2 r3 r4 r5
  rw [hA] at e
  obtain rfl := Option.some.inj e
  exact ⟨_, A4, c4, A5, c5, rfl, r0, r1, r2, r3, r4, r5, l4, g4, l5, g5⟩
end
end Go.Proofs.YtkfikinjlbbibaaDoor
