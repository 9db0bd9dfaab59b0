/- Packed by this session's own program (wip/tools/pack.py): what the claim needs of its texts. -/
import Derived.Test.YtkfikinjlbbibaaDoorUAbr
import Derived.Test.YtkfikinjlbbibaaDoorUPack
import Derived.Test.YtkfikinjlbbibaaDoorURin
import Derived.Test.YtkfikinjlbbibaaDoorUTwn
import Derived.Maps.OwnIn
section
namespace Go.Proofs.YtkfikinjlbbibaaDoor
open Go.RowKit Go.Lib
open Go.Proofs.YtkfikinjlbbibaaDoorW.PrintWords Go.Proofs.YtkfikinjlbbibaaDoorW.PrintLast Go.Proofs.YtkfikinjlbbibaaDoor.PT
set_option linter.unusedVariables false
set_option linter.unusedSimpArgs false
abbrev Cf := S38
abbrev Ms := List (ByteArray × Int) × List It × List Cf
def mstep (s : Ms) (r : Rd) : Ms :=
  match (pickP r.2.1 r.2.2.1 r.2.2.2).1 with
  | none => (s.1, s.2.1, if (pickP r.2.1 r.2.2.1 r.2.2.2).2 = true then s.2.2 ++ [⟨1, swapB 0 47 r.1⟩] else s.2.2)
  | some x =>
    if kget s.1 (dirOf (swapB 0 47 r.1)) ≠ 2 then (s.1, s.2.1, (if (pickP r.2.1 r.2.2.1 r.2.2.2).2 = true then s.2.2 ++ [⟨1, swapB 0 47 r.1⟩] else s.2.2) ++ [⟨2, swapB 0 47 r.1⟩])
    else if x.f0 = 4 ∧ kget s.1 x.f2 ≠ 1 then (s.1, s.2.1, (if (pickP r.2.1 r.2.2.1 r.2.2.2).2 = true then s.2.2 ++ [⟨1, swapB 0 47 r.1⟩] else s.2.2) ++ [⟨3, swapB 0 47 r.1⟩])
    else ((swapB 0 47 r.1, x.f0) :: s.1, s.2.1 ++ [x], if (pickP r.2.1 r.2.2.1 r.2.2.2).2 = true then s.2.2 ++ [⟨1, swapB 0 47 r.1⟩] else s.2.2)
def three3 {α : Type} (a b c : α) : Nat → α
  | 0 => a
  | 1 => b
  | _ => c
def rounds3 (b l r : List It) : List Rd := roundsF (three3 b l r) (leftN (three3 b l r) (fun _ => 0)) (fun _ => 0)
def ms0 : Ms := ([(⟨#[]⟩, 2)], [], [])
def merged (b l r : List It) : Ms := (rounds3 b l r).foldl mstep ms0
def mergeP (b l r : List It) : List It × List Cf × Int :=
  if (packP b).2 ≠ 0 then ([], [], (packP b).2)
  else if (packP l).2 ≠ 0 then ([], [], (packP l).2)
  else if (packP r).2 ≠ 0 then ([], [], (packP r).2)
  else if (packP (merged b l r).2.1).2 ≠ 0 then ([], [], (packP (merged b l r).2.1).2)
  else ((merged b l r).2.1, (merged b l r).2.2, 0)
def patch_Merge.f (l0 l1 l2 : List It) : Option (List It × List Cf × Int) :=
  if l0.all fitB = true ∧ l1.all fitB = true ∧ l2.all fitB = true then some (mergeP l0 l1 l2) else none
theorem abreast_any (g br : Nat) (w : World) :
    Calls Tryd.prog 19 #[.func (.func g) #[] #[], .slice (some ⟨br, 0, none⟩) 3 3] w fun e w' => e = .returned (.func (.func 31) #[] #[.pointer (some ⟨w.heap.size + 1, 0, none⟩), .pointer (some ⟨w.heap.size, 0, none⟩)]) ∧
      w' = (w.alloc (.cells #[.func (.func g) #[] #[]] 52)).alloc (.cells #[.slice (some ⟨br, 0, none⟩) 3 3] 44) := by
  have hz1 : ∀ w, (Go.sizeOf 52).run Tryd.prog w = .ok 1 w := fun w => by kernel_rfl
  have hz2 : ∀ w, (Go.sizeOf 44).run Tryd.prog w = .ok 1 w := fun w => by kernel_rfl
  go_enter Tryd.func19, Tryd.ntmps19
  go_wp2_with fail
  go_ret
  exact ⟨by simp, rfl⟩
end Go.Proofs.YtkfikinjlbbibaaDoor
end
section
namespace Go.Proofs.YtkfikinjlbbibaaDoor
open Go.RowKit Go.Lib
open Go.Proofs.YtkfikinjlbbibaaDoorW.PrintWords Go.Proofs.YtkfikinjlbbibaaDoorW.PrintLast Go.Proofs.YtkfikinjlbbibaaDoor.PT
set_option linter.unusedVariables false
set_option linter.unusedSimpArgs false
structure Kq (B : Nat) (A C : World) : Prop where
  os : C.os = A.os
  tape : C.tape = A.tape
  output : C.output = A.output
  size : A.heap.size ≤ C.heap.size
  blocks : ∀ (k : Nat) (o : Obj), A.heap[k]? = some o → (k < B ∨ ∃ cs t, o = .cells cs t (0, 0) ∧ t ≠ 3 ∧ t ≠ 55) → C.heap[k]? = some o
theorem Kq.of_st {B : Nat} {A C : World} (h : StR B A C) : Kq B A C := ⟨h.os, h.tape, h.output, h.size, fun k o ho hk => by
  rcases h.blocks k (blk_lt ho) with e | ⟨hB, cs, cs', t, ht, e, e'⟩
  · exact e.trans ho
  · rcases hk with hk | ⟨ds, t', rfl, h3, h5⟩
    · omega
    · rw [e] at ho
      injection ho with ho
      injection ho with _ ho
      subst ho
      rcases ht with rfl | rfl
      · exact absurd rfl h3
      · exact absurd rfl h5⟩
theorem Kq.of_put {B l : Nat} {A : World} {o o' : Obj} (hl : B ≤ l) (ho : A.heap[l]? = some o) (hc : o.isCells = false) : Kq B A (A.putObj l o') :=
  ⟨rfl, rfl, rfl, by simp [World.putObj], fun k p hp hk => by
    by_cases e : k = l
    · subst e
      rcases hk with hk | ⟨cs, t, rfl, _⟩
      · omega
      · rw [hp] at ho
        injection ho with ho
        subst ho
        cases hc
    · exact (World.putObj_heap_other e).trans hp⟩
theorem Kq.below {B : Nat} {A C : World} (h : Below A.heap.size A C) : Kq B A C := ⟨h.os, h.tape, h.output, h.size, fun k o ho _ => blk_below ho h⟩
theorem Kq.low {B n : Nat} {w0 A C : World} (h : Kq B A C) (hn : n ≤ B) (hw : n ≤ w0.heap.size) (hb : Below n w0 A) : Below n w0 C :=
  ⟨h.os.trans hb.os, h.tape.trans hb.tape, h.output.trans hb.output, Nat.le_trans hb.size h.size, fun k hk => by
    have hlt : k < A.heap.size := by have := hb.size; omega
    rw [← hb.block k hk]
    have := h.blocks k A.heap[k] (Array.getElem?_eq_getElem hlt) (.inl (by omega))
    rw [this, Array.getElem?_eq_getElem hlt]⟩
theorem Kq.row {α : Type} {d : Kd α} {e base B : Nat} {A C : World} {v : Value} {xs : List α} (h : Kq B A C) (hr : d.R e A base (fun _ => True) v xs) (ht : ∀ q, q ∈ e :: d.E → q ≠ 3 ∧ q ≠ 55) : d.R e C base (fun _ => True) v xs :=
  Kd.R_mono (Kd.R_move (Kd.R_bound hr) (fun k hk => by
    obtain ⟨_, _, _, q, hq, cells, hc⟩ := hk
    rw [hc]
    exact h.blocks k _ hc (.inr ⟨cells, q, rfl, (ht q hq).1, (ht q hq).2⟩))) (fun _ _ => trivial)
theorem Kq.rowS {α : Type} {d : Kd α} {e base B : Nat} {A C : World} {v : Value} {xs : List α} (h : Kq B A C) (hr : Kd.S d e A base (fun _ => True) v xs) (ht : ∀ q, q ∈ e :: d.E → q ≠ 3 ∧ q ≠ 55) : Kd.S d e C base (fun _ => True) v xs :=
  Kd.S_mono (Kd.S_move (Kd.S_bound hr) (fun k hk => by
    obtain ⟨_, _, _, q, hq, cells, hc⟩ := hk
    rw [hc]
    exact h.blocks k _ hc (.inr ⟨cells, q, rfl, (ht q hq).1, (ht q hq).2⟩))) (fun _ _ => trivial)
theorem MapAs.same {w w1 : World} {b n : Nat} {K : List (ByteArray × Int)} (h : MapAs w b n K) (hb : w1.heap[b]? = w.heap[b]?) : MapAs w1 b n K := by
  obtain ⟨D, ⟨es, clock, h1, h2⟩, h3⟩ := h
  exact ⟨D, ⟨es, clock, hb.trans h1, h2⟩, h3⟩
theorem MapAs.has {w : World} {b n : Nat} {K : List (ByteArray × Int)} (h : MapAs w b n K) : ∃ es clock, w.heap[b]? = some (.map es clock) := by
  obtain ⟨D, ⟨es, clock, h1, h2⟩, h3⟩ := h
  exact ⟨es, clock, h1⟩
structure MI (w : World) (nb bi bc bm bk n : Nat) (S : Ms) (W : World) : Prop where
  low : Below w.heap.size w W
  big : nb ≤ W.heap.size
  items : ∃ v, W.heap[bi]? = some (.cells #[v] 22 (0, 0)) ∧ Kd.S k27 27 W nb (fun _ => True) v S.2.1
  confl : ∃ v, W.heap[bc]? = some (.cells #[v] 29 (0, 0)) ∧ Kd.R k38 38 W nb (fun _ => True) v S.2.2
  kinds : MapAs W bm n S.1
  box : W.heap[bk]? = some (.cells #[.map (some bm)] 48 (0, 0))
theorem MI.kq {w A C : World} {nb bi bc bm bk n B : Nat} {S : Ms} (h : MI w nb bi bc bm bk n S A) (hq : Kq B A C) (h0 : w.heap.size ≤ B) (h1 : bi < B) (h2 : bc < B) (h3 : bm < B) (h4 : bk < B) : MI w nb bi bc bm bk n S C := by
  obtain ⟨v, hv, hrv⟩ := h.items
  obtain ⟨u, hu, hru⟩ := h.confl
  obtain ⟨es, clock, hm⟩ := h.kinds.has
  refine ⟨hq.low h0 (Nat.le_refl _) h.low, Nat.le_trans h.big hq.size, ⟨v, hq.blocks _ _ hv (.inl h1), hq.rowS hrv (by decide)⟩, ⟨u, hq.blocks _ _ hu (.inl h2), hq.row hru (by decide)⟩, h.kinds.same ?_, hq.blocks _ _ h.box (.inl h4)⟩
  rw [hm]
  exact hq.blocks _ _ hm (.inl h3)
theorem still_st {B : Nat} {A C : World} (h : StR B A C) : Still B A C := ⟨h.size, fun k o hB ho hc => by
  rcases h.blocks k (blk_lt ho) with e | ⟨_, cs, cs', t, ht, e, e'⟩
  · exact e.trans ho
  · rw [e] at ho
    injection ho with ho
    subst ho
    cases hc⟩
theorem good_put {rs : List Rd} {w0 W : World} {pre : List Rnd} {x : Rnd} {l : Nat} {o o' : Obj} (h : GoodR rs w0 pre x W) (ho : W.heap[l]? = some o) (hc : o.isCells = false) : GoodR rs w0 pre x (W.putObj l o') := by
  obtain ⟨hr, p0, p1, p2, hg, h0, h1, h2⟩ := h
  refine ⟨hr, p0, p1, p2, (World.putObj_heap_other (fun e => ?_)).trans hg, h0, h1, h2⟩
  rw [e, ho] at hg
  injection hg with hg
  subst hg
  cases hc
theorem kp_put {n0 B : Nat} {S : Nat → Prop} {A C : World} {l : Nat} {o o1 p o2 : Obj} (hn : n0 ≤ B) (hS : ∀ k, S k → k < B) (hl : B ≤ l) (ho : A.heap[l]? = some o) (hc : o.isCells = false) (h : KpR n0 S (A.putObj l o1) C) (hp : C.heap[l]? = some p) (hpc : p.isCells = false) : KpR n0 S A (C.putObj l o2) := by
  have hz : (A.putObj l o1).heap.size = A.heap.size := by simp [World.putObj]
  have hz2 : (C.putObj l o2).heap.size = C.heap.size := by simp [World.putObj]
  refine ⟨⟨h.low.os, h.low.tape, h.low.output, by have := h.low.size; omega, fun k hk => ?_⟩, fun k hk => ?_, fun k cs hk => ?_⟩
  · rw [World.putObj_heap_other (by omega), h.low.block k hk, World.putObj_heap_other (by omega)]
  · have := hS k hk
    rw [World.putObj_heap_other (by omega), h.same k hk, World.putObj_heap_other (by omega)]
  · have hne : k ≠ l := fun e => by
      rw [e, ho] at hk
      injection hk with hk
      subst hk
      cases hc
    rw [World.putObj_heap_other hne]
    exact h.nums k cs ((World.putObj_heap_other hne).trans hk)
theorem roundsF_key {L : Nat → List It} : ∀ {n : Nat} {p : Nat → Nat} {r : Rd}, r ∈ roundsF L n p → ∃ j x, j < 3 ∧ x ∈ L j ∧ keyI x = r.1
  | 0, p, r, h => by cases h
  | n + 1, p, r, h => by
    rw [roundsF] at h
    cases hk : lstP L p 3 with
    | none =>
      rw [hk] at h
      cases h
    | some k =>
      rw [hk] at h
      rcases List.mem_cons.1 h with rfl | h
      · obtain ⟨j, x, hj, h1, h2⟩ := lstP_from hk
        exact ⟨j, x, hj, List.mem_of_getElem? h1, h2⟩
      · exact roundsF_key h
theorem hereP_mem {L : Nat → List It} {p : Nat → Nat} {k : ByteArray} {j : Nat} {x : It} (h : hereP L p k j = some x) : x ∈ L j ∧ (keyI x).toList = k.toList := by
  unfold hereP at h
  cases hx : (L j)[p j]? with
  | none => rw [hx] at h; cases h
  | some y =>
    rw [hx] at h
    dsimp only at h
    split at h
    · rename_i he
      obtain rfl := Option.some.inj h
      exact ⟨List.mem_of_getElem? hx, beq_iff_eq.1 he⟩
    · cases h
theorem roundsF_here {L : Nat → List It} : ∀ {n : Nat} {p : Nat → Nat} {r : Rd}, r ∈ roundsF L n p → (∀ x, r.2.1 = some x → x ∈ L 0) ∧ (∀ x, r.2.2.1 = some x → x ∈ L 1) ∧ (∀ x, r.2.2.2 = some x → x ∈ L 2)
  | 0, p, r, h => by cases h
  | n + 1, p, r, h => by
    rw [roundsF] at h
    cases hk : lstP L p 3 with
    | none =>
      rw [hk] at h
      cases h
    | some k =>
      rw [hk] at h
      rcases List.mem_cons.1 h with rfl | h
      · exact ⟨fun x hx => (hereP_mem hx).1, fun x hx => (hereP_mem hx).1, fun x hx => (hereP_mem hx).1⟩
      · exact roundsF_here h
theorem rounds3_key {a b c : List It} {n : Nat} {p : Nat → Nat} {r : Rd} (h : r ∈ roundsF (three3 a b c) n p) : ∃ x, (x ∈ a ∨ x ∈ b ∨ x ∈ c) ∧ keyI x = r.1 := by
  obtain ⟨j, x, hj, hx, hk⟩ := roundsF_key h
  rcases (show j = 0 ∨ j = 1 ∨ j = 2 by omega) with rfl | rfl | rfl
  · exact ⟨x, .inl hx, hk⟩
  · exact ⟨x, .inr (.inl hx), hk⟩
  · exact ⟨x, .inr (.inr hx), hk⟩
theorem swapL_length (a b : UInt8) (l : List UInt8) : (swapL a b l).length = l.length := by
  unfold swapL
  exact List.length_map _
theorem swapB_size (a b : UInt8) (s : ByteArray) : (swapB a b s).size = s.size := by
  show (swapL a b s.data.toList).toArray.size = s.data.size
  rw [List.size_toArray, swapL_length, Array.length_toList]
theorem three3_all {p : Nat → Prop} (h0 : p 0) (h1 : p 1) (h2 : p 2) : ∀ i, i < 3 → p i := fun i hi => by
  rcases (show i = 0 ∨ i = 1 ∨ i = 2 by omega) with rfl | rfl | rfl
  · exact h0
  · exact h1
  · exact h2
theorem right_short {K : List (ByteArray × Int)} : ∀ {before : Option (List ByteArray)} {l : List It}, rightGo K before l = true → ∀ x ∈ l, x.f1.size ≤ 1023 := by
  intro before l
  induction l generalizing K before with
  | nil => intro _ x hx; cases hx
  | cons a l ih =>
    intro h x hx
    rw [rightGo] at h
    simp only [Bool.and_eq_true] at h
    rcases List.mem_cons.1 hx with rfl | hx
    · exact cut_size h.1.1.1.1
    · exact ih h.2 x hx
theorem pack_zero {l : List It} (h : (packP l).2 = 0) : l.length ≤ 4096 ∧ rightP l = true := by
  unfold packP at h
  split at h
  · cases h
  · split at h
    · rename_i h1 h2
      exact ⟨by omega, h2⟩
    · cases h
theorem pack_small {l : List It} (h : (packP l).2 = 0) : ∀ x ∈ l, x.f1.size ≤ 1023 := right_short (pack_zero h).2
end Go.Proofs.YtkfikinjlbbibaaDoor
end
section
namespace Go.Proofs.YtkfikinjlbbibaaDoor
open Go.RowKit Go.Lib
open Go.Proofs.YtkfikinjlbbibaaDoorW.PrintWords Go.Proofs.YtkfikinjlbbibaaDoorW.PrintLast Go.Proofs.YtkfikinjlbbibaaDoor.PT
set_option linter.unusedVariables false
set_option linter.unusedSimpArgs false
structure Chg (n bi bc bm : Nat) (A C : World) : Prop where
  os : C.os = A.os
  tape : C.tape = A.tape
  output : C.output = A.output
  size : A.heap.size ≤ C.heap.size
  blocks : ∀ (k : Nat) (o : Obj), A.heap[k]? = some o → (k = bi ∨ k = bc ∨ k = bm ∨ (n ≤ k ∧ ∃ cs q, o = .cells cs q (0, 0) ∧ (q = 27 ∨ q = 38))) ∨ C.heap[k]? = some o
section
variable {n bi bc bm : Nat} {A C D : World}
theorem Chg.refl (A : World) : Chg n bi bc bm A A := ⟨rfl, rfl, rfl, Nat.le_refl _, fun _ _ h => .inr h⟩
theorem Chg.trans (h : Chg n bi bc bm A C) (k : Chg n bi bc bm C D) : Chg n bi bc bm A D :=
  ⟨k.os.trans h.os, k.tape.trans h.tape, k.output.trans h.output, Nat.le_trans h.size k.size, fun i o hi => by
    rcases h.blocks i o hi with e | e
    · exact .inl e
    · exact k.blocks i o e⟩
theorem Chg.below (h : Below A.heap.size A C) : Chg n bi bc bm A C := ⟨h.os, h.tape, h.output, h.size, fun k o ho => .inr (blk_below ho h)⟩
theorem Chg.grown {α : Type} {d : Kd α} {e base : Nat} {ok : Nat → Prop} {v : Value} {xs : List α} (hr : d.R e A base ok v xs) (hn : n ≤ base) (he : e = 27 ∨ e = 38) (hg : A.grownBy C v.ownBlock) : Chg n bi bc bm A C :=
  ⟨hg.os, hg.tape, hg.output, hg.size, fun k o ho => by
    by_cases hk : some k = v.ownBlock
    · obtain ⟨_, inner, ho2, _⟩ := hr
      obtain ⟨cells, hc⟩ := own_typed ho2 k hk.symm
      have := own_base ho2 k hk.symm
      rw [hc] at ho
      injection ho with ho
      exact .inl (.inr (.inr (.inr ⟨by omega, cells, e, ho.symm, he⟩)))
    · exact .inr ((hg.block k (blk_lt ho) hk).trans ho)⟩
theorem Chg.map (hg : A.grownBy C (some bm)) : Chg n bi bc bm A C :=
  ⟨hg.os, hg.tape, hg.output, hg.size, fun k o ho => by
    by_cases hk : k = bm
    · exact .inl (.inr (.inr (.inl hk)))
    · exact .inr ((hg.block k (blk_lt ho) (fun e => hk (Option.some.inj e))).trans ho)⟩
theorem Chg.set {b : Nat} (hb : b = bi ∨ b = bc) (j : Nat) (u : Value) : Chg n bi bc bm A (A.setCell ⟨b, j, none⟩ u) := by
  have h := (Below.refl 0 A).setCell (p := ⟨b, j, none⟩) (Nat.zero_le _) u
  refine ⟨h.os, h.tape, h.output, h.size, fun k o ho => ?_⟩
  by_cases e : k = b
  · subst e
    rcases hb with hb | hb
    · exact .inl (.inl hb)
    · exact .inl (.inr (.inl hb))
  · exact .inr ((Below.heap_setCell A ⟨b, j, none⟩ u k e).trans ho)
theorem Chg.low {w : World} {n0 : Nat} (h : Chg n bi bc bm A C) (hn : n0 ≤ n) (hi : n0 ≤ bi) (hc : n0 ≤ bc) (hm : n0 ≤ bm) (hw : n0 ≤ w.heap.size) (hb : Below n0 w A) : Below n0 w C :=
  ⟨h.os.trans hb.os, h.tape.trans hb.tape, h.output.trans hb.output, Nat.le_trans hb.size h.size, fun k hk => by
    have hlt : k < A.heap.size := by have := hb.size; omega
    have h1 := Array.getElem?_eq_getElem hlt
    rcases h.blocks k _ h1 with e | e
    · omega
    · rw [e, ← h1, hb.block k hk]⟩
theorem Chg.keep (h : Chg n bi bc bm A C) {k : Nat} {o : Obj} (ho : A.heap[k]? = some o) (h1 : k ≠ bi) (h2 : k ≠ bc) (h3 : k ≠ bm) (h4 : k < n ∨ ∀ cs q, o = .cells cs q (0, 0) → q ≠ 27 ∧ q ≠ 38) : C.heap[k]? = some o := by
  rcases h.blocks k o ho with e | e
  · exfalso
    rcases e with e | e | e | ⟨e, cs, q, hq, hq2⟩
    · exact h1 e
    · exact h2 e
    · exact h3 e
    · rcases h4 with h4 | h4
      · omega
      · have := h4 cs q hq
        rcases hq2 with hq2 | hq2
        · exact this.1 hq2
        · exact this.2 hq2
  · exact e
end
theorem own_ne_blk {α : Type} {d : Kd α} {e base : Nat} {ok : Nat → Prop} {W : World} {v : Value} {xs : List α} {k : Nat} {o : Obj} (h : d.R e W base ok v xs) (ho : W.heap[k]? = some o) (hne : ∀ cells, o ≠ .cells cells e (0, 0)) : some k ≠ v.ownBlock := fun he => by
  obtain ⟨_, inner, ho2, _⟩ := h
  obtain ⟨cells, hc⟩ := own_typed ho2 k he.symm
  rw [hc] at ho
  exact hne cells (Option.some.inj ho).symm
theorem row_other {α β : Type} {d : Kd α} {d' : Kd β} {e e' base base' : Nat} {ok' : Nat → Prop} {A C D : World} {v u : Value} {xs : List α} {ys : List β} {b t : Nat} {cb : Array Value}
    (h : d.R e A base (fun _ => True) v xs) (hr : d'.R e' A base' ok' u ys) (hg : A.grownBy C u.ownBlock) (hb : A.heap[b]? = some (.cells cb t (0, 0))) (hD : ∀ k o, k ≠ b → C.heap[k]? = some o → D.heap[k]? = some o)
    (ht : ∀ q, q ∈ e :: d.E → q ≠ e' ∧ q ≠ t) : d.R e D base (fun _ => True) v xs :=
  Kd.R_mono (Kd.R_move (Kd.R_bound h) (fun k hk => by
    obtain ⟨_, _, hlt, q, hq, cells, hc⟩ := hk
    rw [hc]
    refine hD k _ (fun e => ?_) ((hg.block k hlt (own_ne_blk hr hc (fun cs he => ?_))).trans hc)
    · subst e
      rw [hc] at hb
      injection hb with hb
      injection hb with _ hb
      exact (ht q hq).2 hb
    · injection he with _ he
      exact (ht q hq).1 he)) (fun _ _ => trivial)
theorem row_box {α : Type} {d : Kd α} {e base : Nat} {C D : World} {v : Value} {xs : List α} {b t : Nat} {cb : Array Value}
    (h : d.R e C base (fun _ => True) v xs) (hb : C.heap[b]? = some (.cells cb t (0, 0))) (hD : ∀ k o, k ≠ b → C.heap[k]? = some o → D.heap[k]? = some o) (ht : ∀ q, q ∈ e :: d.E → q ≠ t) : d.R e D base (fun _ => True) v xs :=
  Kd.R_mono (Kd.R_move (Kd.R_bound h) (fun k hk => by
    obtain ⟨_, _, hlt, q, hq, cells, hc⟩ := hk
    rw [hc]
    refine hD k _ (fun e => ?_) hc
    subst e
    rw [hc] at hb
    injection hb with hb
    injection hb with _ hb
    exact ht q hq hb)) (fun _ _ => trivial)
theorem row_otherS {α β : Type} {d : Kd α} {d' : Kd β} {e e' base base' : Nat} {ok' : Nat → Prop} {A C D : World} {v u : Value} {xs : List α} {ys : List β} {b t : Nat} {cb : Array Value}
    (h : Kd.S d e A base (fun _ => True) v xs) (hr : d'.R e' A base' ok' u ys) (hg : A.grownBy C u.ownBlock) (hb : A.heap[b]? = some (.cells cb t (0, 0))) (hD : ∀ k o, k ≠ b → C.heap[k]? = some o → D.heap[k]? = some o)
    (ht : ∀ q, q ∈ e :: d.E → q ≠ e' ∧ q ≠ t) : Kd.S d e D base (fun _ => True) v xs :=
  Kd.S_mono (Kd.S_move (Kd.S_bound h) (fun k hk => by
    obtain ⟨_, _, hlt, q, hq, cells, hc⟩ := hk
    rw [hc]
    refine hD k _ (fun e => ?_) ((hg.block k hlt (own_ne_blk hr hc (fun cs he => ?_))).trans hc)
    · subst e
      rw [hc] at hb
      injection hb with hb
      injection hb with _ hb
      exact (ht q hq).2 hb
    · injection he with _ he
      exact (ht q hq).1 he)) (fun _ _ => trivial)
theorem row_boxS {α : Type} {d : Kd α} {e base : Nat} {C D : World} {v : Value} {xs : List α} {b t : Nat} {cb : Array Value}
    (h : Kd.S d e C base (fun _ => True) v xs) (hb : C.heap[b]? = some (.cells cb t (0, 0))) (hD : ∀ k o, k ≠ b → C.heap[k]? = some o → D.heap[k]? = some o) (ht : ∀ q, q ∈ e :: d.E → q ≠ t) : Kd.S d e D base (fun _ => True) v xs :=
  Kd.S_mono (Kd.S_move (Kd.S_bound h) (fun k hk => by
    obtain ⟨_, _, hlt, q, hq, cells, hc⟩ := hk
    rw [hc]
    refine hD k _ (fun e => ?_) hc
    subst e
    rw [hc] at hb
    injection hb with hb
    injection hb with _ hb
    exact ht q hq hb)) (fun _ _ => trivial)
theorem set_other (C : World) (b j : Nat) (u : Value) : ∀ k o, k ≠ b → C.heap[k]? = some o → (C.setCell ⟨b, j, none⟩ u).heap[k]? = some o := fun k o hk ho => (Below.heap_setCell C ⟨b, j, none⟩ u k hk).trans ho
theorem MapAs.more {w : World} {b n m : Nat} {K : List (ByteArray × Int)} (h : MapAs w b n K) (hn : n ≤ m) : MapAs w b m K := by
  obtain ⟨D, ⟨es, clock, h1, F, hs, hD⟩, hat⟩ := h
  exact ⟨D, ⟨es, clock, h1, F, Nat.le_trans hs hn, hD⟩, hat⟩
theorem MI.more {w W : World} {nb bi bc bm bk n m : Nat} {S : Ms} (h : MI w nb bi bc bm bk n S W) (hn : n ≤ m) : MI w nb bi bc bm bk m S W := ⟨h.low, h.big, h.items, h.confl, h.kinds.more hn, h.box⟩
theorem MI.below {w A C : World} {nb bi bc bm bk n : Nat} {S : Ms} (h : MI w nb bi bc bm bk n S A) (hb : Below A.heap.size A C) : MI w nb bi bc bm bk n S C := by
  obtain ⟨v, hv, hrv⟩ := h.items
  obtain ⟨u, hu, hru⟩ := h.confl
  exact ⟨h.low.trans (hb.mono h.low.size), Nat.le_trans h.big hb.size, ⟨v, blk_below hv hb, Kd.S_below hrv hb⟩, ⟨u, blk_below hu hb, Kd.R_below hru hb⟩, h.kinds.below hb, blk_below h.box hb⟩
theorem MI.conflict {w A C : World} {nb bi bc bm bk n : Nat} {S : Ms} {y : Cf} {u v1 : Value} (h : MI w nb bi bc bm bk n S A) (hu : A.heap[bc]? = some (.cells #[u] 29 (0, 0))) (hru : Kd.R k38 38 A nb (fun _ => True) u S.2.2)
    (hr1 : Kd.R k38 38 C nb (fun _ => True) v1 (S.2.2 ++ [y])) (hnb : w.heap.size ≤ nb) (hg : A.grownBy C u.ownBlock) (h1 : w.heap.size ≤ bc) (h2 : bi ≠ bc) (h3 : bm ≠ bc) (h4 : bk ≠ bc) :
    MI w nb bi bc bm bk n (S.1, S.2.1, S.2.2 ++ [y]) (C.setCell ⟨bc, 0, none⟩ v1) := by
  obtain ⟨v, hv, hrv⟩ := h.items
  have hb1 : Below w.heap.size w C := h.low.grown hg h.low.size (fun k hk => by obtain ⟨_, inner, ho2, _⟩ := hru; have := own_base ho2 k hk; omega)
  have hbC : C.heap[bc]? = some (.cells #[u] 29 (0, 0)) := (hg.block bc (blk_lt hu) (own_ne_blk hru hu (fun cs e => by injection e with _ e; cases e))).trans hu
  have hD := set_other C bc 0 v1
  obtain ⟨es, clock, hm⟩ := h.kinds.has
  refine ⟨hb1.setCell (p := ⟨bc, 0, none⟩) h1 v1, Nat.le_trans h.big (Nat.le_trans hg.size ((Below.refl 0 C).setCell (p := ⟨bc, 0, none⟩) (Nat.zero_le _) v1).size), ⟨v, hD _ _ h2 ((hg.block bi (blk_lt hv) (own_ne_blk hru hv (fun cs e => by injection e with _ e; cases e))).trans hv), row_otherS hrv hru hg hu hD (by decide)⟩, ⟨v1, ?_, row_box hr1 hbC hD (by decide)⟩, h.kinds.same ?_, hD _ _ h4 ((hg.block bk (blk_lt h.box) (own_ne_blk hru h.box (fun cs e => by injection e with _ e; cases e))).trans h.box)⟩
  · have := blk_set hbC 0 v1
    simpa using this
  · rw [hm]
    exact hD _ _ h3 ((hg.block bm (blk_lt hm) (own_ne_blk hru hm (fun cs e => by cases e))).trans hm)
theorem MI.item {w A C : World} {nb bi bc bm bk n : Nat} {S : Ms} {y : It} {u v1 : Value} (h : MI w nb bi bc bm bk n S A) (hu : A.heap[bi]? = some (.cells #[u] 22 (0, 0))) (hru : Kd.S k27 27 A nb (fun _ => True) u S.2.1)
    (hr1 : Kd.S k27 27 C nb (fun _ => True) v1 (S.2.1 ++ [y])) (hnb : w.heap.size ≤ nb) (hg : A.grownBy C u.ownBlock) (h1 : w.heap.size ≤ bi) (h2 : bc ≠ bi) (h3 : bm ≠ bi) (h4 : bk ≠ bi) :
    MI w nb bi bc bm bk n (S.1, S.2.1 ++ [y], S.2.2) (C.setCell ⟨bi, 0, none⟩ v1) := by
  obtain ⟨v, hv, hrv⟩ := h.confl
  have hb1 : Below w.heap.size w C := h.low.grown hg h.low.size (fun k hk => by obtain ⟨_, inner, ho2, _⟩ := Kd.S_R hru; have := own_base ho2 k hk; omega)
  have hbC : C.heap[bi]? = some (.cells #[u] 22 (0, 0)) := (hg.block bi (blk_lt hu) (own_ne_blk (Kd.S_R hru) hu (fun cs e => by injection e with _ e; cases e))).trans hu
  have hD := set_other C bi 0 v1
  obtain ⟨es, clock, hm⟩ := h.kinds.has
  refine ⟨hb1.setCell (p := ⟨bi, 0, none⟩) h1 v1, Nat.le_trans h.big (Nat.le_trans hg.size ((Below.refl 0 C).setCell (p := ⟨bi, 0, none⟩) (Nat.zero_le _) v1).size), ⟨v1, ?_, row_boxS hr1 hbC hD (by decide)⟩, ⟨v, hD _ _ h2 ((hg.block bc (blk_lt hv) (own_ne_blk (Kd.S_R hru) hv (fun cs e => by injection e with _ e; cases e))).trans hv), row_other hrv (Kd.S_R hru) hg hu hD (by decide)⟩, h.kinds.same ?_, hD _ _ h4 ((hg.block bk (blk_lt h.box) (own_ne_blk (Kd.S_R hru) h.box (fun cs e => by injection e with _ e; cases e))).trans h.box)⟩
  · have := blk_set hbC 0 v1
    simpa using this
  · rw [hm]
    exact hD _ _ h3 ((hg.block bm (blk_lt hm) (own_ne_blk (Kd.S_R hru) hm (fun cs e => by cases e))).trans hm)
theorem MI.entry {w A C : World} {nb bi bc bm bk n m : Nat} {S : Ms} {K : List (ByteArray × Int)} (h : MI w nb bi bc bm bk n S A) (hm1 : MapAs C bm m K) (hg : A.grownBy C (some bm)) (h1 : w.heap.size ≤ bm) : MI w nb bi bc bm bk m (K, S.2.1, S.2.2) C := by
  obtain ⟨v, hv, hrv⟩ := h.items
  obtain ⟨u, hu, hru⟩ := h.confl
  obtain ⟨es, clock, hm⟩ := h.kinds.has
  have hk : ∀ (k : Nat) (o : Obj), A.heap[k]? = some o → (∀ es clock, o ≠ .map es clock) → C.heap[k]? = some o := fun k o ho hne => by
    refine (hg.block k (blk_lt ho) (fun e => ?_)).trans ho
    obtain rfl := Option.some.inj e
    rw [hm] at ho
    exact hne _ _ (Option.some.inj ho).symm
  have hrow : ∀ {α : Type} {d : Kd α} {e : Nat} {v : Value} {xs : List α}, d.R e A nb (fun _ => True) v xs → d.R e C nb (fun _ => True) v xs := fun hr =>
    Kd.R_mono (Kd.R_move (Kd.R_bound hr) (fun k hk' => by
      obtain ⟨_, _, hlt, q, hq, cells, hc⟩ := hk'
      rw [hc]
      exact hk k _ hc (fun _ _ e => by cases e))) (fun _ _ => trivial)
  have hrowS : ∀ {α : Type} {d : Kd α} {e : Nat} {v : Value} {xs : List α}, Kd.S d e A nb (fun _ => True) v xs → Kd.S d e C nb (fun _ => True) v xs := fun hr =>
    Kd.S_mono (Kd.S_move (Kd.S_bound hr) (fun k hk' => by
      obtain ⟨_, _, hlt, q, hq, cells, hc⟩ := hk'
      rw [hc]
      exact hk k _ hc (fun _ _ e => by cases e))) (fun _ _ => trivial)
  refine ⟨⟨hg.os.trans h.low.os, hg.tape.trans h.low.tape, hg.output.trans h.low.output, Nat.le_trans h.low.size hg.size, fun k hk' => ?_⟩, Nat.le_trans h.big hg.size, ⟨v, hk _ _ hv (fun _ _ e => by cases e), hrowS hrv⟩, ⟨u, hk _ _ hu (fun _ _ e => by cases e), hrow hru⟩, hm1, hk _ _ h.box (fun _ _ e => by cases e)⟩
  rw [← h.low.block k hk']
  exact hg.block k (by have := h.low.size; omega) (fun e => by have := Option.some.inj e; omega)
theorem MI.enter {w A : World} {nb bi bc bm bk n : Nat} {S : Ms} (h : MI w nb bi bc bm bk n S A) (p : ByteArray) (v : Int) (hp : p.size ≤ 1023) (h0 : -9223372036854775808 ≤ v) (h1 : v ≤ 9223372036854775807) (hn : n ≤ 1000000) (hbm : w.heap.size ≤ bm) :
    ∃ w8, (Instr.mapUpdate 48 (.map (some bm)) (.string p) (.int .i64 v)).run Tryd.prog A = .ok () w8 ∧ MI w nb bi bc bm bk (n + 1) ((p, v) :: S.1, S.2.1, S.2.2) w8 ∧ A.grownBy w8 (some bm) := by
  obtain ⟨D, hown, hat⟩ := h.kinds
  have hisD : Maps.IsMap D := by
    obtain ⟨es, cl, _, _, _, hD⟩ := hown
    exact ⟨_, hD⟩
  obtain ⟨w8, hrun, how, hg⟩ := hown.update lawS Tryd.underlying48 (by unfold maxLen; omega) (keyS p (by omega)) (elemI v h0 h1)
  exact ⟨w8, hrun, h.entry (mapAs_put how hisD hat) hg hbm, hg⟩
theorem mstep_items (S : Ms) (r : Rd) : ∀ x ∈ (mstep S r).2.1, x ∈ S.2.1 ∨ r.2.2.1 = some x ∨ r.2.2.2 = some x := by
  intro x hx
  unfold mstep at hx
  split at hx
  · exact .inl hx
  · rename_i y hy
    split at hx
    · exact .inl hx
    · split at hx
      · exact .inl hx
      · rcases List.mem_append.1 hx with h | h
        · exact .inl h
        · obtain rfl := List.mem_singleton.1 h
          unfold pickP at hy
          split at hy
          · exact .inr (.inl hy)
          · split at hy
            · exact .inr (.inr hy)
            · exact .inr (.inl hy)
theorem mfold_items : ∀ (l : List Rd) (S : Ms), ∀ x ∈ (l.foldl mstep S).2.1, x ∈ S.2.1 ∨ ∃ r ∈ l, r.2.2.1 = some x ∨ r.2.2.2 = some x
  | [], S, x, hx => .inl hx
  | r :: l, S, x, hx => by
    rw [List.foldl_cons] at hx
    rcases mfold_items l _ x hx with h | ⟨q, hq, h⟩
    · rcases mstep_items S r x h with h | h
      · exact .inl h
      · exact .inr ⟨r, List.mem_cons_self, h⟩
    · exact .inr ⟨q, List.mem_cons_of_mem _ hq, h⟩
theorem merged_from {b l r : List It} : ∀ x ∈ (merged b l r).2.1, x ∈ l ∨ x ∈ r := by
  intro x hx
  rcases mfold_items _ _ x hx with h | ⟨q, hq, h⟩
  · cases h
  · rcases h with h | h
    · exact .inl ((roundsF_here hq).2.1 x h)
    · exact .inr ((roundsF_here hq).2.2 x h)
theorem below_put {n l : Nat} {w W : World} {o o' : Obj} (hb : Below n w W) (hl : n ≤ l) (hw : n ≤ w.heap.size) (ho : W.heap[l]? = some o) (hc : o.isCells = false) : Below n w (W.putObj l o') :=
  (Kq.of_put (B := n) hl ho hc).low (Nat.le_refl _) hw hb
theorem s19_below {W W1 : World} {b : Nat} {ad : Addr} {v0 v1 v2 v3 v4 v5 v6 : Value} (h : W.cell? ⟨b, 0, none⟩ = some v0 ∧ W.cell? ad = some v1 ∧ W.cell? ⟨ad.block, ad.off + 1, none⟩ = some v2 ∧ W.cell? ⟨ad.block, ad.off + 2, none⟩ = some v3 ∧ W.cell? ⟨ad.block, ad.off + 3, none⟩ = some v4 ∧ W.cell? ⟨ad.block, ad.off + 4, none⟩ = some v5 ∧ W.cell? ⟨ad.block, ad.off + 5, none⟩ = some v6) (hb : Below W.heap.size W W1) :
    W1.cell? ⟨b, 0, none⟩ = some v0 ∧ W1.cell? ad = some v1 ∧ W1.cell? ⟨ad.block, ad.off + 1, none⟩ = some v2 ∧ W1.cell? ⟨ad.block, ad.off + 2, none⟩ = some v3 ∧ W1.cell? ⟨ad.block, ad.off + 3, none⟩ = some v4 ∧ W1.cell? ⟨ad.block, ad.off + 4, none⟩ = some v5 ∧ W1.cell? ⟨ad.block, ad.off + 5, none⟩ = some v6 :=
  ⟨pw_cell_below hb h.1, pw_cell_below hb h.2.1, pw_cell_below hb h.2.2.1, pw_cell_below hb h.2.2.2.1, pw_cell_below hb h.2.2.2.2.1, pw_cell_below hb h.2.2.2.2.2.1, pw_cell_below hb h.2.2.2.2.2.2⟩
theorem roundsF_length (L : Nat → List It) : ∀ (n : Nat) (p : Nat → Nat), (roundsF L n p).length ≤ n
  | 0, p => Nat.le_refl _
  | n + 1, p => by
    rw [roundsF]
    split
    · simp
    · rw [List.length_cons]
      have := roundsF_length L n
      exact Nat.succ_le_succ (this _)
theorem mstep_length (S : Ms) (r : Rd) : (mstep S r).2.1.length ≤ S.2.1.length + 1 ∧ (mstep S r).2.2.length ≤ S.2.2.length + 2 := by
  unfold mstep
  repeat' split
  all_goals (simp only [List.length_append, List.length_singleton]; omega)
theorem mfold_length : ∀ (l : List Rd) (S : Ms), (l.foldl mstep S).2.1.length ≤ S.2.1.length + l.length ∧ (l.foldl mstep S).2.2.length ≤ S.2.2.length + 2 * l.length
  | [], S => by simp
  | r :: l, S => by
    have h1 := mstep_length S r
    have h2 := mfold_length l (mstep S r)
    rw [List.foldl_cons, List.length_cons]
    omega
theorem mi_fin {w W B : World} {nb bi bc bm bk b1 b2 br : Nat} {pre : List Rnd} {x : Rnd} {S0 : Ms} (hI : MI w nb bi bc bm bk (pre.length + 1) S0 W) (hS : (pre.map Rnd.rd).foldl mstep ms0 = S0)
    (hM : MI w nb bi bc bm bk (pre.length + 1 + 1) (mstep S0 x.rd) B) (hC : Chg nb bi bc bm W B) (h0 : w.heap.size ≤ nb) (hi : w.heap.size ≤ bi) (hc : w.heap.size ≤ bc) (hm : w.heap.size ≤ bm) (hi2 : bi < nb) (hc2 : bc < nb) (hm2 : bm < nb) (hnW : nb ≤ W.heap.size)
    (hS1 : b1 < nb ∧ b1 ≠ bi ∧ b1 ≠ bc ∧ b1 ≠ bm) (hS2 : b2 < nb ∧ b2 ≠ bi ∧ b2 ≠ bc ∧ b2 ≠ bm) (hS3 : br < nb ∧ br ≠ bi ∧ br ≠ bc ∧ br ≠ bm) :
    MI w nb bi bc bm bk ((pre ++ [x]).length + 1) (((pre ++ [x]).map Rnd.rd).foldl mstep ms0) B ∧ KpR w.heap.size (fun k => k = b1 ∨ k = b2 ∨ k = br) W B ∧ Still nb W B := by
  refine ⟨?_, ⟨?_, ?_, ?_⟩, hC.size, ?_⟩
  · rw [List.map_append, List.foldl_append, hS, List.length_append]
    exact hM
  · exact hC.low h0 hi hc hm hI.low.size (Below.refl _ _)
  · intro k hk
    have hk2 : k < nb ∧ k ≠ bi ∧ k ≠ bc ∧ k ≠ bm := by
      rcases hk with rfl | rfl | rfl
      · exact hS1
      · exact hS2
      · exact hS3
    have h1 := Array.getElem?_eq_getElem (show k < W.heap.size by omega)
    rw [h1]
    exact hC.keep h1 hk2.2.1 hk2.2.2.1 hk2.2.2.2 (.inl hk2.1)
  · intro k cs hk
    obtain ⟨v, hv, _⟩ := hI.items
    obtain ⟨u, hu, _⟩ := hI.confl
    obtain ⟨es, clock, hmm⟩ := hI.kinds.has
    refine hC.keep hk (fun e => ?_) (fun e => ?_) (fun e => ?_) (.inr fun cs' q e => ?_)
    · subst e
      rw [hk] at hv
      injection hv with hv
      injection hv with _ hv
      cases hv
    · subst e
      rw [hk] at hu
      injection hu with hu
      injection hu with _ hu
      cases hu
    · subst e
      rw [hk] at hmm
      injection hmm with hmm
      cases hmm
    · injection e with _ e
      subst e
      exact ⟨by decide, by decide⟩
  · intro k o hk ho hcl
    refine hC.keep ho (by omega) (by omega) (by omega) (.inr fun cs' q e => ?_)
    subst e
    cases hcl
theorem pre_length {rs : List Rd} {pre : List Rnd} {x : Rnd} {rest : List Rd} {L : Nat → List It} {n : Nat} {p : Nat → Nat} (h : roundsF L n p = rs) (hr : rs = pre.map Rnd.rd ++ x.rd :: rest) : pre.length < n := by
  have h1 := roundsF_length L n p
  rw [h, hr, List.length_append, List.length_map, List.length_cons] at h1
  omega
theorem pickV_oi {W : World} {a b c : Option It} {p1 p2 v : Value} (h : PickIs a b c p1 p2 v) (h1 : OI W p1 b) (h2 : OI W p2 c) : OI W v (pickP a b c).1 := by
  rcases h with ⟨e, e2⟩ | ⟨e, e2⟩
  · rw [e, e2]
    exact h1
  · rw [e, e2]
    exact h2
def mstepP (S : Ms) (at_ : ByteArray) (px : Option It) (bo : Bool) : Ms :=
  match px with
  | none => (S.1, S.2.1, if bo = true then S.2.2 ++ [⟨1, at_⟩] else S.2.2)
  | some x =>
    if kget S.1 (dirOf at_) ≠ 2 then (S.1, S.2.1, (if bo = true then S.2.2 ++ [⟨1, at_⟩] else S.2.2) ++ [⟨2, at_⟩])
    else if x.f0 = 4 ∧ kget S.1 x.f2 ≠ 1 then (S.1, S.2.1, (if bo = true then S.2.2 ++ [⟨1, at_⟩] else S.2.2) ++ [⟨3, at_⟩])
    else ((at_, x.f0) :: S.1, S.2.1 ++ [x], if bo = true then S.2.2 ++ [⟨1, at_⟩] else S.2.2)
theorem mstep_is (S : Ms) (r : Rd) : mstep S r = mstepP S (swapB 0 47 r.1) (pickP r.2.1 r.2.2.1 r.2.2.2).1 (pickP r.2.1 r.2.2.1 r.2.2.2).2 := rfl
def mstepQ (S : Ms) (at_ : ByteArray) (px : Option It) : Ms :=
  match px with
  | none => S
  | some x =>
    if kget S.1 (dirOf at_) ≠ 2 then (S.1, S.2.1, S.2.2 ++ [⟨2, at_⟩])
    else if x.f0 = 4 ∧ kget S.1 x.f2 ≠ 1 then (S.1, S.2.1, S.2.2 ++ [⟨3, at_⟩])
    else ((at_, x.f0) :: S.1, S.2.1 ++ [x], S.2.2)
theorem mstepP_false (S : Ms) (at_ : ByteArray) (px : Option It) : mstepP S at_ px false = mstepQ S at_ px := by
  obtain ⟨K, I, C⟩ := S
  unfold mstepP mstepQ
  cases px with
  | none => rfl
  | some x => rfl
theorem mstepP_true (S : Ms) (at_ : ByteArray) (px : Option It) : mstepP S at_ px true = mstepQ (S.1, S.2.1, S.2.2 ++ [⟨1, at_⟩]) at_ px := by
  obtain ⟨K, I, C⟩ := S
  unfold mstepP mstepQ
  cases px with
  | none => rfl
  | some x => rfl
def EndR (w w1 w2 wv W : World) (pre : List Rnd) (x : Rnd) (e : Exit) (B : World) : Prop := e = .normal ∧ MI w w2.heap.size wv.heap.size (wv.heap.size + 1) (wv.heap.size + 1 + 1) w1.heap.size ((pre ++ [x]).length + 1) (((pre ++ [x]).map Rnd.rd).foldl mstep ms0) B ∧ KpR w.heap.size (fun k => k = w1.heap.size + 2 ∨ k = w1.heap.size + 3 ∨ k = w1.heap.size + 1) W B ∧ Still w2.heap.size W B
theorem EndR.eq {w w1 w2 wv W B : World} {pre : List Rnd} {x : Rnd} {e : Exit} (h : EndR w w1 w2 wv W pre x e B) : e = .normal := h.1
theorem fin_false {w w1 w2 wv W : World} {pre : List Rnd} {x : Rnd} {S0 : Ms} {at_ : ByteArray} {px : Option It} (hI : MI w w2.heap.size wv.heap.size (wv.heap.size + 1) (wv.heap.size + 1 + 1) w1.heap.size (pre.length + 1) S0 W) (hS : (pre.map Rnd.rd).foldl mstep ms0 = S0)
    (hst : mstep S0 x.rd = mstepP S0 at_ px false) (h0 : w.heap.size ≤ w2.heap.size) (h1 : w.heap.size ≤ wv.heap.size) (h3 : wv.heap.size + 3 ≤ w1.heap.size) (h2 : w1.heap.size + 4 ≤ w2.heap.size) (hb : w2.heap.size ≤ W.heap.size) :
    ∀ B : World, MI w w2.heap.size wv.heap.size (wv.heap.size + 1) (wv.heap.size + 1 + 1) w1.heap.size (pre.length + 1 + 1) (mstepQ S0 at_ px) B → Chg w2.heap.size wv.heap.size (wv.heap.size + 1) (wv.heap.size + 1 + 1) W B → EndR w w1 w2 wv W pre x .normal B := fun B hm hc =>
  ⟨rfl, mi_fin hI hS (by rw [hst, mstepP_false]; exact hm) hc h0 (by omega) (by omega) (by omega) (by omega) (by omega) (by omega) hb ⟨by omega, by omega, by omega, by omega⟩ ⟨by omega, by omega, by omega, by omega⟩ ⟨by omega, by omega, by omega, by omega⟩⟩
theorem fin_true {w w1 w2 wv W : World} {pre : List Rnd} {x : Rnd} {S0 : Ms} {at_ : ByteArray} {px : Option It} (hI : MI w w2.heap.size wv.heap.size (wv.heap.size + 1) (wv.heap.size + 1 + 1) w1.heap.size (pre.length + 1) S0 W) (hS : (pre.map Rnd.rd).foldl mstep ms0 = S0)
    (hst : mstep S0 x.rd = mstepP S0 at_ px true) (h0 : w.heap.size ≤ w2.heap.size) (h1 : w.heap.size ≤ wv.heap.size) (h3 : wv.heap.size + 3 ≤ w1.heap.size) (h2 : w1.heap.size + 4 ≤ w2.heap.size) (hb : w2.heap.size ≤ W.heap.size) :
    ∀ B : World, MI w w2.heap.size wv.heap.size (wv.heap.size + 1) (wv.heap.size + 1 + 1) w1.heap.size (pre.length + 1 + 1) (mstepQ (S0.1, S0.2.1, S0.2.2 ++ [⟨1, at_⟩]) at_ px) B → Chg w2.heap.size wv.heap.size (wv.heap.size + 1) (wv.heap.size + 1 + 1) W B → EndR w w1 w2 wv W pre x .normal B := fun B hm hc =>
  ⟨rfl, mi_fin hI hS (by rw [hst, mstepP_true]; exact hm) hc h0 (by omega) (by omega) (by omega) (by omega) (by omega) (by omega) hb ⟨by omega, by omega, by omega, by omega⟩ ⟨by omega, by omega, by omega, by omega⟩ ⟨by omega, by omega, by omega, by omega⟩⟩
theorem R_slice3 {α : Type} {d : Kd α} {e base : Nat} {ok : Nat → Prop} {w : World} {v : Value} {xs : List α} (h : d.R e w base ok v xs) : ∃ A n c, v = .slice A n c := by
  obtain ⟨A, c, h⟩ := Kd.R_slice h
  exact ⟨A, _, c, h⟩
theorem slashed_back {p : ByteArray} (h : slashed p = true) : slashed (swapB 0 47 (swapB 47 0 p)) = true := by
  have h := of_decide_eq_true h
  refine decide_eq_true ?_
  show (swapL 0 47 (swapL 47 0 (bs p))).head? = some 47
  cases hb : bs p with
  | nil => rw [hb] at h; cases h
  | cons a l =>
    rw [hb] at h
    injection h with h
    subst h
    rfl
theorem right_slashed {K : List (ByteArray × Int)} : ∀ {before : Option (List ByteArray)} {l : List It}, rightGo K before l = true → ∀ x ∈ l, slashed x.f1 = true := by
  intro before l
  induction l generalizing K before with
  | nil => intro _ x hx; cases hx
  | cons a l ih =>
    intro h x hx
    rw [rightGo] at h
    simp only [Bool.and_eq_true] at h
    rcases List.mem_cons.1 hx with rfl | hx
    · have hc := h.1.1.1.1
      unfold cutP at hc
      split at hc
      · rename_i hh
        exact hh.2.1
      · cases hc
    · exact ih h.2 x hx
theorem right_kinds {K : List (ByteArray × Int)} : ∀ {before : Option (List ByteArray)} {l : List It}, rightGo K before l = true → ∀ x ∈ l, 1 ≤ x.f0 ∧ x.f0 ≤ 4 := by
  intro before l
  induction l generalizing K before with
  | nil => intro _ x hx; cases hx
  | cons a l ih =>
    intro h x hx
    rw [rightGo] at h
    simp only [Bool.and_eq_true] at h
    rcases List.mem_cons.1 hx with rfl | hx
    · exact itemOk_kind h.1.2
    · exact ih h.2 x hx
theorem pick_from (a b c : Option It) {y : It} (h : (pickP a b c).1 = some y) : b = some y ∨ c = some y := by
  unfold pickP at h
  split at h
  · exact .inl h
  · split at h
    · exact .inr h
    · exact .inl h
theorem twin_is {y : It} (h : Sm y) : patch_twin.f y.f0 y.f1 y.f2 y.f3 y.f4 y.f5 = some (y.f0, y.f1, y.f2, y.f3, y.f4, y.f5) := by
  unfold patch_twin.f api_Run_36.f bytes_Clone.f
  rw [if_pos h.r, if_pos h.d]
  rfl
theorem infoCf : (Tryd.prog.info? 38).map (fun i => (i.zero, i.size, i.bytes)) = some (some (.agg #[.int .i64 0, .string ⟨#[]⟩]), 2, 24) := by kernel_rfl
theorem infoIt : (Tryd.prog.info? 27).map (fun i => (i.zero, i.size, i.bytes)) = some (some (.agg #[.int .i64 0, .string ⟨#[]⟩, .string ⟨#[]⟩, .int .i64 0, .slice none 0 0, .slice none 0 0]), 6, 96) := by kernel_rfl
theorem left3 (L : Nat → List It) (h0 : (L 0).length ≤ 4096) (h1 : (L 1).length ≤ 4096) (h2 : (L 2).length ≤ 4096) : leftN L (fun _ => 0) ≤ 12288 := by
  unfold leftN
  omega
section
variable {F : Fence} {nF : Nat} {P : Program} {ops : Array Oper} {rest : List Oper} {o : Oper} {a : Act} {Q : Exit → Act → World → Prop} {α : Type}
theorem appendIn (d : Kd α) {w0 W : World} (base : Nat) (hgd : o.guard = none) (s x : Operand) (t e : TypeId) (z : Value) (bytes : Nat)
    (ho : o.op = .call { callee := .builtin .append, args := #[s, x], argTypes := #[t, t] })
    (ht : P.underlying t = some (.slice e)) (hinfo : (P.info? e).map (fun i => (i.zero, i.size, i.bytes)) = some (some z, d.sz, bytes)) (hz : z.cells.size = d.sz) (hs0 : 0 < d.sz) (hb0 : 0 < bytes)
    (v : Value) (xs : List α) (p : α) (cs : List Value) (ok okp : Nat → Prop) (hs : a.eval s = v) (hx : a.eval x = .slice (some ⟨W.heap.size, 0, none⟩) 1 1) (hp : d.M W base okp p cs) (hokp : ∀ k, okp k → ok k ∧ some k ≠ v.ownBlock) (hfresh : ∀ k, W.heap.size ≤ k → ok k)
    (HO : d.R e W base ok v xs) (HB : Below base w0 W) (hbase : base ≤ W.heap.size) (hl : (xs.length + 1) * bytes ≤ 140737488355328)
    (h : ∀ v1 w1, d.R e w1 base ok v1 (xs ++ [p]) → Below base w0 w1 → W.grownBy w1 v.ownBlock → (v1.ownBlock = v.ownBlock ∨ ∃ b, v1.ownBlock = some b ∧ W.heap.size ≤ b) → wpListIn F nF P ops Q rest (a.put o.dst v1) w1) :
    wpListIn F nF P ops Q (o :: rest) a (W.alloc (.cells cs.toArray e)) := by
  obtain ⟨h0, inner, hown, hr⟩ := HO
  obtain ⟨i0, hi, hzz⟩ := Option.map_eq_some_iff.1 hinfo
  simp only [Prod.mk.injEq] at hzz
  obtain ⟨hz0, hz1, hz2⟩ := hzz
  have hlen : xs.length + 1 ≤ 140737488355328 := Nat.le_trans (Nat.le_mul_of_pos_right _ hb0) hl
  have hK := d.K_of_M hp
  refine wpListIn_append_own_at (W.alloc (.cells cs.toArray e)) hgd s x t ho base e i0 z d.sz bytes ht hi hz0 hz1 hz2 hz hs0 v xs.length inner hs (hown.alloc _) ⟨W.heap.size, 0, none⟩ 1 1 cs hx (by rw [d.K_len hK]; simp)
    (by simpa using World.news_of_block (cs := cs.toArray) (t := e) (fr := (0, 0)) (blk_new W (.cells cs.toArray e))) (d.K_one hK) (by simp only [maxLen]; omega) hl (by simp; omega) ?_
  intro v1 w1 hown1 hg1 hnil hat
  have hg2 : W.grownBy w1 v.ownBlock := ⟨hg1.os, hg1.tape, hg1.output, by have := hg1.size; simp at this; omega, fun k hk hne => by
    rw [hg1.block k (by simp; omega) hne]
    exact Below.heap_alloc _ _ _ hk⟩
  have hat2 : v1.ownBlock = v.ownBlock ∨ ∃ b, v1.ownBlock = some b ∧ W.heap.size ≤ b := by
    rcases hat with hat | hat
    · exact .inl hat
    · exact .inr ⟨_, hat, by simp⟩
  refine h v1 w1 (Kd.R_appended h0 hr hp hokp hfresh hown1 hg2 hat2) ?_ hg2 hat2
  exact (HB.alloc hbase _).grown hg1 (by simp; omega) (fun k hk => own_base hown k hk)
end
end Go.Proofs.YtkfikinjlbbibaaDoor
end
