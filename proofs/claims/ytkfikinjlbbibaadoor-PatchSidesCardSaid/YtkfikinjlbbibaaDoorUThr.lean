/- Packed by this session's own program (wip/tools/pack.py): what the claim needs of its texts. -/
import Derived.Test.YtkfikinjlbbibaaDoorUPur
import Derived.Test.YtkfikinjlbbibaaDoorUPTx10
namespace Go.Proofs.YtkfikinjlbbibaaDoor
open Go.RowKit Go.Lib
open Go.Proofs.YtkfikinjlbbibaaDoorW.PrintWords Go.Proofs.YtkfikinjlbbibaaDoorW.PrintLast Go.Proofs.YtkfikinjlbbibaaDoor.PT
set_option linter.unusedVariables false
set_option linter.unusedSimpArgs false
theorem fitB_of {x : It} (h : Fit x) : fitB x = true := by
  unfold fitB
  rw [decide_eq_true h.p, decide_eq_true h.t, decide_eq_true h.r, decide_eq_true h.d]
  simp only [Bool.true_and]
  refine List.all_eq_true.2 (fun n hn => ?_)
  have := h.b n hn
  rw [decide_eq_true this.1, decide_eq_true this.2]
  rfl
structure Came (l : List It) : Prop where
  n : l.length < 1466015503701
  r : ∀ x ∈ l, x.f4.length < 8796093022208
  fit : ∀ x ∈ l, Fit x
theorem Came.all {l : List It} (h : Came l) : l.all fitB = true := List.all_eq_true.2 (fun x hx => fitB_of (h.fit x hx))
theorem Came.nil : Came [] := ⟨by decide, fun _ h => absurd h List.not_mem_nil, fun _ h => absurd h List.not_mem_nil⟩
theorem Tree.came {l : List It} (h : Tree l) : Came l := ⟨by have := (pack_zero h.pack).1; omega, fun x hx => by have := (right_sm h.right x hx).r; omega, h.fit⟩
theorem Came.tree {l : List It} (h : Came l) (hp : (packP l).2 = 0) : Tree l := ⟨hp, h.fit⟩
theorem take_snoc {α : Type} (l : List α) (i : Nat) (h : i < l.length) : l.take i ++ [l[i]] = l.take (i + 1) := (List.take_succ_eq_append_getElem h).symm
theorem twinRuns_loop (l : List Ru) (hl : l.length < 8796093022208) : ∀ (d i : Nat), i + d = l.length → Ev (fun k => vellumlaw18_twinRuns.l0 k l (l.take i) (i : Int)) l
  | 0, i, h => by
    refine Ev.step (fun k => ?_) (Ev.now _)
    rw [vellumlaw18_twinRuns.l0, if_neg (by omega), List.take_of_length_le (by omega)]
  | d + 1, i, h => by
    have hi : i < l.length := by omega
    refine Ev.step (fun k => ?_) (twinRuns_loop l hl d (i + 1) (by omega))
    rw [vellumlaw18_twinRuns.l0, if_pos (by omega), if_pos (by omega), if_pos (by rw [List.length_take]; omega), rdRu_at l i hi, wrap_up (by omega)]
    rw [show ([⟨l[i].f0, l[i].f1⟩] : List Ru) = [l[i]] from rfl, take_snoc l i hi]
theorem twinRuns_ev (l : List Ru) (hl : l.length < 8796093022208) : Ev (fun k => vellumlaw18_twinRuns.f k l) l := twinRuns_loop l hl l.length 0 (by omega)
theorem twin_loop (l : List Int) (hl : l.length < 140737488355328) : ∀ (d i : Nat), i + d = l.length → Ev (fun k => vellumlaw18_twin.l0 k l (l.take i) (i : Int)) l
  | 0, i, h => by
    refine Ev.step (fun k => ?_) (Ev.now _)
    rw [vellumlaw18_twin.l0, if_neg (by omega), List.take_of_length_le (by omega)]
  | d + 1, i, h => by
    have hi : i < l.length := by omega
    refine Ev.step (fun k => ?_) (twin_loop l hl d (i + 1) (by omega))
    rw [vellumlaw18_twin.l0, if_pos (by omega), if_pos (by omega), if_pos (by rw [List.length_take]; omega), rd_at l i hi, wrap_up (by omega), take_snoc l i hi]
theorem twin_ev (l : List Int) (hl : l.length < 140737488355328) : Ev (fun k => vellumlaw18_twin.f k l) l := twin_loop l hl l.length 0 (by omega)
theorem twinItem_ev (x : It) (hx : Fit x) (hr : x.f4.length < 8796093022208) : Ev (fun k => vellumlaw18_twinItem.f k x.f0 x.f1 x.f2 x.f3 x.f4 x.f5) (x.f0, x.f1, x.f2, x.f3, x.f4, x.f5) :=
  Ev.bind (twinRuns_ev x.f4 hr) (Ev.bind (twin_ev x.f5 (by have := hx.d; omega)) (Ev.now _))
theorem rdIt_at (xs : List It) (i : Nat) (h : i < xs.length) : rd_T27 xs (i : Int) = xs[i] := by simp [rd_T27, h]
theorem twins_loop (l : List It) (hc : Came l) : ∀ (d i : Nat), i + d = l.length → Ev (fun k => vellumlaw18_twins.l0 k l (l.take i) (i : Int)) l
  | 0, i, h => by
    refine Ev.step (fun k => ?_) (Ev.now _)
    rw [vellumlaw18_twins.l0, if_neg (by omega), List.take_of_length_le (by omega)]
  | d + 1, i, h => by
    have hi : i < l.length := by omega
    have hn := hc.n
    have hm := List.getElem_mem hi
    refine Ev.step (f := fun k => (vellumlaw18_twinItem.f k l[i].f0 l[i].f1 l[i].f2 l[i].f3 l[i].f4 l[i].f5).bind fun bt => vellumlaw18_twins.l0 k l (l.take i ++ [⟨bt.1, bt.2.1, bt.2.2.1, bt.2.2.2.1, bt.2.2.2.2.1, bt.2.2.2.2.2⟩]) ((i + 1 : Nat) : Int)) (fun k => ?_) ?_
    · rw [vellumlaw18_twins.l0, if_pos (by omega), if_pos (by omega), rdIt_at l i hi, wrap_up (by omega)]
      congr 1
      funext bt
      rw [if_pos (by rw [List.length_take]; omega)]
    · refine Ev.bind (twinItem_ev l[i] (hc.fit _ hm) (hc.r _ hm)) ?_
      have ih := twins_loop l hc d (i + 1) (by omega)
      rw [← take_snoc l i hi] at ih
      exact ih
theorem twins_ev (l : List It) (hc : Came l) : Ev (fun k => vellumlaw18_twins.f k l) l := twins_loop l hc l.length 0 (by omega)
theorem same_refl_f (x : It) : vellumref18_Same.f x.f0 x.f1 x.f2 x.f3 x.f4 x.f5 x.f0 x.f1 x.f2 x.f3 x.f4 x.f5 = some true := by
  unfold vellumref18_Same.f
  rw [show (⟨x.f0, x.f1, x.f2, x.f3, x.f4, x.f5⟩ : It) = x from rfl, sameP_refl]
theorem sameItem_refl (x : It) : vellumlaw18_sameItem.f x.f0 x.f1 x.f2 x.f3 x.f4 x.f5 x.f0 x.f1 x.f2 x.f3 x.f4 x.f5 = some true := by
  unfold vellumlaw18_sameItem.f
  rw [if_pos rfl, same_refl_f]
  rfl
theorem sameItems_loop (l : List It) (hl : l.length < 9223372036854775807) : ∀ (d i : Nat), i + d = l.length → Ev (fun k => vellumlaw18_sameItems.l0 k l l (i : Int)) true
  | 0, i, h => Ev.step (fun k => by rw [vellumlaw18_sameItems.l0, if_neg (by omega)]) (Ev.now _)
  | d + 1, i, h => by
    have hi : i < l.length := by omega
    refine Ev.step (fun k => ?_) (sameItems_loop l hl d (i + 1) (by omega))
    rw [vellumlaw18_sameItems.l0, if_pos (by omega), if_pos (by omega), if_pos (by omega), rdIt_at l i hi, sameItem_refl, Option.bind_some, if_pos rfl, wrap_up (by omega)]
theorem sameItems_ev (l : List It) (hl : l.length < 9223372036854775807) : Ev (fun k => vellumlaw18_sameItems.f k l l) true :=
  Ev.congr (fun k => by rw [vellumlaw18_sameItems.f, if_pos rfl]; rfl) (sameItems_loop l hl l.length 0 (by omega))
theorem rdCf_at (xs : List Cf) (i : Nat) (h : i < xs.length) : rd_T38 xs (i : Int) = xs[i] := by simp [rd_T38, h]
theorem merge_f {b l r : List It} (hb : Came b) (hl : Came l) (hr : Came r) : patch_Merge.f b l r = some (mergeP b l r) := by
  unfold patch_Merge.f
  rw [if_pos ⟨hb.all, hl.all, hr.all⟩]
theorem pack_f {l : List It} (h : Came l) : dump_Pack.f l = some (packP l) := by
  unfold dump_Pack.f
  rw [if_pos h.all]
theorem all_ev {b l r w : List It} (hb : Came b) (hl : Came l) (hr : Came r) (hw : w.length < 9223372036854775807) (h : mergeP b l r = (w, [], 0)) : Ev (fun k => vellumlaw18_all.f k b l r w) true := by
  refine Ev.bind (twins_ev b hb) (Ev.bind (twins_ev l hl) (Ev.bind (twins_ev r hr) ?_))
  refine Ev.congr (f := fun k => (vellumlaw18_sameItems.f k w w).bind fun t => some t) (fun k => ?_) (Ev.bind (sameItems_ev w hw) (Ev.now _))
  rw [merge_f hb hl hr, h, Option.bind_some]
  rfl
theorem isTree_ev {l : List It} (h : Came l) : Ev (fun k => vellumlaw18_isTree.f k l) ((packP l).2 == 0) := by
  refine Ev.bind (twins_ev l h) ?_
  refine Ev.congr (fun k => ?_) (Ev.now _)
  rw [pack_f h, Option.bind_some]
  rfl
def unlikeP (b l r : List It) : Int := if (packP b).2 ≠ 0 then (packP b).2 else if (packP l).2 ≠ 0 then (packP l).2 else (packP r).2
theorem unlike_ev {b l r : List It} (hb : Came b) (hl : Came l) (hr : Came r) : Ev (fun k => vellumlaw18_unlike.f k b l r) (unlikeP b l r) := by
  have one : ∀ (i : Nat) (x : List It), Came x → (∀ k, vellumlaw18_unlike.l0 (k + 1) [b, l, r] (i : Int) = (vellumlaw18_twins.f k x).bind fun t => (dump_Pack.f t).bind fun bt => (vellumlaw18_num.f bt.2).bind fun t201 => if t201 = 0 then vellumlaw18_unlike.l0 k [b, l, r] ((i + 1 : Nat) : Int) else (vellumlaw18_num.f bt.2).bind fun t202 => some t202) → ∀ v, ((packP x).2 ≠ 0 → v = (packP x).2) → ((packP x).2 = 0 → Ev (fun k => vellumlaw18_unlike.l0 k [b, l, r] ((i + 1 : Nat) : Int)) v) → Ev (fun k => vellumlaw18_unlike.l0 k [b, l, r] (i : Int)) v := by
    intro i x hx he v h1 h2
    refine Ev.step (f := fun k => (vellumlaw18_twins.f k x).bind fun t => (dump_Pack.f t).bind fun bt => (vellumlaw18_num.f bt.2).bind fun t201 => if t201 = 0 then vellumlaw18_unlike.l0 k [b, l, r] ((i + 1 : Nat) : Int) else (vellumlaw18_num.f bt.2).bind fun t202 => some t202) he ?_
    · refine Ev.bind (twins_ev x hx) ?_
      by_cases hz : (packP x).2 = 0
      · refine Ev.congr (fun k => ?_) (h2 hz)
        rw [pack_f hx, Option.bind_some]
        show (some (packP x).2).bind _ = _
        rw [Option.bind_some, if_pos hz]
      · rw [h1 hz]
        refine Ev.congr (fun k => ?_) (Ev.now _)
        rw [pack_f hx, Option.bind_some]
        show (some (packP x).2).bind _ = _
        rw [Option.bind_some, if_neg hz]
        rfl
  refine one 0 b hb (fun k => by rw [vellumlaw18_unlike.l0, if_pos (by decide), if_pos (by decide), if_pos (by show _ < (3 : Int); decide), wrap_up (by omega)]; rfl) _ (fun h => by unfold unlikeP; rw [if_pos h]) (fun z0 => ?_)
  refine one 1 l hl (fun k => by rw [vellumlaw18_unlike.l0, if_pos (by decide), if_pos (by decide), if_pos (by show _ < (3 : Int); decide), wrap_up (by omega)]; rfl) _ (fun h => by unfold unlikeP; rw [if_neg (fun h => h z0), if_pos h]) (fun z1 => ?_)
  refine one 2 r hr (fun k => by rw [vellumlaw18_unlike.l0, if_pos (by decide), if_pos (by decide), if_pos (by show _ < (3 : Int); decide), wrap_up (by omega)]; rfl) _ (fun h => by unfold unlikeP; rw [if_neg (fun h => h z0), if_neg (fun h => h z1)]) (fun z2 => ?_)
  refine Ev.step (fun k => ?_) (Ev.now _)
  rw [vellumlaw18_unlike.l0, if_neg (by omega)]
  unfold unlikeP
  rw [if_neg (fun h => h z0), if_neg (fun h => h z1), z2]
theorem merge_unlike {b l r : List It} (h : unlikeP b l r ≠ 0) : (mergeP b l r).2.2 = unlikeP b l r := by
  unfold unlikeP at h ⊢
  unfold mergeP
  by_cases h0 : (packP b).2 ≠ 0
  · rw [if_pos h0, if_pos h0]
  · rw [if_neg h0] at h
    rw [if_neg h0, if_neg h0]
    by_cases h1 : (packP l).2 ≠ 0
    · rw [if_pos h1, if_pos h1]
    · rw [if_neg h1] at h
      rw [if_neg h1, if_neg h1]
      rw [if_pos h]
theorem muchB (l r : List It) (hl : Tree l) (hr : Tree r) : Ev (fun k => vellumlaw18_much.f k l r) (decide (muchP l r)) := by
  have n1 := (pack_zero hl.pack).1
  have n2 := (pack_zero hr.pack).1
  have i1 := pack_len hl.pack
  have i2 := pack_len hr.pack
  refine Ev.bind (twins_ev l hl.came) ?_
  refine Ev.congr (f := fun k => (vellumlaw18_twins.f k r).bind fun t => (dump_Pack.f t).bind fun bt => if wrap64 ((l.length : Int) + (r.length : Int)) > 4096 then some true else some (decide (wrap64 (((packP l).1.length : Int) + (bt.1.length : Int)) > 4194304))) (fun k => by rw [pack_f hl.came, Option.bind_some]) ?_
  refine Ev.bind (twins_ev r hr.came) (Ev.congr (fun k => ?_) (Ev.now _))
  rw [pack_f hr.came, Option.bind_some]
  have s1 := pack_small_len hl.pack
  have s2 := pack_small_len hr.pack
  rw [wrap_in (by omega) (by omega), wrap_in (by omega) (by omega)]
  by_cases h : (l.length : Int) + (r.length : Int) > 4096
  · rw [if_pos h, decide_eq_true (show muchP l r from .inl (by omega))]
  · rw [if_neg h]
    congr 1
    by_cases h2 : ((packP l).1.length : Int) + ((packP r).1.length : Int) > 4194304
    · rw [decide_eq_true h2, decide_eq_true (show muchP l r from .inr (by omega))]
    · rw [decide_eq_false h2, decide_eq_false (show ¬ muchP l r from fun h => by unfold muchP at h; omega)]
end Go.Proofs.YtkfikinjlbbibaaDoor
