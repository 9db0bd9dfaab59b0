/- Packed by this session's own program (wip/tools/pack.py): what the claim needs of its texts. -/
import Derived.Test.YtkfikinjlbbibaaDoorQPur
import Derived.Test.YtkfikinjlbbibaaDoorQPTx10
namespace Go.Proofs.YtkfikinjlbbibaaDoor
open Go.RowKit Go.Lib
open Go.Proofs.YtkfikinjlbbibaaDoorW.PrintWords Go.Proofs.YtkfikinjlbbibaaDoorW.PrintLast Go.Proofs.YtkfikinjlbbibaaDoor.PT
set_option linter.unusedVariables false
set_option linter.unusedSimpArgs false
theorem fitB_of {x : It} (h : Fit x) : fitB x = true := by
  unfold fitB
  rw [decide_eq_true h.p, decide_eq_true h.t, decide_eq_true h.r, decide_eq_true h.d]
  simp only [Bool.true_and]
  refine List.all_eq_true.2 (fun n hn => ?_)
  have := h.b n hn
  rw [decide_eq_true this.1, decide_eq_true this.2]
  rfl
structure Came (l : List It) : Prop where
  n : l.length < 1466015503701
  r : ∀ x ∈ l, x.f4.length < 8796093022208
  fit : ∀ x ∈ l, Fit x
theorem Came.all {l : List It} (h : Came l) : l.all fitB = true := List.all_eq_true.2 (fun x hx => fitB_of (h.fit x hx))
theorem Came.nil : Came [] := ⟨by decide, fun _ h => absurd h List.not_mem_nil, fun _ h => absurd h List.not_mem_nil⟩
theorem Tree.came {l : List It} (h : Tree l) : Came l := ⟨by have := (pack_zero h.pack).1; omega, fun x hx => by have := (right_sm h.right x hx).r; omega, h.fit⟩
theorem Came.tree {l : List It} (h : Came l) (hp : (packP l).2 = 0) : Tree l := ⟨hp, h.fit⟩
theorem take_snoc {α : Type} (l : List α) (i : Nat) (h : i < l.length) : l.take i ++ [l[i]] = l.take (i + 1) := (List.take_succ_eq_append_getElem h).symm
theorem twinRuns_loop (l : List Ru) (hl : l.length < 8796093022208) : ∀ (d i : Nat), i + d = l.length → Ev (fun k => vellumlaw18_twinRuns.l0 k l (l.take i) (i : Int)) l
  | 0, i, h => by
    refine Ev.step (fun k => ?_) (Ev.now _)
    rw [vellumlaw18_twinRuns.l0, if_neg (by omega), List.take_of_length_le (by omega)]
  | d + 1, i, h => by
    have hi : i < l.length := by omega
    refine Ev.step (fun k => ?_) (twinRuns_loop l hl d (i + 1) (by omega))
    rw [vellumlaw18_twinRuns.l0, if_pos (by omega), if_pos (by omega), if_pos (by rw [List.length_take]; omega), rdRu_at l i hi, wrap_up (by omega)]
    rw [show ([⟨l[i].f0, l[i].f1⟩] : List Ru) = [l[i]] from rfl, take_snoc l i hi]
theorem twinRuns_ev (l : List Ru) (hl : l.length < 8796093022208) : Ev (fun k => vellumlaw18_twinRuns.f k l) l := twinRuns_loop l hl l.length 0 (by omega)
theorem twin_loop (l : List Int) (hl : l.length < 140737488355328) : ∀ (d i : Nat), i + d = l.length → Ev (fun k => vellumlaw18_twin.l0 k l (l.take i) (i : Int)) l
  | 0, i, h => by
    refine Ev.step (fun k => ?_) (Ev.now _)
    rw [vellumlaw18_twin.l0, if_neg (by omega), List.take_of_length_le (by omega)]
  | d + 1, i, h => by
    have hi : i < l.length := by omega
    refine Ev.step (fun k => ?_) (twin_loop l hl d (i + 1) (by omega))
    rw [vellumlaw18_twin.l0, if_pos (by omega), if_pos (by omega), if_pos (by rw [List.length_take]; omega), rd_at l i hi, wrap_up (by omega), take_snoc l i hi]
theorem twin_ev (l : List Int) (hl : l.length < 140737488355328) : Ev (fun k => vellumlaw18_twin.f k l) l := twin_loop l hl l.length 0 (by omega)
theorem twinItem_ev (x : It) (hx : Fit x) (hr : x.f4.length < 8796093022208) : Ev (fun k => vellumlaw18_twinItem.f k x.f0 x.f1 x.f2 x.f3 x.f4 x.f5) (x.f0, x.f1, x.f2, x.f3, x.f4, x.f5) :=
  Ev.bind (twinRuns_ev x.f4 hr) (Ev.bind (twin_ev x.f5 (by have := hx.d; omega)) (Ev.now _))
theorem rdIt_at (xs : List It) (i : Nat) (h : i < xs.length) : rd_T27 xs (i : Int) = xs[i] := by simp [rd_T27, h]
theorem twins_loop (l : List It) (hc : Came l) : ∀ (d i : Nat), i + d = l.length → Ev (fun k => vellumlaw18_twins.l0 k l (l.take i) (i : Int)) l
  | 0, i, h => by
    refine Ev.step (fun k => ?_) (Ev.now _)
    rw [vellumlaw18_twins.l0, if_neg (by omega), List.take_of_length_le (by omega)]
  | d + 1, i, h => by
    have hi : i < l.length := by omega
    have hn := hc.n
    have hm := List.getElem_mem hi
    refine Ev.step (f := fun k => (vellumlaw18_twinItem.f k l[i].f0 l[i].f1 l[i].f2 l[i].f3 l[i].f4 l[i].f5).bind fun bt => vellumlaw18_twins.l0 k l (l.take i ++ [⟨bt.1, bt.2.1, bt.2.2.1, bt.2.2.2.1, bt.2.2.2.2.1, bt.2.2.2.2.2⟩]) ((i + 1 : Nat) : Int)) (fun k => ?_) ?_
    · rw [vellumlaw18_twins.l0, if_pos (by omega), if_pos (by omega), rdIt_at l i hi, wrap_up (by omega)]
      congr 1
      funext bt
      rw [if_pos (by rw [List.length_take]; omega)]
    · refine Ev.bind (twinItem_ev l[i] (hc.fit _ hm) (hc.r _ hm)) ?_
      have ih := twins_loop l hc d (i + 1) (by omega)
      rw [← take_snoc l i hi] at ih
      exact ih
theorem twins_ev (l : List It) (hc : Came l) : Ev (fun k => vellumlaw18_twins.f k l) l := twins_loop l hc l.length 0 (by omega)
theorem same_refl_f (x : It) : vellumref18_Same.f x.f0 x.f1 x.f2 x.f3 x.f4 x.f5 x.f0 x.f1 x.f2 x.f3 x.f4 x.f5 = some true := by
  unfold vellumref18_Same.f
  rw [show (⟨x.f0, x.f1, x.f2, x.f3, x.f4, x.f5⟩ : It) = x from rfl, sameP_refl]
theorem sameItem_refl (x : It) : vellumlaw18_sameItem.f x.f0 x.f1 x.f2 x.f3 x.f4 x.f5 x.f0 x.f1 x.f2 x.f3 x.f4 x.f5 = some true := by
  unfold vellumlaw18_sameItem.f
  rw [if_pos rfl, same_refl_f]
  rfl
theorem sameItems_loop (l : List It) (hl : l.length < 9223372036854775807) : ∀ (d i : Nat), i + d = l.length → Ev (fun k => vellumlaw18_sameItems.l0 k l l (i : Int)) true
  | 0, i, h => Ev.step (fun k => by rw [vellumlaw18_sameItems.l0, if_neg (by omega)]) (Ev.now _)
  | d + 1, i, h => by
    have hi : i < l.length := by omega
    refine Ev.step (fun k => ?_) (sameItems_loop l hl d (i + 1) (by omega))
    rw [vellumlaw18_sameItems.l0, if_pos (by omega), if_pos (by omega), if_pos (by omega), rdIt_at l i hi, sameItem_refl, Option.bind_some, if_pos rfl, wrap_up (by omega)]
theorem sameItems_ev (l : List It) (hl : l.length < 9223372036854775807) : Ev (fun k => vellumlaw18_sameItems.f k l l) true :=
  Ev.congr (fun k => by rw [vellumlaw18_sameItems.f, if_pos rfl]; rfl) (sameItems_loop l hl l.length 0 (by omega))
theorem rdCf_at (xs : List Cf) (i : Nat) (h : i < xs.length) : rd_T38 xs (i : Int) = xs[i] := by simp [rd_T38, h]
theorem sameCf_loop (l : List Cf) (hl : l.length < 9223372036854775807) : ∀ (d i : Nat), i + d = l.length → Ev (fun k => vellumlaw18_sameConflicts.l0 k l l (i : Int)) true
  | 0, i, h => Ev.step (fun k => by rw [vellumlaw18_sameConflicts.l0, if_neg (by omega)]) (Ev.now _)
  | d + 1, i, h => by
    have hi : i < l.length := by omega
    refine Ev.step (fun k => ?_) (sameCf_loop l hl d (i + 1) (by omega))
    rw [vellumlaw18_sameConflicts.l0, if_pos (by omega), if_pos (by omega), if_pos (by omega), rdCf_at l i hi, if_pos rfl, if_pos rfl, wrap_up (by omega)]
theorem sameCf_ev (l : List Cf) (hl : l.length < 9223372036854775807) : Ev (fun k => vellumlaw18_sameConflicts.f k l l) true :=
  Ev.congr (fun k => by rw [vellumlaw18_sameConflicts.f, if_pos rfl]; rfl) (sameCf_loop l hl l.length 0 (by omega))
theorem merge_f {b l r : List It} (hb : Came b) (hl : Came l) (hr : Came r) : patch_Merge.f b l r = some (mergeP b l r) := by
  unfold patch_Merge.f
  rw [if_pos ⟨hb.all, hl.all, hr.all⟩]
theorem pack_f {l : List It} (h : Came l) : dump_Pack.f l = some (packP l) := by
  unfold dump_Pack.f
  rw [if_pos h.all]
theorem all_ev {b l r w : List It} (hb : Came b) (hl : Came l) (hr : Came r) (hw : w.length < 9223372036854775807) (h : mergeP b l r = (w, [], 0)) : Ev (fun k => vellumlaw18_all.f k b l r w) true := by
  refine Ev.bind (twins_ev b hb) (Ev.bind (twins_ev l hl) (Ev.bind (twins_ev r hr) ?_))
  refine Ev.congr (f := fun k => (vellumlaw18_sameItems.f k w w).bind fun t => some t) (fun k => ?_) (Ev.bind (sameItems_ev w hw) (Ev.now _))
  rw [merge_f hb hl hr, h, Option.bind_some]
  rfl
theorem isTree_ev {l : List It} (h : Came l) : Ev (fun k => vellumlaw18_isTree.f k l) ((packP l).2 == 0) := by
  refine Ev.bind (twins_ev l h) ?_
  refine Ev.congr (fun k => ?_) (Ev.now _)
  rw [pack_f h, Option.bind_some]
  rfl
def unlikeP (b l r : List It) : Int := if (packP b).2 ≠ 0 then (packP b).2 else if (packP l).2 ≠ 0 then (packP l).2 else (packP r).2
theorem unlike_ev {b l r : List It} (hb : Came b) (hl : Came l) (hr : Came r) : Ev (fun k => vellumlaw18_unlike.f k b l r) (unlikeP b l r) := by
  have one : ∀ (i : Nat) (x : List It), Came x → (∀ k, vellumlaw18_unlike.l0 (k + 1) [b, l, r] (i : Int) = (vellumlaw18_twins.f k x).bind fun t => (dump_Pack.f t).bind fun bt => (vellumlaw18_num.f bt.2).bind fun t201 => if t201 = 0 then vellumlaw18_unlike.l0 k [b, l, r] ((i + 1 : Nat) : Int) else (vellumlaw18_num.f bt.2).bind fun t202 => some t202) → ∀ v, ((packP x).2 ≠ 0 → v = (packP x).2) → ((packP x).2 = 0 → Ev (fun k => vellumlaw18_unlike.l0 k [b, l, r] ((i + 1 : Nat) : Int)) v) → Ev (fun k => vellumlaw18_unlike.l0 k [b, l, r] (i : Int)) v := by
    intro i x hx he v h1 h2
    refine Ev.step (f := fun k => (vellumlaw18_twins.f k x).bind fun t => (dump_Pack.f t).bind fun bt => (vellumlaw18_num.f bt.2).bind fun t201 => if t201 = 0 then vellumlaw18_unlike.l0 k [b, l, r] ((i + 1 : Nat) : Int) else (vellumlaw18_num.f bt.2).bind fun t202 => some t202) he ?_
    · refine Ev.bind (twins_ev x hx) ?_
      by_cases hz : (packP x).2 = 0
      · refine Ev.congr (fun k => ?_) (h2 hz)
        rw [pack_f hx, Option.bind_some]
        show (some (packP x).2).bind _ = _
        rw [Option.bind_some, if_pos hz]
      · rw [h1 hz]
        refine Ev.congr (fun k => ?_) (Ev.now _)
        rw [pack_f hx, Option.bind_some]
        show (some (packP x).2).bind _ = _
        rw [Option.bind_some, if_neg hz]
        rfl
  refine one 0 b hb (fun k => by rw [vellumlaw18_unlike.l0, if_pos (by decide), if_pos (by decide), if_pos (by show _ < (3 : Int); decide), wrap_up (by omega)]; rfl) _ (fun h => by unfold unlikeP; rw [if_pos h]) (fun z0 => ?_)
  refine one 1 l hl (fun k => by rw [vellumlaw18_unlike.l0, if_pos (by decide), if_pos (by decide), if_pos (by show _ < (3 : Int); decide), wrap_up (by omega)]; rfl) _ (fun h => by unfold unlikeP; rw [if_neg (fun h => h z0), if_pos h]) (fun z1 => ?_)
  refine one 2 r hr (fun k => by rw [vellumlaw18_unlike.l0, if_pos (by decide), if_pos (by decide), if_pos (by show _ < (3 : Int); decide), wrap_up (by omega)]; rfl) _ (fun h => by unfold unlikeP; rw [if_neg (fun h => h z0), if_neg (fun h => h z1)]) (fun z2 => ?_)
  refine Ev.step (fun k => ?_) (Ev.now _)
  rw [vellumlaw18_unlike.l0, if_neg (by omega)]
  unfold unlikeP
  rw [if_neg (fun h => h z0), if_neg (fun h => h z1), z2]
theorem merge_unlike {b l r : List It} (h : unlikeP b l r ≠ 0) : (mergeP b l r).2.2 = unlikeP b l r := by
  unfold unlikeP at h ⊢
  unfold mergeP
  by_cases h0 : (packP b).2 ≠ 0
  · rw [if_pos h0, if_pos h0]
  · rw [if_neg h0] at h
    rw [if_neg h0, if_neg h0]
    by_cases h1 : (packP l).2 ≠ 0
    · rw [if_pos h1, if_pos h1]
    · rw [if_neg h1] at h
      rw [if_neg h1, if_neg h1]
      rw [if_pos h]
theorem muchB (l r : List It) (hl : Tree l) (hr : Tree r) : Ev (fun k => vellumlaw18_much.f k l r) (decide (muchP l r)) := by
  have n1 := (pack_zero hl.pack).1
  have n2 := (pack_zero hr.pack).1
  have i1 := pack_len hl.pack
  have i2 := pack_len hr.pack
  refine Ev.bind (twins_ev l hl.came) ?_
  refine Ev.congr (f := fun k => (vellumlaw18_twins.f k r).bind fun t => (dump_Pack.f t).bind fun bt => if wrap64 ((l.length : Int) + (r.length : Int)) > 4096 then some true else some (decide (wrap64 (((packP l).1.length : Int) + (bt.1.length : Int)) > 4194304))) (fun k => by rw [pack_f hl.came, Option.bind_some]) ?_
  refine Ev.bind (twins_ev r hr.came) (Ev.congr (fun k => ?_) (Ev.now _))
  rw [pack_f hr.came, Option.bind_some]
  have s1 := pack_small_len hl.pack
  have s2 := pack_small_len hr.pack
  rw [wrap_in (by omega) (by omega), wrap_in (by omega) (by omega)]
  by_cases h : (l.length : Int) + (r.length : Int) > 4096
  · rw [if_pos h, decide_eq_true (show muchP l r from .inl (by omega))]
  · rw [if_neg h]
    congr 1
    by_cases h2 : ((packP l).1.length : Int) + ((packP r).1.length : Int) > 4194304
    · rw [decide_eq_true h2, decide_eq_true (show muchP l r from .inr (by omega))]
    · rw [decide_eq_false h2, decide_eq_false (show ¬ muchP l r from fun h => by unfold muchP at h; omega)]
theorem conf_loop (I1 : List It) (C1 : List Cf) (I2 : List It) (C2 : List Cf) (hl : C1.length < 9223372036854775807) (hI : I1.length < 9223372036854775807) (h2 : C2.length < 9223372036854775807) (he : (∀ y ∈ C1, y.f0 ≠ 1) → I2 = I1 ∧ C2 = C1) :
    ∀ (d i : Nat) (b : Bool), i + d = C1.length → (b = false → ∀ j, ∀ h : j < C1.length, j < i → C1[j].f0 ≠ 1) → Ev (fun k => vellumlaw18_PatchThree.l0 k I1 C1 I2 C2 b (i : Int)) true
  | 0, i, b, h, hb => by
    cases b with
    | true =>
      refine Ev.step (fun k => ?_) (Ev.now _)
      rw [vellumlaw18_PatchThree.l0, if_neg (by omega), if_pos rfl]
    | false =>
      obtain ⟨e1, e2⟩ := he (fun y hy => by
        obtain ⟨j, hj, rfl⟩ := List.getElem_of_mem hy
        exact hb rfl j hj (by omega))
      subst e1 e2
      refine Ev.step (f := fun k => (vellumlaw18_sameItems.f k I2 I2).bind fun t297 => if t297 = true then (vellumlaw18_sameConflicts.f k C2 C2).bind fun t298 => some t298 else some false) (fun k => ?_) (Ev.bind (sameItems_ev I2 hI) (Ev.congr (fun k => if_pos rfl) (Ev.bind (sameCf_ev C2 h2) (Ev.now _))))
      rw [vellumlaw18_PatchThree.l0, if_neg (by omega), if_neg (by decide)]
  | d + 1, i, b, h, hb => by
    have hi : i < C1.length := by omega
    cases b with
    | true =>
      refine Ev.step (fun k => ?_) (conf_loop I1 C1 I2 C2 hl hI h2 he d (i + 1) true (by omega) (fun h => by cases h))
      rw [vellumlaw18_PatchThree.l0, if_pos (by omega), if_pos rfl, wrap_up (by omega)]
    | false =>
      refine Ev.step (fun k => ?_) (conf_loop I1 C1 I2 C2 hl hI h2 he d (i + 1) (C1[i].f0 == 1) (by omega) (fun hf j hj hji => ?_))
      · rw [vellumlaw18_PatchThree.l0, if_pos (by omega), if_neg (by decide), if_pos (by omega), rdCf_at C1 i hi, wrap_up (by omega)]
      · rcases Nat.lt_or_ge j i with h1 | h1
        · exact hb rfl j hj h1
        · obtain rfl : j = i := by omega
          exact fun e => by rw [e] at hf; cases hf
theorem three_ev {b l r : List It} (hb : Came b) (hl : Came l) (hr : Came r) : Ev (fun k => vellumlaw18_PatchThree.f k b l r) true := by
  have hd : Came [dd] := dd_tree.came
  have ha := all_ev Came.nil Came.nil hd (by decide) (merge_right_alone Tree.nil dd_tree)
  refine Ev.bind ha (Ev.congr (fun k => if_pos rfl) ?_)
  have bad : unlikeP b l r ≠ 0 → Ev (fun k => vellumlaw18_PatchThree.j0 k b l r true) true := fun hu => by
    refine Ev.step (f := fun k => (vellumlaw18_twins.f k b).bind fun t231 => (vellumlaw18_twins.f k l).bind fun t234 => (vellumlaw18_twins.f k r).bind fun t237 => (patch_Merge.f t231 t234 t237).bind fun bt240 => (vellumlaw18_num.f bt240.2.2).bind fun t247 => if t247 = 0 then some false else (vellumlaw18_num.f bt240.2.2).bind fun t248 => (vellumlaw18_unlike.f k b l r).bind fun t249 => some (t248 == t249)) (fun k => by rw [vellumlaw18_PatchThree.j0, if_pos rfl]) ?_
    refine Ev.bind (twins_ev b hb) (Ev.bind (twins_ev l hl) (Ev.bind (twins_ev r hr) ?_))
    refine Ev.congr (f := fun k => (vellumlaw18_unlike.f k b l r).bind fun t249 => some (unlikeP b l r == t249)) (fun k => ?_) (Ev.bind (unlike_ev hb hl hr) (Ev.congr (fun k => by rw [beq_self_eq_true]) (Ev.now _)))
    rw [merge_f hb hl hr, Option.bind_some, merge_unlike hu]
    show (some (unlikeP b l r)).bind _ = _
    rw [Option.bind_some, if_neg hu]
    rfl
  refine Ev.bind (isTree_ev hb) ?_
  by_cases z0 : (packP b).2 = 0
  · refine Ev.congr (fun k => if_pos (beq_iff_eq.2 z0)) (Ev.bind (isTree_ev hl) ?_)
    by_cases z1 : (packP l).2 = 0
    · refine Ev.congr (fun k => if_pos (beq_iff_eq.2 z1)) (Ev.bind (isTree_ev hr) ?_)
      by_cases z2 : (packP r).2 = 0
      · have tb := hb.tree z0
        have tl := hl.tree z1
        have tr := hr.tree z2
        have nb : ∀ {m : List It}, Tree m → m.length < 9223372036854775807 := fun h => by have := (pack_zero h.pack).1; omega
        rw [beq_iff_eq.2 z2]
        refine Ev.step (f := fun k => (vellumlaw18_all.f k b b l l).bind fun t250 => if t250 = true then (vellumlaw18_all.f k b l b l).bind fun t251 => if t251 = true then (vellumlaw18_all.f k b l l l).bind fun t252 => if t252 = true then (vellumlaw18_all.f k b b b b).bind fun t253 => if t253 = true then (vellumlaw18_all.f k [] r [] r).bind fun t254 => vellumlaw18_PatchThree.j1 k b l r (!t254) else vellumlaw18_PatchThree.j1 k b l r true else vellumlaw18_PatchThree.j1 k b l r true else vellumlaw18_PatchThree.j1 k b l r true else vellumlaw18_PatchThree.j1 k b l r true) (fun k => by rw [vellumlaw18_PatchThree.j0, if_neg (by decide)]) ?_
        refine Ev.bind (all_ev hb hb hl (nb tl) (merge_right_alone tb tl)) (Ev.congr (fun k => if_pos rfl) ?_)
        refine Ev.bind (all_ev hb hl hb (nb tl) (merge_left_alone tb tl)) (Ev.congr (fun k => if_pos rfl) ?_)
        refine Ev.bind (all_ev hb hl hl (nb tl) (merge_both_alike tb tl)) (Ev.congr (fun k => if_pos rfl) ?_)
        refine Ev.bind (all_ev hb hb hb (nb tb) (merge_both_alike tb tb)) (Ev.congr (fun k => if_pos rfl) ?_)
        refine Ev.bind (all_ev Came.nil hr Came.nil (nb tr) (merge_left_alone Tree.nil tr)) ?_
        have m1 := merge_is tb tl tr
        have m2 := merge_is tb tr tl
        have g1 := merge_err z0 z1 z2
        have g2 := merge_err z0 z2 z1
        have gm : muchP r l → muchP l r := fun h => by unfold muchP at h ⊢; omega
        refine Ev.step (f := fun k => (vellumlaw18_twins.f k b).bind fun t255 => (vellumlaw18_twins.f k l).bind fun t258 => (vellumlaw18_twins.f k r).bind fun t261 => (patch_Merge.f t255 t258 t261).bind fun bt264 => (vellumlaw18_twins.f k b).bind fun t271 => (vellumlaw18_twins.f k r).bind fun t274 => (vellumlaw18_twins.f k l).bind fun t277 => (patch_Merge.f t271 t274 t277).bind fun bt280 => (vellumlaw18_num.f bt264.2.2).bind fun t287 => if t287 = 0 then (vellumlaw18_num.f bt280.2.2).bind fun t288 => vellumlaw18_PatchThree.j2 k l r bt264.1 bt264.2.1 bt264.2.2 bt280.1 bt280.2.1 bt280.2.2 (t288 != 0) else vellumlaw18_PatchThree.j2 k l r bt264.1 bt264.2.1 bt264.2.2 bt280.1 bt280.2.1 bt280.2.2 true) (fun k => by rw [vellumlaw18_PatchThree.j1, if_neg (by decide)]) ?_
        refine Ev.bind (twins_ev b hb) (Ev.bind (twins_ev l hl) (Ev.bind (twins_ev r hr) ?_))
        refine Ev.congr (f := fun k => (vellumlaw18_twins.f k b).bind fun t271 => (vellumlaw18_twins.f k r).bind fun t274 => (vellumlaw18_twins.f k l).bind fun t277 => (patch_Merge.f t271 t274 t277).bind fun bt280 => (vellumlaw18_num.f (mergeP b l r).2.2).bind fun t287 => if t287 = 0 then (vellumlaw18_num.f bt280.2.2).bind fun t288 => vellumlaw18_PatchThree.j2 k l r (mergeP b l r).1 (mergeP b l r).2.1 (mergeP b l r).2.2 bt280.1 bt280.2.1 bt280.2.2 (t288 != 0) else vellumlaw18_PatchThree.j2 k l r (mergeP b l r).1 (mergeP b l r).2.1 (mergeP b l r).2.2 bt280.1 bt280.2.1 bt280.2.2 true) (fun k => by rw [merge_f hb hl hr, Option.bind_some]) ?_
        refine Ev.bind (twins_ev b hb) (Ev.bind (twins_ev r hr) (Ev.bind (twins_ev l hl) ?_))
        obtain ⟨e, he⟩ : ∃ e, (packP (merged b l r).2.1).2 = e := ⟨_, rfl⟩
        obtain ⟨f, hf⟩ : ∃ f, (packP (merged b r l).2.1).2 = f := ⟨_, rfl⟩
        rw [he] at m1 g1
        rw [hf] at m2 g2
        have v1 : (mergeP b l r).2.2 = e := by
          rw [m1]
          by_cases h : e ≠ 0
          · rw [if_pos h]
          · rw [if_neg h]
            exact (Decidable.not_not.1 h).symm
        have v2 : (mergeP b r l).2.2 = f := by
          rw [m2]
          by_cases h : f ≠ 0
          · rw [if_pos h]
          · rw [if_neg h]
            exact (Decidable.not_not.1 h).symm
        have bad2 : (e ≠ 0 ∨ f ≠ 0) → ∀ (I1 : List It) (C1 : List Cf) (I2 : List It) (C2 : List Cf), Ev (fun k => vellumlaw18_PatchThree.j2 k l r I1 C1 e I2 C2 f true) true := fun hef I1 C1 I2 C2 => by
          have hm : muchP l r := by
            rcases hef with h | h
            · exact g1.2 h
            · exact gm (g2.2 h)
          refine Ev.step (f := fun k => (vellumlaw18_much.f k l r).bind fun t289 => if t289 = true then (some true : Option Bool) else some false) (fun k => ?_) (Ev.bind (muchB l r tl tr) (Ev.congr (fun k => by rw [decide_eq_true hm, if_pos rfl]) (Ev.now _)))
          rw [vellumlaw18_PatchThree.j2, if_pos rfl]
          congr 1
          funext t
          cases t with
          | false => rfl
          | true =>
            rw [if_pos rfl, if_pos rfl]
            show (some e).bind _ = _
            rw [Option.bind_some]
            rcases g1.1 with h | h
            · rw [if_pos h]
              show (some f).bind _ = _
              rw [Option.bind_some]
              rcases g2.1 with h2 | h2
              · rw [if_pos h2]
              · rw [if_neg (by omega)]
                show some (f == 7) = _
                rw [h2]
                rfl
            · rw [if_neg (by omega)]
              show (some e).bind _ = _
              rw [Option.bind_some, if_pos h]
              show (some f).bind _ = _
              rw [Option.bind_some]
              rcases g2.1 with h2 | h2
              · rw [if_pos h2]
              · rw [if_neg (by omega)]
                show some (f == 7) = _
                rw [h2]
                rfl
        refine Ev.congr (f := fun k => if e = 0 then vellumlaw18_PatchThree.j2 k l r (mergeP b l r).1 (mergeP b l r).2.1 e (mergeP b r l).1 (mergeP b r l).2.1 f (f != 0) else vellumlaw18_PatchThree.j2 k l r (mergeP b l r).1 (mergeP b l r).2.1 e (mergeP b r l).1 (mergeP b r l).2.1 f true) (fun k => ?_) ?_
        · rw [merge_f hb hr hl, Option.bind_some, v1, v2]
          rfl
        · by_cases h1 : e = 0
          · refine Ev.congr (fun k => if_pos h1) ?_
            by_cases h2 : f = 0
            · rw [h2]
              subst h1 h2
              have k1 : mergeP b l r = ((merged b l r).2.1, (merged b l r).2.2, 0) := by rw [m1, if_neg (by decide)]
              have k2 : mergeP b r l = ((merged b r l).2.1, (merged b r l).2.2, 0) := by rw [m2, if_neg (by decide)]
              rw [k1, k2]
              have hlen := mfold_length (rounds3 b l r) ms0
              have hlen2 := mfold_length (rounds3 b r l) ms0
              have hrn := roundsF_length (three3 b l r) (leftN (three3 b l r) (fun _ => 0)) (fun _ => 0)
              have hrn2 := roundsF_length (three3 b r l) (leftN (three3 b r l) (fun _ => 0)) (fun _ => 0)
              have q1 := left3 (three3 b l r) (pack_zero z0).1 (pack_zero z1).1 (pack_zero z2).1
              have q2 := left3 (three3 b r l) (pack_zero z0).1 (pack_zero z2).1 (pack_zero z1).1
              have w1 : (rounds3 b l r).length ≤ 12288 := Nat.le_trans hrn q1
              have w2 : (rounds3 b r l).length ≤ 12288 := Nat.le_trans hrn2 q2
              have e1 : ms0.2.1.length = 0 := rfl
              have e2 : ms0.2.2.length = 0 := rfl
              have u1 : (merged b l r).2.1.length ≤ 12288 := by show ((rounds3 b l r).foldl mstep ms0).2.1.length ≤ _; omega
              have u2 : (merged b l r).2.2.length ≤ 24576 := by show ((rounds3 b l r).foldl mstep ms0).2.2.length ≤ _; omega
              have u3 : (merged b r l).2.2.length ≤ 24576 := by show ((rounds3 b r l).foldl mstep ms0).2.2.length ≤ _; omega
              refine Ev.step (f := fun k => vellumlaw18_PatchThree.l0 k (merged b l r).2.1 (merged b l r).2.2 (merged b r l).2.1 (merged b r l).2.2 false 0) (fun k => by rw [vellumlaw18_PatchThree.j2]; exact if_neg (by decide)) ?_
              exact conf_loop _ _ _ _ (by omega) (by omega) (by omega) (fun h => by rw [merged_swap tb tl tr h]; exact ⟨rfl, rfl⟩) _ 0 false (Nat.zero_add _) (fun _ j _ hj => absurd hj (Nat.not_lt_zero _))
            · rw [show (f != 0) = true from bne_iff_ne.2 h2]
              exact bad2 (.inr h2) _ _ _ _
          · exact Ev.congr (fun k => if_neg h1) (bad2 (.inl h1) _ _ _ _)
      · rw [show ((packP r).2 == 0) = false from beq_eq_false_iff_ne.2 z2]
        exact bad (by unfold unlikeP; rw [if_neg (fun h => h z0), if_neg (fun h => h z1)]; exact z2)
    · exact Ev.congr (fun k => if_neg (fun h => z1 (beq_iff_eq.1 h))) (bad (by unfold unlikeP; rw [if_neg (fun h => h z0), if_pos z1]; exact z1))
  · exact Ev.congr (fun k => if_neg (fun h => z0 (beq_iff_eq.1 h))) (bad (by unfold unlikeP; rw [if_pos z0]; exact z0))
end Go.Proofs.YtkfikinjlbbibaaDoor
