/- Packed by this session's own program (wip/tools/pack.py): what the claim needs of its texts. -/
import Derived.Test.YtkfikinjlbbibaaDoorUPTx0
import Derived.Test.YtkfikinjlbbibaaDoorUPTx5
import Derived.Test.YtkfikinjlbbibaaDoorUPTx6
import Derived.Test.YtkfikinjlbbibaaDoorUPTx7
import Derived.Test.YtkfikinjlbbibaaDoorUPTx8
import Derived.Test.YtkfikinjlbbibaaDoorUPTx9
import Derived.Test.YtkfikinjlbbibaaDoorUMrgE
namespace Go.Proofs.YtkfikinjlbbibaaDoor.PT
open Go.RowKit Go.Proofs.YtkfikinjlbbibaaDoorW.PrintWords Go.Proofs.YtkfikinjlbbibaaDoorW.PrintLast Go.Proofs.YtkfikinjlbbibaaDoorW.PrintMore
attribute [local go_sem] max2_int min2_int max_two min_two max_three min_three max_four min_four
set_option linter.unusedVariables false
set_option linter.unusedSimpArgs false
mutual
def vellumlaw18_PatchThree.j0 : Nat → List (S27) → List (S27) → List (S27) → Bool → Option (Bool)
  | 0, _, _, _, _ => none
  | k + 1, x0, x1, x2, x36 => if x36 = true then ((vellumlaw18_twins.f k x0).bind fun t231 => ((vellumlaw18_twins.f k x1).bind fun t234 => ((vellumlaw18_twins.f k x2).bind fun t237 => ((patch_Merge.f t231 t234 t237).bind fun bt240 => ((vellumlaw18_num.f bt240.2.2).bind fun t247 => (if t247 = 0 then (some false) else ((vellumlaw18_num.f bt240.2.2).bind fun t248 => ((vellumlaw18_unlike.f k x0 x1 x2).bind fun t249 => (some (t248 == t249)))))))))) else ((vellumlaw18_all.f k x0 x0 x1 x1).bind fun t250 => (if t250 = true then ((vellumlaw18_all.f k x0 x1 x0 x1).bind fun t251 => (if t251 = true then ((vellumlaw18_all.f k x0 x1 x1 x1).bind fun t252 => (if t252 = true then ((vellumlaw18_all.f k x0 x0 x0 x0).bind fun t253 => (if t253 = true then ((vellumlaw18_all.f k ([] : List (S27)) x2 ([] : List (S27)) x2).bind fun t254 => (vellumlaw18_PatchThree.j1 k x0 x1 x2 (!t254))) else (vellumlaw18_PatchThree.j1 k x0 x1 x2 true))) else (vellumlaw18_PatchThree.j1 k x0 x1 x2 true))) else (vellumlaw18_PatchThree.j1 k x0 x1 x2 true))) else (vellumlaw18_PatchThree.j1 k x0 x1 x2 true)))
def vellumlaw18_PatchThree.j1 : Nat → List (S27) → List (S27) → List (S27) → Bool → Option (Bool)
  | 0, _, _, _, _ => none
  | k + 1, x0, x1, x2, x95 => if x95 = true then (some false) else ((vellumlaw18_twins.f k x0).bind fun t255 => ((vellumlaw18_twins.f k x1).bind fun t258 => ((vellumlaw18_twins.f k x2).bind fun t261 => ((patch_Merge.f t255 t258 t261).bind fun bt264 => ((vellumlaw18_twins.f k x0).bind fun t271 => ((vellumlaw18_twins.f k x2).bind fun t274 => ((vellumlaw18_twins.f k x1).bind fun t277 => ((patch_Merge.f t271 t274 t277).bind fun bt280 => ((vellumlaw18_num.f bt264.2.2).bind fun t287 => (if t287 = 0 then ((vellumlaw18_num.f bt280.2.2).bind fun t288 => (vellumlaw18_PatchThree.j2 k x1 x2 bt264.1 bt264.2.1 bt264.2.2 bt280.1 bt280.2.1 bt280.2.2 (t288 != 0))) else (vellumlaw18_PatchThree.j2 k x1 x2 bt264.1 bt264.2.1 bt264.2.2 bt280.1 bt280.2.1 bt280.2.2 true)))))))))))
def vellumlaw18_PatchThree.j2 : Nat → List (S27) → List (S27) → List (S27) → List (S38) → Int → List (S27) → List (S38) → Int → Bool → Option (Bool)
  | 0, _, _, _, _, _, _, _, _, _ => none
  | k + 1, x1, x2, x10, x11, x12, x13, x14, x15, x125 => if x125 = true then ((vellumlaw18_much.f k x1 x2).bind fun t289 => (if t289 = true then ((vellumlaw18_num.f x12).bind fun t290 => (if t290 = 0 then ((vellumlaw18_num.f x15).bind fun t291 => (if t291 = 0 then (some true) else ((vellumlaw18_num.f x15).bind fun t292 => (some (t292 == 7))))) else ((vellumlaw18_num.f x12).bind fun t293 => (if t293 = 7 then ((vellumlaw18_num.f x15).bind fun t294 => (if t294 = 0 then (some true) else ((vellumlaw18_num.f x15).bind fun t295 => (some (t295 == 7))))) else (some false))))) else (some false))) else (vellumlaw18_PatchThree.l0 k x10 x11 x13 x14 false 0)
def vellumlaw18_PatchThree.l0 : Nat → List (S27) → List (S38) → List (S27) → List (S38) → Bool → Int → Option (Bool)
  | 0, _, _, _, _, _, _ => none
  | k + 1, x10, x11, x13, x14, x16, x17 => if x17 < (x11.length : Int) then (if x16 = true then (vellumlaw18_PatchThree.l0 k x10 x11 x13 x14 true (wrap64 (x17 + 1))) else (if 0 ≤ x17 then (vellumlaw18_PatchThree.l0 k x10 x11 x13 x14 (((rd_T38 x11 x17).f0) == 1) (wrap64 (x17 + 1))) else (none))) else (if x16 = true then (some true) else ((vellumlaw18_sameItems.f k x10 x13).bind fun t297 => (if t297 = true then ((vellumlaw18_sameConflicts.f k x11 x14).bind fun t298 => (some t298)) else (some false))))
end
def vellumlaw18_PatchThree.f (k : Nat) (l0 : List (S27)) (l1 : List (S27)) (l2 : List (S27)) : Option (Bool) := (vellumlaw18_all.f k ([] : List (S27)) ([] : List (S27)) (([(⟨2, (⟨#[47, 100]⟩ : ByteArray), (⟨#[]⟩ : ByteArray), 0, ([] : List (S73)), ([] : List Int)⟩ : S27)] : List (S27))) (([(⟨2, (⟨#[47, 100]⟩ : ByteArray), (⟨#[]⟩ : ByteArray), 0, ([] : List (S73)), ([] : List Int)⟩ : S27)] : List (S27)))).bind fun t227 => (if t227 = true then ((vellumlaw18_isTree.f k l0).bind fun t228 => (if t228 = true then ((vellumlaw18_isTree.f k l1).bind fun t229 => (if t229 = true then ((vellumlaw18_isTree.f k l2).bind fun t230 => (vellumlaw18_PatchThree.j0 k l0 l1 l2 (!t230))) else (vellumlaw18_PatchThree.j0 k l0 l1 l2 true))) else (vellumlaw18_PatchThree.j0 k l0 l1 l2 true))) else (some false))
theorem vellumlaw18_PatchThree.mono_l : ∀ k, (∀ y0 y1 y2 y3, LeO (vellumlaw18_PatchThree.j0 k y0 y1 y2 y3) (vellumlaw18_PatchThree.j0 (k + 1) y0 y1 y2 y3)) ∧ (∀ y0 y1 y2 y3, LeO (vellumlaw18_PatchThree.j1 k y0 y1 y2 y3) (vellumlaw18_PatchThree.j1 (k + 1) y0 y1 y2 y3)) ∧ (∀ y0 y1 y2 y3 y4 y5 y6 y7 y8, LeO (vellumlaw18_PatchThree.j2 k y0 y1 y2 y3 y4 y5 y6 y7 y8) (vellumlaw18_PatchThree.j2 (k + 1) y0 y1 y2 y3 y4 y5 y6 y7 y8)) ∧ (∀ y0 y1 y2 y3 y4 y5, LeO (vellumlaw18_PatchThree.l0 k y0 y1 y2 y3 y4 y5) (vellumlaw18_PatchThree.l0 (k + 1) y0 y1 y2 y3 y4 y5))
  | 0 => ⟨fun _ _ _ _ r h => by simp [vellumlaw18_PatchThree.j0] at h, fun _ _ _ _ r h => by simp [vellumlaw18_PatchThree.j1] at h, fun _ _ _ _ _ _ _ _ _ r h => by simp [vellumlaw18_PatchThree.j2] at h, fun _ _ _ _ _ _ r h => by simp [vellumlaw18_PatchThree.l0] at h⟩
  | k + 1 => by
    obtain ⟨ih0, ih1, ih2, ih3⟩ := vellumlaw18_PatchThree.mono_l k
    refine ⟨?_, ?_, ?_, ?_⟩
    · intro y0 y1 y2 y3
      unfold vellumlaw18_PatchThree.j0
      repeat' first
      | (with_reducible exact ih0 _ _ _ _)
      | (with_reducible exact ih1 _ _ _ _)
      | (with_reducible exact ih2 _ _ _ _ _ _ _ _ _)
      | (with_reducible exact ih3 _ _ _ _ _ _)
      | (with_reducible exact vellumlaw18_all.mono _ _ _ _ _)
      | (with_reducible exact vellumlaw18_isTree.mono _ _)
      | (with_reducible exact vellumlaw18_much.mono _ _ _)
      | (with_reducible exact vellumlaw18_sameConflicts.mono _ _ _)
      | (with_reducible exact vellumlaw18_sameItems.mono _ _ _)
      | (with_reducible exact vellumlaw18_twins.mono _ _)
      | (with_reducible exact vellumlaw18_unlike.mono _ _ _ _)
      | (with_reducible exact LeO.refl _)
      | (with_reducible exact LeO.none _)
      | (with_reducible refine LeO.ite ?_ ?_)
      | (with_reducible refine LeO.bind ?_ (fun _ => ?_))
      | exact ih0 _ _ _ _
      | exact ih1 _ _ _ _
      | exact ih2 _ _ _ _ _ _ _ _ _
      | exact ih3 _ _ _ _ _ _
      | exact vellumlaw18_all.mono _ _ _ _ _
      | exact vellumlaw18_isTree.mono _ _
      | exact vellumlaw18_much.mono _ _ _
      | exact vellumlaw18_sameConflicts.mono _ _ _
      | exact vellumlaw18_sameItems.mono _ _ _
      | exact vellumlaw18_twins.mono _ _
      | exact vellumlaw18_unlike.mono _ _ _ _
      | exact LeO.none _
      | refine LeO.ite ?_ ?_
      | refine LeO.bind ?_ (fun _ => ?_)
    · intro y0 y1 y2 y3
      unfold vellumlaw18_PatchThree.j1
      repeat' first
      | (with_reducible exact ih0 _ _ _ _)
      | (with_reducible exact ih1 _ _ _ _)
      | (with_reducible exact ih2 _ _ _ _ _ _ _ _ _)
      | (with_reducible exact ih3 _ _ _ _ _ _)
      | (with_reducible exact vellumlaw18_all.mono _ _ _ _ _)
      | (with_reducible exact vellumlaw18_isTree.mono _ _)
      | (with_reducible exact vellumlaw18_much.mono _ _ _)
      | (with_reducible exact vellumlaw18_sameConflicts.mono _ _ _)
      | (with_reducible exact vellumlaw18_sameItems.mono _ _ _)
      | (with_reducible exact vellumlaw18_twins.mono _ _)
      | (with_reducible exact vellumlaw18_unlike.mono _ _ _ _)
      | (with_reducible exact LeO.refl _)
      | (with_reducible exact LeO.none _)
      | (with_reducible refine LeO.ite ?_ ?_)
      | (with_reducible refine LeO.bind ?_ (fun _ => ?_))
      | exact ih0 _ _ _ _
      | exact ih1 _ _ _ _
      | exact ih2 _ _ _ _ _ _ _ _ _
      | exact ih3 _ _ _ _ _ _
      | exact vellumlaw18_all.mono _ _ _ _ _
      | exact vellumlaw18_isTree.mono _ _
      | exact vellumlaw18_much.mono _ _ _
      | exact vellumlaw18_sameConflicts.mono _ _ _
      | exact vellumlaw18_sameItems.mono _ _ _
      | exact vellumlaw18_twins.mono _ _
      | exact vellumlaw18_unlike.mono _ _ _ _
      | exact LeO.none _
      | refine LeO.ite ?_ ?_
      | refine LeO.bind ?_ (fun _ => ?_)
    · intro y0 y1 y2 y3 y4 y5 y6 y7 y8
      unfold vellumlaw18_PatchThree.j2
      repeat' first
      | (with_reducible exact ih0 _ _ _ _)
      | (with_reducible exact ih1 _ _ _ _)
      | (with_reducible exact ih2 _ _ _ _ _ _ _ _ _)
      | (with_reducible exact ih3 _ _ _ _ _ _)
      | (with_reducible exact vellumlaw18_all.mono _ _ _ _ _)
      | (with_reducible exact vellumlaw18_isTree.mono _ _)
      | (with_reducible exact vellumlaw18_much.mono _ _ _)
      | (with_reducible exact vellumlaw18_sameConflicts.mono _ _ _)
      | (with_reducible exact vellumlaw18_sameItems.mono _ _ _)
      | (with_reducible exact vellumlaw18_twins.mono _ _)
      | (with_reducible exact vellumlaw18_unlike.mono _ _ _ _)
      | (with_reducible exact LeO.refl _)
      | (with_reducible exact LeO.none _)
      | (with_reducible refine LeO.ite ?_ ?_)
      | (with_reducible refine LeO.bind ?_ (fun _ => ?_))
      | exact ih0 _ _ _ _
      | exact ih1 _ _ _ _
      | exact ih2 _ _ _ _ _ _ _ _ _
      | exact ih3 _ _ _ _ _ _
      | exact vellumlaw18_all.mono _ _ _ _ _
      | exact vellumlaw18_isTree.mono _ _
      | exact vellumlaw18_much.mono _ _ _
      | exact vellumlaw18_sameConflicts.mono _ _ _
      | exact vellumlaw18_sameItems.mono _ _ _
      | exact vellumlaw18_twins.mono _ _
      | exact vellumlaw18_unlike.mono _ _ _ _
      | exact LeO.none _
      | refine LeO.ite ?_ ?_
      | refine LeO.bind ?_ (fun _ => ?_)
    · intro y0 y1 y2 y3 y4 y5
      unfold vellumlaw18_PatchThree.l0
      repeat' first
      | (with_reducible exact ih0 _ _ _ _)
      | (with_reducible exact ih1 _ _ _ _)
      | (with_reducible exact ih2 _ _ _ _ _ _ _ _ _)
      | (with_reducible exact ih3 _ _ _ _ _ _)
      | (with_reducible exact vellumlaw18_all.mono _ _ _ _ _)
      | (with_reducible exact vellumlaw18_isTree.mono _ _)
      | (with_reducible exact vellumlaw18_much.mono _ _ _)
      | (with_reducible exact vellumlaw18_sameConflicts.mono _ _ _)
      | (with_reducible exact vellumlaw18_sameItems.mono _ _ _)
      | (with_reducible exact vellumlaw18_twins.mono _ _)
      | (with_reducible exact vellumlaw18_unlike.mono _ _ _ _)
      | (with_reducible exact LeO.refl _)
      | (with_reducible exact LeO.none _)
      | (with_reducible refine LeO.ite ?_ ?_)
      | (with_reducible refine LeO.bind ?_ (fun _ => ?_))
      | exact ih0 _ _ _ _
      | exact ih1 _ _ _ _
      | exact ih2 _ _ _ _ _ _ _ _ _
      | exact ih3 _ _ _ _ _ _
      | exact vellumlaw18_all.mono _ _ _ _ _
      | exact vellumlaw18_isTree.mono _ _
      | exact vellumlaw18_much.mono _ _ _
      | exact vellumlaw18_sameConflicts.mono _ _ _
      | exact vellumlaw18_sameItems.mono _ _ _
      | exact vellumlaw18_twins.mono _ _
      | exact vellumlaw18_unlike.mono _ _ _ _
      | exact LeO.none _
      | refine LeO.ite ?_ ?_
      | refine LeO.bind ?_ (fun _ => ?_)
theorem vellumlaw18_PatchThree.mono : ∀ a0 a1 a2 k, LeO (vellumlaw18_PatchThree.f k a0 a1 a2) (vellumlaw18_PatchThree.f (k + 1) a0 a1 a2) := by
  intro a0 a1 a2 k
  obtain ⟨ih0, ih1, ih2, ih3⟩ := vellumlaw18_PatchThree.mono_l k
  unfold vellumlaw18_PatchThree.f
  repeat' first
      | (with_reducible exact ih0 _ _ _ _)
      | (with_reducible exact ih1 _ _ _ _)
      | (with_reducible exact ih2 _ _ _ _ _ _ _ _ _)
      | (with_reducible exact ih3 _ _ _ _ _ _)
      | (with_reducible exact vellumlaw18_all.mono _ _ _ _ _)
      | (with_reducible exact vellumlaw18_isTree.mono _ _)
      | (with_reducible exact vellumlaw18_much.mono _ _ _)
      | (with_reducible exact vellumlaw18_sameConflicts.mono _ _ _)
      | (with_reducible exact vellumlaw18_sameItems.mono _ _ _)
      | (with_reducible exact vellumlaw18_twins.mono _ _)
      | (with_reducible exact vellumlaw18_unlike.mono _ _ _ _)
      | (with_reducible exact LeO.refl _)
      | (with_reducible exact LeO.none _)
      | (with_reducible refine LeO.ite ?_ ?_)
      | (with_reducible refine LeO.bind ?_ (fun _ => ?_))
      | exact ih0 _ _ _ _
      | exact ih1 _ _ _ _
      | exact ih2 _ _ _ _ _ _ _ _ _
      | exact ih3 _ _ _ _ _ _
      | exact vellumlaw18_all.mono _ _ _ _ _
      | exact vellumlaw18_isTree.mono _ _
      | exact vellumlaw18_much.mono _ _ _
      | exact vellumlaw18_sameConflicts.mono _ _ _
      | exact vellumlaw18_sameItems.mono _ _ _
      | exact vellumlaw18_twins.mono _ _
      | exact vellumlaw18_unlike.mono _ _ _ _
      | exact LeO.none _
      | refine LeO.ite ?_ ?_
      | refine LeO.bind ?_ (fun _ => ?_)
set_option maxHeartbeats 8000000 in
set_option maxRecDepth 100000 in
theorem vellumlaw18_PatchThree.calls (k : Nat) (A0 : Option Addr) (c0 : Nat) (l0 : List (S27)) (A1 : Option Addr) (c1 : Nat) (l1 : List (S27)) (A2 : Option Addr) (c2 : Nat) (l2 : List (S27)) (r : Bool) (w : World) (hr0 : Kd.C k27 w A0 l0.length l0) (hc0 : l0.length ≤ c0) (hr1 : Kd.C k27 w A1 l1.length l1) (hc1 : l1.length ≤ c1) (hr2 : Kd.C k27 w A2 l2.length l2) (hc2 : l2.length ≤ c2) (h : vellumlaw18_PatchThree.f k l0 l1 l2 = some r) :
    Calls Tryd.prog 3 #[.slice A0 l0.length c0, .slice A1 l1.length c1, .slice A2 l2.length c2] w fun e w' => e = .returned (.bool r) ∧ Below w.heap.size w w' := by
  have hu27 := Tryd.underlying27
  have HR0 := Aside0.mk hr0
  have HC0 := Aside0.mk hc0
  clear hr0 hc0
  have HR1 := Aside0.mk hr1
  have HC1 := Aside0.mk hc1
  clear hr1 hc1
  have HR2 := Aside0.mk hr2
  have HC2 := Aside0.mk hc2
  clear hr2 hc2
  have HB := Aside0.mk (Below.refl w.heap.size w)
  have H : ((vellumlaw18_all.f k ([] : List (S27)) ([] : List (S27)) (([(⟨2, (⟨#[47, 100]⟩ : ByteArray), (⟨#[]⟩ : ByteArray), 0, ([] : List (S73)), ([] : List Int)⟩ : S27)] : List (S27))) (([(⟨2, (⟨#[47, 100]⟩ : ByteArray), (⟨#[]⟩ : ByteArray), 0, ([] : List (S73)), ([] : List Int)⟩ : S27)] : List (S27)))).bind fun t227 => (if t227 = true then ((vellumlaw18_isTree.f k l0).bind fun t228 => (if t228 = true then ((vellumlaw18_isTree.f k l1).bind fun t229 => (if t229 = true then ((vellumlaw18_isTree.f k l2).bind fun t230 => (vellumlaw18_PatchThree.j0 k l0 l1 l2 (!t230))) else (vellumlaw18_PatchThree.j0 k l0 l1 l2 true))) else (vellumlaw18_PatchThree.j0 k l0 l1 l2 true))) else (some false))) = some r := h
  clear h
  obtain ⟨y221, hy221⟩ : ∃ y_ : List (S27), y_ = (([(⟨2, (⟨#[47, 100]⟩ : ByteArray), (⟨#[]⟩ : ByteArray), 0, ([] : List (S73)), ([] : List Int)⟩ : S27)] : List (S27))) := ⟨_, rfl⟩
  replace H : ((vellumlaw18_all.f k ([] : List (S27)) ([] : List (S27)) y221 (([(⟨2, (⟨#[47, 100]⟩ : ByteArray), (⟨#[]⟩ : ByteArray), 0, ([] : List (S73)), ([] : List Int)⟩ : S27)] : List (S27)))).bind fun t227 => (if t227 = true then ((vellumlaw18_isTree.f k l0).bind fun t228 => (if t228 = true then ((vellumlaw18_isTree.f k l1).bind fun t229 => (if t229 = true then ((vellumlaw18_isTree.f k l2).bind fun t230 => (vellumlaw18_PatchThree.j0 k l0 l1 l2 (!t230))) else (vellumlaw18_PatchThree.j0 k l0 l1 l2 true))) else (vellumlaw18_PatchThree.j0 k l0 l1 l2 true))) else (some false))) = some r := by first | (rw [hy221]; with_reducible exact H) | (have H2_ := (Option.bind_some _ _).symm.trans H; rw [hy221]; with_reducible exact H2_) | (have H2_ := (Option.bind_some _ _).symm.trans H; with_reducible exact H2_) | with_reducible exact H | (rw [hy221]; exact H) | exact H
  have Ny221 := Aside0.mk hy221
  clear hy221
  obtain ⟨y224, hy224⟩ : ∃ y_ : List (S27), y_ = (([(⟨2, (⟨#[47, 100]⟩ : ByteArray), (⟨#[]⟩ : ByteArray), 0, ([] : List (S73)), ([] : List Int)⟩ : S27)] : List (S27))) := ⟨_, rfl⟩
  replace H : ((vellumlaw18_all.f k ([] : List (S27)) ([] : List (S27)) y221 y224).bind fun t227 => (if t227 = true then ((vellumlaw18_isTree.f k l0).bind fun t228 => (if t228 = true then ((vellumlaw18_isTree.f k l1).bind fun t229 => (if t229 = true then ((vellumlaw18_isTree.f k l2).bind fun t230 => (vellumlaw18_PatchThree.j0 k l0 l1 l2 (!t230))) else (vellumlaw18_PatchThree.j0 k l0 l1 l2 true))) else (vellumlaw18_PatchThree.j0 k l0 l1 l2 true))) else (some false))) = some r := by first | (rw [hy224]; with_reducible exact H) | (have H2_ := (Option.bind_some _ _).symm.trans H; rw [hy224]; with_reducible exact H2_) | (have H2_ := (Option.bind_some _ _).symm.trans H; with_reducible exact H2_) | with_reducible exact H | (rw [hy224]; exact H) | exact H
  have Ny224 := Aside0.mk hy224
  clear hy224
  replace H := Option.bind_eq_some_iff.mp H
  obtain ⟨t227, A40, H⟩ := H
  replace H : (if t227 = true then ((vellumlaw18_isTree.f k l0).bind fun t228 => (if t228 = true then ((vellumlaw18_isTree.f k l1).bind fun t229 => (if t229 = true then ((vellumlaw18_isTree.f k l2).bind fun t230 => (vellumlaw18_PatchThree.j0 k l0 l1 l2 (!t230))) else (vellumlaw18_PatchThree.j0 k l0 l1 l2 true))) else (vellumlaw18_PatchThree.j0 k l0 l1 l2 true))) else (some false)) = some r := H
  have A4 := Aside0.mk A40
  clear A40
  by_cases c5 : t227 = true
  · subst c5
    have H1 : ((vellumlaw18_isTree.f k l0).bind fun t228 => (if t228 = true then ((vellumlaw18_isTree.f k l1).bind fun t229 => (if t229 = true then ((vellumlaw18_isTree.f k l2).bind fun t230 => (vellumlaw18_PatchThree.j0 k l0 l1 l2 (!t230))) else (vellumlaw18_PatchThree.j0 k l0 l1 l2 true))) else (vellumlaw18_PatchThree.j0 k l0 l1 l2 true))) = some r := by rw [if_pos rfl] at H; exact H
    clear H
    have H := H1
    clear H1
    have HC6 := Aside0.mk H
    clear H
    go_enter Tryd.func3, Tryd.ntmps3
    go_upto_region 3 with (first | ((with_reducible refine gate_dst (N := 19) rfl ?_); refine Kd.S_lit k27 _ 27 ?hg (N := 19) ?hd (xs := ([(⟨2, (⟨#[47, 100]⟩ : ByteArray), (⟨#[]⟩ : ByteArray), 0, ([] : List (S73)), ([] : List Int)⟩ : S27)] : List (S27))) (inner := [.int .i64 2, .string (⟨#[47, 100]⟩ : ByteArray), .string (⟨#[]⟩ : ByteArray), .int .i64 0, .slice none 0 0, .slice none 0 0]) (ok := fun _ => True) (okp := fun _ => True) ?hr ?hp (fun _ hk => hk) trivial (Below.refl _ _) (Nat.le_refl _) (by simp) ?_; (case hd => rfl); (case hg => rfl); (case hr => first | (go_simp; done) | (go_simp; rfl)); (case hp => exact (Reps.c6 (show Kd.M k27 _ _ _ (⟨2, (⟨#[47, 100]⟩ : ByteArray), (⟨#[]⟩ : ByteArray), 0, ([] : List (S73)), ([] : List Int)⟩ : S27) [.int .i64 2, .string (⟨#[47, 100]⟩ : ByteArray), .string (⟨#[]⟩ : ByteArray), .int .i64 0, .slice none 0 0, .slice none 0 0] from (k27_mkM _ _ _ (⟨2, (⟨#[47, 100]⟩ : ByteArray), (⟨#[]⟩ : ByteArray), 0, ([] : List (S73)), ([] : List Int)⟩ : S27) (Kd.R_nil _ _ _ _ _) (Kd.R_nil _ _ _ _ _))) (Reps.none _ _))); intro v222 w7 ho8 hb hg_ hnew_; clear hg_ hnew_; (first | rw [← Ny221.out] at ho8 | (simp only [Int.reduceToNat] at ho8; rw [← Ny221.out] at ho8)); have n0_ := Aside0.mk (Kd.S_lower ho8 (below_size (by repeat (first | (with_reducible first | exact HB.out | apply below_alloc | apply pw_below_drewN | apply below_drew1) | exact HB.out)))); have n1_ := Aside0.mk (below_step (by repeat (first | (with_reducible first | exact HB.out | apply below_alloc | apply pw_below_drewN | apply below_drew1) | exact HB.out)) hb); clear HB; have HO223 := n0_; have HB := n1_; clear n0_ n1_; clear hb ho8) | ((with_reducible refine gate_dst (N := 21) rfl ?_); refine Kd.S_lit k27 _ 27 ?hg (N := 21) ?hd (xs := ([(⟨2, (⟨#[47, 100]⟩ : ByteArray), (⟨#[]⟩ : ByteArray), 0, ([] : List (S73)), ([] : List Int)⟩ : S27)] : List (S27))) (inner := [.int .i64 2, .string (⟨#[47, 100]⟩ : ByteArray), .string (⟨#[]⟩ : ByteArray), .int .i64 0, .slice none 0 0, .slice none 0 0]) (ok := fun _ => True) (okp := fun _ => True) ?hr ?hp (fun _ hk => hk) trivial (Below.refl _ _) (Nat.le_refl _) (by simp) ?_; (case hd => rfl); (case hg => rfl); (case hr => first | (go_simp; done) | (go_simp; rfl)); (case hp => exact (Reps.c6 (show Kd.M k27 _ _ _ (⟨2, (⟨#[47, 100]⟩ : ByteArray), (⟨#[]⟩ : ByteArray), 0, ([] : List (S73)), ([] : List Int)⟩ : S27) [.int .i64 2, .string (⟨#[47, 100]⟩ : ByteArray), .string (⟨#[]⟩ : ByteArray), .int .i64 0, .slice none 0 0, .slice none 0 0] from (k27_mkM _ _ _ (⟨2, (⟨#[47, 100]⟩ : ByteArray), (⟨#[]⟩ : ByteArray), 0, ([] : List (S73)), ([] : List Int)⟩ : S27) (Kd.R_nil _ _ _ _ _) (Kd.R_nil _ _ _ _ _))) (Reps.none _ _))); intro v225 w9 ho10 hb hg_ hnew_; clear hg_ hnew_; (first | rw [← Ny224.out] at ho10 | (simp only [Int.reduceToNat] at ho10; rw [← Ny224.out] at ho10)); have n0_ := Aside0.mk (Kd.S_elder' (by (with_reducible repeat (first | apply Kd.S_alloc | apply Kd.S_drewN | apply Kd.S_drew)); exact HO223.out) (Kd.S_base ho10) hb); have n1_ := Aside0.mk (Kd.S_lower (Kd.S_new' ho10 (Kd.S_lt (by (with_reducible repeat (first | apply Kd.S_alloc | apply Kd.S_drewN | apply Kd.S_drew)); exact HO223.out))) (below_size (by repeat (first | (with_reducible first | exact HB.out | apply below_alloc | apply pw_below_drewN | apply below_drew1) | exact HB.out)))); have n2_ := Aside0.mk (below_step (by repeat (first | (with_reducible first | exact HB.out | apply below_alloc | apply pw_below_drewN | apply below_drew1) | exact HB.out)) hb); clear HO223; clear HB; have HO223 := n0_; have HO226 := n1_; have HB := n2_; clear n0_ n1_ n2_; clear hb ho10; obtain ⟨Ao11, co11, eo11⟩ := Kd.S_slice HO223.out; subst eo11; obtain ⟨Ao12, co12, eo12⟩ := Kd.S_slice HO226.out; subst eo12) | ((with_reducible refine gate_callee (f := 5) rfl ?_); refine goesL_ (some 22) rfl rfl Tryd.func5 (by kernel_rfl) rfl #[.slice none 0 0, .slice none 0 0, .slice Ao11 y221.length co11, .slice Ao12 y224.length co12] rfl (by (try simp only [List.map_toArray, List.map_cons, List.map_nil]); first | done | rfl | (simp only [List.length_drop, List.length_take]; rfl)) ?_; (refine (vellumlaw18_all.calls k _ _ ([] : List (S27)) _ _ ([] : List (S27)) _ _ y221 _ _ y224 true _ ?side1 ?side2 ?side3 ?side4 ?side5 ?side6 ?side7 ?side8 A4.out).mono ?_); (case side1 => exact Kd.C_nil _ _); (case side2 => exact Nat.le_refl _); (case side3 => exact Kd.C_nil _ _); (case side4 => exact Nat.le_refl _); (case side5 => repeat (first | exact (Kd.S_reads' HO223.out).2.2 | (with_reducible refine Kd.C_alloc ?_ _) | (with_reducible refine Kd.C_drewN ?_ _) | (with_reducible refine Kd.C_drew ?_))); (case side6 => exact (Kd.S_reads' HO223.out).2.1); (case side7 => repeat (first | exact (Kd.S_reads' HO226.out).2.2 | (with_reducible refine Kd.C_alloc ?_ _) | (with_reducible refine Kd.C_drewN ?_ _) | (with_reducible refine Kd.C_drew ?_))); (case side8 => exact (Kd.S_reads' HO226.out).2.1); rintro e w13 ⟨rfl, hb⟩; refine ⟨_, rfl, ?_⟩; have n0_ := Aside0.mk (Kd.S_below (by (with_reducible repeat (first | apply Kd.S_alloc | apply Kd.S_drewN | apply Kd.S_drew)); exact HO223.out) hb); have n1_ := Aside0.mk (Kd.S_below (by (with_reducible repeat (first | apply Kd.S_alloc | apply Kd.S_drewN | apply Kd.S_drew)); exact HO226.out) hb); have n2_ := Aside0.mk (below_step (by repeat (first | (with_reducible first | exact HB.out | apply below_alloc | apply pw_below_drewN | apply below_drew1) | exact HB.out)) hb); clear HO223; clear HO226; clear HB; have HO223 := n0_; have HO226 := n1_; have HB := n2_; clear n0_ n1_ n2_; (try clear hb); (try clear hb2); (try clear hk); (try clear hi)))
    (try simp only [Act.put, List.setIfInBounds_toArray, List.set_cons_zero, List.set_cons_succ])
    go_cut [36] (fun v36 wc => ∃ (kq : Nat) (x36_5 : Bool), v36 = .bool x36_5 ∧ Aside0 (vellumlaw18_PatchThree.j0 kq l0 l1 l2 x36_5 = some r) ∧ Aside0 (kq ≤ k) ∧ Aside0 (Below w.heap.size w wc))
    case first =>
      have H := HC6.out
      clear HC6
      replace H := Option.bind_eq_some_iff.mp H
      obtain ⟨t228, A140, H⟩ := H
      replace H : (if t228 = true then ((vellumlaw18_isTree.f k l1).bind fun t229 => (if t229 = true then ((vellumlaw18_isTree.f k l2).bind fun t230 => (vellumlaw18_PatchThree.j0 k l0 l1 l2 (!t230))) else (vellumlaw18_PatchThree.j0 k l0 l1 l2 true))) else (vellumlaw18_PatchThree.j0 k l0 l1 l2 true)) = some r := H
      have A14 := Aside0.mk A140
      clear A140
      by_cases c15 : t228 = true
      · subst c15
        have H1 : ((vellumlaw18_isTree.f k l1).bind fun t229 => (if t229 = true then ((vellumlaw18_isTree.f k l2).bind fun t230 => (vellumlaw18_PatchThree.j0 k l0 l1 l2 (!t230))) else (vellumlaw18_PatchThree.j0 k l0 l1 l2 true))) = some r := by rw [if_pos rfl] at H; exact H
        clear H
        have H := H1
        clear H1
        replace H := Option.bind_eq_some_iff.mp H
        obtain ⟨t229, A160, H⟩ := H
        replace H : (if t229 = true then ((vellumlaw18_isTree.f k l2).bind fun t230 => (vellumlaw18_PatchThree.j0 k l0 l1 l2 (!t230))) else (vellumlaw18_PatchThree.j0 k l0 l1 l2 true)) = some r := H
        have A16 := Aside0.mk A160
        clear A160
        by_cases c17 : t229 = true
        · subst c17
          have H1 : ((vellumlaw18_isTree.f k l2).bind fun t230 => (vellumlaw18_PatchThree.j0 k l0 l1 l2 (!t230))) = some r := by rw [if_pos rfl] at H; exact H
          clear H
          have H := H1
          clear H1
          replace H := Option.bind_eq_some_iff.mp H
          obtain ⟨t230, A180, H⟩ := H
          replace H : (vellumlaw18_PatchThree.j0 k l0 l1 l2 (!t230)) = some r := H
          have A18 := Aside0.mk A180
          clear A180
          have H' := Aside0.mk H
          clear H
          go_wp2_with (first | ((with_reducible refine gate_callee (f := 6) rfl ?_); refine goesL_ (some 25) rfl rfl Tryd.func6 (by kernel_rfl) rfl #[.slice A0 l0.length c0] rfl (by (try simp only [List.map_toArray, List.map_cons, List.map_nil]); first | done | rfl | (simp only [List.length_drop, List.length_take]; rfl)) ?_; (with_reducible refine (vellumlaw18_isTree.calls k _ _ l0 true _ ?side1 ?side2 A14.out).mono ?_); (case side1 => repeat (first | exact (Kd.C_below HR0.out HB.out) | (with_reducible refine Kd.C_alloc ?_ _) | (with_reducible refine Kd.C_drewN ?_ _) | (with_reducible refine Kd.C_drew ?_))); (case side2 => exact HC0.out); rintro e w19 ⟨rfl, hb⟩; refine ⟨_, rfl, ?_⟩; have n0_ := Aside0.mk (Kd.S_below (by (with_reducible repeat (first | apply Kd.S_alloc | apply Kd.S_drewN | apply Kd.S_drew)); exact HO223.out) hb); have n1_ := Aside0.mk (Kd.S_below (by (with_reducible repeat (first | apply Kd.S_alloc | apply Kd.S_drewN | apply Kd.S_drew)); exact HO226.out) hb); have n2_ := Aside0.mk (below_step (by repeat (first | (with_reducible first | exact HB.out | apply below_alloc | apply pw_below_drewN | apply below_drew1) | exact HB.out)) hb); clear HO223; clear HO226; clear HB; have HO223 := n0_; have HO226 := n1_; have HB := n2_; clear n0_ n1_ n2_; (try clear hb); (try clear hb2); (try clear hk); (try clear hi)) | (go_at_call 6; (with_reducible refine (vellumlaw18_isTree.calls k _ _ l1 true _ ?side1 ?side2 A16.out).mono ?_); (case side1 => repeat (first | exact (Kd.C_below HR1.out HB.out) | (with_reducible refine Kd.C_alloc ?_ _) | (with_reducible refine Kd.C_drewN ?_ _) | (with_reducible refine Kd.C_drew ?_))); (case side2 => exact HC1.out); rintro e w20 ⟨rfl, hb⟩; have n0_ := Aside0.mk (Kd.S_below (by (with_reducible repeat (first | apply Kd.S_alloc | apply Kd.S_drewN | apply Kd.S_drew)); exact HO223.out) hb); have n1_ := Aside0.mk (Kd.S_below (by (with_reducible repeat (first | apply Kd.S_alloc | apply Kd.S_drewN | apply Kd.S_drew)); exact HO226.out) hb); have n2_ := Aside0.mk (below_step (by repeat (first | (with_reducible first | exact HB.out | apply below_alloc | apply pw_below_drewN | apply below_drew1) | exact HB.out)) hb); clear HO223; clear HO226; clear HB; have HO223 := n0_; have HO226 := n1_; have HB := n2_; clear n0_ n1_ n2_; (try clear hb); (try clear hb2); (try clear hk); (try clear hi)) | (go_at_call 6; (with_reducible refine (vellumlaw18_isTree.calls k _ _ l2 t230 _ ?side1 ?side2 A18.out).mono ?_); (case side1 => repeat (first | exact (Kd.C_below HR2.out HB.out) | (with_reducible refine Kd.C_alloc ?_ _) | (with_reducible refine Kd.C_drewN ?_ _) | (with_reducible refine Kd.C_drew ?_))); (case side2 => exact HC2.out); rintro e w21 ⟨rfl, hb⟩; have n0_ := Aside0.mk (Kd.S_below (by (with_reducible repeat (first | apply Kd.S_alloc | apply Kd.S_drewN | apply Kd.S_drew)); exact HO223.out) hb); have n1_ := Aside0.mk (Kd.S_below (by (with_reducible repeat (first | apply Kd.S_alloc | apply Kd.S_drewN | apply Kd.S_drew)); exact HO226.out) hb); have n2_ := Aside0.mk (below_step (by repeat (first | (with_reducible first | exact HB.out | apply below_alloc | apply pw_below_drewN | apply below_drew1) | exact HB.out)) hb); clear HO223; clear HO226; clear HB; have HO223 := n0_; have HO226 := n1_; have HB := n2_; clear n0_ n1_ n2_; (try clear hb); (try clear hb2); (try clear hk); (try clear hi)))
          go_meet
          case rel => exact ⟨_, (!t230), (by first | rfl | (simp; done) | (simp [*]; done)), H', ⟨by first | omega | exact Nat.le_refl _⟩, ⟨by repeat (first | (with_reducible first | exact HB.out | apply below_alloc | apply pw_below_drewN | apply below_drew1) | exact HB.out)⟩⟩
        · replace c17 := Bool.eq_false_iff.mpr c17
          subst c17
          have H1 : (vellumlaw18_PatchThree.j0 k l0 l1 l2 true) = some r := by rw [if_neg (show ¬ (false = true) by decide)] at H; exact H
          clear H
          have H := H1
          clear H1
          have H' := Aside0.mk H
          clear H
          go_wp2_with (first | ((with_reducible refine gate_callee (f := 6) rfl ?_); refine goesL_ (some 25) rfl rfl Tryd.func6 (by kernel_rfl) rfl #[.slice A0 l0.length c0] rfl (by (try simp only [List.map_toArray, List.map_cons, List.map_nil]); first | done | rfl | (simp only [List.length_drop, List.length_take]; rfl)) ?_; (with_reducible refine (vellumlaw18_isTree.calls k _ _ l0 true _ ?side1 ?side2 A14.out).mono ?_); (case side1 => repeat (first | exact (Kd.C_below HR0.out HB.out) | (with_reducible refine Kd.C_alloc ?_ _) | (with_reducible refine Kd.C_drewN ?_ _) | (with_reducible refine Kd.C_drew ?_))); (case side2 => exact HC0.out); rintro e w22 ⟨rfl, hb⟩; refine ⟨_, rfl, ?_⟩; have n0_ := Aside0.mk (Kd.S_below (by (with_reducible repeat (first | apply Kd.S_alloc | apply Kd.S_drewN | apply Kd.S_drew)); exact HO223.out) hb); have n1_ := Aside0.mk (Kd.S_below (by (with_reducible repeat (first | apply Kd.S_alloc | apply Kd.S_drewN | apply Kd.S_drew)); exact HO226.out) hb); have n2_ := Aside0.mk (below_step (by repeat (first | (with_reducible first | exact HB.out | apply below_alloc | apply pw_below_drewN | apply below_drew1) | exact HB.out)) hb); clear HO223; clear HO226; clear HB; have HO223 := n0_; have HO226 := n1_; have HB := n2_; clear n0_ n1_ n2_; (try clear hb); (try clear hb2); (try clear hk); (try clear hi)) | (go_at_call 6; (with_reducible refine (vellumlaw18_isTree.calls k _ _ l1 false _ ?side1 ?side2 A16.out).mono ?_); (case side1 => repeat (first | exact (Kd.C_below HR1.out HB.out) | (with_reducible refine Kd.C_alloc ?_ _) | (with_reducible refine Kd.C_drewN ?_ _) | (with_reducible refine Kd.C_drew ?_))); (case side2 => exact HC1.out); rintro e w23 ⟨rfl, hb⟩; have n0_ := Aside0.mk (Kd.S_below (by (with_reducible repeat (first | apply Kd.S_alloc | apply Kd.S_drewN | apply Kd.S_drew)); exact HO223.out) hb); have n1_ := Aside0.mk (Kd.S_below (by (with_reducible repeat (first | apply Kd.S_alloc | apply Kd.S_drewN | apply Kd.S_drew)); exact HO226.out) hb); have n2_ := Aside0.mk (below_step (by repeat (first | (with_reducible first | exact HB.out | apply below_alloc | apply pw_below_drewN | apply below_drew1) | exact HB.out)) hb); clear HO223; clear HO226; clear HB; have HO223 := n0_; have HO226 := n1_; have HB := n2_; clear n0_ n1_ n2_; (try clear hb); (try clear hb2); (try clear hk); (try clear hi)))
          go_meet
          case rel => exact ⟨_, (true), (by first | rfl | (simp; done) | (simp [*]; done)), H', ⟨by first | omega | exact Nat.le_refl _⟩, ⟨by repeat (first | (with_reducible first | exact HB.out | apply below_alloc | apply pw_below_drewN | apply below_drew1) | exact HB.out)⟩⟩
      · replace c15 := Bool.eq_false_iff.mpr c15
        subst c15
        have H1 : (vellumlaw18_PatchThree.j0 k l0 l1 l2 true) = some r := by rw [if_neg (show ¬ (false = true) by decide)] at H; exact H
        clear H
        have H := H1
        clear H1
        have H' := Aside0.mk H
        clear H
        go_wp2_with (first | ((with_reducible refine gate_callee (f := 6) rfl ?_); refine goesL_ (some 25) rfl rfl Tryd.func6 (by kernel_rfl) rfl #[.slice A0 l0.length c0] rfl (by (try simp only [List.map_toArray, List.map_cons, List.map_nil]); first | done | rfl | (simp only [List.length_drop, List.length_take]; rfl)) ?_; (with_reducible refine (vellumlaw18_isTree.calls k _ _ l0 false _ ?side1 ?side2 A14.out).mono ?_); (case side1 => repeat (first | exact (Kd.C_below HR0.out HB.out) | (with_reducible refine Kd.C_alloc ?_ _) | (with_reducible refine Kd.C_drewN ?_ _) | (with_reducible refine Kd.C_drew ?_))); (case side2 => exact HC0.out); rintro e w24 ⟨rfl, hb⟩; refine ⟨_, rfl, ?_⟩; have n0_ := Aside0.mk (Kd.S_below (by (with_reducible repeat (first | apply Kd.S_alloc | apply Kd.S_drewN | apply Kd.S_drew)); exact HO223.out) hb); have n1_ := Aside0.mk (Kd.S_below (by (with_reducible repeat (first | apply Kd.S_alloc | apply Kd.S_drewN | apply Kd.S_drew)); exact HO226.out) hb); have n2_ := Aside0.mk (below_step (by repeat (first | (with_reducible first | exact HB.out | apply below_alloc | apply pw_below_drewN | apply below_drew1) | exact HB.out)) hb); clear HO223; clear HO226; clear HB; have HO223 := n0_; have HO226 := n1_; have HB := n2_; clear n0_ n1_ n2_; (try clear hb); (try clear hb2); (try clear hk); (try clear hi)))
        go_meet
        case rel => exact ⟨_, (true), (by first | rfl | (simp; done) | (simp [*]; done)), H', ⟨by first | omega | exact Nat.le_refl _⟩, ⟨by repeat (first | (with_reducible first | exact HB.out | apply below_alloc | apply pw_below_drewN | apply below_drew1) | exact HB.out)⟩⟩
    case rest =>
      clear HC6
      try clear c1
      try clear c2
      try clear p2
      try clear c3
      try clear c5
      try clear c6
      try clear c15
      try clear c17
      obtain ⟨kq, x36_5, rfl, HA, HJ5, HB⟩ := hcut
      cases kq with
      | zero => exact absurd HA.out (by simp [vellumlaw18_PatchThree.j0])
      | succ kj5 =>
        have H := HA.out
        clear HA
        simp only [vellumlaw18_PatchThree.j0] at H
        by_cases c25 : x36_5 = true
        · subst c25
          have H1 : ((vellumlaw18_twins.f kj5 l0).bind fun t231 => ((vellumlaw18_twins.f kj5 l1).bind fun t234 => ((vellumlaw18_twins.f kj5 l2).bind fun t237 => ((patch_Merge.f t231 t234 t237).bind fun bt240 => ((vellumlaw18_num.f bt240.2.2).bind fun t247 => (if t247 = 0 then (some false) else ((vellumlaw18_num.f bt240.2.2).bind fun t248 => ((vellumlaw18_unlike.f kj5 l0 l1 l2).bind fun t249 => (some (t248 == t249)))))))))) = some r := by rw [if_pos rfl] at H; exact H
          clear H
          have H := H1
          clear H1
          replace H := Option.bind_eq_some_iff.mp H
          obtain ⟨t231, A260, H⟩ := H
          replace H : ((vellumlaw18_twins.f kj5 l1).bind fun t234 => ((vellumlaw18_twins.f kj5 l2).bind fun t237 => ((patch_Merge.f t231 t234 t237).bind fun bt240 => ((vellumlaw18_num.f bt240.2.2).bind fun t247 => (if t247 = 0 then (some false) else ((vellumlaw18_num.f bt240.2.2).bind fun t248 => ((vellumlaw18_unlike.f kj5 l0 l1 l2).bind fun t249 => (some (t248 == t249))))))))) = some r := H
          have A26 := Aside0.mk A260
          clear A260
          replace H := Option.bind_eq_some_iff.mp H
          obtain ⟨t234, A270, H⟩ := H
          replace H : ((vellumlaw18_twins.f kj5 l2).bind fun t237 => ((patch_Merge.f t231 t234 t237).bind fun bt240 => ((vellumlaw18_num.f bt240.2.2).bind fun t247 => (if t247 = 0 then (some false) else ((vellumlaw18_num.f bt240.2.2).bind fun t248 => ((vellumlaw18_unlike.f kj5 l0 l1 l2).bind fun t249 => (some (t248 == t249)))))))) = some r := H
          have A27 := Aside0.mk A270
          clear A270
          replace H := Option.bind_eq_some_iff.mp H
          obtain ⟨t237, A280, H⟩ := H
          replace H : ((patch_Merge.f t231 t234 t237).bind fun bt240 => ((vellumlaw18_num.f bt240.2.2).bind fun t247 => (if t247 = 0 then (some false) else ((vellumlaw18_num.f bt240.2.2).bind fun t248 => ((vellumlaw18_unlike.f kj5 l0 l1 l2).bind fun t249 => (some (t248 == t249))))))) = some r := H
          have A28 := Aside0.mk A280
          clear A280
          replace H := Option.bind_eq_some_iff.mp H
          obtain ⟨⟨t240, t241, t242⟩, A290, H⟩ := H
          replace H : ((vellumlaw18_num.f t242).bind fun t247 => (if t247 = 0 then (some false) else ((vellumlaw18_num.f t242).bind fun t248 => ((vellumlaw18_unlike.f kj5 l0 l1 l2).bind fun t249 => (some (t248 == t249)))))) = some r := H
          have A29 := Aside0.mk A290
          clear A290
          replace H := Option.bind_eq_some_iff.mp H
          obtain ⟨t247, A300, H⟩ := H
          replace H : (if t247 = 0 then (some false) else ((vellumlaw18_num.f t242).bind fun t248 => ((vellumlaw18_unlike.f kj5 l0 l1 l2).bind fun t249 => (some (t248 == t249))))) = some r := H
          have A30 := Aside0.mk A300
          clear A300
          by_cases c31 : t247 = 0
          · rw [if_pos c31] at H
            have c31b0 : (t247 == 0) = true := beq_iff_eq.mpr c31
            have c31b1 : (t247 != 0) = false := bne_eq_false_iff_eq.mpr c31
            clear c31
            obtain rfl := Option.some.inj H
            go_wp2_with (first | ((with_reducible refine gate_callee (f := 8) rfl ?_); refine goesL_ (some 39) rfl rfl Tryd.func8 (by kernel_rfl) rfl #[.slice A0 l0.length c0] rfl (by (try simp only [List.map_toArray, List.map_cons, List.map_nil]); first | done | rfl | (simp only [List.length_drop, List.length_take]; rfl)) ?_; (with_reducible refine (vellumlaw18_twins.calls kj5 _ _ l0 t231 _ ?side1 ?side2 A26.out).mono ?_); (case side1 => repeat (first | exact (Kd.C_below HR0.out HB.out) | (with_reducible refine Kd.C_alloc ?_ _) | (with_reducible refine Kd.C_drewN ?_ _) | (with_reducible refine Kd.C_drew ?_))); (case side2 => exact HC0.out); rintro e w32 ⟨v232, rfl, ho0, hb⟩; refine ⟨_, rfl, ?_⟩; have n0_ := Aside0.mk (Kd.S_lower ho0 (below_size (by repeat (first | (with_reducible first | exact HB.out | apply below_alloc | apply pw_below_drewN | apply below_drew1) | exact HB.out)))); have n1_ := Aside0.mk (below_step (by repeat (first | (with_reducible first | exact HB.out | apply below_alloc | apply pw_below_drewN | apply below_drew1) | exact HB.out)) hb); clear HB; have HO233 := n0_; have HB := n1_; clear n0_ n1_; (try clear hb); (try clear hb2); (try clear hk); (try clear hi); (try clear ho0)) | ((with_reducible refine gate_callee (f := 8) rfl ?_); refine goesL_ (some 41) rfl rfl Tryd.func8 (by kernel_rfl) rfl #[.slice A1 l1.length c1] rfl (by (try simp only [List.map_toArray, List.map_cons, List.map_nil]); first | done | rfl | (simp only [List.length_drop, List.length_take]; rfl)) ?_; (with_reducible refine (vellumlaw18_twins.calls kj5 _ _ l1 t234 _ ?side1 ?side2 A27.out).mono ?_); (case side1 => repeat (first | exact (Kd.C_below HR1.out HB.out) | (with_reducible refine Kd.C_alloc ?_ _) | (with_reducible refine Kd.C_drewN ?_ _) | (with_reducible refine Kd.C_drew ?_))); (case side2 => exact HC1.out); rintro e w33 ⟨v235, rfl, ho0, hb⟩; refine ⟨_, rfl, ?_⟩; have n0_ := Aside0.mk (Kd.S_elder' (by (with_reducible repeat (first | apply Kd.S_alloc | apply Kd.S_drewN | apply Kd.S_drew)); exact HO233.out) (Kd.S_base ho0) hb); have n1_ := Aside0.mk (Kd.S_lower (Kd.S_new' ho0 (Kd.S_lt (by (with_reducible repeat (first | apply Kd.S_alloc | apply Kd.S_drewN | apply Kd.S_drew)); exact HO233.out))) (below_size (by repeat (first | (with_reducible first | exact HB.out | apply below_alloc | apply pw_below_drewN | apply below_drew1) | exact HB.out)))); have n2_ := Aside0.mk (below_step (by repeat (first | (with_reducible first | exact HB.out | apply below_alloc | apply pw_below_drewN | apply below_drew1) | exact HB.out)) hb); clear HO233; clear HB; have HO233 := n0_; have HO236 := n1_; have HB := n2_; clear n0_ n1_ n2_; (try clear hb); (try clear hb2); (try clear hk); (try clear hi); (try clear ho0)) | ((with_reducible refine gate_callee (f := 8) rfl ?_); refine goesL_ (some 43) rfl rfl Tryd.func8 (by kernel_rfl) rfl #[.slice A2 l2.length c2] rfl (by (try simp only [List.map_toArray, List.map_cons, List.map_nil]); first | done | rfl | (simp only [List.length_drop, List.length_take]; rfl)) ?_; (with_reducible refine (vellumlaw18_twins.calls kj5 _ _ l2 t237 _ ?side1 ?side2 A28.out).mono ?_); (case side1 => repeat (first | exact (Kd.C_below HR2.out HB.out) | (with_reducible refine Kd.C_alloc ?_ _) | (with_reducible refine Kd.C_drewN ?_ _) | (with_reducible refine Kd.C_drew ?_))); (case side2 => exact HC2.out); rintro e w34 ⟨v238, rfl, ho0, hb⟩; refine ⟨_, rfl, ?_⟩; have n0_ := Aside0.mk (Kd.S_elder' (by (with_reducible repeat (first | apply Kd.S_alloc | apply Kd.S_drewN | apply Kd.S_drew)); exact HO233.out) (Kd.S_base ho0) hb); have n1_ := Aside0.mk (Kd.S_elder' (by (with_reducible repeat (first | apply Kd.S_alloc | apply Kd.S_drewN | apply Kd.S_drew)); exact HO236.out) (Kd.S_base ho0) hb); have n2_ := Aside0.mk (Kd.S_lower (Kd.S_new' (Kd.S_new' ho0 (Kd.S_lt (by (with_reducible repeat (first | apply Kd.S_alloc | apply Kd.S_drewN | apply Kd.S_drew)); exact HO233.out))) (Kd.S_lt (by (with_reducible repeat (first | apply Kd.S_alloc | apply Kd.S_drewN | apply Kd.S_drew)); exact HO236.out))) (below_size (by repeat (first | (with_reducible first | exact HB.out | apply below_alloc | apply pw_below_drewN | apply below_drew1) | exact HB.out)))); have n3_ := Aside0.mk (below_step (by repeat (first | (with_reducible first | exact HB.out | apply below_alloc | apply pw_below_drewN | apply below_drew1) | exact HB.out)) hb); clear HO233; clear HO236; clear HB; have HO233 := n0_; have HO236 := n1_; have HO239 := n2_; have HB := n3_; clear n0_ n1_ n2_ n3_; (try clear hb); (try clear hb2); (try clear hk); (try clear hi); (try clear ho0); obtain ⟨Ao35, co35, eo35⟩ := Kd.S_slice HO233.out; subst eo35; obtain ⟨Ao36, co36, eo36⟩ := Kd.S_slice HO236.out; subst eo36; obtain ⟨Ao37, co37, eo37⟩ := Kd.S_slice HO239.out; subst eo37) | ((with_reducible refine gate_callee (f := 7) rfl ?_); refine goesL_ (some 44) rfl rfl Tryd.func7 (by kernel_rfl) rfl #[.slice Ao35 t231.length co35, .slice Ao36 t234.length co36, .slice Ao37 t237.length co37] rfl (by (try simp only [List.map_toArray, List.map_cons, List.map_nil]); first | done | rfl | (simp only [List.length_drop, List.length_take]; rfl)) ?_; (with_reducible refine (patch_Merge.calls _ _ t231 _ _ t234 _ _ t237 t240 t241 t242 _ ?side1 ?side2 ?side3 ?side4 ?side5 ?side6 A29.out).mono ?_); (case side1 => repeat (first | exact (Kd.S_reads' HO233.out).2.2 | (with_reducible refine Kd.C_alloc ?_ _) | (with_reducible refine Kd.C_drewN ?_ _) | (with_reducible refine Kd.C_drew ?_))); (case side2 => exact (Kd.S_reads' HO233.out).2.1); (case side3 => repeat (first | exact (Kd.S_reads' HO236.out).2.2 | (with_reducible refine Kd.C_alloc ?_ _) | (with_reducible refine Kd.C_drewN ?_ _) | (with_reducible refine Kd.C_drew ?_))); (case side4 => exact (Kd.S_reads' HO236.out).2.1); (case side5 => repeat (first | exact (Kd.S_reads' HO239.out).2.2 | (with_reducible refine Kd.C_alloc ?_ _) | (with_reducible refine Kd.C_drewN ?_ _) | (with_reducible refine Kd.C_drew ?_))); (case side6 => exact (Kd.S_reads' HO239.out).2.1); rintro e w38 ⟨v243, v245, rfl, ho0, ho1, hb⟩; refine ⟨_, rfl, ?_⟩; have n0_ := Aside0.mk (Kd.S_elder' (by (with_reducible repeat (first | apply Kd.S_alloc | apply Kd.S_drewN | apply Kd.S_drew)); exact HO233.out) (Kd.S_base ho0) hb); have n1_ := Aside0.mk (Kd.S_elder' (by (with_reducible repeat (first | apply Kd.S_alloc | apply Kd.S_drewN | apply Kd.S_drew)); exact HO236.out) (Kd.S_base ho0) hb); have n2_ := Aside0.mk (Kd.S_elder' (by (with_reducible repeat (first | apply Kd.S_alloc | apply Kd.S_drewN | apply Kd.S_drew)); exact HO239.out) (Kd.S_base ho0) hb); have n3_ := Aside0.mk (Kd.S_lower (Kd.S_new' (Kd.S_new' (Kd.S_new' ho0 (Kd.S_lt (by (with_reducible repeat (first | apply Kd.S_alloc | apply Kd.S_drewN | apply Kd.S_drew)); exact HO233.out))) (Kd.S_lt (by (with_reducible repeat (first | apply Kd.S_alloc | apply Kd.S_drewN | apply Kd.S_drew)); exact HO236.out))) (Kd.S_lt (by (with_reducible repeat (first | apply Kd.S_alloc | apply Kd.S_drewN | apply Kd.S_drew)); exact HO239.out))) (below_size (by repeat (first | (with_reducible first | exact HB.out | apply below_alloc | apply pw_below_drewN | apply below_drew1) | exact HB.out)))); have n4_ := Aside0.mk (Kd.R_lower ho1 (below_size (by repeat (first | (with_reducible first | exact HB.out | apply below_alloc | apply pw_below_drewN | apply below_drew1) | exact HB.out)))); have n5_ := Aside0.mk (below_step (by repeat (first | (with_reducible first | exact HB.out | apply below_alloc | apply pw_below_drewN | apply below_drew1) | exact HB.out)) hb); clear HO233; clear HO236; clear HO239; clear HB; have HO233 := n0_; have HO236 := n1_; have HO239 := n2_; have HO244 := n3_; have HO246 := n4_; have HB := n5_; clear n0_ n1_ n2_ n3_ n4_ n5_; (try clear hb); (try clear hb2); (try clear hk); (try clear hi); (try clear ho0); (try clear ho1)) | ((with_reducible refine gate_callee (f := 9) rfl ?_); refine goesL_ (some 49) rfl rfl Tryd.func9 (by kernel_rfl) rfl #[.int .i64 t242] rfl (by (try simp only [List.map_toArray, List.map_cons, List.map_nil]); first | done | rfl | (simp only [List.length_drop, List.length_take]; rfl)) ?_; (with_reducible refine (vellumlaw18_num.calls t242 t247 _ A30.out).mono ?_); rintro e w' ⟨rfl, ⟨nd, rfl⟩⟩; refine ⟨_, rfl, ?_⟩))
            go_ret
            exact ⟨by first | rfl | (simp [errW_none, errW_some] <;> rfl) | (simp [*, errW_none, errW_some] <;> rfl), by repeat (first | (with_reducible first | exact HB.out | apply below_alloc | apply pw_below_drewN | apply below_drew1) | exact HB.out)⟩
          · rw [if_neg c31] at H
            have c31b0 : (t247 == 0) = false := beq_eq_false_iff_ne.mpr c31
            have c31b1 : (t247 != 0) = true := bne_iff_ne.mpr c31
            replace H := Option.bind_eq_some_iff.mp H
            obtain ⟨t248, A390, H⟩ := H
            obtain rfl : t248 = t247 := Option.some.inj (A390.symm.trans A30.out)
            replace H : ((vellumlaw18_unlike.f kj5 l0 l1 l2).bind fun t249 => (some (t248 == t249))) = some r := H
            have A39 := Aside0.mk A390
            clear A390
            replace H := Option.bind_eq_some_iff.mp H
            obtain ⟨t249, A400, H⟩ := H
            replace H : (some (t248 == t249)) = some r := H
            have A40 := Aside0.mk A400
            clear A400
            obtain rfl := Option.some.inj H
            go_wp2_with (first | ((with_reducible refine gate_callee (f := 8) rfl ?_); refine goesL_ (some 39) rfl rfl Tryd.func8 (by kernel_rfl) rfl #[.slice A0 l0.length c0] rfl (by (try simp only [List.map_toArray, List.map_cons, List.map_nil]); first | done | rfl | (simp only [List.length_drop, List.length_take]; rfl)) ?_; (with_reducible refine (vellumlaw18_twins.calls kj5 _ _ l0 t231 _ ?side1 ?side2 A26.out).mono ?_); (case side1 => repeat (first | exact (Kd.C_below HR0.out HB.out) | (with_reducible refine Kd.C_alloc ?_ _) | (with_reducible refine Kd.C_drewN ?_ _) | (with_reducible refine Kd.C_drew ?_))); (case side2 => exact HC0.out); rintro e w41 ⟨v232, rfl, ho0, hb⟩; refine ⟨_, rfl, ?_⟩; have n0_ := Aside0.mk (Kd.S_lower ho0 (below_size (by repeat (first | (with_reducible first | exact HB.out | apply below_alloc | apply pw_below_drewN | apply below_drew1) | exact HB.out)))); have n1_ := Aside0.mk (below_step (by repeat (first | (with_reducible first | exact HB.out | apply below_alloc | apply pw_below_drewN | apply below_drew1) | exact HB.out)) hb); clear HB; have HO233 := n0_; have HB := n1_; clear n0_ n1_; (try clear hb); (try clear hb2); (try clear hk); (try clear hi); (try clear ho0)) | ((with_reducible refine gate_callee (f := 8) rfl ?_); refine goesL_ (some 41) rfl rfl Tryd.func8 (by kernel_rfl) rfl #[.slice A1 l1.length c1] rfl (by (try simp only [List.map_toArray, List.map_cons, List.map_nil]); first | done | rfl | (simp only [List.length_drop, List.length_take]; rfl)) ?_; (with_reducible refine (vellumlaw18_twins.calls kj5 _ _ l1 t234 _ ?side1 ?side2 A27.out).mono ?_); (case side1 => repeat (first | exact (Kd.C_below HR1.out HB.out) | (with_reducible refine Kd.C_alloc ?_ _) | (with_reducible refine Kd.C_drewN ?_ _) | (with_reducible refine Kd.C_drew ?_))); (case side2 => exact HC1.out); rintro e w42 ⟨v235, rfl, ho0, hb⟩; refine ⟨_, rfl, ?_⟩; have n0_ := Aside0.mk (Kd.S_elder' (by (with_reducible repeat (first | apply Kd.S_alloc | apply Kd.S_drewN | apply Kd.S_drew)); exact HO233.out) (Kd.S_base ho0) hb); have n1_ := Aside0.mk (Kd.S_lower (Kd.S_new' ho0 (Kd.S_lt (by (with_reducible repeat (first | apply Kd.S_alloc | apply Kd.S_drewN | apply Kd.S_drew)); exact HO233.out))) (below_size (by repeat (first | (with_reducible first | exact HB.out | apply below_alloc | apply pw_below_drewN | apply below_drew1) | exact HB.out)))); have n2_ := Aside0.mk (below_step (by repeat (first | (with_reducible first | exact HB.out | apply below_alloc | apply pw_below_drewN | apply below_drew1) | exact HB.out)) hb); clear HO233; clear HB; have HO233 := n0_; have HO236 := n1_; have HB := n2_; clear n0_ n1_ n2_; (try clear hb); (try clear hb2); (try clear hk); (try clear hi); (try clear ho0)) | ((with_reducible refine gate_callee (f := 8) rfl ?_); refine goesL_ (some 43) rfl rfl Tryd.func8 (by kernel_rfl) rfl #[.slice A2 l2.length c2] rfl (by (try simp only [List.map_toArray, List.map_cons, List.map_nil]); first | done | rfl | (simp only [List.length_drop, List.length_take]; rfl)) ?_; (with_reducible refine (vellumlaw18_twins.calls kj5 _ _ l2 t237 _ ?side1 ?side2 A28.out).mono ?_); (case side1 => repeat (first | exact (Kd.C_below HR2.out HB.out) | (with_reducible refine Kd.C_alloc ?_ _) | (with_reducible refine Kd.C_drewN ?_ _) | (with_reducible refine Kd.C_drew ?_))); (case side2 => exact HC2.out); rintro e w43 ⟨v238, rfl, ho0, hb⟩; refine ⟨_, rfl, ?_⟩; have n0_ := Aside0.mk (Kd.S_elder' (by (with_reducible repeat (first | apply Kd.S_alloc | apply Kd.S_drewN | apply Kd.S_drew)); exact HO233.out) (Kd.S_base ho0) hb); have n1_ := Aside0.mk (Kd.S_elder' (by (with_reducible repeat (first | apply Kd.S_alloc | apply Kd.S_drewN | apply Kd.S_drew)); exact HO236.out) (Kd.S_base ho0) hb); have n2_ := Aside0.mk (Kd.S_lower (Kd.S_new' (Kd.S_new' ho0 (Kd.S_lt (by (with_reducible repeat (first | apply Kd.S_alloc | apply Kd.S_drewN | apply Kd.S_drew)); exact HO233.out))) (Kd.S_lt (by (with_reducible repeat (first | apply Kd.S_alloc | apply Kd.S_drewN | apply Kd.S_drew)); exact HO236.out))) (below_size (by repeat (first | (with_reducible first | exact HB.out | apply below_alloc | apply pw_below_drewN | apply below_drew1) | exact HB.out)))); have n3_ := Aside0.mk (below_step (by repeat (first | (with_reducible first | exact HB.out | apply below_alloc | apply pw_below_drewN | apply below_drew1) | exact HB.out)) hb); clear HO233; clear HO236; clear HB; have HO233 := n0_; have HO236 := n1_; have HO239 := n2_; have HB := n3_; clear n0_ n1_ n2_ n3_; (try clear hb); (try clear hb2); (try clear hk); (try clear hi); (try clear ho0); obtain ⟨Ao44, co44, eo44⟩ := Kd.S_slice HO233.out; subst eo44; obtain ⟨Ao45, co45, eo45⟩ := Kd.S_slice HO236.out; subst eo45; obtain ⟨Ao46, co46, eo46⟩ := Kd.S_slice HO239.out; subst eo46) | ((with_reducible refine gate_callee (f := 7) rfl ?_); refine goesL_ (some 44) rfl rfl Tryd.func7 (by kernel_rfl) rfl #[.slice Ao44 t231.length co44, .slice Ao45 t234.length co45, .slice Ao46 t237.length co46] rfl (by (try simp only [List.map_toArray, List.map_cons, List.map_nil]); first | done | rfl | (simp only [List.length_drop, List.length_take]; rfl)) ?_; (with_reducible refine (patch_Merge.calls _ _ t231 _ _ t234 _ _ t237 t240 t241 t242 _ ?side1 ?side2 ?side3 ?side4 ?side5 ?side6 A29.out).mono ?_); (case side1 => repeat (first | exact (Kd.S_reads' HO233.out).2.2 | (with_reducible refine Kd.C_alloc ?_ _) | (with_reducible refine Kd.C_drewN ?_ _) | (with_reducible refine Kd.C_drew ?_))); (case side2 => exact (Kd.S_reads' HO233.out).2.1); (case side3 => repeat (first | exact (Kd.S_reads' HO236.out).2.2 | (with_reducible refine Kd.C_alloc ?_ _) | (with_reducible refine Kd.C_drewN ?_ _) | (with_reducible refine Kd.C_drew ?_))); (case side4 => exact (Kd.S_reads' HO236.out).2.1); (case side5 => repeat (first | exact (Kd.S_reads' HO239.out).2.2 | (with_reducible refine Kd.C_alloc ?_ _) | (with_reducible refine Kd.C_drewN ?_ _) | (with_reducible refine Kd.C_drew ?_))); (case side6 => exact (Kd.S_reads' HO239.out).2.1); rintro e w47 ⟨v243, v245, rfl, ho0, ho1, hb⟩; refine ⟨_, rfl, ?_⟩; have n0_ := Aside0.mk (Kd.S_elder' (by (with_reducible repeat (first | apply Kd.S_alloc | apply Kd.S_drewN | apply Kd.S_drew)); exact HO233.out) (Kd.S_base ho0) hb); have n1_ := Aside0.mk (Kd.S_elder' (by (with_reducible repeat (first | apply Kd.S_alloc | apply Kd.S_drewN | apply Kd.S_drew)); exact HO236.out) (Kd.S_base ho0) hb); have n2_ := Aside0.mk (Kd.S_elder' (by (with_reducible repeat (first | apply Kd.S_alloc | apply Kd.S_drewN | apply Kd.S_drew)); exact HO239.out) (Kd.S_base ho0) hb); have n3_ := Aside0.mk (Kd.S_lower (Kd.S_new' (Kd.S_new' (Kd.S_new' ho0 (Kd.S_lt (by (with_reducible repeat (first | apply Kd.S_alloc | apply Kd.S_drewN | apply Kd.S_drew)); exact HO233.out))) (Kd.S_lt (by (with_reducible repeat (first | apply Kd.S_alloc | apply Kd.S_drewN | apply Kd.S_drew)); exact HO236.out))) (Kd.S_lt (by (with_reducible repeat (first | apply Kd.S_alloc | apply Kd.S_drewN | apply Kd.S_drew)); exact HO239.out))) (below_size (by repeat (first | (with_reducible first | exact HB.out | apply below_alloc | apply pw_below_drewN | apply below_drew1) | exact HB.out)))); have n4_ := Aside0.mk (Kd.R_lower ho1 (below_size (by repeat (first | (with_reducible first | exact HB.out | apply below_alloc | apply pw_below_drewN | apply below_drew1) | exact HB.out)))); have n5_ := Aside0.mk (below_step (by repeat (first | (with_reducible first | exact HB.out | apply below_alloc | apply pw_below_drewN | apply below_drew1) | exact HB.out)) hb); clear HO233; clear HO236; clear HO239; clear HB; have HO233 := n0_; have HO236 := n1_; have HO239 := n2_; have HO244 := n3_; have HO246 := n4_; have HB := n5_; clear n0_ n1_ n2_ n3_ n4_ n5_; (try clear hb); (try clear hb2); (try clear hk); (try clear hi); (try clear ho0); (try clear ho1)) | ((with_reducible refine gate_callee (f := 9) rfl ?_); refine goesL_ (some 49) rfl rfl Tryd.func9 (by kernel_rfl) rfl #[.int .i64 t242] rfl (by (try simp only [List.map_toArray, List.map_cons, List.map_nil]); first | done | rfl | (simp only [List.length_drop, List.length_take]; rfl)) ?_; (with_reducible refine (vellumlaw18_num.calls t242 t247 _ A30.out).mono ?_); rintro e w' ⟨rfl, ⟨nd, rfl⟩⟩; refine ⟨_, rfl, ?_⟩) | (go_at_call 9; (with_reducible refine (vellumlaw18_num.calls t242 t248 _ A39.out).mono ?_); rintro e w' ⟨rfl, ⟨nd, rfl⟩⟩) | (go_at_call 10; (with_reducible refine (vellumlaw18_unlike.calls kj5 (fun k_ => k_ < w.heap.size) _ _ l0 (fun k_ => k_ < w.heap.size) _ _ l1 (fun k_ => k_ < w.heap.size) _ _ l2 t249 _ ?side1 ?side2 ?side3 A40.out).mono ?_); (case side1 => exact Kd.V_mk HC0.out (Kd.F_below (Kd.C_F k27_heap HR0.out) (by repeat (first | (with_reducible first | exact HB.out | apply below_alloc | apply pw_below_drewN | apply below_drew1) | exact HB.out)))); (case side2 => exact Kd.V_mk HC1.out (Kd.F_below (Kd.C_F k27_heap HR1.out) (by repeat (first | (with_reducible first | exact HB.out | apply below_alloc | apply pw_below_drewN | apply below_drew1) | exact HB.out)))); (case side3 => exact Kd.V_mk HC2.out (Kd.F_below (Kd.C_F k27_heap HR2.out) (by repeat (first | (with_reducible first | exact HB.out | apply below_alloc | apply pw_below_drewN | apply below_drew1) | exact HB.out)))); rintro e w48 ⟨rfl, hb⟩; have n0_ := Aside0.mk (Kd.S_below (by (with_reducible repeat (first | apply Kd.S_alloc | apply Kd.S_drewN | apply Kd.S_drew)); exact HO233.out) hb); have n1_ := Aside0.mk (Kd.S_below (by (with_reducible repeat (first | apply Kd.S_alloc | apply Kd.S_drewN | apply Kd.S_drew)); exact HO236.out) hb); have n2_ := Aside0.mk (Kd.S_below (by (with_reducible repeat (first | apply Kd.S_alloc | apply Kd.S_drewN | apply Kd.S_drew)); exact HO239.out) hb); have n3_ := Aside0.mk (Kd.S_below (by (with_reducible repeat (first | apply Kd.S_alloc | apply Kd.S_drewN | apply Kd.S_drew)); exact HO244.out) hb); have n4_ := Aside0.mk (Kd.R_below (by (with_reducible repeat (first | apply Kd.R_alloc | apply Kd.R_drewN | apply Kd.R_drew)); exact HO246.out) hb); have n5_ := Aside0.mk (below_step (by repeat (first | (with_reducible first | exact HB.out | apply below_alloc | apply pw_below_drewN | apply below_drew1) | exact HB.out)) hb); clear HO233; clear HO236; clear HO239; clear HO244; clear HO246; clear HB; have HO233 := n0_; have HO236 := n1_; have HO239 := n2_; have HO244 := n3_; have HO246 := n4_; have HB := n5_; clear n0_ n1_ n2_ n3_ n4_ n5_; (try clear hb); (try clear hb2); (try clear hk); (try clear hi)))
            go_ret
            exact ⟨by first | rfl | (simp [errW_none, errW_some] <;> rfl) | (simp [*, errW_none, errW_some] <;> rfl), by repeat (first | (with_reducible first | exact HB.out | apply below_alloc | apply pw_below_drewN | apply below_drew1) | exact HB.out)⟩
        · replace c25 := Bool.eq_false_iff.mpr c25
          subst c25
          have H1 : ((vellumlaw18_all.f kj5 l0 l0 l1 l1).bind fun t250 => (if t250 = true then ((vellumlaw18_all.f kj5 l0 l1 l0 l1).bind fun t251 => (if t251 = true then ((vellumlaw18_all.f kj5 l0 l1 l1 l1).bind fun t252 => (if t252 = true then ((vellumlaw18_all.f kj5 l0 l0 l0 l0).bind fun t253 => (if t253 = true then ((vellumlaw18_all.f kj5 ([] : List (S27)) l2 ([] : List (S27)) l2).bind fun t254 => (vellumlaw18_PatchThree.j1 kj5 l0 l1 l2 (!t254))) else (vellumlaw18_PatchThree.j1 kj5 l0 l1 l2 true))) else (vellumlaw18_PatchThree.j1 kj5 l0 l1 l2 true))) else (vellumlaw18_PatchThree.j1 kj5 l0 l1 l2 true))) else (vellumlaw18_PatchThree.j1 kj5 l0 l1 l2 true))) = some r := by rw [if_neg (show ¬ (false = true) by decide)] at H; exact H
          clear H
          have H := H1
          clear H1
          have HC49 := Aside0.mk H
          clear H
          go_upto_region 6 with (fail)
          go_cut [95] (fun v95 wc => ∃ (kq : Nat) (x95_48 : Bool), v95 = .bool x95_48 ∧ Aside0 (vellumlaw18_PatchThree.j1 kq l0 l1 l2 x95_48 = some r) ∧ Aside0 (kq ≤ kj5) ∧ Aside0 (Below w.heap.size w wc))
          case first =>
            have H := HC49.out
            clear HC49
            replace H := Option.bind_eq_some_iff.mp H
            obtain ⟨t250, A500, H⟩ := H
            replace H : (if t250 = true then ((vellumlaw18_all.f kj5 l0 l1 l0 l1).bind fun t251 => (if t251 = true then ((vellumlaw18_all.f kj5 l0 l1 l1 l1).bind fun t252 => (if t252 = true then ((vellumlaw18_all.f kj5 l0 l0 l0 l0).bind fun t253 => (if t253 = true then ((vellumlaw18_all.f kj5 ([] : List (S27)) l2 ([] : List (S27)) l2).bind fun t254 => (vellumlaw18_PatchThree.j1 kj5 l0 l1 l2 (!t254))) else (vellumlaw18_PatchThree.j1 kj5 l0 l1 l2 true))) else (vellumlaw18_PatchThree.j1 kj5 l0 l1 l2 true))) else (vellumlaw18_PatchThree.j1 kj5 l0 l1 l2 true))) else (vellumlaw18_PatchThree.j1 kj5 l0 l1 l2 true)) = some r := H
            have A50 := Aside0.mk A500
            clear A500
            by_cases c51 : t250 = true
            · subst c51
              have H1 : ((vellumlaw18_all.f kj5 l0 l1 l0 l1).bind fun t251 => (if t251 = true then ((vellumlaw18_all.f kj5 l0 l1 l1 l1).bind fun t252 => (if t252 = true then ((vellumlaw18_all.f kj5 l0 l0 l0 l0).bind fun t253 => (if t253 = true then ((vellumlaw18_all.f kj5 ([] : List (S27)) l2 ([] : List (S27)) l2).bind fun t254 => (vellumlaw18_PatchThree.j1 kj5 l0 l1 l2 (!t254))) else (vellumlaw18_PatchThree.j1 kj5 l0 l1 l2 true))) else (vellumlaw18_PatchThree.j1 kj5 l0 l1 l2 true))) else (vellumlaw18_PatchThree.j1 kj5 l0 l1 l2 true))) = some r := by rw [if_pos rfl] at H; exact H
              clear H
              have H := H1
              clear H1
              replace H := Option.bind_eq_some_iff.mp H
              obtain ⟨t251, A520, H⟩ := H
              replace H : (if t251 = true then ((vellumlaw18_all.f kj5 l0 l1 l1 l1).bind fun t252 => (if t252 = true then ((vellumlaw18_all.f kj5 l0 l0 l0 l0).bind fun t253 => (if t253 = true then ((vellumlaw18_all.f kj5 ([] : List (S27)) l2 ([] : List (S27)) l2).bind fun t254 => (vellumlaw18_PatchThree.j1 kj5 l0 l1 l2 (!t254))) else (vellumlaw18_PatchThree.j1 kj5 l0 l1 l2 true))) else (vellumlaw18_PatchThree.j1 kj5 l0 l1 l2 true))) else (vellumlaw18_PatchThree.j1 kj5 l0 l1 l2 true)) = some r := H
              have A52 := Aside0.mk A520
              clear A520
              by_cases c53 : t251 = true
              · subst c53
                have H1 : ((vellumlaw18_all.f kj5 l0 l1 l1 l1).bind fun t252 => (if t252 = true then ((vellumlaw18_all.f kj5 l0 l0 l0 l0).bind fun t253 => (if t253 = true then ((vellumlaw18_all.f kj5 ([] : List (S27)) l2 ([] : List (S27)) l2).bind fun t254 => (vellumlaw18_PatchThree.j1 kj5 l0 l1 l2 (!t254))) else (vellumlaw18_PatchThree.j1 kj5 l0 l1 l2 true))) else (vellumlaw18_PatchThree.j1 kj5 l0 l1 l2 true))) = some r := by rw [if_pos rfl] at H; exact H
                clear H
                have H := H1
                clear H1
                replace H := Option.bind_eq_some_iff.mp H
                obtain ⟨t252, A540, H⟩ := H
                replace H : (if t252 = true then ((vellumlaw18_all.f kj5 l0 l0 l0 l0).bind fun t253 => (if t253 = true then ((vellumlaw18_all.f kj5 ([] : List (S27)) l2 ([] : List (S27)) l2).bind fun t254 => (vellumlaw18_PatchThree.j1 kj5 l0 l1 l2 (!t254))) else (vellumlaw18_PatchThree.j1 kj5 l0 l1 l2 true))) else (vellumlaw18_PatchThree.j1 kj5 l0 l1 l2 true)) = some r := H
                have A54 := Aside0.mk A540
                clear A540
                by_cases c55 : t252 = true
                · subst c55
                  have H1 : ((vellumlaw18_all.f kj5 l0 l0 l0 l0).bind fun t253 => (if t253 = true then ((vellumlaw18_all.f kj5 ([] : List (S27)) l2 ([] : List (S27)) l2).bind fun t254 => (vellumlaw18_PatchThree.j1 kj5 l0 l1 l2 (!t254))) else (vellumlaw18_PatchThree.j1 kj5 l0 l1 l2 true))) = some r := by rw [if_pos rfl] at H; exact H
                  clear H
                  have H := H1
                  clear H1
                  replace H := Option.bind_eq_some_iff.mp H
                  obtain ⟨t253, A560, H⟩ := H
                  replace H : (if t253 = true then ((vellumlaw18_all.f kj5 ([] : List (S27)) l2 ([] : List (S27)) l2).bind fun t254 => (vellumlaw18_PatchThree.j1 kj5 l0 l1 l2 (!t254))) else (vellumlaw18_PatchThree.j1 kj5 l0 l1 l2 true)) = some r := H
                  have A56 := Aside0.mk A560
                  clear A560
                  by_cases c57 : t253 = true
                  · subst c57
                    have H1 : ((vellumlaw18_all.f kj5 ([] : List (S27)) l2 ([] : List (S27)) l2).bind fun t254 => (vellumlaw18_PatchThree.j1 kj5 l0 l1 l2 (!t254))) = some r := by rw [if_pos rfl] at H; exact H
                    clear H
                    have H := H1
                    clear H1
                    replace H := Option.bind_eq_some_iff.mp H
                    obtain ⟨t254, A580, H⟩ := H
                    replace H : (vellumlaw18_PatchThree.j1 kj5 l0 l1 l2 (!t254)) = some r := H
                    have A58 := Aside0.mk A580
                    clear A580
                    have H' := Aside0.mk H
                    clear H
                    go_wp2_with (first | ((with_reducible refine gate_callee (f := 5) rfl ?_); refine goesL_ (some 64) rfl rfl Tryd.func5 (by kernel_rfl) rfl #[.slice A0 l0.length c0, .slice A0 l0.length c0, .slice A1 l1.length c1, .slice A1 l1.length c1] rfl (by (try simp only [List.map_toArray, List.map_cons, List.map_nil]); first | done | rfl | (simp only [List.length_drop, List.length_take]; rfl)) ?_; (with_reducible refine (vellumlaw18_all.calls kj5 _ _ l0 _ _ l0 _ _ l1 _ _ l1 true _ ?side1 ?side2 ?side3 ?side4 ?side5 ?side6 ?side7 ?side8 A50.out).mono ?_); (case side1 => repeat (first | exact (Kd.C_below HR0.out HB.out) | (with_reducible refine Kd.C_alloc ?_ _) | (with_reducible refine Kd.C_drewN ?_ _) | (with_reducible refine Kd.C_drew ?_))); (case side2 => exact HC0.out); (case side3 => repeat (first | exact (Kd.C_below HR0.out HB.out) | (with_reducible refine Kd.C_alloc ?_ _) | (with_reducible refine Kd.C_drewN ?_ _) | (with_reducible refine Kd.C_drew ?_))); (case side4 => exact HC0.out); (case side5 => repeat (first | exact (Kd.C_below HR1.out HB.out) | (with_reducible refine Kd.C_alloc ?_ _) | (with_reducible refine Kd.C_drewN ?_ _) | (with_reducible refine Kd.C_drew ?_))); (case side6 => exact HC1.out); (case side7 => repeat (first | exact (Kd.C_below HR1.out HB.out) | (with_reducible refine Kd.C_alloc ?_ _) | (with_reducible refine Kd.C_drewN ?_ _) | (with_reducible refine Kd.C_drew ?_))); (case side8 => exact HC1.out); rintro e w59 ⟨rfl, hb⟩; refine ⟨_, rfl, ?_⟩; have n0_ := Aside0.mk (below_step (by repeat (first | (with_reducible first | exact HB.out | apply below_alloc | apply pw_below_drewN | apply below_drew1) | exact HB.out)) hb); clear HB; have HB := n0_; clear n0_; (try clear hb); (try clear hb2); (try clear hk); (try clear hi)) | (go_at_call 5; (with_reducible refine (vellumlaw18_all.calls kj5 _ _ l0 _ _ l1 _ _ l0 _ _ l1 true _ ?side1 ?side2 ?side3 ?side4 ?side5 ?side6 ?side7 ?side8 A52.out).mono ?_); (case side1 => repeat (first | exact (Kd.C_below HR0.out HB.out) | (with_reducible refine Kd.C_alloc ?_ _) | (with_reducible refine Kd.C_drewN ?_ _) | (with_reducible refine Kd.C_drew ?_))); (case side2 => exact HC0.out); (case side3 => repeat (first | exact (Kd.C_below HR1.out HB.out) | (with_reducible refine Kd.C_alloc ?_ _) | (with_reducible refine Kd.C_drewN ?_ _) | (with_reducible refine Kd.C_drew ?_))); (case side4 => exact HC1.out); (case side5 => repeat (first | exact (Kd.C_below HR0.out HB.out) | (with_reducible refine Kd.C_alloc ?_ _) | (with_reducible refine Kd.C_drewN ?_ _) | (with_reducible refine Kd.C_drew ?_))); (case side6 => exact HC0.out); (case side7 => repeat (first | exact (Kd.C_below HR1.out HB.out) | (with_reducible refine Kd.C_alloc ?_ _) | (with_reducible refine Kd.C_drewN ?_ _) | (with_reducible refine Kd.C_drew ?_))); (case side8 => exact HC1.out); rintro e w60 ⟨rfl, hb⟩; have n0_ := Aside0.mk (below_step (by repeat (first | (with_reducible first | exact HB.out | apply below_alloc | apply pw_below_drewN | apply below_drew1) | exact HB.out)) hb); clear HB; have HB := n0_; clear n0_; (try clear hb); (try clear hb2); (try clear hk); (try clear hi)) | (go_at_call 5; (with_reducible refine (vellumlaw18_all.calls kj5 _ _ l0 _ _ l1 _ _ l1 _ _ l1 true _ ?side1 ?side2 ?side3 ?side4 ?side5 ?side6 ?side7 ?side8 A54.out).mono ?_); (case side1 => repeat (first | exact (Kd.C_below HR0.out HB.out) | (with_reducible refine Kd.C_alloc ?_ _) | (with_reducible refine Kd.C_drewN ?_ _) | (with_reducible refine Kd.C_drew ?_))); (case side2 => exact HC0.out); (case side3 => repeat (first | exact (Kd.C_below HR1.out HB.out) | (with_reducible refine Kd.C_alloc ?_ _) | (with_reducible refine Kd.C_drewN ?_ _) | (with_reducible refine Kd.C_drew ?_))); (case side4 => exact HC1.out); (case side5 => repeat (first | exact (Kd.C_below HR1.out HB.out) | (with_reducible refine Kd.C_alloc ?_ _) | (with_reducible refine Kd.C_drewN ?_ _) | (with_reducible refine Kd.C_drew ?_))); (case side6 => exact HC1.out); (case side7 => repeat (first | exact (Kd.C_below HR1.out HB.out) | (with_reducible refine Kd.C_alloc ?_ _) | (with_reducible refine Kd.C_drewN ?_ _) | (with_reducible refine Kd.C_drew ?_))); (case side8 => exact HC1.out); rintro e w61 ⟨rfl, hb⟩; have n0_ := Aside0.mk (below_step (by repeat (first | (with_reducible first | exact HB.out | apply below_alloc | apply pw_below_drewN | apply below_drew1) | exact HB.out)) hb); clear HB; have HB := n0_; clear n0_; (try clear hb); (try clear hb2); (try clear hk); (try clear hi)) | (go_at_call 5; (with_reducible refine (vellumlaw18_all.calls kj5 _ _ l0 _ _ l0 _ _ l0 _ _ l0 true _ ?side1 ?side2 ?side3 ?side4 ?side5 ?side6 ?side7 ?side8 A56.out).mono ?_); (case side1 => repeat (first | exact (Kd.C_below HR0.out HB.out) | (with_reducible refine Kd.C_alloc ?_ _) | (with_reducible refine Kd.C_drewN ?_ _) | (with_reducible refine Kd.C_drew ?_))); (case side2 => exact HC0.out); (case side3 => repeat (first | exact (Kd.C_below HR0.out HB.out) | (with_reducible refine Kd.C_alloc ?_ _) | (with_reducible refine Kd.C_drewN ?_ _) | (with_reducible refine Kd.C_drew ?_))); (case side4 => exact HC0.out); (case side5 => repeat (first | exact (Kd.C_below HR0.out HB.out) | (with_reducible refine Kd.C_alloc ?_ _) | (with_reducible refine Kd.C_drewN ?_ _) | (with_reducible refine Kd.C_drew ?_))); (case side6 => exact HC0.out); (case side7 => repeat (first | exact (Kd.C_below HR0.out HB.out) | (with_reducible refine Kd.C_alloc ?_ _) | (with_reducible refine Kd.C_drewN ?_ _) | (with_reducible refine Kd.C_drew ?_))); (case side8 => exact HC0.out); rintro e w62 ⟨rfl, hb⟩; have n0_ := Aside0.mk (below_step (by repeat (first | (with_reducible first | exact HB.out | apply below_alloc | apply pw_below_drewN | apply below_drew1) | exact HB.out)) hb); clear HB; have HB := n0_; clear n0_; (try clear hb); (try clear hb2); (try clear hk); (try clear hi)) | (go_at_call 5; (refine (vellumlaw18_all.calls kj5 _ _ ([] : List (S27)) _ _ l2 _ _ ([] : List (S27)) _ _ l2 t254 _ ?side1 ?side2 ?side3 ?side4 ?side5 ?side6 ?side7 ?side8 A58.out).mono ?_); (case side1 => exact Kd.C_nil _ _); (case side2 => exact Nat.le_refl _); (case side3 => repeat (first | exact (Kd.C_below HR2.out HB.out) | (with_reducible refine Kd.C_alloc ?_ _) | (with_reducible refine Kd.C_drewN ?_ _) | (with_reducible refine Kd.C_drew ?_))); (case side4 => exact HC2.out); (case side5 => exact Kd.C_nil _ _); (case side6 => exact Nat.le_refl _); (case side7 => repeat (first | exact (Kd.C_below HR2.out HB.out) | (with_reducible refine Kd.C_alloc ?_ _) | (with_reducible refine Kd.C_drewN ?_ _) | (with_reducible refine Kd.C_drew ?_))); (case side8 => exact HC2.out); rintro e w63 ⟨rfl, hb⟩; have n0_ := Aside0.mk (below_step (by repeat (first | (with_reducible first | exact HB.out | apply below_alloc | apply pw_below_drewN | apply below_drew1) | exact HB.out)) hb); clear HB; have HB := n0_; clear n0_; (try clear hb); (try clear hb2); (try clear hk); (try clear hi)))
                    go_meet
                    case rel => exact ⟨_, (!t254), (by first | rfl | (simp; done) | (simp [*]; done)), H', ⟨by have := HJ5.out; first | omega | exact Nat.le_refl _⟩, ⟨by repeat (first | (with_reducible first | exact HB.out | apply below_alloc | apply pw_below_drewN | apply below_drew1) | exact HB.out)⟩⟩
                  · replace c57 := Bool.eq_false_iff.mpr c57
                    subst c57
                    have H1 : (vellumlaw18_PatchThree.j1 kj5 l0 l1 l2 true) = some r := by rw [if_neg (show ¬ (false = true) by decide)] at H; exact H
                    clear H
                    have H := H1
                    clear H1
                    have H' := Aside0.mk H
                    clear H
                    go_wp2_with (first | ((with_reducible refine gate_callee (f := 5) rfl ?_); refine goesL_ (some 64) rfl rfl Tryd.func5 (by kernel_rfl) rfl #[.slice A0 l0.length c0, .slice A0 l0.length c0, .slice A1 l1.length c1, .slice A1 l1.length c1] rfl (by (try simp only [List.map_toArray, List.map_cons, List.map_nil]); first | done | rfl | (simp only [List.length_drop, List.length_take]; rfl)) ?_; (with_reducible refine (vellumlaw18_all.calls kj5 _ _ l0 _ _ l0 _ _ l1 _ _ l1 true _ ?side1 ?side2 ?side3 ?side4 ?side5 ?side6 ?side7 ?side8 A50.out).mono ?_); (case side1 => repeat (first | exact (Kd.C_below HR0.out HB.out) | (with_reducible refine Kd.C_alloc ?_ _) | (with_reducible refine Kd.C_drewN ?_ _) | (with_reducible refine Kd.C_drew ?_))); (case side2 => exact HC0.out); (case side3 => repeat (first | exact (Kd.C_below HR0.out HB.out) | (with_reducible refine Kd.C_alloc ?_ _) | (with_reducible refine Kd.C_drewN ?_ _) | (with_reducible refine Kd.C_drew ?_))); (case side4 => exact HC0.out); (case side5 => repeat (first | exact (Kd.C_below HR1.out HB.out) | (with_reducible refine Kd.C_alloc ?_ _) | (with_reducible refine Kd.C_drewN ?_ _) | (with_reducible refine Kd.C_drew ?_))); (case side6 => exact HC1.out); (case side7 => repeat (first | exact (Kd.C_below HR1.out HB.out) | (with_reducible refine Kd.C_alloc ?_ _) | (with_reducible refine Kd.C_drewN ?_ _) | (with_reducible refine Kd.C_drew ?_))); (case side8 => exact HC1.out); rintro e w64 ⟨rfl, hb⟩; refine ⟨_, rfl, ?_⟩; have n0_ := Aside0.mk (below_step (by repeat (first | (with_reducible first | exact HB.out | apply below_alloc | apply pw_below_drewN | apply below_drew1) | exact HB.out)) hb); clear HB; have HB := n0_; clear n0_; (try clear hb); (try clear hb2); (try clear hk); (try clear hi)) | (go_at_call 5; (with_reducible refine (vellumlaw18_all.calls kj5 _ _ l0 _ _ l1 _ _ l0 _ _ l1 true _ ?side1 ?side2 ?side3 ?side4 ?side5 ?side6 ?side7 ?side8 A52.out).mono ?_); (case side1 => repeat (first | exact (Kd.C_below HR0.out HB.out) | (with_reducible refine Kd.C_alloc ?_ _) | (with_reducible refine Kd.C_drewN ?_ _) | (with_reducible refine Kd.C_drew ?_))); (case side2 => exact HC0.out); (case side3 => repeat (first | exact (Kd.C_below HR1.out HB.out) | (with_reducible refine Kd.C_alloc ?_ _) | (with_reducible refine Kd.C_drewN ?_ _) | (with_reducible refine Kd.C_drew ?_))); (case side4 => exact HC1.out); (case side5 => repeat (first | exact (Kd.C_below HR0.out HB.out) | (with_reducible refine Kd.C_alloc ?_ _) | (with_reducible refine Kd.C_drewN ?_ _) | (with_reducible refine Kd.C_drew ?_))); (case side6 => exact HC0.out); (case side7 => repeat (first | exact (Kd.C_below HR1.out HB.out) | (with_reducible refine Kd.C_alloc ?_ _) | (with_reducible refine Kd.C_drewN ?_ _) | (with_reducible refine Kd.C_drew ?_))); (case side8 => exact HC1.out); rintro e w65 ⟨rfl, hb⟩; have n0_ := Aside0.mk (below_step (by repeat (first | (with_reducible first | exact HB.out | apply below_alloc | apply pw_below_drewN | apply below_drew1) | exact HB.out)) hb); clear HB; have HB := n0_; clear n0_; (try clear hb); (try clear hb2); (try clear hk); (try clear hi)) | (go_at_call 5; (with_reducible refine (vellumlaw18_all.calls kj5 _ _ l0 _ _ l1 _ _ l1 _ _ l1 true _ ?side1 ?side2 ?side3 ?side4 ?side5 ?side6 ?side7 ?side8 A54.out).mono ?_); (case side1 => repeat (first | exact (Kd.C_below HR0.out HB.out) | (with_reducible refine Kd.C_alloc ?_ _) | (with_reducible refine Kd.C_drewN ?_ _) | (with_reducible refine Kd.C_drew ?_))); (case side2 => exact HC0.out); (case side3 => repeat (first | exact (Kd.C_below HR1.out HB.out) | (with_reducible refine Kd.C_alloc ?_ _) | (with_reducible refine Kd.C_drewN ?_ _) | (with_reducible refine Kd.C_drew ?_))); (case side4 => exact HC1.out); (case side5 => repeat (first | exact (Kd.C_below HR1.out HB.out) | (with_reducible refine Kd.C_alloc ?_ _) | (with_reducible refine Kd.C_drewN ?_ _) | (with_reducible refine Kd.C_drew ?_))); (case side6 => exact HC1.out); (case side7 => repeat (first | exact (Kd.C_below HR1.out HB.out) | (with_reducible refine Kd.C_alloc ?_ _) | (with_reducible refine Kd.C_drewN ?_ _) | (with_reducible refine Kd.C_drew ?_))); (case side8 => exact HC1.out); rintro e w66 ⟨rfl, hb⟩; have n0_ := Aside0.mk (below_step (by repeat (first | (with_reducible first | exact HB.out | apply below_alloc | apply pw_below_drewN | apply below_drew1) | exact HB.out)) hb); clear HB; have HB := n0_; clear n0_; (try clear hb); (try clear hb2); (try clear hk); (try clear hi)) | (go_at_call 5; (with_reducible refine (vellumlaw18_all.calls kj5 _ _ l0 _ _ l0 _ _ l0 _ _ l0 false _ ?side1 ?side2 ?side3 ?side4 ?side5 ?side6 ?side7 ?side8 A56.out).mono ?_); (case side1 => repeat (first | exact (Kd.C_below HR0.out HB.out) | (with_reducible refine Kd.C_alloc ?_ _) | (with_reducible refine Kd.C_drewN ?_ _) | (with_reducible refine Kd.C_drew ?_))); (case side2 => exact HC0.out); (case side3 => repeat (first | exact (Kd.C_below HR0.out HB.out) | (with_reducible refine Kd.C_alloc ?_ _) | (with_reducible refine Kd.C_drewN ?_ _) | (with_reducible refine Kd.C_drew ?_))); (case side4 => exact HC0.out); (case side5 => repeat (first | exact (Kd.C_below HR0.out HB.out) | (with_reducible refine Kd.C_alloc ?_ _) | (with_reducible refine Kd.C_drewN ?_ _) | (with_reducible refine Kd.C_drew ?_))); (case side6 => exact HC0.out); (case side7 => repeat (first | exact (Kd.C_below HR0.out HB.out) | (with_reducible refine Kd.C_alloc ?_ _) | (with_reducible refine Kd.C_drewN ?_ _) | (with_reducible refine Kd.C_drew ?_))); (case side8 => exact HC0.out); rintro e w67 ⟨rfl, hb⟩; have n0_ := Aside0.mk (below_step (by repeat (first | (with_reducible first | exact HB.out | apply below_alloc | apply pw_below_drewN | apply below_drew1) | exact HB.out)) hb); clear HB; have HB := n0_; clear n0_; (try clear hb); (try clear hb2); (try clear hk); (try clear hi)))
                    go_meet
                    case rel => exact ⟨_, (true), (by first | rfl | (simp; done) | (simp [*]; done)), H', ⟨by have := HJ5.out; first | omega | exact Nat.le_refl _⟩, ⟨by repeat (first | (with_reducible first | exact HB.out | apply below_alloc | apply pw_below_drewN | apply below_drew1) | exact HB.out)⟩⟩
                · replace c55 := Bool.eq_false_iff.mpr c55
                  subst c55
                  have H1 : (vellumlaw18_PatchThree.j1 kj5 l0 l1 l2 true) = some r := by rw [if_neg (show ¬ (false = true) by decide)] at H; exact H
                  clear H
                  have H := H1
                  clear H1
                  have H' := Aside0.mk H
                  clear H
                  go_wp2_with (first | ((with_reducible refine gate_callee (f := 5) rfl ?_); refine goesL_ (some 64) rfl rfl Tryd.func5 (by kernel_rfl) rfl #[.slice A0 l0.length c0, .slice A0 l0.length c0, .slice A1 l1.length c1, .slice A1 l1.length c1] rfl (by (try simp only [List.map_toArray, List.map_cons, List.map_nil]); first | done | rfl | (simp only [List.length_drop, List.length_take]; rfl)) ?_; (with_reducible refine (vellumlaw18_all.calls kj5 _ _ l0 _ _ l0 _ _ l1 _ _ l1 true _ ?side1 ?side2 ?side3 ?side4 ?side5 ?side6 ?side7 ?side8 A50.out).mono ?_); (case side1 => repeat (first | exact (Kd.C_below HR0.out HB.out) | (with_reducible refine Kd.C_alloc ?_ _) | (with_reducible refine Kd.C_drewN ?_ _) | (with_reducible refine Kd.C_drew ?_))); (case side2 => exact HC0.out); (case side3 => repeat (first | exact (Kd.C_below HR0.out HB.out) | (with_reducible refine Kd.C_alloc ?_ _) | (with_reducible refine Kd.C_drewN ?_ _) | (with_reducible refine Kd.C_drew ?_))); (case side4 => exact HC0.out); (case side5 => repeat (first | exact (Kd.C_below HR1.out HB.out) | (with_reducible refine Kd.C_alloc ?_ _) | (with_reducible refine Kd.C_drewN ?_ _) | (with_reducible refine Kd.C_drew ?_))); (case side6 => exact HC1.out); (case side7 => repeat (first | exact (Kd.C_below HR1.out HB.out) | (with_reducible refine Kd.C_alloc ?_ _) | (with_reducible refine Kd.C_drewN ?_ _) | (with_reducible refine Kd.C_drew ?_))); (case side8 => exact HC1.out); rintro e w68 ⟨rfl, hb⟩; refine ⟨_, rfl, ?_⟩; have n0_ := Aside0.mk (below_step (by repeat (first | (with_reducible first | exact HB.out | apply below_alloc | apply pw_below_drewN | apply below_drew1) | exact HB.out)) hb); clear HB; have HB := n0_; clear n0_; (try clear hb); (try clear hb2); (try clear hk); (try clear hi)) | (go_at_call 5; (with_reducible refine (vellumlaw18_all.calls kj5 _ _ l0 _ _ l1 _ _ l0 _ _ l1 true _ ?side1 ?side2 ?side3 ?side4 ?side5 ?side6 ?side7 ?side8 A52.out).mono ?_); (case side1 => repeat (first | exact (Kd.C_below HR0.out HB.out) | (with_reducible refine Kd.C_alloc ?_ _) | (with_reducible refine Kd.C_drewN ?_ _) | (with_reducible refine Kd.C_drew ?_))); (case side2 => exact HC0.out); (case side3 => repeat (first | exact (Kd.C_below HR1.out HB.out) | (with_reducible refine Kd.C_alloc ?_ _) | (with_reducible refine Kd.C_drewN ?_ _) | (with_reducible refine Kd.C_drew ?_))); (case side4 => exact HC1.out); (case side5 => repeat (first | exact (Kd.C_below HR0.out HB.out) | (with_reducible refine Kd.C_alloc ?_ _) | (with_reducible refine Kd.C_drewN ?_ _) | (with_reducible refine Kd.C_drew ?_))); (case side6 => exact HC0.out); (case side7 => repeat (first | exact (Kd.C_below HR1.out HB.out) | (with_reducible refine Kd.C_alloc ?_ _) | (with_reducible refine Kd.C_drewN ?_ _) | (with_reducible refine Kd.C_drew ?_))); (case side8 => exact HC1.out); rintro e w69 ⟨rfl, hb⟩; have n0_ := Aside0.mk (below_step (by repeat (first | (with_reducible first | exact HB.out | apply below_alloc | apply pw_below_drewN | apply below_drew1) | exact HB.out)) hb); clear HB; have HB := n0_; clear n0_; (try clear hb); (try clear hb2); (try clear hk); (try clear hi)) | (go_at_call 5; (with_reducible refine (vellumlaw18_all.calls kj5 _ _ l0 _ _ l1 _ _ l1 _ _ l1 false _ ?side1 ?side2 ?side3 ?side4 ?side5 ?side6 ?side7 ?side8 A54.out).mono ?_); (case side1 => repeat (first | exact (Kd.C_below HR0.out HB.out) | (with_reducible refine Kd.C_alloc ?_ _) | (with_reducible refine Kd.C_drewN ?_ _) | (with_reducible refine Kd.C_drew ?_))); (case side2 => exact HC0.out); (case side3 => repeat (first | exact (Kd.C_below HR1.out HB.out) | (with_reducible refine Kd.C_alloc ?_ _) | (with_reducible refine Kd.C_drewN ?_ _) | (with_reducible refine Kd.C_drew ?_))); (case side4 => exact HC1.out); (case side5 => repeat (first | exact (Kd.C_below HR1.out HB.out) | (with_reducible refine Kd.C_alloc ?_ _) | (with_reducible refine Kd.C_drewN ?_ _) | (with_reducible refine Kd.C_drew ?_))); (case side6 => exact HC1.out); (case side7 => repeat (first | exact (Kd.C_below HR1.out HB.out) | (with_reducible refine Kd.C_alloc ?_ _) | (with_reducible refine Kd.C_drewN ?_ _) | (with_reducible refine Kd.C_drew ?_))); (case side8 => exact HC1.out); rintro e w70 ⟨rfl, hb⟩; have n0_ := Aside0.mk (below_step (by repeat (first | (with_reducible first | exact HB.out | apply below_alloc | apply pw_below_drewN | apply below_drew1) | exact HB.out)) hb); clear HB; have HB := n0_; clear n0_; (try clear hb); (try clear hb2); (try clear hk); (try clear hi)))
                  go_meet
                  case rel => exact ⟨_, (true), (by first | rfl | (simp; done) | (simp [*]; done)), H', ⟨by have := HJ5.out; first | omega | exact Nat.le_refl _⟩, ⟨by repeat (first | (with_reducible first | exact HB.out | apply below_alloc | apply pw_below_drewN | apply below_drew1) | exact HB.out)⟩⟩
              · replace c53 := Bool.eq_false_iff.mpr c53
                subst c53
                have H1 : (vellumlaw18_PatchThree.j1 kj5 l0 l1 l2 true) = some r := by rw [if_neg (show ¬ (false = true) by decide)] at H; exact H
                clear H
                have H := H1
                clear H1
                have H' := Aside0.mk H
                clear H
                go_wp2_with (first | ((with_reducible refine gate_callee (f := 5) rfl ?_); refine goesL_ (some 64) rfl rfl Tryd.func5 (by kernel_rfl) rfl #[.slice A0 l0.length c0, .slice A0 l0.length c0, .slice A1 l1.length c1, .slice A1 l1.length c1] rfl (by (try simp only [List.map_toArray, List.map_cons, List.map_nil]); first | done | rfl | (simp only [List.length_drop, List.length_take]; rfl)) ?_; (with_reducible refine (vellumlaw18_all.calls kj5 _ _ l0 _ _ l0 _ _ l1 _ _ l1 true _ ?side1 ?side2 ?side3 ?side4 ?side5 ?side6 ?side7 ?side8 A50.out).mono ?_); (case side1 => repeat (first | exact (Kd.C_below HR0.out HB.out) | (with_reducible refine Kd.C_alloc ?_ _) | (with_reducible refine Kd.C_drewN ?_ _) | (with_reducible refine Kd.C_drew ?_))); (case side2 => exact HC0.out); (case side3 => repeat (first | exact (Kd.C_below HR0.out HB.out) | (with_reducible refine Kd.C_alloc ?_ _) | (with_reducible refine Kd.C_drewN ?_ _) | (with_reducible refine Kd.C_drew ?_))); (case side4 => exact HC0.out); (case side5 => repeat (first | exact (Kd.C_below HR1.out HB.out) | (with_reducible refine Kd.C_alloc ?_ _) | (with_reducible refine Kd.C_drewN ?_ _) | (with_reducible refine Kd.C_drew ?_))); (case side6 => exact HC1.out); (case side7 => repeat (first | exact (Kd.C_below HR1.out HB.out) | (with_reducible refine Kd.C_alloc ?_ _) | (with_reducible refine Kd.C_drewN ?_ _) | (with_reducible refine Kd.C_drew ?_))); (case side8 => exact HC1.out); rintro e w71 ⟨rfl, hb⟩; refine ⟨_, rfl, ?_⟩; have n0_ := Aside0.mk (below_step (by repeat (first | (with_reducible first | exact HB.out | apply below_alloc | apply pw_below_drewN | apply below_drew1) | exact HB.out)) hb); clear HB; have HB := n0_; clear n0_; (try clear hb); (try clear hb2); (try clear hk); (try clear hi)) | (go_at_call 5; (with_reducible refine (vellumlaw18_all.calls kj5 _ _ l0 _ _ l1 _ _ l0 _ _ l1 false _ ?side1 ?side2 ?side3 ?side4 ?side5 ?side6 ?side7 ?side8 A52.out).mono ?_); (case side1 => repeat (first | exact (Kd.C_below HR0.out HB.out) | (with_reducible refine Kd.C_alloc ?_ _) | (with_reducible refine Kd.C_drewN ?_ _) | (with_reducible refine Kd.C_drew ?_))); (case side2 => exact HC0.out); (case side3 => repeat (first | exact (Kd.C_below HR1.out HB.out) | (with_reducible refine Kd.C_alloc ?_ _) | (with_reducible refine Kd.C_drewN ?_ _) | (with_reducible refine Kd.C_drew ?_))); (case side4 => exact HC1.out); (case side5 => repeat (first | exact (Kd.C_below HR0.out HB.out) | (with_reducible refine Kd.C_alloc ?_ _) | (with_reducible refine Kd.C_drewN ?_ _) | (with_reducible refine Kd.C_drew ?_))); (case side6 => exact HC0.out); (case side7 => repeat (first | exact (Kd.C_below HR1.out HB.out) | (with_reducible refine Kd.C_alloc ?_ _) | (with_reducible refine Kd.C_drewN ?_ _) | (with_reducible refine Kd.C_drew ?_))); (case side8 => exact HC1.out); rintro e w72 ⟨rfl, hb⟩; have n0_ := Aside0.mk (below_step (by repeat (first | (with_reducible first | exact HB.out | apply below_alloc | apply pw_below_drewN | apply below_drew1) | exact HB.out)) hb); clear HB; have HB := n0_; clear n0_; (try clear hb); (try clear hb2); (try clear hk); (try clear hi)))
                go_meet
                case rel => exact ⟨_, (true), (by first | rfl | (simp; done) | (simp [*]; done)), H', ⟨by have := HJ5.out; first | omega | exact Nat.le_refl _⟩, ⟨by repeat (first | (with_reducible first | exact HB.out | apply below_alloc | apply pw_below_drewN | apply below_drew1) | exact HB.out)⟩⟩
            · replace c51 := Bool.eq_false_iff.mpr c51
              subst c51
              have H1 : (vellumlaw18_PatchThree.j1 kj5 l0 l1 l2 true) = some r := by rw [if_neg (show ¬ (false = true) by decide)] at H; exact H
              clear H
              have H := H1
              clear H1
              have H' := Aside0.mk H
              clear H
              go_wp2_with (first | ((with_reducible refine gate_callee (f := 5) rfl ?_); refine goesL_ (some 64) rfl rfl Tryd.func5 (by kernel_rfl) rfl #[.slice A0 l0.length c0, .slice A0 l0.length c0, .slice A1 l1.length c1, .slice A1 l1.length c1] rfl (by (try simp only [List.map_toArray, List.map_cons, List.map_nil]); first | done | rfl | (simp only [List.length_drop, List.length_take]; rfl)) ?_; (with_reducible refine (vellumlaw18_all.calls kj5 _ _ l0 _ _ l0 _ _ l1 _ _ l1 false _ ?side1 ?side2 ?side3 ?side4 ?side5 ?side6 ?side7 ?side8 A50.out).mono ?_); (case side1 => repeat (first | exact (Kd.C_below HR0.out HB.out) | (with_reducible refine Kd.C_alloc ?_ _) | (with_reducible refine Kd.C_drewN ?_ _) | (with_reducible refine Kd.C_drew ?_))); (case side2 => exact HC0.out); (case side3 => repeat (first | exact (Kd.C_below HR0.out HB.out) | (with_reducible refine Kd.C_alloc ?_ _) | (with_reducible refine Kd.C_drewN ?_ _) | (with_reducible refine Kd.C_drew ?_))); (case side4 => exact HC0.out); (case side5 => repeat (first | exact (Kd.C_below HR1.out HB.out) | (with_reducible refine Kd.C_alloc ?_ _) | (with_reducible refine Kd.C_drewN ?_ _) | (with_reducible refine Kd.C_drew ?_))); (case side6 => exact HC1.out); (case side7 => repeat (first | exact (Kd.C_below HR1.out HB.out) | (with_reducible refine Kd.C_alloc ?_ _) | (with_reducible refine Kd.C_drewN ?_ _) | (with_reducible refine Kd.C_drew ?_))); (case side8 => exact HC1.out); rintro e w73 ⟨rfl, hb⟩; refine ⟨_, rfl, ?_⟩; have n0_ := Aside0.mk (below_step (by repeat (first | (with_reducible first | exact HB.out | apply below_alloc | apply pw_below_drewN | apply below_drew1) | exact HB.out)) hb); clear HB; have HB := n0_; clear n0_; (try clear hb); (try clear hb2); (try clear hk); (try clear hi)))
              go_meet
              case rel => exact ⟨_, (true), (by first | rfl | (simp; done) | (simp [*]; done)), H', ⟨by have := HJ5.out; first | omega | exact Nat.le_refl _⟩, ⟨by repeat (first | (with_reducible first | exact HB.out | apply below_alloc | apply pw_below_drewN | apply below_drew1) | exact HB.out)⟩⟩
          case rest =>
            clear HC49
            try clear c1
            try clear c2
            try clear p2
            try clear c3
            try clear c5
            try clear c6
            try clear c7
            try clear c8
            try clear c9
            try clear c15
            try clear c17
            try clear c25
            try clear c31
            try clear c31b0
            try clear c31b1
            try clear c51
            try clear c53
            try clear c55
            try clear c57
            try clear p2
            obtain ⟨kq, x95_48, rfl, HA, HJ48, HB⟩ := hcut
            cases kq with
            | zero => exact absurd HA.out (by simp [vellumlaw18_PatchThree.j1])
            | succ kj48 =>
              have H := HA.out
              clear HA
              simp only [vellumlaw18_PatchThree.j1] at H
              by_cases c74 : x95_48 = true
              · subst c74
                have H1 : (some false) = some r := by rw [if_pos rfl] at H; exact H
                clear H
                have H := H1
                clear H1
                obtain rfl := Option.some.inj H
                go_wp2
                go_ret
                exact ⟨by first | rfl | (simp [errW_none, errW_some] <;> rfl) | (simp [*, errW_none, errW_some] <;> rfl), by repeat (first | (with_reducible first | exact HB.out | apply below_alloc | apply pw_below_drewN | apply below_drew1) | exact HB.out)⟩
              · replace c74 := Bool.eq_false_iff.mpr c74
                subst c74
                have H1 : ((vellumlaw18_twins.f kj48 l0).bind fun t255 => ((vellumlaw18_twins.f kj48 l1).bind fun t258 => ((vellumlaw18_twins.f kj48 l2).bind fun t261 => ((patch_Merge.f t255 t258 t261).bind fun bt264 => ((vellumlaw18_twins.f kj48 l0).bind fun t271 => ((vellumlaw18_twins.f kj48 l2).bind fun t274 => ((vellumlaw18_twins.f kj48 l1).bind fun t277 => ((patch_Merge.f t271 t274 t277).bind fun bt280 => ((vellumlaw18_num.f bt264.2.2).bind fun t287 => (if t287 = 0 then ((vellumlaw18_num.f bt280.2.2).bind fun t288 => (vellumlaw18_PatchThree.j2 kj48 l1 l2 bt264.1 bt264.2.1 bt264.2.2 bt280.1 bt280.2.1 bt280.2.2 (t288 != 0))) else (vellumlaw18_PatchThree.j2 kj48 l1 l2 bt264.1 bt264.2.1 bt264.2.2 bt280.1 bt280.2.1 bt280.2.2 true))))))))))) = some r := by rw [if_neg (show ¬ (false = true) by decide)] at H; exact H
                clear H
                have H := H1
                clear H1
                replace H := Option.bind_eq_some_iff.mp H
                obtain ⟨t255, A750, H⟩ := H
                replace H : ((vellumlaw18_twins.f kj48 l1).bind fun t258 => ((vellumlaw18_twins.f kj48 l2).bind fun t261 => ((patch_Merge.f t255 t258 t261).bind fun bt264 => ((vellumlaw18_twins.f kj48 l0).bind fun t271 => ((vellumlaw18_twins.f kj48 l2).bind fun t274 => ((vellumlaw18_twins.f kj48 l1).bind fun t277 => ((patch_Merge.f t271 t274 t277).bind fun bt280 => ((vellumlaw18_num.f bt264.2.2).bind fun t287 => (if t287 = 0 then ((vellumlaw18_num.f bt280.2.2).bind fun t288 => (vellumlaw18_PatchThree.j2 kj48 l1 l2 bt264.1 bt264.2.1 bt264.2.2 bt280.1 bt280.2.1 bt280.2.2 (t288 != 0))) else (vellumlaw18_PatchThree.j2 kj48 l1 l2 bt264.1 bt264.2.1 bt264.2.2 bt280.1 bt280.2.1 bt280.2.2 true)))))))))) = some r := H
                have A75 := Aside0.mk A750
                clear A750
                replace H := Option.bind_eq_some_iff.mp H
                obtain ⟨t258, A760, H⟩ := H
                replace H : ((vellumlaw18_twins.f kj48 l2).bind fun t261 => ((patch_Merge.f t255 t258 t261).bind fun bt264 => ((vellumlaw18_twins.f kj48 l0).bind fun t271 => ((vellumlaw18_twins.f kj48 l2).bind fun t274 => ((vellumlaw18_twins.f kj48 l1).bind fun t277 => ((patch_Merge.f t271 t274 t277).bind fun bt280 => ((vellumlaw18_num.f bt264.2.2).bind fun t287 => (if t287 = 0 then ((vellumlaw18_num.f bt280.2.2).bind fun t288 => (vellumlaw18_PatchThree.j2 kj48 l1 l2 bt264.1 bt264.2.1 bt264.2.2 bt280.1 bt280.2.1 bt280.2.2 (t288 != 0))) else (vellumlaw18_PatchThree.j2 kj48 l1 l2 bt264.1 bt264.2.1 bt264.2.2 bt280.1 bt280.2.1 bt280.2.2 true))))))))) = some r := H
                have A76 := Aside0.mk A760
                clear A760
                replace H := Option.bind_eq_some_iff.mp H
                obtain ⟨t261, A770, H⟩ := H
                replace H : ((patch_Merge.f t255 t258 t261).bind fun bt264 => ((vellumlaw18_twins.f kj48 l0).bind fun t271 => ((vellumlaw18_twins.f kj48 l2).bind fun t274 => ((vellumlaw18_twins.f kj48 l1).bind fun t277 => ((patch_Merge.f t271 t274 t277).bind fun bt280 => ((vellumlaw18_num.f bt264.2.2).bind fun t287 => (if t287 = 0 then ((vellumlaw18_num.f bt280.2.2).bind fun t288 => (vellumlaw18_PatchThree.j2 kj48 l1 l2 bt264.1 bt264.2.1 bt264.2.2 bt280.1 bt280.2.1 bt280.2.2 (t288 != 0))) else (vellumlaw18_PatchThree.j2 kj48 l1 l2 bt264.1 bt264.2.1 bt264.2.2 bt280.1 bt280.2.1 bt280.2.2 true)))))))) = some r := H
                have A77 := Aside0.mk A770
                clear A770
                replace H := Option.bind_eq_some_iff.mp H
                obtain ⟨⟨t264, t265, t266⟩, A780, H⟩ := H
                replace H : ((vellumlaw18_twins.f kj48 l0).bind fun t271 => ((vellumlaw18_twins.f kj48 l2).bind fun t274 => ((vellumlaw18_twins.f kj48 l1).bind fun t277 => ((patch_Merge.f t271 t274 t277).bind fun bt280 => ((vellumlaw18_num.f t266).bind fun t287 => (if t287 = 0 then ((vellumlaw18_num.f bt280.2.2).bind fun t288 => (vellumlaw18_PatchThree.j2 kj48 l1 l2 t264 t265 t266 bt280.1 bt280.2.1 bt280.2.2 (t288 != 0))) else (vellumlaw18_PatchThree.j2 kj48 l1 l2 t264 t265 t266 bt280.1 bt280.2.1 bt280.2.2 true))))))) = some r := H
                have A78 := Aside0.mk A780
                clear A780
                replace H := Option.bind_eq_some_iff.mp H
                obtain ⟨t271, A790, H⟩ := H
                replace H : ((vellumlaw18_twins.f kj48 l2).bind fun t274 => ((vellumlaw18_twins.f kj48 l1).bind fun t277 => ((patch_Merge.f t271 t274 t277).bind fun bt280 => ((vellumlaw18_num.f t266).bind fun t287 => (if t287 = 0 then ((vellumlaw18_num.f bt280.2.2).bind fun t288 => (vellumlaw18_PatchThree.j2 kj48 l1 l2 t264 t265 t266 bt280.1 bt280.2.1 bt280.2.2 (t288 != 0))) else (vellumlaw18_PatchThree.j2 kj48 l1 l2 t264 t265 t266 bt280.1 bt280.2.1 bt280.2.2 true)))))) = some r := H
                have A79 := Aside0.mk A790
                clear A790
                replace H := Option.bind_eq_some_iff.mp H
                obtain ⟨t274, A800, H⟩ := H
                replace H : ((vellumlaw18_twins.f kj48 l1).bind fun t277 => ((patch_Merge.f t271 t274 t277).bind fun bt280 => ((vellumlaw18_num.f t266).bind fun t287 => (if t287 = 0 then ((vellumlaw18_num.f bt280.2.2).bind fun t288 => (vellumlaw18_PatchThree.j2 kj48 l1 l2 t264 t265 t266 bt280.1 bt280.2.1 bt280.2.2 (t288 != 0))) else (vellumlaw18_PatchThree.j2 kj48 l1 l2 t264 t265 t266 bt280.1 bt280.2.1 bt280.2.2 true))))) = some r := H
                have A80 := Aside0.mk A800
                clear A800
                replace H := Option.bind_eq_some_iff.mp H
                obtain ⟨t277, A810, H⟩ := H
                replace H : ((patch_Merge.f t271 t274 t277).bind fun bt280 => ((vellumlaw18_num.f t266).bind fun t287 => (if t287 = 0 then ((vellumlaw18_num.f bt280.2.2).bind fun t288 => (vellumlaw18_PatchThree.j2 kj48 l1 l2 t264 t265 t266 bt280.1 bt280.2.1 bt280.2.2 (t288 != 0))) else (vellumlaw18_PatchThree.j2 kj48 l1 l2 t264 t265 t266 bt280.1 bt280.2.1 bt280.2.2 true)))) = some r := H
                have A81 := Aside0.mk A810
                clear A810
                replace H := Option.bind_eq_some_iff.mp H
                obtain ⟨⟨t280, t281, t282⟩, A820, H⟩ := H
                replace H : ((vellumlaw18_num.f t266).bind fun t287 => (if t287 = 0 then ((vellumlaw18_num.f t282).bind fun t288 => (vellumlaw18_PatchThree.j2 kj48 l1 l2 t264 t265 t266 t280 t281 t282 (t288 != 0))) else (vellumlaw18_PatchThree.j2 kj48 l1 l2 t264 t265 t266 t280 t281 t282 true))) = some r := H
                have A82 := Aside0.mk A820
                clear A820
                have HC83 := Aside0.mk H
                clear H
                go_upto_region 10 with (first | ((with_reducible refine gate_callee (f := 8) rfl ?_); refine goesL_ (some 98) rfl rfl Tryd.func8 (by kernel_rfl) rfl #[.slice A0 l0.length c0] rfl (by (try simp only [List.map_toArray, List.map_cons, List.map_nil]); first | done | rfl | (simp only [List.length_drop, List.length_take]; rfl)) ?_; (with_reducible refine (vellumlaw18_twins.calls kj48 _ _ l0 t255 _ ?side1 ?side2 A75.out).mono ?_); (case side1 => repeat (first | exact (Kd.C_below HR0.out HB.out) | (with_reducible refine Kd.C_alloc ?_ _) | (with_reducible refine Kd.C_drewN ?_ _) | (with_reducible refine Kd.C_drew ?_))); (case side2 => exact HC0.out); rintro e w84 ⟨v256, rfl, ho0, hb⟩; refine ⟨_, rfl, ?_⟩; have n0_ := Aside0.mk (Kd.S_lower ho0 (below_size (by repeat (first | (with_reducible first | exact HB.out | apply below_alloc | apply pw_below_drewN | apply below_drew1) | exact HB.out)))); have n1_ := Aside0.mk (below_step (by repeat (first | (with_reducible first | exact HB.out | apply below_alloc | apply pw_below_drewN | apply below_drew1) | exact HB.out)) hb); clear HB; have HO257 := n0_; have HB := n1_; clear n0_ n1_; (try clear hb); (try clear hb2); (try clear hk); (try clear hi); (try clear ho0)) | ((with_reducible refine gate_callee (f := 8) rfl ?_); refine goesL_ (some 100) rfl rfl Tryd.func8 (by kernel_rfl) rfl #[.slice A1 l1.length c1] rfl (by (try simp only [List.map_toArray, List.map_cons, List.map_nil]); first | done | rfl | (simp only [List.length_drop, List.length_take]; rfl)) ?_; (with_reducible refine (vellumlaw18_twins.calls kj48 _ _ l1 t258 _ ?side1 ?side2 A76.out).mono ?_); (case side1 => repeat (first | exact (Kd.C_below HR1.out HB.out) | (with_reducible refine Kd.C_alloc ?_ _) | (with_reducible refine Kd.C_drewN ?_ _) | (with_reducible refine Kd.C_drew ?_))); (case side2 => exact HC1.out); rintro e w85 ⟨v259, rfl, ho0, hb⟩; refine ⟨_, rfl, ?_⟩; have n0_ := Aside0.mk (Kd.S_elder' (by (with_reducible repeat (first | apply Kd.S_alloc | apply Kd.S_drewN | apply Kd.S_drew)); exact HO257.out) (Kd.S_base ho0) hb); have n1_ := Aside0.mk (Kd.S_lower (Kd.S_new' ho0 (Kd.S_lt (by (with_reducible repeat (first | apply Kd.S_alloc | apply Kd.S_drewN | apply Kd.S_drew)); exact HO257.out))) (below_size (by repeat (first | (with_reducible first | exact HB.out | apply below_alloc | apply pw_below_drewN | apply below_drew1) | exact HB.out)))); have n2_ := Aside0.mk (below_step (by repeat (first | (with_reducible first | exact HB.out | apply below_alloc | apply pw_below_drewN | apply below_drew1) | exact HB.out)) hb); clear HO257; clear HB; have HO257 := n0_; have HO260 := n1_; have HB := n2_; clear n0_ n1_ n2_; (try clear hb); (try clear hb2); (try clear hk); (try clear hi); (try clear ho0)) | ((with_reducible refine gate_callee (f := 8) rfl ?_); refine goesL_ (some 102) rfl rfl Tryd.func8 (by kernel_rfl) rfl #[.slice A2 l2.length c2] rfl (by (try simp only [List.map_toArray, List.map_cons, List.map_nil]); first | done | rfl | (simp only [List.length_drop, List.length_take]; rfl)) ?_; (with_reducible refine (vellumlaw18_twins.calls kj48 _ _ l2 t261 _ ?side1 ?side2 A77.out).mono ?_); (case side1 => repeat (first | exact (Kd.C_below HR2.out HB.out) | (with_reducible refine Kd.C_alloc ?_ _) | (with_reducible refine Kd.C_drewN ?_ _) | (with_reducible refine Kd.C_drew ?_))); (case side2 => exact HC2.out); rintro e w86 ⟨v262, rfl, ho0, hb⟩; refine ⟨_, rfl, ?_⟩; have n0_ := Aside0.mk (Kd.S_elder' (by (with_reducible repeat (first | apply Kd.S_alloc | apply Kd.S_drewN | apply Kd.S_drew)); exact HO257.out) (Kd.S_base ho0) hb); have n1_ := Aside0.mk (Kd.S_elder' (by (with_reducible repeat (first | apply Kd.S_alloc | apply Kd.S_drewN | apply Kd.S_drew)); exact HO260.out) (Kd.S_base ho0) hb); have n2_ := Aside0.mk (Kd.S_lower (Kd.S_new' (Kd.S_new' ho0 (Kd.S_lt (by (with_reducible repeat (first | apply Kd.S_alloc | apply Kd.S_drewN | apply Kd.S_drew)); exact HO257.out))) (Kd.S_lt (by (with_reducible repeat (first | apply Kd.S_alloc | apply Kd.S_drewN | apply Kd.S_drew)); exact HO260.out))) (below_size (by repeat (first | (with_reducible first | exact HB.out | apply below_alloc | apply pw_below_drewN | apply below_drew1) | exact HB.out)))); have n3_ := Aside0.mk (below_step (by repeat (first | (with_reducible first | exact HB.out | apply below_alloc | apply pw_below_drewN | apply below_drew1) | exact HB.out)) hb); clear HO257; clear HO260; clear HB; have HO257 := n0_; have HO260 := n1_; have HO263 := n2_; have HB := n3_; clear n0_ n1_ n2_ n3_; (try clear hb); (try clear hb2); (try clear hk); (try clear hi); (try clear ho0); obtain ⟨Ao87, co87, eo87⟩ := Kd.S_slice HO257.out; subst eo87; obtain ⟨Ao88, co88, eo88⟩ := Kd.S_slice HO260.out; subst eo88; obtain ⟨Ao89, co89, eo89⟩ := Kd.S_slice HO263.out; subst eo89) | ((with_reducible refine gate_callee (f := 7) rfl ?_); refine goesL_ (some 103) rfl rfl Tryd.func7 (by kernel_rfl) rfl #[.slice Ao87 t255.length co87, .slice Ao88 t258.length co88, .slice Ao89 t261.length co89] rfl (by (try simp only [List.map_toArray, List.map_cons, List.map_nil]); first | done | rfl | (simp only [List.length_drop, List.length_take]; rfl)) ?_; (with_reducible refine (patch_Merge.calls _ _ t255 _ _ t258 _ _ t261 t264 t265 t266 _ ?side1 ?side2 ?side3 ?side4 ?side5 ?side6 A78.out).mono ?_); (case side1 => repeat (first | exact (Kd.S_reads' HO257.out).2.2 | (with_reducible refine Kd.C_alloc ?_ _) | (with_reducible refine Kd.C_drewN ?_ _) | (with_reducible refine Kd.C_drew ?_))); (case side2 => exact (Kd.S_reads' HO257.out).2.1); (case side3 => repeat (first | exact (Kd.S_reads' HO260.out).2.2 | (with_reducible refine Kd.C_alloc ?_ _) | (with_reducible refine Kd.C_drewN ?_ _) | (with_reducible refine Kd.C_drew ?_))); (case side4 => exact (Kd.S_reads' HO260.out).2.1); (case side5 => repeat (first | exact (Kd.S_reads' HO263.out).2.2 | (with_reducible refine Kd.C_alloc ?_ _) | (with_reducible refine Kd.C_drewN ?_ _) | (with_reducible refine Kd.C_drew ?_))); (case side6 => exact (Kd.S_reads' HO263.out).2.1); rintro e w90 ⟨v267, v269, rfl, ho0, ho1, hb⟩; refine ⟨_, rfl, ?_⟩; have n0_ := Aside0.mk (Kd.S_elder' (by (with_reducible repeat (first | apply Kd.S_alloc | apply Kd.S_drewN | apply Kd.S_drew)); exact HO257.out) (Kd.S_base ho0) hb); have n1_ := Aside0.mk (Kd.S_elder' (by (with_reducible repeat (first | apply Kd.S_alloc | apply Kd.S_drewN | apply Kd.S_drew)); exact HO260.out) (Kd.S_base ho0) hb); have n2_ := Aside0.mk (Kd.S_elder' (by (with_reducible repeat (first | apply Kd.S_alloc | apply Kd.S_drewN | apply Kd.S_drew)); exact HO263.out) (Kd.S_base ho0) hb); have n3_ := Aside0.mk (Kd.S_lower (Kd.S_new' (Kd.S_new' (Kd.S_new' ho0 (Kd.S_lt (by (with_reducible repeat (first | apply Kd.S_alloc | apply Kd.S_drewN | apply Kd.S_drew)); exact HO257.out))) (Kd.S_lt (by (with_reducible repeat (first | apply Kd.S_alloc | apply Kd.S_drewN | apply Kd.S_drew)); exact HO260.out))) (Kd.S_lt (by (with_reducible repeat (first | apply Kd.S_alloc | apply Kd.S_drewN | apply Kd.S_drew)); exact HO263.out))) (below_size (by repeat (first | (with_reducible first | exact HB.out | apply below_alloc | apply pw_below_drewN | apply below_drew1) | exact HB.out)))); have n4_ := Aside0.mk (Kd.R_lower ho1 (below_size (by repeat (first | (with_reducible first | exact HB.out | apply below_alloc | apply pw_below_drewN | apply below_drew1) | exact HB.out)))); have n5_ := Aside0.mk (below_step (by repeat (first | (with_reducible first | exact HB.out | apply below_alloc | apply pw_below_drewN | apply below_drew1) | exact HB.out)) hb); clear HO257; clear HO260; clear HO263; clear HB; have HO257 := n0_; have HO260 := n1_; have HO263 := n2_; have HO268 := n3_; have HO270 := n4_; have HB := n5_; clear n0_ n1_ n2_ n3_ n4_ n5_; (try clear hb); (try clear hb2); (try clear hk); (try clear hi); (try clear ho0); (try clear ho1)) | ((with_reducible refine gate_callee (f := 8) rfl ?_); refine goesL_ (some 109) rfl rfl Tryd.func8 (by kernel_rfl) rfl #[.slice A0 l0.length c0] rfl (by (try simp only [List.map_toArray, List.map_cons, List.map_nil]); first | done | rfl | (simp only [List.length_drop, List.length_take]; rfl)) ?_; (with_reducible refine (vellumlaw18_twins.calls kj48 _ _ l0 t271 _ ?side1 ?side2 A79.out).mono ?_); (case side1 => repeat (first | exact (Kd.C_below HR0.out HB.out) | (with_reducible refine Kd.C_alloc ?_ _) | (with_reducible refine Kd.C_drewN ?_ _) | (with_reducible refine Kd.C_drew ?_))); (case side2 => exact HC0.out); rintro e w91 ⟨v272, rfl, ho0, hb⟩; refine ⟨_, rfl, ?_⟩; have n0_ := Aside0.mk (Kd.S_elder' (by (with_reducible repeat (first | apply Kd.S_alloc | apply Kd.S_drewN | apply Kd.S_drew)); exact HO257.out) (Kd.S_base ho0) hb); have n1_ := Aside0.mk (Kd.S_elder' (by (with_reducible repeat (first | apply Kd.S_alloc | apply Kd.S_drewN | apply Kd.S_drew)); exact HO260.out) (Kd.S_base ho0) hb); have n2_ := Aside0.mk (Kd.S_elder' (by (with_reducible repeat (first | apply Kd.S_alloc | apply Kd.S_drewN | apply Kd.S_drew)); exact HO263.out) (Kd.S_base ho0) hb); have n3_ := Aside0.mk (Kd.S_elder' (by (with_reducible repeat (first | apply Kd.S_alloc | apply Kd.S_drewN | apply Kd.S_drew)); exact HO268.out) (Kd.S_base ho0) hb); have n4_ := Aside0.mk (Kd.R_below (by (with_reducible repeat (first | apply Kd.R_alloc | apply Kd.R_drewN | apply Kd.R_drew)); exact HO270.out) hb); have n5_ := Aside0.mk (Kd.S_lower (Kd.S_new' (Kd.S_new' (Kd.S_new' (Kd.S_new' ho0 (Kd.S_lt (by (with_reducible repeat (first | apply Kd.S_alloc | apply Kd.S_drewN | apply Kd.S_drew)); exact HO257.out))) (Kd.S_lt (by (with_reducible repeat (first | apply Kd.S_alloc | apply Kd.S_drewN | apply Kd.S_drew)); exact HO260.out))) (Kd.S_lt (by (with_reducible repeat (first | apply Kd.S_alloc | apply Kd.S_drewN | apply Kd.S_drew)); exact HO263.out))) (Kd.S_lt (by (with_reducible repeat (first | apply Kd.S_alloc | apply Kd.S_drewN | apply Kd.S_drew)); exact HO268.out))) (below_size (by repeat (first | (with_reducible first | exact HB.out | apply below_alloc | apply pw_below_drewN | apply below_drew1) | exact HB.out)))); have n6_ := Aside0.mk (below_step (by repeat (first | (with_reducible first | exact HB.out | apply below_alloc | apply pw_below_drewN | apply below_drew1) | exact HB.out)) hb); clear HO257; clear HO260; clear HO263; clear HO268; clear HO270; clear HB; have HO257 := n0_; have HO260 := n1_; have HO263 := n2_; have HO268 := n3_; have HO270 := n4_; have HO273 := n5_; have HB := n6_; clear n0_ n1_ n2_ n3_ n4_ n5_ n6_; (try clear hb); (try clear hb2); (try clear hk); (try clear hi); (try clear ho0)) | ((with_reducible refine gate_callee (f := 8) rfl ?_); refine goesL_ (some 111) rfl rfl Tryd.func8 (by kernel_rfl) rfl #[.slice A2 l2.length c2] rfl (by (try simp only [List.map_toArray, List.map_cons, List.map_nil]); first | done | rfl | (simp only [List.length_drop, List.length_take]; rfl)) ?_; (with_reducible refine (vellumlaw18_twins.calls kj48 _ _ l2 t274 _ ?side1 ?side2 A80.out).mono ?_); (case side1 => repeat (first | exact (Kd.C_below HR2.out HB.out) | (with_reducible refine Kd.C_alloc ?_ _) | (with_reducible refine Kd.C_drewN ?_ _) | (with_reducible refine Kd.C_drew ?_))); (case side2 => exact HC2.out); rintro e w92 ⟨v275, rfl, ho0, hb⟩; refine ⟨_, rfl, ?_⟩; have n0_ := Aside0.mk (Kd.S_elder' (by (with_reducible repeat (first | apply Kd.S_alloc | apply Kd.S_drewN | apply Kd.S_drew)); exact HO257.out) (Kd.S_base ho0) hb); have n1_ := Aside0.mk (Kd.S_elder' (by (with_reducible repeat (first | apply Kd.S_alloc | apply Kd.S_drewN | apply Kd.S_drew)); exact HO260.out) (Kd.S_base ho0) hb); have n2_ := Aside0.mk (Kd.S_elder' (by (with_reducible repeat (first | apply Kd.S_alloc | apply Kd.S_drewN | apply Kd.S_drew)); exact HO263.out) (Kd.S_base ho0) hb); have n3_ := Aside0.mk (Kd.S_elder' (by (with_reducible repeat (first | apply Kd.S_alloc | apply Kd.S_drewN | apply Kd.S_drew)); exact HO268.out) (Kd.S_base ho0) hb); have n4_ := Aside0.mk (Kd.R_below (by (with_reducible repeat (first | apply Kd.R_alloc | apply Kd.R_drewN | apply Kd.R_drew)); exact HO270.out) hb); have n5_ := Aside0.mk (Kd.S_elder' (by (with_reducible repeat (first | apply Kd.S_alloc | apply Kd.S_drewN | apply Kd.S_drew)); exact HO273.out) (Kd.S_base ho0) hb); have n6_ := Aside0.mk (Kd.S_lower (Kd.S_new' (Kd.S_new' (Kd.S_new' (Kd.S_new' (Kd.S_new' ho0 (Kd.S_lt (by (with_reducible repeat (first | apply Kd.S_alloc | apply Kd.S_drewN | apply Kd.S_drew)); exact HO257.out))) (Kd.S_lt (by (with_reducible repeat (first | apply Kd.S_alloc | apply Kd.S_drewN | apply Kd.S_drew)); exact HO260.out))) (Kd.S_lt (by (with_reducible repeat (first | apply Kd.S_alloc | apply Kd.S_drewN | apply Kd.S_drew)); exact HO263.out))) (Kd.S_lt (by (with_reducible repeat (first | apply Kd.S_alloc | apply Kd.S_drewN | apply Kd.S_drew)); exact HO268.out))) (Kd.S_lt (by (with_reducible repeat (first | apply Kd.S_alloc | apply Kd.S_drewN | apply Kd.S_drew)); exact HO273.out))) (below_size (by repeat (first | (with_reducible first | exact HB.out | apply below_alloc | apply pw_below_drewN | apply below_drew1) | exact HB.out)))); have n7_ := Aside0.mk (below_step (by repeat (first | (with_reducible first | exact HB.out | apply below_alloc | apply pw_below_drewN | apply below_drew1) | exact HB.out)) hb); clear HO257; clear HO260; clear HO263; clear HO268; clear HO270; clear HO273; clear HB; have HO257 := n0_; have HO260 := n1_; have HO263 := n2_; have HO268 := n3_; have HO270 := n4_; have HO273 := n5_; have HO276 := n6_; have HB := n7_; clear n0_ n1_ n2_ n3_ n4_ n5_ n6_ n7_; (try clear hb); (try clear hb2); (try clear hk); (try clear hi); (try clear ho0)) | ((with_reducible refine gate_callee (f := 8) rfl ?_); refine goesL_ (some 113) rfl rfl Tryd.func8 (by kernel_rfl) rfl #[.slice A1 l1.length c1] rfl (by (try simp only [List.map_toArray, List.map_cons, List.map_nil]); first | done | rfl | (simp only [List.length_drop, List.length_take]; rfl)) ?_; (with_reducible refine (vellumlaw18_twins.calls kj48 _ _ l1 t277 _ ?side1 ?side2 A81.out).mono ?_); (case side1 => repeat (first | exact (Kd.C_below HR1.out HB.out) | (with_reducible refine Kd.C_alloc ?_ _) | (with_reducible refine Kd.C_drewN ?_ _) | (with_reducible refine Kd.C_drew ?_))); (case side2 => exact HC1.out); rintro e w93 ⟨v278, rfl, ho0, hb⟩; refine ⟨_, rfl, ?_⟩; have n0_ := Aside0.mk (Kd.S_elder' (by (with_reducible repeat (first | apply Kd.S_alloc | apply Kd.S_drewN | apply Kd.S_drew)); exact HO257.out) (Kd.S_base ho0) hb); have n1_ := Aside0.mk (Kd.S_elder' (by (with_reducible repeat (first | apply Kd.S_alloc | apply Kd.S_drewN | apply Kd.S_drew)); exact HO260.out) (Kd.S_base ho0) hb); have n2_ := Aside0.mk (Kd.S_elder' (by (with_reducible repeat (first | apply Kd.S_alloc | apply Kd.S_drewN | apply Kd.S_drew)); exact HO263.out) (Kd.S_base ho0) hb); have n3_ := Aside0.mk (Kd.S_elder' (by (with_reducible repeat (first | apply Kd.S_alloc | apply Kd.S_drewN | apply Kd.S_drew)); exact HO268.out) (Kd.S_base ho0) hb); have n4_ := Aside0.mk (Kd.R_below (by (with_reducible repeat (first | apply Kd.R_alloc | apply Kd.R_drewN | apply Kd.R_drew)); exact HO270.out) hb); have n5_ := Aside0.mk (Kd.S_elder' (by (with_reducible repeat (first | apply Kd.S_alloc | apply Kd.S_drewN | apply Kd.S_drew)); exact HO273.out) (Kd.S_base ho0) hb); have n6_ := Aside0.mk (Kd.S_elder' (by (with_reducible repeat (first | apply Kd.S_alloc | apply Kd.S_drewN | apply Kd.S_drew)); exact HO276.out) (Kd.S_base ho0) hb); have n7_ := Aside0.mk (Kd.S_lower (Kd.S_new' (Kd.S_new' (Kd.S_new' (Kd.S_new' (Kd.S_new' (Kd.S_new' ho0 (Kd.S_lt (by (with_reducible repeat (first | apply Kd.S_alloc | apply Kd.S_drewN | apply Kd.S_drew)); exact HO257.out))) (Kd.S_lt (by (with_reducible repeat (first | apply Kd.S_alloc | apply Kd.S_drewN | apply Kd.S_drew)); exact HO260.out))) (Kd.S_lt (by (with_reducible repeat (first | apply Kd.S_alloc | apply Kd.S_drewN | apply Kd.S_drew)); exact HO263.out))) (Kd.S_lt (by (with_reducible repeat (first | apply Kd.S_alloc | apply Kd.S_drewN | apply Kd.S_drew)); exact HO268.out))) (Kd.S_lt (by (with_reducible repeat (first | apply Kd.S_alloc | apply Kd.S_drewN | apply Kd.S_drew)); exact HO273.out))) (Kd.S_lt (by (with_reducible repeat (first | apply Kd.S_alloc | apply Kd.S_drewN | apply Kd.S_drew)); exact HO276.out))) (below_size (by repeat (first | (with_reducible first | exact HB.out | apply below_alloc | apply pw_below_drewN | apply below_drew1) | exact HB.out)))); have n8_ := Aside0.mk (below_step (by repeat (first | (with_reducible first | exact HB.out | apply below_alloc | apply pw_below_drewN | apply below_drew1) | exact HB.out)) hb); clear HO257; clear HO260; clear HO263; clear HO268; clear HO270; clear HO273; clear HO276; clear HB; have HO257 := n0_; have HO260 := n1_; have HO263 := n2_; have HO268 := n3_; have HO270 := n4_; have HO273 := n5_; have HO276 := n6_; have HO279 := n7_; have HB := n8_; clear n0_ n1_ n2_ n3_ n4_ n5_ n6_ n7_ n8_; (try clear hb); (try clear hb2); (try clear hk); (try clear hi); (try clear ho0); obtain ⟨Ao94, co94, eo94⟩ := Kd.S_slice HO273.out; subst eo94; obtain ⟨Ao95, co95, eo95⟩ := Kd.S_slice HO276.out; subst eo95; obtain ⟨Ao96, co96, eo96⟩ := Kd.S_slice HO279.out; subst eo96) | ((with_reducible refine gate_callee (f := 7) rfl ?_); refine goesL_ (some 114) rfl rfl Tryd.func7 (by kernel_rfl) rfl #[.slice Ao94 t271.length co94, .slice Ao95 t274.length co95, .slice Ao96 t277.length co96] rfl (by (try simp only [List.map_toArray, List.map_cons, List.map_nil]); first | done | rfl | (simp only [List.length_drop, List.length_take]; rfl)) ?_; (with_reducible refine (patch_Merge.calls _ _ t271 _ _ t274 _ _ t277 t280 t281 t282 _ ?side1 ?side2 ?side3 ?side4 ?side5 ?side6 A82.out).mono ?_); (case side1 => repeat (first | exact (Kd.S_reads' HO273.out).2.2 | (with_reducible refine Kd.C_alloc ?_ _) | (with_reducible refine Kd.C_drewN ?_ _) | (with_reducible refine Kd.C_drew ?_))); (case side2 => exact (Kd.S_reads' HO273.out).2.1); (case side3 => repeat (first | exact (Kd.S_reads' HO276.out).2.2 | (with_reducible refine Kd.C_alloc ?_ _) | (with_reducible refine Kd.C_drewN ?_ _) | (with_reducible refine Kd.C_drew ?_))); (case side4 => exact (Kd.S_reads' HO276.out).2.1); (case side5 => repeat (first | exact (Kd.S_reads' HO279.out).2.2 | (with_reducible refine Kd.C_alloc ?_ _) | (with_reducible refine Kd.C_drewN ?_ _) | (with_reducible refine Kd.C_drew ?_))); (case side6 => exact (Kd.S_reads' HO279.out).2.1); rintro e w97 ⟨v283, v285, rfl, ho0, ho1, hb⟩; refine ⟨_, rfl, ?_⟩; have n0_ := Aside0.mk (Kd.S_elder' (by (with_reducible repeat (first | apply Kd.S_alloc | apply Kd.S_drewN | apply Kd.S_drew)); exact HO257.out) (Kd.S_base ho0) hb); have n1_ := Aside0.mk (Kd.S_elder' (by (with_reducible repeat (first | apply Kd.S_alloc | apply Kd.S_drewN | apply Kd.S_drew)); exact HO260.out) (Kd.S_base ho0) hb); have n2_ := Aside0.mk (Kd.S_elder' (by (with_reducible repeat (first | apply Kd.S_alloc | apply Kd.S_drewN | apply Kd.S_drew)); exact HO263.out) (Kd.S_base ho0) hb); have n3_ := Aside0.mk (Kd.S_elder' (by (with_reducible repeat (first | apply Kd.S_alloc | apply Kd.S_drewN | apply Kd.S_drew)); exact HO268.out) (Kd.S_base ho0) hb); have n4_ := Aside0.mk (Kd.R_elder' (by (with_reducible repeat (first | apply Kd.R_alloc | apply Kd.R_drewN | apply Kd.R_drew)); exact HO270.out) (Kd.R_base ho1) hb); have n5_ := Aside0.mk (Kd.S_elder' (by (with_reducible repeat (first | apply Kd.S_alloc | apply Kd.S_drewN | apply Kd.S_drew)); exact HO273.out) (Kd.S_base ho0) hb); have n6_ := Aside0.mk (Kd.S_elder' (by (with_reducible repeat (first | apply Kd.S_alloc | apply Kd.S_drewN | apply Kd.S_drew)); exact HO276.out) (Kd.S_base ho0) hb); have n7_ := Aside0.mk (Kd.S_elder' (by (with_reducible repeat (first | apply Kd.S_alloc | apply Kd.S_drewN | apply Kd.S_drew)); exact HO279.out) (Kd.S_base ho0) hb); have n8_ := Aside0.mk (Kd.S_lower (Kd.S_new' (Kd.S_new' (Kd.S_new' (Kd.S_new' (Kd.S_new' (Kd.S_new' (Kd.S_new' ho0 (Kd.S_lt (by (with_reducible repeat (first | apply Kd.S_alloc | apply Kd.S_drewN | apply Kd.S_drew)); exact HO257.out))) (Kd.S_lt (by (with_reducible repeat (first | apply Kd.S_alloc | apply Kd.S_drewN | apply Kd.S_drew)); exact HO260.out))) (Kd.S_lt (by (with_reducible repeat (first | apply Kd.S_alloc | apply Kd.S_drewN | apply Kd.S_drew)); exact HO263.out))) (Kd.S_lt (by (with_reducible repeat (first | apply Kd.S_alloc | apply Kd.S_drewN | apply Kd.S_drew)); exact HO268.out))) (Kd.S_lt (by (with_reducible repeat (first | apply Kd.S_alloc | apply Kd.S_drewN | apply Kd.S_drew)); exact HO273.out))) (Kd.S_lt (by (with_reducible repeat (first | apply Kd.S_alloc | apply Kd.S_drewN | apply Kd.S_drew)); exact HO276.out))) (Kd.S_lt (by (with_reducible repeat (first | apply Kd.S_alloc | apply Kd.S_drewN | apply Kd.S_drew)); exact HO279.out))) (below_size (by repeat (first | (with_reducible first | exact HB.out | apply below_alloc | apply pw_below_drewN | apply below_drew1) | exact HB.out)))); have n9_ := Aside0.mk (Kd.R_lower (Kd.R_new' ho1 (Kd.R_lt (by (with_reducible repeat (first | apply Kd.R_alloc | apply Kd.R_drewN | apply Kd.R_drew)); exact HO270.out))) (below_size (by repeat (first | (with_reducible first | exact HB.out | apply below_alloc | apply pw_below_drewN | apply below_drew1) | exact HB.out)))); have n10_ := Aside0.mk (below_step (by repeat (first | (with_reducible first | exact HB.out | apply below_alloc | apply pw_below_drewN | apply below_drew1) | exact HB.out)) hb); clear HO257; clear HO260; clear HO263; clear HO268; clear HO270; clear HO273; clear HO276; clear HO279; clear HB; have HO257 := n0_; have HO260 := n1_; have HO263 := n2_; have HO268 := n3_; have HO270 := n4_; have HO273 := n5_; have HO276 := n6_; have HO279 := n7_; have HO284 := n8_; have HO286 := n9_; have HB := n10_; clear n0_ n1_ n2_ n3_ n4_ n5_ n6_ n7_ n8_ n9_ n10_; (try clear hb); (try clear hb2); (try clear hk); (try clear hi); (try clear ho0); (try clear ho1)))
                (try simp only [Act.put, List.setIfInBounds_toArray, List.set_cons_zero, List.set_cons_succ])
                go_cut [125] (fun v125 wc => ∃ (kq : Nat) (x125_82 : Bool), v125 = .bool x125_82 ∧ Aside0 (vellumlaw18_PatchThree.j2 kq l1 l2 t264 t265 t266 t280 t281 t282 x125_82 = some r) ∧ Aside0 (kq ≤ kj48) ∧ Aside0 (Kd.S k27 27 wc w.heap.size (fun k_ => some k_ ≠ (v283 : Value).ownBlock) v267 t264) ∧ Aside0 (Kd.R k38 38 wc w.heap.size (fun k_ => some k_ ≠ (v285 : Value).ownBlock) v269 t265) ∧ Aside0 (Kd.S k27 27 wc w.heap.size (fun k_ => some k_ ≠ (v267 : Value).ownBlock) v283 t280) ∧ Aside0 (Kd.R k38 38 wc w.heap.size (fun k_ => some k_ ≠ (v269 : Value).ownBlock) v285 t281) ∧ Aside0 (Below w.heap.size w wc))
                case first =>
                  have H := HC83.out
                  clear HC83
                  replace H := Option.bind_eq_some_iff.mp H
                  obtain ⟨t287, A980, H⟩ := H
                  replace H : (if t287 = 0 then ((vellumlaw18_num.f t282).bind fun t288 => (vellumlaw18_PatchThree.j2 kj48 l1 l2 t264 t265 t266 t280 t281 t282 (t288 != 0))) else (vellumlaw18_PatchThree.j2 kj48 l1 l2 t264 t265 t266 t280 t281 t282 true)) = some r := H
                  have A98 := Aside0.mk A980
                  clear A980
                  by_cases c99 : t287 = 0
                  · rw [if_pos c99] at H
                    have c99b0 : (t287 == 0) = true := beq_iff_eq.mpr c99
                    have c99b1 : (t287 != 0) = false := bne_eq_false_iff_eq.mpr c99
                    clear c99
                    (first | rw [c99b0] | (simp only [i64_w, i32_w]; rw [c99b0]) | skip)
                    replace H := Option.bind_eq_some_iff.mp H
                    obtain ⟨t288, A1000, H⟩ := H
                    replace H : (vellumlaw18_PatchThree.j2 kj48 l1 l2 t264 t265 t266 t280 t281 t282 (t288 != 0)) = some r := H
                    have A100 := Aside0.mk A1000
                    clear A1000
                    have H' := Aside0.mk H
                    clear H
                    go_wp2_with (first | ((with_reducible refine gate_callee (f := 9) rfl ?_); refine goesL_ (some 119) rfl rfl Tryd.func9 (by kernel_rfl) rfl #[.int .i64 t266] rfl (by (try simp only [List.map_toArray, List.map_cons, List.map_nil]); first | done | rfl | (simp only [List.length_drop, List.length_take]; rfl)) ?_; (with_reducible refine (vellumlaw18_num.calls t266 t287 _ A98.out).mono ?_); rintro e w' ⟨rfl, ⟨nd, rfl⟩⟩; refine ⟨_, rfl, ?_⟩) | (go_at_call 9; (with_reducible refine (vellumlaw18_num.calls t282 t288 _ A100.out).mono ?_); rintro e w' ⟨rfl, ⟨nd, rfl⟩⟩))
                    go_meet
                    case rel => exact ⟨_, ((t288 != 0)), (by first | rfl | (simp; done) | (simp [*]; done)), H', ⟨by have := HJ5.out; have := HJ48.out; first | omega | exact Nat.le_refl _⟩, ⟨by (with_reducible repeat (first | apply Kd.S_alloc | apply Kd.S_drewN | apply Kd.S_drew)); exact Kd.S_mono HO268.out (fun _ hk => hk.2)⟩, ⟨by (with_reducible repeat (first | apply Kd.R_alloc | apply Kd.R_drewN | apply Kd.R_drew)); exact Kd.R_mono HO270.out (fun _ hk => hk.2)⟩, ⟨by (with_reducible repeat (first | apply Kd.S_alloc | apply Kd.S_drewN | apply Kd.S_drew)); exact Kd.S_mono HO284.out (fun _ hk => hk.1.1.1.2)⟩, ⟨by (with_reducible repeat (first | apply Kd.R_alloc | apply Kd.R_drewN | apply Kd.R_drew)); exact Kd.R_mono HO286.out (fun _ hk => hk.2)⟩, ⟨by repeat (first | (with_reducible first | exact HB.out | apply below_alloc | apply pw_below_drewN | apply below_drew1) | exact HB.out)⟩⟩
                  · rw [if_neg c99] at H
                    have c99b0 : (t287 == 0) = false := beq_eq_false_iff_ne.mpr c99
                    have c99b1 : (t287 != 0) = true := bne_iff_ne.mpr c99
                    (first | rw [c99b0] | (simp only [i64_w, i32_w]; rw [c99b0]) | skip)
                    have H' := Aside0.mk H
                    clear H
                    go_wp2_with (first | ((with_reducible refine gate_callee (f := 9) rfl ?_); refine goesL_ (some 119) rfl rfl Tryd.func9 (by kernel_rfl) rfl #[.int .i64 t266] rfl (by (try simp only [List.map_toArray, List.map_cons, List.map_nil]); first | done | rfl | (simp only [List.length_drop, List.length_take]; rfl)) ?_; (with_reducible refine (vellumlaw18_num.calls t266 t287 _ A98.out).mono ?_); rintro e w' ⟨rfl, ⟨nd, rfl⟩⟩; refine ⟨_, rfl, ?_⟩))
                    go_meet
                    case rel => exact ⟨_, (true), (by first | rfl | (simp; done) | (simp [*]; done)), H', ⟨by have := HJ5.out; have := HJ48.out; first | omega | exact Nat.le_refl _⟩, ⟨by (with_reducible repeat (first | apply Kd.S_alloc | apply Kd.S_drewN | apply Kd.S_drew)); exact Kd.S_mono HO268.out (fun _ hk => hk.2)⟩, ⟨by (with_reducible repeat (first | apply Kd.R_alloc | apply Kd.R_drewN | apply Kd.R_drew)); exact Kd.R_mono HO270.out (fun _ hk => hk.2)⟩, ⟨by (with_reducible repeat (first | apply Kd.S_alloc | apply Kd.S_drewN | apply Kd.S_drew)); exact Kd.S_mono HO284.out (fun _ hk => hk.1.1.1.2)⟩, ⟨by (with_reducible repeat (first | apply Kd.R_alloc | apply Kd.R_drewN | apply Kd.R_drew)); exact Kd.R_mono HO286.out (fun _ hk => hk.2)⟩, ⟨by repeat (first | (with_reducible first | exact HB.out | apply below_alloc | apply pw_below_drewN | apply below_drew1) | exact HB.out)⟩⟩
                case rest =>
                  clear HC83
                  try clear c1
                  try clear c2
                  try clear p2
                  try clear c3
                  try clear c5
                  try clear c6
                  try clear c7
                  try clear c8
                  try clear c9
                  try clear c15
                  try clear c17
                  try clear c25
                  try clear c31
                  try clear c31b0
                  try clear c31b1
                  try clear c51
                  try clear c53
                  try clear c55
                  try clear c57
                  try clear c74
                  try clear c99
                  try clear c99b0
                  try clear c99b1
                  try clear p2
                  obtain ⟨kq, x125_82, rfl, HA, HJ82, HO_10, HO_11, HO_13, HO_14, HB⟩ := hcut
                  cases kq with
                  | zero => exact absurd HA.out (by simp [vellumlaw18_PatchThree.j2])
                  | succ kj82 =>
                    have H := HA.out
                    clear HA
                    simp only [vellumlaw18_PatchThree.j2] at H
                    by_cases c101 : x125_82 = true
                    · subst c101
                      have H1 : ((vellumlaw18_much.f kj82 l1 l2).bind fun t289 => (if t289 = true then ((vellumlaw18_num.f t266).bind fun t290 => (if t290 = 0 then ((vellumlaw18_num.f t282).bind fun t291 => (if t291 = 0 then (some true) else ((vellumlaw18_num.f t282).bind fun t292 => (some (t292 == 7))))) else ((vellumlaw18_num.f t266).bind fun t293 => (if t293 = 7 then ((vellumlaw18_num.f t282).bind fun t294 => (if t294 = 0 then (some true) else ((vellumlaw18_num.f t282).bind fun t295 => (some (t295 == 7))))) else (some false))))) else (some false))) = some r := by rw [if_pos rfl] at H; exact H
                      clear H
                      have H := H1
                      clear H1
                      replace H := Option.bind_eq_some_iff.mp H
                      obtain ⟨t289, A1020, H⟩ := H
                      replace H : (if t289 = true then ((vellumlaw18_num.f t266).bind fun t290 => (if t290 = 0 then ((vellumlaw18_num.f t282).bind fun t291 => (if t291 = 0 then (some true) else ((vellumlaw18_num.f t282).bind fun t292 => (some (t292 == 7))))) else ((vellumlaw18_num.f t266).bind fun t293 => (if t293 = 7 then ((vellumlaw18_num.f t282).bind fun t294 => (if t294 = 0 then (some true) else ((vellumlaw18_num.f t282).bind fun t295 => (some (t295 == 7))))) else (some false))))) else (some false)) = some r := H
                      have A102 := Aside0.mk A1020
                      clear A1020
                      by_cases c103 : t289 = true
                      · subst c103
                        have H1 : ((vellumlaw18_num.f t266).bind fun t290 => (if t290 = 0 then ((vellumlaw18_num.f t282).bind fun t291 => (if t291 = 0 then (some true) else ((vellumlaw18_num.f t282).bind fun t292 => (some (t292 == 7))))) else ((vellumlaw18_num.f t266).bind fun t293 => (if t293 = 7 then ((vellumlaw18_num.f t282).bind fun t294 => (if t294 = 0 then (some true) else ((vellumlaw18_num.f t282).bind fun t295 => (some (t295 == 7))))) else (some false))))) = some r := by rw [if_pos rfl] at H; exact H
                        clear H
                        have H := H1
                        clear H1
                        replace H := Option.bind_eq_some_iff.mp H
                        obtain ⟨t290, A1040, H⟩ := H
                        replace H : (if t290 = 0 then ((vellumlaw18_num.f t282).bind fun t291 => (if t291 = 0 then (some true) else ((vellumlaw18_num.f t282).bind fun t292 => (some (t292 == 7))))) else ((vellumlaw18_num.f t266).bind fun t293 => (if t293 = 7 then ((vellumlaw18_num.f t282).bind fun t294 => (if t294 = 0 then (some true) else ((vellumlaw18_num.f t282).bind fun t295 => (some (t295 == 7))))) else (some false)))) = some r := H
                        have A104 := Aside0.mk A1040
                        clear A1040
                        by_cases c105 : t290 = 0
                        · rw [if_pos c105] at H
                          have c105b0 : (t290 == 0) = true := beq_iff_eq.mpr c105
                          have c105b1 : (t290 != 0) = false := bne_eq_false_iff_eq.mpr c105
                          clear c105
                          replace H := Option.bind_eq_some_iff.mp H
                          obtain ⟨t291, A1060, H⟩ := H
                          replace H : (if t291 = 0 then (some true) else ((vellumlaw18_num.f t282).bind fun t292 => (some (t292 == 7)))) = some r := H
                          have A106 := Aside0.mk A1060
                          clear A1060
                          by_cases c107 : t291 = 0
                          · rw [if_pos c107] at H
                            have c107b0 : (t291 == 0) = true := beq_iff_eq.mpr c107
                            have c107b1 : (t291 != 0) = false := bne_eq_false_iff_eq.mpr c107
                            clear c107
                            obtain rfl := Option.some.inj H
                            go_wp2_with (first | ((with_reducible refine gate_callee (f := 11) rfl ?_); refine goesL_ (some 128) rfl rfl Tryd.func11 (by kernel_rfl) rfl #[.slice A1 l1.length c1, .slice A2 l2.length c2] rfl (by (try simp only [List.map_toArray, List.map_cons, List.map_nil]); first | done | rfl | (simp only [List.length_drop, List.length_take]; rfl)) ?_; (with_reducible refine (vellumlaw18_much.calls kj82 _ _ l1 _ _ l2 true _ ?side1 ?side2 ?side3 ?side4 A102.out).mono ?_); (case side1 => repeat (first | exact (Kd.C_below HR1.out HB.out) | (with_reducible refine Kd.C_alloc ?_ _) | (with_reducible refine Kd.C_drewN ?_ _) | (with_reducible refine Kd.C_drew ?_))); (case side2 => exact HC1.out); (case side3 => repeat (first | exact (Kd.C_below HR2.out HB.out) | (with_reducible refine Kd.C_alloc ?_ _) | (with_reducible refine Kd.C_drewN ?_ _) | (with_reducible refine Kd.C_drew ?_))); (case side4 => exact HC2.out); rintro e w108 ⟨rfl, hb⟩; refine ⟨_, rfl, ?_⟩; have n0_ := Aside0.mk (Kd.S_below (by (with_reducible repeat (first | apply Kd.S_alloc | apply Kd.S_drewN | apply Kd.S_drew)); exact HO_10.out) hb); have n1_ := Aside0.mk (Kd.R_below (by (with_reducible repeat (first | apply Kd.R_alloc | apply Kd.R_drewN | apply Kd.R_drew)); exact HO_11.out) hb); have n2_ := Aside0.mk (Kd.S_below (by (with_reducible repeat (first | apply Kd.S_alloc | apply Kd.S_drewN | apply Kd.S_drew)); exact HO_13.out) hb); have n3_ := Aside0.mk (Kd.R_below (by (with_reducible repeat (first | apply Kd.R_alloc | apply Kd.R_drewN | apply Kd.R_drew)); exact HO_14.out) hb); have n4_ := Aside0.mk (below_step (by repeat (first | (with_reducible first | exact HB.out | apply below_alloc | apply pw_below_drewN | apply below_drew1) | exact HB.out)) hb); clear HO_10; clear HO_11; clear HO_13; clear HO_14; clear HB; have HO_10 := n0_; have HO_11 := n1_; have HO_13 := n2_; have HO_14 := n3_; have HB := n4_; clear n0_ n1_ n2_ n3_ n4_; (try clear hb); (try clear hb2); (try clear hk); (try clear hi)) | (go_at_call 9; (with_reducible refine (vellumlaw18_num.calls t266 t290 _ A104.out).mono ?_); rintro e w' ⟨rfl, ⟨nd, rfl⟩⟩) | (go_at_call 9; (with_reducible refine (vellumlaw18_num.calls t282 t291 _ A106.out).mono ?_); rintro e w' ⟨rfl, ⟨nd, rfl⟩⟩))
                            go_ret
                            exact ⟨by first | rfl | (simp [errW_none, errW_some] <;> rfl) | (simp [*, errW_none, errW_some] <;> rfl), by repeat (first | (with_reducible first | exact HB.out | apply below_alloc | apply pw_below_drewN | apply below_drew1) | exact HB.out)⟩
                          · rw [if_neg c107] at H
                            have c107b0 : (t291 == 0) = false := beq_eq_false_iff_ne.mpr c107
                            have c107b1 : (t291 != 0) = true := bne_iff_ne.mpr c107
                            replace H := Option.bind_eq_some_iff.mp H
                            obtain ⟨t292, A1090, H⟩ := H
                            obtain rfl : t292 = t291 := Option.some.inj (A1090.symm.trans A106.out)
                            replace H : (some (t292 == 7)) = some r := H
                            have A109 := Aside0.mk A1090
                            clear A1090
                            obtain rfl := Option.some.inj H
                            go_wp2_with (first | ((with_reducible refine gate_callee (f := 11) rfl ?_); refine goesL_ (some 128) rfl rfl Tryd.func11 (by kernel_rfl) rfl #[.slice A1 l1.length c1, .slice A2 l2.length c2] rfl (by (try simp only [List.map_toArray, List.map_cons, List.map_nil]); first | done | rfl | (simp only [List.length_drop, List.length_take]; rfl)) ?_; (with_reducible refine (vellumlaw18_much.calls kj82 _ _ l1 _ _ l2 true _ ?side1 ?side2 ?side3 ?side4 A102.out).mono ?_); (case side1 => repeat (first | exact (Kd.C_below HR1.out HB.out) | (with_reducible refine Kd.C_alloc ?_ _) | (with_reducible refine Kd.C_drewN ?_ _) | (with_reducible refine Kd.C_drew ?_))); (case side2 => exact HC1.out); (case side3 => repeat (first | exact (Kd.C_below HR2.out HB.out) | (with_reducible refine Kd.C_alloc ?_ _) | (with_reducible refine Kd.C_drewN ?_ _) | (with_reducible refine Kd.C_drew ?_))); (case side4 => exact HC2.out); rintro e w110 ⟨rfl, hb⟩; refine ⟨_, rfl, ?_⟩; have n0_ := Aside0.mk (Kd.S_below (by (with_reducible repeat (first | apply Kd.S_alloc | apply Kd.S_drewN | apply Kd.S_drew)); exact HO_10.out) hb); have n1_ := Aside0.mk (Kd.R_below (by (with_reducible repeat (first | apply Kd.R_alloc | apply Kd.R_drewN | apply Kd.R_drew)); exact HO_11.out) hb); have n2_ := Aside0.mk (Kd.S_below (by (with_reducible repeat (first | apply Kd.S_alloc | apply Kd.S_drewN | apply Kd.S_drew)); exact HO_13.out) hb); have n3_ := Aside0.mk (Kd.R_below (by (with_reducible repeat (first | apply Kd.R_alloc | apply Kd.R_drewN | apply Kd.R_drew)); exact HO_14.out) hb); have n4_ := Aside0.mk (below_step (by repeat (first | (with_reducible first | exact HB.out | apply below_alloc | apply pw_below_drewN | apply below_drew1) | exact HB.out)) hb); clear HO_10; clear HO_11; clear HO_13; clear HO_14; clear HB; have HO_10 := n0_; have HO_11 := n1_; have HO_13 := n2_; have HO_14 := n3_; have HB := n4_; clear n0_ n1_ n2_ n3_ n4_; (try clear hb); (try clear hb2); (try clear hk); (try clear hi)) | (go_at_call 9; (with_reducible refine (vellumlaw18_num.calls t266 t290 _ A104.out).mono ?_); rintro e w' ⟨rfl, ⟨nd, rfl⟩⟩) | (go_at_call 9; (with_reducible refine (vellumlaw18_num.calls t282 t291 _ A106.out).mono ?_); rintro e w' ⟨rfl, ⟨nd, rfl⟩⟩) | (go_at_call 9; (with_reducible refine (vellumlaw18_num.calls t282 t292 _ A109.out).mono ?_); rintro e w' ⟨rfl, ⟨nd, rfl⟩⟩))
                            go_ret
                            exact ⟨by first | rfl | (simp [errW_none, errW_some] <;> rfl) | (simp [*, errW_none, errW_some] <;> rfl), by repeat (first | (with_reducible first | exact HB.out | apply below_alloc | apply pw_below_drewN | apply below_drew1) | exact HB.out)⟩
                        · rw [if_neg c105] at H
                          have c105b0 : (t290 == 0) = false := beq_eq_false_iff_ne.mpr c105
                          have c105b1 : (t290 != 0) = true := bne_iff_ne.mpr c105
                          replace H := Option.bind_eq_some_iff.mp H
                          obtain ⟨t293, A1110, H⟩ := H
                          obtain rfl : t293 = t290 := Option.some.inj (A1110.symm.trans A104.out)
                          replace H : (if t293 = 7 then ((vellumlaw18_num.f t282).bind fun t294 => (if t294 = 0 then (some true) else ((vellumlaw18_num.f t282).bind fun t295 => (some (t295 == 7))))) else (some false)) = some r := H
                          have A111 := Aside0.mk A1110
                          clear A1110
                          by_cases c112 : t293 = 7
                          · rw [if_pos c112] at H
                            have c112b0 : (t293 == 7) = true := beq_iff_eq.mpr c112
                            have c112b1 : (t293 != 7) = false := bne_eq_false_iff_eq.mpr c112
                            clear c112
                            replace H := Option.bind_eq_some_iff.mp H
                            obtain ⟨t294, A1130, H⟩ := H
                            replace H : (if t294 = 0 then (some true) else ((vellumlaw18_num.f t282).bind fun t295 => (some (t295 == 7)))) = some r := H
                            have A113 := Aside0.mk A1130
                            clear A1130
                            by_cases c114 : t294 = 0
                            · rw [if_pos c114] at H
                              have c114b0 : (t294 == 0) = true := beq_iff_eq.mpr c114
                              have c114b1 : (t294 != 0) = false := bne_eq_false_iff_eq.mpr c114
                              clear c114
                              obtain rfl := Option.some.inj H
                              go_wp2_with (first | ((with_reducible refine gate_callee (f := 11) rfl ?_); refine goesL_ (some 128) rfl rfl Tryd.func11 (by kernel_rfl) rfl #[.slice A1 l1.length c1, .slice A2 l2.length c2] rfl (by (try simp only [List.map_toArray, List.map_cons, List.map_nil]); first | done | rfl | (simp only [List.length_drop, List.length_take]; rfl)) ?_; (with_reducible refine (vellumlaw18_much.calls kj82 _ _ l1 _ _ l2 true _ ?side1 ?side2 ?side3 ?side4 A102.out).mono ?_); (case side1 => repeat (first | exact (Kd.C_below HR1.out HB.out) | (with_reducible refine Kd.C_alloc ?_ _) | (with_reducible refine Kd.C_drewN ?_ _) | (with_reducible refine Kd.C_drew ?_))); (case side2 => exact HC1.out); (case side3 => repeat (first | exact (Kd.C_below HR2.out HB.out) | (with_reducible refine Kd.C_alloc ?_ _) | (with_reducible refine Kd.C_drewN ?_ _) | (with_reducible refine Kd.C_drew ?_))); (case side4 => exact HC2.out); rintro e w115 ⟨rfl, hb⟩; refine ⟨_, rfl, ?_⟩; have n0_ := Aside0.mk (Kd.S_below (by (with_reducible repeat (first | apply Kd.S_alloc | apply Kd.S_drewN | apply Kd.S_drew)); exact HO_10.out) hb); have n1_ := Aside0.mk (Kd.R_below (by (with_reducible repeat (first | apply Kd.R_alloc | apply Kd.R_drewN | apply Kd.R_drew)); exact HO_11.out) hb); have n2_ := Aside0.mk (Kd.S_below (by (with_reducible repeat (first | apply Kd.S_alloc | apply Kd.S_drewN | apply Kd.S_drew)); exact HO_13.out) hb); have n3_ := Aside0.mk (Kd.R_below (by (with_reducible repeat (first | apply Kd.R_alloc | apply Kd.R_drewN | apply Kd.R_drew)); exact HO_14.out) hb); have n4_ := Aside0.mk (below_step (by repeat (first | (with_reducible first | exact HB.out | apply below_alloc | apply pw_below_drewN | apply below_drew1) | exact HB.out)) hb); clear HO_10; clear HO_11; clear HO_13; clear HO_14; clear HB; have HO_10 := n0_; have HO_11 := n1_; have HO_13 := n2_; have HO_14 := n3_; have HB := n4_; clear n0_ n1_ n2_ n3_ n4_; (try clear hb); (try clear hb2); (try clear hk); (try clear hi)) | (go_at_call 9; (with_reducible refine (vellumlaw18_num.calls t266 t290 _ A104.out).mono ?_); rintro e w' ⟨rfl, ⟨nd, rfl⟩⟩) | (go_at_call 9; (with_reducible refine (vellumlaw18_num.calls t266 t293 _ A111.out).mono ?_); rintro e w' ⟨rfl, ⟨nd, rfl⟩⟩) | (go_at_call 9; (with_reducible refine (vellumlaw18_num.calls t282 t294 _ A113.out).mono ?_); rintro e w' ⟨rfl, ⟨nd, rfl⟩⟩))
                              go_ret
                              exact ⟨by first | rfl | (simp [errW_none, errW_some] <;> rfl) | (simp [*, errW_none, errW_some] <;> rfl), by repeat (first | (with_reducible first | exact HB.out | apply below_alloc | apply pw_below_drewN | apply below_drew1) | exact HB.out)⟩
                            · rw [if_neg c114] at H
                              have c114b0 : (t294 == 0) = false := beq_eq_false_iff_ne.mpr c114
                              have c114b1 : (t294 != 0) = true := bne_iff_ne.mpr c114
                              replace H := Option.bind_eq_some_iff.mp H
                              obtain ⟨t295, A1160, H⟩ := H
                              obtain rfl : t295 = t294 := Option.some.inj (A1160.symm.trans A113.out)
                              replace H : (some (t295 == 7)) = some r := H
                              have A116 := Aside0.mk A1160
                              clear A1160
                              obtain rfl := Option.some.inj H
                              go_wp2_with (first | ((with_reducible refine gate_callee (f := 11) rfl ?_); refine goesL_ (some 128) rfl rfl Tryd.func11 (by kernel_rfl) rfl #[.slice A1 l1.length c1, .slice A2 l2.length c2] rfl (by (try simp only [List.map_toArray, List.map_cons, List.map_nil]); first | done | rfl | (simp only [List.length_drop, List.length_take]; rfl)) ?_; (with_reducible refine (vellumlaw18_much.calls kj82 _ _ l1 _ _ l2 true _ ?side1 ?side2 ?side3 ?side4 A102.out).mono ?_); (case side1 => repeat (first | exact (Kd.C_below HR1.out HB.out) | (with_reducible refine Kd.C_alloc ?_ _) | (with_reducible refine Kd.C_drewN ?_ _) | (with_reducible refine Kd.C_drew ?_))); (case side2 => exact HC1.out); (case side3 => repeat (first | exact (Kd.C_below HR2.out HB.out) | (with_reducible refine Kd.C_alloc ?_ _) | (with_reducible refine Kd.C_drewN ?_ _) | (with_reducible refine Kd.C_drew ?_))); (case side4 => exact HC2.out); rintro e w117 ⟨rfl, hb⟩; refine ⟨_, rfl, ?_⟩; have n0_ := Aside0.mk (Kd.S_below (by (with_reducible repeat (first | apply Kd.S_alloc | apply Kd.S_drewN | apply Kd.S_drew)); exact HO_10.out) hb); have n1_ := Aside0.mk (Kd.R_below (by (with_reducible repeat (first | apply Kd.R_alloc | apply Kd.R_drewN | apply Kd.R_drew)); exact HO_11.out) hb); have n2_ := Aside0.mk (Kd.S_below (by (with_reducible repeat (first | apply Kd.S_alloc | apply Kd.S_drewN | apply Kd.S_drew)); exact HO_13.out) hb); have n3_ := Aside0.mk (Kd.R_below (by (with_reducible repeat (first | apply Kd.R_alloc | apply Kd.R_drewN | apply Kd.R_drew)); exact HO_14.out) hb); have n4_ := Aside0.mk (below_step (by repeat (first | (with_reducible first | exact HB.out | apply below_alloc | apply pw_below_drewN | apply below_drew1) | exact HB.out)) hb); clear HO_10; clear HO_11; clear HO_13; clear HO_14; clear HB; have HO_10 := n0_; have HO_11 := n1_; have HO_13 := n2_; have HO_14 := n3_; have HB := n4_; clear n0_ n1_ n2_ n3_ n4_; (try clear hb); (try clear hb2); (try clear hk); (try clear hi)) | (go_at_call 9; (with_reducible refine (vellumlaw18_num.calls t266 t290 _ A104.out).mono ?_); rintro e w' ⟨rfl, ⟨nd, rfl⟩⟩) | (go_at_call 9; (with_reducible refine (vellumlaw18_num.calls t266 t293 _ A111.out).mono ?_); rintro e w' ⟨rfl, ⟨nd, rfl⟩⟩) | (go_at_call 9; (with_reducible refine (vellumlaw18_num.calls t282 t294 _ A113.out).mono ?_); rintro e w' ⟨rfl, ⟨nd, rfl⟩⟩) | (go_at_call 9; (with_reducible refine (vellumlaw18_num.calls t282 t295 _ A116.out).mono ?_); rintro e w' ⟨rfl, ⟨nd, rfl⟩⟩))
                              go_ret
                              exact ⟨by first | rfl | (simp [errW_none, errW_some] <;> rfl) | (simp [*, errW_none, errW_some] <;> rfl), by repeat (first | (with_reducible first | exact HB.out | apply below_alloc | apply pw_below_drewN | apply below_drew1) | exact HB.out)⟩
                          · rw [if_neg c112] at H
                            have c112b0 : (t293 == 7) = false := beq_eq_false_iff_ne.mpr c112
                            have c112b1 : (t293 != 7) = true := bne_iff_ne.mpr c112
                            obtain rfl := Option.some.inj H
                            go_wp2_with (first | ((with_reducible refine gate_callee (f := 11) rfl ?_); refine goesL_ (some 128) rfl rfl Tryd.func11 (by kernel_rfl) rfl #[.slice A1 l1.length c1, .slice A2 l2.length c2] rfl (by (try simp only [List.map_toArray, List.map_cons, List.map_nil]); first | done | rfl | (simp only [List.length_drop, List.length_take]; rfl)) ?_; (with_reducible refine (vellumlaw18_much.calls kj82 _ _ l1 _ _ l2 true _ ?side1 ?side2 ?side3 ?side4 A102.out).mono ?_); (case side1 => repeat (first | exact (Kd.C_below HR1.out HB.out) | (with_reducible refine Kd.C_alloc ?_ _) | (with_reducible refine Kd.C_drewN ?_ _) | (with_reducible refine Kd.C_drew ?_))); (case side2 => exact HC1.out); (case side3 => repeat (first | exact (Kd.C_below HR2.out HB.out) | (with_reducible refine Kd.C_alloc ?_ _) | (with_reducible refine Kd.C_drewN ?_ _) | (with_reducible refine Kd.C_drew ?_))); (case side4 => exact HC2.out); rintro e w118 ⟨rfl, hb⟩; refine ⟨_, rfl, ?_⟩; have n0_ := Aside0.mk (Kd.S_below (by (with_reducible repeat (first | apply Kd.S_alloc | apply Kd.S_drewN | apply Kd.S_drew)); exact HO_10.out) hb); have n1_ := Aside0.mk (Kd.R_below (by (with_reducible repeat (first | apply Kd.R_alloc | apply Kd.R_drewN | apply Kd.R_drew)); exact HO_11.out) hb); have n2_ := Aside0.mk (Kd.S_below (by (with_reducible repeat (first | apply Kd.S_alloc | apply Kd.S_drewN | apply Kd.S_drew)); exact HO_13.out) hb); have n3_ := Aside0.mk (Kd.R_below (by (with_reducible repeat (first | apply Kd.R_alloc | apply Kd.R_drewN | apply Kd.R_drew)); exact HO_14.out) hb); have n4_ := Aside0.mk (below_step (by repeat (first | (with_reducible first | exact HB.out | apply below_alloc | apply pw_below_drewN | apply below_drew1) | exact HB.out)) hb); clear HO_10; clear HO_11; clear HO_13; clear HO_14; clear HB; have HO_10 := n0_; have HO_11 := n1_; have HO_13 := n2_; have HO_14 := n3_; have HB := n4_; clear n0_ n1_ n2_ n3_ n4_; (try clear hb); (try clear hb2); (try clear hk); (try clear hi)) | (go_at_call 9; (with_reducible refine (vellumlaw18_num.calls t266 t290 _ A104.out).mono ?_); rintro e w' ⟨rfl, ⟨nd, rfl⟩⟩) | (go_at_call 9; (with_reducible refine (vellumlaw18_num.calls t266 t293 _ A111.out).mono ?_); rintro e w' ⟨rfl, ⟨nd, rfl⟩⟩))
                            go_ret
                            exact ⟨by first | rfl | (simp [errW_none, errW_some] <;> rfl) | (simp [*, errW_none, errW_some] <;> rfl), by repeat (first | (with_reducible first | exact HB.out | apply below_alloc | apply pw_below_drewN | apply below_drew1) | exact HB.out)⟩
                      · replace c103 := Bool.eq_false_iff.mpr c103
                        subst c103
                        have H1 : (some false) = some r := by rw [if_neg (show ¬ (false = true) by decide)] at H; exact H
                        clear H
                        have H := H1
                        clear H1
                        obtain rfl := Option.some.inj H
                        go_wp2_with (first | ((with_reducible refine gate_callee (f := 11) rfl ?_); refine goesL_ (some 128) rfl rfl Tryd.func11 (by kernel_rfl) rfl #[.slice A1 l1.length c1, .slice A2 l2.length c2] rfl (by (try simp only [List.map_toArray, List.map_cons, List.map_nil]); first | done | rfl | (simp only [List.length_drop, List.length_take]; rfl)) ?_; (with_reducible refine (vellumlaw18_much.calls kj82 _ _ l1 _ _ l2 false _ ?side1 ?side2 ?side3 ?side4 A102.out).mono ?_); (case side1 => repeat (first | exact (Kd.C_below HR1.out HB.out) | (with_reducible refine Kd.C_alloc ?_ _) | (with_reducible refine Kd.C_drewN ?_ _) | (with_reducible refine Kd.C_drew ?_))); (case side2 => exact HC1.out); (case side3 => repeat (first | exact (Kd.C_below HR2.out HB.out) | (with_reducible refine Kd.C_alloc ?_ _) | (with_reducible refine Kd.C_drewN ?_ _) | (with_reducible refine Kd.C_drew ?_))); (case side4 => exact HC2.out); rintro e w119 ⟨rfl, hb⟩; refine ⟨_, rfl, ?_⟩; have n0_ := Aside0.mk (Kd.S_below (by (with_reducible repeat (first | apply Kd.S_alloc | apply Kd.S_drewN | apply Kd.S_drew)); exact HO_10.out) hb); have n1_ := Aside0.mk (Kd.R_below (by (with_reducible repeat (first | apply Kd.R_alloc | apply Kd.R_drewN | apply Kd.R_drew)); exact HO_11.out) hb); have n2_ := Aside0.mk (Kd.S_below (by (with_reducible repeat (first | apply Kd.S_alloc | apply Kd.S_drewN | apply Kd.S_drew)); exact HO_13.out) hb); have n3_ := Aside0.mk (Kd.R_below (by (with_reducible repeat (first | apply Kd.R_alloc | apply Kd.R_drewN | apply Kd.R_drew)); exact HO_14.out) hb); have n4_ := Aside0.mk (below_step (by repeat (first | (with_reducible first | exact HB.out | apply below_alloc | apply pw_below_drewN | apply below_drew1) | exact HB.out)) hb); clear HO_10; clear HO_11; clear HO_13; clear HO_14; clear HB; have HO_10 := n0_; have HO_11 := n1_; have HO_13 := n2_; have HO_14 := n3_; have HB := n4_; clear n0_ n1_ n2_ n3_ n4_; (try clear hb); (try clear hb2); (try clear hk); (try clear hi)))
                        go_ret
                        exact ⟨by first | rfl | (simp [errW_none, errW_some] <;> rfl) | (simp [*, errW_none, errW_some] <;> rfl), by repeat (first | (with_reducible first | exact HB.out | apply below_alloc | apply pw_below_drewN | apply below_drew1) | exact HB.out)⟩
                    · replace c101 := Bool.eq_false_iff.mpr c101
                      subst c101
                      have H1 : (vellumlaw18_PatchThree.l0 kj82 t264 t265 t280 t281 false 0) = some r := by rw [if_neg (show ¬ (false = true) by decide)] at H; exact H
                      clear H
                      have H := H1
                      clear H1
                      have H' := Aside0.mk H
                      clear H
                      go_wp2
                      go_loopg [16, 17] kj82 (fun kq v16 v17 w' => ∃ (x16_4 : Bool) (x17_4 : Int), v16 = .bool x16_4 ∧ v17 = .int .i64 x17_4 ∧ Aside0 (vellumlaw18_PatchThree.l0 kq t264 t265 t280 t281 x16_4 x17_4 = some r) ∧ Aside0 (kq ≤ kj82) ∧ Aside0 (Kd.S k27 27 w' w.heap.size (fun k_ => some k_ ≠ (v283 : Value).ownBlock) v267 t264) ∧ Aside0 (Kd.R k38 38 w' w.heap.size (fun k_ => some k_ ≠ (v285 : Value).ownBlock) v269 t265) ∧ Aside0 (Kd.S k27 27 w' w.heap.size (fun k_ => some k_ ≠ (v267 : Value).ownBlock) v283 t280) ∧ Aside0 (Kd.R k38 38 w' w.heap.size (fun k_ => some k_ ≠ (v269 : Value).ownBlock) v285 t281) ∧ Aside0 (Below w.heap.size w w'))
                      case atStart => exact ⟨(false), (0), (by first | rfl | (simp; done) | (simp [*]; done)), (by first | rfl | (simp; done) | (simp [*]; done)), H', ⟨Nat.le_refl _⟩, ⟨by (with_reducible repeat (first | apply Kd.S_alloc | apply Kd.S_drewN | apply Kd.S_drew)); exact HO_10.out⟩, ⟨by (with_reducible repeat (first | apply Kd.R_alloc | apply Kd.R_drewN | apply Kd.R_drew)); exact HO_11.out⟩, ⟨by (with_reducible repeat (first | apply Kd.S_alloc | apply Kd.S_drewN | apply Kd.S_drew)); exact HO_13.out⟩, ⟨by (with_reducible repeat (first | apply Kd.R_alloc | apply Kd.R_drewN | apply Kd.R_drew)); exact HO_14.out⟩, ⟨by repeat (first | (with_reducible first | exact HB.out | apply below_alloc | apply pw_below_drewN | apply below_drew1) | exact HB.out)⟩⟩
                      case round =>
                        clear H'
                        try clear c1
                        try clear c2
                        try clear p2
                        try clear c3
                        try clear c5
                        try clear c6
                        try clear c7
                        try clear c8
                        try clear c9
                        try clear c10
                        try clear c11
                        try clear c15
                        try clear c17
                        try clear c25
                        try clear c31
                        try clear c31b0
                        try clear c31b1
                        try clear c51
                        try clear c53
                        try clear c55
                        try clear c57
                        try clear c74
                        try clear c99
                        try clear c99b0
                        try clear c99b1
                        try clear c101
                        try clear c103
                        try clear c105
                        try clear c105b0
                        try clear c105b1
                        try clear c107
                        try clear c107b0
                        try clear c107b1
                        try clear c112
                        try clear c112b0
                        try clear c112b1
                        try clear c114
                        try clear c114b0
                        try clear c114b1
                        try clear p2
                        obtain ⟨x16_4, x17_4, rfl, rfl, HA, HK4, HO_10, HO_11, HO_13, HO_14, HB⟩ := hrel
                        cases gk with
                        | zero => exact absurd HA.out (by simp [vellumlaw18_PatchThree.l0])
                        | succ k4 =>
                          have H := HA.out
                          clear HA
                          simp only [vellumlaw18_PatchThree.l0] at H
                          by_cases c120 : x17_4 < (t265.length : Int)
                          · rw [if_pos c120] at H
                            have c120b0 : decide (x17_4 < (t265.length : Int)) = true := decide_eq_true c120
                            clear c120
                            by_cases c121 : x16_4 = true
                            · subst c121
                              have H1 : (vellumlaw18_PatchThree.l0 k4 t264 t265 t280 t281 true (wrap64 (x17_4 + 1))) = some r := by rw [if_pos rfl] at H; exact H
                              clear H
                              have H := H1
                              clear H1
                              have H' := Aside0.mk H
                              clear H
                              obtain ⟨Ao122, co122, eo122⟩ := Kd.R_slice HO_11.out
                              subst eo122
                              go_wp2
                              go_roundg k4
                              case measure => have := HJ5.out; have := HJ48.out; have := HJ82.out; have := HK4.out; omega
                              case rel => exact ⟨(true), (wrap64 (x17_4 + 1)), (by first | rfl | (simp; done) | (simp [*]; done)), (by first | rfl | (simp; done) | (simp [*]; done)), H', ⟨by have := HJ5.out; have := HJ48.out; have := HJ82.out; have := HK4.out; omega⟩, ⟨by (with_reducible repeat (first | apply Kd.S_alloc | apply Kd.S_drewN | apply Kd.S_drew)); exact HO_10.out⟩, ⟨by (with_reducible repeat (first | apply Kd.R_alloc | apply Kd.R_drewN | apply Kd.R_drew)); exact HO_11.out⟩, ⟨by (with_reducible repeat (first | apply Kd.S_alloc | apply Kd.S_drewN | apply Kd.S_drew)); exact HO_13.out⟩, ⟨by (with_reducible repeat (first | apply Kd.R_alloc | apply Kd.R_drewN | apply Kd.R_drew)); exact HO_14.out⟩, ⟨by repeat (first | (with_reducible first | exact HB.out | apply below_alloc | apply pw_below_drewN | apply below_drew1) | exact HB.out)⟩⟩
                            · replace c121 := Bool.eq_false_iff.mpr c121
                              subst c121
                              have H1 : (if 0 ≤ x17_4 then (vellumlaw18_PatchThree.l0 k4 t264 t265 t280 t281 (((rd_T38 t265 x17_4).f0) == 1) (wrap64 (x17_4 + 1))) else (none)) = some r := by rw [if_neg (show ¬ (false = true) by decide)] at H; exact H
                              clear H
                              have H := H1
                              clear H1
                              by_cases c123 : 0 ≤ x17_4
                              · rw [if_pos c123] at H
                                have c123b0 : decide (0 ≤ x17_4) = true := decide_eq_true c123
                                clear c123
                                have H' := Aside0.mk H
                                clear H
                                obtain ⟨Ao124, co124, eo124⟩ := Kd.R_slice HO_11.out
                                subst eo124
                                have p296 : 0 ≤ (x17_4 : Int) := of_decide_eq_true (by first | (with_reducible assumption) | assumption)
                                have q296 : x17_4 < (t265.length : Int) := of_decide_eq_true (by first | (with_reducible assumption) | assumption)
                                obtain ⟨ad296, e296, hx296_0, hx296_1⟩ := at_T38 (Kd.R_reads' HO_11.out).2.2 x17_4 p296 q296
                                cases e296
                                replace p296 := eq_true p296
                                replace q296 := eq_true q296
                                go_wp2
                                go_roundg k4
                                case measure => have := HJ5.out; have := HJ48.out; have := HJ82.out; have := HK4.out; omega
                                case rel => exact ⟨((((rd_T38 t265 x17_4).f0) == 1)), (wrap64 (x17_4 + 1)), (by first | rfl | (simp; done) | (simp [*]; done)), (by first | rfl | (simp; done) | (simp [*]; done)), H', ⟨by have := HJ5.out; have := HJ48.out; have := HJ82.out; have := HK4.out; omega⟩, ⟨by (with_reducible repeat (first | apply Kd.S_alloc | apply Kd.S_drewN | apply Kd.S_drew)); exact HO_10.out⟩, ⟨by (with_reducible repeat (first | apply Kd.R_alloc | apply Kd.R_drewN | apply Kd.R_drew)); exact HO_11.out⟩, ⟨by (with_reducible repeat (first | apply Kd.S_alloc | apply Kd.S_drewN | apply Kd.S_drew)); exact HO_13.out⟩, ⟨by (with_reducible repeat (first | apply Kd.R_alloc | apply Kd.R_drewN | apply Kd.R_drew)); exact HO_14.out⟩, ⟨by repeat (first | (with_reducible first | exact HB.out | apply below_alloc | apply pw_below_drewN | apply below_drew1) | exact HB.out)⟩⟩
                              · rw [if_neg c123] at H
                                exact absurd H (by simp)
                          · rw [if_neg c120] at H
                            have c120b0 : decide (x17_4 < (t265.length : Int)) = false := decide_eq_false c120
                            clear c120
                            by_cases c125 : x16_4 = true
                            · subst c125
                              have H1 : (some true) = some r := by rw [if_pos rfl] at H; exact H
                              clear H
                              have H := H1
                              clear H1
                              obtain rfl := Option.some.inj H
                              obtain ⟨Ao126, co126, eo126⟩ := Kd.R_slice HO_11.out
                              subst eo126
                              go_wp2
                              go_ret
                              exact ⟨by first | rfl | (simp [errW_none, errW_some] <;> rfl) | (simp [*, errW_none, errW_some] <;> rfl), by repeat (first | (with_reducible first | exact HB.out | apply below_alloc | apply pw_below_drewN | apply below_drew1) | exact HB.out)⟩
                            · replace c125 := Bool.eq_false_iff.mpr c125
                              subst c125
                              have H1 : ((vellumlaw18_sameItems.f k4 t264 t280).bind fun t297 => (if t297 = true then ((vellumlaw18_sameConflicts.f k4 t265 t281).bind fun t298 => (some t298)) else (some false))) = some r := by rw [if_neg (show ¬ (false = true) by decide)] at H; exact H
                              clear H
                              have H := H1
                              clear H1
                              replace H := Option.bind_eq_some_iff.mp H
                              obtain ⟨t297, A1270, H⟩ := H
                              replace H : (if t297 = true then ((vellumlaw18_sameConflicts.f k4 t265 t281).bind fun t298 => (some t298)) else (some false)) = some r := H
                              have A127 := Aside0.mk A1270
                              clear A1270
                              by_cases c128 : t297 = true
                              · subst c128
                                have H1 : ((vellumlaw18_sameConflicts.f k4 t265 t281).bind fun t298 => (some t298)) = some r := by rw [if_pos rfl] at H; exact H
                                clear H
                                have H := H1
                                clear H1
                                replace H := Option.bind_eq_some_iff.mp H
                                obtain ⟨t298, A1290, H⟩ := H
                                replace H : (some t298) = some r := H
                                have A129 := Aside0.mk A1290
                                clear A1290
                                obtain rfl := Option.some.inj H
                                obtain ⟨Ao130, co130, eo130⟩ := Kd.R_slice HO_11.out
                                subst eo130
                                obtain ⟨Ao131, co131, eo131⟩ := Kd.S_slice HO_10.out
                                subst eo131
                                obtain ⟨Ao132, co132, eo132⟩ := Kd.S_slice HO_13.out
                                subst eo132
                                go_wp2_with (first | (go_at_call 12; (with_reducible refine (vellumlaw18_sameItems.calls k4 _ _ t264 _ _ t280 true _ ?side1 ?side2 ?side3 ?side4 A127.out).mono ?_); (case side1 => repeat (first | exact (Kd.S_reads' HO_10.out).2.2 | (with_reducible refine Kd.C_alloc ?_ _) | (with_reducible refine Kd.C_drewN ?_ _) | (with_reducible refine Kd.C_drew ?_))); (case side2 => exact (Kd.S_reads' HO_10.out).2.1); (case side3 => repeat (first | exact (Kd.S_reads' HO_13.out).2.2 | (with_reducible refine Kd.C_alloc ?_ _) | (with_reducible refine Kd.C_drewN ?_ _) | (with_reducible refine Kd.C_drew ?_))); (case side4 => exact (Kd.S_reads' HO_13.out).2.1); rintro e w133 ⟨rfl, hb⟩; have n0_ := Aside0.mk (Kd.S_below (by (with_reducible repeat (first | apply Kd.S_alloc | apply Kd.S_drewN | apply Kd.S_drew)); exact HO_10.out) hb); have n1_ := Aside0.mk (Kd.R_below (by (with_reducible repeat (first | apply Kd.R_alloc | apply Kd.R_drewN | apply Kd.R_drew)); exact HO_11.out) hb); have n2_ := Aside0.mk (Kd.S_below (by (with_reducible repeat (first | apply Kd.S_alloc | apply Kd.S_drewN | apply Kd.S_drew)); exact HO_13.out) hb); have n3_ := Aside0.mk (Kd.R_below (by (with_reducible repeat (first | apply Kd.R_alloc | apply Kd.R_drewN | apply Kd.R_drew)); exact HO_14.out) hb); have n4_ := Aside0.mk (below_step (by repeat (first | (with_reducible first | exact HB.out | apply below_alloc | apply pw_below_drewN | apply below_drew1) | exact HB.out)) hb); clear HO_10; clear HO_11; clear HO_13; clear HO_14; clear HB; have HO_10 := n0_; have HO_11 := n1_; have HO_13 := n2_; have HO_14 := n3_; have HB := n4_; clear n0_ n1_ n2_ n3_ n4_; (try clear hb); (try clear hb2); (try clear hk); (try clear hi); obtain ⟨Ao134, co134, eo134⟩ := Kd.R_slice HO_14.out; subst eo134) | (go_at_call 13; (with_reducible refine (vellumlaw18_sameConflicts.calls k4 _ _ t265 _ _ t281 t298 _ ?side1 ?side2 ?side3 ?side4 A129.out).mono ?_); (case side1 => repeat (first | exact (Kd.R_reads' HO_11.out).2.2 | (with_reducible refine Kd.C_alloc ?_ _) | (with_reducible refine Kd.C_drewN ?_ _) | (with_reducible refine Kd.C_drew ?_))); (case side2 => exact (Kd.R_reads' HO_11.out).2.1); (case side3 => repeat (first | exact (Kd.R_reads' HO_14.out).2.2 | (with_reducible refine Kd.C_alloc ?_ _) | (with_reducible refine Kd.C_drewN ?_ _) | (with_reducible refine Kd.C_drew ?_))); (case side4 => exact (Kd.R_reads' HO_14.out).2.1); rintro e w' ⟨rfl, ⟨nd, rfl⟩⟩))
                                go_ret
                                exact ⟨by first | rfl | (simp [errW_none, errW_some] <;> rfl) | (simp [*, errW_none, errW_some] <;> rfl), by repeat (first | (with_reducible first | exact HB.out | apply below_alloc | apply pw_below_drewN | apply below_drew1) | exact HB.out)⟩
                              · replace c128 := Bool.eq_false_iff.mpr c128
                                subst c128
                                have H1 : (some false) = some r := by rw [if_neg (show ¬ (false = true) by decide)] at H; exact H
                                clear H
                                have H := H1
                                clear H1
                                obtain rfl := Option.some.inj H
                                obtain ⟨Ao135, co135, eo135⟩ := Kd.R_slice HO_11.out
                                subst eo135
                                obtain ⟨Ao136, co136, eo136⟩ := Kd.S_slice HO_10.out
                                subst eo136
                                obtain ⟨Ao137, co137, eo137⟩ := Kd.S_slice HO_13.out
                                subst eo137
                                go_wp2_with (first | (go_at_call 12; (with_reducible refine (vellumlaw18_sameItems.calls k4 _ _ t264 _ _ t280 false _ ?side1 ?side2 ?side3 ?side4 A127.out).mono ?_); (case side1 => repeat (first | exact (Kd.S_reads' HO_10.out).2.2 | (with_reducible refine Kd.C_alloc ?_ _) | (with_reducible refine Kd.C_drewN ?_ _) | (with_reducible refine Kd.C_drew ?_))); (case side2 => exact (Kd.S_reads' HO_10.out).2.1); (case side3 => repeat (first | exact (Kd.S_reads' HO_13.out).2.2 | (with_reducible refine Kd.C_alloc ?_ _) | (with_reducible refine Kd.C_drewN ?_ _) | (with_reducible refine Kd.C_drew ?_))); (case side4 => exact (Kd.S_reads' HO_13.out).2.1); rintro e w138 ⟨rfl, hb⟩; have n0_ := Aside0.mk (Kd.S_below (by (with_reducible repeat (first | apply Kd.S_alloc | apply Kd.S_drewN | apply Kd.S_drew)); exact HO_10.out) hb); have n1_ := Aside0.mk (Kd.R_below (by (with_reducible repeat (first | apply Kd.R_alloc | apply Kd.R_drewN | apply Kd.R_drew)); exact HO_11.out) hb); have n2_ := Aside0.mk (Kd.S_below (by (with_reducible repeat (first | apply Kd.S_alloc | apply Kd.S_drewN | apply Kd.S_drew)); exact HO_13.out) hb); have n3_ := Aside0.mk (Kd.R_below (by (with_reducible repeat (first | apply Kd.R_alloc | apply Kd.R_drewN | apply Kd.R_drew)); exact HO_14.out) hb); have n4_ := Aside0.mk (below_step (by repeat (first | (with_reducible first | exact HB.out | apply below_alloc | apply pw_below_drewN | apply below_drew1) | exact HB.out)) hb); clear HO_10; clear HO_11; clear HO_13; clear HO_14; clear HB; have HO_10 := n0_; have HO_11 := n1_; have HO_13 := n2_; have HO_14 := n3_; have HB := n4_; clear n0_ n1_ n2_ n3_ n4_; (try clear hb); (try clear hb2); (try clear hk); (try clear hi)))
                                go_ret
                                exact ⟨by first | rfl | (simp [errW_none, errW_some] <;> rfl) | (simp [*, errW_none, errW_some] <;> rfl), by repeat (first | (with_reducible first | exact HB.out | apply below_alloc | apply pw_below_drewN | apply below_drew1) | exact HB.out)⟩
  · replace c5 := Bool.eq_false_iff.mpr c5
    subst c5
    have H1 : (some false) = some r := by rw [if_neg (show ¬ (false = true) by decide)] at H; exact H
    clear H
    have H := H1
    clear H1
    obtain rfl := Option.some.inj H
    go_enter Tryd.func3, Tryd.ntmps3
    go_wp2_with (first | ((with_reducible refine gate_dst (N := 19) rfl ?_); refine Kd.S_lit k27 _ 27 ?hg (N := 19) ?hd (xs := ([(⟨2, (⟨#[47, 100]⟩ : ByteArray), (⟨#[]⟩ : ByteArray), 0, ([] : List (S73)), ([] : List Int)⟩ : S27)] : List (S27))) (inner := [.int .i64 2, .string (⟨#[47, 100]⟩ : ByteArray), .string (⟨#[]⟩ : ByteArray), .int .i64 0, .slice none 0 0, .slice none 0 0]) (ok := fun _ => True) (okp := fun _ => True) ?hr ?hp (fun _ hk => hk) trivial (Below.refl _ _) (Nat.le_refl _) (by simp) ?_; (case hd => rfl); (case hg => rfl); (case hr => first | (go_simp; done) | (go_simp; rfl)); (case hp => exact (Reps.c6 (show Kd.M k27 _ _ _ (⟨2, (⟨#[47, 100]⟩ : ByteArray), (⟨#[]⟩ : ByteArray), 0, ([] : List (S73)), ([] : List Int)⟩ : S27) [.int .i64 2, .string (⟨#[47, 100]⟩ : ByteArray), .string (⟨#[]⟩ : ByteArray), .int .i64 0, .slice none 0 0, .slice none 0 0] from (k27_mkM _ _ _ (⟨2, (⟨#[47, 100]⟩ : ByteArray), (⟨#[]⟩ : ByteArray), 0, ([] : List (S73)), ([] : List Int)⟩ : S27) (Kd.R_nil _ _ _ _ _) (Kd.R_nil _ _ _ _ _))) (Reps.none _ _))); intro v222 w139 ho140 hb hg_ hnew_; clear hg_ hnew_; (first | rw [← Ny221.out] at ho140 | (simp only [Int.reduceToNat] at ho140; rw [← Ny221.out] at ho140)); have n0_ := Aside0.mk (Kd.S_lower ho140 (below_size (by repeat (first | (with_reducible first | exact HB.out | apply below_alloc | apply pw_below_drewN | apply below_drew1) | exact HB.out)))); have n1_ := Aside0.mk (below_step (by repeat (first | (with_reducible first | exact HB.out | apply below_alloc | apply pw_below_drewN | apply below_drew1) | exact HB.out)) hb); clear HB; have HO223 := n0_; have HB := n1_; clear n0_ n1_; clear hb ho140) | ((with_reducible refine gate_dst (N := 21) rfl ?_); refine Kd.S_lit k27 _ 27 ?hg (N := 21) ?hd (xs := ([(⟨2, (⟨#[47, 100]⟩ : ByteArray), (⟨#[]⟩ : ByteArray), 0, ([] : List (S73)), ([] : List Int)⟩ : S27)] : List (S27))) (inner := [.int .i64 2, .string (⟨#[47, 100]⟩ : ByteArray), .string (⟨#[]⟩ : ByteArray), .int .i64 0, .slice none 0 0, .slice none 0 0]) (ok := fun _ => True) (okp := fun _ => True) ?hr ?hp (fun _ hk => hk) trivial (Below.refl _ _) (Nat.le_refl _) (by simp) ?_; (case hd => rfl); (case hg => rfl); (case hr => first | (go_simp; done) | (go_simp; rfl)); (case hp => exact (Reps.c6 (show Kd.M k27 _ _ _ (⟨2, (⟨#[47, 100]⟩ : ByteArray), (⟨#[]⟩ : ByteArray), 0, ([] : List (S73)), ([] : List Int)⟩ : S27) [.int .i64 2, .string (⟨#[47, 100]⟩ : ByteArray), .string (⟨#[]⟩ : ByteArray), .int .i64 0, .slice none 0 0, .slice none 0 0] from (k27_mkM _ _ _ (⟨2, (⟨#[47, 100]⟩ : ByteArray), (⟨#[]⟩ : ByteArray), 0, ([] : List (S73)), ([] : List Int)⟩ : S27) (Kd.R_nil _ _ _ _ _) (Kd.R_nil _ _ _ _ _))) (Reps.none _ _))); intro v225 w141 ho142 hb hg_ hnew_; clear hg_ hnew_; (first | rw [← Ny224.out] at ho142 | (simp only [Int.reduceToNat] at ho142; rw [← Ny224.out] at ho142)); have n0_ := Aside0.mk (Kd.S_elder' (by (with_reducible repeat (first | apply Kd.S_alloc | apply Kd.S_drewN | apply Kd.S_drew)); exact HO223.out) (Kd.S_base ho142) hb); have n1_ := Aside0.mk (Kd.S_lower (Kd.S_new' ho142 (Kd.S_lt (by (with_reducible repeat (first | apply Kd.S_alloc | apply Kd.S_drewN | apply Kd.S_drew)); exact HO223.out))) (below_size (by repeat (first | (with_reducible first | exact HB.out | apply below_alloc | apply pw_below_drewN | apply below_drew1) | exact HB.out)))); have n2_ := Aside0.mk (below_step (by repeat (first | (with_reducible first | exact HB.out | apply below_alloc | apply pw_below_drewN | apply below_drew1) | exact HB.out)) hb); clear HO223; clear HB; have HO223 := n0_; have HO226 := n1_; have HB := n2_; clear n0_ n1_ n2_; clear hb ho142; obtain ⟨Ao143, co143, eo143⟩ := Kd.S_slice HO223.out; subst eo143; obtain ⟨Ao144, co144, eo144⟩ := Kd.S_slice HO226.out; subst eo144) | ((with_reducible refine gate_callee (f := 5) rfl ?_); refine goesL_ (some 22) rfl rfl Tryd.func5 (by kernel_rfl) rfl #[.slice none 0 0, .slice none 0 0, .slice Ao143 y221.length co143, .slice Ao144 y224.length co144] rfl (by (try simp only [List.map_toArray, List.map_cons, List.map_nil]); first | done | rfl | (simp only [List.length_drop, List.length_take]; rfl)) ?_; (refine (vellumlaw18_all.calls k _ _ ([] : List (S27)) _ _ ([] : List (S27)) _ _ y221 _ _ y224 false _ ?side1 ?side2 ?side3 ?side4 ?side5 ?side6 ?side7 ?side8 A4.out).mono ?_); (case side1 => exact Kd.C_nil _ _); (case side2 => exact Nat.le_refl _); (case side3 => exact Kd.C_nil _ _); (case side4 => exact Nat.le_refl _); (case side5 => repeat (first | exact (Kd.S_reads' HO223.out).2.2 | (with_reducible refine Kd.C_alloc ?_ _) | (with_reducible refine Kd.C_drewN ?_ _) | (with_reducible refine Kd.C_drew ?_))); (case side6 => exact (Kd.S_reads' HO223.out).2.1); (case side7 => repeat (first | exact (Kd.S_reads' HO226.out).2.2 | (with_reducible refine Kd.C_alloc ?_ _) | (with_reducible refine Kd.C_drewN ?_ _) | (with_reducible refine Kd.C_drew ?_))); (case side8 => exact (Kd.S_reads' HO226.out).2.1); rintro e w145 ⟨rfl, hb⟩; refine ⟨_, rfl, ?_⟩; have n0_ := Aside0.mk (Kd.S_below (by (with_reducible repeat (first | apply Kd.S_alloc | apply Kd.S_drewN | apply Kd.S_drew)); exact HO223.out) hb); have n1_ := Aside0.mk (Kd.S_below (by (with_reducible repeat (first | apply Kd.S_alloc | apply Kd.S_drewN | apply Kd.S_drew)); exact HO226.out) hb); have n2_ := Aside0.mk (below_step (by repeat (first | (with_reducible first | exact HB.out | apply below_alloc | apply pw_below_drewN | apply below_drew1) | exact HB.out)) hb); clear HO223; clear HO226; clear HB; have HO223 := n0_; have HO226 := n1_; have HB := n2_; clear n0_ n1_ n2_; (try clear hb); (try clear hb2); (try clear hk); (try clear hi)))
    go_ret
    exact ⟨by first | rfl | (simp [errW_none, errW_some] <;> rfl) | (simp [*, errW_none, errW_some] <;> rfl), by repeat (first | (with_reducible first | exact HB.out | apply below_alloc | apply pw_below_drewN | apply below_drew1) | exact HB.out)⟩
end Go.Proofs.YtkfikinjlbbibaaDoor.PT
