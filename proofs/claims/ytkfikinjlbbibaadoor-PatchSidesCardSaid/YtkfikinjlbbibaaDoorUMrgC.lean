/- Packed by this session's own program (wip/tools/pack.py): what the claim needs of its texts. -/
import Derived.Test.YtkfikinjlbbibaaDoorUMrgB
namespace Go.Proofs.YtkfikinjlbbibaaDoor
open Go.RowKit Go.Lib
open Go.Proofs.YtkfikinjlbbibaaDoorW.PrintWords Go.Proofs.YtkfikinjlbbibaaDoorW.PrintLast Go.Proofs.YtkfikinjlbbibaaDoor.PT
set_option linter.unusedVariables false
set_option linter.unusedSimpArgs false
def pickP (b l r : Option It) : Option It × Bool := if sameO l r || sameO r b then (l, false) else if sameO l b then (r, false) else (l, true)
def PickIs (b l r : Option It) (pl pr p : Value) : Prop := (p = pl ∧ (pickP b l r).1 = l) ∨ (p = pr ∧ (pickP b l r).1 = r)
def pickV (b l r : Option It) (pl pr : Value) : Value := if sameO l r || sameO r b then pl else if sameO l b then pr else pl
theorem pickV_is (b l r : Option It) (pl pr : Value) : PickIs b l r pl pr (pickV b l r pl pr) := by
  unfold PickIs pickV pickP
  by_cases h1 : (sameO l r || sameO r b) = true
  · rw [if_pos h1, if_pos h1]
    exact .inl ⟨rfl, rfl⟩
  · rw [if_neg h1, if_neg h1]
    by_cases h2 : sameO l b = true
    · rw [if_pos h2, if_pos h2]
      exact .inr ⟨rfl, rfl⟩
    · rw [if_neg h2, if_neg h2]
      exact .inl ⟨rfl, rfl⟩
set_option maxHeartbeats 8000000 in
set_option maxRecDepth 100000 in
theorem pick_any (pb pl pr : Value) (b l r : Option It) (w : World) (hb : OI w pb b) (hl : OI w pl l) (hr : OI w pr r) :
    Calls Tryd.prog 22 #[pb, pl, pr] w fun e w' => e = .returned (.tuple #[pickV b l r pl pr, .bool (pickP b l r).2]) ∧ Drawn0 w w' := by
  have c1 := fun n => same_any pl pr l r (w.drewN n) (hl.below (pw_below_drewN (Below.refl _ _) n)) (hr.below (pw_below_drewN (Below.refl _ _) n))
  have c2 := fun n => same_any pr pb r b (w.drewN n) (hr.below (pw_below_drewN (Below.refl _ _) n)) (hb.below (pw_below_drewN (Below.refl _ _) n))
  have c3 := fun n => same_any pl pb l b (w.drewN n) (hl.below (pw_below_drewN (Below.refl _ _) n)) (hb.below (pw_below_drewN (Below.refl _ _) n))
  have C1 := Aside0.mk c1
  have C2 := Aside0.mk c2
  have C3 := Aside0.mk c3
  clear c1 c2 c3 hb hl hr
  obtain ⟨e1, h1⟩ : ∃ e, sameO l r = e := ⟨_, rfl⟩
  obtain ⟨e2, h2⟩ : ∃ e, sameO r b = e := ⟨_, rfl⟩
  obtain ⟨e3, h3⟩ : ∃ e, sameO l b = e := ⟨_, rfl⟩
  have HP := Aside0.mk (show pickP b l r = if e1 || e2 then (l, false) else if e3 then (r, false) else (l, true) by unfold pickP; rw [h1, h2, h3])
  have HV := Aside0.mk (show pickV b l r pl pr = if e1 || e2 then pl else if e3 then pr else pl by unfold pickV; rw [h1, h2, h3])
  go_enter Tryd.func22, Tryd.ntmps22
  go_wp2_with fail
  refine (C1.out 0).mono ?_
  rw [h1]
  rintro e w1 ⟨rfl, ⟨m1, rfl⟩⟩
  rw [World.drewN_drewN]
  cases e1 with
  | true =>
    go_wp2_with fail
    go_ret2
    exact ⟨by rw [HP.out, HV.out]; rfl, ⟨_, rfl⟩⟩
  | false =>
    go_wp2_with fail
    refine (C2.out _).mono ?_
    rw [h2]
    rintro e w2 ⟨rfl, ⟨m2, rfl⟩⟩
    rw [World.drewN_drewN]
    cases e2 with
    | true =>
      go_wp2_with fail
      go_ret2
      exact ⟨by rw [HP.out, HV.out]; rfl, ⟨_, rfl⟩⟩
    | false =>
      go_wp2_with fail
      refine (C3.out _).mono ?_
      rw [h3]
      rintro e w3 ⟨rfl, ⟨m3, rfl⟩⟩
      rw [World.drewN_drewN]
      cases e3 with
      | true =>
        go_wp2_with fail
        go_ret2
        exact ⟨by rw [HP.out, HV.out]; rfl, ⟨_, rfl⟩⟩
      | false =>
        go_wp2_with fail
        go_ret2
        exact ⟨by rw [HP.out, HV.out]; rfl, ⟨_, rfl⟩⟩
def api_Run_36.f (l0 : List Ru) : Option (List Ru) := if l0.length ≤ 1048576 then some l0 else none
theorem api_Run_36.calls (A0 : Option Addr) (c0 : Nat) (l0 r : List Ru) (w : World) (hr0 : Kd.C k73 w A0 l0.length l0) (hc0 : l0.length ≤ c0) (h : api_Run_36.f l0 = some r) :
    Calls Tryd.prog 36 #[.slice A0 l0.length c0] w fun e w' => ∃ v0_ : Value, e = .returned v0_ ∧ Kd.R k73 73 w' w.heap.size (fun _ => True) v0_ r ∧ Below w.heap.size w w' := by
  unfold api_Run_36.f at h
  by_cases hl : l0.length ≤ 1048576
  · rw [if_pos hl] at h
    obtain rfl := Option.some.inj h
    exact cloneRuns_any A0 c0 l0 w hr0 hl
  · rw [if_neg hl] at h
    cases h
def bytes_Clone.f (l0 : List Int) : Option (List Int) := if l0.length ≤ 1073741824 then some l0 else none
theorem bytes_Clone.calls (A0 : Option Addr) (c0 : Nat) (l0 r : List Int) (w : World) (hr0 : Kd.C (Kd.int .u8) w A0 l0.length l0) (hc0 : l0.length ≤ c0) (h : bytes_Clone.f l0 = some r) :
    Calls Tryd.prog 37 #[.slice A0 l0.length c0] w fun e w' => ∃ v0_ : Value, e = .returned v0_ ∧ Kd.R (Kd.int .u8) 5 w' w.heap.size (fun _ => True) v0_ r ∧ Below w.heap.size w w' := by
  unfold bytes_Clone.f at h
  by_cases hl : l0.length ≤ 1073741824
  · rw [if_pos hl] at h
    obtain rfl := Option.some.inj h
    cases A0 with
    | none =>
      have hE : l0 = [] := by
        cases l0 with
        | nil => rfl
        | cons a l =>
          obtain ⟨ad, h, _⟩ := hr0.2.2 (by simp)
          cases h
      subst hE
      refine (Tryd.bytes_Clone_nil _ c0 w).mono ?_
      rintro e w' ⟨rfl, rfl⟩
      exact ⟨_, rfl, Kd.R_nil _ _ _ _ _, Below.refl _ _⟩
    | some ad =>
      refine (Tryd.bytes_Clone_at ad l0.length c0 l0 w rfl (by omega) (fun i hi => ?_)).mono ?_
      · have := Kd.foot_int hr0 (i : Int) (by omega) (by omega)
        rw [Int.toNat_natCast] at this
        rw [this]
        unfold rd
        rw [Int.toNat_natCast]
      · rintro e w' ⟨v', rfl, ho, _, hb⟩
        exact ⟨v', rfl, Kd.R_of_own (by unfold encs; exact ho) (fun _ _ => trivial), hb⟩
  · rw [if_neg hl] at h
    cases h
end Go.Proofs.YtkfikinjlbbibaaDoor
