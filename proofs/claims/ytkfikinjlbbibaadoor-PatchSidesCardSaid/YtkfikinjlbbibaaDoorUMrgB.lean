/- Packed by this session's own program (wip/tools/pack.py): what the claim needs of its texts. -/
import Derived.Test.YtkfikinjlbbibaaDoorUMrgA
namespace Go.Proofs.YtkfikinjlbbibaaDoor
open Go.RowKit Go.Lib
open Go.Proofs.YtkfikinjlbbibaaDoorW.PrintWords Go.Proofs.YtkfikinjlbbibaaDoorW.PrintLast Go.Proofs.YtkfikinjlbbibaaDoor.PT
set_option linter.unusedVariables false
set_option linter.unusedSimpArgs false
def OI (w : World) (p : Value) : Option It → Prop
  | none => p = .pointer none
  | some x => ∃ (ad : Addr) (A4 : Option Addr) (c4 : Nat) (A5 : Option Addr) (c5 : Nat), p = .pointer (some ad) ∧ w.cell? ad = some (.int .i64 x.f0) ∧ w.cell? ⟨ad.block, ad.off + 1, none⟩ = some (.string x.f1) ∧ w.cell? ⟨ad.block, ad.off + 2, none⟩ = some (.string x.f2) ∧ w.cell? ⟨ad.block, ad.off + 3, none⟩ = some (.int .i64 x.f3) ∧ w.cell? ⟨ad.block, ad.off + 4, none⟩ = some (.slice A4 x.f4.length c4) ∧ w.cell? ⟨ad.block, ad.off + 5, none⟩ = some (.slice A5 x.f5.length c5) ∧ x.f4.length ≤ c4 ∧ Kd.C k73 w A4 x.f4.length x.f4 ∧ x.f5.length ≤ c5 ∧ Kd.C (Kd.int .u8) w A5 x.f5.length x.f5
theorem OI.below {w w1 : World} {p : Value} {x : Option It} (h : OI w p x) (hb : Below w.heap.size w w1) : OI w1 p x := by
  cases x with
  | none => exact h
  | some x =>
    obtain ⟨ad, A4, c4, A5, c5, e, r0, r1, r2, r3, r4, r5, l4, g4, l5, g5⟩ := h
    exact ⟨ad, A4, c4, A5, c5, e, pw_cell_below hb r0, pw_cell_below hb r1, pw_cell_below hb r2, pw_cell_below hb r3, pw_cell_below hb r4, pw_cell_below hb r5, l4, Kd.C_below g4 hb, l5, Kd.C_below g5 hb⟩
def sameO : Option It → Option It → Bool
  | none, none => true
  | some x, some y => sameP x y
  | _, _ => false
theorem quiet_drawn {P : Program} {f : FuncId} {args : Array Value} {w : World} {n : Nat} {v : Value}
    (h : Calls P f args (w.drewN n) fun e w' => e = .returned v ∧ Drawn0 (w.drewN n) w') :
    Calls P f args (w.drewN n) fun e w'' => e = .returned v ∧ ∃ m, w'' = w.drewN m :=
  h.mono fun _ _ ⟨he, m, hm⟩ => ⟨he, n + m, by rw [hm, World.drewN_drewN]⟩
theorem equalIn_none_some {P : Program} (w : World) (d : Nat) (t : TypeId) (a : Addr) (h : P.underlying t = some (.pointer (P.pointee t))) :
    (Op.equalIn (d + 1) t (.pointer none) (.pointer (some a))).run P w = .ok false w := by
  simp [Op.equalIn, run_underlying h]
theorem equal_none_some {P : Program} (w : World) (t : TypeId) (a : Addr) (h : P.underlying t = some (.pointer (P.pointee t))) :
    (Op.equal t (.pointer none) (.pointer (some a))).run P w = .ok false w := equalIn_none_some w 9999 t a h
theorem eql_none_some {P : Program} (w : World) (t : TypeId) (a : Addr) (h : P.underlying t = some (.pointer (P.pointee t))) :
    (binOp .eql t (.pointer none) (.pointer (some a))).run P w = .ok (.bool false) w := by
  simp only [binOp]
  simp [equal_none_some w t a h]
set_option maxHeartbeats 16000000 in
set_option maxRecDepth 100000 in
theorem same_any (p q : Value) (x y : Option It) (w : World) (hx : OI w p x) (hy : OI w q y) :
    Calls Tryd.prog 34 #[p, q] w fun e w' => e = .returned (.bool (sameO x y)) ∧ Drawn0 w w' := by
  have hup : Tryd.prog.underlying 55 = some (.pointer (Tryd.prog.pointee 55)) := by kernel_rfl
  have hu := Tryd.underlying27
  have h1 : ∀ (p : Option Addr) (w : World), (binOp .eql 55 (.pointer p) (.pointer none)).run Tryd.prog w = .ok (.bool p.isNone) w := fun p w => run_eql_pointer_nil w _ p hup
  have h2 : ∀ (a : Addr) (w : World), (binOp .eql 55 (.pointer none) (.pointer (some a))).run Tryd.prog w = .ok (.bool false) w := fun a w => eql_none_some w _ a hup
  clear hup
  cases x with
  | none =>
    obtain rfl : p = .pointer none := hx
    cases y with
    | none =>
      obtain rfl : q = .pointer none := hy
      go_enter Tryd.func34, Tryd.ntmps34
      go_wp2
      repeat (go_quiet (fail); try go_wp2)
      go_ret
      exact ⟨rfl, by first | exact ⟨_, rfl⟩ | exact Drawn0.refl _⟩
    | some y =>
      obtain ⟨bd, B4, d4, B5, d5, rfl, s0, s1, s2, s3, s4, s5, m4, k4, m5, k5⟩ := hy
      clear s0 s1 s2 s3 s4 s5 m4 k4 m5 k5
      go_enter Tryd.func34, Tryd.ntmps34
      go_wp2
      repeat (go_quiet (fail); try go_wp2)
      go_ret
      exact ⟨rfl, by first | exact ⟨_, rfl⟩ | exact Drawn0.refl _⟩
  | some x =>
    obtain ⟨ad, A4, c4, A5, c5, rfl, r0, r1, r2, r3, r4, r5, l4, g4, l5, g5⟩ := hx
    cases y with
    | none =>
      obtain rfl : q = .pointer none := hy
      clear r0 r1 r2 r3 r4 r5 l4 g4 l5 g5
      go_enter Tryd.func34, Tryd.ntmps34
      go_wp2
      repeat (go_quiet (fail); try go_wp2)
      go_ret
      exact ⟨rfl, by first | exact ⟨_, rfl⟩ | exact Drawn0.refl _⟩
    | some y =>
      obtain ⟨bd, B4, d4, B5, d5, rfl, s0, s1, s2, s3, s4, s5, m4, k4, m5, k5⟩ := hy
      have hstr : ∀ s t : ByteArray, decide (bs s = bs t) = (s.toList == t.toList) := fun s t => by
        rw [Lib.toList_data, Lib.toList_data]
        unfold bs
        by_cases e : s.data.toList = t.data.toList
        · rw [decide_eq_true e, beq_iff_eq.2 e]
        · rw [decide_eq_false e, beq_eq_false_iff_ne.2 e]
      have hint : ∀ a b : Int, decide (a = b) = (a == b) := fun a b => by
        by_cases e : a = b
        · rw [decide_eq_true e, beq_iff_eq.2 e]
        · rw [decide_eq_false e, beq_eq_false_iff_ne.2 e]
      have G4 := Aside0.mk g4
      have G5 := Aside0.mk g5
      have K4 := Aside0.mk k4
      have K5 := Aside0.mk k5
      have L4 := Aside0.mk l4
      have L5 := Aside0.mk l5
      have M4 := Aside0.mk m4
      have M5 := Aside0.mk m5
      clear l4 g4 l5 g5 m4 k4 m5 k5
      unfold sameO sameP
      simp only [hstr, hint]
      clear hstr hint
      have c1 : ∀ (n : Nat), Calls Tryd.prog 48 #[.slice A4 x.f4.length c4, .slice B4 y.f4.length d4] (w.drewN n) fun e w'' => e = .returned (.bool (runsEq x.f4 y.f4)) ∧ ∃ m, w'' = w.drewN m :=
        fun n => quiet_drawn (eqRuns_any A4 c4 x.f4 B4 d4 y.f4 _ (Kd.C_drewN G4.out _) (Kd.C_drewN K4.out _))
      have c2 : ∀ (n : Nat), Calls Tryd.prog 49 #[.slice A5 x.f5.length c5, .slice B5 y.f5.length d5] (w.drewN n) fun e w'' => e = .returned (.bool ((strOfNums x.f5).toList == (strOfNums y.f5).toList)) ∧ ∃ m, w'' = w.drewN m :=
        fun n => quiet_drawn (bytes_Equal.calls A5 c5 x.f5 B5 d5 y.f5 _ _ (Kd.C_drewN G5.out _) L5.out (Kd.C_drewN K5.out _) M5.out rfl)
      have C1 := Aside0.mk c1
      have C2 := Aside0.mk c2
      clear c1 c2 G4 G5 K4 K5 L4 L5 M4 M5
      obtain ⟨e0, h0⟩ : ∃ e0, (x.f0 == y.f0) = e0 := ⟨_, rfl⟩
      obtain ⟨e2, h2'⟩ : ∃ e0, (x.f2.toList == y.f2.toList) = e0 := ⟨_, rfl⟩
      obtain ⟨e3, h3⟩ : ∃ e0, (x.f3 == y.f3) = e0 := ⟨_, rfl⟩
      obtain ⟨e4, h4⟩ : ∃ e0, runsEq x.f4 y.f4 = e0 := ⟨_, rfl⟩
      obtain ⟨e5, h5⟩ : ∃ e0, ((strOfNums x.f5).toList == (strOfNums y.f5).toList) = e0 := ⟨_, rfl⟩
      rw [h4, h5]
      have C1' := C1.out
      have C2' := C2.out
      rw [h4] at C1'
      rw [h5] at C2'
      have D1 := Aside0.mk C1'
      have D2 := Aside0.mk C2'
      clear C1 C2 C1' C2' h4 h5
      rw [h0, h2', h3]
      go_enter Tryd.func34, Tryd.ntmps34
      cases e0 with
      | false =>
        go_wp2
        repeat (go_quiet (fail); try go_wp2)
        go_ret
        exact ⟨rfl, by first | exact ⟨_, rfl⟩ | exact Drawn0.refl _⟩
      | true =>
        cases e2 with
        | false =>
          go_wp2
          repeat (go_quiet (fail); try go_wp2)
          go_ret
          exact ⟨rfl, by first | exact ⟨_, rfl⟩ | exact Drawn0.refl _⟩
        | true =>
          cases e3 with
          | false =>
            go_wp2
            repeat (go_quiet (fail); try go_wp2)
            go_ret
            exact ⟨rfl, by first | exact ⟨_, rfl⟩ | exact Drawn0.refl _⟩
          | true =>
            cases e4 with
            | false =>
              go_wp2
              repeat (go_quiet ((go_at_call 48; exact D1.out _)); try go_wp2)
              go_ret
              exact ⟨rfl, by first | exact ⟨_, rfl⟩ | exact Drawn0.refl _⟩
            | true =>
              go_wp2
              repeat (go_quiet (first | (go_at_call 48; exact D1.out _) | (go_at_call 49; exact D2.out _)); try go_wp2)
              go_ret
              exact ⟨by cases e5 <;> rfl, by first | exact ⟨_, rfl⟩ | exact Drawn0.refl _⟩
end Go.Proofs.YtkfikinjlbbibaaDoor
