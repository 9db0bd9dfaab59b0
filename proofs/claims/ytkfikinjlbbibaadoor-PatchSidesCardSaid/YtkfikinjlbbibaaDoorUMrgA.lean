/- Packed by this session's own program (wip/tools/pack.py): what the claim needs of its texts. -/
import Derived.Test.YtkfikinjlbbibaaDoorUSameG
import Derived.Test.YtkfikinjlbbibaaDoorUStrG
import Derived.Test.YtkfikinjlbbibaaDoorUShelf
import Derived.WalkSpells
namespace Go.Proofs.YtkfikinjlbbibaaDoor
open Go.RowKit Go.Lib
open Go.Proofs.YtkfikinjlbbibaaDoorW.PrintWords Go.Proofs.YtkfikinjlbbibaaDoorW.PrintLast Go.Proofs.YtkfikinjlbbibaaDoor.PT
set_option linter.unusedVariables false
set_option linter.unusedSimpArgs false
theorem order_any (s : ByteArray) (w : World) (hs : s.size < 4294967281) : Calls Tryd.prog 32 #[.string s] w fun e w' => e = .returned (.string (swapB 47 0 s)) ∧ Below w.heap.size w w' := by
  have c := fun w => replaceAll_one s 47 0 w hs (by decide)
  go_enter Tryd.func32, Tryd.ntmps32
  go_wp2_with (go_at_call 33; refine (c _).mono ?_; rintro e w' ⟨rfl, hb⟩)
  go_ret
  exact ⟨rfl, hb⟩
theorem path_any (s : ByteArray) (w : World) (hs : s.size < 4294967281) : Calls Tryd.prog 21 #[.string s] w fun e w' => e = .returned (.string (swapB 0 47 s)) ∧ Below w.heap.size w w' := by
  have c := fun w => replaceAll_one s 0 47 w hs (by decide)
  go_enter Tryd.func21, Tryd.ntmps21
  go_wp2_with (go_at_call 33; refine (c _).mono ?_; rintro e w' ⟨rfl, hb⟩)
  go_ret
  exact ⟨rfl, hb⟩
theorem byPath_any (x : It) (v4 v5 : Value) (w : World) (hs : x.f1.size < 4294967281) : Calls Tryd.prog 20 #[.agg #[.int .i64 x.f0, .string x.f1, .string x.f2, .int .i64 x.f3, v4, v5]] w fun e w' => e = .returned (.string (swapB 47 0 x.f1)) ∧ Below w.heap.size w w' := by
  have c := fun w => order_any x.f1 w hs
  obtain ⟨X, hX⟩ : ∃ X, #[Value.int .i64 x.f0, .string x.f1, .string x.f2, .int .i64 x.f3, v4, v5] = X := ⟨_, rfl⟩
  have hbx := blk_new w (.cells X 27)
  have x1 : (w.alloc (.cells X 27)).cell? ⟨w.heap.size, 1, none⟩ = some (.string x.f1) := by rw [blk_cell hbx, ← hX]; rfl
  have hb0 := (Below.refl w.heap.size w).alloc (Nat.le_refl _) (.cells X 27)
  have hu := Tryd.underlying27
  rw [← hX] at x1 hb0
  have HB := Aside0.mk hb0
  clear hbx hb0 hX
  go_enter Tryd.func20, Tryd.ntmps20
  go_wp2_with (go_at_call 32; refine (c _).mono ?_; rintro e w' ⟨rfl, hb⟩)
  go_ret
  exact ⟨rfl, HB.out.trans (hb.mono (by simp))⟩
set_option maxHeartbeats 8000000 in
set_option maxRecDepth 100000 in
theorem eqRuns_any (A0 : Option Addr) (c0 : Nat) (l : List Ru) (A1 : Option Addr) (c1 : Nat) (m : List Ru) (w : World) (hr0 : Kd.C k73 w A0 l.length l) (hr1 : Kd.C k73 w A1 m.length m) :
    Calls Tryd.prog 48 #[.slice A0 l.length c0, .slice A1 m.length c1] w fun e w' => e = .returned (.bool (runsEq l m)) ∧ Drawn0 w w' := by
  have HR0 := Aside0.mk hr0
  have HR1 := Aside0.mk hr1
  have hmx := hr0.2.1
  clear hr0 hr1
  have hn : ∀ (a b c d : Int) (w : World), Sem.run Tryd.prog (binOp .neq 73 (.agg #[.int .i64 a, .int .i64 b]) (.agg #[.int .i64 c, .int .i64 d])) w = .ok (.bool (!(a == c && b == d))) w := by
    intro a b c d w
    rw [run_neq_struct, run_equalIn_agg _ _ _ _ _ (by kernel_rfl) (by kernel_rfl)]
    cases h1 : (a == c) <;> cases h2 : (b == d) <;> simp [h1, h2, Op.eqFields, go_sem]
  have hgd : ∀ (op : BinOp) (a b : Operand) (xs ys : Array Value) (w : World), Sem.run Tryd.prog (eqGuard op 73 a b (.agg xs) (.agg ys)) w = .ok () w := fun op a b xs ys w => run_eqGuard_agg w op _ a b xs ys (by kernel_rfl)
  have hu := Tryd.underlying73
  by_cases hl : l.length = m.length
  · have hl2 : (l.length == m.length) = true := beq_iff_eq.2 hl
    have hl3 : ((l.length : Int) == (m.length : Int)) = true := beq_iff_eq.2 (by omega)
    go_enter Tryd.func48, Tryd.ntmps48
    go_wp2
    go_loopg [13] l.length (fun g s13 wr => ∃ i : Nat, l.length - i ≤ g ∧ s13 = .int .i64 i ∧ i ≤ l.length ∧ Aside0 (runsEq l m = runsEq (l.drop i) (m.drop i)) ∧ Drawn0 w wr)
    case atStart => exact ⟨0, by omega, rfl, by omega, ⟨by simp⟩, by repeat (first | exact Drawn0.refl _ | apply Drawn0.step)⟩
    case round =>
      obtain ⟨i, hig, rfl, hi, HE, ⟨q, rfl⟩⟩ := hrel
      by_cases hi2 : i < l.length
      · have hd : decide ((i : Int) < (l.length : Int)) = true := decide_eq_true (by omega)
        have hd2 : decide (i < l.length) = true := decide_eq_true hi2
        obtain ⟨ad, hA, r0, r1⟩ := at_T73 HR0.out (i : Int) (by omega) (by omega)
        obtain ⟨bd, hB, s0, s1⟩ := at_T73 HR1.out (i : Int) (by omega) (by omega)
        have e1 := rdRu_at l i hi2
        have e2 := rdRu_at m i (by omega)
        rw [e1] at r0 r1
        rw [e2] at s0 s1
        have hE := HE.out
        rw [List.drop_eq_getElem_cons hi2, List.drop_eq_getElem_cons (show i < m.length by omega), runsEq] at hE
        obtain ⟨a, ha⟩ : ∃ a, l[i] = a := ⟨_, rfl⟩
        obtain ⟨b, hb⟩ : ∃ a, m[i]'(by omega) = a := ⟨_, rfl⟩
        rw [ha] at r0 r1 hE
        rw [hb] at s0 s1 hE
        subst hA hB
        rw [Int.toNat_natCast] at r0 r1 s0 s1
        have hdm : decide ((i : Int) < (m.length : Int)) = true := decide_eq_true (by omega)
        have hdm2 : decide (i < m.length) = true := decide_eq_true (by omega)
        have HE2 := Aside0.mk hE
        clear e1 e2 hE ha hb HE
        cases h0 : (a.f0 == b.f0) with
        | false =>
          have h0' : ¬ a.f0 = b.f0 := fun e => by rw [e, beq_self_eq_true] at h0; cases h0
          have HF : Aside0 (runsEq l m = false) := ⟨by rw [HE2.out, decide_eq_false h0', Bool.false_and]⟩
          go_wp2
          repeat (go_quiet (fail); try go_wp2)
          go_ret
          exact ⟨by rw [HF.out]; rfl, by repeat (first | exact Drawn0.refl _ | apply Drawn0.step)⟩
        | true =>
          have h0' : a.f0 = b.f0 := beq_iff_eq.1 h0
          cases h1 : (a.f1 == b.f1) with
          | false =>
            have h1' : ¬ a.f1 = b.f1 := fun e => by rw [e, beq_self_eq_true] at h1; cases h1
            have HF : Aside0 (runsEq l m = false) := ⟨by rw [HE2.out, decide_eq_false h1', Bool.false_and, Bool.and_false]⟩
            go_wp2
            repeat (go_quiet (fail); try go_wp2)
            go_ret
            exact ⟨by rw [HF.out]; rfl, by repeat (first | exact Drawn0.refl _ | apply Drawn0.step)⟩
          | true =>
            have h1' : a.f1 = b.f1 := beq_iff_eq.1 h1
            have HF : Aside0 (runsEq l m = runsEq (l.drop (i + 1)) (m.drop (i + 1))) := ⟨by rw [HE2.out, decide_eq_true h0', decide_eq_true h1', Bool.true_and, Bool.true_and]⟩
            go_wp2
            repeat (go_quiet (fail); try go_wp2)
            go_roundg (l.length - (i + 1))
            case measure => omega
            case rel => exact ⟨i + 1, by omega, by first | rfl | simp, by omega, HF, by repeat (first | exact Drawn0.refl _ | apply Drawn0.step)⟩
      · have hd : decide ((i : Int) < (l.length : Int)) = false := decide_eq_false (by omega)
        have hd2 : decide (i < l.length) = false := decide_eq_false hi2
        have HF : Aside0 (runsEq l m = true) := ⟨by rw [HE.out, List.drop_of_length_le (by omega), List.drop_of_length_le (by omega), runsEq]⟩
        go_wp2_with fail
        go_ret
        exact ⟨by rw [HF.out]; rfl, by repeat (first | exact Drawn0.refl _ | apply Drawn0.step)⟩
  · have hl2 : (l.length == m.length) = false := beq_eq_false_iff_ne.2 hl
    have hl3 : ((l.length : Int) == (m.length : Int)) = false := beq_eq_false_iff_ne.2 (by omega)
    rw [runsEq_ne hl]
    go_enter Tryd.func48, Tryd.ntmps48
    go_wp2
    go_ret
    exact ⟨rfl, by repeat (first | exact Drawn0.refl _ | apply Drawn0.step)⟩
theorem infoRu : (Tryd.prog.info? 73).map (fun i => (i.zero, i.size, i.bytes)) = some (some (.agg #[.int .i64 0, .int .i64 0]), 2, 16) := by kernel_rfl
set_option maxHeartbeats 4000000 in
set_option maxRecDepth 100000 in
theorem cloneRuns_any (A0 : Option Addr) (c0 : Nat) (l : List Ru) (w : World) (hr0 : Kd.C k73 w A0 l.length l) (hl : l.length ≤ 1048576) :
    Calls Tryd.prog 36 #[.slice A0 l.length c0] w fun e w' => ∃ v : Value, e = .returned v ∧ Kd.R k73 73 w' w.heap.size (fun _ => True) v l ∧ Below w.heap.size w w' := by
  have hu := Tryd.underlying24
  have q22 : ∀ (w : World) (a : Option Addr) (n c n' c' : Nat), (binOp .eql 24 (.slice a n c) (.slice none n' c')).run Tryd.prog w = .ok (.bool a.isNone) w := fun w a n c n' c' => Lib.run_eql_slice_nil w _ _ a n c n' c' hu
  cases A0 with
  | none =>
    have hE : l = [] := by
      cases l with
      | nil => rfl
      | cons a l =>
        obtain ⟨ad, h, _⟩ := hr0.2.2 (by simp)
        cases h
    subst hE
    go_enter Tryd.func36, Tryd.ntmps36
    go_wp2
    go_ret
    exact ⟨_, rfl, Kd.R_nil _ _ _ _ _, Below.refl _ _⟩
  | some ad =>
    obtain ⟨inner, hin, hcl⟩ := ReadsRow.inner_ hr0
    have HI := Aside0.mk hin
    have HC := Aside0.mk hcl
    have H1 : Aside0 (∀ u ∈ inner, u.oneCell' = true) := ⟨fun u hu => by
      obtain ⟨j, hj⟩ := List.getElem?_of_mem hu
      have hl0 := hin.1
      have hj2 : j < inner.length := by
        rcases Nat.lt_or_ge j inner.length with h | h
        · exact h
        · rw [List.getElem?_eq_none h] at hj; cases hj
      have hk : j / 2 < l.length := by
        rw [hl0] at hj2
        have : k73.sz = 2 := rfl
        rw [this] at hj2
        omega
      have hp := hin.2 (j / 2) (l[j / 2]) (by simp)
      refine k73.K_one hp u ?_
      have hs : k73.sz = 2 := rfl
      rw [hs]
      have : ((inner.drop (j / 2 * 2)).take 2)[j % 2]? = some u := by
        rw [List.getElem?_take_of_lt (by omega), List.getElem?_drop, show j / 2 * 2 + j % 2 = j by omega]
        exact hj
      exact List.mem_of_getElem? this⟩
    clear hin hcl hr0
    obtain ⟨i0, hi, hz0, hz1, hz2⟩ := info_parts infoRu
    have z23 : ∀ w, (Go.sizeOf 73).run Tryd.prog w = .ok 2 w := fun w => by kernel_rfl
    go_enter Tryd.func36, Tryd.ntmps36
    go_wp2_with (at_builtin; refine wpList_append_own _ rfl _ _ 24 rfl w.heap.size 73 i0 (.agg #[.int .i64 0, .int .i64 0]) 2 16 hu hi hz0 hz1 hz2 rfl (by decide) _ _ _ rfl (World.ownsRow_made w #[] 0 (Nat.le_refl _) (Nat.zero_le _) (by simp)) ad l.length c0 inner rfl ?qc1 ?qc2 ?qc3 ?qc4 ?qc5 ?qc6 ?_)
    case qc1 => exact HI.out.1
    case qc2 =>
      intro j u hj
      exact Lib.cell?_alloc_some _ (HC.out j u hj)
    case qc3 => exact H1.out
    case qc4 => unfold maxLen; omega
    case qc5 => omega
    case qc6 => simp
    intro v' w1 hown hgrow hnil
    go_wp2
    go_ret
    refine ⟨v', rfl, ⟨fun _ _ => trivial, inner, hown, HI.out.imp_ (fun p c hp => ?_)⟩, ((Below.refl _ w).alloc (Nat.le_refl _) _).grown hgrow (by simp) (by intro k hk; simp [Value.ownBlock] at hk; omega)⟩
    rw [k73_open hp]
    exact ⟨_, _, rfl, rfl, rfl⟩
end Go.Proofs.YtkfikinjlbbibaaDoor
