/- Packed by this session's own program (wip/tools/pack.py): what the claim needs of its texts. -/
import Derived.Test.YtkfikinjlbbibaaDoorURight
import Derived.Test.YtkfikinjlbbibaaDoorUPkb
namespace Go.Proofs.YtkfikinjlbbibaaDoor
open Go.RowKit Go.Lib
open Go.Proofs.YtkfikinjlbbibaaDoorW.PrintWords Go.Proofs.YtkfikinjlbbibaaDoorW.PrintLast Go.Proofs.YtkfikinjlbbibaaDoor.PT
set_option linter.unusedVariables false
set_option linter.unusedSimpArgs false
def packGo : List Int → Nat → List It → List Int × Int
  | out, n, [] => (closeB out n, 0)
  | out, n, x :: l => if (out ++ itemB x).length + 9 > 4194304 then ([], 7) else packGo (out ++ itemB x) (n + 1) l
def packP (l : List It) : List Int × Int := if 4096 < l.length then ([], 7) else if rightP l = true then packGo magicD 0 l else ([], 150)
def fitB (x : It) : Bool := decide (x.f1.size ≤ 140737488351232) && decide (x.f2.size ≤ 140737488351232) && decide (x.f4.length ≤ 140737488351232) && decide (x.f5.length ≤ 140737488351232) && x.f5.all fun n => decide (0 ≤ n) && decide (n ≤ 255)
theorem fit_of {x : It} (h : fitB x = true) : Fit x := by
  unfold fitB at h
  simp only [Bool.and_eq_true, decide_eq_true_eq, List.all_eq_true] at h
  exact ⟨h.1.1.1.1, h.1.1.1.2, h.1.1.2, h.1.2, h.2⟩
def dump_Pack.f (l0 : List (S27)) : Option (List Int × Int) := if l0.all fitB = true then some (packP l0) else none
theorem bytesOf_wf (s : ByteArray) : ∀ b ∈ Go.Proofs.YtkfikinjlbbibaaDoorW.PrintWords.bytesOf s, 0 ≤ b ∧ b ≤ 255 := by
  intro b hb
  unfold Go.Proofs.YtkfikinjlbbibaaDoorW.PrintWords.bytesOf at hb
  obtain ⟨c, _, rfl⟩ := List.mem_map.1 hb
  have := c.toNat_lt
  omega
theorem runsB_wf (l : List Ru) : ∀ b ∈ runsB l, 0 ≤ b ∧ b ≤ 255 := by
  intro b hb
  unfold runsB at hb
  obtain ⟨r, _, hr⟩ := List.mem_flatMap.1 hb
  rcases List.mem_append.1 hr with h | h
  · exact leB_wf _ _ b h
  · exact leB_wf _ _ b h
theorem itemB_wf {x : It} (h : Fit x) : ∀ b ∈ itemB x, 0 ≤ b ∧ b ≤ 255 := by
  intro b hb
  unfold itemB at hb
  rcases List.mem_append.1 hb with hb | hb
  · rcases List.mem_append.1 hb with hb | hb
    · rcases List.mem_append.1 hb with hb | hb
      · exact leB_wf _ _ b hb
      · exact leB_wf _ _ b hb
    · exact bytesOf_wf _ b hb
  · split at hb
    · rcases List.mem_append.1 hb with hb | hb
      · rcases List.mem_append.1 hb with hb | hb
        · rcases List.mem_append.1 hb with hb | hb
          · exact leB_wf _ _ b hb
          · exact leB_wf _ _ b hb
        · exact runsB_wf _ b hb
      · exact h.b b hb
    · split at hb
      · rcases List.mem_append.1 hb with hb | hb
        · exact leB_wf _ _ b hb
        · exact bytesOf_wf _ b hb
      · cases hb
theorem runsB_len (l : List Ru) : (runsB l).length = 8 * l.length := by
  unfold runsB
  rw [List.length_flatMap]
  induction l with
  | nil => rfl
  | cons a l ih => rw [List.map_cons, List.sum_cons, ih, List.length_append, leB_length, leB_length, List.length_cons]; omega
theorem itemB_len {x : It} (h : Sm x) : (itemB x).length ≤ 1099511627776 := by
  have h1 := h.p; have h2 := h.t; have h3 := h.r; have h4 := h.d
  unfold itemB
  split
  · simp only [List.length_append, leB_length, Go.Proofs.YtkfikinjlbbibaaDoorW.PrintWords.bytesOf_length, runsB_len]; omega
  · split
    · simp only [List.length_append, leB_length, Go.Proofs.YtkfikinjlbbibaaDoorW.PrintWords.bytesOf_length]; omega
    · simp only [List.length_append, leB_length, Go.Proofs.YtkfikinjlbbibaaDoorW.PrintWords.bytesOf_length, List.length_nil]; omega
theorem kget_mem : ∀ {K : List (ByteArray × Int)} {p : ByteArray}, kget K p ≠ 0 → ∃ n, (p, n) ∈ K
  | [], _, h => absurd rfl h
  | (q, n) :: K, p, h => by
    rw [kget] at h
    by_cases e : q = p
    · subst e
      exact ⟨n, List.mem_cons_self⟩
    · rw [if_neg e] at h
      obtain ⟨m, hm⟩ := kget_mem h
      exact ⟨m, List.mem_cons_of_mem _ hm⟩
theorem cut_size {s : ByteArray} (h : (cutP s).2 = true) : s.size ≤ 1023 := by
  unfold cutP at h
  split at h
  · rename_i hc
    exact hc.1
  · cases h
theorem itemOk_small {K : List (ByteArray × Int)} {x : It} (hK : ∀ q ∈ K, q.1.size ≤ 1023) (h : itemOk K x = true) : x.f2.size ≤ 1023 ∧ x.f4.length ≤ 16523 ∧ x.f5.length ≤ 8459776 := by
  have hbare : bareP x = true → x.f4.length = 0 ∧ x.f5.length = 0 := fun hb => by
    unfold bareP at hb
    simp only [Bool.and_eq_true, decide_eq_true_eq] at hb
    exact ⟨hb.1.2, hb.2⟩
  unfold itemOk at h
  split at h
  · simp only [Bool.and_eq_true, decide_eq_true_eq] at h
    have := filled_small h.2
    omega
  · split at h
    · simp only [Bool.and_eq_true, decide_eq_true_eq] at h
      have := hbare h.1
      omega
    · split at h
      · simp only [Bool.and_eq_true, decide_eq_true_eq] at h
        have := hbare h.1
        omega
      · split at h
        · simp only [Bool.and_eq_true, decide_eq_true_eq] at h
          have h0 := hbare h.1
          obtain ⟨n, hn⟩ := kget_mem (K := K) (p := x.f2) (by omega)
          have := hK _ hn
          simp only at this
          omega
        · cases h
theorem right_small : ∀ (l : List It) (K : List (ByteArray × Int)) (b : Option (List ByteArray)), (∀ q ∈ K, q.1.size ≤ 1023) → rightGo K b l = true → ∀ x ∈ l, x.f1.size ≤ 1023 ∧ x.f2.size ≤ 1023 ∧ x.f4.length ≤ 16523 ∧ x.f5.length ≤ 8459776
  | [], _, _, _, _ => fun x hx => by cases hx
  | y :: l, K, b, hK, h => by
    rw [rightGo] at h
    simp only [Bool.and_eq_true, decide_eq_true_eq] at h
    obtain ⟨⟨⟨⟨h1, h2⟩, h3⟩, h4⟩, h5⟩ := h
    have hp := cut_size h1
    have hi := itemOk_small hK h4
    intro x hx
    rcases List.mem_cons.1 hx with rfl | hx
    · exact ⟨hp, hi⟩
    · exact right_small l _ _ (fun q hq => by rcases List.mem_cons.1 hq with rfl | hq; exact hp; exact hK q hq) h5 x hx
theorem right_sm {l : List It} (h : rightP l = true) : ∀ x ∈ l, Sm x := fun x hx => by
  have := right_small l _ _ (fun q hq => by rcases List.mem_cons.1 hq with rfl | hq; decide; cases hq) h x hx
  exact ⟨by omega, by omega, by omega, by omega⟩
set_option maxHeartbeats 16000000 in
set_option maxRecDepth 100000 in
theorem dump_Pack.calls (A0 : Option Addr) (c0 : Nat) (l0 : List (S27)) (r1 : List Int) (r2 : Int) (w : World) (hr0 : Kd.C k27 w A0 l0.length l0) (hc0 : l0.length ≤ c0) (h : dump_Pack.f l0 = some (r1, r2)) :
    Calls Tryd.prog 18 #[.slice A0 l0.length c0] w fun e w' => ∃ v0_ : Value, e = .returned (.tuple #[v0_, .int .i64 r2]) ∧ Kd.R (Kd.int .u8) 5 w' w.heap.size (fun _ => True) v0_ r1 ∧ Below w.heap.size w w' := by
  unfold dump_Pack.f at h
  by_cases hfit : l0.all fitB = true
  · rw [if_pos hfit] at h
    have hp := Option.some.inj h
    have hfit : ∀ x ∈ l0, Fit x := fun x hx => fit_of (List.all_eq_true.1 hfit x hx)
    have HF := Aside0.mk hfit
    have HR := Aside0.mk hr0
    clear h hfit hr0
    by_cases hbig : 4096 < l0.length
    · have hb1 : decide ((4096 : Int) < (l0.length : Int)) = true := decide_eq_true (by omega)
      have hb2 : decide (4096 < l0.length) = true := decide_eq_true hbig
      unfold packP at hp
      rw [if_pos hbig] at hp
      injection hp with e1 e2
      subst e1 e2
      go_enter Tryd.func18, Tryd.ntmps18
      go_wp2_with fail
      go_ret2
      exact ⟨_, rfl, Kd.R_nil _ _ _ _ _, Below.refl _ _⟩
    · have hb1 : decide ((4096 : Int) < (l0.length : Int)) = false := decide_eq_false (by omega)
      have hb2 : decide (4096 < l0.length) = false := decide_eq_false hbig
      unfold packP at hp
      rw [if_neg hbig] at hp
      have hrt := right_any A0 c0 l0 w HR.out hc0 HF.out (by omega)
      obtain ⟨rt, hrt0⟩ : ∃ b, rightP l0 = b := ⟨_, rfl⟩
      rw [hrt0] at hrt hp
      have HRT := Aside0.mk hrt
      have HRE := Aside0.mk hrt0
      clear hrt hrt0
      cases rt with
      | false =>
        rw [if_neg (by decide)] at hp
        injection hp with e1 e2
        subst e1 e2
        go_enter Tryd.func18, Tryd.ntmps18
        go_wp2_with fail
        refine HRT.out.mono ?_
        rintro e w1 ⟨rfl, hb⟩
        have HB := Aside0.mk hb
        clear hb
        go_wp2_with fail
        go_ret2
        exact ⟨_, rfl, Kd.R_nil _ _ _ _ _, HB.out⟩
      | true =>
        rw [if_pos rfl] at hp
        have HPP := Aside0.mk hp
        clear hp
        go_enter Tryd.func18, Tryd.ntmps18
        go_wp2_with fail
        refine HRT.out.mono ?_
        rintro e w1 ⟨rfl, hb⟩
        have HB := Aside0.mk hb
        clear hb
        go_wp2_with fail
        refine (newPacker_any w1).mono ?_
        rintro e w2 ⟨g, b, rfl, hpf, hb2⟩
        have hge : w.heap.size ≤ w1.heap.size := HB.out.size
        have hpf2 : Pf w.heap.size w2 g b 0 := ⟨hpf.blk, hpf.arr, Nat.le_trans hge hpf.low⟩
        have HPF := Aside0.mk (show Ps w.heap.size w2 g magicD ((0 : Nat) : Int) from .inl ⟨rfl, b, hpf2⟩)
        have HB2 := Aside0.mk (HB.out.trans (hb2.mono HB.out.size))
        clear hpf hpf2 hb2 hge HB
        go_wp2_with fail
        go_loopg [16] l0.length (fun gk s16 wx => ∃ (i : Nat) (out : List Int), i + gk = l0.length ∧ s16 = .int .i64 i ∧ out.length ≤ 4194304 ∧ Aside0 (packGo out i (l0.drop i) = (r1, r2)) ∧ Aside0 (Ps w.heap.size wx g out i) ∧ Aside0 (Below w.heap.size w wx) ∧ Aside0 (∀ x ∈ out, 0 ≤ x ∧ x ≤ 255))
        case atStart => exact ⟨0, magicD, by omega, rfl, by decide, ⟨by rw [List.drop_zero]; exact HPP.out⟩, HPF, HB2, ⟨by decide⟩⟩
        case round =>
          clear HPF HB2 HPP
          obtain ⟨i, out, hig, rfl, hlo, HG, HP, HB, HW⟩ := hrel
          by_cases hi : i < l0.length
          · have hd : decide ((i : Int) < (l0.length : Int)) = true := decide_eq_true (by omega)
            have hd2 : decide (i < l0.length) = true := decide_eq_true hi
            obtain ⟨ad, A4, c4, A5, c5, hA, r0, r1', r2', r3, r4, r5, l4, g4, l5, g5⟩ := at_T27 HR.out (i : Int) (by omega) (by omega)
            rw [Int.toNat_natCast] at r0 r1' r2' r3 r4 r5
            have hrd : rd_T27 l0 (i : Int) = l0[i]'hi := by simp [rd_T27, hi]
            have hmem := List.getElem_mem hi
            have HFx := Aside0.mk (HF.out _ hmem)
            have HSx := Aside0.mk (right_sm HRE.out _ hmem)
            have hg0 := HG.out
            rw [List.drop_eq_getElem_cons hi] at hg0
            obtain ⟨x, hx⟩ : ∃ x, l0[i]'hi = x := ⟨_, rfl⟩
            rw [hrd, hx] at r0 r1' r2' r3 r4 r5 l4 g4 l5 g5
            rw [hx] at hg0 HFx HSx
            have HG := Aside0.mk hg0
            have HX4 := Aside0.mk g4
            have HX5 := Aside0.mk g5
            have q0 := pw_cell_below HB.out r0
            have q1 := pw_cell_below HB.out r1'
            have q2 := pw_cell_below HB.out r2'
            have q3 := pw_cell_below HB.out r3
            have q4 := pw_cell_below HB.out r4
            have q5 := pw_cell_below HB.out r5
            have HA := Aside0.mk hA
            subst hA
            clear hrd hx hg0 g4 g5 r0 r1' r2' r3 r4 r5 hmem
            have HPB := Aside0.mk (HP.out.below ((Below.refl wr.heap.size wr).alloc (Nat.le_refl _) (.cells #[.int .i64 x.f0, .string x.f1, .string x.f2, .int .i64 x.f3, .slice A4 x.f4.length c4, .slice A5 x.f5.length c5] 27)))
            have HBB := Aside0.mk (HB.out.alloc HB.out.size (.cells #[.int .i64 x.f0, .string x.f1, .string x.f2, .int .i64 x.f3, .slice A4 x.f4.length c4, .slice A5 x.f5.length c5] 27))
            clear HP HB
            go_wp2_with fail
            refine (add_any w _ g out (i : Int) x A4 c4 A5 c5 HPB.out HBB.out (by omega) HSx.out (by omega) (by omega) HX4.out HX5.out l4 l5).mono ?_
            rintro e w3 ⟨rfl, ⟨v3, h3⟩, hb3⟩
            have hcell := h3.cell
            obtain ⟨o3, ho3⟩ : ∃ o, out ++ itemB x = o := ⟨_, rfl⟩
            have hw3 : ∀ y ∈ out ++ itemB x, 0 ≤ y ∧ y ≤ 255 := by
              intro y hy
              rcases List.mem_append.1 hy with hy | hy
              · exact HW.out y hy
              · exact itemB_wf HFx.out y hy
            rw [ho3] at h3 hw3
            obtain ⟨A3, c3, hv3⟩ := h3.slice
            subst hv3
            have HP3 := Aside0.mk h3
            have HB3 := Aside0.mk hb3
            have HW3 := Aside0.mk hw3
            have HO3 := Aside0.mk ho3
            have hg3 := h3.lt
            have hw64 : wrap64 ((o3.length : Int) + 9) = (o3.length : Int) + 9 := by
              have h1 := itemB_len HSx.out
              have h2 : o3.length = out.length + (itemB x).length := by rw [← ho3, List.length_append]
              unfold wrap64
              omega
            clear h3 hb3 hw3 HPB HBB
            by_cases hlong : o3.length + 9 > 4194304
            · have hl1 : decide ((4194304 : Int) < (o3.length : Int) + 9) = true := decide_eq_true (by omega)
              have HLG := Aside0.mk hlong
              clear hlong ho3
              go_wp2_with fail
              go_ret2
              have h := HG.out
              rw [packGo, HO3.out, if_pos HLG.out] at h
              injection h with e1 e2
              subst e1 e2
              exact ⟨_, rfl, Kd.R_nil _ _ _ _ _, HB3.out⟩
            · have hl1 : decide ((4194304 : Int) < (o3.length : Int) + 9) = false := decide_eq_false (by omega)
              have HLG := Aside0.mk hlong
              have hle3 : o3.length ≤ 4194304 := by omega
              clear hlong ho3
              go_wp2_with fail
              go_roundg (l0.length - (i + 1))
              case measure => omega
              case rel => exact ⟨i + 1, o3, by omega, by first | rfl | simp, hle3, ⟨by have h := HG.out; rw [packGo, HO3.out, if_neg HLG.out] at h; exact h⟩, ⟨.inr ⟨_, HP3.out⟩⟩, HB3, HW3⟩
          · have hd : decide ((i : Int) < (l0.length : Int)) = false := decide_eq_false (by omega)
            have hd2 : decide (i < l0.length) = false := decide_eq_false hi
            have hE : l0.drop i = [] := List.drop_of_length_le (by omega)
            have h := HG.out
            rw [hE, packGo] at h
            have HG := Aside0.mk h
            clear h hE
            go_wp2_with fail
            refine (end_any w wr g out (i : Int) HP.out HB.out (by omega) HW.out).mono ?_
            rintro e w3 ⟨v3, rfl, h3, hb3⟩
            have HR3 := Aside0.mk h3
            have HB3 := Aside0.mk hb3
            clear h3 hb3
            go_wp2_with fail
            go_ret2
            have h := HG.out
            injection h with e1 e2
            subst e1 e2
            exact ⟨_, rfl, HR3.out, HB3.out⟩
  · rw [if_neg hfit] at h
    cases h
end Go.Proofs.YtkfikinjlbbibaaDoor
