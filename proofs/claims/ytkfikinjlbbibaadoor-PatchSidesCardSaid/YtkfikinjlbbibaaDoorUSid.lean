/- Packed by this session's own program (wip/tools/pack.py): what the claim needs of its texts. -/
import Derived.Test.YtkfikinjlbbibaaDoorUSidA
import Derived.Deep.LoopGhost
import Derived.Laws.Tables
import Derived.Laws.CopyOwn
namespace Go.Proofs.YtkfikinjlbbibaaDoor
open Go.RowKit Go.Lib
open Go.Proofs.YtkfikinjlbbibaaDoorW.PrintWords Go.Proofs.YtkfikinjlbbibaaDoorW.PrintLast Go.Proofs.YtkfikinjlbbibaaDoor.PT
set_option linter.unusedVariables false
set_option linter.unusedSimpArgs false
def Six (W : World) (p : Addr) (x : It) (A4 : Option Addr) (c4 : Nat) (A5 : Option Addr) (c5 : Nat) : Prop :=
  W.cell? p = some (.int .i64 x.f0) ∧ W.cell? ⟨p.block, p.off + 1, none⟩ = some (.string x.f1) ∧ W.cell? ⟨p.block, p.off + 2, none⟩ = some (.string x.f2) ∧ W.cell? ⟨p.block, p.off + 3, none⟩ = some (.int .i64 x.f3) ∧ W.cell? ⟨p.block, p.off + 4, none⟩ = some (.slice A4 x.f4.length c4) ∧ W.cell? ⟨p.block, p.off + 5, none⟩ = some (.slice A5 x.f5.length c5)
theorem Six.below {W W1 : World} {p : Addr} {x : It} {A4 : Option Addr} {c4 : Nat} {A5 : Option Addr} {c5 : Nat} (h : Six W p x A4 c4 A5 c5) (hb : Below W.heap.size W W1) : Six W1 p x A4 c4 A5 c5 :=
  ⟨pw_cell_below hb h.1, pw_cell_below hb h.2.1, pw_cell_below hb h.2.2.1, pw_cell_below hb h.2.2.2.1, pw_cell_below hb h.2.2.2.2.1, pw_cell_below hb h.2.2.2.2.2⟩
def SixB (W : World) (g : Nat) (x : It) (A4 : Option Addr) (c4 : Nat) (A5 : Option Addr) (c5 : Nat) : Prop :=
  W.cell? ⟨g, 0, none⟩ = some (.int .i64 x.f0) ∧ W.cell? ⟨g, 1, none⟩ = some (.string x.f1) ∧ W.cell? ⟨g, 2, none⟩ = some (.string x.f2) ∧ W.cell? ⟨g, 3, none⟩ = some (.int .i64 x.f3) ∧ W.cell? ⟨g, 4, none⟩ = some (.slice A4 x.f4.length c4) ∧ W.cell? ⟨g, 5, none⟩ = some (.slice A5 x.f5.length c5)
theorem six_box {W : World} {g : Nat} {x : It} {A4 : Option Addr} {c4 : Nat} {A5 : Option Addr} {c5 : Nat} (h : W.heap[g]? = some (.cells #[.int .i64 x.f0, .string x.f1, .string x.f2, .int .i64 x.f3, .slice A4 x.f4.length c4, .slice A5 x.f5.length c5] 27 (0, 0))) : SixB W g x A4 c4 A5 c5 :=
  ⟨blk_cell h 0, blk_cell h 1, blk_cell h 2, blk_cell h 3, blk_cell h 4, blk_cell h 5⟩
def Six3 (W : World) (g : Nat) (x : It) (A4 : Option Addr) (c4 : Nat) (A5 : Option Addr) (c5 : Nat) (h : Nat) (y : It) (B4 : Option Addr) (d4 : Nat) (B5 : Option Addr) (d5 : Nat) (p : Addr) (z : It) (C4 : Option Addr) (e4 : Nat) (C5 : Option Addr) (e5 : Nat) : Prop :=
  SixB W g x A4 c4 A5 c5 ∧ SixB W h y B4 d4 B5 d5 ∧ Six W p z C4 e4 C5 e5
theorem SixB.below {W W1 : World} {g : Nat} {x : It} {A4 : Option Addr} {c4 : Nat} {A5 : Option Addr} {c5 : Nat} (h : SixB W g x A4 c4 A5 c5) (hb : Below W.heap.size W W1) : SixB W1 g x A4 c4 A5 c5 :=
  ⟨pw_cell_below hb h.1, pw_cell_below hb h.2.1, pw_cell_below hb h.2.2.1, pw_cell_below hb h.2.2.2.1, pw_cell_below hb h.2.2.2.2.1, pw_cell_below hb h.2.2.2.2.2⟩
theorem Six3.below {W W1 : World} {g : Nat} {x : It} {A4 : Option Addr} {c4 : Nat} {A5 : Option Addr} {c5 : Nat} {k : Nat} {y : It} {B4 : Option Addr} {d4 : Nat} {B5 : Option Addr} {d5 : Nat} {p : Addr} {z : It} {C4 : Option Addr} {e4 : Nat} {C5 : Option Addr} {e5 : Nat} (h : Six3 W g x A4 c4 A5 c5 k y B4 d4 B5 d5 p z C4 e4 C5 e5) (hb : Below W.heap.size W W1) : Six3 W1 g x A4 c4 A5 c5 k y B4 d4 B5 d5 p z C4 e4 C5 e5 :=
  ⟨h.1.below hb, h.2.1.below hb, h.2.2.below hb⟩
theorem row_six {W : World} {A : Option Addr} {l : List It} (h : Kd.C k27 W A l.length l) (i : Nat) (hi : i < l.length) : ∃ ad A4 c4 A5 c5, A = some ad ∧ Six W (ad.add (i * 6)) l[i] A4 c4 A5 c5 ∧ IV W l[i] (.agg #[.int .i64 l[i].f0, .string l[i].f1, .string l[i].f2, .int .i64 l[i].f3, .slice A4 l[i].f4.length c4, .slice A5 l[i].f5.length c5]) := by
  obtain ⟨ad, A4, c4, A5, c5, hA, r0, r1, r2, r3, r4, r5, l4, g4, l5, g5⟩ := at_T27 h (i : Int) (by omega) (by omega)
  rw [Int.toNat_natCast] at r0 r1 r2 r3 r4 r5
  have hrd : rd_T27 l (i : Int) = l[i] := by simp [rd_T27, hi]
  rw [hrd] at r0 r1 r2 r3 r4 r5 l4 g4 l5 g5
  exact ⟨ad, A4, c4, A5, c5, hA, ⟨r0, r1, r2, r3, r4, r5⟩, A4, c4, A5, c5, rfl, l4, g4, l5, g5⟩
theorem sameItemP_refl (x : It) : sameItemP x x = true := by
  unfold sameItemP
  rw [decide_eq_true rfl, sameP_refl]
  rfl
set_option maxHeartbeats 16000000 in
set_option maxRecDepth 100000 in
theorem sides_walk (A0 : Option Addr) (c0 : Nat) (b : List It) (A1 : Option Addr) (c1 : Nat) (l : List It) (A2 : Option Addr) (c2 : Nat) (r : List It) (w : World) (h0 : Kd.C k27 w A0 b.length b) (k0 : b.length ≤ c0) (h1 : Kd.C k27 w A1 l.length l) (k1 : l.length ≤ c1) (h2 : Kd.C k27 w A2 r.length r) (k2 : r.length ≤ c2) (m0 : Came b) (m1 : Came l) (m2 : Came r) :
    Calls Tryd.prog 4 #[.slice A0 b.length c0, .slice A1 l.length c1, .slice A2 r.length c2] w fun e w' => e = .returned (.bool true) ∧ Below w.heap.size w w' := by
  have hdd := all_dd (W := (w.alloc (.cells #[.int .i64 2, .string ⟨#[47, 100]⟩, .string ⟨#[]⟩, .int .i64 0, .slice none 0 0, .slice none 0 0] 27)).alloc (.cells #[.int .i64 2, .string ⟨#[47, 100]⟩, .string ⟨#[]⟩, .int .i64 0, .slice none 0 0, .slice none 0 0] 27)) (g := w.heap.size) (h := w.heap.size + 1) (blk_alloc (blk_new w _) _) (by have h := blk_new (w.alloc (.cells #[.int .i64 2, .string ⟨#[47, 100]⟩, .string ⟨#[]⟩, .int .i64 0, .slice none 0 0, .slice none 0 0] 27)) (.cells #[.int .i64 2, .string ⟨#[47, 100]⟩, .string ⟨#[]⟩, .int .i64 0, .slice none 0 0, .slice none 0 0] 27); rw [World.size_alloc] at h; exact h)
  have HDD := Aside0.mk hdd
  have HR0 := Aside0.mk h0
  have HR1 := Aside0.mk h1
  have HR2 := Aside0.mk h2
  have M0 := Aside0.mk m0
  have M1 := Aside0.mk m1
  have M2 := Aside0.mk m2
  have n0 := m0.n
  have n1 := m1.n
  have n2 := m2.n
  have hu := Tryd.underlying27
  clear hdd h0 h1 h2 m0 m1 m2
  go_enter Tryd.func4, Tryd.ntmps4
  go_wp2_with fail
  refine HDD.out.mono ?_
  rintro e w1 ⟨rfl, hb1⟩
  have HB1 := Aside0.mk (show Below w.heap.size w w1 from ((((Below.refl _ _).alloc (Nat.le_refl _) _).alloc (by simp) _).trans (hb1.mono (by simp; omega))))
  clear hb1 HDD
  go_wp2_with fail
  refine (twins_c (Kd.C_below HR0.out HB1.out) k0 M0.out).mono ?_
  rintro e w2 ⟨B0, d0, rfl, q0, hC0, hb2⟩
  have HB2 := Aside0.mk (HB1.out.trans (hb2.mono HB1.out.size))
  have HC0 := Aside0.mk hC0
  clear hb2 hC0
  go_wp2_with fail
  refine (twins_c (Kd.C_below HR1.out HB2.out) k1 M1.out).mono ?_
  rintro e w3 ⟨B1, d1, rfl, q1, hC1, hb3⟩
  have HB3 := Aside0.mk (HB2.out.trans (hb3.mono HB2.out.size))
  have HC1 := Aside0.mk hC1
  have HC0 := Aside0.mk (Kd.C_below HC0.out hb3)
  clear hb3 hC1
  go_wp2_with fail
  refine (twins_c (Kd.C_below HR2.out HB3.out) k2 M2.out).mono ?_
  rintro e w4 ⟨B2, d2, rfl, q2, hC2, hb4⟩
  have HB4 := Aside0.mk (HB3.out.trans (hb4.mono HB3.out.size))
  have HC2 := Aside0.mk hC2
  have HC1 := Aside0.mk (Kd.C_below HC1.out hb4)
  have HC0 := Aside0.mk (Kd.C_below HC0.out hb4)
  clear hb4 hC2
  go_wp2_with fail
  refine (merge_c HC0.out q0 HC1.out q1 HC2.out q2 M0.out M1.out M2.out).mono ?_
  rintro e w5 ⟨I0, ci, V0, cv, rfl, hci, hCI, hcv, hCV, hb5⟩
  have HB5 := Aside0.mk (HB4.out.trans (hb5.mono HB4.out.size))
  obtain ⟨mm, hmm⟩ : ∃ mm, mergeP b l r = mm := ⟨_, rfl⟩
  rw [hmm] at hci hCI hcv hCV ⊢
  obtain ⟨I, Cc, E⟩ := mm
  dsimp only at hci hCI hcv hCV ⊢
  have HMM := Aside0.mk hmm
  have HCI := Aside0.mk hCI
  have HCV := Aside0.mk hCV
  clear hb5 hCI hCV hmm HC0 HC1 HC2
  go_wp2_with fail
  refine (unlike_c (Kd.C_below HR0.out HB5.out) k0 (Kd.C_below HR1.out HB5.out) k1 (Kd.C_below HR2.out HB5.out) k2 M0.out M1.out M2.out).mono ?_
  rintro e w6 ⟨rfl, hb6⟩
  have HB6 := Aside0.mk (HB5.out.trans (hb6.mono HB5.out.size))
  have HCI := Aside0.mk (Kd.C_below HCI.out hb6)
  have HCV := Aside0.mk (Kd.C_below HCV.out hb6)
  clear hb6
  obtain ⟨U, hU⟩ : ∃ U, unlikeP b l r = U := ⟨_, rfl⟩
  rw [hU]
  have HU := Aside0.mk hU
  clear hU
  by_cases hU0 : U ≠ 0
  · have u1 : (U != 0) = true := bne_iff_ne.2 hU0
    have hE : E = U := by
      have := merge_unlike (b := b) (l := l) (r := r) (by rw [HU.out]; exact hU0)
      rw [HMM.out, HU.out] at this
      exact this
    subst hE
    clear hU0
    go_wp2_with fail
    refine (num_c E _).mono ?_
    rintro e w7 ⟨rfl, hb7⟩
    have HB7 := Aside0.mk (HB6.out.trans (hb7.mono HB6.out.size))
    clear hb7
    go_wp2_with fail
    go_ret
    exact ⟨by simp, HB7.out⟩
  · have hU1 : U = 0 := Decidable.not_not.1 hU0
    subst hU1
    have htr : Tree b ∧ Tree l ∧ Tree r := by
      have h := HU.out
      unfold unlikeP at h
      by_cases z0 : (packP b).2 ≠ 0
      · rw [if_pos z0] at h
        exact absurd h z0
      · rw [if_neg z0] at h
        by_cases z1 : (packP l).2 ≠ 0
        · rw [if_pos z1] at h
          exact absurd h z1
        · rw [if_neg z1] at h
          exact ⟨M0.out.tree (Decidable.not_not.1 z0), M1.out.tree (Decidable.not_not.1 z1), M2.out.tree h⟩
    have HT := Aside0.mk htr
    have hme := merge_err htr.1.pack htr.2.1.pack htr.2.2.pack
    have hmi := HMM.out
    rw [merge_is htr.1 htr.2.1 htr.2.2] at hmi
    clear hU0 htr
    by_cases hE0 : E ≠ 0
    · have hE7 : E = 7 ∧ muchP l r := by
        by_cases hz : (packP (merged b l r).2.1).2 ≠ 0
        · rw [if_pos hz] at hmi
          injection hmi with _ hmi
          injection hmi with _ hmi
          rcases hme.1 with h | h
          · exact absurd h hz
          · exact ⟨hmi.symm.trans h, hme.2 hz⟩
        · rw [if_neg hz] at hmi
          injection hmi with _ hmi
          injection hmi with _ hmi
          exact absurd hmi.symm hE0
      obtain ⟨rfl, hmu⟩ := hE7
      have HMU := Aside0.mk hmu
      clear hmi hme hE0 hmu
      go_wp2_with fail
      refine (num_c 7 _).mono ?_
      rintro e w7 ⟨rfl, hb7⟩
      have HB7 := Aside0.mk (HB6.out.trans (hb7.mono HB6.out.size))
      clear hb7
      go_wp2_with fail
      refine (num_c 7 _).mono ?_
      rintro e w8 ⟨rfl, hb8⟩
      have HB8 := Aside0.mk (HB7.out.trans (hb8.mono HB7.out.size))
      clear hb8
      go_wp2_with fail
      refine (num_c 7 _).mono ?_
      rintro e w9 ⟨rfl, hb9⟩
      have HB9 := Aside0.mk (HB8.out.trans (hb9.mono HB8.out.size))
      clear hb9
      go_wp2_with fail
      have hmc := much_c (Kd.C_below HR1.out HB9.out) k1 (Kd.C_below HR2.out HB9.out) k2 HT.out.2.1 HT.out.2.2
      rw [decide_eq_true HMU.out] at hmc
      refine hmc.mono ?_
      rintro e w10 ⟨rfl, hb10⟩
      have HB10 := Aside0.mk (HB9.out.trans (hb10.mono HB9.out.size))
      clear hb10 hmc
      go_wp2_with fail
      go_ret
      exact ⟨by simp, HB10.out⟩
    · have hE1 : E = 0 := Decidable.not_not.1 hE0
      subst hE1
      have hic : I = (merged b l r).2.1 ∧ Cc = (merged b l r).2.2 ∧ (packP (merged b l r).2.1).2 = 0 := by
        by_cases hz : (packP (merged b l r).2.1).2 ≠ 0
        · rw [if_pos hz] at hmi
          injection hmi with _ hmi
          injection hmi with _ hmi
          exact absurd hmi hz
        · rw [if_neg hz] at hmi
          injection hmi with e1 hmi
          injection hmi with e2 hmi
          exact ⟨e1.symm, e2.symm, Decidable.not_not.1 hz⟩
      obtain ⟨hI, hCc, hpz⟩ := hic
      have HI := Aside0.mk hI
      have HCc := Aside0.mk hCc
      have hTI : Tree I := by
        rw [hI]
        refine ⟨hpz, fun x hx => ?_⟩
        rcases merged_from x hx with h | h
        · exact HT.out.2.1.fit x h
        · exact HT.out.2.2.fit x h
      have hCl : Cc.length < 9223372036854775807 := by
        rw [hCc]
        have h1 := mfold_length (rounds3 b l r) ms0
        have h2 := roundsF_length (three3 b l r) (leftN (three3 b l r) (fun _ => 0)) (fun _ => 0)
        have h3 := left3 (three3 b l r) (pack_zero HT.out.1.pack).1 (pack_zero HT.out.2.1.pack).1 (pack_zero HT.out.2.2.pack).1
        have h4 : (rounds3 b l r).length ≤ 12288 := Nat.le_trans h2 h3
        have h5 : ms0.2.2.length = 0 := rfl
        show ((rounds3 b l r).foldl mstep ms0).2.2.length < _
        omega
      have hIl := (pack_zero hTI.pack).1
      have HTI := Aside0.mk hTI
      have hti : ((packP I).2 == 0) = true := beq_iff_eq.2 hTI.pack
      have HTIb := Aside0.mk hti
      clear hmi hme hE0 hI hCc hpz hTI hti HMM HU
      go_wp2_with fail
      refine (num_c 0 _).mono ?_
      rintro e w7 ⟨rfl, hb7⟩
      have HB7 := Aside0.mk (HB6.out.trans (hb7.mono HB6.out.size))
      have HCI := Aside0.mk (Kd.C_below HCI.out hb7)
      have HCV := Aside0.mk (Kd.C_below HCV.out hb7)
      clear hb7
      by_cases g0 : 200 < b.length
      · have t_b : decide ((200 : Int) < (b.length : Int)) = true := decide_eq_true (by omega)
        have t_b2 : decide (200 < b.length) = true := decide_eq_true (by omega)
        go_wp2_with fail
        have hit := isTree_c HCI.out hci HTI.out.came
        rw [HTIb.out] at hit
        refine hit.mono ?_
        rintro e w8 ⟨rfl, hb8⟩
        have HB8 := Aside0.mk (HB7.out.trans (hb8.mono HB7.out.size))
        clear hb8 hit
        go_wp2_with fail
        go_ret
        exact ⟨by simp, HB8.out⟩
      · have t_b : decide ((200 : Int) < (b.length : Int)) = false := decide_eq_false (by omega)
        have t_b2 : decide (200 < b.length) = false := decide_eq_false (by omega)
        clear g0
        by_cases g1 : 200 < l.length
        · have t_l : decide ((200 : Int) < (l.length : Int)) = true := decide_eq_true (by omega)
          have t_l2 : decide (200 < l.length) = true := decide_eq_true (by omega)
          go_wp2_with fail
          have hit := isTree_c HCI.out hci HTI.out.came
          rw [HTIb.out] at hit
          refine hit.mono ?_
          rintro e w8 ⟨rfl, hb8⟩
          have HB8 := Aside0.mk (HB7.out.trans (hb8.mono HB7.out.size))
          clear hb8 hit
          go_wp2_with fail
          go_ret
          exact ⟨by simp, HB8.out⟩
        · have t_l : decide ((200 : Int) < (l.length : Int)) = false := decide_eq_false (by omega)
          have t_l2 : decide (200 < l.length) = false := decide_eq_false (by omega)
          clear g1
          by_cases g2 : 200 < r.length
          · have t_r : decide ((200 : Int) < (r.length : Int)) = true := decide_eq_true (by omega)
            have t_r2 : decide (200 < r.length) = true := decide_eq_true (by omega)
            go_wp2_with fail
            have hit := isTree_c HCI.out hci HTI.out.came
            rw [HTIb.out] at hit
            refine hit.mono ?_
            rintro e w8 ⟨rfl, hb8⟩
            have HB8 := Aside0.mk (HB7.out.trans (hb8.mono HB7.out.size))
            clear hb8 hit
            go_wp2_with fail
            go_ret
            exact ⟨by simp, HB8.out⟩
          · have t_r : decide ((200 : Int) < (r.length : Int)) = false := decide_eq_false (by omega)
            have t_r2 : decide (200 < r.length) = false := decide_eq_false (by omega)
            clear g2
            go_wp2_with fail
            have hit := isTree_c HCI.out hci HTI.out.came
            rw [HTIb.out] at hit
            refine hit.mono ?_
            rintro e w8 ⟨rfl, hb8⟩
            have HB8 := Aside0.mk (HB7.out.trans (hb8.mono HB7.out.size))
            have HCI := Aside0.mk (Kd.C_below HCI.out hb8)
            have HCV := Aside0.mk (Kd.C_below HCV.out hb8)
            clear hb8 hit t_b t_b2 t_l t_l2 t_r t_r2
            go_wp2_with fail
            go_loopg [11] I.length (fun g s11 wr => ∃ i : Nat, I.length - i ≤ g ∧ s11 = .int .i64 i ∧ i ≤ I.length ∧ Aside0 (Below w.heap.size w wr) ∧ Aside0 (Below w8.heap.size w8 wr))
            case atStart => exact ⟨0, by omega, rfl, by omega, HB8, ⟨Below.refl _ _⟩⟩
            case round =>
              obtain ⟨i, hig, rfl, hi, HBa, HBc⟩ := hrel
              by_cases hi2 : i < I.length
              · have hd : decide ((i : Int) < (I.length : Int)) = true := decide_eq_true (by omega)
                have hd2 : decide (i < I.length) = true := decide_eq_true hi2
                obtain ⟨ad, X4, Xc4, X5, Xc5, hA, hsix, hvx⟩ := row_six (Kd.C_below HCI.out HBc.out) i hi2
                have hfrom : (atP l I[i].f1).1 = I[i] ∨ (atP r I[i].f1).1 = I[i] := by
                  have hm : I[i] ∈ (merged b l r).2.1 := by rw [← HI.out]; exact List.getElem_mem hi2
                  rcases merged_from _ hm with h | h
                  · exact .inl (by rw [at_self HT.out.2.1 h])
                  · exact .inr (by rw [at_self HT.out.2.2 h])
                obtain ⟨x, hx⟩ : ∃ x, I[i] = x := ⟨_, rfl⟩
                rw [hx] at hsix hvx hfrom
                subst hA
                have HSX := Aside0.mk hsix
                have HVX := Aside0.mk hvx
                have HFR := Aside0.mk hfrom
                have r1 := hsix.2.1
                clear hx hsix hvx hfrom
                go_wp2_with fail
                refine (at_any A1 c1 l x.f1 _ (Kd.C_below HR1.out HBa.out) (by omega)).mono ?_
                rintro e w9 ⟨v9, rfl, hv9, hb9⟩
                have hvL := hv9.below hb9
                obtain ⟨xl, hxl⟩ : ∃ y, (atP l x.f1).1 = y := ⟨_, rfl⟩
                rw [hxl] at hvL
                clear hv9
                obtain ⟨L4, Lc4, L5, Lc5, rfl, l4, g4, l5, g5⟩ := hvL
                have HVL := Aside0.mk (show IV w9 xl (.agg #[.int .i64 xl.f0, .string xl.f1, .string xl.f2, .int .i64 xl.f3, .slice L4 xl.f4.length Lc4, .slice L5 xl.f5.length Lc5]) from ⟨L4, Lc4, L5, Lc5, rfl, l4, g4, l5, g5⟩)
                have hb9a := hb9.trans ((Below.refl w9.heap.size w9).alloc (Nat.le_refl _) (.cells #[.int .i64 xl.f0, .string xl.f1, .string xl.f2, .int .i64 xl.f3, .slice L4 xl.f4.length Lc4, .slice L5 xl.f5.length Lc5] 27) |>.mono hb9.size)
                have HB9 := Aside0.mk hb9a
                have r1 := pw_cell_below hb9a r1
                have HXL := Aside0.mk hxl
                have hgL := blk_new w9 (.cells #[.int .i64 xl.f0, .string xl.f1, .string xl.f2, .int .i64 xl.f3, .slice L4 xl.f4.length Lc4, .slice L5 xl.f5.length Lc5] 27)
                have HGL := Aside0.mk hgL
                clear l4 g4 l5 g5 hb9 hb9a hxl hgL
                go_wp2_with fail
                refine (at_any A2 c2 r x.f1 _ (Kd.C_below HR2.out (HBa.out.trans (HB9.out.mono HBa.out.size))) (by omega)).mono ?_
                rintro e w10 ⟨v10, rfl, hv10, hb10⟩
                have hvR := hv10.below hb10
                obtain ⟨xr, hxr⟩ : ∃ y, (atP r x.f1).1 = y := ⟨_, rfl⟩
                rw [hxr] at hvR
                clear hv10 r1
                obtain ⟨R4, Rc4, R5, Rc5, rfl, l4, g4, l5, g5⟩ := hvR
                have hvR := (show IV w10 xr (.agg #[.int .i64 xr.f0, .string xr.f1, .string xr.f2, .int .i64 xr.f3, .slice R4 xr.f4.length Rc4, .slice R5 xr.f5.length Rc5]) from ⟨R4, Rc4, R5, Rc5, rfl, l4, g4, l5, g5⟩)
                clear l4 g4 l5 g5
                go_wp2_with fail
                have hbn := (Below.refl w10.heap.size w10).alloc (Nat.le_refl _) (.cells #[.int .i64 xr.f0, .string xr.f1, .string xr.f2, .int .i64 xr.f3, .slice R4 xr.f4.length Rc4, .slice R5 xr.f5.length Rc5] 27)
                have hgR := blk_new w10 (.cells #[.int .i64 xr.f0, .string xr.f1, .string xr.f2, .int .i64 xr.f3, .slice R4 xr.f4.length Rc4, .slice R5 xr.f5.length Rc5] 27)
                have hgL := blk_below (blk_below HGL.out hb10) hbn
                have hbl := hb10.trans (hbn.mono hb10.size)
                have hbL := ((Below.refl w9.heap.size w9).alloc (Nat.le_refl _) (.cells #[.int .i64 xl.f0, .string xl.f1, .string xl.f2, .int .i64 xl.f3, .slice L4 xl.f4.length Lc4, .slice L5 xl.f5.length Lc5] 27)).trans (hbl.mono (by simp))
                have hbx := HB9.out.trans (hbl.mono HB9.out.size)
                obtain ⟨gL, hgl⟩ : ∃ g, w9.heap.size = g := ⟨_, rfl⟩
                obtain ⟨gR, hgr⟩ : ∃ g, w10.heap.size = g := ⟨_, rfl⟩
                obtain ⟨Wd, hWd⟩ : ∃ Wd, w10.alloc (.cells #[.int .i64 xr.f0, .string xr.f1, .string xr.f2, .int .i64 xr.f3, .slice R4 xr.f4.length Rc4, .slice R5 xr.f5.length Rc5] 27) = Wd := ⟨_, rfl⟩
                have hvL2 := HVL.out.below hbL
                have hvR2 := hvR.below hbn
                rw [hWd] at hvL2 hvR2 hgR hgL hbx
                rw [hgl] at hgL
                rw [hgr] at hgR
                rw [hWd, hgl, hgr]
                have hsx := HSX.out.below hbx
                have HVL := Aside0.mk hvL2
                have HVR := Aside0.mk hvR2
                have HVX := Aside0.mk (HVX.out.below hbx)
                have HXR := Aside0.mk hxr
                have HBd := Aside0.mk (HBa.out.trans (hbx.mono HBa.out.size))
                have HBe := Aside0.mk (HBc.out.trans (hbx.mono HBc.out.size))
                have HS16 := Aside0.mk ((show Six3 Wd gL xl L4 Lc4 L5 Lc5 gR xr R4 Rc4 R5 Rc5 (ad.add (i * 6)) x X4 Xc4 X5 Xc5 from ⟨six_box hgL, six_box hgR, hsx⟩).below (below_drew (Below.refl _ _)))
                clear hbn hgR hgL hbl hbL hbx hgl hgr hWd hvL2 hvR2 hvR hsx hxr hb10 HGL HB9
                by_cases hs1 : sameItemP xl x = true
                · have HS1 := Aside0.mk hs1
                  clear hs1
                  refine start_ (n := 16) (S := fun w' => Six3 w' gL xl L4 Lc4 L5 Lc5 gR xr R4 Rc4 R5 Rc5 (ad.add (i * 6)) x X4 Xc4 X5 Xc5) (ds := []) #[false, false, false, false, false, false, false, false, false, false, false, false, false, false, false, false] (by kernel_rfl) rfl rfl HS16.out (fun hHeld => ?_)
                  refine take_ (i := 0) (N := some 121) (v := ?_) (a' := ?_) #[true, false, false, false, false, false, false, false, false, false, false, false, false, false, false, false] rfl rfl (by kernel_rfl) (fun _ _ _ h => h) (Or.inl ⟨by rfl, ?_⟩) hHeld ?_ ?_
                  rotate_left
                  · rintro w' ⟨⟨s0, s1, s2, s3, s4, s5⟩, ⟨t0, t1, t2, t3, t4, t5⟩, ⟨u0, u1, u2, u3, u4, u5⟩⟩
                    go_simp
                    with_reducible rfl
                  rotate_left
                  · simp only [Act.put, List.setIfInBounds_toArray, List.set_cons_zero, List.set_cons_succ, i64_w, i32_w]
                    rfl
                  refine pure_ (i := 1) (N := some 122) (v := ?_) (a' := ?_) #[true, true, false, false, false, false, false, false, false, false, false, false, false, false, false, false] rfl rfl (by kernel_rfl) (fun _ _ _ h => h) (Or.inl ⟨by rfl, ?_⟩) ?_ ?_
                  rotate_left
                  · intro w'
                    go_simp
                    with_reducible rfl
                  rotate_left
                  · simp only [Act.put, List.setIfInBounds_toArray, List.set_cons_zero, List.set_cons_succ, i64_w, i32_w]
                    rfl
                  refine pure_ (i := 2) (N := some 123) (v := ?_) (a' := ?_) #[true, true, true, false, false, false, false, false, false, false, false, false, false, false, false, false] rfl rfl (by kernel_rfl) (fun _ _ _ h => h) (Or.inl ⟨by rfl, ?_⟩) ?_ ?_
                  rotate_left
                  · intro w'
                    go_simp
                    with_reducible rfl
                  rotate_left
                  · simp only [Act.put, List.setIfInBounds_toArray, List.set_cons_zero, List.set_cons_succ, i64_w, i32_w]
                    rfl
                  refine pure_ (i := 3) (N := some 124) (v := ?_) (a' := ?_) #[true, true, true, true, false, false, false, false, false, false, false, false, false, false, false, false] rfl rfl (by kernel_rfl) (fun _ _ _ h => h) (Or.inl ⟨by rfl, ?_⟩) ?_ ?_
                  rotate_left
                  · intro w'
                    go_simp
                    with_reducible rfl
                  rotate_left
                  · simp only [Act.put, List.setIfInBounds_toArray, List.set_cons_zero, List.set_cons_succ, i64_w, i32_w]
                    rfl
                  refine take_ (i := 4) (N := some 125) (v := ?_) (a' := ?_) #[true, true, true, true, true, false, false, false, false, false, false, false, false, false, false, false] rfl rfl (by kernel_rfl) (fun _ _ _ h => h) (Or.inl ⟨by rfl, ?_⟩) hHeld ?_ ?_
                  rotate_left
                  · rintro w' ⟨⟨s0, s1, s2, s3, s4, s5⟩, ⟨t0, t1, t2, t3, t4, t5⟩, ⟨u0, u1, u2, u3, u4, u5⟩⟩
                    go_simp
                    with_reducible rfl
                  rotate_left
                  · simp only [Act.put, List.setIfInBounds_toArray, List.set_cons_zero, List.set_cons_succ, i64_w, i32_w]
                    rfl
                  refine one_ (i := 5) (N := some 126) #[true, true, true, true, true, true, false, false, false, false, false, false, false, false, false, false] rfl rfl (by kernel_rfl) (by decide) (fun K hK => ?_)
                  refine goes_ Tryd.func15 (by kernel_rfl) rfl #[.agg #[.int .i64 xl.f0, .string xl.f1, .string xl.f2, .int .i64 xl.f3, .slice L4 xl.f4.length Lc4, .slice L5 xl.f5.length Lc5], .agg #[.int .i64 x.f0, .string x.f1, .string x.f2, .int .i64 x.f3, .slice X4 x.f4.length Xc4, .slice X5 x.f5.length Xc5]] (by rfl) rfl rfl (by (try simp only [List.map_toArray, List.map_cons, List.map_nil]); first | done | rfl) ?_
                  have hcl := sameItem_c (HVL.out.below (below_drew (Below.refl _ _))) (HVX.out.below (below_drew (Below.refl _ _)))
                  rw [HS1.out] at hcl
                  refine hcl.mono ?_
                  rintro e w12 ⟨rfl, hb12⟩
                  refine ⟨_, rfl, ?_⟩
                  have hh2 := (show Six3 _ _ xl _ _ _ _ _ xr _ _ _ _ _ x _ _ _ _ from hHeld).below hb12
                  have HVR2 := Aside0.mk ((HVR.out.below (below_drew (Below.refl _ _))).below hb12)
                  have HVX2 := Aside0.mk ((HVX.out.below (below_drew (Below.refl _ _))).below hb12)
                  have HB12 := Aside0.mk (((below_drew (Below.refl Wd.heap.size Wd)).trans (hb12.mono (by simp))))
                  refine hK.out _ _ hh2 (fun hHeld => ?_)
                  clear hK K hcl hb12 hh2
                  refine norm_ (a' := ?_) ?_ ?_
                  rotate_left
                  · show Act.put _ (some 126) _ = _
                    simp only [Act.put, List.setIfInBounds_toArray, List.set_cons_zero, List.set_cons_succ, i64_w, i32_w]
                    rfl
                  refine pure_ (i := 6) (N := some 127) (v := ?_) (a' := ?_) #[true, true, true, true, true, true, true, false, false, false, false, false, false, false, false, false] rfl rfl (by kernel_rfl) (fun _ _ _ h => h) (Or.inl ⟨by rfl, ?_⟩) ?_ ?_
                  rotate_left
                  · intro w'
                    go_simp
                    with_reducible rfl
                  rotate_left
                  · simp only [Act.put, List.setIfInBounds_toArray, List.set_cons_zero, List.set_cons_succ, i64_w, i32_w]
                    rfl
                  refine pure_ (i := 7) (N := some 128) (v := ?_) (a' := ?_) #[true, true, true, true, true, true, true, true, false, false, false, false, false, false, false, false] rfl rfl (by kernel_rfl) (fun _ _ _ h => h) (Or.inl ⟨by rfl, ?_⟩) ?_ ?_
                  rotate_left
                  · intro w'
                    go_simp
                    with_reducible rfl
                  rotate_left
                  · simp only [Act.put, List.setIfInBounds_toArray, List.set_cons_zero, List.set_cons_succ, i64_w, i32_w]
                    rfl
                  refine pure_ (i := 8) (N := some 129) (a' := ?_) #[true, true, true, true, true, true, true, true, true, false, false, false, false, false, false, false] rfl rfl (by kernel_rfl) (fun _ _ _ h => h) (Or.inr ⟨by rfl, rfl⟩) ?_ ?_
                  rotate_left
                  · simp only [Act.put, List.setIfInBounds_toArray, List.set_cons_zero, List.set_cons_succ, i64_w, i32_w]
                    rfl
                  refine pure_ (i := 9) (N := some 130) (a' := ?_) #[true, true, true, true, true, true, true, true, true, true, false, false, false, false, false, false] rfl rfl (by kernel_rfl) (fun _ _ _ h => h) (Or.inr ⟨by rfl, rfl⟩) ?_ ?_
                  rotate_left
                  · simp only [Act.put, List.setIfInBounds_toArray, List.set_cons_zero, List.set_cons_succ, i64_w, i32_w]
                    rfl
                  refine pure_ (i := 10) (N := some 131) (a' := ?_) #[true, true, true, true, true, true, true, true, true, true, true, false, false, false, false, false] rfl rfl (by kernel_rfl) (fun _ _ _ h => h) (Or.inr ⟨by rfl, rfl⟩) ?_ ?_
                  rotate_left
                  · simp only [Act.put, List.setIfInBounds_toArray, List.set_cons_zero, List.set_cons_succ, i64_w, i32_w]
                    rfl
                  refine pure_ (i := 11) (N := some 132) (a' := ?_) #[true, true, true, true, true, true, true, true, true, true, true, true, false, false, false, false] rfl rfl (by kernel_rfl) (fun _ _ _ h => h) (Or.inr ⟨by rfl, rfl⟩) ?_ ?_
                  rotate_left
                  · simp only [Act.put, List.setIfInBounds_toArray, List.set_cons_zero, List.set_cons_succ, i64_w, i32_w]
                    rfl
                  refine pure_ (i := 12) (N := some 133) (a' := ?_) #[true, true, true, true, true, true, true, true, true, true, true, true, true, false, false, false] rfl rfl (by kernel_rfl) (fun _ _ _ h => h) (Or.inr ⟨by rfl, rfl⟩) ?_ ?_
                  rotate_left
                  · simp only [Act.put, List.setIfInBounds_toArray, List.set_cons_zero, List.set_cons_succ, i64_w, i32_w]
                    rfl
                  refine pure_ (i := 13) (N := some 134) (a' := ?_) #[true, true, true, true, true, true, true, true, true, true, true, true, true, true, false, false] rfl rfl (by kernel_rfl) (fun _ _ _ h => h) (Or.inr ⟨by rfl, rfl⟩) ?_ ?_
                  rotate_left
                  · simp only [Act.put, List.setIfInBounds_toArray, List.set_cons_zero, List.set_cons_succ, i64_w, i32_w]
                    rfl
                  refine pure_ (i := 14) (N := some 135) (a' := ?_) #[true, true, true, true, true, true, true, true, true, true, true, true, true, true, true, false] rfl rfl (by kernel_rfl) (fun _ _ _ h => h) (Or.inr ⟨by rfl, rfl⟩) ?_ ?_
                  rotate_left
                  · simp only [Act.put, List.setIfInBounds_toArray, List.set_cons_zero, List.set_cons_succ, i64_w, i32_w]
                    rfl
                  refine pure_ (i := 15) (N := some 136) (v := ?_) (a' := ?_) #[true, true, true, true, true, true, true, true, true, true, true, true, true, true, true, true] rfl rfl (by kernel_rfl) (fun _ _ _ h => h) (Or.inl ⟨by rfl, ?_⟩) ?_ ?_
                  rotate_left
                  · intro w'
                    go_simp
                    with_reducible rfl
                  rotate_left
                  · simp only [Act.put, List.setIfInBounds_toArray, List.set_cons_zero, List.set_cons_succ, i64_w, i32_w]
                    rfl
                  refine done_ (by kernel_rfl) ?_
                  go_wp2_with fail
                  go_roundg (I.length - (i + 1))
                  case measure => omega
                  case rel => exact ⟨i + 1, by omega, by first | rfl | simp, by omega, ⟨HBd.out.trans (HB12.out.mono HBd.out.size)⟩, ⟨HBe.out.trans (HB12.out.mono HBe.out.size)⟩⟩
                · have HS1 := Aside0.mk ((Bool.not_eq_true _).mp hs1)
                  have HS2 : Aside0 (sameItemP xr x = true) := ⟨by
                    rcases HFR.out with h | h
                    · rw [HXL.out] at h
                      exact absurd (by rw [h]; exact sameItemP_refl x) hs1
                    · rw [HXR.out] at h
                      rw [h]
                      exact sameItemP_refl x⟩
                  clear hs1
                  refine start_ (n := 16) (S := fun w' => Six3 w' gL xl L4 Lc4 L5 Lc5 gR xr R4 Rc4 R5 Rc5 (ad.add (i * 6)) x X4 Xc4 X5 Xc5) (ds := []) #[false, false, false, false, false, false, false, false, false, false, false, false, false, false, false, false] (by kernel_rfl) rfl rfl HS16.out (fun hHeld => ?_)
                  refine take_ (i := 0) (N := some 121) (v := ?_) (a' := ?_) #[true, false, false, false, false, false, false, false, false, false, false, false, false, false, false, false] rfl rfl (by kernel_rfl) (fun _ _ _ h => h) (Or.inl ⟨by rfl, ?_⟩) hHeld ?_ ?_
                  rotate_left
                  · rintro w' ⟨⟨s0, s1, s2, s3, s4, s5⟩, ⟨t0, t1, t2, t3, t4, t5⟩, ⟨u0, u1, u2, u3, u4, u5⟩⟩
                    go_simp
                    with_reducible rfl
                  rotate_left
                  · simp only [Act.put, List.setIfInBounds_toArray, List.set_cons_zero, List.set_cons_succ, i64_w, i32_w]
                    rfl
                  refine pure_ (i := 1) (N := some 122) (v := ?_) (a' := ?_) #[true, true, false, false, false, false, false, false, false, false, false, false, false, false, false, false] rfl rfl (by kernel_rfl) (fun _ _ _ h => h) (Or.inl ⟨by rfl, ?_⟩) ?_ ?_
                  rotate_left
                  · intro w'
                    go_simp
                    with_reducible rfl
                  rotate_left
                  · simp only [Act.put, List.setIfInBounds_toArray, List.set_cons_zero, List.set_cons_succ, i64_w, i32_w]
                    rfl
                  refine pure_ (i := 2) (N := some 123) (v := ?_) (a' := ?_) #[true, true, true, false, false, false, false, false, false, false, false, false, false, false, false, false] rfl rfl (by kernel_rfl) (fun _ _ _ h => h) (Or.inl ⟨by rfl, ?_⟩) ?_ ?_
                  rotate_left
                  · intro w'
                    go_simp
                    with_reducible rfl
                  rotate_left
                  · simp only [Act.put, List.setIfInBounds_toArray, List.set_cons_zero, List.set_cons_succ, i64_w, i32_w]
                    rfl
                  refine pure_ (i := 3) (N := some 124) (v := ?_) (a' := ?_) #[true, true, true, true, false, false, false, false, false, false, false, false, false, false, false, false] rfl rfl (by kernel_rfl) (fun _ _ _ h => h) (Or.inl ⟨by rfl, ?_⟩) ?_ ?_
                  rotate_left
                  · intro w'
                    go_simp
                    with_reducible rfl
                  rotate_left
                  · simp only [Act.put, List.setIfInBounds_toArray, List.set_cons_zero, List.set_cons_succ, i64_w, i32_w]
                    rfl
                  refine take_ (i := 4) (N := some 125) (v := ?_) (a' := ?_) #[true, true, true, true, true, false, false, false, false, false, false, false, false, false, false, false] rfl rfl (by kernel_rfl) (fun _ _ _ h => h) (Or.inl ⟨by rfl, ?_⟩) hHeld ?_ ?_
                  rotate_left
                  · rintro w' ⟨⟨s0, s1, s2, s3, s4, s5⟩, ⟨t0, t1, t2, t3, t4, t5⟩, ⟨u0, u1, u2, u3, u4, u5⟩⟩
                    go_simp
                    with_reducible rfl
                  rotate_left
                  · simp only [Act.put, List.setIfInBounds_toArray, List.set_cons_zero, List.set_cons_succ, i64_w, i32_w]
                    rfl
                  refine one_ (i := 5) (N := some 126) #[true, true, true, true, true, true, false, false, false, false, false, false, false, false, false, false] rfl rfl (by kernel_rfl) (by decide) (fun K hK => ?_)
                  refine goes_ Tryd.func15 (by kernel_rfl) rfl #[.agg #[.int .i64 xl.f0, .string xl.f1, .string xl.f2, .int .i64 xl.f3, .slice L4 xl.f4.length Lc4, .slice L5 xl.f5.length Lc5], .agg #[.int .i64 x.f0, .string x.f1, .string x.f2, .int .i64 x.f3, .slice X4 x.f4.length Xc4, .slice X5 x.f5.length Xc5]] (by rfl) rfl rfl (by (try simp only [List.map_toArray, List.map_cons, List.map_nil]); first | done | rfl) ?_
                  have hcl := sameItem_c (HVL.out.below (below_drew (Below.refl _ _))) (HVX.out.below (below_drew (Below.refl _ _)))
                  rw [HS1.out] at hcl
                  refine hcl.mono ?_
                  rintro e w12 ⟨rfl, hb12⟩
                  refine ⟨_, rfl, ?_⟩
                  have hh2 := (show Six3 _ _ xl _ _ _ _ _ xr _ _ _ _ _ x _ _ _ _ from hHeld).below hb12
                  have HVR2 := Aside0.mk ((HVR.out.below (below_drew (Below.refl _ _))).below hb12)
                  have HVX2 := Aside0.mk ((HVX.out.below (below_drew (Below.refl _ _))).below hb12)
                  have HB12 := Aside0.mk (((below_drew (Below.refl Wd.heap.size Wd)).trans (hb12.mono (by simp))))
                  refine hK.out _ _ hh2 (fun hHeld => ?_)
                  clear hK K hcl hb12 hh2
                  refine norm_ (a' := ?_) ?_ ?_
                  rotate_left
                  · show Act.put _ (some 126) _ = _
                    simp only [Act.put, List.setIfInBounds_toArray, List.set_cons_zero, List.set_cons_succ, i64_w, i32_w]
                    rfl
                  refine pure_ (i := 6) (N := some 127) (v := ?_) (a' := ?_) #[true, true, true, true, true, true, true, false, false, false, false, false, false, false, false, false] rfl rfl (by kernel_rfl) (fun _ _ _ h => h) (Or.inl ⟨by rfl, ?_⟩) ?_ ?_
                  rotate_left
                  · intro w'
                    go_simp
                    with_reducible rfl
                  rotate_left
                  · simp only [Act.put, List.setIfInBounds_toArray, List.set_cons_zero, List.set_cons_succ, i64_w, i32_w]
                    rfl
                  refine pure_ (i := 7) (N := some 128) (v := ?_) (a' := ?_) #[true, true, true, true, true, true, true, true, false, false, false, false, false, false, false, false] rfl rfl (by kernel_rfl) (fun _ _ _ h => h) (Or.inl ⟨by rfl, ?_⟩) ?_ ?_
                  rotate_left
                  · intro w'
                    go_simp
                    with_reducible rfl
                  rotate_left
                  · simp only [Act.put, List.setIfInBounds_toArray, List.set_cons_zero, List.set_cons_succ, i64_w, i32_w]
                    rfl
                  refine take_ (i := 8) (N := some 129) (v := ?_) (a' := ?_) #[true, true, true, true, true, true, true, true, true, false, false, false, false, false, false, false] rfl rfl (by kernel_rfl) (fun _ _ _ h => h) (Or.inl ⟨by rfl, ?_⟩) hHeld ?_ ?_
                  rotate_left
                  · rintro w' ⟨⟨s0, s1, s2, s3, s4, s5⟩, ⟨t0, t1, t2, t3, t4, t5⟩, ⟨u0, u1, u2, u3, u4, u5⟩⟩
                    go_simp
                    with_reducible rfl
                  rotate_left
                  · simp only [Act.put, List.setIfInBounds_toArray, List.set_cons_zero, List.set_cons_succ, i64_w, i32_w]
                    rfl
                  refine pure_ (i := 9) (N := some 130) (v := ?_) (a' := ?_) #[true, true, true, true, true, true, true, true, true, true, false, false, false, false, false, false] rfl rfl (by kernel_rfl) (fun _ _ _ h => h) (Or.inl ⟨by rfl, ?_⟩) ?_ ?_
                  rotate_left
                  · intro w'
                    go_simp
                    with_reducible rfl
                  rotate_left
                  · simp only [Act.put, List.setIfInBounds_toArray, List.set_cons_zero, List.set_cons_succ, i64_w, i32_w]
                    rfl
                  refine pure_ (i := 10) (N := some 131) (v := ?_) (a' := ?_) #[true, true, true, true, true, true, true, true, true, true, true, false, false, false, false, false] rfl rfl (by kernel_rfl) (fun _ _ _ h => h) (Or.inl ⟨by rfl, ?_⟩) ?_ ?_
                  rotate_left
                  · intro w'
                    go_simp
                    with_reducible rfl
                  rotate_left
                  · simp only [Act.put, List.setIfInBounds_toArray, List.set_cons_zero, List.set_cons_succ, i64_w, i32_w]
                    rfl
                  refine pure_ (i := 11) (N := some 132) (v := ?_) (a' := ?_) #[true, true, true, true, true, true, true, true, true, true, true, true, false, false, false, false] rfl rfl (by kernel_rfl) (fun _ _ _ h => h) (Or.inl ⟨by rfl, ?_⟩) ?_ ?_
                  rotate_left
                  · intro w'
                    go_simp
                    with_reducible rfl
                  rotate_left
                  · simp only [Act.put, List.setIfInBounds_toArray, List.set_cons_zero, List.set_cons_succ, i64_w, i32_w]
                    rfl
                  refine take_ (i := 12) (N := some 133) (v := ?_) (a' := ?_) #[true, true, true, true, true, true, true, true, true, true, true, true, true, false, false, false] rfl rfl (by kernel_rfl) (fun _ _ _ h => h) (Or.inl ⟨by rfl, ?_⟩) hHeld ?_ ?_
                  rotate_left
                  · rintro w' ⟨⟨s0, s1, s2, s3, s4, s5⟩, ⟨t0, t1, t2, t3, t4, t5⟩, ⟨u0, u1, u2, u3, u4, u5⟩⟩
                    go_simp
                    with_reducible rfl
                  rotate_left
                  · simp only [Act.put, List.setIfInBounds_toArray, List.set_cons_zero, List.set_cons_succ, i64_w, i32_w]
                    rfl
                  refine one_ (i := 13) (N := some 134) #[true, true, true, true, true, true, true, true, true, true, true, true, true, true, false, false] rfl rfl (by kernel_rfl) (by decide) (fun K hK => ?_)
                  refine goes_ Tryd.func15 (by kernel_rfl) rfl #[.agg #[.int .i64 xr.f0, .string xr.f1, .string xr.f2, .int .i64 xr.f3, .slice R4 xr.f4.length Rc4, .slice R5 xr.f5.length Rc5], .agg #[.int .i64 x.f0, .string x.f1, .string x.f2, .int .i64 x.f3, .slice X4 x.f4.length Xc4, .slice X5 x.f5.length Xc5]] (by rfl) rfl rfl (by (try simp only [List.map_toArray, List.map_cons, List.map_nil]); first | done | rfl) ?_
                  have hcl := sameItem_c HVR2.out HVX2.out
                  rw [HS2.out] at hcl
                  refine hcl.mono ?_
                  rintro e w13 ⟨rfl, hb13⟩
                  refine ⟨_, rfl, ?_⟩
                  have hh3 := (show Six3 _ _ xl _ _ _ _ _ xr _ _ _ _ _ x _ _ _ _ from hHeld).below hb13
                  have HB13 := Aside0.mk (HB12.out.trans (hb13.mono HB12.out.size))
                  refine hK.out _ _ hh3 (fun hHeld => ?_)
                  clear hK K hcl hb13 hh3
                  refine norm_ (a' := ?_) ?_ ?_
                  rotate_left
                  · show Act.put _ (some 134) _ = _
                    simp only [Act.put, List.setIfInBounds_toArray, List.set_cons_zero, List.set_cons_succ, i64_w, i32_w]
                    rfl
                  refine pure_ (i := 14) (N := some 135) (v := ?_) (a' := ?_) #[true, true, true, true, true, true, true, true, true, true, true, true, true, true, true, false] rfl rfl (by kernel_rfl) (fun _ _ _ h => h) (Or.inl ⟨by rfl, ?_⟩) ?_ ?_
                  rotate_left
                  · intro w'
                    go_simp
                    with_reducible rfl
                  rotate_left
                  · simp only [Act.put, List.setIfInBounds_toArray, List.set_cons_zero, List.set_cons_succ, i64_w, i32_w]
                    rfl
                  refine pure_ (i := 15) (N := some 136) (v := ?_) (a' := ?_) #[true, true, true, true, true, true, true, true, true, true, true, true, true, true, true, true] rfl rfl (by kernel_rfl) (fun _ _ _ h => h) (Or.inl ⟨by rfl, ?_⟩) ?_ ?_
                  rotate_left
                  · intro w'
                    go_simp
                    with_reducible rfl
                  rotate_left
                  · simp only [Act.put, List.setIfInBounds_toArray, List.set_cons_zero, List.set_cons_succ, i64_w, i32_w]
                    rfl
                  refine done_ (by kernel_rfl) ?_
                  go_wp2_with fail
                  go_roundg (I.length - (i + 1))
                  case measure => omega
                  case rel => exact ⟨i + 1, by omega, by first | rfl | simp, by omega, ⟨HBd.out.trans (HB13.out.mono HBd.out.size)⟩, ⟨HBe.out.trans (HB13.out.mono HBe.out.size)⟩⟩
              · have hd : decide ((i : Int) < (I.length : Int)) = false := decide_eq_false (by omega)
                have hd2 : decide (i < I.length) = false := decide_eq_false hi2
                go_wp2_with fail
                obtain ⟨wq, rfl⟩ : ∃ wq, wq = wr := ⟨_, rfl⟩
                have hrow := blk_new wq (.cells #[.slice A0 b.length c0, .slice A1 l.length c1, .slice A2 r.length c2] 22)
                have hal := (Below.refl wq.heap.size wq).alloc (Nat.le_refl _) (.cells #[.slice A0 b.length c0, .slice A1 l.length c1, .slice A2 r.length c2] 22)
                have HROW := Aside0.mk hrow
                have HBq := Aside0.mk (HBa.out.trans (hal.mono HBa.out.size))
                have HBq2 := Aside0.mk (HBc.out.trans (hal.mono HBc.out.size))
                clear hrow hal HBa HBc hd hd2 hig
                go_loopg [17] 3 (fun g s17 wx => ∃ i : Nat, 3 - i ≤ g ∧ i ≤ 3 ∧ s17 = .int .i64 i ∧ Aside0 (Below w.heap.size w wx) ∧ Aside0 (Below w8.heap.size w8 wx) ∧ Aside0 (wx.heap[wq.heap.size]? = some (.cells #[.slice A0 b.length c0, .slice A1 l.length c1, .slice A2 r.length c2] 22 (0, 0))))
                case atStart => exact ⟨0, by omega, by omega, rfl, HBq, HBq2, HROW⟩
                case round =>
                  clear HBq HBq2 HROW
                  obtain ⟨i, hig, hi3, rfl, HBa, HBc, HRW⟩ := hrel
                  by_cases hi : i < 3
                  · have hlist : ∃ Ai L ci, (#[.slice A0 b.length c0, .slice A1 l.length c1, .slice A2 r.length c2] : Array Value)[i]? = some (.slice Ai L.length ci) ∧ Kd.C k27 w Ai L.length L ∧ L.length < 1466015503701 ∧ ∀ x ∈ L, x ∈ b ∨ x ∈ l ∨ x ∈ r := by
                      rcases (show i = 0 ∨ i = 1 ∨ i = 2 by omega) with rfl | rfl | rfl
                      · exact ⟨A0, b, c0, rfl, HR0.out, n0, fun x hx => .inl hx⟩
                      · exact ⟨A1, l, c1, rfl, HR1.out, n1, fun x hx => .inr (.inl hx)⟩
                      · exact ⟨A2, r, c2, rfl, HR2.out, n2, fun x hx => .inr (.inr hx)⟩
                    obtain ⟨Ai, L, cI, hLi, hLC, hLn, hLm⟩ := hlist
                    have HLI := Aside0.mk hLi
                    have HLC := Aside0.mk hLC
                    have HLM := Aside0.mk hLm
                    have di : decide ((i : Int) < 3) = true := decide_eq_true (by omega)
                    have di2 : decide (i < 3) = true := decide_eq_true hi
                    clear hLi hLC hLm
                    go_wp2_with fail
                    obtain ⟨wo, rfl⟩ : ∃ wo, wo = wr := ⟨_, rfl⟩
                    go_loopg [18] L.length (fun g s18 wx => ∃ j : Nat, L.length - j ≤ g ∧ j ≤ L.length ∧ s18 = .int .i64 j ∧ Aside0 (Below w.heap.size w wx) ∧ Aside0 (Below w8.heap.size w8 wx) ∧ Aside0 (wx.heap[wq.heap.size]? = some (.cells #[.slice A0 b.length c0, .slice A1 l.length c1, .slice A2 r.length c2] 22 (0, 0))))
                    case atStart => exact ⟨0, by omega, by omega, rfl, HBa, HBc, HRW⟩
                    case round =>
                      clear HBa HBc HRW
                      obtain ⟨j, hjg, hjL, rfl, HBa, HBc, HRW⟩ := hrel
                      have y16 : wr.cell? ⟨wq.heap.size, i, none⟩ = some (.slice Ai L.length cI) := by rw [blk_cell HRW.out i]; exact HLI.out
                      by_cases hj : j < L.length
                      · have dj : decide ((j : Int) < (L.length : Int)) = true := decide_eq_true (by omega)
                        have dj2 : decide (j < L.length) = true := decide_eq_true hj
                        obtain ⟨ad, X4, Xc4, X5, Xc5, hA, hsix, _⟩ := row_six (Kd.C_below HLC.out HBa.out) j hj
                        have hmem := HLM.out _ (List.getElem_mem hj)
                        obtain ⟨x, hx⟩ : ∃ x, L[j] = x := ⟨_, rfl⟩
                        rw [hx] at hsix hmem
                        subst hA
                        have hsd := sides HT.out.1 HT.out.2.1 HT.out.2.2 (HI.out ▸ HTI.out) hmem
                        rw [← HI.out, ← HCc.out] at hsd
                        have HSD := Aside0.mk hsd
                        have r1 := hsix.2.1
                        clear hx hsix hmem hsd
                        go_wp2_with fail
                        clear r1 y16
                        refine (at_any A0 c0 b x.f1 _ (Kd.C_below HR0.out (HBa.out)) (by omega)).mono ?_
                        rintro e wa20 ⟨v20, rfl, hv20, hb20⟩
                        have hvv20 := hv20.below hb20
                        obtain ⟨y20, hy20⟩ : ∃ y, (atP b x.f1).1 = y := ⟨_, rfl⟩
                        rw [hy20] at hvv20
                        clear hv20
                        obtain ⟨N204, N20c4, N205, N20c5, rfl, l4, g4, l5, g5⟩ := hvv20
                        have hiv20 := (show IV wa20 y20 (.agg #[.int .i64 y20.f0, .string y20.f1, .string y20.f2, .int .i64 y20.f3, .slice N204 y20.f4.length N20c4, .slice N205 y20.f5.length N20c5]) from ⟨N204, N20c4, N205, N20c5, rfl, l4, g4, l5, g5⟩)
                        have hal20 := (Below.refl wa20.heap.size wa20).alloc (Nat.le_refl _) (.cells #[.int .i64 y20.f0, .string y20.f1, .string y20.f2, .int .i64 y20.f3, .slice N204 y20.f4.length N20c4, .slice N205 y20.f5.length N20c5] 27)
                        have hbb20 := hb20.trans (hal20.mono hb20.size)
                        have HV20 := Aside0.mk (hiv20.below hal20)
                        have HG20 := Aside0.mk (blk_new wa20 (.cells #[.int .i64 y20.f0, .string y20.f1, .string y20.f2, .int .i64 y20.f3, .slice N204 y20.f4.length N20c4, .slice N205 y20.f5.length N20c5] 27))
                        have HY20 := Aside0.mk hy20
                        have HBr := Aside0.mk hbb20
                        clear l4 g4 l5 g5 hb20 hiv20 hal20 hbb20 hy20
                        go_wp2_with fail
                        refine (at_any A1 c1 l x.f1 _ (Kd.C_below HR1.out (HBa.out.trans (HBr.out.mono HBa.out.size))) (by omega)).mono ?_
                        rintro e wa22 ⟨v22, rfl, hv22, hb22⟩
                        have hvv22 := hv22.below hb22
                        obtain ⟨y22, hy22⟩ : ∃ y, (atP l x.f1).1 = y := ⟨_, rfl⟩
                        rw [hy22] at hvv22
                        clear hv22
                        obtain ⟨N224, N22c4, N225, N22c5, rfl, l4, g4, l5, g5⟩ := hvv22
                        have hiv22 := (show IV wa22 y22 (.agg #[.int .i64 y22.f0, .string y22.f1, .string y22.f2, .int .i64 y22.f3, .slice N224 y22.f4.length N22c4, .slice N225 y22.f5.length N22c5]) from ⟨N224, N22c4, N225, N22c5, rfl, l4, g4, l5, g5⟩)
                        have hal22 := (Below.refl wa22.heap.size wa22).alloc (Nat.le_refl _) (.cells #[.int .i64 y22.f0, .string y22.f1, .string y22.f2, .int .i64 y22.f3, .slice N224 y22.f4.length N22c4, .slice N225 y22.f5.length N22c5] 27)
                        have hbb22 := hb22.trans (hal22.mono hb22.size)
                        have HV22 := Aside0.mk (hiv22.below hal22)
                        have HG22 := Aside0.mk (blk_new wa22 (.cells #[.int .i64 y22.f0, .string y22.f1, .string y22.f2, .int .i64 y22.f3, .slice N224 y22.f4.length N22c4, .slice N225 y22.f5.length N22c5] 27))
                        have HY22 := Aside0.mk hy22
                        have HBr := Aside0.mk (HBr.out.trans (hbb22.mono HBr.out.size))
                        have HG20 := Aside0.mk (blk_below HG20.out hbb22)
                        have HV20 := Aside0.mk (HV20.out.below hbb22)
                        clear l4 g4 l5 g5 hb22 hiv22 hal22 hbb22 hy22
                        go_wp2_with fail
                        refine (at_any A2 c2 r x.f1 _ (Kd.C_below HR2.out (HBa.out.trans (HBr.out.mono HBa.out.size))) (by omega)).mono ?_
                        rintro e wa24 ⟨v24, rfl, hv24, hb24⟩
                        have hvv24 := hv24.below hb24
                        obtain ⟨y24, hy24⟩ : ∃ y, (atP r x.f1).1 = y := ⟨_, rfl⟩
                        rw [hy24] at hvv24
                        clear hv24
                        obtain ⟨N244, N24c4, N245, N24c5, rfl, l4, g4, l5, g5⟩ := hvv24
                        have hiv24 := (show IV wa24 y24 (.agg #[.int .i64 y24.f0, .string y24.f1, .string y24.f2, .int .i64 y24.f3, .slice N244 y24.f4.length N24c4, .slice N245 y24.f5.length N24c5]) from ⟨N244, N24c4, N245, N24c5, rfl, l4, g4, l5, g5⟩)
                        have hal24 := (Below.refl wa24.heap.size wa24).alloc (Nat.le_refl _) (.cells #[.int .i64 y24.f0, .string y24.f1, .string y24.f2, .int .i64 y24.f3, .slice N244 y24.f4.length N24c4, .slice N245 y24.f5.length N24c5] 27)
                        have hbb24 := hb24.trans (hal24.mono hb24.size)
                        have HV24 := Aside0.mk (hiv24.below hal24)
                        have HG24 := Aside0.mk (blk_new wa24 (.cells #[.int .i64 y24.f0, .string y24.f1, .string y24.f2, .int .i64 y24.f3, .slice N244 y24.f4.length N24c4, .slice N245 y24.f5.length N24c5] 27))
                        have HY24 := Aside0.mk hy24
                        have HBr := Aside0.mk (HBr.out.trans (hbb24.mono HBr.out.size))
                        have HG20 := Aside0.mk (blk_below HG20.out hbb24)
                        have HV20 := Aside0.mk (HV20.out.below hbb24)
                        have HG22 := Aside0.mk (blk_below HG22.out hbb24)
                        have HV22 := Aside0.mk (HV22.out.below hbb24)
                        clear l4 g4 l5 g5 hb24 hiv24 hal24 hbb24 hy24
                        go_wp2_with fail
                        refine (at_any I0 ci I x.f1 _ (Kd.C_below HCI.out (HBc.out.trans (HBr.out.mono HBc.out.size))) (by omega)).mono ?_
                        rintro e wa26 ⟨v26, rfl, hv26, hb26⟩
                        have hvv26 := hv26.below hb26
                        obtain ⟨y26, hy26⟩ : ∃ y, (atP I x.f1).1 = y := ⟨_, rfl⟩
                        rw [hy26] at hvv26
                        clear hv26
                        obtain ⟨N264, N26c4, N265, N26c5, rfl, l4, g4, l5, g5⟩ := hvv26
                        have hiv26 := (show IV wa26 y26 (.agg #[.int .i64 y26.f0, .string y26.f1, .string y26.f2, .int .i64 y26.f3, .slice N264 y26.f4.length N26c4, .slice N265 y26.f5.length N26c5]) from ⟨N264, N26c4, N265, N26c5, rfl, l4, g4, l5, g5⟩)
                        have hal26 := (Below.refl wa26.heap.size wa26).alloc (Nat.le_refl _) (.cells #[.int .i64 y26.f0, .string y26.f1, .string y26.f2, .int .i64 y26.f3, .slice N264 y26.f4.length N26c4, .slice N265 y26.f5.length N26c5] 27)
                        have hbb26 := hb26.trans (hal26.mono hb26.size)
                        have HV26 := Aside0.mk (hiv26.below hal26)
                        obtain ⟨zin, hzin⟩ : ∃ z, (atP I x.f1).2 = z := ⟨_, rfl⟩
                        rw [hzin]
                        have HZIN := Aside0.mk hzin
                        have HG26 := Aside0.mk (blk_new wa26 (.cells #[.int .i64 y26.f0, .string y26.f1, .string y26.f2, .int .i64 y26.f3, .slice N264 y26.f4.length N26c4, .slice N265 y26.f5.length N26c5] 27))
                        have HY26 := Aside0.mk hy26
                        have HBr := Aside0.mk (HBr.out.trans (hbb26.mono HBr.out.size))
                        have HG20 := Aside0.mk (blk_below HG20.out hbb26)
                        have HV20 := Aside0.mk (HV20.out.below hbb26)
                        have HG22 := Aside0.mk (blk_below HG22.out hbb26)
                        have HV22 := Aside0.mk (HV22.out.below hbb26)
                        have HG24 := Aside0.mk (blk_below HG24.out hbb26)
                        have HV24 := Aside0.mk (HV24.out.below hbb26)
                        clear hzin l4 g4 l5 g5 hb26 hiv26 hal26 hbb26 hy26
                        obtain ⟨a0, a1, a2, a3, a4, a5⟩ := six_box HG22.out
                        have hw := (Below.refl (wa26.alloc (.cells #[.int .i64 y26.f0, .string y26.f1, .string y26.f2, .int .i64 y26.f3, .slice N264 y26.f4.length N26c4, .slice N265 y26.f5.length N26c5] 27)).heap.size (wa26.alloc (.cells #[.int .i64 y26.f0, .string y26.f1, .string y26.f2, .int .i64 y26.f3, .slice N264 y26.f4.length N26c4, .slice N265 y26.f5.length N26c5] 27))).alloc (Nat.le_refl _) (.cells #[.int .i64 y22.f0, .string y22.f1, .string y22.f2, .int .i64 y22.f3, .slice N224 y22.f4.length N22c4, .slice N225 y22.f5.length N22c5] 27)
                        have HZ := Aside0.mk hw
                        have hgw := blk_new (wa26.alloc (.cells #[.int .i64 y26.f0, .string y26.f1, .string y26.f2, .int .i64 y26.f3, .slice N264 y26.f4.length N26c4, .slice N265 y26.f5.length N26c5] 27)) (.cells #[.int .i64 y22.f0, .string y22.f1, .string y22.f2, .int .i64 y22.f3, .slice N224 y22.f4.length N22c4, .slice N225 y22.f5.length N22c5] 27)
                        rw [World.size_alloc] at hgw
                        have HGW := Aside0.mk hgw
                        obtain ⟨b0, b1, b2, b3, b4, b5⟩ := six_box (blk_below HG22.out HZ.out)
                        obtain ⟨p0, p1, p2, p3, p4, p5⟩ := six_box (blk_below HG20.out HZ.out)
                        clear hw hgw
                        go_wp2_with fail
                        clear a0 a1 a2 a3 a4 a5 b0 b1 b2 b3 b4 b5 p0 p1 p2 p3 p4 p5
                        refine (same_c (HV22.out.below HZ.out) (HV20.out.below HZ.out)).mono ?_
                        rintro e ws ⟨rfl, hs⟩
                        have HGW := Aside0.mk (blk_below HGW.out hs)
                        have HZ := Aside0.mk (HZ.out.trans (hs.mono HZ.out.size))
                        clear hs
                        obtain ⟨gW, hgW⟩ : ∃ g, wa26.heap.size + 1 = g := ⟨_, rfl⟩
                        have hgl : (wa26.alloc (.cells #[.int .i64 y26.f0, .string y26.f1, .string y26.f2, .int .i64 y26.f3, .slice N264 y26.f4.length N26c4, .slice N265 y26.f5.length N26c5] 27)).heap.size ≤ gW := by rw [World.size_alloc]; omega
                        rw [hgW] at HGW
                        rw [hgW]
                        clear hgW
                        obtain ⟨s1, hs1⟩ : ∃ s, sameP y22 y20 = s := ⟨_, rfl⟩
                        rw [hs1]
                        have HS1 := Aside0.mk hs1
                        clear hs1
                        cases s1 with
                        | true =>
                          obtain ⟨a0, a1, a2, a3, a4, a5⟩ := six_box (blk_below HG24.out HZ.out)
                          have hi27 : (Tryd.prog.info? 27).map (·.size) = some 6 := by kernel_rfl
                          have hone : (#[.int .i64 y24.f0, .string y24.f1, .string y24.f2, .int .i64 y24.f3, .slice N244 y24.f4.length N24c4, .slice N245 y24.f5.length N24c5] : Array Value).all (·.oneCell') = true := by simp [Value.oneCell']
                          go_wp2_with (refine gate_ (.store 27 (.tmp 28) (.tmp 190)) rfl ?_; refine wpList_store_row rfl 27 (.tmp 28) (.tmp 190) rfl gW #[.int .i64 y24.f0, .string y24.f1, .string y24.f2, .int .i64 y24.f3, .slice N244 y24.f4.length N24c4, .slice N245 y24.f5.length N24c5] rfl rfl 27 #[.int .i64 y22.f0, .string y22.f1, .string y22.f2, .int .i64 y22.f3, .slice N224 y22.f4.length N22c4, .slice N225 y22.f5.length N22c5] HGW.out hi27 rfl hone ?_; clear a0 a1 a2 a3 a4 a5; have hz := below_setRow HZ.out hgl #[.int .i64 y24.f0, .string y24.f1, .string y24.f2, .int .i64 y24.f3, .slice N244 y24.f4.length N24c4, .slice N245 y24.f5.length N24c5]; have hg := setRow_heap ws gW _ #[.int .i64 y24.f0, .string y24.f1, .string y24.f2, .int .i64 y24.f3, .slice N244 y24.f4.length N24c4, .slice N245 y24.f5.length N24c5] _ _ HGW.out; obtain ⟨wt, hwt⟩ : ∃ wt, ws.setRow gW #[.int .i64 y24.f0, .string y24.f1, .string y24.f2, .int .i64 y24.f3, .slice N244 y24.f4.length N24c4, .slice N245 y24.f5.length N24c5] = wt := ⟨_, rfl⟩; rw [hwt] at hz hg ⊢; have HZ := Aside0.mk hz; have HGW := Aside0.mk hg; clear hz hg hwt; obtain ⟨b0, b1, b2, b3, b4, b5⟩ := six_box (blk_below HG22.out HZ.out); obtain ⟨p0, p1, p2, p3, p4, p5⟩ := six_box (blk_below HG24.out HZ.out))
                          try clear b0 b1 b2 b3 b4 b5 p0 p1 p2 p3 p4 p5
                          refine (same_c (HV22.out.below HZ.out) (HV24.out.below HZ.out)).mono ?_
                          rintro e wu ⟨rfl, hs⟩
                          have HGW := Aside0.mk (blk_below HGW.out hs)
                          have HZ := Aside0.mk (HZ.out.trans (hs.mono HZ.out.size))
                          clear hs
                          obtain ⟨s2, hs2⟩ : ∃ s, sameP y22 y24 = s := ⟨_, rfl⟩
                          rw [hs2]
                          have HS2 := Aside0.mk hs2
                          clear hs2
                          cases s2 with
                          | true =>
                            have ht : toldP Cc x.f1 1 1 = false := by
                              rw [HSD.out.1, HY22.out, HY24.out, HY20.out]
                              simp [HS1.out, HS2.out]
                            have hx := HSD.out.2
                            rw [HY22.out, HY24.out, HY20.out, HY26.out, HZIN.out, HS1.out] at hx
                            have hx1 : toldP Cc x.f1 2 3 = true → zin = false ∧ y24.f0 ≠ 0 := fun h => by have := hx.1 h; simpa using this
                            have hx2 : toldP Cc x.f1 2 3 = false → sameP y26 y24 = true := fun h => by have := hx.2 h; simpa using this
                            have HX1 := Aside0.mk hx1
                            have HX2 := Aside0.mk hx2
                            have HTL := Aside0.mk ht
                            clear ht hx hx1 hx2
                            go_wp2_with fail
                            have htc := told_c Cc x.f1 1 1 V0 cv _ (Kd.C_below HCV.out (HBc.out.trans ((HBr.out.trans (HZ.out.mono HBr.out.size)).mono HBc.out.size))) hcv hCl
                            rw [HTL.out] at htc
                            refine htc.mono ?_
                            rintro e wy ⟨rfl, hdr⟩
                            have hs := hdr.below
                            clear htc hdr
                            have HGW := Aside0.mk (blk_below HGW.out hs)
                            have HZ := Aside0.mk (HZ.out.trans (hs.mono HZ.out.size))
                            clear hs
                            go_wp2_with fail
                            refine (told_c Cc x.f1 2 3 V0 cv _ (Kd.C_below HCV.out (HBc.out.trans ((HBr.out.trans (HZ.out.mono HBr.out.size)).mono HBc.out.size))) hcv hCl).mono ?_
                            rintro e wz ⟨rfl, hdr⟩
                            have hs := hdr.below
                            clear hdr
                            have HGW := Aside0.mk (blk_below HGW.out hs)
                            have HZ := Aside0.mk (HZ.out.trans (hs.mono HZ.out.size))
                            clear hs
                            obtain ⟨lo, hlo⟩ : ∃ s, toldP Cc x.f1 2 3 = s := ⟨_, rfl⟩
                            rw [hlo]
                            rw [hlo] at HX1 HX2
                            clear hlo
                            cases lo with
                            | true =>
                              obtain ⟨hz, hf⟩ := HX1.out rfl
                              have hf0 : (y24.f0 == 0) = false := beq_eq_false_iff_ne.2 hf
                              subst hz
                              have w0 := (six_box HGW.out).1
                              clear hf
                              go_wp2_with fail
                              go_roundg (L.length - (j + 1))
                              case measure => omega
                              case rel => exact ⟨j + 1, by omega, by omega, by first | rfl | simp, ⟨HBa.out.trans ((HBr.out.trans (HZ.out.mono HBr.out.size)).mono HBa.out.size)⟩, ⟨HBc.out.trans ((HBr.out.trans (HZ.out.mono HBr.out.size)).mono HBc.out.size)⟩, ⟨blk_below HRW.out (HBr.out.trans (HZ.out.mono HBr.out.size))⟩⟩
                            | false =>
                              have hsm := HX2.out rfl
                              have HSM := Aside0.mk hsm
                              clear hsm
                              obtain ⟨b0, b1, b2, b3, b4, b5⟩ := six_box (blk_below HG26.out HZ.out)
                              obtain ⟨p0, p1, p2, p3, p4, p5⟩ := six_box HGW.out
                              go_wp2_with fail
                              clear b0 b1 b2 b3 b4 b5 p0 p1 p2 p3 p4 p5
                              have hsc := same_c (HV26.out.below HZ.out) (show IV _ y24 (.agg #[.int .i64 y24.f0, .string y24.f1, .string y24.f2, .int .i64 y24.f3, .slice N244 y24.f4.length N24c4, .slice N245 y24.f5.length N24c5]) from HV24.out.below HZ.out)
                              rw [HSM.out] at hsc
                              refine hsc.mono ?_
                              rintro e wq2 ⟨rfl, hs⟩
                              clear hsc
                              have HGW := Aside0.mk (blk_below HGW.out hs)
                              have HZ := Aside0.mk (HZ.out.trans (hs.mono HZ.out.size))
                              clear hs
                              go_wp2_with fail
                              go_roundg (L.length - (j + 1))
                              case measure => omega
                              case rel => exact ⟨j + 1, by omega, by omega, by first | rfl | simp, ⟨HBa.out.trans ((HBr.out.trans (HZ.out.mono HBr.out.size)).mono HBa.out.size)⟩, ⟨HBc.out.trans ((HBr.out.trans (HZ.out.mono HBr.out.size)).mono HBc.out.size)⟩, ⟨blk_below HRW.out (HBr.out.trans (HZ.out.mono HBr.out.size))⟩⟩
                          | false =>
                            obtain ⟨b0, b1, b2, b3, b4, b5⟩ := six_box (blk_below HG22.out HZ.out)
                            obtain ⟨p0, p1, p2, p3, p4, p5⟩ := six_box (blk_below HG20.out HZ.out)
                            go_wp2_with fail
                            clear b0 b1 b2 b3 b4 b5 p0 p1 p2 p3 p4 p5
                            have hsc := same_c (HV22.out.below HZ.out) (HV20.out.below HZ.out)
                            rw [HS1.out] at hsc
                            refine hsc.mono ?_
                            rintro e wv ⟨rfl, hs⟩
                            clear hsc
                            have HGW := Aside0.mk (blk_below HGW.out hs)
                            have HZ := Aside0.mk (HZ.out.trans (hs.mono HZ.out.size))
                            clear hs
                            have ht : toldP Cc x.f1 1 1 = false := by
                              rw [HSD.out.1, HY22.out, HY24.out, HY20.out]
                              simp [HS1.out, HS2.out]
                            have hx := HSD.out.2
                            rw [HY22.out, HY24.out, HY20.out, HY26.out, HZIN.out, HS1.out] at hx
                            have hx1 : toldP Cc x.f1 2 3 = true → zin = false ∧ y24.f0 ≠ 0 := fun h => by have := hx.1 h; simpa using this
                            have hx2 : toldP Cc x.f1 2 3 = false → sameP y26 y24 = true := fun h => by have := hx.2 h; simpa using this
                            have HX1 := Aside0.mk hx1
                            have HX2 := Aside0.mk hx2
                            have HTL := Aside0.mk ht
                            clear ht hx hx1 hx2
                            go_wp2_with fail
                            have htc := told_c Cc x.f1 1 1 V0 cv _ (Kd.C_below HCV.out (HBc.out.trans ((HBr.out.trans (HZ.out.mono HBr.out.size)).mono HBc.out.size))) hcv hCl
                            rw [HTL.out] at htc
                            refine htc.mono ?_
                            rintro e wy ⟨rfl, hdr⟩
                            have hs := hdr.below
                            clear htc hdr
                            have HGW := Aside0.mk (blk_below HGW.out hs)
                            have HZ := Aside0.mk (HZ.out.trans (hs.mono HZ.out.size))
                            clear hs
                            go_wp2_with fail
                            refine (told_c Cc x.f1 2 3 V0 cv _ (Kd.C_below HCV.out (HBc.out.trans ((HBr.out.trans (HZ.out.mono HBr.out.size)).mono HBc.out.size))) hcv hCl).mono ?_
                            rintro e wz ⟨rfl, hdr⟩
                            have hs := hdr.below
                            clear hdr
                            have HGW := Aside0.mk (blk_below HGW.out hs)
                            have HZ := Aside0.mk (HZ.out.trans (hs.mono HZ.out.size))
                            clear hs
                            obtain ⟨lo, hlo⟩ : ∃ s, toldP Cc x.f1 2 3 = s := ⟨_, rfl⟩
                            rw [hlo]
                            rw [hlo] at HX1 HX2
                            clear hlo
                            cases lo with
                            | true =>
                              obtain ⟨hz, hf⟩ := HX1.out rfl
                              have hf0 : (y24.f0 == 0) = false := beq_eq_false_iff_ne.2 hf
                              subst hz
                              have w0 := (six_box HGW.out).1
                              clear hf
                              go_wp2_with fail
                              go_roundg (L.length - (j + 1))
                              case measure => omega
                              case rel => exact ⟨j + 1, by omega, by omega, by first | rfl | simp, ⟨HBa.out.trans ((HBr.out.trans (HZ.out.mono HBr.out.size)).mono HBa.out.size)⟩, ⟨HBc.out.trans ((HBr.out.trans (HZ.out.mono HBr.out.size)).mono HBc.out.size)⟩, ⟨blk_below HRW.out (HBr.out.trans (HZ.out.mono HBr.out.size))⟩⟩
                            | false =>
                              have hsm := HX2.out rfl
                              have HSM := Aside0.mk hsm
                              clear hsm
                              obtain ⟨b0, b1, b2, b3, b4, b5⟩ := six_box (blk_below HG26.out HZ.out)
                              obtain ⟨p0, p1, p2, p3, p4, p5⟩ := six_box HGW.out
                              go_wp2_with fail
                              clear b0 b1 b2 b3 b4 b5 p0 p1 p2 p3 p4 p5
                              have hsc := same_c (HV26.out.below HZ.out) (show IV _ y24 (.agg #[.int .i64 y24.f0, .string y24.f1, .string y24.f2, .int .i64 y24.f3, .slice N244 y24.f4.length N24c4, .slice N245 y24.f5.length N24c5]) from HV24.out.below HZ.out)
                              rw [HSM.out] at hsc
                              refine hsc.mono ?_
                              rintro e wq2 ⟨rfl, hs⟩
                              clear hsc
                              have HGW := Aside0.mk (blk_below HGW.out hs)
                              have HZ := Aside0.mk (HZ.out.trans (hs.mono HZ.out.size))
                              clear hs
                              go_wp2_with fail
                              go_roundg (L.length - (j + 1))
                              case measure => omega
                              case rel => exact ⟨j + 1, by omega, by omega, by first | rfl | simp, ⟨HBa.out.trans ((HBr.out.trans (HZ.out.mono HBr.out.size)).mono HBa.out.size)⟩, ⟨HBc.out.trans ((HBr.out.trans (HZ.out.mono HBr.out.size)).mono HBc.out.size)⟩, ⟨blk_below HRW.out (HBr.out.trans (HZ.out.mono HBr.out.size))⟩⟩
                        | false =>
                          obtain ⟨b0, b1, b2, b3, b4, b5⟩ := six_box (blk_below HG22.out HZ.out)
                          obtain ⟨p0, p1, p2, p3, p4, p5⟩ := six_box (blk_below HG24.out HZ.out)
                          go_wp2_with fail
                          clear b0 b1 b2 b3 b4 b5 p0 p1 p2 p3 p4 p5
                          refine (same_c (HV22.out.below HZ.out) (HV24.out.below HZ.out)).mono ?_
                          rintro e wu ⟨rfl, hs⟩
                          have HGW := Aside0.mk (blk_below HGW.out hs)
                          have HZ := Aside0.mk (HZ.out.trans (hs.mono HZ.out.size))
                          clear hs
                          obtain ⟨s2, hs2⟩ : ∃ s, sameP y22 y24 = s := ⟨_, rfl⟩
                          rw [hs2]
                          have HS2 := Aside0.mk hs2
                          clear hs2
                          cases s2 with
                          | true =>
                            have ht : toldP Cc x.f1 1 1 = false := by
                              rw [HSD.out.1, HY22.out, HY24.out, HY20.out]
                              simp [HS1.out, HS2.out]
                            have hx := HSD.out.2
                            rw [HY22.out, HY24.out, HY20.out, HY26.out, HZIN.out, HS1.out] at hx
                            have hx1 : toldP Cc x.f1 2 3 = true → zin = false ∧ y22.f0 ≠ 0 := fun h => by have := hx.1 h; simpa using this
                            have hx2 : toldP Cc x.f1 2 3 = false → sameP y26 y22 = true := fun h => by have := hx.2 h; simpa using this
                            have HX1 := Aside0.mk hx1
                            have HX2 := Aside0.mk hx2
                            have HTL := Aside0.mk ht
                            clear ht hx hx1 hx2
                            go_wp2_with fail
                            have htc := told_c Cc x.f1 1 1 V0 cv _ (Kd.C_below HCV.out (HBc.out.trans ((HBr.out.trans (HZ.out.mono HBr.out.size)).mono HBc.out.size))) hcv hCl
                            rw [HTL.out] at htc
                            refine htc.mono ?_
                            rintro e wy ⟨rfl, hdr⟩
                            have hs := hdr.below
                            clear htc hdr
                            have HGW := Aside0.mk (blk_below HGW.out hs)
                            have HZ := Aside0.mk (HZ.out.trans (hs.mono HZ.out.size))
                            clear hs
                            go_wp2_with fail
                            refine (told_c Cc x.f1 2 3 V0 cv _ (Kd.C_below HCV.out (HBc.out.trans ((HBr.out.trans (HZ.out.mono HBr.out.size)).mono HBc.out.size))) hcv hCl).mono ?_
                            rintro e wz ⟨rfl, hdr⟩
                            have hs := hdr.below
                            clear hdr
                            have HGW := Aside0.mk (blk_below HGW.out hs)
                            have HZ := Aside0.mk (HZ.out.trans (hs.mono HZ.out.size))
                            clear hs
                            obtain ⟨lo, hlo⟩ : ∃ s, toldP Cc x.f1 2 3 = s := ⟨_, rfl⟩
                            rw [hlo]
                            rw [hlo] at HX1 HX2
                            clear hlo
                            cases lo with
                            | true =>
                              obtain ⟨hz, hf⟩ := HX1.out rfl
                              have hf0 : (y22.f0 == 0) = false := beq_eq_false_iff_ne.2 hf
                              subst hz
                              have w0 := (six_box HGW.out).1
                              clear hf
                              go_wp2_with fail
                              go_roundg (L.length - (j + 1))
                              case measure => omega
                              case rel => exact ⟨j + 1, by omega, by omega, by first | rfl | simp, ⟨HBa.out.trans ((HBr.out.trans (HZ.out.mono HBr.out.size)).mono HBa.out.size)⟩, ⟨HBc.out.trans ((HBr.out.trans (HZ.out.mono HBr.out.size)).mono HBc.out.size)⟩, ⟨blk_below HRW.out (HBr.out.trans (HZ.out.mono HBr.out.size))⟩⟩
                            | false =>
                              have hsm := HX2.out rfl
                              have HSM := Aside0.mk hsm
                              clear hsm
                              obtain ⟨b0, b1, b2, b3, b4, b5⟩ := six_box (blk_below HG26.out HZ.out)
                              obtain ⟨p0, p1, p2, p3, p4, p5⟩ := six_box HGW.out
                              go_wp2_with fail
                              clear b0 b1 b2 b3 b4 b5 p0 p1 p2 p3 p4 p5
                              have hsc := same_c (HV26.out.below HZ.out) (show IV _ y22 (.agg #[.int .i64 y22.f0, .string y22.f1, .string y22.f2, .int .i64 y22.f3, .slice N224 y22.f4.length N22c4, .slice N225 y22.f5.length N22c5]) from HV22.out.below HZ.out)
                              rw [HSM.out] at hsc
                              refine hsc.mono ?_
                              rintro e wq2 ⟨rfl, hs⟩
                              clear hsc
                              have HGW := Aside0.mk (blk_below HGW.out hs)
                              have HZ := Aside0.mk (HZ.out.trans (hs.mono HZ.out.size))
                              clear hs
                              go_wp2_with fail
                              go_roundg (L.length - (j + 1))
                              case measure => omega
                              case rel => exact ⟨j + 1, by omega, by omega, by first | rfl | simp, ⟨HBa.out.trans ((HBr.out.trans (HZ.out.mono HBr.out.size)).mono HBa.out.size)⟩, ⟨HBc.out.trans ((HBr.out.trans (HZ.out.mono HBr.out.size)).mono HBc.out.size)⟩, ⟨blk_below HRW.out (HBr.out.trans (HZ.out.mono HBr.out.size))⟩⟩
                          | false =>
                            obtain ⟨b0, b1, b2, b3, b4, b5⟩ := six_box (blk_below HG22.out HZ.out)
                            obtain ⟨p0, p1, p2, p3, p4, p5⟩ := six_box (blk_below HG20.out HZ.out)
                            go_wp2_with fail
                            clear b0 b1 b2 b3 b4 b5 p0 p1 p2 p3 p4 p5
                            have hsc := same_c (HV22.out.below HZ.out) (HV20.out.below HZ.out)
                            rw [HS1.out] at hsc
                            refine hsc.mono ?_
                            rintro e wv ⟨rfl, hs⟩
                            clear hsc
                            have HGW := Aside0.mk (blk_below HGW.out hs)
                            have HZ := Aside0.mk (HZ.out.trans (hs.mono HZ.out.size))
                            clear hs
                            obtain ⟨b0, b1, b2, b3, b4, b5⟩ := six_box (blk_below HG24.out HZ.out)
                            obtain ⟨p0, p1, p2, p3, p4, p5⟩ := six_box (blk_below HG20.out HZ.out)
                            go_wp2_with fail
                            clear b0 b1 b2 b3 b4 b5 p0 p1 p2 p3 p4 p5
                            refine (same_c (HV24.out.below HZ.out) (HV20.out.below HZ.out)).mono ?_
                            rintro e wx ⟨rfl, hs⟩
                            have HGW := Aside0.mk (blk_below HGW.out hs)
                            have HZ := Aside0.mk (HZ.out.trans (hs.mono HZ.out.size))
                            clear hs
                            obtain ⟨s4, hs4⟩ : ∃ s, sameP y24 y20 = s := ⟨_, rfl⟩
                            rw [hs4]
                            have HS4 := Aside0.mk hs4
                            clear hs4
                            cases s4 with
                            | true =>
                              have ht : toldP Cc x.f1 1 1 = false := by
                                rw [HSD.out.1, HY22.out, HY24.out, HY20.out]
                                simp [HS1.out, HS2.out, HS4.out]
                              have hx := HSD.out.2
                              rw [HY22.out, HY24.out, HY20.out, HY26.out, HZIN.out, HS1.out] at hx
                              have hx1 : toldP Cc x.f1 2 3 = true → zin = false ∧ y22.f0 ≠ 0 := fun h => by have := hx.1 h; simpa using this
                              have hx2 : toldP Cc x.f1 2 3 = false → sameP y26 y22 = true := fun h => by have := hx.2 h; simpa using this
                              have HX1 := Aside0.mk hx1
                              have HX2 := Aside0.mk hx2
                              have HTL := Aside0.mk ht
                              clear ht hx hx1 hx2
                              go_wp2_with fail
                              have htc := told_c Cc x.f1 1 1 V0 cv _ (Kd.C_below HCV.out (HBc.out.trans ((HBr.out.trans (HZ.out.mono HBr.out.size)).mono HBc.out.size))) hcv hCl
                              rw [HTL.out] at htc
                              refine htc.mono ?_
                              rintro e wy ⟨rfl, hdr⟩
                              have hs := hdr.below
                              clear htc hdr
                              have HGW := Aside0.mk (blk_below HGW.out hs)
                              have HZ := Aside0.mk (HZ.out.trans (hs.mono HZ.out.size))
                              clear hs
                              go_wp2_with fail
                              refine (told_c Cc x.f1 2 3 V0 cv _ (Kd.C_below HCV.out (HBc.out.trans ((HBr.out.trans (HZ.out.mono HBr.out.size)).mono HBc.out.size))) hcv hCl).mono ?_
                              rintro e wz ⟨rfl, hdr⟩
                              have hs := hdr.below
                              clear hdr
                              have HGW := Aside0.mk (blk_below HGW.out hs)
                              have HZ := Aside0.mk (HZ.out.trans (hs.mono HZ.out.size))
                              clear hs
                              obtain ⟨lo, hlo⟩ : ∃ s, toldP Cc x.f1 2 3 = s := ⟨_, rfl⟩
                              rw [hlo]
                              rw [hlo] at HX1 HX2
                              clear hlo
                              cases lo with
                              | true =>
                                obtain ⟨hz, hf⟩ := HX1.out rfl
                                have hf0 : (y22.f0 == 0) = false := beq_eq_false_iff_ne.2 hf
                                subst hz
                                have w0 := (six_box HGW.out).1
                                clear hf
                                go_wp2_with fail
                                go_roundg (L.length - (j + 1))
                                case measure => omega
                                case rel => exact ⟨j + 1, by omega, by omega, by first | rfl | simp, ⟨HBa.out.trans ((HBr.out.trans (HZ.out.mono HBr.out.size)).mono HBa.out.size)⟩, ⟨HBc.out.trans ((HBr.out.trans (HZ.out.mono HBr.out.size)).mono HBc.out.size)⟩, ⟨blk_below HRW.out (HBr.out.trans (HZ.out.mono HBr.out.size))⟩⟩
                              | false =>
                                have hsm := HX2.out rfl
                                have HSM := Aside0.mk hsm
                                clear hsm
                                obtain ⟨b0, b1, b2, b3, b4, b5⟩ := six_box (blk_below HG26.out HZ.out)
                                obtain ⟨p0, p1, p2, p3, p4, p5⟩ := six_box HGW.out
                                go_wp2_with fail
                                clear b0 b1 b2 b3 b4 b5 p0 p1 p2 p3 p4 p5
                                have hsc := same_c (HV26.out.below HZ.out) (show IV _ y22 (.agg #[.int .i64 y22.f0, .string y22.f1, .string y22.f2, .int .i64 y22.f3, .slice N224 y22.f4.length N22c4, .slice N225 y22.f5.length N22c5]) from HV22.out.below HZ.out)
                                rw [HSM.out] at hsc
                                refine hsc.mono ?_
                                rintro e wq2 ⟨rfl, hs⟩
                                clear hsc
                                have HGW := Aside0.mk (blk_below HGW.out hs)
                                have HZ := Aside0.mk (HZ.out.trans (hs.mono HZ.out.size))
                                clear hs
                                go_wp2_with fail
                                go_roundg (L.length - (j + 1))
                                case measure => omega
                                case rel => exact ⟨j + 1, by omega, by omega, by first | rfl | simp, ⟨HBa.out.trans ((HBr.out.trans (HZ.out.mono HBr.out.size)).mono HBa.out.size)⟩, ⟨HBc.out.trans ((HBr.out.trans (HZ.out.mono HBr.out.size)).mono HBc.out.size)⟩, ⟨blk_below HRW.out (HBr.out.trans (HZ.out.mono HBr.out.size))⟩⟩
                            | false =>
                              have ht : toldP Cc x.f1 1 1 = true := by
                                rw [HSD.out.1, HY22.out, HY24.out, HY20.out]
                                simp [HS1.out, HS2.out, HS4.out]
                              have hx := HSD.out.2
                              rw [HY22.out, HY24.out, HY20.out, HY26.out, HZIN.out, HS1.out] at hx
                              have hx1 : toldP Cc x.f1 2 3 = true → zin = false ∧ y22.f0 ≠ 0 := fun h => by have := hx.1 h; simpa using this
                              have hx2 : toldP Cc x.f1 2 3 = false → sameP y26 y22 = true := fun h => by have := hx.2 h; simpa using this
                              have HX1 := Aside0.mk hx1
                              have HX2 := Aside0.mk hx2
                              have HTL := Aside0.mk ht
                              clear ht hx hx1 hx2
                              go_wp2_with fail
                              have htc := told_c Cc x.f1 1 1 V0 cv _ (Kd.C_below HCV.out (HBc.out.trans ((HBr.out.trans (HZ.out.mono HBr.out.size)).mono HBc.out.size))) hcv hCl
                              rw [HTL.out] at htc
                              refine htc.mono ?_
                              rintro e wy ⟨rfl, hdr⟩
                              have hs := hdr.below
                              clear htc hdr
                              have HGW := Aside0.mk (blk_below HGW.out hs)
                              have HZ := Aside0.mk (HZ.out.trans (hs.mono HZ.out.size))
                              clear hs
                              go_wp2_with fail
                              refine (told_c Cc x.f1 2 3 V0 cv _ (Kd.C_below HCV.out (HBc.out.trans ((HBr.out.trans (HZ.out.mono HBr.out.size)).mono HBc.out.size))) hcv hCl).mono ?_
                              rintro e wz ⟨rfl, hdr⟩
                              have hs := hdr.below
                              clear hdr
                              have HGW := Aside0.mk (blk_below HGW.out hs)
                              have HZ := Aside0.mk (HZ.out.trans (hs.mono HZ.out.size))
                              clear hs
                              obtain ⟨lo, hlo⟩ : ∃ s, toldP Cc x.f1 2 3 = s := ⟨_, rfl⟩
                              rw [hlo]
                              rw [hlo] at HX1 HX2
                              clear hlo
                              cases lo with
                              | true =>
                                obtain ⟨hz, hf⟩ := HX1.out rfl
                                have hf0 : (y22.f0 == 0) = false := beq_eq_false_iff_ne.2 hf
                                subst hz
                                have w0 := (six_box HGW.out).1
                                clear hf
                                go_wp2_with fail
                                go_roundg (L.length - (j + 1))
                                case measure => omega
                                case rel => exact ⟨j + 1, by omega, by omega, by first | rfl | simp, ⟨HBa.out.trans ((HBr.out.trans (HZ.out.mono HBr.out.size)).mono HBa.out.size)⟩, ⟨HBc.out.trans ((HBr.out.trans (HZ.out.mono HBr.out.size)).mono HBc.out.size)⟩, ⟨blk_below HRW.out (HBr.out.trans (HZ.out.mono HBr.out.size))⟩⟩
                              | false =>
                                have hsm := HX2.out rfl
                                have HSM := Aside0.mk hsm
                                clear hsm
                                obtain ⟨b0, b1, b2, b3, b4, b5⟩ := six_box (blk_below HG26.out HZ.out)
                                obtain ⟨p0, p1, p2, p3, p4, p5⟩ := six_box HGW.out
                                go_wp2_with fail
                                clear b0 b1 b2 b3 b4 b5 p0 p1 p2 p3 p4 p5
                                have hsc := same_c (HV26.out.below HZ.out) (show IV _ y22 (.agg #[.int .i64 y22.f0, .string y22.f1, .string y22.f2, .int .i64 y22.f3, .slice N224 y22.f4.length N22c4, .slice N225 y22.f5.length N22c5]) from HV22.out.below HZ.out)
                                rw [HSM.out] at hsc
                                refine hsc.mono ?_
                                rintro e wq2 ⟨rfl, hs⟩
                                clear hsc
                                have HGW := Aside0.mk (blk_below HGW.out hs)
                                have HZ := Aside0.mk (HZ.out.trans (hs.mono HZ.out.size))
                                clear hs
                                go_wp2_with fail
                                go_roundg (L.length - (j + 1))
                                case measure => omega
                                case rel => exact ⟨j + 1, by omega, by omega, by first | rfl | simp, ⟨HBa.out.trans ((HBr.out.trans (HZ.out.mono HBr.out.size)).mono HBa.out.size)⟩, ⟨HBc.out.trans ((HBr.out.trans (HZ.out.mono HBr.out.size)).mono HBc.out.size)⟩, ⟨blk_below HRW.out (HBr.out.trans (HZ.out.mono HBr.out.size))⟩⟩
                      · have dj : decide ((j : Int) < (L.length : Int)) = false := decide_eq_false (by omega)
                        have dj2 : decide (j < L.length) = false := decide_eq_false hj
                        go_wp2_with fail
                        go_roundg (3 - (i + 1))
                        case measure => omega
                        case rel => exact ⟨i + 1, by omega, by omega, by first | rfl | simp, HBa, HBc, HRW⟩
                  · have di : decide ((i : Int) < 3) = false := decide_eq_false (by omega)
                    have di2 : decide (i < 3) = false := decide_eq_false hi
                    go_wp2_with fail
                    go_ret
                    exact ⟨rfl, HBa.out⟩
end Go.Proofs.YtkfikinjlbbibaaDoor
