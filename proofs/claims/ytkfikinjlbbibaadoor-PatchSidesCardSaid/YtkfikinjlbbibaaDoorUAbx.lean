/- Packed by this session's own program (wip/tools/pack.py): what the claim needs of its texts. -/
import Derived.Test.YtkfikinjlbbibaaDoorUAbr
import Derived.LoopNIn
import Derived.LoopIn
import Derived.Shelf.Abstract
import Derived.Shelf.RegionOpen
namespace Go.Proofs.YtkfikinjlbbibaaDoor
open Go.RowKit Go.Lib
open Go.Proofs.YtkfikinjlbbibaaDoorW.PrintWords Go.Proofs.YtkfikinjlbbibaaDoorW.PrintLast Go.Proofs.YtkfikinjlbbibaaDoor.PT
set_option linter.unusedVariables false
attribute [local go_sem] Oper.semAt_some
set_option linter.unusedSimpArgs false
structure Mid (L : Nat → List It) (A : Nat → Option Addr) (c : Nat → Nat) (w0 : World) (b1 b2 br B ga : Nat) (rs : List Rd) (J : List Rnd → World → Prop) (pre : List Rnd) (p : Nat → Nat) (g : Nat) (wx : World) : Prop where
  am : Am L A c w0 b1 b2 br wx
  at_ : wx.heap[ga]? = some (.cells #[.int .i64 (p 0), .int .i64 (p 1), .int .i64 (p 2)] 3 (0, 0))
  hB : B ≤ ga
  j : J pre wx
  rs : rs = pre.map Rnd.rd ++ roundsF L g p
  left : leftN L p ≤ g
  le : ∀ i, i < 3 → p i ≤ (L i).length
theorem Mid.below {L : Nat → List It} {A : Nat → Option Addr} {c : Nat → Nat} {w0 : World} {b1 b2 br B ga : Nat} {rs : List Rd} {J : List Rnd → World → Prop} {pre : List Rnd} {p : Nat → Nat} {g : Nat} {wx wy : World}
    (h : Mid L A c w0 b1 b2 br B ga rs J pre p g wx) (hJ : ∀ pre A C, J pre A → StR B A C → J pre C) (hb : Below wx.heap.size wx wy) : Mid L A c w0 b1 b2 br B ga rs J pre p g wy :=
  ⟨h.am.below hb, blk_below h.at_ hb, h.hB, hJ _ _ _ h.j (StR.below hb), h.rs, h.left, h.le⟩
def Mid2 (L : Nat → List It) (A : Nat → Option Addr) (c : Nat → Nat) (w0 : World) (b1 b2 br B ga gh : Nat) (J : List Rnd → World → Prop) (pre : List Rnd) (p : Nat → Nat) (k : ByteArray) (i : Nat) (wx : World) : Prop :=
  Am L A c w0 b1 b2 br wx ∧ ∃ q : Nat → Nat, wx.heap[ga]? = some (.cells #[.int .i64 (q 0), .int .i64 (q 1), .int .i64 (q 2)] 3 (0, 0)) ∧ (∀ j, j < i → q j = nextP L p k j) ∧ (∀ j, i ≤ j → q j = p j) ∧
    ∃ P : Nat → Value, wx.heap[gh]? = some (.cells #[P 0, P 1, P 2] 55 (0, 0)) ∧ (∀ j, j < i → OI w0 (P j) (hereP L p k j)) ∧ (∀ j, i ≤ j → P j = .pointer none) ∧ J pre wx
abbrev Hd (wr : World) (b1 ga i : Nat) (pv : Nat) (P : Addr) (x : It) (A4 : Option Addr) (c4 : Nat) (A5 : Option Addr) (c5 : Nat) (w' : World) : Prop :=
  w'.cell? ⟨b1, 0, none⟩ = some (.func (.func 20) #[] #[]) ∧ w'.cell? ⟨ga, i, none⟩ = some (.int .i64 pv) ∧ w'.cell? P = some (.int .i64 x.f0) ∧ w'.cell? ⟨P.block, P.off + 1, none⟩ = some (.string x.f1) ∧ w'.cell? ⟨P.block, P.off + 2, none⟩ = some (.string x.f2) ∧ w'.cell? ⟨P.block, P.off + 3, none⟩ = some (.int .i64 x.f3) ∧ w'.cell? ⟨P.block, P.off + 4, none⟩ = some (.slice A4 x.f4.length c4) ∧ w'.cell? ⟨P.block, P.off + 5, none⟩ = some (.slice A5 x.f5.length c5) ∧ Aside0 (Below wr.heap.size wr w')
section
variable {L : Nat → List It} {A : Nat → Option Addr} {c : Nat → Nat} {w0 : World} {b1 b2 br B ga gh : Nat} {J : List Rnd → World → Prop} {pre : List Rnd} {p : Nat → Nat} {k : ByteArray} {i : Nat} {wx wy : World}
theorem Mid2.same (h : Mid2 L A c w0 b1 b2 br B ga gh J pre p k i wx) (hJ : ∀ pre A C, J pre A → StR B A C → J pre C) (hn : hereP L p k i = none) (hb : Below wx.heap.size wx wy) : Mid2 L A c w0 b1 b2 br B ga gh J pre p k (i + 1) wy := by
  obtain ⟨am, q, hat, hq1, hq2, P, hP, hP1, hP2, hj⟩ := h
  refine ⟨am.below hb, q, blk_below hat hb, fun j hj2 => ?_, fun j hj2 => hq2 j (by omega), P, blk_below hP hb, fun j hj2 => ?_, fun j hj2 => hP2 j (by omega), hJ _ _ _ hj (StR.below hb)⟩
  · rcases Nat.lt_or_ge j i with h | h
    · exact hq1 j h
    · obtain rfl : j = i := by omega
      rw [hq2 j (Nat.le_refl _)]
      unfold nextP
      rw [hn]
      simp
  · rcases Nat.lt_or_ge j i with h | h
    · exact hP1 j h
    · obtain rfl : j = i := by omega
      rw [hn]
      exact hP2 j (Nat.le_refl _)
theorem Mid2.step {x : It} {v : Value} (h : Mid2 L A c w0 b1 b2 br B ga gh J pre p k i wx) (hi : i < 3) (hJ : ∀ pre A C, J pre A → StR B A C → J pre C) (hn : hereP L p k i = some x) (hb : Below wx.heap.size wx wy) (hv : OI w0 v (some x)) (hga : B ≤ ga) (hgh : B ≤ gh) (hne : ga ≠ gh) (h0 : w0.heap.size ≤ B) (h1 : b1 < B) (h2 : b2 < B) (h3 : br < B) :
    Mid2 L A c w0 b1 b2 br B ga gh J pre p k (i + 1) ((wy.setCell ⟨gh, i, none⟩ v).setCell ⟨ga, i, none⟩ (.int .i64 ((p i : Int) + 1))) := by
  obtain ⟨am, q, hat, hq1, hq2, P, hP, hP1, hP2, hj⟩ := h
  have hP' := blk_below hP hb
  have hat' := blk_far (blk_below hat hb) (p := ⟨gh, i, none⟩) hne v
  have s1 := StR.set hP' (.inr rfl) hgh i v
  have s2 := StR.set hat' (.inl rfl) hga i (.int .i64 ((p i : Int) + 1))
  have s3 := ((StR.below (B := B) hb).trans s1).trans s2
  refine ⟨am.st s3 h0 h1 h2 h3, fun j => if j = i then p i + 1 else q j, ?_, fun j hj2 => ?_, fun j hj2 => ?_, fun j => if j = i then v else P j, ?_, fun j hj2 => ?_, fun j hj2 => ?_, hJ _ _ _ hj s3⟩
  · rw [blk_set hat']
    rcases (show i = 0 ∨ i = 1 ∨ i = 2 by omega) with rfl | rfl | rfl <;> simp
  · dsimp only
    by_cases e : j = i
    · subst e
      rw [if_pos rfl]
      unfold nextP
      rw [hn]
      simp
    · rw [if_neg e]
      exact hq1 j (by omega)
  · dsimp only
    rw [if_neg (by omega)]
    exact hq2 j (by omega)
  · refine blk_far ?_ (fun e => hne e.symm) _
    rw [blk_set hP']
    rcases (show i = 0 ∨ i = 1 ∨ i = 2 by omega) with rfl | rfl | rfl <;> simp
  · dsimp only
    by_cases e : j = i
    · subst e
      rw [if_pos rfl, hn]
      exact hv
    · rw [if_neg e]
      exact hP1 j (by omega)
  · dsimp only
    rw [if_neg (by omega)]
    exact hP2 j (by omega)
end
section
variable {wr w' w2 : World} {b1 ga i pv : Nat} {P : Addr} {x : It} {A4 : Option Addr} {c4 : Nat} {A5 : Option Addr} {c5 : Nat}
theorem hd_step (h : Hd wr b1 ga i pv P x A4 c4 A5 c5 w') (hb : Below w'.heap.size w' w2) : Hd wr b1 ga i pv P x A4 c4 A5 c5 w2 := by
  obtain ⟨h0, h1, h2, h3, h4, h5, h6, h7, h8⟩ := h
  exact ⟨pw_cell_below hb h0, pw_cell_below hb h1, pw_cell_below hb h2, pw_cell_below hb h3, pw_cell_below hb h4, pw_cell_below hb h5, pw_cell_below hb h6, pw_cell_below hb h7, ⟨h8.out.trans (hb.mono h8.out.size)⟩⟩
end
theorem info3z : (Tryd.prog.info? 3).map (fun i => (i.zero, i.size, i.bytes)) = some (some (.int .i64 0), 1, 8) := by kernel_rfl
theorem infoPz : (Tryd.prog.info? 55).map (fun i => (i.zero, i.size, i.bytes)) = some (some (.pointer none), 1, 8) := by kernel_rfl
theorem make3 (w : World) : (Instr.makeSlice 68 (.int .i64 3) (.int .i64 3)).run Tryd.prog w = .ok (.slice (some ⟨w.heap.size, 0, none⟩) 3 3) (w.alloc (.cells #[.int .i64 0, .int .i64 0, .int .i64 0] 3)) := by
  obtain ⟨i0, hi, hz0, hz1, hz2⟩ := info_parts info3z
  exact (run_makeSlice w 68 3 i0 _ Tryd.underlying68 hi hz0 .i64 .i64 3 3 (by decide) (by decide) (by rw [hz1]; decide) (by rw [hz2]; decide) (by decide)).trans (by rw [hz1]; first | rfl | (simp [madeCells]; done) | kernel_rfl)
theorem makeP3 (w : World) : (Instr.makeSlice 53 (.int .i64 3) (.int .i64 3)).run Tryd.prog w = .ok (.slice (some ⟨w.heap.size, 0, none⟩) 3 3) (w.alloc (.cells #[.pointer none, .pointer none, .pointer none] 55)) := by
  obtain ⟨i0, hi, hz0, hz1, hz2⟩ := info_parts infoPz
  exact (run_makeSlice w 53 55 i0 _ Tryd.underlying53 hi hz0 .i64 .i64 3 3 (by decide) (by decide) (by rw [hz1]; decide) (by rw [hz2]; decide) (by decide)).trans (by rw [hz1]; first | rfl | (simp [madeCells]; done) | kernel_rfl)
set_option maxHeartbeats 32000000 in
set_option maxRecDepth 100000 in
theorem abreast_tells (L : Nat → List It) (A : Nat → Option Addr) (c : Nat → Nat) (w0 w : World) (b1 b2 br : Nat)
    (hL : ∀ i, i < 3 → Kd.C k27 w0 (A i) (L i).length (L i)) (hc : ∀ i, i < 3 → (L i).length ≤ c i) (hl : ∀ i, i < 3 → (L i).length ≤ 4096) (hS : ∀ i, i < 3 → ∀ x ∈ L i, x.f1.size ≤ 1023)
    (hx : Am L A c w0 b1 b2 br w) (h0 : w0.heap.size ≤ w.heap.size) :
    Tells Tryd.prog 31 #[.pointer (some ⟨b2, 0, none⟩), .pointer (some ⟨b1, 0, none⟩)] encR (GoodR (roundsF L (leftN L (fun _ => 0)) (fun _ => 0)) w0) (StR w.heap.size) (KpR w0.heap.size (fun k => k = b1 ∨ k = b2 ∨ k = br))
      (fun xs => xs.map Rnd.rd = roundsF L (leftN L (fun _ => 0)) (fun _ => 0)) w := by
  intro l J W hW hJ hY hJ0
  obtain ⟨rs, hrs⟩ : ∃ rs, roundsF L (leftN L (fun _ => 0)) (fun _ => 0) = rs := ⟨_, rfl⟩
  obtain ⟨B, hBB⟩ : ∃ B, w.heap.size = B := ⟨_, rfl⟩
  have h1 := blk_lt hx.x1
  have h2 := blk_lt hx.x2
  have h3 := blk_lt hx.xr
  rw [hBB] at h0 h1 h2 h3
  have hAm := hx.below hW
  have hBW : B ≤ W.heap.size := hBB ▸ hW.size
  rw [hrs] at hY ⊢
  rw [hBB] at hJ
  clear hx hW
  have y1 := blk_cell hAm.x1 0
  have y2 := blk_cell hAm.x2 0
  have HAm := Aside0.mk hAm
  have HJ := Aside0.mk hJ
  have HY := Aside0.mk hY
  have HJ0 := Aside0.mk hJ0
  have HRS := Aside0.mk hrs
  clear hAm hJ hY hJ0 hrs
  have m1 := make3
  have m2 := makeP3
  go_enter Tryd.func31, Tryd.ntmps31
  go_wp2_with fail
  have hM0 : Mid L A c w0 b1 b2 br B W.heap.size rs J [] (fun _ => 0) (leftN L (fun _ => 0)) (W.alloc (.cells #[.int .i64 0, .int .i64 0, .int .i64 0] 3)) :=
    ⟨HAm.out.below ((Below.refl _ _).alloc (Nat.le_refl _) _), blk_new W _, hBW, HJ.out _ _ _ HJ0.out (StR.below ((Below.refl _ _).alloc (Nat.le_refl _) _)), HRS.out.symm, Nat.le_refl _, fun _ _ => Nat.zero_le _⟩
  have HM0 := Aside0.mk hM0
  clear hM0 m1
  go_loopg [5] (leftN L (fun _ => 0)) (fun g s5 wr => ∃ pre p, Aside0 (Mid L A c w0 b1 b2 br B W.heap.size rs J pre p g wr))
  case atStart => exact ⟨_, _, HM0⟩
  case round =>
    obtain ⟨pre, p, HM⟩ := hrel
    clear HM0 HJ0 y1 y2 HAm
    have y1 := blk_cell HM.out.am.x1 0
    have y2 := blk_cell HM.out.am.x2 0
    go_wp2_with fail
    obtain ⟨gq, rfl⟩ : ∃ gq, gq = gk := ⟨_, rfl⟩
    obtain ⟨wq, rfl⟩ : ∃ wq, wq = wr := ⟨_, rfl⟩
    go_loopg [17, 5, 6] 3 (fun g s17 s5 s6 wx => ∃ i : Nat, 3 - i ≤ g ∧ i ≤ 3 ∧ s17 = .int .i64 i ∧ s5 = .string ((lstP L p i).getD ⟨#[]⟩) ∧ s6 = .bool (lstP L p i).isSome ∧ Aside0 (Mid L A c w0 b1 b2 br B W.heap.size rs J pre p gq wx))
    case atStart => exact ⟨0, by omega, by omega, rfl, rfl, rfl, HM⟩
    case round =>
      obtain ⟨i, hig, hi3, rfl, rfl, rfl, HM1⟩ := hrel
      clear HM y1 y2
      by_cases hi : i < 3
      · rcases (show i = 0 ∨ i = 1 ∨ i = 2 by omega) with rfl | rfl | rfl
        · have y1 : wr.cell? ⟨b1, 0, none⟩ = some (.func (.func 20) #[] #[]) := blk_cell HM1.out.am.x1 0
          have y3 : wr.cell? ⟨br, 0, none⟩ = some (.slice (A 0) (L 0).length (c 0)) := blk_cell HM1.out.am.xr 0
          have y4 : wr.cell? ⟨W.heap.size, 0, none⟩ = some (.int .i64 (p 0)) := blk_cell HM1.out.at_ 0
          by_cases hp : p 0 < (L 0).length
          · have d1 : decide ((p 0 : Int) < ((L 0).length : Int)) = true := decide_eq_true (by omega)
            have d2 : decide (p 0 < (L 0).length) = true := decide_eq_true hp
            obtain ⟨ad, hA, _⟩ := (hL 0 (by omega)).2.2 (by omega)
            have hoi := HM1.out.am.item hp hA (hL 0 (by omega))
            have hgx : (L 0)[p 0]? = some ((L 0)[p 0]'hp) := List.getElem?_eq_getElem hp
            have hsx := hS 0 (by omega) _ (List.getElem_mem hp)
            have hlx := hl 0 (by omega)
            obtain ⟨x, hx⟩ : ∃ x, (L 0)[p 0]'hp = x := ⟨_, rfl⟩
            rw [hx] at hoi hgx hsx
            obtain ⟨ad', A4, c4, A5, c5, e, r0, r1, r2, r3, r4, r5, l4, g4, l5, g5⟩ := hoi.below (HM1.out.am.low)
            injection e with e
            obtain rfl := Option.some.inj e
            rw [hA] at y3
            have HX := Aside0.mk hgx
            clear hoi hx e l4 g4 l5 g5 hgx
            cases hk : lstP L p 0 with
            | none =>
              have HN : Aside0 (lstP L p (0 + 1) = some (keyI x)) := ⟨by unfold lstP; rw [HX.out]; dsimp only; rw [hk]⟩
              have HK := Aside0.mk hk
              clear hk
              go_wp2_with fail
              go_quiet (fail)
              go_wp2_with fail
              go_region_held3 (fun w' => Hd wr b1 W.heap.size 0 (p 0) (ad.add (p 0 * 6)) x A4 c4 A5 c5 w')
                (first | (refine hd_step ⟨y1, y4, r0, r1, r2, r3, r4, r5, ⟨Below.refl _ _⟩⟩ ?_; (repeat (first | exact Below.refl _ _ | apply pw_below_drewN | apply below_drew)); done) | (go_split_ands; exact hd_step ⟨by assumption, by assumption, by assumption, by assumption, by assumption, by assumption, by assumption, by assumption, by assumption⟩ (by assumption)))
                (first | (go_at_call 20; refine (byPath_any x _ _ _ (by omega)).mono ?_; rintro e w2 ⟨rfl, hb2⟩))
              go_split_ands
              go_wp2_with fail
              go_roundg (2 - 0)
              case measure => omega
              case rel => exact ⟨0 + 1, by omega, by omega, by first | rfl | simp, by rw [HN.out]; rfl, by rw [HN.out]; rfl, ⟨HM1.out.below HJ.out (Aside0.out (by assumption))⟩⟩
            | some k =>
              cases hlt : Op.bytesLess (swapB 47 0 x.f1).toList k.toList with
              | false =>
                have HN : Aside0 (lstP L p (0 + 1) = some k) := ⟨by unfold lstP; rw [HX.out]; dsimp only; rw [hk]; dsimp only; rw [if_neg (show ¬ Op.bytesLess (keyI x).toList k.toList = true by unfold keyI; rw [hlt]; decide)]⟩
                have HK := Aside0.mk hk
                clear hk
                go_wp2_with fail
                go_region_held3 (fun w' => Hd wr b1 W.heap.size 0 (p 0) (ad.add (p 0 * 6)) x A4 c4 A5 c5 w')
                  (first | (refine hd_step ⟨y1, y4, r0, r1, r2, r3, r4, r5, ⟨Below.refl _ _⟩⟩ ?_; (repeat (first | exact Below.refl _ _ | apply pw_below_drewN | apply below_drew)); done) | (go_split_ands; exact hd_step ⟨by assumption, by assumption, by assumption, by assumption, by assumption, by assumption, by assumption, by assumption, by assumption⟩ (by assumption)))
                  (first | (go_at_call 20; refine (byPath_any x _ _ _ (by omega)).mono ?_; rintro e w2 ⟨rfl, hb2⟩))
                go_split_ands
                go_wp2_with fail
                go_roundg (2 - 0)
                case measure => omega
                case rel => exact ⟨0 + 1, by omega, by omega, by first | rfl | simp, by rw [HN.out]; rfl, by rw [HN.out]; rfl, ⟨HM1.out.below HJ.out (Aside0.out (by assumption))⟩⟩
              | true =>
                have HN : Aside0 (lstP L p (0 + 1) = some (keyI x)) := ⟨by unfold lstP; rw [HX.out]; dsimp only; rw [hk]; dsimp only; rw [if_pos (show Op.bytesLess (keyI x).toList k.toList = true by unfold keyI; rw [hlt])]⟩
                have HK := Aside0.mk hk
                clear hk
                go_wp2_with fail
                go_region_held3 (fun w' => Hd wr b1 W.heap.size 0 (p 0) (ad.add (p 0 * 6)) x A4 c4 A5 c5 w')
                  (first | (refine hd_step ⟨y1, y4, r0, r1, r2, r3, r4, r5, ⟨Below.refl _ _⟩⟩ ?_; (repeat (first | exact Below.refl _ _ | apply pw_below_drewN | apply below_drew)); done) | (go_split_ands; exact hd_step ⟨by assumption, by assumption, by assumption, by assumption, by assumption, by assumption, by assumption, by assumption, by assumption⟩ (by assumption)))
                  (first | (go_at_call 20; refine (byPath_any x _ _ _ (by omega)).mono ?_; rintro e w2 ⟨rfl, hb2⟩))
                go_split_ands
                go_wp2_with fail
                obtain ⟨wv, hwv⟩ : ∃ wv, w2 = wv := ⟨_, rfl⟩
                subst hwv
                go_region_held3 (fun w' => Hd wr b1 W.heap.size 0 (p 0) (ad.add (p 0 * 6)) x A4 c4 A5 c5 w')
                  (first | (go_split_ands; refine hd_step ⟨by assumption, by assumption, by assumption, by assumption, by assumption, by assumption, by assumption, by assumption, by assumption⟩ ?_; first | assumption | exact below_drew (Below.refl _ _)))
                  (first | (go_at_call 20; refine (byPath_any x _ _ _ (by omega)).mono ?_; rintro e w2 ⟨rfl, hb2⟩))
                go_split_ands
                go_wp2_with fail
                go_roundg (2 - 0)
                case measure => omega
                case rel => exact ⟨0 + 1, by omega, by omega, by first | rfl | simp, by rw [HN.out]; rfl, by rw [HN.out]; rfl, ⟨HM1.out.below HJ.out (Aside0.out (by assumption))⟩⟩
          · have d1 : decide ((p 0 : Int) < ((L 0).length : Int)) = false := decide_eq_false (by omega)
            have d2 : decide (p 0 < (L 0).length) = false := decide_eq_false hp
            have HN : Aside0 (lstP L p (0 + 1) = lstP L p 0) := ⟨by
              have : (L 0)[p 0]? = none := List.getElem?_eq_none (by omega)
              show (match (L 0)[p 0]? with | none => lstP L p 0 | some x => _) = _
              rw [this]⟩
            go_wp2_with fail
            go_quiet (fail)
            go_wp2_with fail
            go_roundg (2 - 0)
            case measure => omega
            case rel => exact ⟨0 + 1, by omega, by omega, by first | rfl | simp, by rw [HN.out], by rw [HN.out], ⟨HM1.out.below HJ.out (by repeat (first | exact Below.refl _ _ | apply pw_below_drewN | apply below_drew))⟩⟩
        · have y1 : wr.cell? ⟨b1, 0, none⟩ = some (.func (.func 20) #[] #[]) := blk_cell HM1.out.am.x1 0
          have y3 : wr.cell? ⟨br, 1, none⟩ = some (.slice (A 1) (L 1).length (c 1)) := blk_cell HM1.out.am.xr 1
          have y4 : wr.cell? ⟨W.heap.size, 1, none⟩ = some (.int .i64 (p 1)) := blk_cell HM1.out.at_ 1
          by_cases hp : p 1 < (L 1).length
          · have d1 : decide ((p 1 : Int) < ((L 1).length : Int)) = true := decide_eq_true (by omega)
            have d2 : decide (p 1 < (L 1).length) = true := decide_eq_true hp
            obtain ⟨ad, hA, _⟩ := (hL 1 (by omega)).2.2 (by omega)
            have hoi := HM1.out.am.item hp hA (hL 1 (by omega))
            have hgx : (L 1)[p 1]? = some ((L 1)[p 1]'hp) := List.getElem?_eq_getElem hp
            have hsx := hS 1 (by omega) _ (List.getElem_mem hp)
            have hlx := hl 1 (by omega)
            obtain ⟨x, hx⟩ : ∃ x, (L 1)[p 1]'hp = x := ⟨_, rfl⟩
            rw [hx] at hoi hgx hsx
            obtain ⟨ad', A4, c4, A5, c5, e, r0, r1, r2, r3, r4, r5, l4, g4, l5, g5⟩ := hoi.below (HM1.out.am.low)
            injection e with e
            obtain rfl := Option.some.inj e
            rw [hA] at y3
            have HX := Aside0.mk hgx
            clear hoi hx e l4 g4 l5 g5 hgx
            cases hk : lstP L p 1 with
            | none =>
              have HN : Aside0 (lstP L p (1 + 1) = some (keyI x)) := ⟨by unfold lstP; rw [HX.out]; dsimp only; rw [hk]⟩
              have HK := Aside0.mk hk
              clear hk
              go_wp2_with fail
              go_quiet (fail)
              go_wp2_with fail
              go_region_held3 (fun w' => Hd wr b1 W.heap.size 1 (p 1) (ad.add (p 1 * 6)) x A4 c4 A5 c5 w')
                (first | (refine hd_step ⟨y1, y4, r0, r1, r2, r3, r4, r5, ⟨Below.refl _ _⟩⟩ ?_; (repeat (first | exact Below.refl _ _ | apply pw_below_drewN | apply below_drew)); done) | (go_split_ands; exact hd_step ⟨by assumption, by assumption, by assumption, by assumption, by assumption, by assumption, by assumption, by assumption, by assumption⟩ (by assumption)))
                (first | (go_at_call 20; refine (byPath_any x _ _ _ (by omega)).mono ?_; rintro e w2 ⟨rfl, hb2⟩))
              go_split_ands
              go_wp2_with fail
              go_roundg (2 - 1)
              case measure => omega
              case rel => exact ⟨1 + 1, by omega, by omega, by first | rfl | simp, by rw [HN.out]; rfl, by rw [HN.out]; rfl, ⟨HM1.out.below HJ.out (Aside0.out (by assumption))⟩⟩
            | some k =>
              cases hlt : Op.bytesLess (swapB 47 0 x.f1).toList k.toList with
              | false =>
                have HN : Aside0 (lstP L p (1 + 1) = some k) := ⟨by unfold lstP; rw [HX.out]; dsimp only; rw [hk]; dsimp only; rw [if_neg (show ¬ Op.bytesLess (keyI x).toList k.toList = true by unfold keyI; rw [hlt]; decide)]⟩
                have HK := Aside0.mk hk
                clear hk
                go_wp2_with fail
                go_region_held3 (fun w' => Hd wr b1 W.heap.size 1 (p 1) (ad.add (p 1 * 6)) x A4 c4 A5 c5 w')
                  (first | (refine hd_step ⟨y1, y4, r0, r1, r2, r3, r4, r5, ⟨Below.refl _ _⟩⟩ ?_; (repeat (first | exact Below.refl _ _ | apply pw_below_drewN | apply below_drew)); done) | (go_split_ands; exact hd_step ⟨by assumption, by assumption, by assumption, by assumption, by assumption, by assumption, by assumption, by assumption, by assumption⟩ (by assumption)))
                  (first | (go_at_call 20; refine (byPath_any x _ _ _ (by omega)).mono ?_; rintro e w2 ⟨rfl, hb2⟩))
                go_split_ands
                go_wp2_with fail
                go_roundg (2 - 1)
                case measure => omega
                case rel => exact ⟨1 + 1, by omega, by omega, by first | rfl | simp, by rw [HN.out]; rfl, by rw [HN.out]; rfl, ⟨HM1.out.below HJ.out (Aside0.out (by assumption))⟩⟩
              | true =>
                have HN : Aside0 (lstP L p (1 + 1) = some (keyI x)) := ⟨by unfold lstP; rw [HX.out]; dsimp only; rw [hk]; dsimp only; rw [if_pos (show Op.bytesLess (keyI x).toList k.toList = true by unfold keyI; rw [hlt])]⟩
                have HK := Aside0.mk hk
                clear hk
                go_wp2_with fail
                go_region_held3 (fun w' => Hd wr b1 W.heap.size 1 (p 1) (ad.add (p 1 * 6)) x A4 c4 A5 c5 w')
                  (first | (refine hd_step ⟨y1, y4, r0, r1, r2, r3, r4, r5, ⟨Below.refl _ _⟩⟩ ?_; (repeat (first | exact Below.refl _ _ | apply pw_below_drewN | apply below_drew)); done) | (go_split_ands; exact hd_step ⟨by assumption, by assumption, by assumption, by assumption, by assumption, by assumption, by assumption, by assumption, by assumption⟩ (by assumption)))
                  (first | (go_at_call 20; refine (byPath_any x _ _ _ (by omega)).mono ?_; rintro e w2 ⟨rfl, hb2⟩))
                go_split_ands
                go_wp2_with fail
                obtain ⟨wv, hwv⟩ : ∃ wv, w2 = wv := ⟨_, rfl⟩
                subst hwv
                go_region_held3 (fun w' => Hd wr b1 W.heap.size 1 (p 1) (ad.add (p 1 * 6)) x A4 c4 A5 c5 w')
                  (first | (go_split_ands; refine hd_step ⟨by assumption, by assumption, by assumption, by assumption, by assumption, by assumption, by assumption, by assumption, by assumption⟩ ?_; first | assumption | exact below_drew (Below.refl _ _)))
                  (first | (go_at_call 20; refine (byPath_any x _ _ _ (by omega)).mono ?_; rintro e w2 ⟨rfl, hb2⟩))
                go_split_ands
                go_wp2_with fail
                go_roundg (2 - 1)
                case measure => omega
                case rel => exact ⟨1 + 1, by omega, by omega, by first | rfl | simp, by rw [HN.out]; rfl, by rw [HN.out]; rfl, ⟨HM1.out.below HJ.out (Aside0.out (by assumption))⟩⟩
          · have d1 : decide ((p 1 : Int) < ((L 1).length : Int)) = false := decide_eq_false (by omega)
            have d2 : decide (p 1 < (L 1).length) = false := decide_eq_false hp
            have HN : Aside0 (lstP L p (1 + 1) = lstP L p 1) := ⟨by
              have : (L 1)[p 1]? = none := List.getElem?_eq_none (by omega)
              show (match (L 1)[p 1]? with | none => lstP L p 1 | some x => _) = _
              rw [this]⟩
            go_wp2_with fail
            go_quiet (fail)
            go_wp2_with fail
            go_roundg (2 - 1)
            case measure => omega
            case rel => exact ⟨1 + 1, by omega, by omega, by first | rfl | simp, by rw [HN.out], by rw [HN.out], ⟨HM1.out.below HJ.out (by repeat (first | exact Below.refl _ _ | apply pw_below_drewN | apply below_drew))⟩⟩
        · have y1 : wr.cell? ⟨b1, 0, none⟩ = some (.func (.func 20) #[] #[]) := blk_cell HM1.out.am.x1 0
          have y3 : wr.cell? ⟨br, 2, none⟩ = some (.slice (A 2) (L 2).length (c 2)) := blk_cell HM1.out.am.xr 2
          have y4 : wr.cell? ⟨W.heap.size, 2, none⟩ = some (.int .i64 (p 2)) := blk_cell HM1.out.at_ 2
          by_cases hp : p 2 < (L 2).length
          · have d1 : decide ((p 2 : Int) < ((L 2).length : Int)) = true := decide_eq_true (by omega)
            have d2 : decide (p 2 < (L 2).length) = true := decide_eq_true hp
            obtain ⟨ad, hA, _⟩ := (hL 2 (by omega)).2.2 (by omega)
            have hoi := HM1.out.am.item hp hA (hL 2 (by omega))
            have hgx : (L 2)[p 2]? = some ((L 2)[p 2]'hp) := List.getElem?_eq_getElem hp
            have hsx := hS 2 (by omega) _ (List.getElem_mem hp)
            have hlx := hl 2 (by omega)
            obtain ⟨x, hx⟩ : ∃ x, (L 2)[p 2]'hp = x := ⟨_, rfl⟩
            rw [hx] at hoi hgx hsx
            obtain ⟨ad', A4, c4, A5, c5, e, r0, r1, r2, r3, r4, r5, l4, g4, l5, g5⟩ := hoi.below (HM1.out.am.low)
            injection e with e
            obtain rfl := Option.some.inj e
            rw [hA] at y3
            have HX := Aside0.mk hgx
            clear hoi hx e l4 g4 l5 g5 hgx
            cases hk : lstP L p 2 with
            | none =>
              have HN : Aside0 (lstP L p (2 + 1) = some (keyI x)) := ⟨by unfold lstP; rw [HX.out]; dsimp only; rw [hk]⟩
              have HK := Aside0.mk hk
              clear hk
              go_wp2_with fail
              go_quiet (fail)
              go_wp2_with fail
              go_region_held3 (fun w' => Hd wr b1 W.heap.size 2 (p 2) (ad.add (p 2 * 6)) x A4 c4 A5 c5 w')
                (first | (refine hd_step ⟨y1, y4, r0, r1, r2, r3, r4, r5, ⟨Below.refl _ _⟩⟩ ?_; (repeat (first | exact Below.refl _ _ | apply pw_below_drewN | apply below_drew)); done) | (go_split_ands; exact hd_step ⟨by assumption, by assumption, by assumption, by assumption, by assumption, by assumption, by assumption, by assumption, by assumption⟩ (by assumption)))
                (first | (go_at_call 20; refine (byPath_any x _ _ _ (by omega)).mono ?_; rintro e w2 ⟨rfl, hb2⟩))
              go_split_ands
              go_wp2_with fail
              go_roundg (2 - 2)
              case measure => omega
              case rel => exact ⟨2 + 1, by omega, by omega, by first | rfl | simp, by rw [HN.out]; rfl, by rw [HN.out]; rfl, ⟨HM1.out.below HJ.out (Aside0.out (by assumption))⟩⟩
            | some k =>
              cases hlt : Op.bytesLess (swapB 47 0 x.f1).toList k.toList with
              | false =>
                have HN : Aside0 (lstP L p (2 + 1) = some k) := ⟨by unfold lstP; rw [HX.out]; dsimp only; rw [hk]; dsimp only; rw [if_neg (show ¬ Op.bytesLess (keyI x).toList k.toList = true by unfold keyI; rw [hlt]; decide)]⟩
                have HK := Aside0.mk hk
                clear hk
                go_wp2_with fail
                go_region_held3 (fun w' => Hd wr b1 W.heap.size 2 (p 2) (ad.add (p 2 * 6)) x A4 c4 A5 c5 w')
                  (first | (refine hd_step ⟨y1, y4, r0, r1, r2, r3, r4, r5, ⟨Below.refl _ _⟩⟩ ?_; (repeat (first | exact Below.refl _ _ | apply pw_below_drewN | apply below_drew)); done) | (go_split_ands; exact hd_step ⟨by assumption, by assumption, by assumption, by assumption, by assumption, by assumption, by assumption, by assumption, by assumption⟩ (by assumption)))
                  (first | (go_at_call 20; refine (byPath_any x _ _ _ (by omega)).mono ?_; rintro e w2 ⟨rfl, hb2⟩))
                go_split_ands
                go_wp2_with fail
                go_roundg (2 - 2)
                case measure => omega
                case rel => exact ⟨2 + 1, by omega, by omega, by first | rfl | simp, by rw [HN.out]; rfl, by rw [HN.out]; rfl, ⟨HM1.out.below HJ.out (Aside0.out (by assumption))⟩⟩
              | true =>
                have HN : Aside0 (lstP L p (2 + 1) = some (keyI x)) := ⟨by unfold lstP; rw [HX.out]; dsimp only; rw [hk]; dsimp only; rw [if_pos (show Op.bytesLess (keyI x).toList k.toList = true by unfold keyI; rw [hlt])]⟩
                have HK := Aside0.mk hk
                clear hk
                go_wp2_with fail
                go_region_held3 (fun w' => Hd wr b1 W.heap.size 2 (p 2) (ad.add (p 2 * 6)) x A4 c4 A5 c5 w')
                  (first | (refine hd_step ⟨y1, y4, r0, r1, r2, r3, r4, r5, ⟨Below.refl _ _⟩⟩ ?_; (repeat (first | exact Below.refl _ _ | apply pw_below_drewN | apply below_drew)); done) | (go_split_ands; exact hd_step ⟨by assumption, by assumption, by assumption, by assumption, by assumption, by assumption, by assumption, by assumption, by assumption⟩ (by assumption)))
                  (first | (go_at_call 20; refine (byPath_any x _ _ _ (by omega)).mono ?_; rintro e w2 ⟨rfl, hb2⟩))
                go_split_ands
                go_wp2_with fail
                obtain ⟨wv, hwv⟩ : ∃ wv, w2 = wv := ⟨_, rfl⟩
                subst hwv
                go_region_held3 (fun w' => Hd wr b1 W.heap.size 2 (p 2) (ad.add (p 2 * 6)) x A4 c4 A5 c5 w')
                  (first | (go_split_ands; refine hd_step ⟨by assumption, by assumption, by assumption, by assumption, by assumption, by assumption, by assumption, by assumption, by assumption⟩ ?_; first | assumption | exact below_drew (Below.refl _ _)))
                  (first | (go_at_call 20; refine (byPath_any x _ _ _ (by omega)).mono ?_; rintro e w2 ⟨rfl, hb2⟩))
                go_split_ands
                go_wp2_with fail
                go_roundg (2 - 2)
                case measure => omega
                case rel => exact ⟨2 + 1, by omega, by omega, by first | rfl | simp, by rw [HN.out]; rfl, by rw [HN.out]; rfl, ⟨HM1.out.below HJ.out (Aside0.out (by assumption))⟩⟩
          · have d1 : decide ((p 2 : Int) < ((L 2).length : Int)) = false := decide_eq_false (by omega)
            have d2 : decide (p 2 < (L 2).length) = false := decide_eq_false hp
            have HN : Aside0 (lstP L p (2 + 1) = lstP L p 2) := ⟨by
              have : (L 2)[p 2]? = none := List.getElem?_eq_none (by omega)
              show (match (L 2)[p 2]? with | none => lstP L p 2 | some x => _) = _
              rw [this]⟩
            go_wp2_with fail
            go_quiet (fail)
            go_wp2_with fail
            go_roundg (2 - 2)
            case measure => omega
            case rel => exact ⟨2 + 1, by omega, by omega, by first | rfl | simp, by rw [HN.out], by rw [HN.out], ⟨HM1.out.below HJ.out (by repeat (first | exact Below.refl _ _ | apply pw_below_drewN | apply below_drew))⟩⟩
      · obtain rfl : i = 3 := by omega
        have hM1 := HM1.out
        cases hk : lstP L p 3 with
        | none =>
          have hr : roundsF L gq p = [] := by
            cases gq with
            | zero => rfl
            | succ n => rw [roundsF, hk]
          have HF : Aside0 (∃ xs, xs.map Rnd.rd = rs ∧ J xs wr) := ⟨pre, by rw [hM1.rs, hr, List.append_nil], hM1.j⟩
          clear hM1 hk hr
          go_wp2_with fail
          refine bodyPost_ret (results_none rfl _ _ _) rfl ?_
          exact ⟨⟨_, rfl⟩, HF.out⟩
        | some k =>
          have HK := Aside0.mk hk
          have y2 : wr.cell? ⟨b2, 0, none⟩ = some (.slice (some ⟨br, 0, none⟩) 3 3) := blk_cell hM1.am.x2 0
          have hz := (Below.refl wr.heap.size wr).alloc (Nat.le_refl _) (.cells #[.pointer none, .pointer none, .pointer none] 55)
          have y5 : (wr.alloc (.cells #[.pointer none, .pointer none, .pointer none] 55)).cell? ⟨b2, 0, none⟩ = some (.slice (some ⟨br, 0, none⟩) 3 3) := pw_cell_below hz y2
          have hM2 : Mid2 L A c w0 b1 b2 br B W.heap.size wr.heap.size J pre p k 0 (wr.alloc (.cells #[.pointer none, .pointer none, .pointer none] 55)) :=
            ⟨hM1.am.below hz, p, blk_below hM1.at_ hz, fun j hj => absurd hj (Nat.not_lt_zero _), fun _ _ => rfl, fun _ => .pointer none, blk_new wr _, fun j hj => absurd hj (Nat.not_lt_zero _), fun _ _ => rfl, HJ.out _ _ _ hM1.j (StR.below hz)⟩
          have HM2 := Aside0.mk hM2
          have HRd := Aside0.mk hM1.rs
          have HLf := Aside0.mk hM1.left
          have HLe := Aside0.mk hM1.le
          have hhB : B ≤ wr.heap.size := Nat.le_trans hM1.hB (Nat.le_of_lt (blk_lt hM1.at_))
          have HaB := Aside0.mk hM1.hB
          clear hk hM1 hz hM2
          go_wp2_with fail
          clear y5 y2 HM1
          obtain ⟨wh, rfl⟩ : ∃ wh, wh = wr := ⟨_, rfl⟩
          go_loopg [63] 3 (fun g s63 wx => ∃ i : Nat, 3 - i ≤ g ∧ i ≤ 3 ∧ s63 = .int .i64 i ∧ Aside0 (Mid2 L A c w0 b1 b2 br B W.heap.size wh.heap.size J pre p k i wx))
          case atStart => exact ⟨0, by omega, by omega, rfl, HM2⟩
          case round =>
            obtain ⟨i, hig, hi3, rfl, HM3⟩ := hrel
            clear HM2
            by_cases hi : i < 3
            · rcases (show i = 0 ∨ i = 1 ∨ i = 2 by omega) with rfl | rfl | rfl
              · have hM3 := HM3.out
                obtain ⟨am, q, hat, hq1, hq2, P, hP, hP1, hP2, hj⟩ := hM3
                have hqi : q 0 = p 0 := hq2 0 (Nat.le_refl _)
                have y1 : wr.cell? ⟨b1, 0, none⟩ = some (.func (.func 20) #[] #[]) := blk_cell am.x1 0
                have y3 : wr.cell? ⟨br, 0, none⟩ = some (.slice (A 0) (L 0).length (c 0)) := blk_cell am.xr 0
                have y4 : wr.cell? ⟨W.heap.size, 0, none⟩ = some (.int .i64 (p 0)) := (blk_cell hat 0).trans (by rw [← hqi]; rfl)
                have z1 : wr.cell? ⟨wh.heap.size, 0, none⟩ = some (.pointer none) := (blk_cell hP 0).trans (by rw [← hP2 0 (Nat.le_refl _)]; rfl)
                have hne : W.heap.size ≠ wh.heap.size := blk_ne hat hP (by decide)
                by_cases hp : p 0 < (L 0).length
                · have d1 : decide ((p 0 : Int) < ((L 0).length : Int)) = true := decide_eq_true (by omega)
                  have d2 : decide (p 0 < (L 0).length) = true := decide_eq_true hp
                  obtain ⟨ad, hA, _⟩ := (hL 0 (by omega)).2.2 (by omega)
                  have hoi := am.item hp hA (hL 0 (by omega))
                  have hgx : (L 0)[p 0]? = some ((L 0)[p 0]'hp) := List.getElem?_eq_getElem hp
                  have hsx := hS 0 (by omega) _ (List.getElem_mem hp)
                  have hlx := hl 0 (by omega)
                  obtain ⟨x, hx⟩ : ∃ x, (L 0)[p 0]'hp = x := ⟨_, rfl⟩
                  rw [hx] at hoi hgx hsx
                  have HOI := Aside0.mk hoi
                  obtain ⟨ad', A4, c4, A5, c5, e, r0, r1, r2, r3, r4, r5, l4, g4, l5, g5⟩ := hoi.below am.low
                  injection e with e
                  obtain rfl := Option.some.inj e
                  rw [hA] at y3
                  have HX := Aside0.mk hgx
                  clear hoi hx e l4 g4 l5 g5 hgx am hat hq1 hq2 hP hP1 hP2 hj hqi
                  have hwp : IntKind.i64.wrap ((p 0 : Int) + 1) = (p 0 : Int) + 1 := by rw [IntKind.wrap_i64]; omega
                  cases he : ((swapB 47 0 x.f1).toList == k.toList) with
                  | false =>
                    have HH : Aside0 (hereP L p k 0 = none) := ⟨by unfold hereP; rw [HX.out]; dsimp only; rw [if_neg (show ¬ ((keyI x).toList == k.toList) = true by unfold keyI; rw [he]; decide)]⟩
                    go_wp2_with fail
                    go_region_held3 (fun w' => Hd wr b1 W.heap.size 0 (p 0) (ad.add (p 0 * 6)) x A4 c4 A5 c5 w')
                      (first | (refine hd_step ⟨y1, y4, r0, r1, r2, r3, r4, r5, ⟨Below.refl _ _⟩⟩ ?_; (repeat (first | exact Below.refl _ _ | apply pw_below_drewN | apply below_drew)); done) | (go_split_ands; exact hd_step ⟨by assumption, by assumption, by assumption, by assumption, by assumption, by assumption, by assumption, by assumption, by assumption⟩ (by assumption)))
                      (first | (go_at_call 20; refine (byPath_any x _ _ _ (by omega)).mono ?_; rintro e w2 ⟨rfl, hb2⟩))
                    go_split_ands
                    go_wp2_with fail
                    go_roundg (2 - 0)
                    case measure => omega
                    case rel => exact ⟨0 + 1, by omega, by omega, by first | rfl | simp, ⟨HM3.out.same HJ.out HH.out (Aside0.out (by assumption))⟩⟩
                  | true =>
                    have HH : Aside0 (hereP L p k 0 = some x) := ⟨by unfold hereP; rw [HX.out]; dsimp only; rw [if_pos (show ((keyI x).toList == k.toList) = true by unfold keyI; rw [he])]⟩
                    go_wp2_with fail
                    go_region_held3 (fun w' => Hd wr b1 W.heap.size 0 (p 0) (ad.add (p 0 * 6)) x A4 c4 A5 c5 w')
                      (first | (refine hd_step ⟨y1, y4, r0, r1, r2, r3, r4, r5, ⟨Below.refl _ _⟩⟩ ?_; (repeat (first | exact Below.refl _ _ | apply pw_below_drewN | apply below_drew)); done) | (go_split_ands; exact hd_step ⟨by assumption, by assumption, by assumption, by assumption, by assumption, by assumption, by assumption, by assumption, by assumption⟩ (by assumption)))
                      (first | (go_at_call 20; refine (byPath_any x _ _ _ (by omega)).mono ?_; rintro e w2 ⟨rfl, hb2⟩))
                    go_split_ands
                    have HW2 : Aside0 (Below wr.heap.size wr w2) := by assumption
                    obtain ⟨am, q, hat, hq1, hq2, P, hP, hP1, hP2, hj⟩ := HM3.out
                    have hP' := blk_below hP HW2.out
                    have z2 : w2.cell? ⟨wh.heap.size, 0, none⟩ = some (.pointer none) := (blk_cell hP' 0).trans (by rw [← hP2 0 (Nat.le_refl _)]; rfl)
                    have z3 := blk_frozen hP' 0
                    have hat' := blk_far (blk_below hat HW2.out) (p := ⟨wh.heap.size, 0, none⟩) hne (.pointer (some (ad.add (p 0 * 6))))
                    have z4 : (w2.setCell ⟨wh.heap.size, 0, none⟩ (.pointer (some (ad.add (p 0 * 6))))).cell? ⟨W.heap.size, 0, none⟩ = some (.int .i64 (p 0)) := (blk_cell hat' 0).trans (by rw [← hq2 0 (Nat.le_refl _)]; rfl)
                    have z5 := blk_frozen hat' 0
                    clear am hat hq1 hq2 hP hP1 hP2 hj hP' hat'
                    go_wp2_with fail
                    go_roundg (2 - 0)
                    case measure => omega
                    case rel => exact ⟨0 + 1, by omega, by omega, by first | rfl | simp, ⟨HM3.out.step (by omega) HJ.out HH.out HW2.out HOI.out HaB.out hhB hne h0 h1 h2 h3⟩⟩
                · have d1 : decide ((p 0 : Int) < ((L 0).length : Int)) = false := decide_eq_false (by omega)
                  have d2 : decide (p 0 < (L 0).length) = false := decide_eq_false hp
                  have HH : Aside0 (hereP L p k 0 = none) := ⟨by
                    unfold hereP
                    rw [List.getElem?_eq_none (by omega)]⟩
                  clear am hat hq1 hq2 hP hP1 hP2 hj hqi
                  go_wp2_with fail
                  go_quiet (fail)
                  go_wp2_with fail
                  go_roundg (2 - 0)
                  case measure => omega
                  case rel => exact ⟨0 + 1, by omega, by omega, by first | rfl | simp, ⟨HM3.out.same HJ.out HH.out (by repeat (first | exact Below.refl _ _ | apply pw_below_drewN | apply below_drew))⟩⟩
              · have hM3 := HM3.out
                obtain ⟨am, q, hat, hq1, hq2, P, hP, hP1, hP2, hj⟩ := hM3
                have hqi : q 1 = p 1 := hq2 1 (Nat.le_refl _)
                have y1 : wr.cell? ⟨b1, 0, none⟩ = some (.func (.func 20) #[] #[]) := blk_cell am.x1 0
                have y3 : wr.cell? ⟨br, 1, none⟩ = some (.slice (A 1) (L 1).length (c 1)) := blk_cell am.xr 1
                have y4 : wr.cell? ⟨W.heap.size, 1, none⟩ = some (.int .i64 (p 1)) := (blk_cell hat 1).trans (by rw [← hqi]; rfl)
                have z1 : wr.cell? ⟨wh.heap.size, 1, none⟩ = some (.pointer none) := (blk_cell hP 1).trans (by rw [← hP2 1 (Nat.le_refl _)]; rfl)
                have hne : W.heap.size ≠ wh.heap.size := blk_ne hat hP (by decide)
                by_cases hp : p 1 < (L 1).length
                · have d1 : decide ((p 1 : Int) < ((L 1).length : Int)) = true := decide_eq_true (by omega)
                  have d2 : decide (p 1 < (L 1).length) = true := decide_eq_true hp
                  obtain ⟨ad, hA, _⟩ := (hL 1 (by omega)).2.2 (by omega)
                  have hoi := am.item hp hA (hL 1 (by omega))
                  have hgx : (L 1)[p 1]? = some ((L 1)[p 1]'hp) := List.getElem?_eq_getElem hp
                  have hsx := hS 1 (by omega) _ (List.getElem_mem hp)
                  have hlx := hl 1 (by omega)
                  obtain ⟨x, hx⟩ : ∃ x, (L 1)[p 1]'hp = x := ⟨_, rfl⟩
                  rw [hx] at hoi hgx hsx
                  have HOI := Aside0.mk hoi
                  obtain ⟨ad', A4, c4, A5, c5, e, r0, r1, r2, r3, r4, r5, l4, g4, l5, g5⟩ := hoi.below am.low
                  injection e with e
                  obtain rfl := Option.some.inj e
                  rw [hA] at y3
                  have HX := Aside0.mk hgx
                  clear hoi hx e l4 g4 l5 g5 hgx am hat hq1 hq2 hP hP1 hP2 hj hqi
                  have hwp : IntKind.i64.wrap ((p 1 : Int) + 1) = (p 1 : Int) + 1 := by rw [IntKind.wrap_i64]; omega
                  cases he : ((swapB 47 0 x.f1).toList == k.toList) with
                  | false =>
                    have HH : Aside0 (hereP L p k 1 = none) := ⟨by unfold hereP; rw [HX.out]; dsimp only; rw [if_neg (show ¬ ((keyI x).toList == k.toList) = true by unfold keyI; rw [he]; decide)]⟩
                    go_wp2_with fail
                    go_region_held3 (fun w' => Hd wr b1 W.heap.size 1 (p 1) (ad.add (p 1 * 6)) x A4 c4 A5 c5 w')
                      (first | (refine hd_step ⟨y1, y4, r0, r1, r2, r3, r4, r5, ⟨Below.refl _ _⟩⟩ ?_; (repeat (first | exact Below.refl _ _ | apply pw_below_drewN | apply below_drew)); done) | (go_split_ands; exact hd_step ⟨by assumption, by assumption, by assumption, by assumption, by assumption, by assumption, by assumption, by assumption, by assumption⟩ (by assumption)))
                      (first | (go_at_call 20; refine (byPath_any x _ _ _ (by omega)).mono ?_; rintro e w2 ⟨rfl, hb2⟩))
                    go_split_ands
                    go_wp2_with fail
                    go_roundg (2 - 1)
                    case measure => omega
                    case rel => exact ⟨1 + 1, by omega, by omega, by first | rfl | simp, ⟨HM3.out.same HJ.out HH.out (Aside0.out (by assumption))⟩⟩
                  | true =>
                    have HH : Aside0 (hereP L p k 1 = some x) := ⟨by unfold hereP; rw [HX.out]; dsimp only; rw [if_pos (show ((keyI x).toList == k.toList) = true by unfold keyI; rw [he])]⟩
                    go_wp2_with fail
                    go_region_held3 (fun w' => Hd wr b1 W.heap.size 1 (p 1) (ad.add (p 1 * 6)) x A4 c4 A5 c5 w')
                      (first | (refine hd_step ⟨y1, y4, r0, r1, r2, r3, r4, r5, ⟨Below.refl _ _⟩⟩ ?_; (repeat (first | exact Below.refl _ _ | apply pw_below_drewN | apply below_drew)); done) | (go_split_ands; exact hd_step ⟨by assumption, by assumption, by assumption, by assumption, by assumption, by assumption, by assumption, by assumption, by assumption⟩ (by assumption)))
                      (first | (go_at_call 20; refine (byPath_any x _ _ _ (by omega)).mono ?_; rintro e w2 ⟨rfl, hb2⟩))
                    go_split_ands
                    have HW2 : Aside0 (Below wr.heap.size wr w2) := by assumption
                    obtain ⟨am, q, hat, hq1, hq2, P, hP, hP1, hP2, hj⟩ := HM3.out
                    have hP' := blk_below hP HW2.out
                    have z2 : w2.cell? ⟨wh.heap.size, 1, none⟩ = some (.pointer none) := (blk_cell hP' 1).trans (by rw [← hP2 1 (Nat.le_refl _)]; rfl)
                    have z3 := blk_frozen hP' 1
                    have hat' := blk_far (blk_below hat HW2.out) (p := ⟨wh.heap.size, 1, none⟩) hne (.pointer (some (ad.add (p 1 * 6))))
                    have z4 : (w2.setCell ⟨wh.heap.size, 1, none⟩ (.pointer (some (ad.add (p 1 * 6))))).cell? ⟨W.heap.size, 1, none⟩ = some (.int .i64 (p 1)) := (blk_cell hat' 1).trans (by rw [← hq2 1 (Nat.le_refl _)]; rfl)
                    have z5 := blk_frozen hat' 1
                    clear am hat hq1 hq2 hP hP1 hP2 hj hP' hat'
                    go_wp2_with fail
                    go_roundg (2 - 1)
                    case measure => omega
                    case rel => exact ⟨1 + 1, by omega, by omega, by first | rfl | simp, ⟨HM3.out.step (by omega) HJ.out HH.out HW2.out HOI.out HaB.out hhB hne h0 h1 h2 h3⟩⟩
                · have d1 : decide ((p 1 : Int) < ((L 1).length : Int)) = false := decide_eq_false (by omega)
                  have d2 : decide (p 1 < (L 1).length) = false := decide_eq_false hp
                  have HH : Aside0 (hereP L p k 1 = none) := ⟨by
                    unfold hereP
                    rw [List.getElem?_eq_none (by omega)]⟩
                  clear am hat hq1 hq2 hP hP1 hP2 hj hqi
                  go_wp2_with fail
                  go_quiet (fail)
                  go_wp2_with fail
                  go_roundg (2 - 1)
                  case measure => omega
                  case rel => exact ⟨1 + 1, by omega, by omega, by first | rfl | simp, ⟨HM3.out.same HJ.out HH.out (by repeat (first | exact Below.refl _ _ | apply pw_below_drewN | apply below_drew))⟩⟩
              · have hM3 := HM3.out
                obtain ⟨am, q, hat, hq1, hq2, P, hP, hP1, hP2, hj⟩ := hM3
                have hqi : q 2 = p 2 := hq2 2 (Nat.le_refl _)
                have y1 : wr.cell? ⟨b1, 0, none⟩ = some (.func (.func 20) #[] #[]) := blk_cell am.x1 0
                have y3 : wr.cell? ⟨br, 2, none⟩ = some (.slice (A 2) (L 2).length (c 2)) := blk_cell am.xr 2
                have y4 : wr.cell? ⟨W.heap.size, 2, none⟩ = some (.int .i64 (p 2)) := (blk_cell hat 2).trans (by rw [← hqi]; rfl)
                have z1 : wr.cell? ⟨wh.heap.size, 2, none⟩ = some (.pointer none) := (blk_cell hP 2).trans (by rw [← hP2 2 (Nat.le_refl _)]; rfl)
                have hne : W.heap.size ≠ wh.heap.size := blk_ne hat hP (by decide)
                by_cases hp : p 2 < (L 2).length
                · have d1 : decide ((p 2 : Int) < ((L 2).length : Int)) = true := decide_eq_true (by omega)
                  have d2 : decide (p 2 < (L 2).length) = true := decide_eq_true hp
                  obtain ⟨ad, hA, _⟩ := (hL 2 (by omega)).2.2 (by omega)
                  have hoi := am.item hp hA (hL 2 (by omega))
                  have hgx : (L 2)[p 2]? = some ((L 2)[p 2]'hp) := List.getElem?_eq_getElem hp
                  have hsx := hS 2 (by omega) _ (List.getElem_mem hp)
                  have hlx := hl 2 (by omega)
                  obtain ⟨x, hx⟩ : ∃ x, (L 2)[p 2]'hp = x := ⟨_, rfl⟩
                  rw [hx] at hoi hgx hsx
                  have HOI := Aside0.mk hoi
                  obtain ⟨ad', A4, c4, A5, c5, e, r0, r1, r2, r3, r4, r5, l4, g4, l5, g5⟩ := hoi.below am.low
                  injection e with e
                  obtain rfl := Option.some.inj e
                  rw [hA] at y3
                  have HX := Aside0.mk hgx
                  clear hoi hx e l4 g4 l5 g5 hgx am hat hq1 hq2 hP hP1 hP2 hj hqi
                  have hwp : IntKind.i64.wrap ((p 2 : Int) + 1) = (p 2 : Int) + 1 := by rw [IntKind.wrap_i64]; omega
                  cases he : ((swapB 47 0 x.f1).toList == k.toList) with
                  | false =>
                    have HH : Aside0 (hereP L p k 2 = none) := ⟨by unfold hereP; rw [HX.out]; dsimp only; rw [if_neg (show ¬ ((keyI x).toList == k.toList) = true by unfold keyI; rw [he]; decide)]⟩
                    go_wp2_with fail
                    go_region_held3 (fun w' => Hd wr b1 W.heap.size 2 (p 2) (ad.add (p 2 * 6)) x A4 c4 A5 c5 w')
                      (first | (refine hd_step ⟨y1, y4, r0, r1, r2, r3, r4, r5, ⟨Below.refl _ _⟩⟩ ?_; (repeat (first | exact Below.refl _ _ | apply pw_below_drewN | apply below_drew)); done) | (go_split_ands; exact hd_step ⟨by assumption, by assumption, by assumption, by assumption, by assumption, by assumption, by assumption, by assumption, by assumption⟩ (by assumption)))
                      (first | (go_at_call 20; refine (byPath_any x _ _ _ (by omega)).mono ?_; rintro e w2 ⟨rfl, hb2⟩))
                    go_split_ands
                    go_wp2_with fail
                    go_roundg (2 - 2)
                    case measure => omega
                    case rel => exact ⟨2 + 1, by omega, by omega, by first | rfl | simp, ⟨HM3.out.same HJ.out HH.out (Aside0.out (by assumption))⟩⟩
                  | true =>
                    have HH : Aside0 (hereP L p k 2 = some x) := ⟨by unfold hereP; rw [HX.out]; dsimp only; rw [if_pos (show ((keyI x).toList == k.toList) = true by unfold keyI; rw [he])]⟩
                    go_wp2_with fail
                    go_region_held3 (fun w' => Hd wr b1 W.heap.size 2 (p 2) (ad.add (p 2 * 6)) x A4 c4 A5 c5 w')
                      (first | (refine hd_step ⟨y1, y4, r0, r1, r2, r3, r4, r5, ⟨Below.refl _ _⟩⟩ ?_; (repeat (first | exact Below.refl _ _ | apply pw_below_drewN | apply below_drew)); done) | (go_split_ands; exact hd_step ⟨by assumption, by assumption, by assumption, by assumption, by assumption, by assumption, by assumption, by assumption, by assumption⟩ (by assumption)))
                      (first | (go_at_call 20; refine (byPath_any x _ _ _ (by omega)).mono ?_; rintro e w2 ⟨rfl, hb2⟩))
                    go_split_ands
                    have HW2 : Aside0 (Below wr.heap.size wr w2) := by assumption
                    obtain ⟨am, q, hat, hq1, hq2, P, hP, hP1, hP2, hj⟩ := HM3.out
                    have hP' := blk_below hP HW2.out
                    have z2 : w2.cell? ⟨wh.heap.size, 2, none⟩ = some (.pointer none) := (blk_cell hP' 2).trans (by rw [← hP2 2 (Nat.le_refl _)]; rfl)
                    have z3 := blk_frozen hP' 2
                    have hat' := blk_far (blk_below hat HW2.out) (p := ⟨wh.heap.size, 2, none⟩) hne (.pointer (some (ad.add (p 2 * 6))))
                    have z4 : (w2.setCell ⟨wh.heap.size, 2, none⟩ (.pointer (some (ad.add (p 2 * 6))))).cell? ⟨W.heap.size, 2, none⟩ = some (.int .i64 (p 2)) := (blk_cell hat' 2).trans (by rw [← hq2 2 (Nat.le_refl _)]; rfl)
                    have z5 := blk_frozen hat' 2
                    clear am hat hq1 hq2 hP hP1 hP2 hj hP' hat'
                    go_wp2_with fail
                    go_roundg (2 - 2)
                    case measure => omega
                    case rel => exact ⟨2 + 1, by omega, by omega, by first | rfl | simp, ⟨HM3.out.step (by omega) HJ.out HH.out HW2.out HOI.out HaB.out hhB hne h0 h1 h2 h3⟩⟩
                · have d1 : decide ((p 2 : Int) < ((L 2).length : Int)) = false := decide_eq_false (by omega)
                  have d2 : decide (p 2 < (L 2).length) = false := decide_eq_false hp
                  have HH : Aside0 (hereP L p k 2 = none) := ⟨by
                    unfold hereP
                    rw [List.getElem?_eq_none (by omega)]⟩
                  clear am hat hq1 hq2 hP hP1 hP2 hj hqi
                  go_wp2_with fail
                  go_quiet (fail)
                  go_wp2_with fail
                  go_roundg (2 - 2)
                  case measure => omega
                  case rel => exact ⟨2 + 1, by omega, by omega, by first | rfl | simp, ⟨HM3.out.same HJ.out HH.out (by repeat (first | exact Below.refl _ _ | apply pw_below_drewN | apply below_drew))⟩⟩
            · obtain rfl : i = 3 := by omega
              go_upto_region 17 with (fail)
              obtain ⟨am, q, hat, hq1, _, P, hP, hP1, _, hj⟩ := HM3.out
              have hat2 : wr.heap[W.heap.size]? = some (.cells #[.int .i64 (nextP L p k 0), .int .i64 (nextP L p k 1), .int .i64 (nextP L p k 2)] 3 (0, 0)) := by
                rw [← hq1 0 (by omega), ← hq1 1 (by omega), ← hq1 2 (by omega)]
                exact hat
              obtain ⟨gn, hgn⟩ : ∃ gn, gq = gn + 1 := by
                cases gq with
                | zero =>
                  have := leftN_next HK.out
                  have := HLf.out
                  omega
                | succ n => exact ⟨n, rfl⟩
              have hrs2 : rs = pre.map Rnd.rd ++ (k, hereP L p k 0, hereP L p k 1, hereP L p k 2) :: roundsF L gn (nextP L p k) := by
                rw [HRd.out, hgn, roundsF, HK.out]
              have hgood : GoodR rs w0 pre ⟨k, wh.heap.size, hereP L p k 0, hereP L p k 1, hereP L p k 2⟩ wr := ⟨⟨_, hrs2⟩, P 0, P 1, P 2, hP, hP1 0 (by omega), hP1 1 (by omega), hP1 2 (by omega)⟩
              obtain ⟨fn, tmps, assign, body, hy, hR⟩ := HY.out pre _ wr hj hgood
              have hlf : leftN L (nextP L p k) ≤ gn := by
                have h1 := leftN_next HK.out
                have h2 := HLf.out
                omega
              have hle2 : ∀ j, j < 3 → nextP L p k j ≤ (L j).length := fun j hj3 => by
                have h1 := HLe.out j hj3
                unfold nextP hereP
                cases hz : (L j)[p j]? with
                | none =>
                  rw [if_neg (by simp)]
                  exact h1
                | some x =>
                  rcases Nat.lt_or_ge (p j) (L j).length with h | h
                  · have hb : ∀ b : Bool, (if b = true then p j + 1 else p j) ≤ (L j).length := fun b => by cases b <;> simp <;> omega
                    exact hb _
                  · rw [List.getElem?_eq_none h] at hz; cases hz
              have hmid : ∀ W', J (pre ++ [⟨k, wh.heap.size, hereP L p k 0, hereP L p k 1, hereP L p k 2⟩]) W' → KpR w0.heap.size (fun k => k = b1 ∨ k = b2 ∨ k = br) wr W' → Mid L A c w0 b1 b2 br B W.heap.size rs J (pre ++ [⟨k, wh.heap.size, hereP L p k 0, hereP L p k 1, hereP L p k 2⟩]) (nextP L p k) gn W' := fun W' hj' hk' =>
                ⟨am.kp hk', hk'.nums _ _ hat2, HaB.out, hj', by rw [hrs2, List.map_append, List.append_assoc]; rfl, hlf, hle2⟩
              have HMD := Aside0.mk hmid
              have hGG := Aside0.mk (show gn + 1 = gq from hgn.symm)
              clear am hat hq1 hP hP1 hj hat2 hrs2 hgood hlf hle2 hmid hgn
              dsimp only [encR] at hy
              refine (wpIn_wide (n := 1)).1 ?_
              gi_wp2
              refine hR.mono ?_
              rintro e W' ⟨rfl, hJ', hk'⟩
              have HMD2 := Aside0.mk (HMD.out W' hJ' hk')
              clear hJ' hk' hR hy
              gi_wp2
              go_wp2_with fail
              go_roundg gn
              case measure => have := hGG.out; omega
              case rel => exact ⟨_, _, HMD2⟩
end Go.Proofs.YtkfikinjlbbibaaDoor
