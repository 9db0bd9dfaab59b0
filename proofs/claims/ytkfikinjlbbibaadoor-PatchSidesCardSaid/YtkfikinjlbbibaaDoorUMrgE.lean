/- Packed by this session's own program (wip/tools/pack.py): what the claim needs of its texts. -/
import Derived.Test.YtkfikinjlbbibaaDoorUMrg
import Derived.Test.YtkfikinjlbbibaaDoorUAbx
import Derived.Test.YtkfikinjlbbibaaDoorUTwn
import Derived.Test.YtkfikinjlbbibaaDoorURin
namespace Go.Proofs.YtkfikinjlbbibaaDoor
open Go.RowKit Go.Lib
open Go.Proofs.YtkfikinjlbbibaaDoorW.PrintWords Go.Proofs.YtkfikinjlbbibaaDoorW.PrintLast Go.Proofs.YtkfikinjlbbibaaDoor.PT
attribute [local go_sem] Oper.semAt_some
set_option linter.unusedVariables false
set_option linter.unusedSimpArgs false
set_option maxHeartbeats 32000000 in
set_option maxRecDepth 100000 in
theorem patch_Merge.calls (A0 : Option Addr) (c0 : Nat) (l0 : List It) (A1 : Option Addr) (c1 : Nat) (l1 : List It) (A2 : Option Addr) (c2 : Nat) (l2 : List It) (r1 : List It) (r2 : List Cf) (r3 : Int) (w : World)
    (hr0 : Kd.C k27 w A0 l0.length l0) (hc0 : l0.length ≤ c0) (hr1 : Kd.C k27 w A1 l1.length l1) (hc1 : l1.length ≤ c1) (hr2 : Kd.C k27 w A2 l2.length l2) (hc2 : l2.length ≤ c2)
    (h : patch_Merge.f l0 l1 l2 = some (r1, r2, r3)) :
    Calls Tryd.prog 7 #[.slice A0 l0.length c0, .slice A1 l1.length c1, .slice A2 l2.length c2] w fun e w' => ∃ v0_ v1_ : Value, e = .returned (.tuple #[v0_, v1_, .int .i64 r3]) ∧ Kd.S k27 27 w' w.heap.size (fun _ => True) v0_ r1 ∧ Kd.R k38 38 w' w.heap.size (fun _ => True) v1_ r2 ∧ Below w.heap.size w w' := by
  unfold patch_Merge.f at h
  by_cases hf : l0.all fitB = true ∧ l1.all fitB = true ∧ l2.all fitB = true
  · rw [if_pos hf] at h
    have hm := Option.some.inj h
    obtain ⟨f0, f1, f2⟩ := hf
    have HM := Aside0.mk hm
    have P0 : Aside0 (∀ W : World, Below w.heap.size w W → Calls Tryd.prog 18 #[.slice A0 l0.length c0] W fun e w' => (∃ v, e = .returned (.tuple #[v, .int .i64 (packP l0).2])) ∧ Below W.heap.size W w') := ⟨fun W hW => (dump_Pack.calls A0 c0 l0 (packP l0).1 (packP l0).2 W (Kd.C_below hr0 hW) hc0 (by unfold dump_Pack.f; rw [if_pos f0])).mono (by rintro e w' ⟨v, rfl, _, hb⟩; exact ⟨⟨v, rfl⟩, hb⟩)⟩
    have P1 : Aside0 (∀ W : World, Below w.heap.size w W → Calls Tryd.prog 18 #[.slice A1 l1.length c1] W fun e w' => (∃ v, e = .returned (.tuple #[v, .int .i64 (packP l1).2])) ∧ Below W.heap.size W w') := ⟨fun W hW => (dump_Pack.calls A1 c1 l1 (packP l1).1 (packP l1).2 W (Kd.C_below hr1 hW) hc1 (by unfold dump_Pack.f; rw [if_pos f1])).mono (by rintro e w' ⟨v, rfl, _, hb⟩; exact ⟨⟨v, rfl⟩, hb⟩)⟩
    have P2 : Aside0 (∀ W : World, Below w.heap.size w W → Calls Tryd.prog 18 #[.slice A2 l2.length c2] W fun e w' => (∃ v, e = .returned (.tuple #[v, .int .i64 (packP l2).2])) ∧ Below W.heap.size W w') := ⟨fun W hW => (dump_Pack.calls A2 c2 l2 (packP l2).1 (packP l2).2 W (Kd.C_below hr2 hW) hc2 (by unfold dump_Pack.f; rw [if_pos f2])).mono (by rintro e w' ⟨v, rfl, _, hb⟩; exact ⟨⟨v, rfl⟩, hb⟩)⟩
    have HF12 : Aside0 (l1.all fitB = true ∧ l2.all fitB = true) := ⟨f1, f2⟩
    have HR0 := Aside0.mk hr0
    have HR1 := Aside0.mk hr1
    have HR2 := Aside0.mk hr2
    clear h hm f0 f1 f2 hr0 hr1 hr2
    refine (callsIn_wide (n := 3)).1 (callsIn_of_wp_marks Tryd.func7 rfl trivial ?_ rfl)
    simp only [Tryd.ntmps7, List.size_toArray, List.length_cons, List.length_nil, Nat.reduceSub, Nat.reduceAdd, Array.replicate_succ, Array.replicate_zero, List.push_toArray, List.append_toArray, List.nil_append, List.cons_append]
    refine wpIn_wide.2 ?_
    go_wp2_with fail
    have hrow := blk_new w (.cells #[.slice A0 l0.length c0, .slice A1 l1.length c1, .slice A2 l2.length c2] 22)
    have HROW := Aside0.mk hrow
    have HB0 := Aside0.mk ((Below.refl w.heap.size w).alloc (Nat.le_refl _) (.cells #[.slice A0 l0.length c0, .slice A1 l1.length c1, .slice A2 l2.length c2] 22))
    clear hrow
    go_loopg [28] 3 (fun g s28 wx => ∃ i : Nat, 3 - i ≤ g ∧ i ≤ 3 ∧ s28 = .int .i64 i ∧ Aside0 (Below w.heap.size w wx) ∧ Aside0 (wx.heap[w.heap.size]? = some (.cells #[.slice A0 l0.length c0, .slice A1 l1.length c1, .slice A2 l2.length c2] 22 (0, 0))) ∧ Aside0 ((0 < i → (packP l0).2 = 0) ∧ (1 < i → (packP l1).2 = 0) ∧ (2 < i → (packP l2).2 = 0)))
    case atStart => exact ⟨0, by omega, by omega, rfl, HB0, HROW, ⟨fun h => by omega, fun h => by omega, fun h => by omega⟩⟩
    case round =>
      obtain ⟨i, hig, hi3, rfl, HB, HRW, HE⟩ := hrel
      clear HB0 HROW
      by_cases hi : i < 3
      · rcases (show i = 0 ∨ i = 1 ∨ i = 2 by omega) with rfl | rfl | rfl
        · have y1 : wr.cell? ⟨w.heap.size, 0, none⟩ = some (.slice A0 l0.length c0) := blk_cell HRW.out 0
          have hcall := P0.out wr HB.out
          have HC := Aside0.mk hcall
          clear hcall
          by_cases hz : (packP l0).2 ≠ 0
          · have hb2 : ((packP l0).2 != 0) = true := bne_iff_ne.2 hz
            have HF : Aside0 (([], [], (packP l0).2) = (r1, r2, r3)) := ⟨by have hm := HM.out; unfold mergeP at hm; rw [if_pos hz] at hm; exact hm⟩
            clear hz
            go_wp2_with (go_at_call 18; refine (HC.out).mono ?_; rintro e w2 ⟨⟨v, rfl⟩, hb⟩)
            refine ⟨_, results_tmp3 rfl _ _ _, ?_⟩
            obtain ⟨rfl, rfl, rfl⟩ : r1 = [] ∧ r2 = [] ∧ r3 = (packP l0).2 := by
              have := HF.out
              injection this with a b
              injection b with b c
              exact ⟨a.symm, b.symm, c.symm⟩
            exact ⟨_, _, rfl, Kd.S_nil _ _ _ _ _, Kd.R_nil _ _ _ _ _, HB.out.trans (hb.mono HB.out.size)⟩
          · have hz0 : (packP l0).2 = 0 := Decidable.not_not.1 hz
            have HZ := Aside0.mk hz0
            rw [hz0] at HC
            clear hz hz0
            go_wp2_with (go_at_call 18; refine (HC.out).mono ?_; rintro e w2 ⟨⟨v, rfl⟩, hb⟩)
            go_roundg (2 - 0)
            case measure => omega
            case rel => exact ⟨0 + 1, by omega, by omega, by first | rfl | simp, ⟨HB.out.trans (hb.mono HB.out.size)⟩, ⟨blk_below HRW.out hb⟩, ⟨fun _ => HZ.out, fun h => by omega, fun h => by omega⟩⟩
        · have y1 : wr.cell? ⟨w.heap.size, 1, none⟩ = some (.slice A1 l1.length c1) := blk_cell HRW.out 1
          have hcall := P1.out wr HB.out
          have HC := Aside0.mk hcall
          clear hcall
          by_cases hz : (packP l1).2 ≠ 0
          · have hb2 : ((packP l1).2 != 0) = true := bne_iff_ne.2 hz
            have HF : Aside0 (([], [], (packP l1).2) = (r1, r2, r3)) := ⟨by have hm := HM.out; unfold mergeP at hm; rw [if_neg (fun e => e (HE.out.1 (by omega))), if_pos hz] at hm; exact hm⟩
            clear hz
            go_wp2_with (go_at_call 18; refine (HC.out).mono ?_; rintro e w2 ⟨⟨v, rfl⟩, hb⟩)
            refine ⟨_, results_tmp3 rfl _ _ _, ?_⟩
            obtain ⟨rfl, rfl, rfl⟩ : r1 = [] ∧ r2 = [] ∧ r3 = (packP l1).2 := by
              have := HF.out
              injection this with a b
              injection b with b c
              exact ⟨a.symm, b.symm, c.symm⟩
            exact ⟨_, _, rfl, Kd.S_nil _ _ _ _ _, Kd.R_nil _ _ _ _ _, HB.out.trans (hb.mono HB.out.size)⟩
          · have hz0 : (packP l1).2 = 0 := Decidable.not_not.1 hz
            have HZ := Aside0.mk hz0
            rw [hz0] at HC
            clear hz hz0
            go_wp2_with (go_at_call 18; refine (HC.out).mono ?_; rintro e w2 ⟨⟨v, rfl⟩, hb⟩)
            go_roundg (2 - 1)
            case measure => omega
            case rel => exact ⟨1 + 1, by omega, by omega, by first | rfl | simp, ⟨HB.out.trans (hb.mono HB.out.size)⟩, ⟨blk_below HRW.out hb⟩, ⟨fun _ => HE.out.1 (by omega), fun _ => HZ.out, fun h => by omega⟩⟩
        · have y1 : wr.cell? ⟨w.heap.size, 2, none⟩ = some (.slice A2 l2.length c2) := blk_cell HRW.out 2
          have hcall := P2.out wr HB.out
          have HC := Aside0.mk hcall
          clear hcall
          by_cases hz : (packP l2).2 ≠ 0
          · have hb2 : ((packP l2).2 != 0) = true := bne_iff_ne.2 hz
            have HF : Aside0 (([], [], (packP l2).2) = (r1, r2, r3)) := ⟨by have hm := HM.out; unfold mergeP at hm; rw [if_neg (fun e => e (HE.out.1 (by omega))), if_neg (fun e => e (HE.out.2.1 (by omega))), if_pos hz] at hm; exact hm⟩
            clear hz
            go_wp2_with (go_at_call 18; refine (HC.out).mono ?_; rintro e w2 ⟨⟨v, rfl⟩, hb⟩)
            refine ⟨_, results_tmp3 rfl _ _ _, ?_⟩
            obtain ⟨rfl, rfl, rfl⟩ : r1 = [] ∧ r2 = [] ∧ r3 = (packP l2).2 := by
              have := HF.out
              injection this with a b
              injection b with b c
              exact ⟨a.symm, b.symm, c.symm⟩
            exact ⟨_, _, rfl, Kd.S_nil _ _ _ _ _, Kd.R_nil _ _ _ _ _, HB.out.trans (hb.mono HB.out.size)⟩
          · have hz0 : (packP l2).2 = 0 := Decidable.not_not.1 hz
            have HZ := Aside0.mk hz0
            rw [hz0] at HC
            clear hz hz0
            go_wp2_with (go_at_call 18; refine (HC.out).mono ?_; rintro e w2 ⟨⟨v, rfl⟩, hb⟩)
            go_roundg (2 - 2)
            case measure => omega
            case rel => exact ⟨2 + 1, by omega, by omega, by first | rfl | simp, ⟨HB.out.trans (hb.mono HB.out.size)⟩, ⟨blk_below HRW.out hb⟩, ⟨fun _ => HE.out.1 (by omega), fun _ => HE.out.2.1 (by omega), fun _ => HZ.out⟩⟩
      · obtain rfl : i = 3 := by omega
        have hmm := @run_makeMap Tryd.prog
        have HOK : Aside0 ((packP l0).2 = 0 ∧ (packP l1).2 = 0 ∧ (packP l2).2 = 0) := ⟨HE.out.1 (by omega), HE.out.2.1 (by omega), HE.out.2.2 (by omega)⟩
        clear HE HRW
        obtain ⟨wv, rfl⟩ : ∃ wv, wv = wr := ⟨_, rfl⟩
        have hom : (((wv.alloc (.cells #[.slice none 0 0] 22)).alloc (.cells #[.slice none 0 0] 29)).alloc (.map #[] 0)).ownsMap Tryd.prog 9 (plainElem (H := Unit) Tryd.prog 3) (wv.heap.size + 1 + 1) 0 (.map []) := by
          have h := World.ownsMap_made (H := Unit) ((wv.alloc (.cells #[.slice none 0 0] 22)).alloc (.cells #[.slice none 0 0] 29)) Tryd.prog 9 (plainElem (H := Unit) Tryd.prog 3)
          rw [World.size_alloc, World.size_alloc] at h
          exact h
        have HOM := Aside0.mk hom
        clear hom
        go_wp2_with (refine wpList_insert_own _ rfl (.tmp 41) (.const (.string ⟨#[]⟩)) (.const (.int .i64 2)) 48 rfl 9 3 lawS Tryd.underlying48 (plainElem (H := Unit) Tryd.prog 3) (wv.heap.size + 1 + 1) 0 (.map []) rfl HOM.out (by unfold maxLen; omega) (.string ⟨#[]⟩) (.int .i64 2) (keyL ⟨#[]⟩) rfl rfl (keyS _ (by decide)) (.lit (.int .i64 2)) [] (elemI 2 (by decide) (by decide)) ?_; intro w1 hm1 hg1; clear hmm)
        refine (abreast_any 20 (w1.heap.size + 1) _).mono ?_
        rintro e w2 ⟨rfl, hw2⟩
        go_wp2_with fail
        rw [← hw2]
        have hs3 : wv.heap.size + 3 ≤ w1.heap.size := by have := hg1.size; simp at this; omega
        have hb1 : Below wv.heap.size wv w1 := ((((Below.refl _ _).alloc (Nat.le_refl _) _).alloc (by simp) _).alloc (by simp; omega) _).grown hg1 (by simp; omega) (fun k e => by cases e; omega)
        have hsz2 : w1.heap.size + 4 ≤ w2.heap.size := by rw [hw2]; simp
        have hb2 : Below w1.heap.size w1 w2 := by rw [hw2]; exact ((((Below.refl _ _).alloc (Nat.le_refl _) _).alloc (by simp) _).alloc (by simp; omega) _).alloc (by simp; omega) _
        have hlow : Below w.heap.size w w2 := (HB.out.trans (hb1.mono HB.out.size)).trans (hb2.mono (by have := HB.out.size; omega))
        have hAm : Am (three3 l0 l1 l2) (three3 A0 A1 A2) (three3 c0 c1 c2) w (w1.heap.size + 2) (w1.heap.size + 3) (w1.heap.size + 1) w2 := by
          refine ⟨hlow, ?_, ?_, ?_⟩
          · rw [hw2]
            exact blk_alloc (by simpa using blk_new ((w1.alloc (.cells #[.map (some (wv.heap.size + 1 + 1))] 48)).alloc (.cells #[.slice A0 l0.length c0, .slice A1 l1.length c1, .slice A2 l2.length c2] 22)) (.cells #[.func (.func 20) #[] #[]] 52)) _
          · rw [hw2]
            simpa using blk_new (((w1.alloc (.cells #[.map (some (wv.heap.size + 1 + 1))] 48)).alloc (.cells #[.slice A0 l0.length c0, .slice A1 l1.length c1, .slice A2 l2.length c2] 22)).alloc (.cells #[.func (.func 20) #[] #[]] 52)) (.cells #[.slice (some ⟨w1.heap.size + 1, 0, none⟩) 3 3] 44)
          · rw [hw2]
            have hz := blk_new (w1.alloc (.cells #[.map (some (wv.heap.size + 1 + 1))] 48)) (.cells #[.slice A0 l0.length c0, .slice A1 l1.length c1, .slice A2 l2.length c2] 22)
            rw [World.size_alloc] at hz
            exact blk_alloc (blk_alloc hz _) _
        have hI0 : MI w w2.heap.size wv.heap.size (wv.heap.size + 1) (wv.heap.size + 1 + 1) w1.heap.size 1 ms0 w2 := by
          refine ⟨hlow, Nat.le_refl _, ⟨_, ?_, Kd.S_nil _ _ _ _ _⟩, ⟨_, ?_, Kd.R_nil _ _ _ _ _⟩, ?_, ?_⟩
          · refine blk_below (blk_grown (blk_alloc (blk_alloc (blk_new wv (.cells #[.slice none 0 0] 22)) _) _) hg1 (by simp; omega)) hb2
          · have hz := blk_new (wv.alloc (.cells #[.slice none 0 0] 22)) (.cells #[.slice none 0 0] 29)
            rw [World.size_alloc] at hz
            exact blk_below (blk_grown (blk_alloc hz _) hg1 (by simp <;> omega)) hb2
          · exact (mapAs_put (K := []) hm1 IsMap_nil (fun p => by rfl)).below hb2
          · rw [hw2]
            exact blk_alloc (blk_alloc (blk_alloc (blk_new w1 _) _) _) _
        have hz0 := pack_zero HOK.out.1
        have hz1 := pack_zero HOK.out.2.1
        have hz2 := pack_zero HOK.out.2.2
        have hT := abreast_tells (three3 l0 l1 l2) (three3 A0 A1 A2) (three3 c0 c1 c2) w w2 (w1.heap.size + 2) (w1.heap.size + 3) (w1.heap.size + 1)
          (three3_all HR0.out HR1.out HR2.out) (three3_all hc0 hc1 hc2) (three3_all hz0.1 hz1.1 hz2.1)
          (three3_all (pack_small HOK.out.1) (pack_small HOK.out.2.1) (pack_small HOK.out.2.2)) hAm hlow.size
        obtain ⟨rs, hrs⟩ : ∃ rs, roundsF (three3 l0 l1 l2) (leftN (three3 l0 l1 l2) (fun _ => 0)) (fun _ => 0) = rs := ⟨_, rfl⟩
        rw [hrs] at hT
        have hwB : w.heap.size ≤ w2.heap.size := hlow.size
        have hz0l := hz0.1
        have hz1l := hz1.1
        have hz2l := hz2.1
        have HI0 := Aside0.mk hI0
        have HT := Aside0.mk hT
        have HRS := Aside0.mk hrs
        clear hT hrs hI0 hAm hm1 hg1 hw2 hb1 hb2 hlow hz0 hz1 hz2 HOM
        refine range_over (gf := 31) (lb := #[.pointer (some ⟨w1.heap.size + 3, 0, none⟩), .pointer (some ⟨w1.heap.size + 2, 0, none⟩)]) ?hg (enters_of Tryd.func31 (by kernel_rfl) rfl) (encs := encR) (fun _ => rfl) HT.out
          (fun pre W => MI w w2.heap.size wv.heap.size (wv.heap.size + 1) (wv.heap.size + 1 + 1) w1.heap.size (pre.length + 1) ((pre.map Rnd.rd).foldl mstep ms0) W) ?a1 (fun _ _ => still_st)
          (fun pre A B hi hs => hi.kq (Kq.of_st hs) hwB (by omega) (by omega) (by omega) (by omega))
          (fun pre W l o o' hi hl ho hc => hi.kq (Kq.of_put hl ho hc) hwB (by omega) (by omega) (by omega) (by omega))
          (fun pre x W l o o' hgd hl ho hc => good_put hgd ho hc)
          (fun A B l o o1 p o2 hl ho hc hk hp hpc => kp_put hwB (fun k hk => by omega) hl ho hc hk hp hpc)
          (fun o o' => HI0.out.kq (Kq.below (((Below.refl _ _).alloc (Nat.le_refl _) _).alloc (by simp) _)) hwB (by omega) (by omega) (by omega) (by omega))
          ?assign ?body ?done
        case assign =>
          intro l x W K hK
          dsimp only [encR]
          gi_wp2
          exact hK
        case hg =>
          first | rfl | (go_simp; done) | simp [go_sem] | trace_state
        case body =>
          rintro l pre x W hi hgd
          refine wpIn_mono (Q := fun e _ B => EndR w w1 w2 wv W pre x e B) ?_ (fun e a B h => h)
          obtain ⟨⟨rest, hrest⟩, p0, p1, p2, hg, o0, o1, o2⟩ := hgd
          have hmem : x.rd ∈ rs := by rw [hrest]; simp
          obtain ⟨yk, hyk, hkey⟩ := rounds3_key (HRS.out ▸ hmem)
          have hyn : yk.f1.size ≤ 1023 := by
            rcases hyk with h | h | h
            · exact pack_small HOK.out.1 _ h
            · exact pack_small HOK.out.2.1 _ h
            · exact pack_small HOK.out.2.2 _ h
          have hks : x.key.size ≤ 1023 := by
            rw [show x.key = keyI yk from hkey.symm]
            unfold keyI
            rw [swapB_size]
            exact hyn
          have HI := Aside0.mk hi
          have HG := Aside0.mk hg
          have OW1 := Aside0.mk o1
          have OW2 := Aside0.mk o2
          have O0 := Aside0.mk (o0.below hi.low)
          have O1 := Aside0.mk (o1.below hi.low)
          have O2 := Aside0.mk (o2.below hi.low)
          clear hi hg o0 o1 o2
          gi_wp2_with (refine ⟨trivial, rfl, ?_⟩; gi_at_call 21; refine (CallsIn.inRound l (callsIn_wide.2 (path_any x.key _ (by omega)))).mono ?_; rintro e w5 ⟨rfl, hb5⟩)
          have g0 : w5.cell? ⟨x.g, 0, none⟩ = some p0 := blk_cell (blk_below HG.out hb5) 0
          have g1 : w5.cell? ⟨x.g, 1, none⟩ = some p1 := blk_cell (blk_below HG.out hb5) 1
          have g2 : w5.cell? ⟨x.g, 2, none⟩ = some p2 := blk_cell (blk_below HG.out hb5) 2
          have HB5 := Aside0.mk hb5
          have hpk : ∀ n : Nat, Calls Tryd.prog 22 #[p0, p1, p2] (w5.drewN n) fun e w' => e = .returned (.tuple #[pickV x.a x.b x.c p1 p2, .bool (pickP x.a x.b x.c).2]) ∧ ∃ m, w' = w5.drewN m :=
            fun n => quiet_drawn (pick_any p0 p1 p2 x.a x.b x.c _ ((O0.out.below hb5).below (pw_below_drewN (Below.refl _ _) n)) ((O1.out.below hb5).below (pw_below_drewN (Below.refl _ _) n)) ((O2.out.below hb5).below (pw_below_drewN (Below.refl _ _) n)))
          have HPK := Aside0.mk hpk
          clear hb5 hpk
          refine wpIn_region_quiet (by kernel_rfl) (by kernel_rfl) (by kernel_rfl) (by rintro ⟨a, w', h⟩; exact Exit.noConfusion (EndR.eq (show EndR w w1 w2 wv W pre x Exit.outgrown w' from h))) ?_
          repeat (go_big_quiet_step ((go_at_call 22; exact HPK.out _)))
          refine wpQuiet_nil ?_
          rintro _ ⟨nq, rfl⟩
          have HB6 := Aside0.mk (show Below W.heap.size W (w5.drewN nq) from HB5.out.trans (pw_below_drewN (Below.refl _ _) nq))
          have ho := pickV_oi (pickV_is x.a x.b x.c p1 p2) OW1.out OW2.out
          obtain ⟨pv, hpv⟩ : ∃ pv, pickV x.a x.b x.c p1 p2 = pv := ⟨_, rfl⟩
          obtain ⟨bo, hbo⟩ : ∃ bo, (pickP x.a x.b x.c).2 = bo := ⟨_, rfl⟩
          obtain ⟨px, hpx⟩ : ∃ px, (pickP x.a x.b x.c).1 = px := ⟨_, rfl⟩
          obtain ⟨W6, hW6⟩ : ∃ W6, w5.drewN nq = W6 := ⟨_, rfl⟩
          obtain ⟨S0, hS0⟩ : ∃ S0, (pre.map Rnd.rd).foldl mstep ms0 = S0 := ⟨_, rfl⟩
          rw [hpv, hpx] at ho
          rw [hW6] at HB6
          rw [hpv, hbo, hW6]
          have hi := HI.out
          rw [hS0] at hi
          have hmem1 : ∀ y, x.b = some y → y ∈ l1 := (roundsF_here (HRS.out ▸ hmem)).2.1
          have hmem2 : ∀ y, x.c = some y → y ∈ l2 := (roundsF_here (HRS.out ▸ hmem)).2.2
          have hpy : ∀ y, px = some y → Sm y ∧ 1 ≤ y.f0 ∧ y.f0 ≤ 4 := fun y hy => by
            have z1 := pack_zero HOK.out.2.1
            have z2 := pack_zero HOK.out.2.2
            rcases pick_from x.a x.b x.c (hpx.trans hy) with e | e
            · exact ⟨right_sm z1.2 _ (hmem1 y e), right_kinds z1.2 _ (hmem1 y e)⟩
            · exact ⟨right_sm z2.2 _ (hmem2 y e), right_kinds z2.2 _ (hmem2 y e)⟩
          have hsl : slashed (swapB 0 47 x.key) = true := by
            rw [show x.key = keyI yk from hkey.symm]
            refine slashed_back ?_
            rcases hyk with h | h | h
            · exact right_slashed (pack_zero HOK.out.1).2 _ h
            · exact right_slashed (pack_zero HOK.out.2.1).2 _ h
            · exact right_slashed (pack_zero HOK.out.2.2).2 _ h
          have hst := mstep_is S0 x.rd
          rw [show (pickP x.rd.2.1 x.rd.2.2.1 x.rd.2.2.2).1 = px from hpx, show (pickP x.rd.2.1 x.rd.2.2.1 x.rd.2.2.2).2 = bo from hbo] at hst
          have hpl : pre.length < 12288 := by have h1 := pre_length HRS.out hrest; have h2 := left3 (three3 l0 l1 l2) hz0l hz1l hz2l; omega
          have hlen := mfold_length (pre.map Rnd.rd) ms0
          rw [hS0, List.length_map] at hlen
          have hlen1 : S0.2.1.length ≤ 12288 := by have : (ms0.2.1).length = 0 := rfl; omega
          have hlen2 : S0.2.2.length ≤ 24576 := by have : (ms0.2.2).length = 0 := rfl; omega
          have hW : w2.heap.size ≤ W.heap.size := hi.big
          have hsw : (swapB 0 47 x.key).size ≤ 1023 := by rw [swapB_size]; exact hks
          have HI1 := Aside0.mk hi
          have HS0 := Aside0.mk hS0
          have HO := Aside0.mk ho
          have HM6 := Aside0.mk (hi.below HB6.out)
          have HC6 := Aside0.mk (show Chg w2.heap.size wv.heap.size (wv.heap.size + 1) (wv.heap.size + 1 + 1) W W6 from Chg.below HB6.out)
          have hb6 := HB6.out.size
          obtain ⟨at_, hat⟩ : ∃ s, swapB 0 47 x.key = s := ⟨_, rfl⟩
          rw [hat] at hsw hsl
          have hst2 : mstep S0 x.rd = mstepP S0 at_ px bo := by rw [← hat]; exact hst
          try rw [hat]
          have HST := Aside0.mk hst2
          have HPY := Aside0.mk hpy
          have hwv := HB.out.size
          obtain ⟨li, hli, hlilt⟩ := slash_last hsl
          have hdir : dirOf at_ = at_.extract 0 li := by unfold dirOf; rw [hli]; rfl
          have HDIR := Aside0.mk hdir
          have HLI := Aside0.mk hli
          clear hmem1 hmem2 hst2 hpy hdir hli hsl
          clear hpv hbo hpx hW6 hS0 hi hst ho g0 g1 g2 HPK hat hlen hmem hyk hkey hyn hrest HG O0 O1 O2 HI OW1 OW2
          have hup : Tryd.prog.underlying 55 = some (.pointer (Tryd.prog.pointee 55)) := by kernel_rfl
          have hq1 : ∀ (p : Option Addr) (w : World), (binOp .eql 55 (.pointer p) (.pointer none)).run Tryd.prog w = .ok (.bool p.isNone) w := fun p w => run_eql_pointer_nil w _ p hup
          have hu := Tryd.underlying27
          clear hup
          cases px with
          | none =>
            cases bo with
            | false =>
              have ho : pv = .pointer none := HO.out
              subst ho
              clear HO
              have FIN := Aside0.mk (fin_false HI1.out HS0.out HST.out hwB hwv hs3 hsz2 HI1.out.big)
              gi_wp2_with fail
              exact FIN.out _ (HM6.out.more (by omega)) HC6.out
            | true =>
              have ho : pv = .pointer none := HO.out
              subst ho
              clear HO
              have FIN := Aside0.mk (fin_true HI1.out HS0.out HST.out hwB hwv hs3 hsz2 HI1.out.big)
              obtain ⟨u1, hu1, hru1⟩ := HM6.out.confl
              obtain ⟨Au1, nu1, cu1, hv1⟩ := R_slice3 hru1
              subst hv1
              have c1 : W6.cell? ⟨wv.heap.size + 1, 0, none⟩ = some (.slice Au1 nu1 cu1) := blk_cell hu1 0
              have HU1 := Aside0.mk hu1
              have HRU1 := Aside0.mk hru1
              have hsz1 := HC6.out.size
              clear hu1 hru1
              gi_wp2_with (gi_at_builtin; refine appendIn k38 (w0 := W6) w2.heap.size rfl (.tmp 66) (.tmp 69) 29 38 (.agg #[.int .i64 0, .string ⟨#[]⟩]) 24 rfl Tryd.underlying29 infoCf rfl (by decide) (by decide) (.slice Au1 nu1 cu1) S0.2.2 ⟨1, at_⟩ [.int .i64 1, .string at_] (fun _ => True) (fun _ => False) rfl rfl (k38_mkM _ _ _ ⟨1, at_⟩) (fun _ h => h.elim) (fun _ _ => trivial) HRU1.out (Below.refl _ _) (by omega) (by omega) ?_; intro v1 w1_ hr1 _hb hg1 _hat; obtain ⟨Av1, nv1, cv1, hv1⟩ := R_slice3 hr1; subst hv1; have hb1 : w1_.heap[(wv.heap.size + 1)]? = some (.cells #[.slice Au1 nu1 cu1] 29 (0, 0)) := (hg1.block _ (blk_lt HU1.out) (own_ne_blk HRU1.out HU1.out (fun cs e => by injection e with _ e; cases e))).trans HU1.out; have d1 : w1_.cell? ⟨wv.heap.size + 1, 0, none⟩ = some (.slice Au1 nu1 cu1) := blk_cell hb1 0; have f1 := blk_frozen hb1 0; have HM1 := Aside0.mk (HM6.out.conflict HU1.out HRU1.out hr1 hwB hg1 (by omega) (by omega) (by omega) (by omega)); have HC1 := Aside0.mk (HC6.out.trans ((Chg.grown HRU1.out (Nat.le_refl _) (.inr rfl) hg1).trans (Chg.set (.inr rfl) 0 (.slice Av1 nv1 cv1)))); clear hr1 _hb hg1 _hat hb1)
              exact FIN.out _ (HM1.out.more (by omega)) HC1.out
          | some y =>
            cases bo with
            | false =>
              have HO0 := HO
              have ho := HO.out
              obtain ⟨ad, A4, c4, A5, c5, e, r0, r1, r2, r3, r4, r5, l4, g4, l5, g5⟩ := ho
              subst e
              have HOI0 : Aside0 (OI w (.pointer (some ad)) (some y)) := HO0
              have HSM := Aside0.mk (HPY.out y rfl).1
              have hk1 := (HPY.out y rfl).2.1
              have hk4 := (HPY.out y rfl).2.2
              clear r0 r1 r2 r3 r4 r5 l4 g4 l5 g5 HO
              have FIN := Aside0.mk (fin_false HI1.out HS0.out HST.out hwB hwv hs3 hsz2 HI1.out.big)
              gi_wp2_with fail
              obtain ⟨Ws, hWs⟩ : ∃ Ws, W6 = Ws := ⟨_, rfl⟩
              have HMs' := HM6.out
              have HCs' := HC6.out
              rw [hWs] at HMs' HCs'
              try rw [hWs]
              have HMs := Aside0.mk HMs'
              have HCs := Aside0.mk HCs'
              clear hWs HMs' HCs' HM6 HC6
              have y15 : Ws.cell? ⟨w1.heap.size, 0, none⟩ = some (.map (some (wv.heap.size + 1 + 1))) := blk_cell HMs.out.box 0
              obtain ⟨kd, hkd⟩ : ∃ c, kget S0.1 (at_.extract 0 li) = c := ⟨_, rfl⟩
              have hlk : ∀ n, (Instr.lookup 48 (.map (some (wv.heap.size + 1 + 1))) (.string (at_.extract 0 li)) false).run Tryd.prog (Ws.drewN n) = .ok (.int .i64 kd) (Ws.drewN n) := fun n => by
                have h := (HMs.out.kinds.drewN n).look (at_.extract 0 li) (by rw [ByteArray.size_extract]; omega)
                rw [hkd] at h
                exact h
              have hcl : ∀ n : Nat, Calls Tryd.prog 23 #[.string at_, .int .u8 47] (Ws.drewN n) fun e w'' => e = .returned (.int .i64 li) ∧ ∃ m, w'' = Ws.drewN m := fun n => by
                have c := Tryd.strings_LastIndexByte at_ 47 (by omega) (Ws.drewN n)
                rw [HLI.out] at c
                exact c.mono fun e w' h => ⟨h.1, n, h.2⟩
              have HCL := Aside0.mk hcl
              have c1 : (0 : Int) ≤ (li : Int) := by omega
              have c2 : (li : Int) ≤ (at_.size : Int) := by omega
              have hku : kget S0.1 (dirOf at_) = kd := by rw [HDIR.out]; exact hkd
              have HKU := Aside0.mk hku
              clear hcl hkd hku
              by_cases hk2 : kd = 2
              · have hk2b : (kd != 2) = false := by rw [hk2]; rfl
                have HK2 := Aside0.mk hk2
                clear hk2
                refine wpIn_region_quiet (by kernel_rfl) (by kernel_rfl) (by kernel_rfl) (by rintro ⟨a, w', h⟩; exact Exit.noConfusion (EndR.eq (show EndR w w1 w2 wv W pre x Exit.outgrown w' from h))) ?_
                repeat (go_big_quiet_step ((go_at_call 23; exact HCL.out _)))
                refine wpQuiet_nil ?_
                rintro _ ⟨nq2, rfl⟩
                clear hlk HCL y15
                have hdr := pw_below_drewN (Below.refl Ws.heap.size Ws) nq2
                have hm_ := HMs.out.below hdr
                have hc_ := HCs.out.trans (Chg.below hdr)
                obtain ⟨Wt, hWt⟩ : ∃ Wt, Ws.drewN nq2 = Wt := ⟨_, rfl⟩
                rw [hWt] at hm_ hc_ ⊢
                have HMt := Aside0.mk hm_
                have HCt := Aside0.mk hc_
                clear hWt hm_ hc_ hdr HMs HCs
                gi_wp2_with fail
                by_cases hf4 : y.f0 = 4
                · have b4 : (y.f0 == 4) = true := beq_iff_eq.2 hf4
                  have HF4 := Aside0.mk hf4
                  clear hf4
                  have hoi := HOI0.out.below HMt.out.low
                  obtain ⟨ad', A4, c4, A5, c5, e, r0, r1, r2, r3, r4, r5, l4, g4, l5, g5⟩ := hoi
                  injection e with e
                  obtain rfl := Option.some.inj e
                  clear e r1 r3 r4 r5 l4 g4 l5 g5
                  have y15 : Wt.cell? ⟨w1.heap.size, 0, none⟩ = some (.map (some (wv.heap.size + 1 + 1))) := blk_cell HMt.out.box 0
                  obtain ⟨k2, hk2⟩ : ∃ c, kget S0.1 y.f2 = c := ⟨_, rfl⟩
                  have hst2 : y.f2.size ≤ 1048576 := HSM.out.t
                  have hlk : ∀ n, (Instr.lookup 48 (.map (some (wv.heap.size + 1 + 1))) (.string y.f2) false).run Tryd.prog (Wt.drewN n) = .ok (.int .i64 k2) (Wt.drewN n) := fun n => by
                    have h := (HMt.out.kinds.drewN n).look y.f2 (by omega)
                    rw [hk2] at h
                    exact h
                  have HK3 := Aside0.mk hk2
                  clear hk2 hst2
                  by_cases hk1' : k2 = 1
                  · have b5 : (k2 != 1) = false := by rw [hk1']; rfl
                    have HK4 := Aside0.mk hk1'
                    clear hk1'
                    refine wpIn_region_quiet (by kernel_rfl) (by kernel_rfl) (by kernel_rfl) (by rintro ⟨a, w', h⟩; exact Exit.noConfusion (EndR.eq (show EndR w w1 w2 wv W pre x Exit.outgrown w' from h))) ?_
                    repeat (go_big_quiet_step (fail))
                    refine wpQuiet_nil ?_
                    rintro _ ⟨nq3, rfl⟩
                    clear hlk y15 r0 r2
                    have hdr := pw_below_drewN (Below.refl Wt.heap.size Wt) nq3
                    have hm_ := HMt.out.below hdr
                    have hc_ := HCt.out.trans (Chg.below hdr)
                    obtain ⟨Wu, hWu⟩ : ∃ Wu, Wt.drewN nq3 = Wu := ⟨_, rfl⟩
                    rw [hWu] at hm_ hc_ ⊢
                    have HMu := Aside0.mk hm_
                    have HCu := Aside0.mk hc_
                    clear hWu hm_ hc_ hdr HMt HCt
                    gi_wp2_with fail
                    have HQ : Aside0 (mstepQ S0 at_ (some y) = ((at_, y.f0) :: S0.1, S0.2.1 ++ [y], S0.2.2)) := ⟨by unfold mstepQ; dsimp only; rw [if_neg (fun h => h (HKU.out.trans HK2.out)), if_neg (fun h => h.2 (HK3.out.trans HK4.out))]⟩
                    have hoi := HOI0.out.below HMu.out.low
                    obtain ⟨ad', A4, c4, A5, c5, e, r0, r1, r2, r3, r4, r5, l4, g4, l5, g5⟩ := hoi
                    injection e with e
                    obtain rfl := Option.some.inj e
                    clear e
                    have hdr := below_drew (Below.refl Wu.heap.size Wu)
                    obtain ⟨w8, hrun8, hm8, hg8⟩ := (HMu.out.below hdr).enter at_ y.f0 hsw (by omega) (by omega) (by omega) (by omega)
                    have z15 : Wu.cell? ⟨w1.heap.size, 0, none⟩ = some (.map (some (wv.heap.size + 1 + 1))) := blk_cell HMu.out.box 0
                    have HM8 := Aside0.mk hm8
                    have HC8 := Aside0.mk ((HCu.out.trans (Chg.below hdr)).trans (Chg.map hg8))
                    have hsz8 : Wu.heap.size ≤ w8.heap.size := hg8.size
                    have hszu := HCu.out.size
                    have HRUN8 := Aside0.mk hrun8
                    have hs18 : Wu.drew.cell? ⟨w1.heap.size, 0, none⟩ = some (.map (some (wv.heap.size + 1 + 1))) ∧ Wu.drew.cell? ad = some (.int .i64 y.f0) := ⟨pw_cell_below hdr z15, pw_cell_below hdr r0⟩
                    clear hrun8 hg8 hm8 hdr HMu HCu
                    refine startIn_ (n := 7) (S := fun w' => w'.cell? ⟨w1.heap.size, 0, none⟩ = some (.map (some (wv.heap.size + 1 + 1))) ∧ w'.cell? ad = some (.int .i64 y.f0)) (ds := [6]) #[false, false, false, false, false, false, false] (by kernel_rfl) (by kernel_rfl) (by rintro ⟨a, w', h⟩; exact Exit.noConfusion (EndR.eq (show EndR w w1 w2 wv W pre x Exit.outgrown w' from h))) rfl rfl hs18 (fun hHeld => ?_)
                    clear hs18 z15 r0 r1 r2 r3 r4 r5 l4 g4 l5 g5
                    refine take_ (i := 0) (N := some 71) (v := ?_) (a' := ?_) #[true, false, false, false, false, false, false] rfl rfl (by kernel_rfl) (fun _ _ _ h => h) (Or.inl ⟨by rfl, ?_⟩) hHeld ?_ ?_
                    rotate_left
                    · rintro w' ⟨s0, s1⟩
                      go_simp
                      with_reducible rfl
                    rotate_left
                    · simp only [Act.put, List.setIfInBounds_toArray, List.set_cons_zero, List.set_cons_succ, i64_w, i32_w]
                      rfl
                    refine pure_ (i := 1) (N := some 72) (v := ?_) (a' := ?_) #[true, true, false, false, false, false, false] rfl rfl (by kernel_rfl) (fun _ _ _ h => h) (Or.inl ⟨by rfl, ?_⟩) ?_ ?_
                    rotate_left
                    · intro w'
                      go_simp
                      with_reducible rfl
                    rotate_left
                    · simp only [Act.put, List.setIfInBounds_toArray, List.set_cons_zero, List.set_cons_succ, i64_w, i32_w]
                      rfl
                    refine pure_ (i := 2) (N := some 73) (v := ?_) (a' := ?_) #[true, true, true, false, false, false, false] rfl rfl (by kernel_rfl) (fun _ _ _ h => h) (Or.inl ⟨by rfl, ?_⟩) ?_ ?_
                    rotate_left
                    · intro w'
                      go_simp
                      with_reducible rfl
                    rotate_left
                    · simp only [Act.put, List.setIfInBounds_toArray, List.set_cons_zero, List.set_cons_succ, i64_w, i32_w]
                      rfl
                    refine pure_ (i := 3) (N := some 74) (v := ?_) (a' := ?_) #[true, true, true, true, false, false, false] rfl rfl (by kernel_rfl) (fun _ _ _ h => h) (Or.inl ⟨by rfl, ?_⟩) ?_ ?_
                    rotate_left
                    · intro w'
                      go_simp
                      with_reducible rfl
                    rotate_left
                    · simp only [Act.put, List.setIfInBounds_toArray, List.set_cons_zero, List.set_cons_succ, i64_w, i32_w]
                      rfl
                    refine pure_ (i := 4) (N := some 75) (v := ?_) (a' := ?_) #[true, true, true, true, true, false, false] rfl rfl (by kernel_rfl) (fun _ _ _ h => h) (Or.inl ⟨by rfl, ?_⟩) ?_ ?_
                    rotate_left
                    · intro w'
                      go_simp
                      with_reducible rfl
                    rotate_left
                    · simp only [Act.put, List.setIfInBounds_toArray, List.set_cons_zero, List.set_cons_succ, i64_w, i32_w]
                      rfl
                    refine take_ (i := 5) (N := some 76) (v := ?_) (a' := ?_) #[true, true, true, true, true, true, false] rfl rfl (by kernel_rfl) (fun _ _ _ h => h) (Or.inl ⟨by rfl, ?_⟩) hHeld ?_ ?_
                    rotate_left
                    · rintro w' ⟨s0, s1⟩
                      go_simp
                      with_reducible rfl
                    rotate_left
                    · simp only [Act.put, List.setIfInBounds_toArray, List.set_cons_zero, List.set_cons_succ, i64_w, i32_w]
                      rfl
                    refine last_ (i := 6) (N := none) #[true, true, true, true, true, true, true] rfl rfl (by kernel_rfl) (by decide) (fun K hK => ?_)
                    refine skip_ (w1 := w8) (by rfl) rfl ?_ ?_
                    · have hr := HRUN8.out
                      first | (go_simp; done) | (simp [execOp, go_sem, hr, Result.andThen]; done)
                    refine hK.out _ _ ?_
                    clear hK K hHeld HRUN8
                    refine done_ (by kernel_rfl) ?_
                    gi_wp2_with fail
                    obtain ⟨u8, hu8, hru8⟩ := HM8.out.items
                    obtain ⟨Au8, nu8, cu8, hv8⟩ := R_slice3 (Kd.S_R hru8)
                    subst hv8
                    have hdr := below_drew (Below.refl w8.heap.size w8)
                    obtain ⟨wd, hwd⟩ : ∃ wd, w8.drew = wd := ⟨_, rfl⟩
                    have hm9 := HM8.out.below hdr
                    have hc9 := HC8.out.trans (Chg.below hdr)
                    have hu9 := blk_below hu8 hdr
                    have hr9 := Kd.S_below hru8 hdr
                    rw [hwd] at hm9 hc9 hu9 hr9
                    have hoi := HOI0.out.below hm9.low
                    obtain ⟨ad', A4, c4, A5, c5, e, r0, r1, r2, r3, r4, r5, l4, g4, l5, g5⟩ := hoi
                    injection e with e
                    obtain rfl := Option.some.inj e
                    clear e
                    have z13 : wd.cell? ⟨wv.heap.size, 0, none⟩ = some (.slice Au8 nu8 cu8) := blk_cell hu9 0
                    have hs19 : wd.cell? ⟨wv.heap.size, 0, none⟩ = some (.slice Au8 nu8 cu8) ∧ wd.cell? ad = some (.int .i64 y.f0) ∧ wd.cell? ⟨ad.block, ad.off + 1, none⟩ = some (.string y.f1) ∧ wd.cell? ⟨ad.block, ad.off + 2, none⟩ = some (.string y.f2) ∧ wd.cell? ⟨ad.block, ad.off + 3, none⟩ = some (.int .i64 y.f3) ∧ wd.cell? ⟨ad.block, ad.off + 4, none⟩ = some (.slice A4 y.f4.length c4) ∧ wd.cell? ⟨ad.block, ad.off + 5, none⟩ = some (.slice A5 y.f5.length c5) := ⟨z13, r0, r1, r2, r3, r4, r5⟩
                    have hszd : w8.heap.size ≤ wd.heap.size := by rw [← hwd]; exact hdr.size
                    have HS19 := Aside0.mk hs19
                    have HM9 := Aside0.mk hm9
                    have HC9 := Aside0.mk hc9
                    have HU9 := Aside0.mk hu9
                    have HR9 := Aside0.mk hr9
                    have HL4 := Aside0.mk l4
                    have HL5 := Aside0.mk l5
                    have HG4 := Aside0.mk g4
                    have HG5 := Aside0.mk g5
                    clear hu8 hru8 hdr hm9 hc9 hu9 hr9 z13 r0 r1 r2 r3 r4 r5 l4 g4 l5 g5 HM8 HC8
                    refine startIn_ (n := 8) (S := fun w' => w'.cell? ⟨wv.heap.size, 0, none⟩ = some (.slice Au8 nu8 cu8) ∧ w'.cell? ad = some (.int .i64 y.f0) ∧ w'.cell? ⟨ad.block, ad.off + 1, none⟩ = some (.string y.f1) ∧ w'.cell? ⟨ad.block, ad.off + 2, none⟩ = some (.string y.f2) ∧ w'.cell? ⟨ad.block, ad.off + 3, none⟩ = some (.int .i64 y.f3) ∧ w'.cell? ⟨ad.block, ad.off + 4, none⟩ = some (.slice A4 y.f4.length c4) ∧ w'.cell? ⟨ad.block, ad.off + 5, none⟩ = some (.slice A5 y.f5.length c5)) (ds := [6, 7]) #[false, false, false, false, false, false, false, false] (by kernel_rfl) (by kernel_rfl) (by rintro ⟨a, w', h⟩; exact Exit.noConfusion (EndR.eq (show EndR w w1 w2 wv W pre x Exit.outgrown w' from h))) rfl rfl (by rw [hwd]; exact hs19) (fun hHeld => ?_)
                    rw [hwd] at hHeld ⊢
                    clear hs19 hwd
                    refine take_ (i := 0) (N := some 77) (v := ?_) (a' := ?_) #[true, false, false, false, false, false, false, false] rfl rfl (by kernel_rfl) (fun _ _ _ h => h) (Or.inl ⟨by rfl, ?_⟩) hHeld ?_ ?_
                    rotate_left
                    · rintro w' ⟨s0, s1, s2, s3, s4, s5, s6⟩
                      go_simp
                      with_reducible rfl
                    rotate_left
                    · simp only [Act.put, List.setIfInBounds_toArray, List.set_cons_zero, List.set_cons_succ, i64_w, i32_w]
                      rfl
                    refine pure_ (i := 1) (N := some 78) (v := ?_) (a' := ?_) #[true, true, false, false, false, false, false, false] rfl rfl (by kernel_rfl) (fun _ _ _ h => h) (Or.inl ⟨by rfl, ?_⟩) ?_ ?_
                    rotate_left
                    · intro w'
                      go_simp
                      with_reducible rfl
                    rotate_left
                    · simp only [Act.put, List.setIfInBounds_toArray, List.set_cons_zero, List.set_cons_succ, i64_w, i32_w]
                      rfl
                    refine pure_ (i := 2) (N := some 79) (v := ?_) (a' := ?_) #[true, true, true, false, false, false, false, false] rfl rfl (by kernel_rfl) (fun _ _ _ h => h) (Or.inl ⟨by rfl, ?_⟩) ?_ ?_
                    rotate_left
                    · intro w'
                      go_simp
                      with_reducible rfl
                    rotate_left
                    · simp only [Act.put, List.setIfInBounds_toArray, List.set_cons_zero, List.set_cons_succ, i64_w, i32_w]
                      rfl
                    refine take_ (i := 3) (N := some 80) (v := ?_) (a' := ?_) #[true, true, true, true, false, false, false, false] rfl rfl (by kernel_rfl) (fun _ _ _ h => h) (Or.inl ⟨by rfl, ?_⟩) hHeld ?_ ?_
                    rotate_left
                    · rintro w' ⟨s0, s1, s2, s3, s4, s5, s6⟩
                      go_simp
                      with_reducible rfl
                    rotate_left
                    · simp only [Act.put, List.setIfInBounds_toArray, List.set_cons_zero, List.set_cons_succ, i64_w, i32_w]
                      rfl
                    refine one_ (i := 4) (N := some 81) #[true, true, true, true, true, false, false, false] rfl rfl (by kernel_rfl) (by decide) (fun K hK => ?_)
                    refine goes_ Tryd.func24 (by kernel_rfl) rfl #[.agg #[.int .i64 y.f0, .string y.f1, .string y.f2, .int .i64 y.f3, .slice A4 y.f4.length c4, .slice A5 y.f5.length c5]] (by rfl) rfl rfl (by (try simp only [List.map_toArray, List.map_cons, List.map_nil]); first | done | rfl) ?_
                    refine (patch_twin.calls y.f0 y.f1 y.f2 y.f3 A4 c4 y.f4 A5 c5 y.f5 y.f0 y.f1 y.f2 y.f3 y.f4 y.f5 wd HG4.out HL4.out HG5.out HL5.out (twin_is HSM.out)).mono ?_
                    rintro e w9 ⟨v4, v5, rfl, hr4, hr5, hb9⟩
                    refine ⟨_, rfl, ?_⟩
                    have hu9 := blk_below HU9.out hb9
                    have hr9 := Kd.S_below HR9.out hb9
                    have hr9' := Kd.S_mono (ok' := fun k => True ∧ ¬ wd.heap.size ≤ k) (Kd.S_old HR9.out hb9) (fun k hk => ⟨trivial, by have := hk.2; omega⟩)
                    have HR9X := Aside0.mk hr9'
                    clear hr9'
                    have hs9 := hb9.size
                    have HM10 := Aside0.mk (HM9.out.below hb9)
                    have HC10 := Aside0.mk (HC9.out.trans (Chg.below hb9))
                    have hfr : ∀ k, wd.heap.size ≤ k → True ∧ some k ≠ (Value.slice Au8 nu8 cu8).ownBlock := fun k hk => ⟨trivial, fun e => by
                      obtain ⟨_, inner, ho2, _⟩ := Kd.S_R HR9.out
                      have := own_lt ho2 k e.symm
                      omega⟩
                    have hk4' := Kd.R_lower (Kd.R_mono (ok' := fun k => wd.heap.size ≤ k) (Kd.R_bound hr4) (fun k hk => hk.2.1)) (show w2.heap.size ≤ wd.heap.size by omega)
                    have hk5' := Kd.R_lower (Kd.R_mono (ok' := fun k => wd.heap.size ≤ k) (Kd.R_bound hr5) (fun k hk => hk.2.1)) (show w2.heap.size ≤ wd.heap.size by omega)
                    have HKM := Aside0.mk (k27_mkM w9 w2.heap.size (fun k => wd.heap.size ≤ k) y hk4' hk5')
                    have HFR := Aside0.mk hfr
                    have hs20 := s19_below hHeld hb9
                    have HU10 := Aside0.mk hu9
                    have HR10 := Aside0.mk hr9
                    clear hu9 hr9 hr4 hr5 hb9 hk4' hk5' hfr
                    refine hK.out _ _ hs20 (fun hHeld => ?_)
                    clear hK K hs20
                    refine norm_ (a' := ?_) ?_ ?_
                    rotate_left
                    · show Act.put _ (some 81) _ = _
                      simp only [Act.put, List.setIfInBounds_toArray, List.set_cons_zero, List.set_cons_succ, i64_w, i32_w]
                      rfl
                    refine one_ (i := 5) (N := some 82) #[true, true, true, true, true, true, false, false] rfl rfl (by kernel_rfl) (by decide) (fun K hK => ?_)
                    have hs21 := s19_below hHeld ((Below.refl w9.heap.size w9).alloc (Nat.le_refl _) (.cells #[.int .i64 y.f0, .string y.f1, .string y.f2, .int .i64 y.f3, v4, v5] 27))
                    refine value_ (v := .slice (some ⟨w9.heap.size, 0, none⟩) 1 1) (w1 := w9.alloc (.cells #[.int .i64 y.f0, .string y.f1, .string y.f2, .int .i64 y.f3, v4, v5] 27)) (by rfl) rfl ?_ ?_
                    · go_simp
                      try rfl
                    refine hK.out _ _ hs21 (fun hHeld => ?_)
                    clear hK K hs21
                    refine norm_ (a' := ?_) ?_ ?_
                    rotate_left
                    · show Act.put _ (some 82) _ = _
                      simp only [Act.put, List.setIfInBounds_toArray, List.set_cons_zero, List.set_cons_succ, i64_w, i32_w]
                      rfl
                    refine last_ (i := 6) (N := some 83) #[true, true, true, true, true, true, true, false] rfl rfl (by kernel_rfl) (by decide) (fun K hK => ?_)
                    refine Kd.S_append_step k27 (w0 := w9) w2.heap.size (by rfl) (.tmp 77) (.tmp 82) 22 27 (.agg #[.int .i64 0, .string ⟨#[]⟩, .string ⟨#[]⟩, .int .i64 0, .slice none 0 0, .slice none 0 0]) 96 rfl Tryd.underlying22 infoIt rfl (by decide) (by decide) (.slice Au8 nu8 cu8) S0.2.1 y [.int .i64 y.f0, .string y.f1, .string y.f2, .int .i64 y.f3, v4, v5] (fun _ => True) (fun k => wd.heap.size ≤ k) rfl rfl HKM.out HFR.out (fun _ _ => trivial) HR9X.out (Below.refl _ _) (by omega) (by show (S0.2.1.length + 1) * 96 ≤ _; omega) ?_
                    intro v10 w10 hr10 _hb hg10 _hat
                    obtain ⟨Av10, nv10, cv10, hv10⟩ := R_slice3 (Kd.S_R hr10)
                    subst hv10
                    have hb10 : w10.heap[wv.heap.size]? = some (.cells #[.slice Au8 nu8 cu8] 22 (0, 0)) := (hg10.block _ (blk_lt HU10.out) (own_ne_blk (Kd.S_R HR10.out) HU10.out (fun cs e => by injection e with _ e; cases e))).trans HU10.out
                    have d10 : w10.cell? ⟨wv.heap.size, 0, none⟩ = some (.slice Au8 nu8 cu8) := blk_cell hb10 0
                    have f10 := blk_frozen hb10 0
                    have HM11 := Aside0.mk (HM10.out.item HU10.out HR10.out hr10 hwB hg10 (by omega) (by omega) (by omega) (by omega))
                    have HC11 := Aside0.mk (HC10.out.trans ((Chg.grown (Kd.S_R HR10.out) (Nat.le_refl _) (.inl rfl) hg10).trans (Chg.set (.inl rfl) 0 (.slice Av10 nv10 cv10))))
                    clear hr10 _hb hg10 _hat hb10
                    refine hK.out _ _ ?_
                    clear hK K hHeld
                    refine norm_ (a' := ?_) ?_ ?_
                    rotate_left
                    · show Act.put _ (some 83) _ = _
                      simp only [Act.put, List.setIfInBounds_toArray, List.set_cons_zero, List.set_cons_succ, i64_w, i32_w]
                      rfl
                    refine last_ (i := 7) (N := none) #[true, true, true, true, true, true, true, true] rfl rfl (by kernel_rfl) (by decide) (fun K hK => ?_)
                    refine skip_ (w1 := w10.setCell ⟨wv.heap.size, 0, none⟩ (.slice Av10 nv10 cv10)) (by rfl) rfl ?_ ?_
                    · go_simp
                    refine hK.out _ _ ?_
                    clear hK K
                    refine done_ (by kernel_rfl) ?_
                    exact FIN.out _ (HQ.out ▸ HM11.out) HC11.out
                  · have b5 : (k2 != 1) = true := bne_iff_ne.2 hk1'
                    have HK4 := Aside0.mk hk1'
                    clear hk1'
                    refine wpIn_region_quiet (by kernel_rfl) (by kernel_rfl) (by kernel_rfl) (by rintro ⟨a, w', h⟩; exact Exit.noConfusion (EndR.eq (show EndR w w1 w2 wv W pre x Exit.outgrown w' from h))) ?_
                    repeat (go_big_quiet_step (fail))
                    refine wpQuiet_nil ?_
                    rintro _ ⟨nq3, rfl⟩
                    clear hlk y15 r0 r2
                    have hdr := pw_below_drewN (Below.refl Wt.heap.size Wt) nq3
                    have hm_ := HMt.out.below hdr
                    have hc_ := HCt.out.trans (Chg.below hdr)
                    obtain ⟨Wu, hWu⟩ : ∃ Wu, Wt.drewN nq3 = Wu := ⟨_, rfl⟩
                    rw [hWu] at hm_ hc_ ⊢
                    have HMu := Aside0.mk hm_
                    have HCu := Aside0.mk hc_
                    clear hWu hm_ hc_ hdr HMt HCt
                    have HQ : Aside0 (mstepQ S0 at_ (some y) = (S0.1, S0.2.1, S0.2.2 ++ [⟨3, at_⟩])) := ⟨by unfold mstepQ; dsimp only; rw [if_neg (fun h => h (HKU.out.trans HK2.out)), if_pos ⟨HF4.out, fun h => HK4.out (HK3.out.symm.trans h)⟩]⟩
                    obtain ⟨u2, hu2, hru2⟩ := HMu.out.confl
                    obtain ⟨Au2, nu2, cu2, hv2⟩ := R_slice3 hru2
                    subst hv2
                    have c2 : Wu.cell? ⟨wv.heap.size + 1, 0, none⟩ = some (.slice Au2 nu2 cu2) := blk_cell hu2 0
                    have HU2 := Aside0.mk hu2
                    have HRU2 := Aside0.mk hru2
                    have hsz2 := HCu.out.size
                    clear hu2 hru2
                    gi_wp2_with (gi_at_builtin; refine appendIn k38 (w0 := Wu) w2.heap.size rfl (.tmp 115) (.tmp 118) 29 38 (.agg #[.int .i64 0, .string ⟨#[]⟩]) 24 rfl Tryd.underlying29 infoCf rfl (by decide) (by decide) (.slice Au2 nu2 cu2) S0.2.2 ⟨3, at_⟩ [.int .i64 3, .string at_] (fun _ => True) (fun _ => False) rfl rfl (k38_mkM _ _ _ ⟨3, at_⟩) (fun _ h => h.elim) (fun _ _ => trivial) HRU2.out (Below.refl _ _) (by omega) (by omega) ?_; intro v2 w2_ hr2 _hb hg2 _hat; obtain ⟨Av2, nv2, cv2, hv2⟩ := R_slice3 hr2; subst hv2; have hb2 : w2_.heap[(wv.heap.size + 1)]? = some (.cells #[.slice Au2 nu2 cu2] 29 (0, 0)) := (hg2.block _ (blk_lt HU2.out) (own_ne_blk HRU2.out HU2.out (fun cs e => by injection e with _ e; cases e))).trans HU2.out; have d2 : w2_.cell? ⟨wv.heap.size + 1, 0, none⟩ = some (.slice Au2 nu2 cu2) := blk_cell hb2 0; have f2 := blk_frozen hb2 0; have HM2 := Aside0.mk (HMu.out.conflict HU2.out HRU2.out hr2 hwB hg2 (by omega) (by omega) (by omega) (by omega)); have HC2 := Aside0.mk (HCu.out.trans ((Chg.grown HRU2.out (Nat.le_refl _) (.inr rfl) hg2).trans (Chg.set (.inr rfl) 0 (.slice Av2 nv2 cv2)))); clear hr2 _hb hg2 _hat hb2)
                    exact FIN.out _ (HQ.out ▸ HM2.out.more (by omega)) HC2.out
                · have b4 : (y.f0 == 4) = false := beq_eq_false_iff_ne.2 hf4
                  have HF4 := Aside0.mk hf4
                  clear hf4
                  have hoi := HOI0.out.below HMt.out.low
                  obtain ⟨ad', A4, c4, A5, c5, e, r0, r1, r2, r3, r4, r5, l4, g4, l5, g5⟩ := hoi
                  injection e with e
                  obtain rfl := Option.some.inj e
                  clear e r1 r3 r4 r5 l4 g4 l5 g5
                  have y15 : Wt.cell? ⟨w1.heap.size, 0, none⟩ = some (.map (some (wv.heap.size + 1 + 1))) := blk_cell HMt.out.box 0
                  refine wpIn_region_quiet (by kernel_rfl) (by kernel_rfl) (by kernel_rfl) (by rintro ⟨a, w', h⟩; exact Exit.noConfusion (EndR.eq (show EndR w w1 w2 wv W pre x Exit.outgrown w' from h))) ?_
                  repeat (go_big_quiet_step (fail))
                  refine wpQuiet_nil ?_
                  rintro _ ⟨nq3, rfl⟩
                  clear y15 r0 r2
                  have hdr := pw_below_drewN (Below.refl Wt.heap.size Wt) nq3
                  have hm_ := HMt.out.below hdr
                  have hc_ := HCt.out.trans (Chg.below hdr)
                  obtain ⟨Wu, hWu⟩ : ∃ Wu, Wt.drewN nq3 = Wu := ⟨_, rfl⟩
                  rw [hWu] at hm_ hc_ ⊢
                  have HMu := Aside0.mk hm_
                  have HCu := Aside0.mk hc_
                  clear hWu hm_ hc_ hdr HMt HCt
                  gi_wp2_with fail
                  have HQ : Aside0 (mstepQ S0 at_ (some y) = ((at_, y.f0) :: S0.1, S0.2.1 ++ [y], S0.2.2)) := ⟨by unfold mstepQ; dsimp only; rw [if_neg (fun h => h (HKU.out.trans HK2.out)), if_neg (fun h => HF4.out h.1)]⟩
                  have hoi := HOI0.out.below HMu.out.low
                  obtain ⟨ad', A4, c4, A5, c5, e, r0, r1, r2, r3, r4, r5, l4, g4, l5, g5⟩ := hoi
                  injection e with e
                  obtain rfl := Option.some.inj e
                  clear e
                  have hdr := below_drew (Below.refl Wu.heap.size Wu)
                  obtain ⟨w8, hrun8, hm8, hg8⟩ := (HMu.out.below hdr).enter at_ y.f0 hsw (by omega) (by omega) (by omega) (by omega)
                  have z15 : Wu.cell? ⟨w1.heap.size, 0, none⟩ = some (.map (some (wv.heap.size + 1 + 1))) := blk_cell HMu.out.box 0
                  have HM8 := Aside0.mk hm8
                  have HC8 := Aside0.mk ((HCu.out.trans (Chg.below hdr)).trans (Chg.map hg8))
                  have hsz8 : Wu.heap.size ≤ w8.heap.size := hg8.size
                  have hszu := HCu.out.size
                  have HRUN8 := Aside0.mk hrun8
                  have hs18 : Wu.drew.cell? ⟨w1.heap.size, 0, none⟩ = some (.map (some (wv.heap.size + 1 + 1))) ∧ Wu.drew.cell? ad = some (.int .i64 y.f0) := ⟨pw_cell_below hdr z15, pw_cell_below hdr r0⟩
                  clear hrun8 hg8 hm8 hdr HMu HCu
                  refine startIn_ (n := 7) (S := fun w' => w'.cell? ⟨w1.heap.size, 0, none⟩ = some (.map (some (wv.heap.size + 1 + 1))) ∧ w'.cell? ad = some (.int .i64 y.f0)) (ds := [6]) #[false, false, false, false, false, false, false] (by kernel_rfl) (by kernel_rfl) (by rintro ⟨a, w', h⟩; exact Exit.noConfusion (EndR.eq (show EndR w w1 w2 wv W pre x Exit.outgrown w' from h))) rfl rfl hs18 (fun hHeld => ?_)
                  clear hs18 z15 r0 r1 r2 r3 r4 r5 l4 g4 l5 g5
                  refine take_ (i := 0) (N := some 71) (v := ?_) (a' := ?_) #[true, false, false, false, false, false, false] rfl rfl (by kernel_rfl) (fun _ _ _ h => h) (Or.inl ⟨by rfl, ?_⟩) hHeld ?_ ?_
                  rotate_left
                  · rintro w' ⟨s0, s1⟩
                    go_simp
                    with_reducible rfl
                  rotate_left
                  · simp only [Act.put, List.setIfInBounds_toArray, List.set_cons_zero, List.set_cons_succ, i64_w, i32_w]
                    rfl
                  refine pure_ (i := 1) (N := some 72) (v := ?_) (a' := ?_) #[true, true, false, false, false, false, false] rfl rfl (by kernel_rfl) (fun _ _ _ h => h) (Or.inl ⟨by rfl, ?_⟩) ?_ ?_
                  rotate_left
                  · intro w'
                    go_simp
                    with_reducible rfl
                  rotate_left
                  · simp only [Act.put, List.setIfInBounds_toArray, List.set_cons_zero, List.set_cons_succ, i64_w, i32_w]
                    rfl
                  refine pure_ (i := 2) (N := some 73) (v := ?_) (a' := ?_) #[true, true, true, false, false, false, false] rfl rfl (by kernel_rfl) (fun _ _ _ h => h) (Or.inl ⟨by rfl, ?_⟩) ?_ ?_
                  rotate_left
                  · intro w'
                    go_simp
                    with_reducible rfl
                  rotate_left
                  · simp only [Act.put, List.setIfInBounds_toArray, List.set_cons_zero, List.set_cons_succ, i64_w, i32_w]
                    rfl
                  refine pure_ (i := 3) (N := some 74) (v := ?_) (a' := ?_) #[true, true, true, true, false, false, false] rfl rfl (by kernel_rfl) (fun _ _ _ h => h) (Or.inl ⟨by rfl, ?_⟩) ?_ ?_
                  rotate_left
                  · intro w'
                    go_simp
                    with_reducible rfl
                  rotate_left
                  · simp only [Act.put, List.setIfInBounds_toArray, List.set_cons_zero, List.set_cons_succ, i64_w, i32_w]
                    rfl
                  refine pure_ (i := 4) (N := some 75) (v := ?_) (a' := ?_) #[true, true, true, true, true, false, false] rfl rfl (by kernel_rfl) (fun _ _ _ h => h) (Or.inl ⟨by rfl, ?_⟩) ?_ ?_
                  rotate_left
                  · intro w'
                    go_simp
                    with_reducible rfl
                  rotate_left
                  · simp only [Act.put, List.setIfInBounds_toArray, List.set_cons_zero, List.set_cons_succ, i64_w, i32_w]
                    rfl
                  refine take_ (i := 5) (N := some 76) (v := ?_) (a' := ?_) #[true, true, true, true, true, true, false] rfl rfl (by kernel_rfl) (fun _ _ _ h => h) (Or.inl ⟨by rfl, ?_⟩) hHeld ?_ ?_
                  rotate_left
                  · rintro w' ⟨s0, s1⟩
                    go_simp
                    with_reducible rfl
                  rotate_left
                  · simp only [Act.put, List.setIfInBounds_toArray, List.set_cons_zero, List.set_cons_succ, i64_w, i32_w]
                    rfl
                  refine last_ (i := 6) (N := none) #[true, true, true, true, true, true, true] rfl rfl (by kernel_rfl) (by decide) (fun K hK => ?_)
                  refine skip_ (w1 := w8) (by rfl) rfl ?_ ?_
                  · have hr := HRUN8.out
                    first | (go_simp; done) | (simp [execOp, go_sem, hr, Result.andThen]; done)
                  refine hK.out _ _ ?_
                  clear hK K hHeld HRUN8
                  refine done_ (by kernel_rfl) ?_
                  gi_wp2_with fail
                  obtain ⟨u8, hu8, hru8⟩ := HM8.out.items
                  obtain ⟨Au8, nu8, cu8, hv8⟩ := R_slice3 (Kd.S_R hru8)
                  subst hv8
                  have hdr := below_drew (Below.refl w8.heap.size w8)
                  obtain ⟨wd, hwd⟩ : ∃ wd, w8.drew = wd := ⟨_, rfl⟩
                  have hm9 := HM8.out.below hdr
                  have hc9 := HC8.out.trans (Chg.below hdr)
                  have hu9 := blk_below hu8 hdr
                  have hr9 := Kd.S_below hru8 hdr
                  rw [hwd] at hm9 hc9 hu9 hr9
                  have hoi := HOI0.out.below hm9.low
                  obtain ⟨ad', A4, c4, A5, c5, e, r0, r1, r2, r3, r4, r5, l4, g4, l5, g5⟩ := hoi
                  injection e with e
                  obtain rfl := Option.some.inj e
                  clear e
                  have z13 : wd.cell? ⟨wv.heap.size, 0, none⟩ = some (.slice Au8 nu8 cu8) := blk_cell hu9 0
                  have hs19 : wd.cell? ⟨wv.heap.size, 0, none⟩ = some (.slice Au8 nu8 cu8) ∧ wd.cell? ad = some (.int .i64 y.f0) ∧ wd.cell? ⟨ad.block, ad.off + 1, none⟩ = some (.string y.f1) ∧ wd.cell? ⟨ad.block, ad.off + 2, none⟩ = some (.string y.f2) ∧ wd.cell? ⟨ad.block, ad.off + 3, none⟩ = some (.int .i64 y.f3) ∧ wd.cell? ⟨ad.block, ad.off + 4, none⟩ = some (.slice A4 y.f4.length c4) ∧ wd.cell? ⟨ad.block, ad.off + 5, none⟩ = some (.slice A5 y.f5.length c5) := ⟨z13, r0, r1, r2, r3, r4, r5⟩
                  have hszd : w8.heap.size ≤ wd.heap.size := by rw [← hwd]; exact hdr.size
                  have HS19 := Aside0.mk hs19
                  have HM9 := Aside0.mk hm9
                  have HC9 := Aside0.mk hc9
                  have HU9 := Aside0.mk hu9
                  have HR9 := Aside0.mk hr9
                  have HL4 := Aside0.mk l4
                  have HL5 := Aside0.mk l5
                  have HG4 := Aside0.mk g4
                  have HG5 := Aside0.mk g5
                  clear hu8 hru8 hdr hm9 hc9 hu9 hr9 z13 r0 r1 r2 r3 r4 r5 l4 g4 l5 g5 HM8 HC8
                  refine startIn_ (n := 8) (S := fun w' => w'.cell? ⟨wv.heap.size, 0, none⟩ = some (.slice Au8 nu8 cu8) ∧ w'.cell? ad = some (.int .i64 y.f0) ∧ w'.cell? ⟨ad.block, ad.off + 1, none⟩ = some (.string y.f1) ∧ w'.cell? ⟨ad.block, ad.off + 2, none⟩ = some (.string y.f2) ∧ w'.cell? ⟨ad.block, ad.off + 3, none⟩ = some (.int .i64 y.f3) ∧ w'.cell? ⟨ad.block, ad.off + 4, none⟩ = some (.slice A4 y.f4.length c4) ∧ w'.cell? ⟨ad.block, ad.off + 5, none⟩ = some (.slice A5 y.f5.length c5)) (ds := [6, 7]) #[false, false, false, false, false, false, false, false] (by kernel_rfl) (by kernel_rfl) (by rintro ⟨a, w', h⟩; exact Exit.noConfusion (EndR.eq (show EndR w w1 w2 wv W pre x Exit.outgrown w' from h))) rfl rfl (by rw [hwd]; exact hs19) (fun hHeld => ?_)
                  rw [hwd] at hHeld ⊢
                  clear hs19 hwd
                  refine take_ (i := 0) (N := some 77) (v := ?_) (a' := ?_) #[true, false, false, false, false, false, false, false] rfl rfl (by kernel_rfl) (fun _ _ _ h => h) (Or.inl ⟨by rfl, ?_⟩) hHeld ?_ ?_
                  rotate_left
                  · rintro w' ⟨s0, s1, s2, s3, s4, s5, s6⟩
                    go_simp
                    with_reducible rfl
                  rotate_left
                  · simp only [Act.put, List.setIfInBounds_toArray, List.set_cons_zero, List.set_cons_succ, i64_w, i32_w]
                    rfl
                  refine pure_ (i := 1) (N := some 78) (v := ?_) (a' := ?_) #[true, true, false, false, false, false, false, false] rfl rfl (by kernel_rfl) (fun _ _ _ h => h) (Or.inl ⟨by rfl, ?_⟩) ?_ ?_
                  rotate_left
                  · intro w'
                    go_simp
                    with_reducible rfl
                  rotate_left
                  · simp only [Act.put, List.setIfInBounds_toArray, List.set_cons_zero, List.set_cons_succ, i64_w, i32_w]
                    rfl
                  refine pure_ (i := 2) (N := some 79) (v := ?_) (a' := ?_) #[true, true, true, false, false, false, false, false] rfl rfl (by kernel_rfl) (fun _ _ _ h => h) (Or.inl ⟨by rfl, ?_⟩) ?_ ?_
                  rotate_left
                  · intro w'
                    go_simp
                    with_reducible rfl
                  rotate_left
                  · simp only [Act.put, List.setIfInBounds_toArray, List.set_cons_zero, List.set_cons_succ, i64_w, i32_w]
                    rfl
                  refine take_ (i := 3) (N := some 80) (v := ?_) (a' := ?_) #[true, true, true, true, false, false, false, false] rfl rfl (by kernel_rfl) (fun _ _ _ h => h) (Or.inl ⟨by rfl, ?_⟩) hHeld ?_ ?_
                  rotate_left
                  · rintro w' ⟨s0, s1, s2, s3, s4, s5, s6⟩
                    go_simp
                    with_reducible rfl
                  rotate_left
                  · simp only [Act.put, List.setIfInBounds_toArray, List.set_cons_zero, List.set_cons_succ, i64_w, i32_w]
                    rfl
                  refine one_ (i := 4) (N := some 81) #[true, true, true, true, true, false, false, false] rfl rfl (by kernel_rfl) (by decide) (fun K hK => ?_)
                  refine goes_ Tryd.func24 (by kernel_rfl) rfl #[.agg #[.int .i64 y.f0, .string y.f1, .string y.f2, .int .i64 y.f3, .slice A4 y.f4.length c4, .slice A5 y.f5.length c5]] (by rfl) rfl rfl (by (try simp only [List.map_toArray, List.map_cons, List.map_nil]); first | done | rfl) ?_
                  refine (patch_twin.calls y.f0 y.f1 y.f2 y.f3 A4 c4 y.f4 A5 c5 y.f5 y.f0 y.f1 y.f2 y.f3 y.f4 y.f5 wd HG4.out HL4.out HG5.out HL5.out (twin_is HSM.out)).mono ?_
                  rintro e w9 ⟨v4, v5, rfl, hr4, hr5, hb9⟩
                  refine ⟨_, rfl, ?_⟩
                  have hu9 := blk_below HU9.out hb9
                  have hr9 := Kd.S_below HR9.out hb9
                  have hr9' := Kd.S_mono (ok' := fun k => True ∧ ¬ wd.heap.size ≤ k) (Kd.S_old HR9.out hb9) (fun k hk => ⟨trivial, by have := hk.2; omega⟩)
                  have HR9X := Aside0.mk hr9'
                  clear hr9'
                  have hs9 := hb9.size
                  have HM10 := Aside0.mk (HM9.out.below hb9)
                  have HC10 := Aside0.mk (HC9.out.trans (Chg.below hb9))
                  have hfr : ∀ k, wd.heap.size ≤ k → True ∧ some k ≠ (Value.slice Au8 nu8 cu8).ownBlock := fun k hk => ⟨trivial, fun e => by
                    obtain ⟨_, inner, ho2, _⟩ := Kd.S_R HR9.out
                    have := own_lt ho2 k e.symm
                    omega⟩
                  have hk4' := Kd.R_lower (Kd.R_mono (ok' := fun k => wd.heap.size ≤ k) (Kd.R_bound hr4) (fun k hk => hk.2.1)) (show w2.heap.size ≤ wd.heap.size by omega)
                  have hk5' := Kd.R_lower (Kd.R_mono (ok' := fun k => wd.heap.size ≤ k) (Kd.R_bound hr5) (fun k hk => hk.2.1)) (show w2.heap.size ≤ wd.heap.size by omega)
                  have HKM := Aside0.mk (k27_mkM w9 w2.heap.size (fun k => wd.heap.size ≤ k) y hk4' hk5')
                  have HFR := Aside0.mk hfr
                  have hs20 := s19_below hHeld hb9
                  have HU10 := Aside0.mk hu9
                  have HR10 := Aside0.mk hr9
                  clear hu9 hr9 hr4 hr5 hb9 hk4' hk5' hfr
                  refine hK.out _ _ hs20 (fun hHeld => ?_)
                  clear hK K hs20
                  refine norm_ (a' := ?_) ?_ ?_
                  rotate_left
                  · show Act.put _ (some 81) _ = _
                    simp only [Act.put, List.setIfInBounds_toArray, List.set_cons_zero, List.set_cons_succ, i64_w, i32_w]
                    rfl
                  refine one_ (i := 5) (N := some 82) #[true, true, true, true, true, true, false, false] rfl rfl (by kernel_rfl) (by decide) (fun K hK => ?_)
                  have hs21 := s19_below hHeld ((Below.refl w9.heap.size w9).alloc (Nat.le_refl _) (.cells #[.int .i64 y.f0, .string y.f1, .string y.f2, .int .i64 y.f3, v4, v5] 27))
                  refine value_ (v := .slice (some ⟨w9.heap.size, 0, none⟩) 1 1) (w1 := w9.alloc (.cells #[.int .i64 y.f0, .string y.f1, .string y.f2, .int .i64 y.f3, v4, v5] 27)) (by rfl) rfl ?_ ?_
                  · go_simp
                    try rfl
                  refine hK.out _ _ hs21 (fun hHeld => ?_)
                  clear hK K hs21
                  refine norm_ (a' := ?_) ?_ ?_
                  rotate_left
                  · show Act.put _ (some 82) _ = _
                    simp only [Act.put, List.setIfInBounds_toArray, List.set_cons_zero, List.set_cons_succ, i64_w, i32_w]
                    rfl
                  refine last_ (i := 6) (N := some 83) #[true, true, true, true, true, true, true, false] rfl rfl (by kernel_rfl) (by decide) (fun K hK => ?_)
                  refine Kd.S_append_step k27 (w0 := w9) w2.heap.size (by rfl) (.tmp 77) (.tmp 82) 22 27 (.agg #[.int .i64 0, .string ⟨#[]⟩, .string ⟨#[]⟩, .int .i64 0, .slice none 0 0, .slice none 0 0]) 96 rfl Tryd.underlying22 infoIt rfl (by decide) (by decide) (.slice Au8 nu8 cu8) S0.2.1 y [.int .i64 y.f0, .string y.f1, .string y.f2, .int .i64 y.f3, v4, v5] (fun _ => True) (fun k => wd.heap.size ≤ k) rfl rfl HKM.out HFR.out (fun _ _ => trivial) HR9X.out (Below.refl _ _) (by omega) (by show (S0.2.1.length + 1) * 96 ≤ _; omega) ?_
                  intro v10 w10 hr10 _hb hg10 _hat
                  obtain ⟨Av10, nv10, cv10, hv10⟩ := R_slice3 (Kd.S_R hr10)
                  subst hv10
                  have hb10 : w10.heap[wv.heap.size]? = some (.cells #[.slice Au8 nu8 cu8] 22 (0, 0)) := (hg10.block _ (blk_lt HU10.out) (own_ne_blk (Kd.S_R HR10.out) HU10.out (fun cs e => by injection e with _ e; cases e))).trans HU10.out
                  have d10 : w10.cell? ⟨wv.heap.size, 0, none⟩ = some (.slice Au8 nu8 cu8) := blk_cell hb10 0
                  have f10 := blk_frozen hb10 0
                  have HM11 := Aside0.mk (HM10.out.item HU10.out HR10.out hr10 hwB hg10 (by omega) (by omega) (by omega) (by omega))
                  have HC11 := Aside0.mk (HC10.out.trans ((Chg.grown (Kd.S_R HR10.out) (Nat.le_refl _) (.inl rfl) hg10).trans (Chg.set (.inl rfl) 0 (.slice Av10 nv10 cv10))))
                  clear hr10 _hb hg10 _hat hb10
                  refine hK.out _ _ ?_
                  clear hK K hHeld
                  refine norm_ (a' := ?_) ?_ ?_
                  rotate_left
                  · show Act.put _ (some 83) _ = _
                    simp only [Act.put, List.setIfInBounds_toArray, List.set_cons_zero, List.set_cons_succ, i64_w, i32_w]
                    rfl
                  refine last_ (i := 7) (N := none) #[true, true, true, true, true, true, true, true] rfl rfl (by kernel_rfl) (by decide) (fun K hK => ?_)
                  refine skip_ (w1 := w10.setCell ⟨wv.heap.size, 0, none⟩ (.slice Av10 nv10 cv10)) (by rfl) rfl ?_ ?_
                  · go_simp
                  refine hK.out _ _ ?_
                  clear hK K
                  refine done_ (by kernel_rfl) ?_
                  exact FIN.out _ (HQ.out ▸ HM11.out) HC11.out
              · have hk2b : (kd != 2) = true := bne_iff_ne.2 hk2
                have HK2 := Aside0.mk hk2
                clear hk2
                refine wpIn_region_quiet (by kernel_rfl) (by kernel_rfl) (by kernel_rfl) (by rintro ⟨a, w', h⟩; exact Exit.noConfusion (EndR.eq (show EndR w w1 w2 wv W pre x Exit.outgrown w' from h))) ?_
                repeat (go_big_quiet_step ((go_at_call 23; exact HCL.out _)))
                refine wpQuiet_nil ?_
                rintro _ ⟨nq2, rfl⟩
                clear hlk HCL y15
                have hdr := pw_below_drewN (Below.refl Ws.heap.size Ws) nq2
                have hm_ := HMs.out.below hdr
                have hc_ := HCs.out.trans (Chg.below hdr)
                obtain ⟨Wt, hWt⟩ : ∃ Wt, Ws.drewN nq2 = Wt := ⟨_, rfl⟩
                rw [hWt] at hm_ hc_ ⊢
                have HMt := Aside0.mk hm_
                have HCt := Aside0.mk hc_
                clear hWt hm_ hc_ hdr HMs HCs
                have HQ : Aside0 (mstepQ S0 at_ (some y) = (S0.1, S0.2.1, S0.2.2 ++ [⟨2, at_⟩])) := ⟨by unfold mstepQ; dsimp only; rw [if_pos (fun h => HK2.out (HKU.out.symm.trans h))]⟩
                obtain ⟨u3, hu3, hru3⟩ := HMt.out.confl
                obtain ⟨Au3, nu3, cu3, hv3⟩ := R_slice3 hru3
                subst hv3
                have c3 : Wt.cell? ⟨wv.heap.size + 1, 0, none⟩ = some (.slice Au3 nu3 cu3) := blk_cell hu3 0
                have HU3 := Aside0.mk hu3
                have HRU3 := Aside0.mk hru3
                have hsz3 := HCt.out.size
                clear hu3 hru3
                gi_wp2_with (gi_at_builtin; refine appendIn k38 (w0 := Wt) w2.heap.size rfl (.tmp 95) (.tmp 98) 29 38 (.agg #[.int .i64 0, .string ⟨#[]⟩]) 24 rfl Tryd.underlying29 infoCf rfl (by decide) (by decide) (.slice Au3 nu3 cu3) S0.2.2 ⟨2, at_⟩ [.int .i64 2, .string at_] (fun _ => True) (fun _ => False) rfl rfl (k38_mkM _ _ _ ⟨2, at_⟩) (fun _ h => h.elim) (fun _ _ => trivial) HRU3.out (Below.refl _ _) (by omega) (by omega) ?_; intro v3 w3_ hr3 _hb hg3 _hat; obtain ⟨Av3, nv3, cv3, hv3⟩ := R_slice3 hr3; subst hv3; have hb3 : w3_.heap[(wv.heap.size + 1)]? = some (.cells #[.slice Au3 nu3 cu3] 29 (0, 0)) := (hg3.block _ (blk_lt HU3.out) (own_ne_blk HRU3.out HU3.out (fun cs e => by injection e with _ e; cases e))).trans HU3.out; have d3 : w3_.cell? ⟨wv.heap.size + 1, 0, none⟩ = some (.slice Au3 nu3 cu3) := blk_cell hb3 0; have f3 := blk_frozen hb3 0; have HM3 := Aside0.mk (HMt.out.conflict HU3.out HRU3.out hr3 hwB hg3 (by omega) (by omega) (by omega) (by omega)); have HC3 := Aside0.mk (HCt.out.trans ((Chg.grown HRU3.out (Nat.le_refl _) (.inr rfl) hg3).trans (Chg.set (.inr rfl) 0 (.slice Av3 nv3 cv3)))); clear hr3 _hb hg3 _hat hb3)
                exact FIN.out _ (HQ.out ▸ HM3.out.more (by omega)) HC3.out
            | true =>
              have HO0 := HO
              have ho := HO.out
              obtain ⟨ad, A4, c4, A5, c5, e, r0, r1, r2, r3, r4, r5, l4, g4, l5, g5⟩ := ho
              subst e
              have HOI0 : Aside0 (OI w (.pointer (some ad)) (some y)) := HO0
              have HSM := Aside0.mk (HPY.out y rfl).1
              have hk1 := (HPY.out y rfl).2.1
              have hk4 := (HPY.out y rfl).2.2
              clear r0 r1 r2 r3 r4 r5 l4 g4 l5 g5 HO
              have FIN := Aside0.mk (fin_true HI1.out HS0.out HST.out hwB hwv hs3 hsz2 HI1.out.big)
              obtain ⟨u4, hu4, hru4⟩ := HM6.out.confl
              obtain ⟨Au4, nu4, cu4, hv4⟩ := R_slice3 hru4
              subst hv4
              have c4 : W6.cell? ⟨wv.heap.size + 1, 0, none⟩ = some (.slice Au4 nu4 cu4) := blk_cell hu4 0
              have HU4 := Aside0.mk hu4
              have HRU4 := Aside0.mk hru4
              have hsz4 := HC6.out.size
              clear hu4 hru4
              gi_wp2_with (gi_at_builtin; refine appendIn k38 (w0 := W6) w2.heap.size rfl (.tmp 66) (.tmp 69) 29 38 (.agg #[.int .i64 0, .string ⟨#[]⟩]) 24 rfl Tryd.underlying29 infoCf rfl (by decide) (by decide) (.slice Au4 nu4 cu4) S0.2.2 ⟨1, at_⟩ [.int .i64 1, .string at_] (fun _ => True) (fun _ => False) rfl rfl (k38_mkM _ _ _ ⟨1, at_⟩) (fun _ h => h.elim) (fun _ _ => trivial) HRU4.out (Below.refl _ _) (by omega) (by omega) ?_; intro v4 w4_ hr4 _hb hg4 _hat; obtain ⟨Av4, nv4, cv4, hv4⟩ := R_slice3 hr4; subst hv4; have hb4 : w4_.heap[(wv.heap.size + 1)]? = some (.cells #[.slice Au4 nu4 cu4] 29 (0, 0)) := (hg4.block _ (blk_lt HU4.out) (own_ne_blk HRU4.out HU4.out (fun cs e => by injection e with _ e; cases e))).trans HU4.out; have d4 : w4_.cell? ⟨wv.heap.size + 1, 0, none⟩ = some (.slice Au4 nu4 cu4) := blk_cell hb4 0; have f4 := blk_frozen hb4 0; have HM4 := Aside0.mk (HM6.out.conflict HU4.out HRU4.out hr4 hwB hg4 (by omega) (by omega) (by omega) (by omega)); have HC4 := Aside0.mk (HC6.out.trans ((Chg.grown HRU4.out (Nat.le_refl _) (.inr rfl) hg4).trans (Chg.set (.inr rfl) 0 (.slice Av4 nv4 cv4)))); clear hr4 _hb hg4 _hat hb4)
              obtain ⟨Ws, hWs⟩ : ∃ Ws, (w4_.setCell ⟨wv.heap.size + 1, 0, none⟩ (.slice Av4 nv4 cv4)) = Ws := ⟨_, rfl⟩
              have HMs' := HM4.out
              have HCs' := HC4.out
              rw [hWs] at HMs' HCs'
              try rw [hWs]
              have HMs := Aside0.mk HMs'
              have HCs := Aside0.mk HCs'
              clear hWs HMs' HCs' HM4 HC4
              have y15 : Ws.cell? ⟨w1.heap.size, 0, none⟩ = some (.map (some (wv.heap.size + 1 + 1))) := blk_cell HMs.out.box 0
              obtain ⟨kd, hkd⟩ : ∃ c, kget (S0.1, S0.2.1, S0.2.2 ++ [(⟨1, at_⟩ : Cf)]).1 (at_.extract 0 li) = c := ⟨_, rfl⟩
              have hlk : ∀ n, (Instr.lookup 48 (.map (some (wv.heap.size + 1 + 1))) (.string (at_.extract 0 li)) false).run Tryd.prog (Ws.drewN n) = .ok (.int .i64 kd) (Ws.drewN n) := fun n => by
                have h := (HMs.out.kinds.drewN n).look (at_.extract 0 li) (by rw [ByteArray.size_extract]; omega)
                rw [hkd] at h
                exact h
              have hcl : ∀ n : Nat, Calls Tryd.prog 23 #[.string at_, .int .u8 47] (Ws.drewN n) fun e w'' => e = .returned (.int .i64 li) ∧ ∃ m, w'' = Ws.drewN m := fun n => by
                have c := Tryd.strings_LastIndexByte at_ 47 (by omega) (Ws.drewN n)
                rw [HLI.out] at c
                exact c.mono fun e w' h => ⟨h.1, n, h.2⟩
              have HCL := Aside0.mk hcl
              have c1 : (0 : Int) ≤ (li : Int) := by omega
              have c2 : (li : Int) ≤ (at_.size : Int) := by omega
              have hku : kget (S0.1, S0.2.1, S0.2.2 ++ [(⟨1, at_⟩ : Cf)]).1 (dirOf at_) = kd := by rw [HDIR.out]; exact hkd
              have HKU := Aside0.mk hku
              clear hcl hkd hku
              by_cases hk2 : kd = 2
              · have hk2b : (kd != 2) = false := by rw [hk2]; rfl
                have HK2 := Aside0.mk hk2
                clear hk2
                refine wpIn_region_quiet (by kernel_rfl) (by kernel_rfl) (by kernel_rfl) (by rintro ⟨a, w', h⟩; exact Exit.noConfusion (EndR.eq (show EndR w w1 w2 wv W pre x Exit.outgrown w' from h))) ?_
                repeat (go_big_quiet_step ((go_at_call 23; exact HCL.out _)))
                refine wpQuiet_nil ?_
                rintro _ ⟨nq2, rfl⟩
                clear hlk HCL y15
                have hdr := pw_below_drewN (Below.refl Ws.heap.size Ws) nq2
                have hm_ := HMs.out.below hdr
                have hc_ := HCs.out.trans (Chg.below hdr)
                obtain ⟨Wt, hWt⟩ : ∃ Wt, Ws.drewN nq2 = Wt := ⟨_, rfl⟩
                rw [hWt] at hm_ hc_ ⊢
                have HMt := Aside0.mk hm_
                have HCt := Aside0.mk hc_
                clear hWt hm_ hc_ hdr HMs HCs
                gi_wp2_with fail
                by_cases hf4 : y.f0 = 4
                · have b4 : (y.f0 == 4) = true := beq_iff_eq.2 hf4
                  have HF4 := Aside0.mk hf4
                  clear hf4
                  have hoi := HOI0.out.below HMt.out.low
                  obtain ⟨ad', A4, c4, A5, c5, e, r0, r1, r2, r3, r4, r5, l4, g4, l5, g5⟩ := hoi
                  injection e with e
                  obtain rfl := Option.some.inj e
                  clear e r1 r3 r4 r5 l4 g4 l5 g5
                  have y15 : Wt.cell? ⟨w1.heap.size, 0, none⟩ = some (.map (some (wv.heap.size + 1 + 1))) := blk_cell HMt.out.box 0
                  obtain ⟨k2, hk2⟩ : ∃ c, kget (S0.1, S0.2.1, S0.2.2 ++ [(⟨1, at_⟩ : Cf)]).1 y.f2 = c := ⟨_, rfl⟩
                  have hst2 : y.f2.size ≤ 1048576 := HSM.out.t
                  have hlk : ∀ n, (Instr.lookup 48 (.map (some (wv.heap.size + 1 + 1))) (.string y.f2) false).run Tryd.prog (Wt.drewN n) = .ok (.int .i64 k2) (Wt.drewN n) := fun n => by
                    have h := (HMt.out.kinds.drewN n).look y.f2 (by omega)
                    rw [hk2] at h
                    exact h
                  have HK3 := Aside0.mk hk2
                  clear hk2 hst2
                  by_cases hk1' : k2 = 1
                  · have b5 : (k2 != 1) = false := by rw [hk1']; rfl
                    have HK4 := Aside0.mk hk1'
                    clear hk1'
                    refine wpIn_region_quiet (by kernel_rfl) (by kernel_rfl) (by kernel_rfl) (by rintro ⟨a, w', h⟩; exact Exit.noConfusion (EndR.eq (show EndR w w1 w2 wv W pre x Exit.outgrown w' from h))) ?_
                    repeat (go_big_quiet_step (fail))
                    refine wpQuiet_nil ?_
                    rintro _ ⟨nq3, rfl⟩
                    clear hlk y15 r0 r2
                    have hdr := pw_below_drewN (Below.refl Wt.heap.size Wt) nq3
                    have hm_ := HMt.out.below hdr
                    have hc_ := HCt.out.trans (Chg.below hdr)
                    obtain ⟨Wu, hWu⟩ : ∃ Wu, Wt.drewN nq3 = Wu := ⟨_, rfl⟩
                    rw [hWu] at hm_ hc_ ⊢
                    have HMu := Aside0.mk hm_
                    have HCu := Aside0.mk hc_
                    clear hWu hm_ hc_ hdr HMt HCt
                    gi_wp2_with fail
                    have HQ : Aside0 (mstepQ (S0.1, S0.2.1, S0.2.2 ++ [(⟨1, at_⟩ : Cf)]) at_ (some y) = ((at_, y.f0) :: (S0.1, S0.2.1, S0.2.2 ++ [(⟨1, at_⟩ : Cf)]).1, (S0.1, S0.2.1, S0.2.2 ++ [(⟨1, at_⟩ : Cf)]).2.1 ++ [y], (S0.1, S0.2.1, S0.2.2 ++ [(⟨1, at_⟩ : Cf)]).2.2)) := ⟨by unfold mstepQ; dsimp only; rw [if_neg (fun h => h (HKU.out.trans HK2.out)), if_neg (fun h => h.2 (HK3.out.trans HK4.out))]⟩
                    have hoi := HOI0.out.below HMu.out.low
                    obtain ⟨ad', A4, c4, A5, c5, e, r0, r1, r2, r3, r4, r5, l4, g4, l5, g5⟩ := hoi
                    injection e with e
                    obtain rfl := Option.some.inj e
                    clear e
                    have hdr := below_drew (Below.refl Wu.heap.size Wu)
                    obtain ⟨w8, hrun8, hm8, hg8⟩ := (HMu.out.below hdr).enter at_ y.f0 hsw (by omega) (by omega) (by omega) (by omega)
                    have z15 : Wu.cell? ⟨w1.heap.size, 0, none⟩ = some (.map (some (wv.heap.size + 1 + 1))) := blk_cell HMu.out.box 0
                    have HM8 := Aside0.mk hm8
                    have HC8 := Aside0.mk ((HCu.out.trans (Chg.below hdr)).trans (Chg.map hg8))
                    have hsz8 : Wu.heap.size ≤ w8.heap.size := hg8.size
                    have hszu := HCu.out.size
                    have HRUN8 := Aside0.mk hrun8
                    have hs18 : Wu.drew.cell? ⟨w1.heap.size, 0, none⟩ = some (.map (some (wv.heap.size + 1 + 1))) ∧ Wu.drew.cell? ad = some (.int .i64 y.f0) := ⟨pw_cell_below hdr z15, pw_cell_below hdr r0⟩
                    clear hrun8 hg8 hm8 hdr HMu HCu
                    refine startIn_ (n := 7) (S := fun w' => w'.cell? ⟨w1.heap.size, 0, none⟩ = some (.map (some (wv.heap.size + 1 + 1))) ∧ w'.cell? ad = some (.int .i64 y.f0)) (ds := [6]) #[false, false, false, false, false, false, false] (by kernel_rfl) (by kernel_rfl) (by rintro ⟨a, w', h⟩; exact Exit.noConfusion (EndR.eq (show EndR w w1 w2 wv W pre x Exit.outgrown w' from h))) rfl rfl hs18 (fun hHeld => ?_)
                    clear hs18 z15 r0 r1 r2 r3 r4 r5 l4 g4 l5 g5
                    refine take_ (i := 0) (N := some 71) (v := ?_) (a' := ?_) #[true, false, false, false, false, false, false] rfl rfl (by kernel_rfl) (fun _ _ _ h => h) (Or.inl ⟨by rfl, ?_⟩) hHeld ?_ ?_
                    rotate_left
                    · rintro w' ⟨s0, s1⟩
                      go_simp
                      with_reducible rfl
                    rotate_left
                    · simp only [Act.put, List.setIfInBounds_toArray, List.set_cons_zero, List.set_cons_succ, i64_w, i32_w]
                      rfl
                    refine pure_ (i := 1) (N := some 72) (v := ?_) (a' := ?_) #[true, true, false, false, false, false, false] rfl rfl (by kernel_rfl) (fun _ _ _ h => h) (Or.inl ⟨by rfl, ?_⟩) ?_ ?_
                    rotate_left
                    · intro w'
                      go_simp
                      with_reducible rfl
                    rotate_left
                    · simp only [Act.put, List.setIfInBounds_toArray, List.set_cons_zero, List.set_cons_succ, i64_w, i32_w]
                      rfl
                    refine pure_ (i := 2) (N := some 73) (v := ?_) (a' := ?_) #[true, true, true, false, false, false, false] rfl rfl (by kernel_rfl) (fun _ _ _ h => h) (Or.inl ⟨by rfl, ?_⟩) ?_ ?_
                    rotate_left
                    · intro w'
                      go_simp
                      with_reducible rfl
                    rotate_left
                    · simp only [Act.put, List.setIfInBounds_toArray, List.set_cons_zero, List.set_cons_succ, i64_w, i32_w]
                      rfl
                    refine pure_ (i := 3) (N := some 74) (v := ?_) (a' := ?_) #[true, true, true, true, false, false, false] rfl rfl (by kernel_rfl) (fun _ _ _ h => h) (Or.inl ⟨by rfl, ?_⟩) ?_ ?_
                    rotate_left
                    · intro w'
                      go_simp
                      with_reducible rfl
                    rotate_left
                    · simp only [Act.put, List.setIfInBounds_toArray, List.set_cons_zero, List.set_cons_succ, i64_w, i32_w]
                      rfl
                    refine pure_ (i := 4) (N := some 75) (v := ?_) (a' := ?_) #[true, true, true, true, true, false, false] rfl rfl (by kernel_rfl) (fun _ _ _ h => h) (Or.inl ⟨by rfl, ?_⟩) ?_ ?_
                    rotate_left
                    · intro w'
                      go_simp
                      with_reducible rfl
                    rotate_left
                    · simp only [Act.put, List.setIfInBounds_toArray, List.set_cons_zero, List.set_cons_succ, i64_w, i32_w]
                      rfl
                    refine take_ (i := 5) (N := some 76) (v := ?_) (a' := ?_) #[true, true, true, true, true, true, false] rfl rfl (by kernel_rfl) (fun _ _ _ h => h) (Or.inl ⟨by rfl, ?_⟩) hHeld ?_ ?_
                    rotate_left
                    · rintro w' ⟨s0, s1⟩
                      go_simp
                      with_reducible rfl
                    rotate_left
                    · simp only [Act.put, List.setIfInBounds_toArray, List.set_cons_zero, List.set_cons_succ, i64_w, i32_w]
                      rfl
                    refine last_ (i := 6) (N := none) #[true, true, true, true, true, true, true] rfl rfl (by kernel_rfl) (by decide) (fun K hK => ?_)
                    refine skip_ (w1 := w8) (by rfl) rfl ?_ ?_
                    · have hr := HRUN8.out
                      first | (go_simp; done) | (simp [execOp, go_sem, hr, Result.andThen]; done)
                    refine hK.out _ _ ?_
                    clear hK K hHeld HRUN8
                    refine done_ (by kernel_rfl) ?_
                    gi_wp2_with fail
                    obtain ⟨u8, hu8, hru8⟩ := HM8.out.items
                    obtain ⟨Au8, nu8, cu8, hv8⟩ := R_slice3 (Kd.S_R hru8)
                    subst hv8
                    have hdr := below_drew (Below.refl w8.heap.size w8)
                    obtain ⟨wd, hwd⟩ : ∃ wd, w8.drew = wd := ⟨_, rfl⟩
                    have hm9 := HM8.out.below hdr
                    have hc9 := HC8.out.trans (Chg.below hdr)
                    have hu9 := blk_below hu8 hdr
                    have hr9 := Kd.S_below hru8 hdr
                    rw [hwd] at hm9 hc9 hu9 hr9
                    have hoi := HOI0.out.below hm9.low
                    obtain ⟨ad', A4, c4, A5, c5, e, r0, r1, r2, r3, r4, r5, l4, g4, l5, g5⟩ := hoi
                    injection e with e
                    obtain rfl := Option.some.inj e
                    clear e
                    have z13 : wd.cell? ⟨wv.heap.size, 0, none⟩ = some (.slice Au8 nu8 cu8) := blk_cell hu9 0
                    have hs19 : wd.cell? ⟨wv.heap.size, 0, none⟩ = some (.slice Au8 nu8 cu8) ∧ wd.cell? ad = some (.int .i64 y.f0) ∧ wd.cell? ⟨ad.block, ad.off + 1, none⟩ = some (.string y.f1) ∧ wd.cell? ⟨ad.block, ad.off + 2, none⟩ = some (.string y.f2) ∧ wd.cell? ⟨ad.block, ad.off + 3, none⟩ = some (.int .i64 y.f3) ∧ wd.cell? ⟨ad.block, ad.off + 4, none⟩ = some (.slice A4 y.f4.length c4) ∧ wd.cell? ⟨ad.block, ad.off + 5, none⟩ = some (.slice A5 y.f5.length c5) := ⟨z13, r0, r1, r2, r3, r4, r5⟩
                    have hszd : w8.heap.size ≤ wd.heap.size := by rw [← hwd]; exact hdr.size
                    have HS19 := Aside0.mk hs19
                    have HM9 := Aside0.mk hm9
                    have HC9 := Aside0.mk hc9
                    have HU9 := Aside0.mk hu9
                    have HR9 := Aside0.mk hr9
                    have HL4 := Aside0.mk l4
                    have HL5 := Aside0.mk l5
                    have HG4 := Aside0.mk g4
                    have HG5 := Aside0.mk g5
                    clear hu8 hru8 hdr hm9 hc9 hu9 hr9 z13 r0 r1 r2 r3 r4 r5 l4 g4 l5 g5 HM8 HC8
                    refine startIn_ (n := 8) (S := fun w' => w'.cell? ⟨wv.heap.size, 0, none⟩ = some (.slice Au8 nu8 cu8) ∧ w'.cell? ad = some (.int .i64 y.f0) ∧ w'.cell? ⟨ad.block, ad.off + 1, none⟩ = some (.string y.f1) ∧ w'.cell? ⟨ad.block, ad.off + 2, none⟩ = some (.string y.f2) ∧ w'.cell? ⟨ad.block, ad.off + 3, none⟩ = some (.int .i64 y.f3) ∧ w'.cell? ⟨ad.block, ad.off + 4, none⟩ = some (.slice A4 y.f4.length c4) ∧ w'.cell? ⟨ad.block, ad.off + 5, none⟩ = some (.slice A5 y.f5.length c5)) (ds := [6, 7]) #[false, false, false, false, false, false, false, false] (by kernel_rfl) (by kernel_rfl) (by rintro ⟨a, w', h⟩; exact Exit.noConfusion (EndR.eq (show EndR w w1 w2 wv W pre x Exit.outgrown w' from h))) rfl rfl (by rw [hwd]; exact hs19) (fun hHeld => ?_)
                    rw [hwd] at hHeld ⊢
                    clear hs19 hwd
                    refine take_ (i := 0) (N := some 77) (v := ?_) (a' := ?_) #[true, false, false, false, false, false, false, false] rfl rfl (by kernel_rfl) (fun _ _ _ h => h) (Or.inl ⟨by rfl, ?_⟩) hHeld ?_ ?_
                    rotate_left
                    · rintro w' ⟨s0, s1, s2, s3, s4, s5, s6⟩
                      go_simp
                      with_reducible rfl
                    rotate_left
                    · simp only [Act.put, List.setIfInBounds_toArray, List.set_cons_zero, List.set_cons_succ, i64_w, i32_w]
                      rfl
                    refine pure_ (i := 1) (N := some 78) (v := ?_) (a' := ?_) #[true, true, false, false, false, false, false, false] rfl rfl (by kernel_rfl) (fun _ _ _ h => h) (Or.inl ⟨by rfl, ?_⟩) ?_ ?_
                    rotate_left
                    · intro w'
                      go_simp
                      with_reducible rfl
                    rotate_left
                    · simp only [Act.put, List.setIfInBounds_toArray, List.set_cons_zero, List.set_cons_succ, i64_w, i32_w]
                      rfl
                    refine pure_ (i := 2) (N := some 79) (v := ?_) (a' := ?_) #[true, true, true, false, false, false, false, false] rfl rfl (by kernel_rfl) (fun _ _ _ h => h) (Or.inl ⟨by rfl, ?_⟩) ?_ ?_
                    rotate_left
                    · intro w'
                      go_simp
                      with_reducible rfl
                    rotate_left
                    · simp only [Act.put, List.setIfInBounds_toArray, List.set_cons_zero, List.set_cons_succ, i64_w, i32_w]
                      rfl
                    refine take_ (i := 3) (N := some 80) (v := ?_) (a' := ?_) #[true, true, true, true, false, false, false, false] rfl rfl (by kernel_rfl) (fun _ _ _ h => h) (Or.inl ⟨by rfl, ?_⟩) hHeld ?_ ?_
                    rotate_left
                    · rintro w' ⟨s0, s1, s2, s3, s4, s5, s6⟩
                      go_simp
                      with_reducible rfl
                    rotate_left
                    · simp only [Act.put, List.setIfInBounds_toArray, List.set_cons_zero, List.set_cons_succ, i64_w, i32_w]
                      rfl
                    refine one_ (i := 4) (N := some 81) #[true, true, true, true, true, false, false, false] rfl rfl (by kernel_rfl) (by decide) (fun K hK => ?_)
                    refine goes_ Tryd.func24 (by kernel_rfl) rfl #[.agg #[.int .i64 y.f0, .string y.f1, .string y.f2, .int .i64 y.f3, .slice A4 y.f4.length c4, .slice A5 y.f5.length c5]] (by rfl) rfl rfl (by (try simp only [List.map_toArray, List.map_cons, List.map_nil]); first | done | rfl) ?_
                    refine (patch_twin.calls y.f0 y.f1 y.f2 y.f3 A4 c4 y.f4 A5 c5 y.f5 y.f0 y.f1 y.f2 y.f3 y.f4 y.f5 wd HG4.out HL4.out HG5.out HL5.out (twin_is HSM.out)).mono ?_
                    rintro e w9 ⟨v4, v5, rfl, hr4, hr5, hb9⟩
                    refine ⟨_, rfl, ?_⟩
                    have hu9 := blk_below HU9.out hb9
                    have hr9 := Kd.S_below HR9.out hb9
                    have hr9' := Kd.S_mono (ok' := fun k => True ∧ ¬ wd.heap.size ≤ k) (Kd.S_old HR9.out hb9) (fun k hk => ⟨trivial, by have := hk.2; omega⟩)
                    have HR9X := Aside0.mk hr9'
                    clear hr9'
                    have hs9 := hb9.size
                    have HM10 := Aside0.mk (HM9.out.below hb9)
                    have HC10 := Aside0.mk (HC9.out.trans (Chg.below hb9))
                    have hfr : ∀ k, wd.heap.size ≤ k → True ∧ some k ≠ (Value.slice Au8 nu8 cu8).ownBlock := fun k hk => ⟨trivial, fun e => by
                      obtain ⟨_, inner, ho2, _⟩ := Kd.S_R HR9.out
                      have := own_lt ho2 k e.symm
                      omega⟩
                    have hk4' := Kd.R_lower (Kd.R_mono (ok' := fun k => wd.heap.size ≤ k) (Kd.R_bound hr4) (fun k hk => hk.2.1)) (show w2.heap.size ≤ wd.heap.size by omega)
                    have hk5' := Kd.R_lower (Kd.R_mono (ok' := fun k => wd.heap.size ≤ k) (Kd.R_bound hr5) (fun k hk => hk.2.1)) (show w2.heap.size ≤ wd.heap.size by omega)
                    have HKM := Aside0.mk (k27_mkM w9 w2.heap.size (fun k => wd.heap.size ≤ k) y hk4' hk5')
                    have HFR := Aside0.mk hfr
                    have hs20 := s19_below hHeld hb9
                    have HU10 := Aside0.mk hu9
                    have HR10 := Aside0.mk hr9
                    clear hu9 hr9 hr4 hr5 hb9 hk4' hk5' hfr
                    refine hK.out _ _ hs20 (fun hHeld => ?_)
                    clear hK K hs20
                    refine norm_ (a' := ?_) ?_ ?_
                    rotate_left
                    · show Act.put _ (some 81) _ = _
                      simp only [Act.put, List.setIfInBounds_toArray, List.set_cons_zero, List.set_cons_succ, i64_w, i32_w]
                      rfl
                    refine one_ (i := 5) (N := some 82) #[true, true, true, true, true, true, false, false] rfl rfl (by kernel_rfl) (by decide) (fun K hK => ?_)
                    have hs21 := s19_below hHeld ((Below.refl w9.heap.size w9).alloc (Nat.le_refl _) (.cells #[.int .i64 y.f0, .string y.f1, .string y.f2, .int .i64 y.f3, v4, v5] 27))
                    refine value_ (v := .slice (some ⟨w9.heap.size, 0, none⟩) 1 1) (w1 := w9.alloc (.cells #[.int .i64 y.f0, .string y.f1, .string y.f2, .int .i64 y.f3, v4, v5] 27)) (by rfl) rfl ?_ ?_
                    · go_simp
                      try rfl
                    refine hK.out _ _ hs21 (fun hHeld => ?_)
                    clear hK K hs21
                    refine norm_ (a' := ?_) ?_ ?_
                    rotate_left
                    · show Act.put _ (some 82) _ = _
                      simp only [Act.put, List.setIfInBounds_toArray, List.set_cons_zero, List.set_cons_succ, i64_w, i32_w]
                      rfl
                    refine last_ (i := 6) (N := some 83) #[true, true, true, true, true, true, true, false] rfl rfl (by kernel_rfl) (by decide) (fun K hK => ?_)
                    refine Kd.S_append_step k27 (w0 := w9) w2.heap.size (by rfl) (.tmp 77) (.tmp 82) 22 27 (.agg #[.int .i64 0, .string ⟨#[]⟩, .string ⟨#[]⟩, .int .i64 0, .slice none 0 0, .slice none 0 0]) 96 rfl Tryd.underlying22 infoIt rfl (by decide) (by decide) (.slice Au8 nu8 cu8) (S0.1, S0.2.1, S0.2.2 ++ [(⟨1, at_⟩ : Cf)]).2.1 y [.int .i64 y.f0, .string y.f1, .string y.f2, .int .i64 y.f3, v4, v5] (fun _ => True) (fun k => wd.heap.size ≤ k) rfl rfl HKM.out HFR.out (fun _ _ => trivial) HR9X.out (Below.refl _ _) (by omega) (by show (S0.2.1.length + 1) * 96 ≤ _; omega) ?_
                    intro v10 w10 hr10 _hb hg10 _hat
                    obtain ⟨Av10, nv10, cv10, hv10⟩ := R_slice3 (Kd.S_R hr10)
                    subst hv10
                    have hb10 : w10.heap[wv.heap.size]? = some (.cells #[.slice Au8 nu8 cu8] 22 (0, 0)) := (hg10.block _ (blk_lt HU10.out) (own_ne_blk (Kd.S_R HR10.out) HU10.out (fun cs e => by injection e with _ e; cases e))).trans HU10.out
                    have d10 : w10.cell? ⟨wv.heap.size, 0, none⟩ = some (.slice Au8 nu8 cu8) := blk_cell hb10 0
                    have f10 := blk_frozen hb10 0
                    have HM11 := Aside0.mk (HM10.out.item HU10.out HR10.out hr10 hwB hg10 (by omega) (by omega) (by omega) (by omega))
                    have HC11 := Aside0.mk (HC10.out.trans ((Chg.grown (Kd.S_R HR10.out) (Nat.le_refl _) (.inl rfl) hg10).trans (Chg.set (.inl rfl) 0 (.slice Av10 nv10 cv10))))
                    clear hr10 _hb hg10 _hat hb10
                    refine hK.out _ _ ?_
                    clear hK K hHeld
                    refine norm_ (a' := ?_) ?_ ?_
                    rotate_left
                    · show Act.put _ (some 83) _ = _
                      simp only [Act.put, List.setIfInBounds_toArray, List.set_cons_zero, List.set_cons_succ, i64_w, i32_w]
                      rfl
                    refine last_ (i := 7) (N := none) #[true, true, true, true, true, true, true, true] rfl rfl (by kernel_rfl) (by decide) (fun K hK => ?_)
                    refine skip_ (w1 := w10.setCell ⟨wv.heap.size, 0, none⟩ (.slice Av10 nv10 cv10)) (by rfl) rfl ?_ ?_
                    · go_simp
                    refine hK.out _ _ ?_
                    clear hK K
                    refine done_ (by kernel_rfl) ?_
                    exact FIN.out _ (HQ.out ▸ HM11.out) HC11.out
                  · have b5 : (k2 != 1) = true := bne_iff_ne.2 hk1'
                    have HK4 := Aside0.mk hk1'
                    clear hk1'
                    refine wpIn_region_quiet (by kernel_rfl) (by kernel_rfl) (by kernel_rfl) (by rintro ⟨a, w', h⟩; exact Exit.noConfusion (EndR.eq (show EndR w w1 w2 wv W pre x Exit.outgrown w' from h))) ?_
                    repeat (go_big_quiet_step (fail))
                    refine wpQuiet_nil ?_
                    rintro _ ⟨nq3, rfl⟩
                    clear hlk y15 r0 r2
                    have hdr := pw_below_drewN (Below.refl Wt.heap.size Wt) nq3
                    have hm_ := HMt.out.below hdr
                    have hc_ := HCt.out.trans (Chg.below hdr)
                    obtain ⟨Wu, hWu⟩ : ∃ Wu, Wt.drewN nq3 = Wu := ⟨_, rfl⟩
                    rw [hWu] at hm_ hc_ ⊢
                    have HMu := Aside0.mk hm_
                    have HCu := Aside0.mk hc_
                    clear hWu hm_ hc_ hdr HMt HCt
                    have HQ : Aside0 (mstepQ (S0.1, S0.2.1, S0.2.2 ++ [(⟨1, at_⟩ : Cf)]) at_ (some y) = ((S0.1, S0.2.1, S0.2.2 ++ [(⟨1, at_⟩ : Cf)]).1, (S0.1, S0.2.1, S0.2.2 ++ [(⟨1, at_⟩ : Cf)]).2.1, (S0.1, S0.2.1, S0.2.2 ++ [(⟨1, at_⟩ : Cf)]).2.2 ++ [⟨3, at_⟩])) := ⟨by unfold mstepQ; dsimp only; rw [if_neg (fun h => h (HKU.out.trans HK2.out)), if_pos ⟨HF4.out, fun h => HK4.out (HK3.out.symm.trans h)⟩]⟩
                    obtain ⟨u5, hu5, hru5⟩ := HMu.out.confl
                    obtain ⟨Au5, nu5, cu5, hv5⟩ := R_slice3 hru5
                    subst hv5
                    have c5 : Wu.cell? ⟨wv.heap.size + 1, 0, none⟩ = some (.slice Au5 nu5 cu5) := blk_cell hu5 0
                    have HU5 := Aside0.mk hu5
                    have HRU5 := Aside0.mk hru5
                    have hsz5 := HCu.out.size
                    clear hu5 hru5
                    gi_wp2_with (gi_at_builtin; refine appendIn k38 (w0 := Wu) w2.heap.size rfl (.tmp 115) (.tmp 118) 29 38 (.agg #[.int .i64 0, .string ⟨#[]⟩]) 24 rfl Tryd.underlying29 infoCf rfl (by decide) (by decide) (.slice Au5 nu5 cu5) (S0.1, S0.2.1, S0.2.2 ++ [(⟨1, at_⟩ : Cf)]).2.2 ⟨3, at_⟩ [.int .i64 3, .string at_] (fun _ => True) (fun _ => False) rfl rfl (k38_mkM _ _ _ ⟨3, at_⟩) (fun _ h => h.elim) (fun _ _ => trivial) HRU5.out (Below.refl _ _) (by omega) (by show ((S0.2.2 ++ [(⟨1, at_⟩ : Cf)]).length + 1) * 24 ≤ _; rw [List.length_append]; simp only [List.length_cons, List.length_nil]; omega) ?_; intro v5 w5_ hr5 _hb hg5 _hat; obtain ⟨Av5, nv5, cv5, hv5⟩ := R_slice3 hr5; subst hv5; have hb5 : w5_.heap[(wv.heap.size + 1)]? = some (.cells #[.slice Au5 nu5 cu5] 29 (0, 0)) := (hg5.block _ (blk_lt HU5.out) (own_ne_blk HRU5.out HU5.out (fun cs e => by injection e with _ e; cases e))).trans HU5.out; have d5 : w5_.cell? ⟨wv.heap.size + 1, 0, none⟩ = some (.slice Au5 nu5 cu5) := blk_cell hb5 0; have f5 := blk_frozen hb5 0; have HM5 := Aside0.mk (HMu.out.conflict HU5.out HRU5.out hr5 hwB hg5 (by omega) (by omega) (by omega) (by omega)); have HC5 := Aside0.mk (HCu.out.trans ((Chg.grown HRU5.out (Nat.le_refl _) (.inr rfl) hg5).trans (Chg.set (.inr rfl) 0 (.slice Av5 nv5 cv5)))); clear hr5 _hb hg5 _hat hb5)
                    exact FIN.out _ (HQ.out ▸ HM5.out.more (by omega)) HC5.out
                · have b4 : (y.f0 == 4) = false := beq_eq_false_iff_ne.2 hf4
                  have HF4 := Aside0.mk hf4
                  clear hf4
                  have hoi := HOI0.out.below HMt.out.low
                  obtain ⟨ad', A4, c4, A5, c5, e, r0, r1, r2, r3, r4, r5, l4, g4, l5, g5⟩ := hoi
                  injection e with e
                  obtain rfl := Option.some.inj e
                  clear e r1 r3 r4 r5 l4 g4 l5 g5
                  have y15 : Wt.cell? ⟨w1.heap.size, 0, none⟩ = some (.map (some (wv.heap.size + 1 + 1))) := blk_cell HMt.out.box 0
                  refine wpIn_region_quiet (by kernel_rfl) (by kernel_rfl) (by kernel_rfl) (by rintro ⟨a, w', h⟩; exact Exit.noConfusion (EndR.eq (show EndR w w1 w2 wv W pre x Exit.outgrown w' from h))) ?_
                  repeat (go_big_quiet_step (fail))
                  refine wpQuiet_nil ?_
                  rintro _ ⟨nq3, rfl⟩
                  clear y15 r0 r2
                  have hdr := pw_below_drewN (Below.refl Wt.heap.size Wt) nq3
                  have hm_ := HMt.out.below hdr
                  have hc_ := HCt.out.trans (Chg.below hdr)
                  obtain ⟨Wu, hWu⟩ : ∃ Wu, Wt.drewN nq3 = Wu := ⟨_, rfl⟩
                  rw [hWu] at hm_ hc_ ⊢
                  have HMu := Aside0.mk hm_
                  have HCu := Aside0.mk hc_
                  clear hWu hm_ hc_ hdr HMt HCt
                  gi_wp2_with fail
                  have HQ : Aside0 (mstepQ (S0.1, S0.2.1, S0.2.2 ++ [(⟨1, at_⟩ : Cf)]) at_ (some y) = ((at_, y.f0) :: (S0.1, S0.2.1, S0.2.2 ++ [(⟨1, at_⟩ : Cf)]).1, (S0.1, S0.2.1, S0.2.2 ++ [(⟨1, at_⟩ : Cf)]).2.1 ++ [y], (S0.1, S0.2.1, S0.2.2 ++ [(⟨1, at_⟩ : Cf)]).2.2)) := ⟨by unfold mstepQ; dsimp only; rw [if_neg (fun h => h (HKU.out.trans HK2.out)), if_neg (fun h => HF4.out h.1)]⟩
                  have hoi := HOI0.out.below HMu.out.low
                  obtain ⟨ad', A4, c4, A5, c5, e, r0, r1, r2, r3, r4, r5, l4, g4, l5, g5⟩ := hoi
                  injection e with e
                  obtain rfl := Option.some.inj e
                  clear e
                  have hdr := below_drew (Below.refl Wu.heap.size Wu)
                  obtain ⟨w8, hrun8, hm8, hg8⟩ := (HMu.out.below hdr).enter at_ y.f0 hsw (by omega) (by omega) (by omega) (by omega)
                  have z15 : Wu.cell? ⟨w1.heap.size, 0, none⟩ = some (.map (some (wv.heap.size + 1 + 1))) := blk_cell HMu.out.box 0
                  have HM8 := Aside0.mk hm8
                  have HC8 := Aside0.mk ((HCu.out.trans (Chg.below hdr)).trans (Chg.map hg8))
                  have hsz8 : Wu.heap.size ≤ w8.heap.size := hg8.size
                  have hszu := HCu.out.size
                  have HRUN8 := Aside0.mk hrun8
                  have hs18 : Wu.drew.cell? ⟨w1.heap.size, 0, none⟩ = some (.map (some (wv.heap.size + 1 + 1))) ∧ Wu.drew.cell? ad = some (.int .i64 y.f0) := ⟨pw_cell_below hdr z15, pw_cell_below hdr r0⟩
                  clear hrun8 hg8 hm8 hdr HMu HCu
                  refine startIn_ (n := 7) (S := fun w' => w'.cell? ⟨w1.heap.size, 0, none⟩ = some (.map (some (wv.heap.size + 1 + 1))) ∧ w'.cell? ad = some (.int .i64 y.f0)) (ds := [6]) #[false, false, false, false, false, false, false] (by kernel_rfl) (by kernel_rfl) (by rintro ⟨a, w', h⟩; exact Exit.noConfusion (EndR.eq (show EndR w w1 w2 wv W pre x Exit.outgrown w' from h))) rfl rfl hs18 (fun hHeld => ?_)
                  clear hs18 z15 r0 r1 r2 r3 r4 r5 l4 g4 l5 g5
                  refine take_ (i := 0) (N := some 71) (v := ?_) (a' := ?_) #[true, false, false, false, false, false, false] rfl rfl (by kernel_rfl) (fun _ _ _ h => h) (Or.inl ⟨by rfl, ?_⟩) hHeld ?_ ?_
                  rotate_left
                  · rintro w' ⟨s0, s1⟩
                    go_simp
                    with_reducible rfl
                  rotate_left
                  · simp only [Act.put, List.setIfInBounds_toArray, List.set_cons_zero, List.set_cons_succ, i64_w, i32_w]
                    rfl
                  refine pure_ (i := 1) (N := some 72) (v := ?_) (a' := ?_) #[true, true, false, false, false, false, false] rfl rfl (by kernel_rfl) (fun _ _ _ h => h) (Or.inl ⟨by rfl, ?_⟩) ?_ ?_
                  rotate_left
                  · intro w'
                    go_simp
                    with_reducible rfl
                  rotate_left
                  · simp only [Act.put, List.setIfInBounds_toArray, List.set_cons_zero, List.set_cons_succ, i64_w, i32_w]
                    rfl
                  refine pure_ (i := 2) (N := some 73) (v := ?_) (a' := ?_) #[true, true, true, false, false, false, false] rfl rfl (by kernel_rfl) (fun _ _ _ h => h) (Or.inl ⟨by rfl, ?_⟩) ?_ ?_
                  rotate_left
                  · intro w'
                    go_simp
                    with_reducible rfl
                  rotate_left
                  · simp only [Act.put, List.setIfInBounds_toArray, List.set_cons_zero, List.set_cons_succ, i64_w, i32_w]
                    rfl
                  refine pure_ (i := 3) (N := some 74) (v := ?_) (a' := ?_) #[true, true, true, true, false, false, false] rfl rfl (by kernel_rfl) (fun _ _ _ h => h) (Or.inl ⟨by rfl, ?_⟩) ?_ ?_
                  rotate_left
                  · intro w'
                    go_simp
                    with_reducible rfl
                  rotate_left
                  · simp only [Act.put, List.setIfInBounds_toArray, List.set_cons_zero, List.set_cons_succ, i64_w, i32_w]
                    rfl
                  refine pure_ (i := 4) (N := some 75) (v := ?_) (a' := ?_) #[true, true, true, true, true, false, false] rfl rfl (by kernel_rfl) (fun _ _ _ h => h) (Or.inl ⟨by rfl, ?_⟩) ?_ ?_
                  rotate_left
                  · intro w'
                    go_simp
                    with_reducible rfl
                  rotate_left
                  · simp only [Act.put, List.setIfInBounds_toArray, List.set_cons_zero, List.set_cons_succ, i64_w, i32_w]
                    rfl
                  refine take_ (i := 5) (N := some 76) (v := ?_) (a' := ?_) #[true, true, true, true, true, true, false] rfl rfl (by kernel_rfl) (fun _ _ _ h => h) (Or.inl ⟨by rfl, ?_⟩) hHeld ?_ ?_
                  rotate_left
                  · rintro w' ⟨s0, s1⟩
                    go_simp
                    with_reducible rfl
                  rotate_left
                  · simp only [Act.put, List.setIfInBounds_toArray, List.set_cons_zero, List.set_cons_succ, i64_w, i32_w]
                    rfl
                  refine last_ (i := 6) (N := none) #[true, true, true, true, true, true, true] rfl rfl (by kernel_rfl) (by decide) (fun K hK => ?_)
                  refine skip_ (w1 := w8) (by rfl) rfl ?_ ?_
                  · have hr := HRUN8.out
                    first | (go_simp; done) | (simp [execOp, go_sem, hr, Result.andThen]; done)
                  refine hK.out _ _ ?_
                  clear hK K hHeld HRUN8
                  refine done_ (by kernel_rfl) ?_
                  gi_wp2_with fail
                  obtain ⟨u8, hu8, hru8⟩ := HM8.out.items
                  obtain ⟨Au8, nu8, cu8, hv8⟩ := R_slice3 (Kd.S_R hru8)
                  subst hv8
                  have hdr := below_drew (Below.refl w8.heap.size w8)
                  obtain ⟨wd, hwd⟩ : ∃ wd, w8.drew = wd := ⟨_, rfl⟩
                  have hm9 := HM8.out.below hdr
                  have hc9 := HC8.out.trans (Chg.below hdr)
                  have hu9 := blk_below hu8 hdr
                  have hr9 := Kd.S_below hru8 hdr
                  rw [hwd] at hm9 hc9 hu9 hr9
                  have hoi := HOI0.out.below hm9.low
                  obtain ⟨ad', A4, c4, A5, c5, e, r0, r1, r2, r3, r4, r5, l4, g4, l5, g5⟩ := hoi
                  injection e with e
                  obtain rfl := Option.some.inj e
                  clear e
                  have z13 : wd.cell? ⟨wv.heap.size, 0, none⟩ = some (.slice Au8 nu8 cu8) := blk_cell hu9 0
                  have hs19 : wd.cell? ⟨wv.heap.size, 0, none⟩ = some (.slice Au8 nu8 cu8) ∧ wd.cell? ad = some (.int .i64 y.f0) ∧ wd.cell? ⟨ad.block, ad.off + 1, none⟩ = some (.string y.f1) ∧ wd.cell? ⟨ad.block, ad.off + 2, none⟩ = some (.string y.f2) ∧ wd.cell? ⟨ad.block, ad.off + 3, none⟩ = some (.int .i64 y.f3) ∧ wd.cell? ⟨ad.block, ad.off + 4, none⟩ = some (.slice A4 y.f4.length c4) ∧ wd.cell? ⟨ad.block, ad.off + 5, none⟩ = some (.slice A5 y.f5.length c5) := ⟨z13, r0, r1, r2, r3, r4, r5⟩
                  have hszd : w8.heap.size ≤ wd.heap.size := by rw [← hwd]; exact hdr.size
                  have HS19 := Aside0.mk hs19
                  have HM9 := Aside0.mk hm9
                  have HC9 := Aside0.mk hc9
                  have HU9 := Aside0.mk hu9
                  have HR9 := Aside0.mk hr9
                  have HL4 := Aside0.mk l4
                  have HL5 := Aside0.mk l5
                  have HG4 := Aside0.mk g4
                  have HG5 := Aside0.mk g5
                  clear hu8 hru8 hdr hm9 hc9 hu9 hr9 z13 r0 r1 r2 r3 r4 r5 l4 g4 l5 g5 HM8 HC8
                  refine startIn_ (n := 8) (S := fun w' => w'.cell? ⟨wv.heap.size, 0, none⟩ = some (.slice Au8 nu8 cu8) ∧ w'.cell? ad = some (.int .i64 y.f0) ∧ w'.cell? ⟨ad.block, ad.off + 1, none⟩ = some (.string y.f1) ∧ w'.cell? ⟨ad.block, ad.off + 2, none⟩ = some (.string y.f2) ∧ w'.cell? ⟨ad.block, ad.off + 3, none⟩ = some (.int .i64 y.f3) ∧ w'.cell? ⟨ad.block, ad.off + 4, none⟩ = some (.slice A4 y.f4.length c4) ∧ w'.cell? ⟨ad.block, ad.off + 5, none⟩ = some (.slice A5 y.f5.length c5)) (ds := [6, 7]) #[false, false, false, false, false, false, false, false] (by kernel_rfl) (by kernel_rfl) (by rintro ⟨a, w', h⟩; exact Exit.noConfusion (EndR.eq (show EndR w w1 w2 wv W pre x Exit.outgrown w' from h))) rfl rfl (by rw [hwd]; exact hs19) (fun hHeld => ?_)
                  rw [hwd] at hHeld ⊢
                  clear hs19 hwd
                  refine take_ (i := 0) (N := some 77) (v := ?_) (a' := ?_) #[true, false, false, false, false, false, false, false] rfl rfl (by kernel_rfl) (fun _ _ _ h => h) (Or.inl ⟨by rfl, ?_⟩) hHeld ?_ ?_
                  rotate_left
                  · rintro w' ⟨s0, s1, s2, s3, s4, s5, s6⟩
                    go_simp
                    with_reducible rfl
                  rotate_left
                  · simp only [Act.put, List.setIfInBounds_toArray, List.set_cons_zero, List.set_cons_succ, i64_w, i32_w]
                    rfl
                  refine pure_ (i := 1) (N := some 78) (v := ?_) (a' := ?_) #[true, true, false, false, false, false, false, false] rfl rfl (by kernel_rfl) (fun _ _ _ h => h) (Or.inl ⟨by rfl, ?_⟩) ?_ ?_
                  rotate_left
                  · intro w'
                    go_simp
                    with_reducible rfl
                  rotate_left
                  · simp only [Act.put, List.setIfInBounds_toArray, List.set_cons_zero, List.set_cons_succ, i64_w, i32_w]
                    rfl
                  refine pure_ (i := 2) (N := some 79) (v := ?_) (a' := ?_) #[true, true, true, false, false, false, false, false] rfl rfl (by kernel_rfl) (fun _ _ _ h => h) (Or.inl ⟨by rfl, ?_⟩) ?_ ?_
                  rotate_left
                  · intro w'
                    go_simp
                    with_reducible rfl
                  rotate_left
                  · simp only [Act.put, List.setIfInBounds_toArray, List.set_cons_zero, List.set_cons_succ, i64_w, i32_w]
                    rfl
                  refine take_ (i := 3) (N := some 80) (v := ?_) (a' := ?_) #[true, true, true, true, false, false, false, false] rfl rfl (by kernel_rfl) (fun _ _ _ h => h) (Or.inl ⟨by rfl, ?_⟩) hHeld ?_ ?_
                  rotate_left
                  · rintro w' ⟨s0, s1, s2, s3, s4, s5, s6⟩
                    go_simp
                    with_reducible rfl
                  rotate_left
                  · simp only [Act.put, List.setIfInBounds_toArray, List.set_cons_zero, List.set_cons_succ, i64_w, i32_w]
                    rfl
                  refine one_ (i := 4) (N := some 81) #[true, true, true, true, true, false, false, false] rfl rfl (by kernel_rfl) (by decide) (fun K hK => ?_)
                  refine goes_ Tryd.func24 (by kernel_rfl) rfl #[.agg #[.int .i64 y.f0, .string y.f1, .string y.f2, .int .i64 y.f3, .slice A4 y.f4.length c4, .slice A5 y.f5.length c5]] (by rfl) rfl rfl (by (try simp only [List.map_toArray, List.map_cons, List.map_nil]); first | done | rfl) ?_
                  refine (patch_twin.calls y.f0 y.f1 y.f2 y.f3 A4 c4 y.f4 A5 c5 y.f5 y.f0 y.f1 y.f2 y.f3 y.f4 y.f5 wd HG4.out HL4.out HG5.out HL5.out (twin_is HSM.out)).mono ?_
                  rintro e w9 ⟨v4, v5, rfl, hr4, hr5, hb9⟩
                  refine ⟨_, rfl, ?_⟩
                  have hu9 := blk_below HU9.out hb9
                  have hr9 := Kd.S_below HR9.out hb9
                  have hr9' := Kd.S_mono (ok' := fun k => True ∧ ¬ wd.heap.size ≤ k) (Kd.S_old HR9.out hb9) (fun k hk => ⟨trivial, by have := hk.2; omega⟩)
                  have HR9X := Aside0.mk hr9'
                  clear hr9'
                  have hs9 := hb9.size
                  have HM10 := Aside0.mk (HM9.out.below hb9)
                  have HC10 := Aside0.mk (HC9.out.trans (Chg.below hb9))
                  have hfr : ∀ k, wd.heap.size ≤ k → True ∧ some k ≠ (Value.slice Au8 nu8 cu8).ownBlock := fun k hk => ⟨trivial, fun e => by
                    obtain ⟨_, inner, ho2, _⟩ := Kd.S_R HR9.out
                    have := own_lt ho2 k e.symm
                    omega⟩
                  have hk4' := Kd.R_lower (Kd.R_mono (ok' := fun k => wd.heap.size ≤ k) (Kd.R_bound hr4) (fun k hk => hk.2.1)) (show w2.heap.size ≤ wd.heap.size by omega)
                  have hk5' := Kd.R_lower (Kd.R_mono (ok' := fun k => wd.heap.size ≤ k) (Kd.R_bound hr5) (fun k hk => hk.2.1)) (show w2.heap.size ≤ wd.heap.size by omega)
                  have HKM := Aside0.mk (k27_mkM w9 w2.heap.size (fun k => wd.heap.size ≤ k) y hk4' hk5')
                  have HFR := Aside0.mk hfr
                  have hs20 := s19_below hHeld hb9
                  have HU10 := Aside0.mk hu9
                  have HR10 := Aside0.mk hr9
                  clear hu9 hr9 hr4 hr5 hb9 hk4' hk5' hfr
                  refine hK.out _ _ hs20 (fun hHeld => ?_)
                  clear hK K hs20
                  refine norm_ (a' := ?_) ?_ ?_
                  rotate_left
                  · show Act.put _ (some 81) _ = _
                    simp only [Act.put, List.setIfInBounds_toArray, List.set_cons_zero, List.set_cons_succ, i64_w, i32_w]
                    rfl
                  refine one_ (i := 5) (N := some 82) #[true, true, true, true, true, true, false, false] rfl rfl (by kernel_rfl) (by decide) (fun K hK => ?_)
                  have hs21 := s19_below hHeld ((Below.refl w9.heap.size w9).alloc (Nat.le_refl _) (.cells #[.int .i64 y.f0, .string y.f1, .string y.f2, .int .i64 y.f3, v4, v5] 27))
                  refine value_ (v := .slice (some ⟨w9.heap.size, 0, none⟩) 1 1) (w1 := w9.alloc (.cells #[.int .i64 y.f0, .string y.f1, .string y.f2, .int .i64 y.f3, v4, v5] 27)) (by rfl) rfl ?_ ?_
                  · go_simp
                    try rfl
                  refine hK.out _ _ hs21 (fun hHeld => ?_)
                  clear hK K hs21
                  refine norm_ (a' := ?_) ?_ ?_
                  rotate_left
                  · show Act.put _ (some 82) _ = _
                    simp only [Act.put, List.setIfInBounds_toArray, List.set_cons_zero, List.set_cons_succ, i64_w, i32_w]
                    rfl
                  refine last_ (i := 6) (N := some 83) #[true, true, true, true, true, true, true, false] rfl rfl (by kernel_rfl) (by decide) (fun K hK => ?_)
                  refine Kd.S_append_step k27 (w0 := w9) w2.heap.size (by rfl) (.tmp 77) (.tmp 82) 22 27 (.agg #[.int .i64 0, .string ⟨#[]⟩, .string ⟨#[]⟩, .int .i64 0, .slice none 0 0, .slice none 0 0]) 96 rfl Tryd.underlying22 infoIt rfl (by decide) (by decide) (.slice Au8 nu8 cu8) (S0.1, S0.2.1, S0.2.2 ++ [(⟨1, at_⟩ : Cf)]).2.1 y [.int .i64 y.f0, .string y.f1, .string y.f2, .int .i64 y.f3, v4, v5] (fun _ => True) (fun k => wd.heap.size ≤ k) rfl rfl HKM.out HFR.out (fun _ _ => trivial) HR9X.out (Below.refl _ _) (by omega) (by show (S0.2.1.length + 1) * 96 ≤ _; omega) ?_
                  intro v10 w10 hr10 _hb hg10 _hat
                  obtain ⟨Av10, nv10, cv10, hv10⟩ := R_slice3 (Kd.S_R hr10)
                  subst hv10
                  have hb10 : w10.heap[wv.heap.size]? = some (.cells #[.slice Au8 nu8 cu8] 22 (0, 0)) := (hg10.block _ (blk_lt HU10.out) (own_ne_blk (Kd.S_R HR10.out) HU10.out (fun cs e => by injection e with _ e; cases e))).trans HU10.out
                  have d10 : w10.cell? ⟨wv.heap.size, 0, none⟩ = some (.slice Au8 nu8 cu8) := blk_cell hb10 0
                  have f10 := blk_frozen hb10 0
                  have HM11 := Aside0.mk (HM10.out.item HU10.out HR10.out hr10 hwB hg10 (by omega) (by omega) (by omega) (by omega))
                  have HC11 := Aside0.mk (HC10.out.trans ((Chg.grown (Kd.S_R HR10.out) (Nat.le_refl _) (.inl rfl) hg10).trans (Chg.set (.inl rfl) 0 (.slice Av10 nv10 cv10))))
                  clear hr10 _hb hg10 _hat hb10
                  refine hK.out _ _ ?_
                  clear hK K hHeld
                  refine norm_ (a' := ?_) ?_ ?_
                  rotate_left
                  · show Act.put _ (some 83) _ = _
                    simp only [Act.put, List.setIfInBounds_toArray, List.set_cons_zero, List.set_cons_succ, i64_w, i32_w]
                    rfl
                  refine last_ (i := 7) (N := none) #[true, true, true, true, true, true, true, true] rfl rfl (by kernel_rfl) (by decide) (fun K hK => ?_)
                  refine skip_ (w1 := w10.setCell ⟨wv.heap.size, 0, none⟩ (.slice Av10 nv10 cv10)) (by rfl) rfl ?_ ?_
                  · go_simp
                  refine hK.out _ _ ?_
                  clear hK K
                  refine done_ (by kernel_rfl) ?_
                  exact FIN.out _ (HQ.out ▸ HM11.out) HC11.out
              · have hk2b : (kd != 2) = true := bne_iff_ne.2 hk2
                have HK2 := Aside0.mk hk2
                clear hk2
                refine wpIn_region_quiet (by kernel_rfl) (by kernel_rfl) (by kernel_rfl) (by rintro ⟨a, w', h⟩; exact Exit.noConfusion (EndR.eq (show EndR w w1 w2 wv W pre x Exit.outgrown w' from h))) ?_
                repeat (go_big_quiet_step ((go_at_call 23; exact HCL.out _)))
                refine wpQuiet_nil ?_
                rintro _ ⟨nq2, rfl⟩
                clear hlk HCL y15
                have hdr := pw_below_drewN (Below.refl Ws.heap.size Ws) nq2
                have hm_ := HMs.out.below hdr
                have hc_ := HCs.out.trans (Chg.below hdr)
                obtain ⟨Wt, hWt⟩ : ∃ Wt, Ws.drewN nq2 = Wt := ⟨_, rfl⟩
                rw [hWt] at hm_ hc_ ⊢
                have HMt := Aside0.mk hm_
                have HCt := Aside0.mk hc_
                clear hWt hm_ hc_ hdr HMs HCs
                have HQ : Aside0 (mstepQ (S0.1, S0.2.1, S0.2.2 ++ [(⟨1, at_⟩ : Cf)]) at_ (some y) = ((S0.1, S0.2.1, S0.2.2 ++ [(⟨1, at_⟩ : Cf)]).1, (S0.1, S0.2.1, S0.2.2 ++ [(⟨1, at_⟩ : Cf)]).2.1, (S0.1, S0.2.1, S0.2.2 ++ [(⟨1, at_⟩ : Cf)]).2.2 ++ [⟨2, at_⟩])) := ⟨by unfold mstepQ; dsimp only; rw [if_pos (fun h => HK2.out (HKU.out.symm.trans h))]⟩
                obtain ⟨u6, hu6, hru6⟩ := HMt.out.confl
                obtain ⟨Au6, nu6, cu6, hv6⟩ := R_slice3 hru6
                subst hv6
                have c6 : Wt.cell? ⟨wv.heap.size + 1, 0, none⟩ = some (.slice Au6 nu6 cu6) := blk_cell hu6 0
                have HU6 := Aside0.mk hu6
                have HRU6 := Aside0.mk hru6
                have hsz6 := HCt.out.size
                clear hu6 hru6
                gi_wp2_with (gi_at_builtin; refine appendIn k38 (w0 := Wt) w2.heap.size rfl (.tmp 95) (.tmp 98) 29 38 (.agg #[.int .i64 0, .string ⟨#[]⟩]) 24 rfl Tryd.underlying29 infoCf rfl (by decide) (by decide) (.slice Au6 nu6 cu6) (S0.1, S0.2.1, S0.2.2 ++ [(⟨1, at_⟩ : Cf)]).2.2 ⟨2, at_⟩ [.int .i64 2, .string at_] (fun _ => True) (fun _ => False) rfl rfl (k38_mkM _ _ _ ⟨2, at_⟩) (fun _ h => h.elim) (fun _ _ => trivial) HRU6.out (Below.refl _ _) (by omega) (by show ((S0.2.2 ++ [(⟨1, at_⟩ : Cf)]).length + 1) * 24 ≤ _; rw [List.length_append]; simp only [List.length_cons, List.length_nil]; omega) ?_; intro v6 w6_ hr6 _hb hg6 _hat; obtain ⟨Av6, nv6, cv6, hv6⟩ := R_slice3 hr6; subst hv6; have hb6 : w6_.heap[(wv.heap.size + 1)]? = some (.cells #[.slice Au6 nu6 cu6] 29 (0, 0)) := (hg6.block _ (blk_lt HU6.out) (own_ne_blk HRU6.out HU6.out (fun cs e => by injection e with _ e; cases e))).trans HU6.out; have d6 : w6_.cell? ⟨wv.heap.size + 1, 0, none⟩ = some (.slice Au6 nu6 cu6) := blk_cell hb6 0; have f6 := blk_frozen hb6 0; have HM6 := Aside0.mk (HMt.out.conflict HU6.out HRU6.out hr6 hwB hg6 (by omega) (by omega) (by omega) (by omega)); have HC6 := Aside0.mk (HCt.out.trans ((Chg.grown HRU6.out (Nat.le_refl _) (.inr rfl) hg6).trans (Chg.set (.inr rfl) 0 (.slice Av6 nv6 cv6)))); clear hr6 _hb hg6 _hat hb6)
                exact FIN.out _ (HQ.out ▸ HM6.out.more (by omega)) HC6.out
        case done =>
          rintro xs W hxs hlt hi hd
          have hxs2 : xs.map Rnd.rd = rs := hxs
          have hmg : ((xs.map Rnd.rd).foldl mstep ms0) = merged l0 l1 l2 := by rw [hxs2, ← HRS.out]; rfl
          rw [hmg] at hi
          obtain ⟨v, hv, hrv⟩ := hi.items
          obtain ⟨u, hu, hru⟩ := hi.confl
          obtain ⟨Av, cv, hvs⟩ := Kd.S_slice hrv
          subst hvs
          obtain ⟨Au, nu, cu, hus⟩ := R_slice3 hru
          subst hus
          obtain ⟨_, hle, hcv⟩ := Kd.S_reads' hrv
          have hft : (merged l0 l1 l2).2.1.all fitB = true := List.all_eq_true.2 (fun y hy => by
            rcases merged_from y hy with h | h
            · exact List.all_eq_true.1 HF12.out.1 y h
            · exact List.all_eq_true.1 HF12.out.2 y h)
          have hmm := HM.out
          unfold mergeP at hmm
          rw [if_neg (fun e => e HOK.out.1), if_neg (fun e => e HOK.out.2.1), if_neg (fun e => e HOK.out.2.2)] at hmm
          obtain ⟨M, hM⟩ : ∃ M, merged l0 l1 l2 = M := ⟨_, rfl⟩
          rw [hM] at hi hrv hru hle hcv hft hmm hv
          have hcall : Calls Tryd.prog 18 #[.slice Av M.2.1.length cv] W fun e w' => (∃ v, e = .returned (.tuple #[v, .int .i64 (packP M.2.1).2])) ∧ Below W.heap.size W w' :=
            (dump_Pack.calls Av cv M.2.1 (packP M.2.1).1 (packP M.2.1).2 W hcv hle (by unfold dump_Pack.f; rw [if_pos hft])).mono (by rintro e w' ⟨v, rfl, _, hb⟩; exact ⟨⟨v, rfl⟩, hb⟩)
          obtain ⟨pe, hpe⟩ : ∃ pe, (packP M.2.1).2 = pe := ⟨_, rfl⟩
          rw [hpe] at hcall hmm
          have HC := Aside0.mk hcall
          have HMM := Aside0.mk hmm
          have HI := Aside0.mk hi
          have HV := Aside0.mk hv
          have HU := Aside0.mk hu
          have HRV := Aside0.mk hrv
          have HRU := Aside0.mk hru
          have HD := Aside0.mk hd
          have hnW := hi.big
          have y13 : W.cell? ⟨wv.heap.size, 0, none⟩ = some (.slice Av M.2.1.length cv) := blk_cell hv 0
          clear hxs hxs2 hmg hcall hmm hi hv hu hrv hru hd hpe hM hft hcv HT HI0 HRS P0 P1 P2
          by_cases hz : pe ≠ 0
          · have hb2 : (pe != 0) = true := bne_iff_ne.2 hz
            have HF : Aside0 (([], [], pe) = (r1, r2, r3)) := ⟨by have hm := HMM.out; rw [if_pos hz] at hm; exact hm⟩
            clear hz
            go_wp2_with (go_at_call 18; refine (HC.out).mono ?_; rintro e w5 ⟨⟨v, rfl⟩, hb⟩)
            have hd5 := blk_below HD.out hb
            refine ⟨by simp, .inl ⟨_, _, rfl, run_takeDeferred hd5, ?_⟩⟩
            obtain ⟨rfl, rfl, rfl⟩ : r1 = [] ∧ r2 = [] ∧ r3 = pe := by
              have := HF.out
              injection this with a b
              injection b with b c
              exact ⟨a.symm, b.symm, c.symm⟩
            exact ⟨_, results_tmp3 rfl _ _ _, _, _, rfl, Kd.S_nil _ _ _ _ _, Kd.R_nil _ _ _ _ _, below_put (HI.out.low.trans (hb.mono HI.out.low.size)) hwB (Nat.le_refl _) hd5 rfl⟩
          · have hz0 : pe = 0 := Decidable.not_not.1 hz
            have HF : Aside0 ((M.2.1, M.2.2, 0) = (r1, r2, r3)) := ⟨by have hm := HMM.out; rw [if_neg hz] at hm; exact hm⟩
            subst hz0
            clear hz HMM
            go_wp2_with (go_at_call 18; refine (HC.out).mono ?_; rintro e w5 ⟨⟨v, rfl⟩, hb⟩)
            have z13 : w5.cell? ⟨wv.heap.size, 0, none⟩ = some (.slice Av M.2.1.length cv) := pw_cell_below hb y13
            have z14 : w5.cell? ⟨wv.heap.size + 1, 0, none⟩ = some (.slice Au nu cu) := blk_cell (blk_below HU.out hb) 0
            have HB5 := Aside0.mk hb
            clear hb y13
            go_quiet (fail)
            go_wp2_with fail
            have hb6 := HB5.out.trans ((pw_below_drewN (Below.refl w5.heap.size w5) nq).mono HB5.out.size)
            have hd5 := blk_below HD.out hb6
            refine ⟨by simp, .inl ⟨_, _, rfl, run_takeDeferred hd5, ?_⟩⟩
            obtain ⟨rfl, rfl, rfl⟩ : r1 = M.2.1 ∧ r2 = M.2.2 ∧ r3 = 0 := by
              have := HF.out
              injection this with a b
              injection b with b c
              exact ⟨a.symm, b.symm, c.symm⟩
            have hkq := Kq.of_put (B := w2.heap.size) (l := w2.heap.size) (o' := .deferred none) (Nat.le_refl _) hd5 rfl
            exact ⟨_, results_tmp3 rfl _ _ _, _, _, rfl, Kd.S_lower (hkq.rowS (Kd.S_below HRV.out hb6) (by decide)) hwB, Kd.R_lower (hkq.row (Kd.R_below HRU.out hb6) (by decide)) hwB, below_put (HI.out.low.trans (hb6.mono HI.out.low.size)) hwB (Nat.le_refl _) hd5 rfl⟩
  · rw [if_neg hf] at h
    cases h
end Go.Proofs.YtkfikinjlbbibaaDoor
