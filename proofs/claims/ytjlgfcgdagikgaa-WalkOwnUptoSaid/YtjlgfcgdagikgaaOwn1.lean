/- WalkOwn: the walk of the law's own body. -/
import Derived.Test.YtjlgfcgdagikgaaOwn0
namespace Go.Proofs.Ytjlgfcgdagikgaa.walkOwn
open Go.RowKit
open Go.Proofs.Ytjlgfcgdagikgaa.PWalk Go.Proofs.Ytjlgfcgdagikgaa.Pure
open Go.Proofs.YtjlgfcgdagikgaaW.PrintWords Go.Proofs.YtjlgfcgdagikgaaW.PrintLast Go.Proofs.YtjlgfcgdagikgaaW.PrintMore
set_option linter.unusedVariables false

set_option maxHeartbeats 16000000 in
set_option maxRecDepth 100000 in
theorem own_walk (A : Option Addr) (c : Nat) (l : List ByteArray) (w : World) (hr : Kd.C Kd.string w A l.length l) (hc : l.length ≤ c) (hl : l.length ≤ 1048576) (hsz : ∀ s ∈ l, s.size ≤ 9223372036854775807) :
    Calls Try.prog 8 #[.slice A l.length c] w fun e w' => e = .returned (.bool true) ∧ Below w.heap.size w w' := by
  have HR := Aside0.mk hr
  have HC := Aside0.mk hc
  have HS := Aside0.mk hsz
  clear hr hc hsz
  obtain ⟨k0, h0⟩ := Ev.rounds (split_ev ⟨#[47, 97, 47, 98]⟩)
  have e0 : splitE (bs ⟨#[47, 97, 47, 98]⟩) = ([[97], [98]], 0) := by decide
  rw [e0] at h0
  have H0 := Aside0.mk h0
  clear h0 e0
  go_enter Try.func8, Try.ntmps8
  go_wp2_with (go_at_call 9; refine (walk_Split.calls _ _ _ _ _ H0.out).mono ?_; rintro e w1 ⟨v1, rfl, hk1, hb1⟩; obtain ⟨A1, c1, hv⟩ := kd_slice hk1; subst hv; have HB1 := Aside0.mk hb1; clear hk1 hb1)
  go_loopg [3, 4, 5, 6, 7, 8] (2 * l.length) (fun g _ _ v5 v6 _ _ wx => ∃ (j : Nat) (ks : List (Nat × Nat)), j + g = 2 * l.length ∧ v6 = .int .i64 j ∧ Aside0 (ks.length = j) ∧ Aside0 (Kept w.heap.size v5 ks (fun m => three l (m % l.length)) wx) ∧ Aside0 (Below w.heap.size w wx))
  case atStart => exact ⟨0, [], by omega, rfl, ⟨rfl⟩, ⟨⟨own_nil _ _ _ _, by simp, by simp⟩⟩, HB1⟩
  case round =>
    clear HB1
    obtain ⟨j, ks, hj, rfl, HKL, HK, HB⟩ := hrel
    by_cases hlt : j < 2 * l.length
    · have hm : Int.tmod (j : Int) (l.length : Int) = ((j % l.length : Nat) : Int) := by rw [Int.tmod_eq_emod_of_nonneg (by omega)]; rfl
      have hmlt : j % l.length < l.length := Nat.mod_lt _ (by omega)
      obtain ⟨i, hi⟩ : ∃ i, j % l.length = i := ⟨_, rfl⟩
      rw [hi] at hm hmlt
      have HI := Aside0.mk hi
      clear hi
      have hne : ((l.length : Int) == 0) = false := beq_eq_false_iff_ne.2 (by omega)
      have hRl := Kd.C_below HR.out HB.out
      obtain ⟨ad, hA, hx⟩ := Kd.at_string hRl (i : Int) (by omega) (by omega)
      rw [rd_at l i hmlt, Int.toNat_natCast] at hx
      subst hA
      have htm : vellumlaw11_tame.f l[i] = some (tm l i) := by
        unfold vellumlaw11_tame.f tm
        rw [if_pos (HS.out _ (List.getElem_mem hmlt)), List.getD_eq_getElem?_getD, List.getElem?_eq_getElem hmlt]
        rfl
      obtain ⟨kp, p, hp1, hp2⟩ := path_three l i
      have HT := Aside0.mk htm
      have HP1 := Aside0.mk hp1
      have HP2 := Aside0.mk hp2
      have HX := Aside0.mk hx
      have hi0 : (0 : Int) ≤ (i : Int) := by omega
      have hi1 : (i : Int) < (l.length : Int) := by omega
      have q1 := eq_true hi1
      have q2 := eq_true hmlt
      clear hRl htm hp1 hp2
      go_upto_region 9 with (fail)
      clear hm hne
      go_cut [8] (fun v8 wc => v8 = .string p ∧ Aside0 (Below wr.heap.size wr wc))
      case first =>
        go_region_held3 (fun w' => w'.cell? (ad.add i) = some (.string l[i]))
          (first | go_keep | (refine pw_cell_below (by assumption) ?_; first | assumption | exact HX.out))
          (first
            | (go_at_call 12; refine (vellumlaw11_tame.calls _ _ _ HT.out).mono ?_; rintro e w2 ⟨rfl, hb2⟩)
            | (go_at_call 13; refine (vellumlaw11_path.calls kp _ 3 (three l i) none 0 [] p _ (lit_three _ l i) (Nat.le_refl _) nil_ints (Nat.le_refl _) HP1.out).mono ?_; rintro e w2 ⟨rfl, ⟨nd, rfl⟩⟩))
        go_wp2
        go_meet
        case rel => exact ⟨rfl, ⟨pw_below_drewN (below_alloc (below_chain (below_chain (below_drew (Below.refl _ wr)) (by assumption)) (by assumption)) _) _⟩⟩
      case rest =>
        clear HP1 hx
        obtain ⟨rfl, HBc⟩ := hcut
        have HKc := Aside0.mk (HK.out.below HBc.out)
        have HBw := Aside0.mk (below_chain HB.out HBc.out)
        have HXc := Aside0.mk (pw_cell_below HBc.out HX.out)
        clear HK HB HBc HX
        go_wp2_with (go_at_call 9; refine (walk_Split.calls _ _ _ _ _ HP2.out).mono ?_; rintro e w3 ⟨v3, rfl, hk3, hb3⟩; obtain ⟨A3, c3, hv⟩ := kd_slice hk3; subst hv; have HR3 := Aside0.mk hk3; have HB3 := Aside0.mk hb3; clear hk3 hb3)
        have hx := pw_cell_below HB3.out HXc.out
        have HC3 := Aside0.mk (Kd.R_reads' HR3.out).2.2
        have HN3 := Aside0.mk (Kd.R_reads' HR3.out).2.1
        obtain ⟨ks1, hs1⟩ := Ev.rounds (same_ev (three l i) (show 3 ≤ 1099511627776 by decide))
        have HSm := Aside0.mk hs1
        clear hs1
        have hg0 : ((0 : Int) != 0) = false := by decide
        go_cut [73] (fun v73 wc => v73 = .bool false ∧ Aside0 (Below w3.heap.size w3 wc))
        case first =>
          go_region_held3 (fun w' => w'.cell? (ad.add i) = some (.string l[i]) ∧ Aside0 (Below w3.heap.size w3 w'))
            (first | exact keep_start hx | ((go_split_ands; first | exact keep_below (by assumption) (by assumption) (by assumption) | exact keep_drewN _ (by assumption) (by assumption) | exact keep_alloc _ (by assumption) (by assumption))))
            (first
              | (go_at_call 12; refine (vellumlaw11_tame.calls _ _ _ HT.out).mono ?_; rintro e w2 ⟨rfl, hb2⟩)
              | (go_at_call 10; refine (vellumlaw11_SameParts.calls ks1 A3 c3 (three l i) _ 3 (three l i) true _ (by go_split_ands; exact Kd.C_below HC3.out (Aside0.out (by assumption))) HN3.out (lit_three _ l i) (Nat.le_refl _) HSm.out).mono ?_; rintro e w2 ⟨rfl, ⟨nd, rfl⟩⟩))
          go_wp2
          go_meet
          case rel => exact ⟨rfl, by go_split_ands; assumption⟩
        case rest =>
          clear HXc hx HC3 HN3 HSm
          obtain ⟨rfl, HBd⟩ := hcut
          obtain ⟨g3, rfl, hg3, HO3⟩ := own_three HR3.out
          have HKd := Aside0.mk (Kept.below (HKc.out.below HB3.out) HBd.out)
          have HG3 := Aside0.mk hg3
          have HO3' := Aside0.mk (own_weaken (pw_own_below HO3 HBd.out) HBw.out.size)
          have HOld := Aside0.mk (fun (m : Nat) y (hy : ks[m]? = some y) => HKc.out.kin.lt hy)
          have HBx := Aside0.mk (below_chain (below_chain HBw.out HB3.out) HBd.out)
          have hkl : ks.length ≤ 2097152 := by have := HKL.out; omega
          clear HR3 hg3 HO3 HKc HBw HB3 HBd
          go_wp2_with ((with_reducible refine gate_builtin (b := .append) (xs := #[.tmp 74, .tmp 76]) rfl ?_); at_builtin; refine print_append (w0 := w) w.heap.size rfl (.tmp 74) (.tmp 76) 35 23 (.slice none 0 0) 24 rfl Try.underlying35 info23o rfl (by decide) u5 (slices 3 ks) (.slice (some ⟨g3, 0, none⟩) 3 c3) rfl rfl rfl ?aO ?aB ?aS ?aL ?_; (case aB => exact HBx.out); (case aO => exact HKd.out.row); (case aS => exact HBx.out.size); (case aL => rw [slices_length]; omega); intro v1 w5 ho hb hg hat; have HRow := Aside0.mk ho; have HBy := Aside0.mk hb; have HGr := Aside0.mk hg; clear ho hb hg hat)
          have HKE := Aside0.mk (kept_next HKd.out HOld.out HG3.out (show _ from by rw [HKL.out, HI.out]; exact HO3'.out) HRow.out HGr.out)
          clear HKd HOld HG3 HO3' HRow HGr HBx
          go_roundg (2 * l.length - (j + 1))
          case measure => omega
          case rel => exact ⟨j + 1, ks ++ [(g3, c3)], by omega, by first | rfl | simp, ⟨by rw [List.length_append, HKL.out]; rfl⟩, HKE, HBy⟩
    · have hjn : j = 2 * l.length := by omega
      obtain ⟨A5, c5, hv⟩ := own_slice HK.out.row
      subst hv
      rw [slices_length] at HK ⊢
      have hkl : ks.length ≤ 2097152 := by have := HKL.out; omega
      obtain ⟨O, hO⟩ : ∃ O : Nat → List ByteArray, O = fun m => three l (m % l.length) := ⟨_, rfl⟩
      have HO := Aside0.mk (show ∀ m, (O m).length = 3 from fun m => by rw [hO]; rfl)
      rw [← hO] at HK
      have HK2 := Aside0.mk (HK.out.congr (fun m => (F2_zero O m).symm))
      obtain ⟨n, hn⟩ : ∃ n, ks.length = n := ⟨_, rfl⟩
      have HN := Aside0.mk hn
      rw [hn] at HK2 hkl ⊢
      clear HK hjn hO HKL hn HR HC HS H0
      go_wp2_with (fail)
      clear hlt hj hl
      go_loopg [9, 10] n (fun g v9 _ wx => ∃ i : Nat, i + g = n ∧ v9 = .int .i64 i ∧ Aside0 (Kept w.heap.size (.slice A5 n c5) ks (F2 O i 0) wx) ∧ Aside0 (Below w.heap.size w wx))
      case atStart => exact ⟨0, by omega, rfl, HK2, HB⟩
      case round =>
        clear HK2 HB
        obtain ⟨i, hi, rfl, HK, HB⟩ := hrel
        by_cases hin : i < n
        · go_wp2_with (fail)
          go_loopg [10] 3 (fun g v10 wx => ∃ k : Nat, k + g = 3 ∧ v10 = .int .i64 k ∧ Aside0 (Kept w.heap.size (.slice A5 n c5) ks (F2 O i k) wx) ∧ Aside0 (Below w.heap.size w wx))
          case atStart => exact ⟨0, by omega, rfl, HK, HB⟩
          case round =>
            clear HK HB
            obtain ⟨k, hk, rfl, HK, HB⟩ := hrel
            by_cases hk3 : k < 3
            · obtain ⟨gk, x, hA5, hx, hcx, hox, hfx⟩ := HK.out.at_ HN.out hin hk3
              subst hA5
              have HX := Aside0.mk hx
              have hk0 : (0 : Int) ≤ (k : Int) := by omega
              have hk1 : (k : Int) < 3 := by omega
              have hi1 : (i : Int) < (n : Int) := by omega
              clear hx
              go_upto_region 20 with (fail)
              go_region_with (go_at_call 14; refine (word_any _ _ _).mono ?_; rintro e w2 ⟨rfl, hb2⟩; have HB2 : Aside0 (Below wr.heap.size wr w2) := ⟨below_chain (below_drew (Below.refl _ wr)) hb2⟩; have hcx2 := pw_cell_below HB2.out hcx; have hox2 := pw_cell_below HB2.out hox; have hfx2 := (HB2.out.frozen (World.block_lt_of_cell? _ _ hox)).trans hfx; clear hb2)
              all_goals
                go_wp2_with (fail)
                go_roundg (3 - (k + 1))
                case measure => omega
                case rel => exact ⟨k + 1, by omega, by first | rfl | simp, ⟨((HK.out.below HB2.out).set HX.out (wd i k)).congr (F2_next O i k (HO.out i) hk3)⟩, ⟨(below_chain HB.out HB2.out).setCell (by have := own_base (HK.out.kin.inner i x HX.out) x.1 rfl; simpa using this) _⟩⟩
            · obtain rfl : k = 3 := by omega
              go_wp2_with (fail)
              go_roundg (n - (i + 1))
              case measure => omega
              case rel => exact ⟨i + 1, by omega, by first | rfl | simp, ⟨HK.out.congr (F2_done O i (HO.out i))⟩, HB⟩
        · obtain rfl : i = n := by omega
          have HW := Aside0.mk (HK.out.congr' (fun m hm => F2_all O i m (by rw [HN.out] at hm; exact hm)))
          have HM0 := Aside0.mk (show More w.heap.size 0 (.slice A5 i c5) (.slice none 0 0) ks [] wr from ⟨HW.out.row, own_nil _ _ _ _, .inl rfl, HW.out.kin, by simp, by simp⟩)
          clear HW HK
          go_wp2_with (fail)
          clear hin hi
          obtain ⟨n, rfl⟩ : ∃ n, n = i := ⟨i, rfl⟩
          go_loopg [11, 12, 13, 14] n (fun g v11 v12 _ _ wx => ∃ (i : Nat) (ms : List (Nat × Nat)), i + g = n ∧ v12 = .int .i64 i ∧ Aside0 (ms.length = i) ∧ Aside0 (More w.heap.size 0 (.slice A5 n c5) v11 ks ms wx) ∧ Aside0 (Below w.heap.size w wx))
          case atStart => exact ⟨0, [], by omega, rfl, ⟨rfl⟩, HM0, HB⟩
          case round =>
            clear HM0 HB
            obtain ⟨i, ms, hi, rfl, HML, HM, HB⟩ := hrel
            by_cases hin : i < n
            · obtain ⟨gk, x, hA5, hx, hcx⟩ := HM.out.at_ HN.out hin
              subst hA5
              have HX := Aside0.mk hx
              have hi1 : (i : Int) < (n : Int) := by omega
              clear hx
              go_wp2_with (fail)
              obtain ⟨wo, rfl⟩ : ∃ wo : World, wo = wr := ⟨_, rfl⟩
              have hx0 := HM.out.kin.inner i x HX.out
              have HKlt := Aside0.mk (fun (j : Nat) y (hy : ks[j]? = some y) => HM.out.kin.lt hy)
              have HMlt := Aside0.mk (fun (j : Nat) y (hy : ms[j]? = some y) => own_lt (HM.out.min j y hy) y.1 rfl)
              go_loopg [13, 14] 67 (fun g v13 v14 wx => ∃ k gb cb : Nat, k + g = 70 ∧ v14 = .int .i64 k ∧ v13 = .slice (some ⟨gb, 0, none⟩) k cb ∧ Aside0 (3 ≤ k) ∧ Aside0 (wx.ownsRow w.heap.size 9 1 (.slice (some ⟨gb, 0, none⟩) k cb) k ((wds i k).map Value.string)) ∧
                Aside0 ((gb = x.1 ∧ cb = x.2) ∨ wo.heap.size ≤ gb) ∧ Aside0 (More w.heap.size 0 (.slice (some ⟨gk, 0, none⟩) n c5) u11 ks ms wx) ∧ Aside0 (wo.heap.size ≤ wx.heap.size) ∧ Aside0 (Below w.heap.size w wx))
              case atStart => exact ⟨3, x.1, x.2, rfl, rfl, rfl, ⟨Nat.le_refl _⟩, ⟨hx0⟩, ⟨.inl ⟨rfl, rfl⟩⟩, HM, ⟨Nat.le_refl _⟩, HB⟩
              case round =>
                clear HM HB hcx hx0
                obtain ⟨k, gb, cb, hk, rfl, rfl, HK3, HO, HG, HM, HS, HB⟩ := hrel
                by_cases hk70 : k < 70
                · have hk1 : (k : Int) < 70 := by omega
                  go_wp2_with (first
                    | (go_at_call 14; refine (word_any _ _ _).mono ?_; rintro e w2 ⟨rfl, hb2⟩; have HO2 := Aside0.mk (pw_own_below HO.out hb2); have HM2 := Aside0.mk (HM.out.below hb2); have HS2 := Aside0.mk (Nat.le_trans HS.out hb2.size); have HB2 := Aside0.mk (below_chain HB.out hb2); clear hb2)
                    | ((with_reducible refine gate_builtin (b := .append) (xs := #[.tmp 111, .tmp 115]) rfl ?_); at_builtin; refine append_one rfl (.tmp 111) (.tmp 115) 23 9 (.string ⟨#[]⟩) 16 rfl Try.underlying23 info9o rfl w.heap.size gb k cb ((wds i k).map Value.string) (.string (wd i k)) rfl rfl rfl HO2.out HB2.out.size (by unfold maxLen; omega) (by omega) ?_; intro g' cap' w5 ho hcase; have HO3 := Aside0.mk ho; have HC3 := Aside0.mk hcase; clear ho hcase))
                  have HF := Aside0.mk (more_step HX.out HML.out HK3.out HKlt.out HMlt.out HG.out HS2.out HO2.out HM2.out HO3.out HC3.out)
                  have HB5 := Aside0.mk (below_more HB2.out HO2.out HC3.out HB2.out.size)
                  clear HO2 HM2 HC3 HS2 HB2
                  go_roundg (70 - (k + 1))
                  case measure => omega
                  case rel => exact ⟨k + 1, g', cap', by omega, by first | rfl | simp, by first | rfl | simp, ⟨by have := HK3.out; omega⟩, ⟨by rw [wds_succ, List.map_append]; exact HO3.out⟩, ⟨HF.out.1⟩, ⟨HF.out.2.1⟩, ⟨HF.out.2.2⟩, HB5⟩
                · obtain rfl : k = 70 := by omega
                  have hml : ms.length ≤ 2097152 := by have := HML.out; omega
                  go_wp2_with ((with_reducible refine gate_builtin (b := .append) (xs := #[.tmp 117, .tmp 119]) rfl ?_); at_builtin; refine print_append (w0 := w) w.heap.size rfl (.tmp 117) (.tmp 119) 35 23 (.slice none 0 0) 24 rfl Try.underlying35 info23o rfl (by decide) u11 (slices 70 ms) (.slice (some ⟨gb, 0, none⟩) 70 cb) rfl rfl rfl ?aO ?aB ?aS ?aL ?_; (case aB => exact HB.out); (case aO => exact HM.out.rowM); (case aS => exact HB.out.size); (case aL => rw [slices_length]; omega); intro v1 w5 ho hb hg hat; have HRow := Aside0.mk ho; have HBy := Aside0.mk hb; have HGr := Aside0.mk hg; have HAt := Aside0.mk hat; clear ho hb hg hat)
                  have HF := Aside0.mk (more_next HX.out HML.out HKlt.out HG.out HO.out HM.out HRow.out HGr.out HAt.out)
                  clear HM HRow HGr HAt HO HG HB
                  go_roundg (n - (i + 1))
                  case measure => omega
                  case rel => exact ⟨i + 1, ms ++ [(gb, cb)], by omega, by first | rfl | simp, ⟨by rw [List.length_append, HML.out]; rfl⟩, HF, HBy⟩
            · obtain rfl : i = n := by omega
              obtain ⟨Am, cm, hv⟩ := own_slice HM.out.rowM
              subst hv
              rw [slices_length, HML.out] at HM ⊢
              go_wp2_with (fail)
              clear hin hi
              obtain ⟨n, rfl⟩ : ∃ n, n = i := ⟨i, rfl⟩
              go_loopg [15, 16] n (fun g v15 _ wx => ∃ i : Nat, i + g = n ∧ v15 = .int .i64 i ∧ Aside0 (More w.heap.size 0 (.slice A5 n c5) (.slice Am n cm) ks ms wx) ∧ Aside0 (Below w.heap.size w wx))
              case atStart => exact ⟨0, by omega, rfl, HM, HB⟩
              case round =>
                clear HM HB
                obtain ⟨i, hi, rfl, HM, HB⟩ := hrel
                by_cases hin : i < n
                · have hi1 : (i : Int) < (n : Int) := by omega
                  go_wp2_with (fail)
                  go_loopg [16] 70 (fun g v16 wx => ∃ k : Nat, k + g = 70 ∧ v16 = .int .i64 k ∧ Aside0 (More w.heap.size 0 (.slice A5 n c5) (.slice Am n cm) ks ms wx) ∧ Aside0 (Below w.heap.size w wx))
                  case atStart => exact ⟨0, by omega, rfl, HM, HB⟩
                  case round =>
                    clear HM HB
                    obtain ⟨k, hk, rfl, HM, HB⟩ := hrel
                    by_cases hk70 : k < 70
                    · obtain ⟨gk, gm, x, y, hA5, hAm, c1, c2, c3, c4⟩ := HM.out.all_ HN.out HML.out hin hk70
                      subst hA5 hAm
                      have hk1 : (k : Int) < 70 := by omega
                      have hbn : ((wd i k).toList != (wd i k).toList) = false := bne_self_eq_false _
                      by_cases hk3 : k < 3
                      · have c4 := c4 hk3
                        have hk3' : (k : Int) < 3 := by omega
                        go_upto_region 37 with (fail)
                        go_cut [158] (fun v158 wc => v158 = .bool false ∧ Aside0 (Below wr.heap.size wr wc))
                        case first =>
                          go_region_held3 (fun w' => w'.cell? ⟨gm, i, none⟩ = some (.slice (some ⟨y, 0, none⟩) 70 (ms.getD i (0, 0)).2) ∧ w'.cell? ⟨y, k, none⟩ = some (.string (wd i k)) ∧ w'.cell? ⟨gk, i, none⟩ = some (.slice (some ⟨x, 0, none⟩) 3 (ks.getD i (0, 0)).2) ∧ w'.cell? ⟨x, k, none⟩ = some (.string (wd i k)) ∧ Aside0 (Below wr.heap.size wr w'))
                            (first | exact keep5_start c1 c2 c3 c4 | ((go_split_ands; first | exact keep5_below (by assumption) (by assumption) (by assumption) (by assumption) (by assumption) (by assumption) | exact keep5_drewN _ (by assumption) (by assumption) (by assumption) (by assumption) (by assumption))))
                            (first
                              | (go_at_call 14; refine (word_any _ _ _).mono ?_; rintro e w2 ⟨rfl, hb2⟩))
                          go_wp2_with (fail)
                          go_meet
                          case rel => exact ⟨rfl, by go_split_ands; assumption⟩
                        case rest =>
                          obtain ⟨rfl, HBc⟩ := hcut
                          have HM2 := Aside0.mk (HM.out.below HBc.out)
                          have HB2 := Aside0.mk (below_chain HB.out HBc.out)
                          clear HM HB HBc c1 c2 c3 c4
                          go_wp2_with (fail)
                          go_roundg (70 - (k + 1))
                          case measure => omega
                          case rel => exact ⟨k + 1, by omega, by first | rfl | simp, HM2, HB2⟩
                      · have hk3' : decide ((k : Int) < 3) = false := decide_eq_false (by omega)
                        have hk3'' : decide (k < 3) = false := decide_eq_false hk3
                        clear hk3 c4
                        go_upto_region 37 with (fail)
                        go_cut [158] (fun v158 wc => v158 = .bool false ∧ Aside0 (Below wr.heap.size wr wc))
                        case first =>
                          refine wp_region_held_drew (S := fun w' => w'.cell? ⟨gm, i, none⟩ = some (.slice (some ⟨y, 0, none⟩) 70 (ms.getD i (0, 0)).2) ∧ w'.cell? ⟨y, k, none⟩ = some (.string (wd i k)) ∧ Aside0 (Below wr.heap.size wr w')) (by kernel_rfl) (keep3_start c1 c2) (fun hHeld => ?_)
                          refine wpAnyH_take (i := 0) (oi := { dst := some 131, op := Op.move (Operand.tmp 11), type := 35, pos := "outright.go:487", after := #[], guard := none }) (v := ?_) rfl (by kernel_rfl) (by kernel_rfl) (by kernel_rfl) (fun _ _ _ h => h) (Or.inl ⟨by first | kernel_rfl | rfl, ?_⟩) (by assumption) ?_
                          rotate_left
                          · intro w hSw; (try dsimp only at hSw); go_simp; (try with_reducible rfl)
                          try simp only [Act.put, List.setIfInBounds_toArray, List.set_cons_zero, List.set_cons_succ]
                          refine wpAnyH_take (i := 1) (oi := { dst := some 132, op := Op.move (Operand.tmp 15), type := 3, pos := "outright.go:487", after := #[], guard := none }) (v := ?_) rfl (by kernel_rfl) (by kernel_rfl) (by kernel_rfl) (fun _ _ _ h => h) (Or.inl ⟨by first | kernel_rfl | rfl, ?_⟩) (by assumption) ?_
                          rotate_left
                          · intro w hSw; (try dsimp only at hSw); go_simp; (try with_reducible rfl)
                          try simp only [Act.put, List.setIfInBounds_toArray, List.set_cons_zero, List.set_cons_succ]
                          refine wpAnyH_take (i := 2) (oi := { dst := some 133, op := Op.indexAddr 35 (Operand.tmp 131) (Operand.tmp 132), type := 0, pos := "outright.go:487", after := #[{ on := 0, ground := Ground.data }, { on := 1, ground := Ground.data }], guard := none }) (v := ?_) rfl (by kernel_rfl) (by kernel_rfl) (by kernel_rfl) (fun _ _ _ h => h) (Or.inl ⟨by first | kernel_rfl | rfl, ?_⟩) (by assumption) ?_
                          rotate_left
                          · intro w hSw; (try dsimp only at hSw); go_simp; (try with_reducible rfl)
                          try simp only [Act.put, List.setIfInBounds_toArray, List.set_cons_zero, List.set_cons_succ]
                          refine wpAnyH_take (i := 3) (oi := { dst := some 134, op := Op.load 23 (Operand.tmp 133), type := 23, pos := "outright.go:487", after := #[{ on := 2, ground := Ground.data }], guard := none }) (v := ?_) rfl (by kernel_rfl) (by kernel_rfl) (by kernel_rfl) (fun _ _ _ h => h) (Or.inl ⟨by first | kernel_rfl | rfl, ?_⟩) (by assumption) ?_
                          rotate_left
                          · intro w hSw; (try dsimp only at hSw); go_simp; (try with_reducible rfl)
                          try simp only [Act.put, List.setIfInBounds_toArray, List.set_cons_zero, List.set_cons_succ]
                          refine wpAnyH_take (i := 4) (oi := { dst := some 135, op := Op.move (Operand.tmp 16), type := 3, pos := "outright.go:487", after := #[], guard := none }) (v := ?_) rfl (by kernel_rfl) (by kernel_rfl) (by kernel_rfl) (fun _ _ _ h => h) (Or.inl ⟨by first | kernel_rfl | rfl, ?_⟩) (by assumption) ?_
                          rotate_left
                          · intro w hSw; (try dsimp only at hSw); go_simp; (try with_reducible rfl)
                          try simp only [Act.put, List.setIfInBounds_toArray, List.set_cons_zero, List.set_cons_succ]
                          refine wpAnyH_take (i := 5) (oi := { dst := some 136, op := Op.indexAddr 23 (Operand.tmp 134) (Operand.tmp 135), type := 0, pos := "outright.go:487", after := #[{ on := 3, ground := Ground.data }, { on := 4, ground := Ground.data }], guard := none }) (v := ?_) rfl (by kernel_rfl) (by kernel_rfl) (by kernel_rfl) (fun _ _ _ h => h) (Or.inl ⟨by first | kernel_rfl | rfl, ?_⟩) (by assumption) ?_
                          rotate_left
                          · intro w hSw; (try dsimp only at hSw); go_simp; (try with_reducible rfl)
                          try simp only [Act.put, List.setIfInBounds_toArray, List.set_cons_zero, List.set_cons_succ]
                          refine wpAnyH_take (i := 6) (oi := { dst := some 137, op := Op.load 9 (Operand.tmp 136), type := 9, pos := "outright.go:487", after := #[{ on := 5, ground := Ground.data }], guard := none }) (v := ?_) rfl (by kernel_rfl) (by kernel_rfl) (by kernel_rfl) (fun _ _ _ h => h) (Or.inl ⟨by first | kernel_rfl | rfl, ?_⟩) (by assumption) ?_
                          rotate_left
                          · intro w hSw; (try dsimp only at hSw); go_simp; (try with_reducible rfl)
                          try simp only [Act.put, List.setIfInBounds_toArray, List.set_cons_zero, List.set_cons_succ]
                          refine wpAnyH_take (i := 7) (oi := { dst := some 138, op := Op.move (Operand.tmp 15), type := 3, pos := "outright.go:487", after := #[], guard := none }) (v := ?_) rfl (by kernel_rfl) (by kernel_rfl) (by kernel_rfl) (fun _ _ _ h => h) (Or.inl ⟨by first | kernel_rfl | rfl, ?_⟩) (by assumption) ?_
                          rotate_left
                          · intro w hSw; (try dsimp only at hSw); go_simp; (try with_reducible rfl)
                          try simp only [Act.put, List.setIfInBounds_toArray, List.set_cons_zero, List.set_cons_succ]
                          refine wpAnyH_take (i := 8) (oi := { dst := some 139, op := Op.move (Operand.tmp 16), type := 3, pos := "outright.go:487", after := #[], guard := none }) (v := ?_) rfl (by kernel_rfl) (by kernel_rfl) (by kernel_rfl) (fun _ _ _ h => h) (Or.inl ⟨by first | kernel_rfl | rfl, ?_⟩) (by assumption) ?_
                          rotate_left
                          · intro w hSw; (try dsimp only at hSw); go_simp; (try with_reducible rfl)
                          try simp only [Act.put, List.setIfInBounds_toArray, List.set_cons_zero, List.set_cons_succ]
                          refine wpAnyH_ready (rs := [9]) (by kernel_rfl) (by simp) ?_
                          refine AllReadyH.cons (o := { dst := some 140, op := Op.call { callee := Callee.value (Operand.func 14), args := #[Operand.tmp 138, Operand.tmp 139], argTypes := #[3, 3] }, type := 9, pos := "outright.go:487", after := #[{ on := 7, ground := Ground.data }, { on := 8, ground := Ground.data }], guard := none }) rfl (fun K hK => ?_) AllReadyH.nil
                          go_simp
                          go_at_call 14; refine (word_any _ _ _).mono ?_; rintro e w2 ⟨rfl, hb2⟩
                          go_wp2_with fail
                          refine hK.out _ _ (by go_split_ands; exact keep3_below (by assumption) (by assumption) (by assumption) (by assumption)) (fun hHeld2 => ?_)
                          clear hK K hHeld hb2
                          try simp only [Act.put, List.setIfInBounds_toArray, List.set_cons_zero, List.set_cons_succ]
                          refine wpAnyH_take (i := 10) (oi := { dst := some 141, op := Op.binOp BinOp.neq 9 (Operand.tmp 137) (Operand.tmp 140) 9, type := 4, pos := "outright.go:487", after := #[{ on := 6, ground := Ground.data }, { on := 9, ground := Ground.data }], guard := none }) (v := ?_) rfl (by kernel_rfl) (by kernel_rfl) (by kernel_rfl) (fun _ _ _ h => h) (Or.inl ⟨by first | kernel_rfl | rfl, ?_⟩) (by assumption) ?_
                          rotate_left
                          · intro w hSw; (try dsimp only at hSw); go_simp; (try with_reducible rfl)
                          try simp only [Act.put, List.setIfInBounds_toArray, List.set_cons_zero, List.set_cons_succ]
                          refine wpAnyH_take (i := 11) (oi := { dst := some 142, op := Op.move (Operand.tmp 141), type := 4, pos := "outright.go:487", after := #[{ on := 10, ground := Ground.data }, { on := 9, ground := Ground.chain }], guard := none }) (v := ?_) rfl (by kernel_rfl) (by kernel_rfl) (by kernel_rfl) (fun _ _ _ h => h) (Or.inl ⟨by first | kernel_rfl | rfl, ?_⟩) (by assumption) ?_
                          rotate_left
                          · intro w hSw; (try dsimp only at hSw); go_simp; (try with_reducible rfl)
                          try simp only [Act.put, List.setIfInBounds_toArray, List.set_cons_zero, List.set_cons_succ]
                          refine wpAnyH_take (i := 12) (oi := { dst := some 143, op := Op.move (Operand.tmp 16), type := 3, pos := "outright.go:487", after := #[{ on := 11, ground := Ground.guard }], guard := some (11, false) }) (v := ?_) rfl (by kernel_rfl) (by kernel_rfl) (by kernel_rfl) (fun _ _ _ h => h) (Or.inl ⟨by first | kernel_rfl | rfl, ?_⟩) (by assumption) ?_
                          rotate_left
                          · intro w hSw; (try dsimp only at hSw); go_simp; (try with_reducible rfl)
                          try simp only [Act.put, List.setIfInBounds_toArray, List.set_cons_zero, List.set_cons_succ]
                          refine wpAnyH_take (i := 13) (oi := { dst := some 144, op := Op.binOp BinOp.lss 3 (Operand.tmp 143) (Operand.const (Value.int IntKind.i64 3)) 3, type := 4, pos := "outright.go:487", after := #[{ on := 12, ground := Ground.data }, { on := 11, ground := Ground.guard }], guard := some (11, false) }) (v := ?_) rfl (by kernel_rfl) (by kernel_rfl) (by kernel_rfl) (fun _ _ _ h => h) (Or.inl ⟨by first | kernel_rfl | rfl, ?_⟩) (by assumption) ?_
                          rotate_left
                          · intro w hSw; (try dsimp only at hSw); go_simp; (try with_reducible rfl)
                          try simp only [Act.put, List.setIfInBounds_toArray, List.set_cons_zero, List.set_cons_succ]
                          refine wpAnyH_take (i := 14) (oi := { dst := some 145, op := Op.move (Operand.tmp 144), type := 4, pos := "outright.go:487", after := #[{ on := 13, ground := Ground.data }, { on := 11, ground := Ground.chain }, { on := 11, ground := Ground.guard }], guard := some (11, false) }) (v := ?_) rfl (by kernel_rfl) (by kernel_rfl) (by kernel_rfl) (fun _ _ _ h => h) (Or.inl ⟨by first | kernel_rfl | rfl, ?_⟩) (by assumption) ?_
                          rotate_left
                          · intro w hSw; (try dsimp only at hSw); go_simp; (try with_reducible rfl)
                          try simp only [Act.put, List.setIfInBounds_toArray, List.set_cons_zero, List.set_cons_succ]
                          refine wpAnyH_take (i := 15) (oi := { dst := some 146, op := Op.move (Operand.tmp 5), type := 35, pos := "outright.go:487", after := #[{ on := 14, ground := Ground.guard }], guard := some (14, true) }) rfl (by kernel_rfl) (by kernel_rfl) (by kernel_rfl) (fun _ _ _ h => h) (Or.inr ⟨by first | kernel_rfl | rfl, rfl⟩) (by assumption) ?_
                          try simp only [Act.put, List.setIfInBounds_toArray, List.set_cons_zero, List.set_cons_succ]
                          refine wpAnyH_take (i := 16) (oi := { dst := some 147, op := Op.move (Operand.tmp 15), type := 3, pos := "outright.go:487", after := #[{ on := 14, ground := Ground.guard }], guard := some (14, true) }) rfl (by kernel_rfl) (by kernel_rfl) (by kernel_rfl) (fun _ _ _ h => h) (Or.inr ⟨by first | kernel_rfl | rfl, rfl⟩) (by assumption) ?_
                          try simp only [Act.put, List.setIfInBounds_toArray, List.set_cons_zero, List.set_cons_succ]
                          refine wpAnyH_take (i := 17) (oi := { dst := some 148, op := Op.indexAddr 35 (Operand.tmp 146) (Operand.tmp 147), type := 0, pos := "outright.go:487", after := #[{ on := 15, ground := Ground.data }, { on := 16, ground := Ground.data }, { on := 14, ground := Ground.guard }], guard := some (14, true) }) rfl (by kernel_rfl) (by kernel_rfl) (by kernel_rfl) (fun _ _ _ h => h) (Or.inr ⟨by first | kernel_rfl | rfl, rfl⟩) (by assumption) ?_
                          try simp only [Act.put, List.setIfInBounds_toArray, List.set_cons_zero, List.set_cons_succ]
                          refine wpAnyH_take (i := 18) (oi := { dst := some 149, op := Op.load 23 (Operand.tmp 148), type := 23, pos := "outright.go:487", after := #[{ on := 17, ground := Ground.data }, { on := 14, ground := Ground.guard }], guard := some (14, true) }) rfl (by kernel_rfl) (by kernel_rfl) (by kernel_rfl) (fun _ _ _ h => h) (Or.inr ⟨by first | kernel_rfl | rfl, rfl⟩) (by assumption) ?_
                          try simp only [Act.put, List.setIfInBounds_toArray, List.set_cons_zero, List.set_cons_succ]
                          refine wpAnyH_take (i := 19) (oi := { dst := some 150, op := Op.move (Operand.tmp 16), type := 3, pos := "outright.go:487", after := #[{ on := 14, ground := Ground.guard }], guard := some (14, true) }) rfl (by kernel_rfl) (by kernel_rfl) (by kernel_rfl) (fun _ _ _ h => h) (Or.inr ⟨by first | kernel_rfl | rfl, rfl⟩) (by assumption) ?_
                          try simp only [Act.put, List.setIfInBounds_toArray, List.set_cons_zero, List.set_cons_succ]
                          refine wpAnyH_take (i := 20) (oi := { dst := some 151, op := Op.indexAddr 23 (Operand.tmp 149) (Operand.tmp 150), type := 0, pos := "outright.go:487", after := #[{ on := 18, ground := Ground.data }, { on := 19, ground := Ground.data }, { on := 14, ground := Ground.guard }], guard := some (14, true) }) rfl (by kernel_rfl) (by kernel_rfl) (by kernel_rfl) (fun _ _ _ h => h) (Or.inr ⟨by first | kernel_rfl | rfl, rfl⟩) (by assumption) ?_
                          try simp only [Act.put, List.setIfInBounds_toArray, List.set_cons_zero, List.set_cons_succ]
                          refine wpAnyH_take (i := 21) (oi := { dst := some 152, op := Op.load 9 (Operand.tmp 151), type := 9, pos := "outright.go:487", after := #[{ on := 20, ground := Ground.data }, { on := 14, ground := Ground.guard }], guard := some (14, true) }) rfl (by kernel_rfl) (by kernel_rfl) (by kernel_rfl) (fun _ _ _ h => h) (Or.inr ⟨by first | kernel_rfl | rfl, rfl⟩) (by assumption) ?_
                          try simp only [Act.put, List.setIfInBounds_toArray, List.set_cons_zero, List.set_cons_succ]
                          refine wpAnyH_take (i := 22) (oi := { dst := some 153, op := Op.move (Operand.tmp 15), type := 3, pos := "outright.go:487", after := #[{ on := 14, ground := Ground.guard }], guard := some (14, true) }) rfl (by kernel_rfl) (by kernel_rfl) (by kernel_rfl) (fun _ _ _ h => h) (Or.inr ⟨by first | kernel_rfl | rfl, rfl⟩) (by assumption) ?_
                          try simp only [Act.put, List.setIfInBounds_toArray, List.set_cons_zero, List.set_cons_succ]
                          refine wpAnyH_take (i := 23) (oi := { dst := some 154, op := Op.move (Operand.tmp 16), type := 3, pos := "outright.go:487", after := #[{ on := 14, ground := Ground.guard }], guard := some (14, true) }) rfl (by kernel_rfl) (by kernel_rfl) (by kernel_rfl) (fun _ _ _ h => h) (Or.inr ⟨by first | kernel_rfl | rfl, rfl⟩) (by assumption) ?_
                          try simp only [Act.put, List.setIfInBounds_toArray, List.set_cons_zero, List.set_cons_succ]
                          refine wpAnyH_take (i := 24) (oi := { dst := some 155, op := Op.call { callee := Callee.value (Operand.func 14), args := #[Operand.tmp 153, Operand.tmp 154], argTypes := #[3, 3] }, type := 9, pos := "outright.go:487", after := #[{ on := 22, ground := Ground.data }, { on := 23, ground := Ground.data }, { on := 14, ground := Ground.chain }, { on := 14, ground := Ground.guard }], guard := some (14, true) }) rfl (by kernel_rfl) (by kernel_rfl) (by kernel_rfl) (fun _ _ _ h => h) (Or.inr ⟨by first | kernel_rfl | rfl, rfl⟩) (by assumption) ?_
                          try simp only [Act.put, List.setIfInBounds_toArray, List.set_cons_zero, List.set_cons_succ]
                          refine wpAnyH_take (i := 25) (oi := { dst := some 156, op := Op.binOp BinOp.neq 9 (Operand.tmp 152) (Operand.tmp 155) 9, type := 4, pos := "outright.go:487", after := #[{ on := 21, ground := Ground.data }, { on := 24, ground := Ground.data }, { on := 14, ground := Ground.guard }], guard := some (14, true) }) rfl (by kernel_rfl) (by kernel_rfl) (by kernel_rfl) (fun _ _ _ h => h) (Or.inr ⟨by first | kernel_rfl | rfl, rfl⟩) (by assumption) ?_
                          try simp only [Act.put, List.setIfInBounds_toArray, List.set_cons_zero, List.set_cons_succ]
                          refine wpAnyH_take (i := 26) (oi := { dst := some 157, op := Op.pick (Operand.tmp 145) (Operand.tmp 156) (Operand.const (Value.bool false)), type := 4, pos := "outright.go:487", after := #[{ on := 14, ground := Ground.data }, { on := 25, ground := Ground.data }, { on := 11, ground := Ground.guard }], guard := some (11, false) }) (v := ?_) rfl (by kernel_rfl) (by kernel_rfl) (by kernel_rfl) (fun _ _ _ h => h) (Or.inl ⟨by first | kernel_rfl | rfl, ?_⟩) (by assumption) ?_
                          rotate_left
                          · intro w hSw; (try dsimp only at hSw); go_simp; (try with_reducible rfl)
                          try simp only [Act.put, List.setIfInBounds_toArray, List.set_cons_zero, List.set_cons_succ]
                          refine wpAnyH_take (i := 27) (oi := { dst := some 158, op := Op.pick (Operand.tmp 142) (Operand.const (Value.bool true)) (Operand.tmp 157), type := 4, pos := "outright.go:487", after := #[{ on := 11, ground := Ground.data }, { on := 26, ground := Ground.data }], guard := none }) (v := ?_) rfl (by kernel_rfl) (by kernel_rfl) (by kernel_rfl) (fun _ _ _ h => h) (Or.inl ⟨by first | kernel_rfl | rfl, ?_⟩) (by assumption) ?_
                          rotate_left
                          · intro w hSw; (try dsimp only at hSw); go_simp; (try with_reducible rfl)
                          try simp only [Act.put, List.setIfInBounds_toArray, List.set_cons_zero, List.set_cons_succ]
                          refine wpAnyH_done (by kernel_rfl) ?_ _
                          go_wp2_with (fail)
                          go_meet
                          case rel => exact ⟨rfl, by go_split_ands; assumption⟩
                        case rest =>
                          obtain ⟨rfl, HBc⟩ := hcut
                          have HM2 := Aside0.mk (HM.out.below HBc.out)
                          have HB2 := Aside0.mk (below_chain HB.out HBc.out)
                          clear HM HB HBc c1 c2 c3
                          go_wp2_with (fail)
                          go_roundg (70 - (k + 1))
                          case measure => omega
                          case rel => exact ⟨k + 1, by omega, by first | rfl | simp, HM2, HB2⟩
                    · obtain rfl : k = 70 := by omega
                      go_wp2_with (fail)
                      go_roundg (n - (i + 1))
                      case measure => omega
                      case rel => exact ⟨i + 1, by omega, by first | rfl | simp, HM, HB⟩
                · obtain rfl : i = n := by omega
                  go_wp2_with (fail)
                  go_ret
                  exact ⟨rfl, HB.out⟩

end Go.Proofs.Ytjlgfcgdagikgaa.walkOwn
