/- Packed by this session's own program (wip/tools/pack.py): what the claim needs of its texts. -/
import Derived.Test.YtkfikinjlbbibaaDoorUPuD
import Derived.Test.YtkfikinjlbbibaaDoorUName
import Derived.Test.YtkfikinjlbbibaaDoorUW
import Derived.Maps.OwnOps
import Derived.Deep.RegionLaw
import Derived.Lib.LastIndexByte
import Derived.Deep.QuietTactic
import Derived.BigQuiet
import Derived.WalkSpells
import Derived.WalkKit
namespace Go.Proofs.YtkfikinjlbbibaaDoor
open Go.RowKit Go.Lib Go.Maps Go.WideAt Go.WideMaps
open Go.Proofs.YtkfikinjlbbibaaDoorW.PrintWords Go.Proofs.YtkfikinjlbbibaaDoorW.PrintLast Go.Proofs.YtkfikinjlbbibaaDoor.PT
set_option linter.unusedVariables false
set_option linter.unusedSimpArgs false
def kget : List (ByteArray × Int) → ByteArray → Int
  | [], _ => 0
  | (q, n) :: l, p => if q = p then n else kget l p
def dirOf (p : ByteArray) : ByteArray := p.extract 0 (Lib.lastIndexByte p 47).toNat
def bareP (x : It) : Bool := decide (x.f3 = 0) && decide (x.f4.length = 0) && decide (x.f5.length = 0)
def itemOk (K : List (ByteArray × Int)) (x : It) : Bool :=
  if x.f0 = 1 then decide (x.f2.size = 0) && filledP x.f3 x.f4 x.f5
  else if x.f0 = 2 then bareP x && decide (x.f2.size = 0)
  else if x.f0 = 3 then bareP x && (decide (x.f2.size ≠ 0) && (decide (x.f2.size ≤ 255) && decide (Lib.indexByte (bs x.f2) 0 < 0)))
  else if x.f0 = 4 then bareP x && decide (kget K x.f2 = 1)
  else false
def rightGo : List (ByteArray × Int) → Option (List ByteArray) → List It → Bool
  | _, _, [] => true
  | K, before, x :: l => (cutP x.f1).2 && (before.all fun b => aheadP b (cutP x.f1).1) && decide (kget K (dirOf x.f1) = 2) && itemOk K x && rightGo ((x.f1, x.f0) :: K) (some (cutP x.f1).1) l
def rightP (l : List It) : Bool := rightGo [(⟨#[]⟩, 2)] none l
structure Fit (x : It) : Prop where
  p : x.f1.size ≤ 140737488351232
  t : x.f2.size ≤ 140737488351232
  r : x.f4.length ≤ 140737488351232
  d : x.f5.length ≤ 140737488351232
  b : ∀ n ∈ x.f5, 0 ≤ n ∧ n ≤ 255
theorem lawS : Keyed Tryd.prog 9 := string_keyed Tryd.underlying9
theorem zeroI : ∀ w : World, (zeroValue 3).run Tryd.prog w = .ok (.int .i64 0) w := fun w => by kernel_rfl
def keyL (p : ByteArray) : Lit := .string p.data.toList
theorem keyS (p : ByteArray) (h : p.size ≤ 140737488351232) : keyOf Tryd.prog 9 (.string p) = some (keyL p) := keyOf_string_mk Tryd.underlying9 (by unfold maxLen; omega)
def MapAs (w : World) (b n : Nat) (K : List (ByteArray × Int)) : Prop :=
  ∃ D : DataW Unit, w.ownsMap Tryd.prog 9 (plainElem Tryd.prog 3) b n D ∧ ∀ p : ByteArray, D.atKey (keyL p) (.lit (.int .i64 0)) = .lit (.int .i64 (kget K p))
theorem wpList_insert_own {H : Type} {P : Program} (w : World) {ops : Array Oper} {rest : List Oper} {o : Oper} {a : Act} {Q : Exit → Act → World → Prop}
    (hg : o.guard = none) (m x v : Operand) (t : TypeId) (hop : o.op = Op.insert t m x v)
    (k e : TypeId) (K : Keyed P k) (ht : P.underlying t = some (.map k e)) (R : Value → Option (DataW H × List MemPlace)) (b n : Nat) (D : DataW H)
    (hm : a.eval m = .map (some b)) (hown : w.ownsMap P k R b n D) (hn : n < maxLen) (key val : Value) (kl : Lit) (hx : a.eval x = key) (hv : a.eval v = val) (hkey : keyOf P k key = some kl)
    (d : DataW H) (ps : List MemPlace) (hval : R val = some (d, ps))
    (hK : ∀ w', w'.ownsMap P k R b (n + 1) (D.put kl d) → w.grownBy w' (some b) → wpList P ops Q rest (a.put o.dst undef) w') :
    wpList P ops Q (o :: rest) a w := by
  refine wpList_plain hg fun K' hK' => ?_
  obtain ⟨w', hrun, r1, r2⟩ := hown.update K ht hn hkey hval
  unfold Oper.wp
  simp [execOp, hop, hm, hx, hv, hrun, Result.andThen]
  exact hK' _ _ (hK w' r1 r2)
theorem keyL_inj {p q : ByteArray} (h : keyL p = keyL q) : p = q := by
  unfold keyL at h
  injection h with h
  exact bs_inj h
theorem elemI (n : Int) (h0 : -9223372036854775808 ≤ n) (h1 : n ≤ 9223372036854775807) : plainElem (H := Unit) Tryd.prog 3 (.int .i64 n) = some (.lit (.int .i64 n), []) := plainElem_int Tryd.underlying3 (WalkArith.wf_i64 ⟨h0, h1⟩)
theorem mapAs_put {w : World} {b n : Nat} {K : List (ByteArray × Int)} {D : DataW Unit} {p : ByteArray} {v : Int} (h : w.ownsMap Tryd.prog 9 (plainElem Tryd.prog 3) b n (D.put (keyL p) (.lit (.int .i64 v))))
    (hD : IsMap D) (hat : ∀ p : ByteArray, D.atKey (keyL p) (.lit (.int .i64 0)) = .lit (.int .i64 (kget K p))) : MapAs w b n ((p, v) :: K) := by
  refine ⟨_, h, fun q => ?_⟩
  by_cases e : p = q
  · subst e
    rw [atKey_put_same hD (by exact trivial)]
    simp [kget]
  · rw [atKey_put_other (fun h => e (keyL_inj h).symm), hat, kget, if_neg e]
theorem IsMap_nil : IsMap (.map [] : DataW Unit) := ⟨[], rfl⟩
theorem MapAs.below {w w1 : World} {b n : Nat} {K : List (ByteArray × Int)} (h : MapAs w b n K) (hb : Below w.heap.size w w1) : MapAs w1 b n K := by
  obtain ⟨D, ⟨es, clock, h1, F, hs, hD⟩, hat⟩ := h
  exact ⟨D, ⟨es, clock, blk_below h1 hb, F, hs, hD⟩, hat⟩
theorem MapAs.look {w : World} {b n : Nat} {K : List (ByteArray × Int)} (h : MapAs w b n K) (p : ByteArray) (hp : p.size ≤ 140737488351232) :
    (Instr.lookup 48 (.map (some b)) (.string p) false).run Tryd.prog w = .ok (.int .i64 (kget K p)) w := by
  obtain ⟨D, hown, hat⟩ := h
  obtain ⟨c, hrun, hc, _⟩ := hown.lookup_int lawS Tryd.underlying48 Tryd.underlying3 (zeroI w) (keyS p hp)
  rw [hat p] at hc
  have hc2 := (Lit.int.inj (DataW.lit.inj hc)).2
  rw [hc2]
  exact hrun
theorem MapAs.drewN {w : World} {b n : Nat} {K : List (ByteArray × Int)} (h : MapAs w b n K) (m : Nat) : MapAs (w.drewN m) b n K := h.below (pw_below_drewN (Below.refl _ _) m)
theorem cut_true {s : ByteArray} {l : List ByteArray} (h : cutP s = (l, true)) : s.size ≤ 1023 ∧ slashed s = true ∧ l = partsP s ∧ (partsP s).all nameOk = true := by
  unfold cutP at h
  split at h
  · rename_i hc
    injection h with h _
    exact ⟨hc.1, hc.2.1, h.symm, hc.2.2⟩
  · cases h
theorem slash_last {s : ByteArray} (h : slashed s = true) : ∃ i : Nat, Lib.lastIndexByte s 47 = i ∧ i < s.size := by
  have hs := slashed_size h
  rcases Lib.lastIndexByte_spec s 47 with ⟨_, hn⟩ | ⟨i, hi, e, _⟩
  · exfalso
    have h := of_decide_eq_true h
    have h0 := hn 0 (by omega)
    cases hb : bs s with
    | nil => rw [hb] at h; cases h
    | cons a l =>
      rw [hb] at h
      injection h with h
      subst h
      apply h0
      have : s = mkB (47 :: l) := by rw [← hb, mkB_bs]
      rw [this]
      rfl
  · exact ⟨i, e, hi⟩
def BefV (v : Value) (w : World) (before : Option (List ByteArray)) : Prop :=
  (before = none ∧ v = .slice none 0 0) ∨ ∃ A b c, before = some b ∧ v = .slice (some A) b.length c ∧ b.length ≤ c ∧ b.length ≤ 1024 ∧ Kd.C Kd.string w (some A) b.length b
theorem io1 {K : List (ByteArray × Int)} {x : It} (h : x.f0 = 1) (hs : x.f2.size = 0) : itemOk K x = filledP x.f3 x.f4 x.f5 := by
  unfold itemOk
  rw [if_pos h, decide_eq_true hs, Bool.true_and]
theorem io1' {K : List (ByteArray × Int)} {x : It} (h : x.f0 = 1) (hs : ¬ x.f2.size = 0) : itemOk K x = false := by
  unfold itemOk
  rw [if_pos h, decide_eq_false hs, Bool.false_and]
theorem io2 {K : List (ByteArray × Int)} {x : It} (h1 : ¬ x.f0 = 1) (h : x.f0 = 2) : itemOk K x = (bareP x && decide (x.f2.size = 0)) := by
  unfold itemOk
  rw [if_neg h1, if_pos h]
theorem io3 {K : List (ByteArray × Int)} {x : It} (h1 : ¬ x.f0 = 1) (h2 : ¬ x.f0 = 2) (h : x.f0 = 3) : itemOk K x = (bareP x && (decide (x.f2.size ≠ 0) && (decide (x.f2.size ≤ 255) && decide (Lib.indexByte (bs x.f2) 0 < 0)))) := by
  unfold itemOk
  rw [if_neg h1, if_neg h2, if_pos h]
theorem io4 {K : List (ByteArray × Int)} {x : It} (h1 : ¬ x.f0 = 1) (h2 : ¬ x.f0 = 2) (h3 : ¬ x.f0 = 3) (h : x.f0 = 4) : itemOk K x = (bareP x && decide (kget K x.f2 = 1)) := by
  unfold itemOk
  rw [if_neg h1, if_neg h2, if_neg h3, if_pos h]
theorem io5 {K : List (ByteArray × Int)} {x : It} (h1 : ¬ x.f0 = 1) (h2 : ¬ x.f0 = 2) (h3 : ¬ x.f0 = 3) (h : ¬ x.f0 = 4) : itemOk K x = false := by
  unfold itemOk
  rw [if_neg h1, if_neg h2, if_neg h3, if_neg h]
theorem itemOk_kind {K : List (ByteArray × Int)} {x : It} (h : itemOk K x = true) : 1 ≤ x.f0 ∧ x.f0 ≤ 4 := by
  unfold itemOk at h
  by_cases h1 : x.f0 = 1
  · omega
  · by_cases h2 : x.f0 = 2
    · omega
    · by_cases h3 : x.f0 = 3
      · omega
      · by_cases h4 : x.f0 = 4
        · omega
        · rw [if_neg h1, if_neg h2, if_neg h3, if_neg h4] at h
          cases h
theorem strs_map {w w' : World} {A : Option Addr} {n N : Nat} {xs : List ByteArray} {es : Array MapEntry} {cl : Nat} (h : Kd.C Kd.string w A n xs) (hm : w.heap[N]? = some (.map es cl)) (hg : w.grownBy w' (some N)) : Kd.C Kd.string w' A n xs := by
  obtain ⟨h1, h2, h3⟩ := h
  refine ⟨h1, h2, fun hn => ?_⟩
  obtain ⟨ad, rfl, hc⟩ := h3 hn
  refine ⟨ad, rfl, fun j p hj => ?_⟩
  obtain ⟨c, e1, e2, e3⟩ := hc j p hj
  refine ⟨c, e1, e2, fun i u hi => ?_⟩
  have hcell := e3 i u hi
  have hlt := World.block_lt_of_cell? w _ hcell
  have hne : (ad.add (j * Kd.string.sz + i)).block ≠ N := by
    intro e
    unfold World.cell? at hcell
    rw [e, hm] at hcell
    simp at hcell
  rw [← hcell]
  unfold World.cell?
  rw [hg.block _ hlt (fun e => hne (Option.some.inj e))]
set_option maxHeartbeats 16000000 in
set_option maxRecDepth 100000 in
theorem right_any (A0 : Option Addr) (c0 : Nat) (l : List It) (w : World) (hr : Kd.C k27 w A0 l.length l) (hc : l.length ≤ c0) (hf : ∀ x ∈ l, Fit x) (hl : l.length ≤ 1048576) :
    Calls Tryd.prog 27 #[.slice A0 l.length c0] w fun e w' => e = .returned (.bool (rightP l)) ∧ Below w.heap.size w w' := by
  have HR := Aside0.mk hr
  have HF := Aside0.mk hf
  have hmm := @run_makeMap Tryd.prog
  clear hr hf
  go_enter Tryd.func27, Tryd.ntmps27
  go_wp2_with (refine wpList_insert_own _ rfl (.tmp 10) (.const (.string ⟨#[]⟩)) (.const (.int .i64 2)) 48 rfl 9 3 lawS Tryd.underlying48 (plainElem (H := Unit) Tryd.prog 3) w.heap.size 0 _ rfl (World.ownsMap_made _ _ _ _) (by unfold maxLen; omega) _ _ (keyL ⟨#[]⟩) rfl rfl (keyS _ (by decide)) (.lit (.int .i64 2)) [] (elemI 2 (by decide) (by decide)) ?_; intro w1 hm1 hg1; clear hmm)
  have HM1 := Aside0.mk (mapAs_put (K := []) hm1 IsMap_nil (fun p => by rfl))
  have HB1 := Aside0.mk (show Below w.heap.size w w1 from ((Below.refl w.heap.size w).alloc (Nat.le_refl _) _).grown hg1 (by simp) (fun k e => by cases e; exact Nat.le_refl _))
  clear hm1 hg1
  go_loopg [4, 14] l.length (fun g s4 s14 wx => ∃ (i : Nat) (K : List (ByteArray × Int)) (before : Option (List ByteArray)) (vb : Value), i + g = l.length ∧ s14 = .int .i64 i ∧ vb = s4 ∧ Aside0 (rightGo K before (l.drop i) = rightP l) ∧ Aside0 (BefV vb wx before) ∧ Aside0 (MapAs wx w.heap.size (i + 1) K) ∧ Aside0 (Below w.heap.size w wx))
  case atStart => exact ⟨0, _, none, _, by omega, rfl, rfl, ⟨by rw [List.drop_zero]; rfl⟩, ⟨.inl ⟨rfl, rfl⟩⟩, HM1, HB1⟩
  case round =>
    clear HM1 HB1
    obtain ⟨i, K, before, vb, hig, rfl, rfl, HG, HV, HM, HB⟩ := hrel
    by_cases hi : i < l.length
    · have hd : decide ((i : Int) < (l.length : Int)) = true := decide_eq_true (by omega)
      have hd2 : decide (i < l.length) = true := decide_eq_true hi
      obtain ⟨ad, A4, c4, A5, c5, hA, r0, r1, r2, r3, r4, r5, l4, g4, l5, g5⟩ := at_T27 (Kd.C_below HR.out HB.out) (i : Int) (by omega) (by omega)
      rw [Int.toNat_natCast] at r0 r1 r2 r3 r4 r5
      have hrd : rd_T27 l (i : Int) = l[i]'hi := by simp [rd_T27, hi]
      have HFx := Aside0.mk (HF.out (l[i]'hi) (List.getElem_mem hi))
      have hg0 := HG.out
      rw [List.drop_eq_getElem_cons hi] at hg0
      obtain ⟨x, hx⟩ : ∃ x, l[i]'hi = x := ⟨_, rfl⟩
      rw [hrd, hx] at r0 r1 r2 r3 r4 r5 l4 g4 l5 g5
      rw [hx] at hg0 HFx
      have HG := Aside0.mk hg0
      have HX4 := Aside0.mk g4
      have HX5 := Aside0.mk g5
      have HA := Aside0.mk hA
      subst hA
      clear hrd hx hg0 g4 g5
      obtain ⟨kc, hkc⟩ := Ev.rounds (cut_ev x.f1)
      obtain ⟨cp, hcp⟩ : ∃ cp, cutP x.f1 = cp := ⟨_, rfl⟩
      obtain ⟨pts, okc⟩ := cp
      rw [hcp] at hkc
      have HKC := Aside0.mk hkc
      have HCP := Aside0.mk hcp
      clear hkc hcp
      have hbx := blk_new wr (.cells #[.int .i64 x.f0, .string x.f1, .string x.f2, .int .i64 x.f3, .slice A4 x.f4.length c4, .slice A5 x.f5.length c5] 27)
      have HBX := Aside0.mk hbx
      clear hbx
      go_wp2_with fail
      refine (dump_cut.calls kc x.f1 pts okc _ HKC.out).mono ?_
      rintro e w2 ⟨v2, rfl, hr2, hb2⟩
      have hba := (Below.refl wr.heap.size wr).alloc (Nat.le_refl _) (.cells #[.int .i64 x.f0, .string x.f1, .string x.f2, .int .i64 x.f3, .slice A4 x.f4.length c4, .slice A5 x.f5.length c5] 27)
      have hbw : Below wr.heap.size wr w2 := hba.trans (hb2.mono hba.size)
      have HB2 := Aside0.mk (HB.out.trans (hbw.mono HB.out.size))
      have HBX2 := Aside0.mk (blk_below HBX.out hb2)
      have HM2 := Aside0.mk (HM.out.below hbw)
      have HX4 := Aside0.mk (Kd.C_below HX4.out hbw)
      have HX5 := Aside0.mk (Kd.C_below HX5.out hbw)
      have HV2 : Aside0 (BefV vb w2 before) := ⟨by
        rcases HV.out with ⟨e1, e2⟩ | ⟨A, b, c, e1, e2, e3, e4, e5⟩
        · exact .inl ⟨e1, e2⟩
        · exact .inr ⟨A, b, c, e1, e2, e3, e4, Kd.C_below e5 hbw⟩⟩
      obtain ⟨Ap, cpp, ev2, hcap2, hread2⟩ := Kd.R_reads hr2
      subst ev2
      have HRP := Aside0.mk hread2
      clear hba hbw hr2 hb2 hread2 HB HM HV HBX r0 r1 r2 r3 r4 r5
      go_upto_region 7 with (fail)
      go_cut [35] (fun v35 wc => v35 = .bool (!(okc && (before.all fun b => aheadP b pts))) ∧ Aside0 (Drawn0 w2 wc))
      case first =>
        cases okc with
        | false =>
          go_wp2_with fail
          go_meet
          case rel => exact ⟨rfl, ⟨Drawn0.refl _⟩⟩
        | true =>
          rcases HV2.out with ⟨rfl, rfl⟩ | ⟨A, b, c, rfl, rfl, e3, e4, e5⟩
          · have hne := run_neq_slice_nil_any (P := Tryd.prog) w2 75 9 none 0 0 0 0 Tryd.underlying75
            go_wp2_with fail
            go_meet
            case rel => exact ⟨rfl, ⟨Drawn0.refl _⟩⟩
          · have hne := run_neq_slice_nil_any (P := Tryd.prog) w2 75 9 (some A) b.length c 0 0 Tryd.underlying75
            obtain ⟨ka, hka⟩ := Ev.rounds (ahead_ev b pts (by omega))
            obtain ⟨ra, hra⟩ : ∃ r, aheadP b pts = r := ⟨_, rfl⟩
            rw [hra] at hka
            have HKA := Aside0.mk hka
            have HRA := Aside0.mk hra
            have HE5 := Aside0.mk e5
            clear hka hra e5
            go_wp2_with fail
            refine (dump_ahead.calls ka (some A) c b Ap cpp pts ra w2 HE5.out e3 HRP.out hcap2 HKA.out).mono ?_
            rintro e w3 ⟨rfl, hdr⟩
            have HDR := Aside0.mk hdr
            clear hdr
            go_wp2_with fail
            go_meet
            case rel => exact ⟨by rw [Option.all_some, HRA.out]; rfl, HDR⟩
      case rest =>
        obtain ⟨rfl, HWC⟩ := hcut
        have hwc := HWC.out.below
        have HB := Aside0.mk (HB2.out.trans (hwc.mono HB2.out.size))
        have hbx := blk_below HBX2.out hwc
        have HBX := Aside0.mk hbx
        have HM := Aside0.mk (HM2.out.below hwc)
        have HX4 := Aside0.mk (Kd.C_below HX4.out hwc)
        have HX5 := Aside0.mk (Kd.C_below HX5.out hwc)
        have HRP3 := Aside0.mk (Kd.C_below HRP.out hwc)
        clear hwc HB2 HBX2 HM2 HRP HV2 HWC
        have d0 : wc.cell? ⟨wr.heap.size, 0, none⟩ = some (.int .i64 x.f0) := by rw [blk_cell hbx]; rfl
        have d1 : wc.cell? ⟨wr.heap.size, 1, none⟩ = some (.string x.f1) := by rw [blk_cell hbx]; rfl
        have d2 : wc.cell? ⟨wr.heap.size, 2, none⟩ = some (.string x.f2) := by rw [blk_cell hbx]; rfl
        have d3 : wc.cell? ⟨wr.heap.size, 3, none⟩ = some (.int .i64 x.f3) := by rw [blk_cell hbx]; rfl
        have d4 : wc.cell? ⟨wr.heap.size, 4, none⟩ = some (.slice A4 x.f4.length c4) := by rw [blk_cell hbx]; rfl
        have d5 : wc.cell? ⟨wr.heap.size, 5, none⟩ = some (.slice A5 x.f5.length c5) := by rw [blk_cell hbx]; rfl
        have hzx := blk_lt hbx
        clear hbx
        obtain ⟨pass, hpass⟩ : ∃ p, (okc && (before.all fun b => aheadP b pts)) = p := ⟨_, rfl⟩
        rw [hpass]
        have HPS := Aside0.mk hpass
        clear hpass
        cases pass with
        | false =>
          go_wp2_with fail
          go_ret
          refine ⟨?_, HB.out⟩
          have h := HG.out
          rw [rightGo, HCP.out] at h
          have h2 : (okc && (before.all fun b => aheadP b pts)) = false := HPS.out
          simp only [h2, Bool.false_and] at h
          rw [← h]
          rfl
        | true =>
          have hps : (okc && (before.all fun b => aheadP b pts)) = true := HPS.out
          have hok : okc = true := (Bool.and_eq_true_iff.1 hps).1
          subst hok
          obtain ⟨hsz, hsl, hpts, _⟩ := cut_true HCP.out
          obtain ⟨li, hli, hlt⟩ := slash_last hsl
          have hdir : dirOf x.f1 = x.f1.extract 0 li := by unfold dirOf; rw [hli]; rfl
          have hlk := (HM.out.below (below_drew (Below.refl _ _))).look (x.f1.extract 0 li) (by rw [ByteArray.size_extract]; omega)
          obtain ⟨kd, hkd⟩ : ∃ c, kget K (x.f1.extract 0 li) = c := ⟨_, rfl⟩
          rw [hkd] at hlk
          have HKD := Aside0.mk hkd
          clear hkd
          have HDIR := Aside0.mk hdir
          have c1 : (0 : Int) ≤ (li : Int) := by omega
          have c2 : (li : Int) ≤ (x.f1.size : Int) := by omega
          have hcl : ∀ W : World, Calls Tryd.prog 23 #[.string x.f1, .int .u8 47] W fun e w' => e = .returned (.int .i64 li) ∧ w' = W := fun W => by
            have c := Tryd.strings_LastIndexByte x.f1 47 (by omega) W
            rw [hli] at c
            exact c
          have HCL := Aside0.mk hcl
          clear hcl hli
          clear hps hsl hpts hdir
          go_wp2_with fail
          obtain ⟨wa, rfl⟩ : ∃ wa, wa = wc := ⟨_, rfl⟩
          go_cut [45] (fun v45 wd => v45 = .bool (kd != 2) ∧ Aside0 (Drawn0 wa wd))
          case first =>
            go_region_with (go_at_call 23; refine (HCL.out _).mono ?_; rintro e w' ⟨rfl, rfl⟩)
            all_goals (
              go_wp2_with fail
              go_meet
              case rel => exact ⟨rfl, ⟨⟨1, rfl⟩⟩⟩)
          case rest =>
            obtain ⟨rfl, HWD⟩ := hcut
            have hwd := HWD.out.below
            have HB1 := Aside0.mk (HB.out.trans (hwd.mono HB.out.size))
            have hbx := blk_below HBX.out hwd
            have HBX1 := Aside0.mk hbx
            have HM1 := Aside0.mk (HM.out.below hwd)
            have HX4 := Aside0.mk (Kd.C_below HX4.out hwd)
            have HX5 := Aside0.mk (Kd.C_below HX5.out hwd)
            have HRP1 := Aside0.mk (Kd.C_below HRP3.out hwd)
            clear hwd HB HBX HM HRP3 HWD d0 d1 d2 d3 d4 d5 hzx HCL hlk
            have d0 : wc.cell? ⟨wr.heap.size, 0, none⟩ = some (.int .i64 x.f0) := by rw [blk_cell hbx]; rfl
            have d1 : wc.cell? ⟨wr.heap.size, 1, none⟩ = some (.string x.f1) := by rw [blk_cell hbx]; rfl
            have d2 : wc.cell? ⟨wr.heap.size, 2, none⟩ = some (.string x.f2) := by rw [blk_cell hbx]; rfl
            have d3 : wc.cell? ⟨wr.heap.size, 3, none⟩ = some (.int .i64 x.f3) := by rw [blk_cell hbx]; rfl
            have d4 : wc.cell? ⟨wr.heap.size, 4, none⟩ = some (.slice A4 x.f4.length c4) := by rw [blk_cell hbx]; rfl
            have d5 : wc.cell? ⟨wr.heap.size, 5, none⟩ = some (.slice A5 x.f5.length c5) := by rw [blk_cell hbx]; rfl
            have hzx := blk_lt hbx
            clear hbx
            by_cases hk2 : kd = 2
            · have hk2b : (kd != 2) = false := by rw [hk2]; rfl
              have HK2 := Aside0.mk hk2
              clear hk2
              obtain ⟨wb, rfl⟩ : ∃ wb, wb = wc := ⟨_, rfl⟩
              go_upto_region 12 with (fail)
              go_cut [9] (fun v9 wd => v9 = .bool (bareP x) ∧ Aside0 (wd = wb))
              case first =>
                by_cases b3 : x.f3 = 0
                · have b3b : (x.f3 == 0) = true := beq_iff_eq.2 b3
                  have H3 := Aside0.mk b3
                  clear b3
                  by_cases b4 : x.f4.length = 0
                  · have b4b : ((x.f4.length : Int) == 0) = true := beq_iff_eq.2 (by omega)
                    have H4 := Aside0.mk b4
                    clear b4
                    by_cases b5 : x.f5.length = 0
                    · have b5b : ((x.f5.length : Int) == 0) = true := beq_iff_eq.2 (by omega)
                      have H5 := Aside0.mk b5
                      clear b5
                      go_wp2_with fail
                      go_meet
                      case rel => exact ⟨by unfold bareP; rw [decide_eq_true H3.out, decide_eq_true H4.out, decide_eq_true H5.out]; rfl, ⟨rfl⟩⟩
                    · have b5b : ((x.f5.length : Int) == 0) = false := beq_eq_false_iff_ne.2 (by omega)
                      have H5 := Aside0.mk b5
                      clear b5
                      go_wp2_with fail
                      go_meet
                      case rel => exact ⟨by unfold bareP; rw [decide_eq_true H3.out, decide_eq_true H4.out, decide_eq_false H5.out]; rfl, ⟨rfl⟩⟩
                  · have b4b : ((x.f4.length : Int) == 0) = false := beq_eq_false_iff_ne.2 (by omega)
                    have H4 := Aside0.mk b4
                    clear b4
                    go_wp2_with fail
                    go_meet
                    case rel => exact ⟨by unfold bareP; rw [decide_eq_true H3.out, decide_eq_false H4.out]; rfl, ⟨rfl⟩⟩
                · have b3b : (x.f3 == 0) = false := beq_eq_false_iff_ne.2 b3
                  have H3 := Aside0.mk b3
                  clear b3
                  go_wp2_with fail
                  go_meet
                  case rel => exact ⟨by unfold bareP; rw [decide_eq_false H3.out]; rfl, ⟨rfl⟩⟩
              case rest =>
                obtain ⟨rfl, HWB⟩ := hcut
                have hwb := HWB.out
                subst hwb
                obtain ⟨wb, rfl⟩ : ∃ wb, wb = wc := ⟨_, rfl⟩
                obtain ⟨bb, hbb⟩ : ∃ bb, bareP x = bb := ⟨_, rfl⟩
                rw [hbb]
                have HBB := Aside0.mk hbb
                clear hbb
                go_upto_block 2 with (fail)
                go_cut [8] (fun v8 wd => v8 = .bool (itemOk K x) ∧ Aside0 (Below wb.heap.size wb wd))
                case first =>
                  have hz1 : x.f2.size = 0 → x.f2.toList = [] := fun h => by
                    rw [Lib.toList_data]
                    exact List.eq_nil_of_length_eq_zero (by rw [data_length]; exact h)
                  have hz2 : x.f2.size ≠ 0 → x.f2.toList.isEmpty = false := fun h => by
                    cases hc : x.f2.toList with
                    | nil => rw [Lib.toList_data] at hc; have := data_length x.f2; rw [hc] at this; exact absurd this.symm h
                    | cons _ _ => rfl
                  have HZ1 := Aside0.mk hz1
                  have HZ2 := Aside0.mk hz2
                  have HREF := Aside0.mk (Below.refl wb.heap.size wb)
                  clear hz1 hz2
                  by_cases k1 : x.f0 = 1
                  · have t1 : (x.f0 == 1) = true := beq_iff_eq.2 k1
                    have HK1 := Aside0.mk k1
                    clear k1
                    by_cases hs : x.f2.size = 0
                    · have h1 := HZ1.out hs
                      have h2 : x.f2.toList.isEmpty = true := by rw [h1]; rfl
                      have hE := io1 (K := K) HK1.out hs
                      obtain ⟨kf, hkf⟩ := Ev.rounds (filled_ev x.f0 x.f1 x.f2 x.f3 x.f4 x.f5 (by have := HFx.out.r; omega) (by have := HFx.out.d; omega))
                      obtain ⟨rf, hrf⟩ : ∃ r, filledP x.f3 x.f4 x.f5 = r := ⟨_, rfl⟩
                      rw [hrf] at hkf hE
                      have HE := Aside0.mk hE
                      clear hE
                      have HKF := Aside0.mk hkf
                      clear hs h1 hkf hrf
                      go_wp2_with fail
                      refine (dump_filled.calls kf x.f0 x.f1 x.f2 x.f3 A4 c4 x.f4 A5 c5 x.f5 rf wb HX4.out l4 HX5.out l5 HKF.out).mono ?_
                      rintro e w3 ⟨rfl, hb3⟩
                      have HB3 := Aside0.mk hb3
                      clear hb3
                      go_wp2_with fail
                      go_meet
                      case rel => exact ⟨by rw [HE.out], HB3⟩
                    · have h2 := HZ2.out hs
                      have HE := Aside0.mk (io1' (K := K) HK1.out hs)
                      clear hs
                      go_wp2_with fail
                      go_meet
                      case rel => exact ⟨by rw [HE.out], HREF⟩
                  · have t1 : (x.f0 == 1) = false := beq_eq_false_iff_ne.2 k1
                    have HN1 := Aside0.mk k1
                    clear k1
                    by_cases k2 : x.f0 = 2
                    · have t2 : (x.f0 == 2) = true := beq_iff_eq.2 k2
                      have HE2 := Aside0.mk (io2 (K := K) HN1.out k2)
                      clear k2
                      cases bb with
                      | false =>
                        have HE := Aside0.mk (show itemOk K x = false by rw [HE2.out, HBB.out]; rfl)
                        go_wp2_with fail
                        go_meet
                        case rel => exact ⟨by rw [HE.out], HREF⟩
                      | true =>
                        by_cases hs : x.f2.size = 0
                        · have h1 := HZ1.out hs
                          have h2 : x.f2.toList.isEmpty = true := by rw [h1]; rfl
                          have HE := Aside0.mk (show itemOk K x = true by rw [HE2.out, HBB.out, decide_eq_true hs]; rfl)
                          clear hs h1
                          go_wp2_with fail
                          go_meet
                          case rel => exact ⟨by rw [HE.out], HREF⟩
                        · have h2 := HZ2.out hs
                          have HE := Aside0.mk (show itemOk K x = false by rw [HE2.out, HBB.out, decide_eq_false hs]; rfl)
                          clear hs
                          go_wp2_with fail
                          go_meet
                          case rel => exact ⟨by rw [HE.out], HREF⟩
                    · have t2 : (x.f0 == 2) = false := beq_eq_false_iff_ne.2 k2
                      have HN2 := Aside0.mk k2
                      clear k2
                      by_cases k3 : x.f0 = 3
                      · have t3 : (x.f0 == 3) = true := beq_iff_eq.2 k3
                        have HE2 := Aside0.mk (io3 (K := K) HN1.out HN2.out k3)
                        clear k3
                        cases bb with
                        | false =>
                          have HE := Aside0.mk (show itemOk K x = false by rw [HE2.out, HBB.out]; rfl)
                          go_wp2_with fail
                          go_meet
                          case rel => exact ⟨by rw [HE.out], HREF⟩
                        | true =>
                          by_cases hs : x.f2.size = 0
                          · have h1 := HZ1.out hs
                            have h2 : x.f2.toList.isEmpty = true := by rw [h1]; rfl
                            have HE := Aside0.mk (show itemOk K x = false by rw [HE2.out, HBB.out, decide_eq_false (fun h => h hs)]; rfl)
                            clear hs h1
                            go_wp2_with fail
                            go_meet
                            case rel => exact ⟨by rw [HE.out], HREF⟩
                          · have h2 := HZ2.out hs
                            have HS := Aside0.mk hs
                            clear hs
                            by_cases h255 : x.f2.size ≤ 255
                            · have h255b : decide ((x.f2.size : Int) ≤ 255) = true := decide_eq_true (by omega)
                              have H255 := Aside0.mk h255
                              obtain ⟨ib, hib⟩ : ∃ r, Lib.indexByte (bs x.f2) 0 = r := ⟨_, rfl⟩
                              have hcl : ∀ W : World, Calls Tryd.prog 43 #[.string x.f2, .int .u8 0] W fun e w' => e = .returned (.int .i64 ib) ∧ w' = W := fun W => by
                                have c := Tryd.strings_IndexByte x.f2 0 W
                                rw [show Lib.indexByte x.f2.data.toList (Int.toNat 0).toUInt8 = ib from hib] at c
                                exact c
                              have HIB := Aside0.mk hib
                              have HCL := Aside0.mk hcl
                              clear hib hcl
                              go_wp2_with fail
                              refine (HCL.out _).mono ?_
                              rintro e w' ⟨rfl, rfl⟩
                              by_cases hib0 : ib < 0
                              · have hd0 : decide (ib < 0) = true := decide_eq_true hib0
                                have HE := Aside0.mk (show itemOk K x = decide (ib < 0) by rw [HE2.out, HBB.out, decide_eq_true HS.out, decide_eq_true H255.out, HIB.out]; rfl)
                                have HE := Aside0.mk (HE.out.trans hd0)
                                go_wp2_with fail
                                go_meet
                                case rel => exact ⟨by rw [HE.out], HREF⟩
                              · have hd0 : decide (ib < 0) = false := decide_eq_false hib0
                                have HE := Aside0.mk (show itemOk K x = decide (ib < 0) by rw [HE2.out, HBB.out, decide_eq_true HS.out, decide_eq_true H255.out, HIB.out]; rfl)
                                have HE := Aside0.mk (HE.out.trans hd0)
                                go_wp2_with fail
                                go_meet
                                case rel => exact ⟨by rw [HE.out], HREF⟩
                            · have h255b : decide ((x.f2.size : Int) ≤ 255) = false := decide_eq_false (by omega)
                              have HE := Aside0.mk (show itemOk K x = false by rw [HE2.out, HBB.out, decide_eq_true HS.out, decide_eq_false h255]; rfl)
                              go_wp2_with fail
                              go_meet
                              case rel => exact ⟨by rw [HE.out], HREF⟩
                      · have t3 : (x.f0 == 3) = false := beq_eq_false_iff_ne.2 k3
                        have HN3 := Aside0.mk k3
                        clear k3
                        by_cases k4 : x.f0 = 4
                        · have t4 : (x.f0 == 4) = true := beq_iff_eq.2 k4
                          have HE2 := Aside0.mk (io4 (K := K) HN1.out HN2.out HN3.out k4)
                          clear k4
                          cases bb with
                          | false =>
                            have HE := Aside0.mk (show itemOk K x = false by rw [HE2.out, HBB.out]; rfl)
                            go_wp2_with fail
                            go_meet
                            case rel => exact ⟨by rw [HE.out], HREF⟩
                          | true =>
                            have hlk := HM1.out.look x.f2 HFx.out.t
                            obtain ⟨kt, hkt⟩ : ∃ c, kget K x.f2 = c := ⟨_, rfl⟩
                            rw [hkt] at hlk
                            have HE3 := Aside0.mk (show itemOk K x = decide (kt = 1) by rw [HE2.out, HBB.out, hkt]; rfl)
                            clear hkt
                            by_cases h1 : kt = 1
                            · have h1b : (kt == 1) = true := beq_iff_eq.2 h1
                              have HE := Aside0.mk (HE3.out.trans (decide_eq_true h1))
                              clear h1
                              go_wp2_with fail
                              go_meet
                              case rel => exact ⟨by rw [HE.out], HREF⟩
                            · have h1b : (kt == 1) = false := beq_eq_false_iff_ne.2 h1
                              have HE := Aside0.mk (HE3.out.trans (decide_eq_false h1))
                              clear h1
                              go_wp2_with fail
                              go_meet
                              case rel => exact ⟨by rw [HE.out], HREF⟩
                        · have t4 : (x.f0 == 4) = false := beq_eq_false_iff_ne.2 k4
                          have HE := Aside0.mk (io5 (K := K) HN1.out HN2.out HN3.out k4)
                          clear k4
                          go_wp2_with fail
                          go_meet
                          case rel => exact ⟨by rw [HE.out], HREF⟩
                case rest =>
                  obtain ⟨rfl, HWB⟩ := hcut
                  have hwb := HWB.out
                  have HB3 := Aside0.mk (HB1.out.trans (hwb.mono HB1.out.size))
                  have hbx := blk_below HBX1.out hwb
                  have hm3 := HM1.out.below hwb
                  have HRP3 := Aside0.mk (Kd.C_below HRP1.out hwb)
                  have d0 : wc.cell? ⟨wr.heap.size, 0, none⟩ = some (.int .i64 x.f0) := by rw [blk_cell hbx]; rfl
                  have d1 : wc.cell? ⟨wr.heap.size, 1, none⟩ = some (.string x.f1) := by rw [blk_cell hbx]; rfl
                  have hzx := blk_lt hbx
                  have HM3 := Aside0.mk hm3
                  clear hwb hbx hm3 HB1 HBX1 HM1 HRP1 HWB
                  obtain ⟨io, hio⟩ : ∃ b, itemOk K x = b := ⟨_, rfl⟩
                  rw [hio]
                  have HIO := Aside0.mk hio
                  clear hio
                  cases io with
                  | false =>
                    go_wp2_with fail
                    go_ret
                    refine ⟨?_, HB3.out⟩
                    have h := HG.out
                    rw [rightGo, HIO.out] at h
                    simp only [Bool.and_false, Bool.false_and] at h
                    rw [← h]
                    rfl
                  | true =>
                    have hkind := itemOk_kind HIO.out
                    obtain ⟨hsz3, hsl3, hpts, _⟩ := cut_true HCP.out
                    have hpl := parts_size x.f1
                    rw [← hpts] at hpl
                    obtain ⟨ap, hap, _⟩ := HRP3.out.2.2 (by omega)
                    subst hap
                    have hp1 := hpl.2
                    have hp2 : pts.length ≤ 1024 := by omega
                    have hk1 := hkind.1
                    have hk2 := hkind.2
                    have hib : i + 1 ≤ 1048577 := by omega
                    clear hkind hpts hsl3 hpl
                    obtain ⟨D, hown, hat⟩ := HM3.out
                    have hisD : IsMap D := by
                      obtain ⟨es, cl, _, _, _, hD⟩ := hown
                      exact ⟨_, hD⟩
                    have HOW := Aside0.mk hown
                    have HAT := Aside0.mk hat
                    have HIS := Aside0.mk hisD
                    clear hown hat hisD HM3
                    go_wp2_with (at_mapUpdate; refine wpList_mapUpdate_own _ rfl (.tmp 112) (.tmp 114) (.tmp 116) 48 rfl 9 3 lawS Tryd.underlying48 (plainElem (H := Unit) Tryd.prog 3) w.heap.size (i + 1) D rfl HOW.out (by unfold maxLen; omega) _ _ (keyL x.f1) rfl rfl (keyS _ (by omega)) (.lit (.int .i64 x.f0)) [] (elemI x.f0 (by omega) (by omega)) ?_; intro w4 hm4 hg4)
                    have hHV : BefV (.slice (some ap) pts.length cpp) w4 (some pts) := by
                      obtain ⟨es, cl, hmap, _⟩ := HOW.out
                      exact .inr ⟨ap, pts, cpp, rfl, rfl, hcap2, hp2, strs_map HRP3.out hmap hg4⟩
                    have hHM := mapAs_put hm4 HIS.out HAT.out
                    have hHB : Below w.heap.size w w4 := HB3.out.grown hg4 HB3.out.size (fun k e => by cases e; exact Nat.le_refl _)
                    have hHG : rightGo ((x.f1, x.f0) :: K) (some pts) (l.drop (i + 1)) = rightP l := by
                      have h := HG.out
                      rw [rightGo, HIO.out, HCP.out, HDIR.out, HKD.out, decide_eq_true HK2.out] at h
                      have h2 : (true && (before.all fun b => aheadP b pts)) = true := HPS.out
                      rw [Bool.true_and] at h2
                      simp only [h2, Bool.true_and] at h
                      exact h
                    have HHV := Aside0.mk hHV
                    have HHM := Aside0.mk hHM
                    have HHB := Aside0.mk hHB
                    have HHG := Aside0.mk hHG
                    clear hHV hHM hHB hHG hm4 hg4
                    go_wp2_with fail
                    go_roundg (l.length - (i + 1))
                    case measure => omega
                    case rel => exact ⟨i + 1, _, _, _, by omega, by first | rfl | simp, rfl, HHG, HHV, HHM, HHB⟩
            · have hk2b : (kd != 2) = true := bne_iff_ne.2 hk2
              have HK2 := Aside0.mk hk2
              clear hk2
              go_wp2_with fail
              go_ret
              refine ⟨?_, HB1.out⟩
              have h := HG.out
              rw [rightGo, HCP.out, HDIR.out, HKD.out, decide_eq_false HK2.out] at h
              simp only [Bool.and_false, Bool.false_and] at h
              rw [← h]
              rfl
    · have hd : decide ((i : Int) < (l.length : Int)) = false := decide_eq_false (by omega)
      have hd2 : decide (i < l.length) = false := decide_eq_false hi
      have hE : l.drop i = [] := List.drop_of_length_le (by omega)
      have hg := HG.out
      rw [hE, rightGo] at hg
      have HG := Aside0.mk hg
      clear hg hE HV HM
      go_wp2_with fail
      go_ret
      exact ⟨by rw [← HG.out]; rfl, HB.out⟩
end Go.Proofs.YtkfikinjlbbibaaDoor
