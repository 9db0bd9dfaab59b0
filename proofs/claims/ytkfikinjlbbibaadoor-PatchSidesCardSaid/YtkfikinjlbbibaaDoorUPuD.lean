/- Packed by this session's own program (wip/tools/pack.py): what the claim needs of its texts. -/
import Derived.Test.YtkfikinjlbbibaaDoorUPTx2
import Derived.Test.YtkfikinjlbbibaaDoorUPTx3
import Derived.Test.YtkfikinjlbbibaaDoorUPTx4
namespace Go.Proofs.YtkfikinjlbbibaaDoor
open Go.RowKit Go.Lib
open Go.Proofs.YtkfikinjlbbibaaDoorW.PrintWords Go.Proofs.YtkfikinjlbbibaaDoorW.PrintLast Go.Proofs.YtkfikinjlbbibaaDoor.PT
set_option linter.unusedVariables false
set_option linter.unusedSimpArgs false
abbrev It := S27
abbrev Ru := S73
def bs (s : ByteArray) : List UInt8 := s.data.toList
def mkB (l : List UInt8) : ByteArray := ⟨l.toArray⟩
theorem bs_mkB (l : List UInt8) : bs (mkB l) = l := rfl
theorem mkB_bs (s : ByteArray) : mkB (bs s) = s := rfl
theorem bs_inj {s t : ByteArray} (h : bs s = bs t) : s = t := by rw [← mkB_bs s, h, mkB_bs]
theorem bs_length (s : ByteArray) : (bs s).length = s.size := data_length s
theorem wrap_up {i : Nat} (h : i < 9223372036854775807) : wrap64 ((i : Int) + 1) = ((i + 1 : Nat) : Int) := by
  unfold wrap64
  omega
theorem wrap_in {i : Int} (h0 : -9223372036854775808 ≤ i) (h : i ≤ 9223372036854775807) : wrap64 i = i := by
  unfold wrap64
  omega
def nameOk (p : ByteArray) : Bool := decide (codec_Name.f p = some 0)
theorem name_some (p : ByteArray) : ∃ e, codec_Name.f p = some e ∧ (e = 0 ↔ nameOk p = true) := by
  have h : ∃ e, codec_Name.f p = some e := by
    unfold codec_Name.f
    repeat' split
    all_goals exact ⟨_, rfl⟩
  obtain ⟨e, he⟩ := h
  exact ⟨e, he, by unfold nameOk; rw [he]; simp⟩
def partsP (s : ByteArray) : List ByteArray := splitP (s.extract 1 s.size) ⟨#[47]⟩
def slashed (s : ByteArray) : Bool := decide ((bs s).head? = some 47)
def cutP (s : ByteArray) : List ByteArray × Bool :=
  if s.size ≤ 1023 ∧ slashed s = true ∧ (partsP s).all nameOk = true then (partsP s, true) else ([], false)
theorem rdOf_at {α : Type} (d : α) (xs : List α) (i : Nat) (h : i < xs.length) : rdOf d xs (i : Int) = xs[i] := by simp [rdOf, h]
theorem rd_at (xs : List Int) (i : Nat) (h : i < xs.length) : rd xs (i : Int) = xs[i] := by simp [rd, h]
theorem rdRu_at (xs : List Ru) (i : Nat) (h : i < xs.length) : rd_T73 xs (i : Int) = xs[i] := by simp [rd_T73, h]
theorem cut_loop (x : List ByteArray) (l : List ByteArray) (hl : l.length < 9223372036854775807) : ∀ (d i : Nat), i + d = l.length →
    Ev (fun k => dump_cut.l0 k x l (l.length : Int) i) (if (l.drop i).all nameOk = true then (x, true) else (([] : List ByteArray), false))
  | 0, i, h => by
    have hd : l.drop i = [] := List.drop_of_length_le (by omega)
    rw [hd]
    refine Ev.step (fun k => ?_) (Ev.now _)
    rw [dump_cut.l0, if_neg (by omega)]
    rfl
  | d + 1, i, h => by
    have hi : i < l.length := by omega
    obtain ⟨e, he, hok⟩ := name_some l[i]
    rw [List.drop_eq_getElem_cons hi, List.all_cons]
    by_cases h0 : e = 0
    · rw [hok.1 h0, Bool.true_and]
      refine Ev.step (fun k => ?_) (cut_loop x l hl d (i + 1) (by omega))
      rw [dump_cut.l0, if_pos (by omega), if_pos (by omega), if_pos (by omega), rdOf_at _ l i hi, he, Option.bind_some, if_pos h0, wrap_up (by omega)]
    · have hf : nameOk l[i] = false := by
        cases hn : nameOk l[i] with
        | true => exact absurd (hok.2 hn) h0
        | false => rfl
      rw [hf, Bool.false_and]
      refine Ev.step (fun k => ?_) (Ev.now _)
      rw [dump_cut.l0, if_pos (by omega), if_pos (by omega), if_pos (by omega), rdOf_at _ l i hi, he, Option.bind_some, if_neg h0]
      rfl
theorem slashed_size {s : ByteArray} (h : slashed s = true) : 1 ≤ s.size := by
  have h := of_decide_eq_true h
  cases hb : bs s with
  | nil => rw [hb] at h; cases h
  | cons a l => rw [← bs_length, hb]; simp
theorem hasPrefix_slash (s : ByteArray) : strings_HasPrefix.f s ⟨#[47]⟩ = some (slashed s) := by
  unfold strings_HasPrefix.f stringslite_HasPrefix.f
  have h1 : ((⟨#[47]⟩ : ByteArray).size : Int) = 1 := rfl
  rw [h1]
  by_cases h : (s.size : Int) ≥ 1
  · rw [if_pos h, if_pos (by decide), if_pos h, Option.bind_some]
    congr 1
    have e : (s.extract 0 (Int.toNat 1)) = mkB ((bs s).take 1) := by
      apply bs_inj
      rw [bs_mkB]
      show (s.extract 0 1).data.toList = _
      rw [Lib.extract_data]
      simp [bs]
    rw [e]
    cases hb : bs s with
    | nil => have := bs_length s; rw [hb] at this; simp at this; omega
    | cons a l =>
      unfold slashed
      rw [hb]
      by_cases ha : a = 47
      · subst ha
        have h1 : ((mkB (((47 : UInt8) :: l).take 1)).toList == (⟨#[47]⟩ : ByteArray).toList) = true := (Lib.bytes_beq_iff _ _).2 rfl
        rw [h1]
        simp
      · have h1 : ((mkB ((a :: l).take 1)).toList == (⟨#[47]⟩ : ByteArray).toList) = false := (Lib.bytes_beq_false_iff _ _).2 (fun e => ha (by injection e with e; injection e with e; injection e))
        rw [h1]
        symm
        simpa using ha
  · rw [if_neg h, Option.bind_some]
    congr 1
    cases hb : slashed s with
    | false => rfl
    | true => exact absurd (slashed_size hb) (by omega)
theorem parts_size (s : ByteArray) : (partsP s).length ≤ s.size + 1 ∧ 1 ≤ (partsP s).length := by
  have h1 := Lib.countB_le ⟨#[47]⟩ (by decide) (s.extract 1 s.size).size (s.extract 1 s.size) (Nat.le_refl _)
  have h2 : (partsP s).length = Lib.countB (s.extract 1 s.size) ⟨#[47]⟩ + 1 := Lib.splitB_all ⟨#[47]⟩ (by decide) 0 _ (s.extract 1 s.size) rfl
  rw [ByteArray.size_extract] at h1
  omega
theorem cut_ev (s : ByteArray) : Ev (fun k => dump_cut.f k s) (cutP s) := by
  unfold dump_cut.f cutP
  by_cases h : (s.size : Int) > 1023
  · refine Ev.congr (fun k => by rw [if_pos h]) ?_
    refine Ev.step (fun k => ?_) (Ev.now _)
    rw [dump_cut.j0, if_pos rfl, if_neg (by omega)]
  · refine Ev.congr (fun k => by rw [if_neg h, hasPrefix_slash, Option.bind_some]) ?_
    by_cases hs : slashed s = true
    · have h1 := slashed_size hs
      have hp := parts_size s
      have hsp : strings_Split.f (s.extract 1 s.size) ⟨#[47]⟩ = some (partsP s) := by
        unfold strings_Split.f
        rw [if_pos ⟨by rw [ByteArray.size_extract]; omega, rfl⟩]
        rfl
      refine Ev.step (f := fun k => dump_cut.l0 k (partsP s) (partsP s) ((partsP s).length : Int) 0) (fun k => ?_) ?_
      · rw [dump_cut.j0, if_neg (by rw [hs]; decide), if_pos (by omega), hsp, Option.bind_some]
      · have hc := cut_loop (partsP s) (partsP s) (by omega) (partsP s).length 0 (by omega)
        rw [List.drop_zero] at hc
        by_cases ha : (partsP s).all nameOk = true
        · rw [if_pos ha] at hc
          rw [if_pos ⟨by omega, hs, ha⟩]
          exact hc
        · rw [if_neg ha] at hc
          rw [if_neg (fun h => ha h.2.2)]
          exact hc
    · refine Ev.step (fun k => ?_) (Ev.now _)
      rw [dump_cut.j0, if_pos (by simpa using hs), if_neg (fun h => hs h.2.1)]
def aheadP : List ByteArray → List ByteArray → Bool
  | [], [] => false
  | [], _ :: _ => true
  | _ :: _, [] => false
  | a :: l, b :: m => if bs a = bs b then aheadP l m else Op.bytesLess (bs a) (bs b)
theorem ahead_loop (l m : List ByteArray) (hl : l.length < 9223372036854775807) : ∀ (d i : Nat), i + d = l.length →
    Ev (fun k => dump_ahead.l0 k l m i) (aheadP (l.drop i) (m.drop i))
  | 0, i, h => by
    have hd : l.drop i = [] := List.drop_of_length_le (by omega)
    rw [hd]
    refine Ev.step (f := fun k => dump_ahead.j1 k l m i false) (fun k => by rw [dump_ahead.l0, if_neg (by omega)]) ?_
    refine Ev.step (fun k => ?_) (Ev.now _)
    rw [dump_ahead.j1, if_neg (by decide)]
    by_cases hm : i < m.length
    · rw [List.drop_eq_getElem_cons hm, decide_eq_true (by omega)]
      rfl
    · rw [List.drop_of_length_le (by omega), decide_eq_false (by omega)]
      rfl
  | d + 1, i, h => by
    have hi : i < l.length := by omega
    rw [List.drop_eq_getElem_cons hi]
    by_cases hm : i < m.length
    · refine Ev.step (f := fun k => dump_ahead.j1 k l m i true) (fun k => by rw [dump_ahead.l0, if_pos (by omega), decide_eq_true (by omega)]) ?_
      rw [List.drop_eq_getElem_cons hm, aheadP]
      have e1 := rdOf_at ByteArray.empty l i hi
      have e2 := rdOf_at ByteArray.empty m i hm
      by_cases he : bs l[i] = bs m[i]
      · rw [if_pos he]
        refine Ev.step (fun k => ?_) (ahead_loop l m hl d (i + 1) (by omega))
        rw [dump_ahead.j1, if_pos rfl, if_pos (by omega), if_pos (by omega), if_pos (by omega), e1, e2, if_pos (by rw [bs_inj he]), wrap_up (by omega)]
      · rw [if_neg he]
        refine Ev.step (fun k => ?_) (Ev.now _)
        rw [dump_ahead.j1, if_pos rfl, if_pos (by omega), if_pos (by omega), if_pos (by omega), e1, e2]
        have hne : ¬ l[i].toList = m[i].toList := fun e => he (by have := (Lib.bytes_beq_iff l[i] m[i]).1 (beq_iff_eq.2 e); rw [this])
        rw [if_neg hne, Lib.toList_data, Lib.toList_data]
        rfl
    · refine Ev.step (f := fun k => dump_ahead.j1 k l m i false) (fun k => by rw [dump_ahead.l0, if_pos (by omega), decide_eq_false (by omega)]) ?_
      rw [show m.drop i = [] from List.drop_of_length_le (by omega)]
      refine Ev.step (fun k => ?_) (Ev.now _)
      rw [dump_ahead.j1, if_neg (by decide), decide_eq_false (by omega)]
      rfl
theorem ahead_ev (l m : List ByteArray) (hl : l.length < 9223372036854775807) : Ev (fun k => dump_ahead.f k l m) (aheadP l m) := by
  have h := ahead_loop l m hl l.length 0 (by omega)
  exact h
def runsOk (size : Int) : Int → Int → List Ru → Option (Int × Int)
  | last, all, [] => some (last, all)
  | last, all, r :: l => if r.f0 < 0 ∨ r.f0 ≤ last ∨ r.f1 ≤ r.f0 ∨ r.f1 > (size + 511) / 512 then none else runsOk size r.f1 (all + (r.f1 - r.f0)) l
def fillT (size : Int) (data : List Int) : Option (Int × Int) → Bool
  | none => false
  | some (last, all) => if (data.length : Int) = all * 512 then (if all = 0 then true else (data.drop (data.length - (last * 512 - size).toNat)).all (fun b => decide (b = 0))) else false
def filledP (size : Int) (runs : List Ru) (data : List Int) : Bool := if size < 0 ∨ 8459264 < size then false else fillT size data (runsOk size (-1) 0 runs)
theorem tail_loop (a0 : Int) (a1 a2 : ByteArray) (size last : Int) (runs : List Ru) (data : List Int) (hs : 0 ≤ size) (hl : last ≤ 16522) (hd : data.length ≤ 9223372036854775) : ∀ (d : Nat) (i : Int), size ≤ i → i + d = last * 512 → 0 ≤ (data.length : Int) - last * 512 + i →
    Ev (fun k => dump_filled.l1 k last i a0 a1 a2 size runs data) ((data.drop ((data.length : Int) - last * 512 + i).toNat).all (fun b => decide (b = 0)))
  | 0, i, hi, h, hp => by
    have hw : wrap64 (last * 512) = last * 512 := wrap_in (by omega) (by omega)
    rw [List.drop_of_length_le (by omega)]
    refine Ev.step (fun k => ?_) (Ev.now _)
    rw [dump_filled.l1, hw, if_neg (by omega)]
    rfl
  | d + 1, i, hi, h, hp => by
    have hw : wrap64 (last * 512) = last * 512 := wrap_in (by omega) (by omega)
    have hw2 : wrap64 ((data.length : Int) - last * 512) = (data.length : Int) - last * 512 := wrap_in (by omega) (by omega)
    have hw3 : wrap64 ((data.length : Int) - last * 512 + i) = (data.length : Int) - last * 512 + i := wrap_in (by omega) (by omega)
    have hw4 : wrap64 (i + 1) = i + 1 := wrap_in (by omega) (by omega)
    obtain ⟨p, hpp⟩ : ∃ p : Nat, (data.length : Int) - last * 512 + i = p := ⟨((data.length : Int) - last * 512 + i).toNat, by omega⟩
    have hlt : p < data.length := by omega
    rw [hpp, Int.toNat_natCast, List.drop_eq_getElem_cons hlt, List.all_cons]
    by_cases h0 : data[p] = 0
    · have ih := tail_loop a0 a1 a2 size last runs data hs hl hd d (i + 1) (by omega) (by omega) (by omega)
      rw [show (data.length : Int) - last * 512 + (i + 1) = ((p + 1 : Nat) : Int) by omega, Int.toNat_natCast] at ih
      rw [decide_eq_true h0, Bool.true_and]
      refine Ev.step (fun k => ?_) ih
      rw [dump_filled.l1, hw, if_pos (by omega), hw2, hw3, hpp, if_pos (by omega), if_pos (by omega), rd_at data p hlt, if_pos h0, hw4]
    · rw [decide_eq_false h0, Bool.false_and]
      refine Ev.step (fun k => ?_) (Ev.now _)
      rw [dump_filled.l1, hw, if_pos (by omega), hw2, hw3, hpp, if_pos (by omega), if_pos (by omega), rd_at data p hlt, if_neg h0]
theorem fill_loop (a0 : Int) (a1 a2 : ByteArray) (size : Int) (runs : List Ru) (data : List Int) (hs : 0 ≤ size) (hs2 : size ≤ 8459264) (hr : runs.length < 9223372036854775807) (hd : data.length ≤ 9223372036854775) : ∀ (d i : Nat) (last all : Int), i + d = runs.length → -1 ≤ last → last * 512 ≤ size + 511 → 0 ≤ all → all ≤ last + 1 → (all ≠ 0 → all ≤ last) →
    Ev (fun k => dump_filled.l0 k last all runs (runs.length : Int) i a0 a1 a2 size runs data) (fillT size data (runsOk size last all (runs.drop i)))
  | 0, i, last, all, h, h1, h2, h3, h4, h5 => by
    rw [List.drop_of_length_le (by omega), runsOk, fillT]
    have hw : wrap64 (all * 512) = all * 512 := wrap_in (by omega) (by omega)
    by_cases hl : (data.length : Int) = all * 512
    · rw [if_pos hl]
      by_cases h0 : all = 0
      · rw [if_pos h0]
        refine Ev.step (fun k => ?_) (Ev.now _)
        rw [dump_filled.l0, if_neg (by omega), hw, if_pos hl, if_pos h0]
      · rw [if_neg h0]
        refine Ev.step (f := fun k => dump_filled.l1 k last size a0 a1 a2 size runs data) (fun k => ?_) ?_
        · rw [dump_filled.l0, if_neg (by omega), hw, if_pos hl, if_neg h0]
        · by_cases hz : size ≤ last * 512
          · have ht := tail_loop a0 a1 a2 size last runs data hs (by omega) hd (last * 512 - size).toNat size (by omega) (by omega) (by omega)
            rw [show data.length - (last * 512 - size).toNat = ((data.length : Int) - last * 512 + size).toNat by omega]
            exact ht
          · have hw2 : wrap64 (last * 512) = last * 512 := wrap_in (by omega) (by omega)
            rw [show data.length - (last * 512 - size).toNat = data.length by omega, List.drop_length]
            refine Ev.step (fun k => ?_) (Ev.now _)
            rw [dump_filled.l1, hw2, if_neg (by omega)]
            rfl
    · rw [if_neg hl]
      refine Ev.step (fun k => ?_) (Ev.now _)
      rw [dump_filled.l0, if_neg (by omega), hw, if_neg hl]
  | d + 1, i, last, all, h, h1, h2, h3, h4, h5 => by
    have hi : i < runs.length := by omega
    have e := rdRu_at runs i hi
    have hw1 : wrap64 (size + 512) = size + 512 := wrap_in (by omega) (by omega)
    have hw2 : wrap64 (size + 512 - 1) = size + 511 := by rw [wrap_in (by omega) (by omega)]; omega
    have hq : Int.tdiv (size + 511) 512 = (size + 511) / 512 := Int.tdiv_eq_ediv_of_nonneg (by omega)
    have hw3 : wrap64 ((size + 511) / 512) = (size + 511) / 512 := wrap_in (by omega) (by omega)
    rw [List.drop_eq_getElem_cons hi, runsOk]
    have go : ∀ k, dump_filled.l0 (k + 1) last all runs (runs.length : Int) i a0 a1 a2 size runs data = (if runs[i].f0 < 0 then some false else if runs[i].f0 ≤ last then some false else if runs[i].f1 ≤ runs[i].f0 then some false else if runs[i].f1 > (size + 511) / 512 then some false else dump_filled.l0 k runs[i].f1 (wrap64 (all + wrap64 (runs[i].f1 - runs[i].f0))) runs (runs.length : Int) (wrap64 ((i : Int) + 1)) a0 a1 a2 size runs data) := by
      intro k
      rw [dump_filled.l0, if_pos (by omega), if_pos (by omega), if_pos (by omega), e, hw1, hw2, hq, hw3]
    by_cases c1 : runs[i].f0 < 0
    · rw [if_pos (.inl c1)]
      exact Ev.step (fun k => by rw [go, if_pos c1]; rfl) (Ev.now _)
    · by_cases c2 : runs[i].f0 ≤ last
      · rw [if_pos (.inr (.inl c2))]
        exact Ev.step (fun k => by rw [go, if_neg c1, if_pos c2]; rfl) (Ev.now _)
      · by_cases c3 : runs[i].f1 ≤ runs[i].f0
        · rw [if_pos (.inr (.inr (.inl c3)))]
          exact Ev.step (fun k => by rw [go, if_neg c1, if_neg c2, if_pos c3]; rfl) (Ev.now _)
        · by_cases c4 : runs[i].f1 > (size + 511) / 512
          · rw [if_pos (.inr (.inr (.inr c4)))]
            exact Ev.step (fun k => by rw [go, if_neg c1, if_neg c2, if_neg c3, if_pos c4]; rfl) (Ev.now _)
          · rw [if_neg (by omega)]
            have hw4 : wrap64 (runs[i].f1 - runs[i].f0) = runs[i].f1 - runs[i].f0 := wrap_in (by omega) (by omega)
            have hw5 : wrap64 (all + (runs[i].f1 - runs[i].f0)) = all + (runs[i].f1 - runs[i].f0) := wrap_in (by omega) (by omega)
            have ih := fill_loop a0 a1 a2 size runs data hs hs2 hr hd d (i + 1) runs[i].f1 (all + (runs[i].f1 - runs[i].f0)) (by omega) (by omega) (by omega) (by omega) (by omega) (by omega)
            refine Ev.step (fun k => ?_) ih
            rw [go, if_neg c1, if_neg c2, if_neg c3, if_neg c4, hw4, hw5, wrap_up (by omega)]
theorem filled_ev (a0 : Int) (a1 a2 : ByteArray) (size : Int) (runs : List Ru) (data : List Int) (hr : runs.length < 9223372036854775807) (hd : data.length ≤ 9223372036854775) :
    Ev (fun k => dump_filled.f k a0 a1 a2 size runs data) (filledP size runs data) := by
  unfold filledP dump_filled.f
  by_cases h : size < 0
  · rw [if_pos (.inl h)]
    refine Ev.congr (fun k => by rw [if_pos h]) ?_
    exact Ev.step (fun k => by rw [dump_filled.j0, if_pos rfl]) (Ev.now _)
  · by_cases h2 : 8459264 < size
    · rw [if_pos (.inr h2)]
      refine Ev.congr (fun k => by rw [if_neg h]) ?_
      exact Ev.step (fun k => by rw [dump_filled.j0, if_pos (decide_eq_true h2)]) (Ev.now _)
    · rw [if_neg (by omega)]
      refine Ev.congr (fun k => by rw [if_neg h]) ?_
      refine Ev.step (f := fun k => dump_filled.l0 k (-1) 0 runs (runs.length : Int) 0 a0 a1 a2 size runs data) (fun k => by rw [dump_filled.j0, if_neg (by simpa using h2)]) ?_
      have hl := fill_loop a0 a1 a2 size runs data (by omega) (by omega) hr hd runs.length 0 (-1) 0 (by omega) (by omega) (by omega) (by omega) (by omega) (by omega)
      exact hl
theorem runsOk_small (size : Int) (hs : 0 ≤ size) (hs2 : size ≤ 8459264) : ∀ (l : List Ru) (last all l2 a2 : Int), -1 ≤ last → 0 ≤ all → all ≤ last + 1 → runsOk size last all l = some (l2, a2) → 0 ≤ a2 ∧ a2 ≤ l2 + 1 ∧ last + l.length ≤ l2 ∧ (l2 = last ∨ l2 ≤ 16522)
  | [], last, all, l2, a2, h1, h2, h3, h => by
    simp [runsOk] at h
    obtain ⟨rfl, rfl⟩ := h
    simp
    omega
  | r :: l, last, all, l2, a2, h1, h2, h3, h => by
    rw [runsOk] at h
    split at h
    · cases h
    · have ih := runsOk_small size hs hs2 l r.f1 (all + (r.f1 - r.f0)) l2 a2 (by omega) (by omega) (by omega) h
      rw [List.length_cons]
      omega
theorem filled_small {size : Int} {runs : List Ru} {data : List Int} (h : filledP size runs data = true) : runs.length ≤ 16523 ∧ data.length ≤ 8459776 := by
  unfold filledP at h
  split at h
  · cases h
  · cases hr : runsOk size (-1) 0 runs with
    | none => rw [hr] at h; cases h
    | some p =>
      obtain ⟨l2, a2⟩ := p
      have := runsOk_small size (by omega) (by omega) runs (-1) 0 l2 a2 (by omega) (by omega) (by omega) hr
      rw [hr, fillT] at h
      split at h
      · omega
      · cases h
end Go.Proofs.YtkfikinjlbbibaaDoor
