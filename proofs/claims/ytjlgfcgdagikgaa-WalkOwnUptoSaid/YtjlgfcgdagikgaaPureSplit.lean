/- The parts of a path, in plain lists of bytes: what walk.Split and the document's Split come to. -/
import Derived.Test.YtjlgfcgdagikgaaPWalkx3
namespace Go.Proofs.Ytjlgfcgdagikgaa.Pure
open Go.RowKit Go.Proofs.Ytjlgfcgdagikgaa Go.Proofs.Ytjlgfcgdagikgaa.PWalk Go.Proofs.YtjlgfcgdagikgaaW.PrintWords Go.Proofs.YtjlgfcgdagikgaaW.PrintLast

/-! ### Bytes -/
abbrev bs (a : ByteArray) : List UInt8 := a.data.toList
theorem bs_mkB (l : List UInt8) : bs (mkB l) = l := rfl
theorem mkB_bs (a : ByteArray) : mkB (bs a) = a := rfl
theorem toList_bs (a : ByteArray) : a.toList = bs a := Lib.toList_data a
theorem size_bs (a : ByteArray) : a.size = (bs a).length := Lib.size_eq a
theorem bs_inj {a b : ByteArray} (h : bs a = bs b) : a = b := by rw [← mkB_bs a, h, mkB_bs]

/-! ### Parts -/
def good (p : List UInt8) : Bool := !(p == []) && !(p == [46])
def segs : List UInt8 → List UInt8 → List (List UInt8)
  | cur, [] => [cur]
  | cur, c :: l => if c = 47 then cur :: segs [] l else segs (cur ++ [c]) l
def parts (l : List UInt8) : List (List UInt8) := (segs [] l).filter good
theorem parts_nil : parts [] = [] := rfl
theorem parts_slash (l : List UInt8) : parts (47 :: l) = parts l := by
  simp [parts, segs, good]

/-- Names: the error of one. -/
def nameE (l : List UInt8) : Int :=
  if 54 < l.length then 7 else if l = [] ∨ l = [46] ∨ l = [46, 46] ∨ 47 ∈ l ∨ 0 ∈ l then 21 else 0
def rightE : List (List UInt8) → Int
  | [] => 0
  | p :: ps => if p = [46, 46] then rightE ps else if nameE p = 0 then rightE ps else nameE p

theorem indexAny_iff (chars : List UInt8) : ∀ l : List UInt8, 0 ≤ Lib.indexAny l chars ↔ ∃ c ∈ l, chars.contains c = true
  | [] => by simp [Lib.indexAny]
  | b :: l => by
    have ih := indexAny_iff chars l
    have hge := Lib.indexAny_ge chars l
    unfold Lib.indexAny
    by_cases hb : chars.contains b = true
    · rw [if_pos hb]
      exact ⟨fun _ => ⟨b, List.mem_cons_self, hb⟩, fun _ => Int.le_refl _⟩
    · rw [if_neg hb]
      constructor
      · intro h
        split at h
        · exact absurd h (by decide)
        · obtain ⟨c, hc, h'⟩ := ih.1 (by rename_i hn; have : Lib.indexAny l chars ≠ -1 := fun e => hn (by rw [e]; rfl); omega)
          exact ⟨c, List.mem_cons_of_mem _ hc, h'⟩
      · rintro ⟨c, hc, h'⟩
        rcases List.mem_cons.1 hc with rfl | hc
        · exact absurd h' hb
        · have := ih.2 ⟨c, hc, h'⟩
          rw [if_neg (by intro e; have := beq_iff_eq.1 e; omega)]
          omega

theorem containsAny_iff (l : List UInt8) : Lib.containsAny l [47, 0] = true ↔ (47 ∈ l ∨ 0 ∈ l) := by
  unfold Lib.containsAny
  rw [decide_eq_true_iff, indexAny_iff]
  constructor
  · rintro ⟨c, hc, h⟩
    simp at h
    rcases h with rfl | rfl
    · exact .inl hc
    · exact .inr hc
  · rintro (h | h)
    · exact ⟨47, h, by decide⟩
    · exact ⟨0, h, by decide⟩

theorem codec_name (a : ByteArray) : codec_Name.f a = some (nameE (bs a)) := by
  unfold codec_Name.f nameE
  simp only [toList_bs, size_bs]
  by_cases h1 : 54 < (bs a).length
  · rw [if_pos h1, if_pos h1]
  · rw [if_neg h1, if_neg h1]
    by_cases h2 : bs a = []
    · rw [if_pos h2, if_pos (.inl h2)]
    · rw [if_neg h2]
      by_cases h3 : bs a = [46]
      · rw [if_pos h3, if_pos (.inr (.inl h3))]
      · rw [if_neg h3]
        by_cases h4 : bs a = [46, 46]
        · rw [if_pos h4, if_pos (.inr (.inr (.inl h4)))]
        · rw [if_neg h4]
          by_cases h5 : 47 ∈ bs a ∨ 0 ∈ bs a
          · rw [if_pos ((containsAny_iff _).2 h5), if_pos (.inr (.inr (.inr h5)))]
          · rw [if_neg (fun h => h5 ((containsAny_iff _).1 h)), if_neg (by simp only [h2, h3, h4, false_or]; exact h5)]

/-! ### walk.cut -/
theorem bs_extract (s : ByteArray) (a b : Nat) : bs (s.extract a b) = ((bs s).drop a).take (b - a) := Lib.extract_data s a b
theorem get_bs (s : ByteArray) (i : Nat) (h : i < s.size) : (bs s)[i]? = some (s.get! i) := by
  rw [Lib.data_getElem? s i h]
  simp [ByteArray.get!, getElem!_pos, h]
  rfl

theorem addPart_bs (s : ByteArray) (a b : Nat) (acc : List ByteArray) : (addPart s a b acc).map bs = acc.map bs ++ [((bs s).drop a).take (b - a)].filter good := by
  unfold addPart
  simp only [toList_bs, bs_extract]
  by_cases h1 : ((bs s).drop a).take (b - a) = []
  · rw [if_pos h1, h1]
    simp [good]
  · rw [if_neg h1]
    by_cases h2 : ((bs s).drop a).take (b - a) = [46]
    · rw [if_pos h2, h2]
      simp [good]
    · rw [if_neg h2]
      rw [List.filter_cons_of_pos (by simp [good, h1, h2])]
      simp [bs_extract]

theorem cutSt_parts (s : ByteArray) : ∀ p, p ≤ s.size →
    parts (bs s) = (cutSt s p).2.map bs ++ (segs (((bs s).drop (cutSt s p).1).take (p - (cutSt s p).1)) ((bs s).drop p)).filter good
  | 0, _ => by simp [cutSt, parts]
  | p + 1, h => by
    have ih := cutSt_parts s p (by omega)
    have hle := cutSt_le s p
    have hg := get_bs s p (by omega)
    have hlt : p < (bs s).length := by rw [← size_bs]; omega
    have hd : (bs s).drop p = s.get! p :: (bs s).drop (p + 1) := by
      rw [List.drop_eq_getElem_cons hlt]
      congr 1
      rw [List.getElem?_eq_getElem hlt] at hg
      exact Option.some.inj hg
    have hs : cutSt s (p + 1) = if s.get! p = 47 then (p + 1, addPart s (cutSt s p).1 p (cutSt s p).2) else cutSt s p := rfl
    rw [ih, hd, hs]
    clear hs ih
    generalize cutSt s p = st at hle
    obtain ⟨fr, acc⟩ := st
    dsimp only at hle ⊢
    by_cases h47 : s.get! p = 47
    · rw [if_pos h47, h47]
      simp only [segs, if_true, addPart_bs, List.append_assoc, List.filter_cons, Nat.sub_self, List.take_zero]
      by_cases hgd : good (List.take (p - fr) (List.drop fr (bs s))) = true
      · simp [hgd]
      · simp [hgd]
    · rw [if_neg h47]
      have e : List.take (p - fr) (List.drop fr (bs s)) ++ [s.get! p] = List.take (p + 1 - fr) (List.drop fr (bs s)) := by
        rw [show p + 1 - fr = (p - fr) + 1 by omega, List.take_succ_eq_append_getElem (by rw [List.length_drop]; omega)]
        congr 2
        rw [List.getElem_drop]
        rw [List.getElem?_eq_getElem hlt] at hg
        have hg := Option.some.inj hg
        rw [← hg]
        congr 1
        omega
      show _ ++ List.filter good (segs _ (s.get! p :: _)) = _
      rw [segs, if_neg h47, e]

theorem cutParts_bs (s : ByteArray) : (cutParts s).map bs = parts (bs s) := by
  unfold cutParts
  have h := cutSt_parts s s.size (Nat.le_refl _)
  rw [h, addPart_bs, List.drop_of_length_le (l := bs s) (i := s.size) (by rw [← size_bs]; exact Nat.le_refl _)]
  rfl

/-! ### The loops -/
theorem wrap_up {x : Int} (h0 : 0 ≤ x) (h : x ≤ 1152921504606846976) : wrap64 (x + 1) = x + 1 := by
  unfold wrap64
  omega

theorem rd_at (ps : List ByteArray) (i : Nat) (h : i < ps.length) : rdOf ByteArray.empty ps (i : Int) = ps[i] := by
  unfold rdOf
  rw [List.getD_eq_getElem?_getD, Int.toNat_natCast, List.getElem?_eq_getElem h]
  rfl

theorem right_ev (ps : List ByteArray) (hl : ps.length ≤ 1099511627776) : ∀ (d i : Nat), i + d = ps.length → Ev (fun k => walk_right.l0 k ps ps.length i) (rightE ((ps.drop i).map bs))
  | 0, i, h => by
    refine Ev.step (fun k => by rw [walk_right.l0, if_neg (by omega)]) ?_
    rw [List.drop_of_length_le (by omega)]
    exact Ev.now _
  | d + 1, i, h => by
    have hi : i < ps.length := by omega
    have ih := right_ev ps hl d (i + 1) (by omega)
    rw [List.drop_eq_getElem_cons hi, List.map_cons, rightE]
    refine Ev.step (fun k => by rw [walk_right.l0, if_pos (by omega), if_pos (by omega), if_pos (by omega), rd_at ps i hi, codec_name, toList_bs, wrap_up (by omega) (by omega)]) ?_
    by_cases h1 : bs ps[i] = [46, 46]
    · simp only [h1, if_true]
      exact ih
    · simp only [h1, if_false, Option.bind_some]
      by_cases h2 : nameE (bs ps[i]) = 0
      · simp only [h2, if_true]
        exact ih
      · simp only [h2, if_false]
        exact Ev.now _

/-- The parts of a path that is right, or the error. -/
def splitE (l : List UInt8) : List (List UInt8) × Int :=
  if 1023 < l.length then ([], 7) else if l.head? = some 47 then (if rightE (parts l) = 0 then (parts l, 0) else ([], rightE (parts l))) else ([], 110)

theorem parts_len (l : List UInt8) : (parts l).length ≤ l.length + 1 := by
  have h : ∀ (l cur : List UInt8), (segs cur l).length ≤ l.length + 1 := by
    intro l
    induction l with
    | nil => intro cur; simp [segs]
    | cons c l ih =>
      intro cur
      unfold segs
      split
      · have := ih []; simp; omega
      · have := ih (cur ++ [c]); simp; omega
  exact Nat.le_trans (List.length_filter_le _ _) (h l [])

theorem cut_mk (a : ByteArray) : cutParts a = (parts (bs a)).map mkB := by
  rw [← cutParts_bs, List.map_map, show (mkB ∘ bs) = id from funext fun x => mkB_bs x, List.map_id]

theorem bt_at' (a : ByteArray) (i : Nat) (h : i < (bs a).length) : bt a (i : Int) = (((bs a)[i]).toNat : Int) := by
  have hs : i < a.size := by rw [size_bs]; exact h
  unfold bt
  rw [Int.toNat_natCast, dif_pos hs]
  have := Lib.data_getElem? a i hs
  rw [List.getElem?_eq_getElem h] at this
  rw [Option.some.inj this]

theorem bt_head {a : ByteArray} {c : UInt8} {l : List UInt8} (h : bs a = c :: l) : bt a 0 = c.toNat := by
  have := bt_at' a 0 (by rw [h]; simp)
  simp only [h] at this
  exact this

theorem slash_iff (c : UInt8) : ((c.toNat : Int) != 47) = !decide (c = 47) := by
  by_cases h : c = 47
  · subst h; rfl
  · simp only [h, decide_false, Bool.not_false]
    refine bne_iff_ne.2 fun e => h (UInt8.toNat_inj.1 ?_)
    have : (47 : UInt8).toNat = 47 := rfl
    omega

theorem split_ev (a : ByteArray) : Ev (fun k => walk_Split.f k a) ((splitE (bs a)).1.map mkB, (splitE (bs a)).2) := by
  unfold splitE
  by_cases h1 : 1023 < (bs a).length
  · rw [if_pos h1]
    exact Ev.congr (fun k => by rw [walk_Split.f, if_pos (by rw [size_bs]; omega)]; rfl) (Ev.now _)
  · rw [if_neg h1]
    cases hl : bs a with
    | nil =>
      refine Ev.congr (fun k => by rw [walk_Split.f, if_neg (by rw [size_bs]; omega), toList_bs, if_pos hl]) ?_
      exact Ev.step (fun k => by rw [walk_Split.j0, if_pos rfl]; rfl) (Ev.now _)
    | cons c l =>
      refine Ev.congr (fun k => by rw [walk_Split.f, if_neg (by rw [size_bs]; omega), toList_bs, if_neg (by rw [hl]; simp), if_pos (by rw [size_bs, hl]; simp), bt_head hl, slash_iff]) ?_
      by_cases h47 : c = 47
      · subst h47
        simp only [List.head?_cons, decide_true, Bool.not_true, if_true]
        refine Ev.step (fun k => by rw [walk_Split.j0, if_neg (by decide), walk_cut.f, if_pos (by rw [size_bs]; omega), Option.bind_some]) ?_
        have hr := right_ev (cutParts a) (by rw [cut_mk, List.length_map]; have := parts_len (bs a); omega) (cutParts a).length 0 (by omega)
        rw [List.drop_zero, cutParts_bs, hl] at hr
        refine Ev.bind (a := rightE (parts (47 :: l))) (g := fun k => walk_right.f k (cutParts a)) hr ?_
        by_cases he : rightE (parts (47 :: l)) = 0
        · simp only [he, if_true]
          rw [cut_mk, hl]
          exact Ev.now _
        · simp only [he, if_false]
          exact Ev.now _
      · have hh : ¬ (c :: l).head? = some 47 := by simpa using h47
        rw [if_neg hh]
        exact Ev.step (fun k => by rw [walk_Split.j0, if_pos (by simp [h47])]; rfl) (Ev.now _)

/-! ### The document's -/
theorem ref_name_loop (a : ByteArray) (hl : (bs a).length ≤ 1024) : ∀ (d i : Nat), i + d = (bs a).length → Ev (fun k => vellumref2_Name.l0 k a i) (if 47 ∈ (bs a).drop i ∨ 0 ∈ (bs a).drop i then 21 else 0)
  | 0, i, h => by
    refine Ev.step (fun k => by rw [vellumref2_Name.l0, if_neg (by rw [size_bs]; omega)]) ?_
    rw [List.drop_of_length_le (by omega)]
    exact Ev.now _
  | d + 1, i, h => by
    have hi : i < (bs a).length := by omega
    have ih := ref_name_loop a hl d (i + 1) (by omega)
    rw [List.drop_eq_getElem_cons hi]
    refine Ev.step (fun k => by rw [vellumref2_Name.l0, if_pos (by rw [size_bs]; omega), if_pos (by omega), bt_at' a i hi, wrap_up (by omega) (by omega)]) ?_
    have c47 : (((bs a)[i].toNat : Int) = 47) = ((bs a)[i] = 47) := propext ⟨fun e => UInt8.toNat_inj.1 (by have : (47 : UInt8).toNat = 47 := rfl; omega), fun e => by rw [e]; rfl⟩
    have c0 : (((bs a)[i].toNat : Int) = 0) = ((bs a)[i] = 0) := propext ⟨fun e => UInt8.toNat_inj.1 (by have : (0 : UInt8).toNat = 0 := rfl; omega), fun e => by rw [e]; rfl⟩
    simp only [c47, c0]
    by_cases h1 : (bs a)[i] = 47
    · simp only [h1, if_true]
      rw [if_pos (by simp)]
      exact Ev.now _
    · by_cases h2 : (bs a)[i] = 0
      · simp only [h2]
        rw [if_pos (show (47 : UInt8) ∈ (0 : UInt8) :: List.drop (i + 1) (bs a) ∨ (0 : UInt8) ∈ (0 : UInt8) :: List.drop (i + 1) (bs a) from .inr List.mem_cons_self)]
        exact Ev.congr (fun k => by rw [if_neg (by decide), if_pos trivial]) (Ev.now _)
      · simp only [h1, h2, if_false]
        have e : (47 ∈ (bs a)[i] :: List.drop (i + 1) (bs a) ∨ 0 ∈ (bs a)[i] :: List.drop (i + 1) (bs a)) = (47 ∈ List.drop (i + 1) (bs a) ∨ 0 ∈ List.drop (i + 1) (bs a)) := by
          simp only [List.mem_cons, Ne.symm h1, Ne.symm h2, false_or]
        simp only [e]
        exact ih

theorem ref_name (a : ByteArray) : Ev (fun k => vellumref2_Name.f k a) (nameE (bs a)) := by
  unfold nameE
  by_cases h1 : 54 < (bs a).length
  · rw [if_pos h1]
    exact Ev.congr (fun k => by rw [vellumref2_Name.f, if_pos (by rw [size_bs]; omega)]) (Ev.now _)
  · rw [if_neg h1]
    by_cases h2 : bs a = []
    · rw [if_pos (.inl h2)]
      refine Ev.congr (fun k => by rw [vellumref2_Name.f, if_neg (by rw [size_bs]; omega), toList_bs, if_pos h2]) ?_
      exact Ev.step (fun k => by rw [vellumref2_Name.j0, if_pos rfl]) (Ev.now _)
    · by_cases h3 : bs a = [46]
      · rw [if_pos (.inr (.inl h3))]
        refine Ev.congr (fun k => by rw [vellumref2_Name.f, if_neg (by rw [size_bs]; omega), toList_bs, if_neg h2, if_pos h3]) ?_
        exact Ev.step (fun k => by rw [vellumref2_Name.j0, if_pos rfl]) (Ev.now _)
      · refine Ev.congr (fun k => by rw [vellumref2_Name.f, if_neg (by rw [size_bs]; omega), toList_bs, if_neg h2, if_neg h3]) ?_
        by_cases h4 : bs a = [46, 46]
        · rw [if_pos (.inr (.inr (.inl h4)))]
          exact Ev.step (fun k => by rw [vellumref2_Name.j0, if_pos (by rw [h4]; rfl)]) (Ev.now _)
        · simp only [h2, h3, h4, false_or]
          have := ref_name_loop a (by omega) (bs a).length 0 (by omega)
          rw [List.drop_zero] at this
          exact Ev.step (fun k => by rw [vellumref2_Name.j0, if_neg (by simpa using h4)]; rfl) this

/-- What the document's Cut answers: the first part and what stands behind it. -/
def CutOk (ps : List (List UInt8)) (n : Nat) (p r : ByteArray) : Prop :=
  (ps = [] ∧ bs p = [] ∧ bs r = []) ∨ ∃ q qs, ps = q :: qs ∧ bs p = q ∧ q ≠ [] ∧ parts (bs r) = qs ∧ (bs r).length < n

theorem cut_empty : bs (⟨#[]⟩ : ByteArray) = [] := rfl

theorem good_ne {q : List UInt8} (h1 : q ≠ []) (h2 : q ≠ [46]) : good q = true := by
  simp [good, h1, h2]

theorem drop_at (l : List UInt8) (i : Nat) (hi : i < l.length) : l.drop i = l[i] :: l.drop (i + 1) := List.drop_eq_getElem_cons hi

theorem ref_cut0_end (a : ByteArray) (i : Nat) (h : (bs a).length ≤ i) : Ev (fun k => vellumref11_Cut.l0 k a i) (⟨#[]⟩, ⟨#[]⟩) :=
  Ev.step (fun k => by rw [vellumref11_Cut.l0, if_neg (by rw [size_bs]; omega)]) (Ev.now _)

theorem ref_cut_piece (a : ByteArray) (hl : (bs a).length ≤ 1024) (i j : Nat) (hij : i ≤ j) (hj : j ≤ (bs a).length) (ps : List (List UInt8)) (t : List UInt8)
    (hps : ps = (if good (((bs a).drop i).take (j - i)) then [((bs a).drop i).take (j - i)] else []) ++ parts t) (ht : parts ((bs a).drop j) = parts t)
    (hr : ∃ p r, Ev (fun k => vellumref11_Cut.l0 k a ((j + 1 : Nat) : Int)) (p, r) ∧ CutOk (parts t) (bs a).length p r) :
    ∃ p r, Ev (fun k => if (a.extract ((i : Nat) : Int).toNat ((j : Nat) : Int).toNat).toList = ([] : List UInt8) then vellumref11_Cut.l0 k a (wrap64 (j + 1)) else (if (a.extract ((i : Nat) : Int).toNat ((j : Nat) : Int).toNat).toList = ([46] : List UInt8) then vellumref11_Cut.l0 k a (wrap64 (j + 1)) else some (a.extract ((i : Nat) : Int).toNat ((j : Nat) : Int).toNat, a.extract ((j : Nat) : Int).toNat a.size))) (p, r) ∧ CutOk ps (bs a).length p r := by
  rw [wrap_up (by omega) (by omega)]
  simp only [Int.toNat_natCast, toList_bs, bs_extract]
  by_cases h1 : ((bs a).drop i).take (j - i) = []
  · rw [h1] at hps
    obtain ⟨p, r, he, hc⟩ := hr
    refine ⟨p, r, ?_, by rw [hps]; exact hc⟩
    simp only [h1, if_true]
    exact he
  · by_cases h2 : ((bs a).drop i).take (j - i) = [46]
    · rw [h2] at hps
      obtain ⟨p, r, he, hc⟩ := hr
      refine ⟨p, r, ?_, by rw [hps]; exact hc⟩
      simp only [h2, if_true]
      exact he
    · rw [if_pos (good_ne h1 h2)] at hps
      refine ⟨_, _, by simp only [h1, h2, if_false]; exact Ev.now _, .inr ⟨_, _, hps, bs_extract a i j, h1, ?_, ?_⟩⟩
      · rw [show bs (a.extract j a.size) = (bs a).drop j from Lib.extract_to_end a j, ht]; rfl
      · rw [show bs (a.extract j a.size) = (bs a).drop j from Lib.extract_to_end a j, List.length_drop]
        have : i < j := by
          rcases Nat.lt_or_ge i j with h | h
          · exact h
          · exact absurd (by rw [show j - i = 0 by omega, List.take_zero]) h1
        omega

theorem ref_cut_loop (a : ByteArray) (hl : (bs a).length ≤ 1024) : ∀ (d i j : Nat), i ≤ j → j + d = (bs a).length → ∃ p r, Ev (fun k => vellumref11_Cut.l1 k a i j) (p, r) ∧ CutOk (List.filter good (segs (((bs a).drop i).take (j - i)) ((bs a).drop j))) (bs a).length p r
  | 0, i, j, hij, h => by
    have hd : (bs a).drop j = [] := List.drop_of_length_le (by omega)
    obtain ⟨p, r, he, hc⟩ := ref_cut_piece a hl i j hij (by omega) (List.filter good (segs (((bs a).drop i).take (j - i)) ((bs a).drop j))) []
      (by rw [hd, parts_nil, List.append_nil]; simp only [segs, List.filter_cons, List.filter_nil]) (by rw [hd]) ⟨_, _, ref_cut0_end a (j + 1) (by omega), .inl ⟨parts_nil, rfl, rfl⟩⟩
    refine ⟨p, r, Ev.step (fun k => ?_) he, hc⟩
    rw [vellumref11_Cut.l1, if_neg (by rw [size_bs]; omega), if_pos (by omega), if_pos (by omega), if_pos (by rw [size_bs]; omega), if_pos (show (0 : Int) ≤ (j : Int) by omega)]
  | d + 1, i, j, hij, h => by
    have hj : j < (bs a).length := by omega
    have L0 : ∃ p r, Ev (fun k => vellumref11_Cut.l0 k a ((j + 1 : Nat) : Int)) (p, r) ∧ CutOk (parts ((bs a).drop (j + 1))) (bs a).length p r := by
      rcases Nat.lt_or_ge (j + 1) (bs a).length with hlt | hge
      · obtain ⟨p, r, he, hc⟩ := ref_cut_loop a hl d (j + 1) (j + 1) (Nat.le_refl _) (by omega)
        rw [Nat.sub_self, List.take_zero] at hc
        exact ⟨p, r, Ev.step (fun k => by rw [vellumref11_Cut.l0, if_pos (by rw [size_bs]; omega)]) he, hc⟩
      · rw [List.drop_of_length_le hge]
        exact ⟨_, _, ref_cut0_end a (j + 1) hge, .inl ⟨parts_nil, rfl, rfl⟩⟩
    have c47 : (((bs a)[j].toNat : Int) = 47) = ((bs a)[j] = 47) := propext ⟨fun e => UInt8.toNat_inj.1 (by have : (47 : UInt8).toNat = 47 := rfl; omega), fun e => by rw [e]; rfl⟩
    have hd := drop_at (bs a) j hj
    by_cases h47 : (bs a)[j] = 47
    · obtain ⟨p, r, he, hc⟩ := ref_cut_piece a hl i j hij (by omega) (List.filter good (segs (((bs a).drop i).take (j - i)) ((bs a).drop j))) ((bs a).drop (j + 1))
        (by rw [hd, h47]; simp only [segs, if_true, List.filter_cons]; split <;> simp [parts]) (by rw [hd, h47, parts_slash]) L0
      refine ⟨p, r, Ev.step (fun k => ?_) he, hc⟩
      rw [vellumref11_Cut.l1, if_pos (by rw [size_bs]; omega), if_pos (by omega), bt_at' a j hj, if_pos (by rw [h47]; rfl), if_pos (by omega), if_pos (by omega), if_pos (by rw [size_bs]; omega)]
    · obtain ⟨p, r, he, hc⟩ := ref_cut_loop a hl d i (j + 1) (by omega) (by omega)
      have e : ((bs a).drop i).take (j + 1 - i) = ((bs a).drop i).take (j - i) ++ [(bs a)[j]] := by
        rw [show j + 1 - i = (j - i) + 1 by omega, List.take_succ_eq_append_getElem (by rw [List.length_drop]; omega), List.getElem_drop]
        congr 3
        omega
      refine ⟨p, r, Ev.step (fun k => ?_) he, by rw [hd, segs, if_neg h47, ← e]; exact hc⟩
      rw [vellumref11_Cut.l1, if_pos (by rw [size_bs]; omega), if_pos (by omega), bt_at' a j hj, if_neg (by rw [c47]; exact h47), wrap_up (by omega) (by omega)]
      rfl

theorem ref_cut (a : ByteArray) (hl : (bs a).length ≤ 1024) : ∃ p r, Ev (fun k => vellumref11_Cut.f k a) (p, r) ∧ CutOk (parts (bs a)) (bs a).length p r := by
  rcases Nat.eq_zero_or_pos (bs a).length with h0 | h0
  · rw [List.eq_nil_of_length_eq_zero h0]
    exact ⟨_, _, ref_cut0_end a 0 (by omega), .inl ⟨parts_nil, rfl, rfl⟩⟩
  · obtain ⟨p, r, he, hc⟩ := ref_cut_loop a hl (bs a).length 0 0 (Nat.le_refl _) (by omega)
    refine ⟨p, r, Ev.step (fun k => by rw [vellumref11_Cut.f, vellumref11_Cut.l0, if_pos (by rw [size_bs]; omega)]; rfl) he, ?_⟩
    simpa [parts] using hc

theorem ref_wrong : ∀ (n : Nat) (a : ByteArray), (bs a).length ≤ 1024 → (bs a).length ≤ n → Ev (fun k => vellumref11_wrong.l0 k a) (rightE (parts (bs a)))
  | n, a, hl, hn => by
    obtain ⟨p, r, he, hc⟩ := ref_cut a hl
    refine Ev.step (fun k => by rw [vellumref11_wrong.l0]) ?_
    refine Ev.bind he ?_
    rcases hc with ⟨h1, h2, h3⟩ | ⟨q, qs, h1, h2, h3, h4, h5⟩
    · simp only [toList_bs, h2, if_true, h1]
      exact Ev.now _
    · simp only [toList_bs, h2, h3, if_false, h1]
      have hnm := ref_name p
      rw [h2] at hnm
      refine Ev.bind hnm ?_
      cases n with
      | zero => omega
      | succ n =>
        have ih := ref_wrong n r (by omega) (by omega)
        rw [h4] at ih
        rw [rightE]
        by_cases hq : q = [46, 46]
        · simp only [hq, if_true]; exact ih
        · simp only [hq, if_false]
          by_cases he : nameE q = 0
          · simp only [he, if_true]; exact ih
          · simp only [he, if_false]; exact Ev.now _

theorem ref_list : ∀ (n : Nat) (a : ByteArray) (acc : List ByteArray), (bs a).length ≤ 1024 → (bs a).length ≤ n → acc.length + n ≤ 8192 → Ev (fun k => vellumref11_Split.l0 k a acc) (acc ++ (parts (bs a)).map mkB, 0)
  | n, a, acc, hl, hn, ha => by
    obtain ⟨p, r, he, hc⟩ := ref_cut a hl
    refine Ev.step (fun k => by rw [vellumref11_Split.l0]) ?_
    refine Ev.bind he ?_
    rcases hc with ⟨h1, h2, h3⟩ | ⟨q, qs, h1, h2, h3, h4, h5⟩
    · simp only [toList_bs, h2, if_true, h1, List.map_nil, List.append_nil]
      exact Ev.now _
    · simp only [toList_bs, h2, h3, if_false, h1]
      cases n with
      | zero => omega
      | succ n =>
        have ih := ref_list n r (acc ++ [p]) (by omega) (by omega) (by simp; omega)
        rw [h4] at ih
        rw [List.map_cons, ← h2, mkB_bs]
        refine Ev.congr (fun k => by rw [if_pos (by omega)]) ?_
        simpa using ih

theorem ref_split_ev (a : ByteArray) : Ev (fun k => vellumref11_Split.f k a) ((splitE (bs a)).1.map mkB, (splitE (bs a)).2) := by
  unfold splitE
  by_cases h1 : 1023 < (bs a).length
  · rw [if_pos h1]
    exact Ev.congr (fun k => by rw [vellumref11_Split.f, if_pos (by rw [size_bs]; omega)]; rfl) (Ev.now _)
  · rw [if_neg h1]
    cases hl : bs a with
    | nil =>
      refine Ev.congr (fun k => by rw [vellumref11_Split.f, if_neg (by rw [size_bs]; omega), toList_bs, if_pos hl]) ?_
      exact Ev.step (fun k => by rw [vellumref11_Split.j0, if_pos rfl]; rfl) (Ev.now _)
    | cons c l =>
      refine Ev.congr (fun k => by rw [vellumref11_Split.f, if_neg (by rw [size_bs]; omega), toList_bs, if_neg (by rw [hl]; simp), if_pos (by rw [size_bs, hl]; simp), bt_head hl, slash_iff]) ?_
      by_cases h47 : c = 47
      · subst h47
        simp only [List.head?_cons, decide_true, Bool.not_true, if_true]
        refine Ev.step (fun k => by rw [vellumref11_Split.j0, if_neg (by decide)]) ?_
        have hr := ref_wrong (bs a).length a (by omega) (Nat.le_refl _)
        rw [hl] at hr
        refine Ev.bind (a := rightE (parts (47 :: l))) (g := fun k => vellumref11_wrong.f k a) hr ?_
        by_cases he : rightE (parts (47 :: l)) = 0
        · simp only [he, if_true]
          have := ref_list (bs a).length a [] (by omega) (Nat.le_refl _) (show 0 + (bs a).length ≤ 8192 by omega)
          rw [hl, List.nil_append] at this
          exact this
        · simp only [he, if_false]
          exact Ev.now _
      · have hh : ¬ (c :: l).head? = some 47 := by simpa using h47
        rw [if_neg hh]
        exact Ev.step (fun k => by rw [vellumref11_Split.j0, if_pos (by simp [h47])]; rfl) (Ev.now _)

/-! ### SameParts -/
theorem same_loop (ps : List ByteArray) (hl : ps.length ≤ 1099511627776) : ∀ (d i : Nat), i + d = ps.length → Ev (fun k => vellumlaw11_SameParts.l0 k ps ps i) true
  | 0, i, h => Ev.step (fun k => by rw [vellumlaw11_SameParts.l0, if_neg (by omega)]) (Ev.now _)
  | d + 1, i, h => by
    have ih := same_loop ps hl d (i + 1) (by omega)
    exact Ev.step (fun k => by rw [vellumlaw11_SameParts.l0, if_pos (by omega), if_pos (by omega), if_pos (by omega), if_pos rfl, wrap_up (by omega) (by omega)]; rfl) ih

theorem same_ev (ps : List ByteArray) (hl : ps.length ≤ 1099511627776) : Ev (fun k => vellumlaw11_SameParts.f k ps ps) true :=
  Ev.congr (fun k => by rw [vellumlaw11_SameParts.f, if_pos rfl]; rfl) (same_loop ps hl ps.length 0 (by omega))

end Go.Proofs.Ytjlgfcgdagikgaa.Pure
