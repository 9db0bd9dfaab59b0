/- Paths made of parts with slashes and dots between: what walk.Split tells of them. -/
import Derived.Test.YtjlgfcgdagikgaaPWalkx4
import Derived.Test.YtjlgfcgdagikgaaPureSplit
namespace Go.Proofs.Ytjlgfcgdagikgaa.walkParts
open Go.RowKit
open Go.Proofs.Ytjlgfcgdagikgaa.PWalk Go.Proofs.Ytjlgfcgdagikgaa.Pure
open Go.Proofs.YtjlgfcgdagikgaaW.PrintWords Go.Proofs.YtjlgfcgdagikgaaW.PrintLast
set_option linter.unusedVariables false

/-! ### Plain lists -/
def okPart (p : List UInt8) : Prop := p = [46, 46] ∨ nameE p = 0

theorem nameE_zero {p : List UInt8} (h : nameE p = 0) : p.length ≤ 54 ∧ p ≠ [] ∧ p ≠ [46] ∧ 47 ∉ p := by
  unfold nameE at h
  split at h
  · exact absurd h (by decide)
  · split at h
    · exact absurd h (by decide)
    · rename_i h1 h2
      simp only [not_or] at h2
      exact ⟨by omega, h2.1, h2.2.1, h2.2.2.2.1⟩

theorem ok_good {p : List UInt8} (h : okPart p) : p.length ≤ 54 ∧ good p = true ∧ 47 ∉ p := by
  rcases h with rfl | h
  · decide
  · obtain ⟨h1, h2, h3, h4⟩ := nameE_zero h
    exact ⟨h1, good_ne h2 h3, h4⟩

theorem ok_right : ∀ {ps : List (List UInt8)}, (∀ p ∈ ps, okPart p) → rightE ps = 0
  | [], _ => rfl
  | p :: ps, h => by
    have ih := ok_right (fun q hq => h q (List.mem_cons_of_mem _ hq))
    unfold rightE
    rcases h p List.mem_cons_self with hp | hp
    · rw [if_pos hp, ih]
    · split
      · exact ih
      · exact ih

theorem segs_plain : ∀ (p cur t : List UInt8), 47 ∉ p → segs cur (p ++ t) = segs (cur ++ p) t
  | [], cur, t, _ => by simp
  | c :: p, cur, t, h => by
    have hc : c ≠ 47 := fun e => h (by rw [e]; exact List.mem_cons_self)
    have hp : 47 ∉ p := fun e => h (List.mem_cons_of_mem _ e)
    rw [List.cons_append, segs, if_neg hc, segs_plain p (cur ++ [c]) t hp, List.append_assoc]
    rfl

theorem parts_part {p t : List UInt8} (h : good p = true) (h47 : 47 ∉ p) (ht : t = [] ∨ t.head? = some 47) : parts (p ++ t) = p :: parts t := by
  unfold parts
  rw [segs_plain p [] t h47, List.nil_append]
  rcases ht with rfl | ht
  · simp only [segs, List.filter_cons, h, if_true]; rfl
  · cases t with
    | nil => simp at ht
    | cons c t =>
      simp at ht
      subst ht
      simp only [segs, if_true, List.filter_cons, h]; rfl

def isSep (s : List UInt8) : Prop := s = [47] ∨ s = [47, 47] ∨ s = [47, 46, 47] ∨ s = [47, 46, 47, 46, 47, 47]
theorem parts_sep {s : List UInt8} (h : isSep s) (t : List UInt8) : parts (s ++ t) = parts t := by
  rcases h with rfl | rfl | rfl | rfl <;> simp [parts, segs, good]
theorem sep_head {s : List UInt8} (h : isSep s) (t : List UInt8) : (s ++ t).head? = some 47 := by
  rcases h with rfl | rfl | rfl | rfl <;> rfl
theorem sep_len {s : List UInt8} (h : isSep s) : s.length ≤ 6 := by
  rcases h with rfl | rfl | rfl | rfl <;> decide

/-- A path of parts with something between, and an end. -/
inductive Laid : List (List UInt8) → List UInt8 → Prop where
  | none : Laid [] []
  | last {s : List UInt8} : isSep s → Laid [] s
  | more {s p t : List UInt8} {ps : List (List UInt8)} : isSep s → okPart p → Laid ps t → Laid (p :: ps) (s ++ (p ++ t))

theorem laid_end {ps : List (List UInt8)} {t : List UInt8} (h : Laid ps t) : t = [] ∨ t.head? = some 47 := by
  cases h with
  | none => exact .inl rfl
  | last hs => exact .inr (by have := sep_head hs []; rwa [List.append_nil] at this)
  | more hs _ _ => exact .inr (sep_head hs _)

theorem laid_parts {ps : List (List UInt8)} {t : List UInt8} (h : Laid ps t) : parts t = ps := by
  induction h with
  | none => rfl
  | last hs => have := parts_sep hs []; rw [List.append_nil] at this; exact this
  | more hs hp ht ih =>
    obtain ⟨_, hg, h47⟩ := ok_good hp
    rw [parts_sep hs, parts_part hg h47 (laid_end ht), ih]

theorem laid_ok {ps : List (List UInt8)} {t : List UInt8} (h : Laid ps t) : ∀ p ∈ ps, okPart p := by
  induction h with
  | none => simp
  | last hs => simp
  | more hs hp ht ih =>
    intro q hq
    rcases List.mem_cons.1 hq with rfl | hq
    · exact hp
    · exact ih q hq

theorem tame_ok (l : List UInt8) : nameE (tameL l) = 0 := by
  unfold tameL
  split
  · decide
  · rename_i h
    simp only [not_or] at h
    unfold nameE
    rw [if_neg (by rw [List.length_map, List.length_take]; omega), if_neg]
    rintro (e | e | e | e | e)
    · exact h.1 e
    · exact h.2.1 e
    · exact h.2.2 e
    · obtain ⟨c, _, hc⟩ := List.mem_map.1 e
      unfold tameC at hc
      split at hc
      · exact absurd hc (by decide)
      · rename_i hn; exact hn (.inl hc)
    · obtain ⟨c, _, hc⟩ := List.mem_map.1 e
      unfold tameC at hc
      split at hc
      · exact absurd hc (by decide)
      · rename_i hn; exact hn (.inr hc)

/-! ### between, path -/
theorem within_04 (v : Int) : ∃ n, vellumlaw11_within.f v 0 4 = some n := by
  have e : wrap64 ((wrap64 (4 - 0)) + 1) = 5 := by unfold wrap64; omega
  unfold vellumlaw11_within.f
  rw [e, if_neg (by decide)]
  split <;> exact ⟨_, rfl⟩

theorem between_ev (seps : List Int) (i : Nat) (hl : seps.length ≤ 9223372036854775807) : ∃ s, vellumlaw11_between.f seps i = some (mkB s) ∧ isSep s := by
  unfold vellumlaw11_between.f
  by_cases h0 : (seps.length : Int) = 0
  · rw [if_pos h0]
    exact ⟨[47], rfl, .inl rfl⟩
  · rw [if_neg h0]
    have hm : Int.tmod (i : Int) (seps.length : Int) = ((i % seps.length : Nat) : Int) := by rw [Int.tmod_eq_emod_of_nonneg (by omega)]; rfl
    have hlt : i % seps.length < seps.length := Nat.mod_lt _ (by omega)
    rw [hm, if_pos (by omega), if_pos (by omega)]
    obtain ⟨n, hn⟩ := within_04 (rd seps ((i % seps.length : Nat) : Int))
    rw [hn, Option.bind_some]
    split
    · exact ⟨[47, 47], rfl, .inr (.inl rfl)⟩
    · split
      · exact ⟨[47, 46, 47], rfl, .inr (.inr (.inl rfl))⟩
      · split
        · exact ⟨[47, 46, 47, 46, 47, 47], rfl, .inr (.inr (.inr rfl))⟩
        · exact ⟨[47], rfl, .inl rfl⟩

theorem bs_append (a b : ByteArray) : bs (a ++ b) = bs a ++ bs b := by simp [bs]
theorem mkB_append (a b : List UInt8) : mkB a ++ mkB b = mkB (a ++ b) := bs_inj (by rw [bs_append]; rfl)

theorem path_loop (ps : List ByteArray) (seps : List Int) (hps : ps.length ≤ 1024) (hok : ∀ p ∈ ps, okPart (bs p)) (hl : seps.length ≤ 9223372036854775807) : ∀ (d i : Nat) (acc : ByteArray), i + d = ps.length → acc.size ≤ 60 * i →
    ∃ t, Ev (fun k => vellumlaw11_path.l0 k ps seps acc i) (mkB (bs acc ++ t)) ∧ Laid ((ps.drop i).map bs) t ∧ (ps = [] → t ≠ [])
  | 0, i, acc, h, hs => by
    rw [List.drop_of_length_le (by omega)]
    by_cases h0 : (ps.length : Int) = 0
    · obtain ⟨s, he, hsep⟩ := between_ev seps ps.length hl
      refine ⟨s, Ev.step (fun k => ?_) (Ev.now _), .last hsep, fun _ => by rcases hsep with rfl | rfl | rfl | rfl <;> simp⟩
      have := sep_len hsep
      have hz : (mkB s).size = s.length := by rw [size_bs]; rfl
      rw [vellumlaw11_path.l0, if_neg (by omega), if_pos h0, he, Option.bind_some, if_pos (by omega), ← mkB_append, mkB_bs]
    · by_cases h1 : (seps.length : Int) > 0
      · by_cases h2 : Int.tmod (rd seps 0) 3 = 1
        · obtain ⟨s, he, hsep⟩ := between_ev seps ps.length hl
          refine ⟨s, Ev.step (fun k => ?_) (Ev.now _), .last hsep, fun e => absurd (by rw [e]; rfl) h0⟩
          have := sep_len hsep
          have hz : (mkB s).size = s.length := by rw [size_bs]; rfl
          rw [vellumlaw11_path.l0, if_neg (by omega), if_neg h0, if_pos h1, if_pos (by omega), if_pos h2, he, Option.bind_some, if_pos (by omega), ← mkB_append, mkB_bs]
        · refine ⟨[], Ev.step (fun k => ?_) (Ev.now _), .none, fun e => absurd (by rw [e]; rfl) h0⟩
          rw [vellumlaw11_path.l0, if_neg (by omega), if_neg h0, if_pos h1, if_pos (by omega), if_neg h2, List.append_nil, mkB_bs]
      · refine ⟨[], Ev.step (fun k => ?_) (Ev.now _), .none, fun e => absurd (by rw [e]; rfl) h0⟩
        rw [vellumlaw11_path.l0, if_neg (by omega), if_neg h0, if_neg h1, List.append_nil, mkB_bs]
  | d + 1, i, acc, h, hs => by
    have hi : i < ps.length := by omega
    have hp := hok ps[i] (List.getElem_mem hi)
    have hpl := (ok_good hp).1
    obtain ⟨s, he, hsep⟩ := between_ev seps i hl
    have hsl := sep_len hsep
    have hz : (mkB s).size = s.length := by rw [size_bs]; rfl
    have hz1 : (acc ++ mkB s).size = acc.size + s.length := by simp [hz]
    have hz2 : (acc ++ mkB s ++ ps[i]).size = acc.size + s.length + ps[i].size := by simp [hz]
    have hps2 : ps[i].size ≤ 54 := by rw [size_bs]; exact hpl
    obtain ⟨t, ht, hlaid, _⟩ := path_loop ps seps hps hok hl d (i + 1) (acc ++ mkB s ++ ps[i]) (by omega) (by omega)
    refine ⟨s ++ (bs ps[i] ++ t), ?_, ?_, fun e => absurd hi (by rw [e]; simp)⟩
    · refine Ev.step (f := fun k => vellumlaw11_path.l0 k ps seps (acc ++ mkB s ++ ps[i]) ((i + 1 : Nat) : Int)) (fun k => ?_) ?_
      · rw [vellumlaw11_path.l0, if_pos (by omega), he, Option.bind_some, if_pos (by omega), if_pos (by omega), rd_at ps i hi, if_pos (by omega), wrap_up (by omega) (by omega)]
        rfl
      · rw [bs_append, bs_append, List.append_assoc, List.append_assoc] at ht
        exact ht
    · rw [List.drop_eq_getElem_cons hi, List.map_cons]
      exact .more hsep hp hlaid

end Go.Proofs.Ytjlgfcgdagikgaa.walkParts
