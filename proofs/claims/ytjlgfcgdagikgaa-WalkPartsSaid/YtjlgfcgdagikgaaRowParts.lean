/- WalkParts: names, and .. among them, with slashes and dots between, are told again by walk.Split, one by one; behind 1023 bytes the path is refused. Conditions: none beyond the form's own reach. -/
import Derived.Test.YtjlgfcgdagikgaaRows
import Derived.Test.YtjlgfcgdagikgaaPWalkx4
import Derived.Test.YtjlgfcgdagikgaaPureSplit
import Derived.Test.YtjlgfcgdagikgaaStrs
import Derived.WalkKit
import Derived.ProofKit
import Derived.OpenShut
import Derived.ShutString
import Derived.ChangeOld
import Derived.Below
import Derived.SizedLaws
namespace Go.Proofs.Ytjlgfcgdagikgaa.walkParts
open Go.ChangeShapes Go.WideShapes Go.ChangeAt Go.RowKit
open Go.ChangeMaps (open_string shut_string)
open Go.Proofs.Ytjlgfcgdagikgaa.PWalk Go.Proofs.Ytjlgfcgdagikgaa.Pure
open Go.Proofs.YtjlgfcgdagikgaaW.PrintWords Go.Proofs.YtjlgfcgdagikgaaW.PrintLast
set_option linter.unusedVariables false

/-! ### Plain lists -/
def okPart (p : List UInt8) : Prop := p = [46, 46] ∨ nameE p = 0

theorem nameE_zero {p : List UInt8} (h : nameE p = 0) : p.length ≤ 54 ∧ p ≠ [] ∧ p ≠ [46] ∧ 47 ∉ p := by
  unfold nameE at h
  split at h
  · exact absurd h (by decide)
  · split at h
    · exact absurd h (by decide)
    · rename_i h1 h2
      simp only [not_or] at h2
      exact ⟨by omega, h2.1, h2.2.1, h2.2.2.2.1⟩

theorem ok_good {p : List UInt8} (h : okPart p) : p.length ≤ 54 ∧ good p = true ∧ 47 ∉ p := by
  rcases h with rfl | h
  · decide
  · obtain ⟨h1, h2, h3, h4⟩ := nameE_zero h
    exact ⟨h1, good_ne h2 h3, h4⟩

theorem ok_right : ∀ {ps : List (List UInt8)}, (∀ p ∈ ps, okPart p) → rightE ps = 0
  | [], _ => rfl
  | p :: ps, h => by
    have ih := ok_right (fun q hq => h q (List.mem_cons_of_mem _ hq))
    unfold rightE
    rcases h p List.mem_cons_self with hp | hp
    · rw [if_pos hp, ih]
    · split
      · exact ih
      · exact ih

theorem segs_plain : ∀ (p cur t : List UInt8), 47 ∉ p → segs cur (p ++ t) = segs (cur ++ p) t
  | [], cur, t, _ => by simp
  | c :: p, cur, t, h => by
    have hc : c ≠ 47 := fun e => h (by rw [e]; exact List.mem_cons_self)
    have hp : 47 ∉ p := fun e => h (List.mem_cons_of_mem _ e)
    rw [List.cons_append, segs, if_neg hc, segs_plain p (cur ++ [c]) t hp, List.append_assoc]
    rfl

theorem parts_part {p t : List UInt8} (h : good p = true) (h47 : 47 ∉ p) (ht : t = [] ∨ t.head? = some 47) : parts (p ++ t) = p :: parts t := by
  unfold parts
  rw [segs_plain p [] t h47, List.nil_append]
  rcases ht with rfl | ht
  · simp only [segs, List.filter_cons, h, if_true]; rfl
  · cases t with
    | nil => simp at ht
    | cons c t =>
      simp at ht
      subst ht
      simp only [segs, if_true, List.filter_cons, h]; rfl

def isSep (s : List UInt8) : Prop := s = [47] ∨ s = [47, 47] ∨ s = [47, 46, 47] ∨ s = [47, 46, 47, 46, 47, 47]
theorem parts_sep {s : List UInt8} (h : isSep s) (t : List UInt8) : parts (s ++ t) = parts t := by
  rcases h with rfl | rfl | rfl | rfl <;> simp [parts, segs, good]
theorem sep_head {s : List UInt8} (h : isSep s) (t : List UInt8) : (s ++ t).head? = some 47 := by
  rcases h with rfl | rfl | rfl | rfl <;> rfl
theorem sep_len {s : List UInt8} (h : isSep s) : s.length ≤ 6 := by
  rcases h with rfl | rfl | rfl | rfl <;> decide

/-- A path of parts with something between, and an end. -/
inductive Laid : List (List UInt8) → List UInt8 → Prop where
  | none : Laid [] []
  | last {s : List UInt8} : isSep s → Laid [] s
  | more {s p t : List UInt8} {ps : List (List UInt8)} : isSep s → okPart p → Laid ps t → Laid (p :: ps) (s ++ (p ++ t))

theorem laid_end {ps : List (List UInt8)} {t : List UInt8} (h : Laid ps t) : t = [] ∨ t.head? = some 47 := by
  cases h with
  | none => exact .inl rfl
  | last hs => exact .inr (by have := sep_head hs []; rwa [List.append_nil] at this)
  | more hs _ _ => exact .inr (sep_head hs _)

theorem laid_parts {ps : List (List UInt8)} {t : List UInt8} (h : Laid ps t) : parts t = ps := by
  induction h with
  | none => rfl
  | last hs => have := parts_sep hs []; rw [List.append_nil] at this; exact this
  | more hs hp ht ih =>
    obtain ⟨_, hg, h47⟩ := ok_good hp
    rw [parts_sep hs, parts_part hg h47 (laid_end ht), ih]

theorem laid_ok {ps : List (List UInt8)} {t : List UInt8} (h : Laid ps t) : ∀ p ∈ ps, okPart p := by
  induction h with
  | none => simp
  | last hs => simp
  | more hs hp ht ih =>
    intro q hq
    rcases List.mem_cons.1 hq with rfl | hq
    · exact hp
    · exact ih q hq

theorem tame_ok (l : List UInt8) : nameE (tameL l) = 0 := by
  unfold tameL
  split
  · decide
  · rename_i h
    simp only [not_or] at h
    unfold nameE
    rw [if_neg (by rw [List.length_map, List.length_take]; omega), if_neg]
    rintro (e | e | e | e | e)
    · exact h.1 e
    · exact h.2.1 e
    · exact h.2.2 e
    · obtain ⟨c, _, hc⟩ := List.mem_map.1 e
      unfold tameC at hc
      split at hc
      · exact absurd hc (by decide)
      · rename_i hn; exact hn (.inl hc)
    · obtain ⟨c, _, hc⟩ := List.mem_map.1 e
      unfold tameC at hc
      split at hc
      · exact absurd hc (by decide)
      · rename_i hn; exact hn (.inr hc)

/-! ### between, path -/
theorem within_04 (v : Int) : ∃ n, vellumlaw11_within.f v 0 4 = some n := by
  have e : wrap64 ((wrap64 (4 - 0)) + 1) = 5 := by unfold wrap64; omega
  unfold vellumlaw11_within.f
  rw [e, if_neg (by decide)]
  split <;> exact ⟨_, rfl⟩

theorem between_ev (seps : List Int) (i : Nat) (hl : seps.length ≤ 9223372036854775807) : ∃ s, vellumlaw11_between.f seps i = some (mkB s) ∧ isSep s := by
  unfold vellumlaw11_between.f
  by_cases h0 : (seps.length : Int) = 0
  · rw [if_pos h0]
    exact ⟨[47], rfl, .inl rfl⟩
  · rw [if_neg h0]
    have hm : Int.tmod (i : Int) (seps.length : Int) = ((i % seps.length : Nat) : Int) := by rw [Int.tmod_eq_emod_of_nonneg (by omega)]; rfl
    have hlt : i % seps.length < seps.length := Nat.mod_lt _ (by omega)
    rw [hm, if_pos (by omega), if_pos (by omega)]
    obtain ⟨n, hn⟩ := within_04 (rd seps ((i % seps.length : Nat) : Int))
    rw [hn, Option.bind_some]
    split
    · exact ⟨[47, 47], rfl, .inr (.inl rfl)⟩
    · split
      · exact ⟨[47, 46, 47], rfl, .inr (.inr (.inl rfl))⟩
      · split
        · exact ⟨[47, 46, 47, 46, 47, 47], rfl, .inr (.inr (.inr rfl))⟩
        · exact ⟨[47], rfl, .inl rfl⟩

theorem bs_append (a b : ByteArray) : bs (a ++ b) = bs a ++ bs b := by simp [bs]
theorem mkB_append (a b : List UInt8) : mkB a ++ mkB b = mkB (a ++ b) := bs_inj (by rw [bs_append]; rfl)

theorem path_loop (ps : List ByteArray) (seps : List Int) (hps : ps.length ≤ 1024) (hok : ∀ p ∈ ps, okPart (bs p)) (hl : seps.length ≤ 9223372036854775807) : ∀ (d i : Nat) (acc : ByteArray), i + d = ps.length → acc.size ≤ 60 * i →
    ∃ t, Ev (fun k => vellumlaw11_path.l0 k ps seps acc i) (mkB (bs acc ++ t)) ∧ Laid ((ps.drop i).map bs) t ∧ (ps = [] → t ≠ [])
  | 0, i, acc, h, hs => by
    rw [List.drop_of_length_le (by omega)]
    by_cases h0 : (ps.length : Int) = 0
    · obtain ⟨s, he, hsep⟩ := between_ev seps ps.length hl
      refine ⟨s, Ev.step (fun k => ?_) (Ev.now _), .last hsep, fun _ => by rcases hsep with rfl | rfl | rfl | rfl <;> simp⟩
      have := sep_len hsep
      have hz : (mkB s).size = s.length := by rw [size_bs]; rfl
      rw [vellumlaw11_path.l0, if_neg (by omega), if_pos h0, he, Option.bind_some, if_pos (by omega), ← mkB_append, mkB_bs]
    · by_cases h1 : (seps.length : Int) > 0
      · by_cases h2 : Int.tmod (rd seps 0) 3 = 1
        · obtain ⟨s, he, hsep⟩ := between_ev seps ps.length hl
          refine ⟨s, Ev.step (fun k => ?_) (Ev.now _), .last hsep, fun e => absurd (by rw [e]; rfl) h0⟩
          have := sep_len hsep
          have hz : (mkB s).size = s.length := by rw [size_bs]; rfl
          rw [vellumlaw11_path.l0, if_neg (by omega), if_neg h0, if_pos h1, if_pos (by omega), if_pos h2, he, Option.bind_some, if_pos (by omega), ← mkB_append, mkB_bs]
        · refine ⟨[], Ev.step (fun k => ?_) (Ev.now _), .none, fun e => absurd (by rw [e]; rfl) h0⟩
          rw [vellumlaw11_path.l0, if_neg (by omega), if_neg h0, if_pos h1, if_pos (by omega), if_neg h2, List.append_nil, mkB_bs]
      · refine ⟨[], Ev.step (fun k => ?_) (Ev.now _), .none, fun e => absurd (by rw [e]; rfl) h0⟩
        rw [vellumlaw11_path.l0, if_neg (by omega), if_neg h0, if_neg h1, List.append_nil, mkB_bs]
  | d + 1, i, acc, h, hs => by
    have hi : i < ps.length := by omega
    have hp := hok ps[i] (List.getElem_mem hi)
    have hpl := (ok_good hp).1
    obtain ⟨s, he, hsep⟩ := between_ev seps i hl
    have hsl := sep_len hsep
    have hz : (mkB s).size = s.length := by rw [size_bs]; rfl
    have hz1 : (acc ++ mkB s).size = acc.size + s.length := by simp [hz]
    have hz2 : (acc ++ mkB s ++ ps[i]).size = acc.size + s.length + ps[i].size := by simp [hz]
    have hps2 : ps[i].size ≤ 54 := by rw [size_bs]; exact hpl
    obtain ⟨t, ht, hlaid, _⟩ := path_loop ps seps hps hok hl d (i + 1) (acc ++ mkB s ++ ps[i]) (by omega) (by omega)
    refine ⟨s ++ (bs ps[i] ++ t), ?_, ?_, fun e => absurd hi (by rw [e]; simp)⟩
    · refine Ev.step (f := fun k => vellumlaw11_path.l0 k ps seps (acc ++ mkB s ++ ps[i]) ((i + 1 : Nat) : Int)) (fun k => ?_) ?_
      · rw [vellumlaw11_path.l0, if_pos (by omega), he, Option.bind_some, if_pos (by omega), if_pos (by omega), rd_at ps i hi, if_pos (by omega), wrap_up (by omega) (by omega)]
        rfl
      · rw [bs_append, bs_append, List.append_assoc, List.append_assoc] at ht
        exact ht
    · rw [List.drop_eq_getElem_cons hi, List.map_cons]
      exact .more hsep hp hlaid

/-! ### The law -/
theorem tail_ev (names : List ByteArray) (ups seps : List Int) (acc : List ByteArray) (i : Int) (hs : seps.length ≤ 9223372036854775807) (hl : acc.length ≤ 1024) (hok : ∀ p ∈ acc, okPart (bs p)) :
    Ev (fun k => vellumlaw11_WalkParts.j3 k names ups seps acc i false) true := by
  obtain ⟨t, ht, hlaid, hne⟩ := path_loop acc seps hl hok hs acc.length 0 ⟨#[]⟩ (by omega) (by decide)
  rw [List.drop_zero] at hlaid
  have ht : Ev (fun k => vellumlaw11_path.f k acc seps) (mkB t) := ht
  refine Ev.step (fun k => by rw [vellumlaw11_WalkParts.j3, if_neg (by decide)]) ?_
  refine Ev.bind ht ?_
  refine Ev.bind (split_ev (mkB t)) ?_
  have hsz : ((mkB t).size : Int) = t.length := by rw [size_bs]; rfl
  rw [bs_mkB, hsz]
  unfold splitE
  by_cases h1 : 1023 < t.length
  · rw [if_pos h1]
    exact Ev.congr (fun k => by rw [if_pos (by omega), if_pos rfl]; rfl) (Ev.now _)
  · rw [if_neg h1]
    have hh : t.head? = some 47 := by
      cases acc with
      | nil =>
        rcases laid_end hlaid with h | h
        · exact absurd h (hne rfl)
        · exact h
      | cons a acc =>
        cases hlaid with
        | more hsep _ _ => exact sep_head hsep _
    rw [if_pos hh, laid_parts hlaid, if_pos (ok_right (laid_ok hlaid))]
    have hm : List.map mkB (List.map bs acc) = acc := by rw [List.map_map, show (mkB ∘ bs) = id from funext fun x => mkB_bs x, List.map_id]
    refine Ev.congr (fun k => by rw [if_neg (by omega), if_pos rfl, hm]) ?_
    exact Ev.bind (same_ev acc (by omega)) (Ev.now _)

theorem want_loop (names : List ByteArray) (ups seps : List Int) (hn : names.length ≤ 9223372036854775807) (hsz : ∀ s ∈ names, s.size ≤ 9223372036854775807) (hu : ups.length ≤ 9223372036854775807) (hs : seps.length ≤ 9223372036854775807) :
    ∀ (d i : Nat) (acc : List ByteArray), i + d = 1024 → acc.length = i → (∀ p ∈ acc, okPart (bs p)) → Ev (fun k => vellumlaw11_WalkParts.l0 k names ups seps acc i) true
  | d, i, acc, h, ha, hok => by
    have hstop : Ev (fun k => vellumlaw11_WalkParts.j3 k names ups seps acc i false) true := tail_ev names ups seps acc i hs (by omega) hok
    by_cases hi : i < names.length
    · cases d with
      | zero =>
        refine Ev.step (fun k => ?_) hstop
        rw [vellumlaw11_WalkParts.l0, if_pos (by omega), decide_eq_false (by omega)]
      | succ d =>
        have next : ∀ x : ByteArray, okPart (bs x) → Ev (fun k => vellumlaw11_WalkParts.l0 k names ups seps (acc ++ [x]) ((i + 1 : Nat) : Int)) true := fun x hx =>
          want_loop names ups seps hn hsz hu hs d (i + 1) (acc ++ [x]) (by omega) (by simp [ha]) (by
            intro p hp
            rcases List.mem_append.1 hp with hp | hp
            · exact hok p hp
            · rw [List.mem_singleton.1 hp]; exact hx)
        have hacc : acc.length < 8796093022208 := by omega
        have hw : wrap64 ((i : Int) + 1) = ((i + 1 : Nat) : Int) := wrap_up (by omega) (by omega)
        refine Ev.step (f := fun k => vellumlaw11_WalkParts.j3 k names ups seps acc i true) (fun k => by rw [vellumlaw11_WalkParts.l0, if_pos (by omega), decide_eq_true (by omega)]) ?_
        have htm : vellumlaw11_tame.f names[i] = some (mkB (tameL (bs names[i]))) := by
          unfold vellumlaw11_tame.f
          rw [if_pos (hsz _ (List.getElem_mem hi))]
        have hto : okPart (bs (mkB (tameL (bs names[i])))) := .inr (tame_ok _)
        by_cases hu0 : (ups.length : Int) > 0
        · have hm : Int.tmod (i : Int) (ups.length : Int) = ((i % ups.length : Nat) : Int) := by rw [Int.tmod_eq_emod_of_nonneg (by omega)]; rfl
          have hlt : i % ups.length < ups.length := Nat.mod_lt _ (by omega)
          by_cases h4 : Int.tmod (rd ups ((i % ups.length : Nat) : Int)) 4 = 1
          · refine Ev.step (fun k => ?_) (next ⟨#[46, 46]⟩ (.inl rfl))
            rw [vellumlaw11_WalkParts.j3, if_pos rfl, if_pos (by omega), if_pos (by omega), rd_at names i hi, htm, Option.bind_some, if_pos hu0, if_neg (by omega), hm, if_pos (by omega), if_pos (by omega), if_pos h4, if_pos hacc, hw]
          · refine Ev.step (fun k => ?_) (next _ hto)
            rw [vellumlaw11_WalkParts.j3, if_pos rfl, if_pos (by omega), if_pos (by omega), rd_at names i hi, htm, Option.bind_some, if_pos hu0, if_neg (by omega), hm, if_pos (by omega), if_pos (by omega), if_neg h4, if_pos hacc, hw]
        · refine Ev.step (fun k => ?_) (next _ hto)
          rw [vellumlaw11_WalkParts.j3, if_pos rfl, if_pos (by omega), if_pos (by omega), rd_at names i hi, htm, Option.bind_some, if_neg hu0, if_pos hacc, hw]
    · refine Ev.step (fun k => ?_) hstop
      rw [vellumlaw11_WalkParts.l0, if_neg (by omega)]

theorem pure_law (names : List ByteArray) (ups seps : List Int) (hn : names.length ≤ 9223372036854775807) (hsz : ∀ s ∈ names, s.size ≤ 9223372036854775807) (hu : ups.length ≤ 9223372036854775807) (hs : seps.length ≤ 9223372036854775807) :
    ∃ k, vellumlaw11_WalkParts.f k names ups seps = some true := by
  refine Ev.rounds (g := fun k => vellumlaw11_WalkParts.f k names ups seps) ?_
  unfold vellumlaw11_WalkParts.f
  refine Ev.bind (split_ev _) ?_
  have e : splitE (bs ⟨#[47]⟩) = ([], 0) := by decide
  rw [e]
  refine Ev.congr (fun k => by rw [if_pos rfl]) ?_
  refine Ev.step (fun k => by rw [vellumlaw11_WalkParts.j0, if_neg (by decide)]) ?_
  refine Ev.bind (split_ev _) ?_
  have e2 : splitE (bs ⟨#[47, 120, 47, 46, 46, 47, 121, 47]⟩) = ([[120], [46, 46], [121]], 0) := by decide
  rw [e2]
  refine Ev.congr (fun k => by rw [if_pos rfl]) ?_
  refine Ev.bind (same_ev _ (by decide)) ?_
  exact Ev.step (fun k => by rw [vellumlaw11_WalkParts.j1, if_neg (by decide)]; rfl) (want_loop names ups seps hn hsz hu hs 1024 0 [] rfl rfl (by simp))


theorem own : ownKnob Try.prog.godebug = none := by kernel_rfl
theorem laidOut : laidOutB Try.prog = true := by kernel_rfl
theorem walk (A0 A1 A2 : Option Addr) (n0 n1 n2 c0 c1 c2 : Nat) (w : World) (l0 : List ByteArray) (l1 l2 : List Int) (h0 : l0.length = n0) (h1 : l1.length = n1) (h2 : l2.length = n2) (r0 : Kd.C Kd.string w A0 n0 l0) (r1 : Kd.C (Kd.int .i64) w A1 n1 l1) (r2 : Kd.C (Kd.int .i64) w A2 n2 l2)
    (k0 : n0 ≤ c0) (k1 : n1 ≤ c1) (k2 : n2 ≤ c2) (hsz : ∀ s ∈ l0, s.size ≤ 9223372036854775807) :
    Calls Try.prog 7 #[.slice A0 n0 c0, .slice A1 n1 c1, .slice A2 n2 c2] w fun e w' => e = .returned (.bool true) ∧ Below w.heap.size w w' := by
  subst h0 h1 h2
  obtain ⟨k, h⟩ := pure_law l0 l1 l2 r0.2.1 hsz r1.2.1 r2.2.1
  exact vellumlaw11_WalkParts.calls k A0 c0 l0 A1 c1 l1 A2 c2 l2 true w r0 k0 r1 k1 r2 k2 h

set_option maxRecDepth 100000 in
theorem lifted (os : Os) (started : os.Started) (H : Type) (enc : TypeId × Value → H) :
    ReturnsInHanded {} Try.checked os 7 .any (Rows.walkPartsSpec.pre6 enc Try.prog Try.f7 Rows.walkPartsRow.domain false) (Rows.walkPartsSpec.post enc Try.prog Try.f7 false true false false) := by
  refine returnsInHanded_of_change_sized (C := Try.checked) own started (by kernel_rfl) Try.func7
    (ChangeSpec.witness6 (enc := enc) (C := Try.checked) false ⟨#[], #[.slice none 0 0, .slice none 0 0, .slice none 0 0], []⟩ 8 (by kernel_rfl) (by kernel_rfl) (by kernel_rfl) (by kernel_rfl)) ?_
  intro W base args ds gs before hval0 hW hcnd hsz0 _
  have hval : ∀ (j : Nat) t v, Try.f7.params[j]? = some t → args[j]? = some v → Value.okWide Try.prog W .any base t v := hval0
  have hW' := hW
  obtain ⟨p, q, hA0, hV, rfl, hfz, hnd⟩ := hW
  have hA : DataW.TrodAll enc Try.prog W 0 (fun _ => true) true Try.f7.params.toList args.toList ds p := hA0
  rw [Try.params7] at hA hval
  obtain ⟨v0, vs0, d0, ds0, p0, q0, hargs, rfl, rfl, h0, r0⟩ := trodAll_cons hA
  obtain ⟨v1, vs1, d1, ds1, p1, q1, rfl, rfl, rfl, h1, r1⟩ := trodAll_cons r0
  obtain ⟨v2, vs2, d2, ds2, p2, q2, rfl, rfl, rfl, h2, r2⟩ := trodAll_cons r1
  obtain ⟨rfl, rfl, rfl⟩ := trodAll_nil r2
  obtain rfl : args = #[v0, v1, v2] := by cases args; simp_all
  obtain ⟨rfl, rfl⟩ := trodVars_none hV
  obtain ⟨a0, len0, cap0, rfl⟩ := okWide_slice Try.underlying23 (hval 0 23 v0 rfl rfl)
  obtain ⟨a1, len1, cap1, rfl⟩ := okWide_slice Try.underlying31 (hval 1 31 v1 rfl rfl)
  obtain ⟨a2, len2, cap2, rfl⟩ := okWide_slice Try.underlying31 (hval 2 31 v2 rfl rfl)
  have k0 := h0
  have k1 := h1
  have k2 := h2
  have lt0 : ∀ x ∈ p0, x.block < W.heap.size := by obtain ⟨m, hm⟩ := k0; exact DataW.trod_lt m _ _ _ hm
  have lt1 : ∀ x ∈ p1, x.block < W.heap.size := by obtain ⟨m, hm⟩ := k1; exact DataW.trod_lt m _ _ _ hm
  have lt2 : ∀ x ∈ p2, x.block < W.heap.size := by obtain ⟨m, hm⟩ := k2; exact DataW.trod_lt m _ _ _ hm
  obtain ⟨l0, hl0, hr0, hc0, hs0, _⟩ := strs_read Try.underlying23 Try.underlying9 (by kernel_rfl) h0
  obtain ⟨l1, hl1, hr1, hc1, _⟩ := ints_read Try.underlying31 Try.underlying3 (by kernel_rfl) h1
  obtain ⟨l2, hl2, hr2, hc2, _⟩ := ints_read Try.underlying31 Try.underlying3 (by kernel_rfl) h2
  clear hA0 hval0 hsz0
  refine (walk a0 a1 a2 len0 len1 len2 cap0 cap1 cap2 W l0 l1 l2 hl0 hl1 hl2 hr0 hr1 hr2 hc0 hc1 hc2 hs0).mono fun e W' ⟨he, bel⟩ => ?_
  subst he
  exact ⟨_, rfl, _, _, _, [], _, [], hW', trodAll_mk1 (shut_bool Try.underlying4 _), (trodAll_cons_mk (Below.trod laidOut (by kernel_rfl) (of_decide_eq_true (by kernel_rfl)) k0 bel lt0) (trodAll_cons_mk (Below.trod laidOut (by kernel_rfl) (of_decide_eq_true (by kernel_rfl)) k1 bel lt1) (trodAll_cons_mk (Below.trod laidOut (by kernel_rfl) (of_decide_eq_true (by kernel_rfl)) k2 bel lt2) trodAll_mk0))), rfl, bel.frame _, fun h => by cases h⟩
theorem over : Rows.walkPartsRow.holds Try.pinned (OpenSpec.ofChange Rows.walkPartsSpec) :=
  OpenClaim.holds_of_wide 7 Try.f7 rfl rfl rfl rfl rfl rfl rfl ⟨rfl, rfl, rfl, rfl, rfl⟩ rfl rfl rfl rfl rfl (by kernel_rfl) Try.func7 (by kernel_rfl)
    (of_decide_eq_true (by kernel_rfl)) (by unfold Func.isWrapper; first | (rw [if_pos (by decide +kernel)]; kernel_rfl) | (rw [if_neg (by decide +kernel)]; exact ⟨rfl, rfl⟩))
    (fun os started H enc _ => lifted os started H enc)
theorem proved : Rows.WalkPartsSaid := over
end Go.Proofs.Ytjlgfcgdagikgaa.walkParts
namespace Go.Proofs.Ytjlgfcgdagikgaa
theorem walkParts_holds : Rows.WalkPartsSaid := walkParts.proved
#print axioms walkParts_holds
end Go.Proofs.Ytjlgfcgdagikgaa
