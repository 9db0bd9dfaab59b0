/- walk.cut: a contract for every text of at most 1048576 bytes. -/
import Derived.Test.YtjlgfcgdagikgaaName
import Derived.Test.YtjlgfcgdagikgaaWMore
import Derived.OneCell
namespace Go.Proofs.Ytjlgfcgdagikgaa
open Go.RowKit Go.Lib
open Go.Proofs.YtjlgfcgdagikgaaW.PrintWords Go.Proofs.YtjlgfcgdagikgaaW.PrintLast

/-- The list with the part from .. to, unless that is empty or a dot. -/
def addPart (s : ByteArray) (from_ upto : Nat) (acc : List ByteArray) : List ByteArray :=
  if (s.extract from_ upto).toList = ([] : List UInt8) then acc
  else if (s.extract from_ upto).toList = ([46] : List UInt8) then acc
  else acc ++ [s.extract from_ upto]

structure CutSt (s : ByteArray) (B : Nat) (from_ pos : Nat) (acc : List ByteArray) (v : Value) (w : World) : Prop where
  text : w.heap[B]? = some (.cells #[.string s] 9 (0, 0))
  out : w.heap[B + 1]? = some (.cells #[v] 23 (0, 0))
  fro : w.heap[B + 2]? = some (.cells #[.int .i64 from_] 3 (0, 0))
  iter : w.heap[B + 3]? = some (.stringIter s pos)
  row : Kd.R Kd.string 9 w B (fun k => B + 3 < k) v acc

theorem info9c : (Try.prog.info? 9).map (fun i => (i.zero, i.size, i.bytes)) = some (some (.string ByteArray.empty), 1, 16) := by kernel_rfl

theorem kd_slice {w : World} {base : Nat} {ok : Nat → Prop} {v : Value} {xs : List ByteArray} (h : Kd.R Kd.string 9 w base ok v xs) : ∃ A c, v = .slice A xs.length c := by
  obtain ⟨_, inner, ho, hr⟩ := h
  have hl := hr
  obtain ⟨A, c, e⟩ := own_slice ho
  exact ⟨A, c, e⟩

theorem one_lt {w : World} {k : Nat} {o : Obj} (h : w.heap[k]? = some o) : k < w.heap.size := (Array.getElem?_eq_some_iff.1 h).1

/-- Behind the append: the four blocks stand. -/
theorem CutSt.grown {s : ByteArray} {B from_ pos : Nat} {acc : List ByteArray} {v : Value} {w w1 : World} (H : CutSt s B from_ pos acc v w) (hg : w.grownBy w1 v.ownBlock) :
    w1.heap[B]? = some (.cells #[.string s] 9 (0, 0)) ∧ w1.heap[B + 1]? = some (.cells #[v] 23 (0, 0)) ∧ w1.heap[B + 2]? = some (.cells #[.int .i64 from_] 3 (0, 0)) ∧ w1.heap[B + 3]? = some (.stringIter s pos) := by
  have ne : ∀ k, k ≤ B + 3 → some k ≠ v.ownBlock := fun k hk e => by have := H.row.1 k e.symm; omega
  exact ⟨(hg.block _ (one_lt H.text) (ne _ (by omega))).trans H.text, (hg.block _ (one_lt H.out) (ne _ (by omega))).trans H.out,
    (hg.block _ (one_lt H.fro) (ne _ (by omega))).trans H.fro, (hg.block _ (one_lt H.iter) (ne _ (by omega))).trans H.iter⟩

/-- Behind the store of the new row. -/
theorem CutSt.stored {s : ByteArray} {B from_ pos : Nat} {acc acc1 : List ByteArray} {v v1 : Value} {w w1 : World} (H : CutSt s B from_ pos acc v w) (hg : w.grownBy w1 v.ownBlock)
    (ho : Kd.R Kd.string 9 w1 B (fun k => B + 3 < k) v1 acc1) : CutSt s B from_ pos acc1 v1 (w1.setCell ⟨B + 1, 0, none⟩ v1) := by
  obtain ⟨h0, h1, h2, h3⟩ := H.grown hg
  exact ⟨(Below.heap_setCell _ _ _ _ (by simp)).trans h0, one_setCell h1, (Below.heap_setCell _ _ _ _ (by simp)).trans h2, (Below.heap_setCell _ _ _ _ (by simp)).trans h3,
    Kd.R_far ho (fun k hk => by show k ≠ B + 1; omega) _⟩

set_option maxHeartbeats 2000000 in
set_option maxRecDepth 100000 in
theorem cut_add (s : ByteArray) (w0 w : World) (from_ upto pos : Nat) (acc : List ByteArray) (v : Value) (H : CutSt s w0.heap.size from_ pos acc v w) (hb : Below w0.heap.size w0 w)
    (h1 : from_ ≤ upto) (h2 : upto ≤ s.size) (hl : acc.length ≤ 1048576) :
    Calls Try.prog 20 #[.int .i64 upto, .pointer (some ⟨w0.heap.size, 0, none⟩), .pointer (some ⟨w0.heap.size + 1 + 1, 0, none⟩), .pointer (some ⟨w0.heap.size + 1, 0, none⟩)] w
      fun e w' => e = .returned (.tuple #[]) ∧ (∃ v', CutSt s w0.heap.size from_ pos (addPart s from_ upto acc) v' w') ∧ Below w0.heap.size w0 w' := by
  have cT := cell_of_one H.text
  have cF : w.cell? ⟨w0.heap.size + 1 + 1, 0, none⟩ = _ := cell_of_one H.fro
  have cO := cell_of_one H.out
  have fO := free_of_one H.out
  have HA := Aside0.mk H
  have HB := Aside0.mk hb
  clear H hb
  by_cases e1 : (s.extract from_ upto).toList = ([] : List UInt8)
  · have b1 : (!(s.extract from_ upto).toList.isEmpty) = false := by rw [e1]; rfl
    have E1 := Aside0.mk e1
    clear e1
    go_enter Try.func20, Try.ntmps20
    go_wp2_with (fail)
    go_end0
    exact ⟨rfl, ⟨v, by unfold addPart; rw [if_pos E1.out]; exact HA.out⟩, HB.out⟩
  · have b1 : (!(s.extract from_ upto).toList.isEmpty) = true := by
      cases h : (s.extract from_ upto).toList with
      | nil => exact absurd h e1
      | cons _ _ => rfl
    by_cases e2 : (s.extract from_ upto).toList = ([46] : List UInt8)
    · have b2 : ((s.extract from_ upto).toList == ([46] : List UInt8)) = true := beq_iff_eq.mpr e2
      have E1 := Aside0.mk e1
      have E2 := Aside0.mk e2
      clear e1 e2
      go_enter Try.func20, Try.ntmps20
      go_wp2_with (fail)
      go_end0
      exact ⟨rfl, ⟨v, by unfold addPart; rw [if_neg E1.out, if_pos E2.out]; exact HA.out⟩, HB.out⟩
    · have b2 : ((s.extract from_ upto).toList == ([46] : List UInt8)) = false := beq_eq_false_iff_ne.mpr e2
      have E1 := Aside0.mk e1
      have E2 := Aside0.mk e2
      clear e1 e2
      go_enter Try.func20, Try.ntmps20
      go_wp2_with ((with_reducible refine gate_builtin (b := .append) (xs := #[.tmp 16, .tmp 18]) rfl ?_); at_builtin; refine Kd.R_append Kd.string (w0 := w0) w0.heap.size rfl (.tmp 16) (.tmp 18) 23 9 (.string ⟨#[]⟩) 16 rfl Try.underlying23 info9c rfl (by decide) (by omega) v acc (s.extract from_ upto) [.string (s.extract from_ upto)] (fun k => w0.heap.size + 3 < k) (fun _ => False) rfl rfl ?aP (fun _ hk => hk.elim) ?aF ?aO ?aB ?aS ?aL ?_; (case aP => exact rfl); (case aB => exact HB.out); (case aF => exact (fun k hk => by have := one_lt HA.out.iter; omega)); (case aO => exact HA.out.row); (case aS => exact HB.out.size); (case aL => omega); intro v1 w1 ho hb hg _; have HO := Aside0.mk ho; have HG := Aside0.mk hg; have HB1 := Aside0.mk hb; have cO1 := cell_of_one (HA.out.grown hg).2.1; have fO1 := free_of_one (HA.out.grown hg).2.1; clear ho hg hb; obtain ⟨A1, c1, hv⟩ := kd_slice HO.out; subst hv)
      go_end0
      have h := HO.out
      simp only [List.length_append, List.length_cons, List.length_nil, Nat.zero_add] at h
      exact ⟨rfl, ⟨_, by unfold addPart; rw [if_neg E1.out, if_neg E2.out]; exact HA.out.stored HG.out h⟩, HB1.out.setCell (by simp) _⟩

/-- The place behind the last slash ahead of p, and the parts that end ahead of it. -/
def cutSt (s : ByteArray) : Nat → Nat × List ByteArray
  | 0 => (0, [])
  | p + 1 => if s.get! p = 47 then (p + 1, addPart s (cutSt s p).1 p (cutSt s p).2) else cutSt s p

theorem addPart_len (s : ByteArray) (a b : Nat) (l : List ByteArray) : (addPart s a b l).length ≤ l.length + 1 := by
  unfold addPart
  split
  · omega
  · split
    · omega
    · simp

theorem cutSt_le (s : ByteArray) : ∀ p, (cutSt s p).1 ≤ p ∧ (cutSt s p).2.length ≤ p
  | 0 => ⟨Nat.le_refl _, Nat.le_refl _⟩
  | p + 1 => by
    have ih := cutSt_le s p
    unfold cutSt
    split
    · have := addPart_len s (cutSt s p).1 p (cutSt s p).2
      exact ⟨Nat.le_refl _, by show (addPart s (cutSt s p).1 p (cutSt s p).2).length ≤ p + 1; omega⟩
    · exact ⟨by omega, by omega⟩

theorem cutSt_high (s : ByteArray) (i : Nat) (h : i < s.size) (ha : 128 ≤ (s[i]'h).toNat) : ∀ k, k ≤ (Utf8.decode s i).2 → cutSt s (i + k) = cutSt s i
  | 0, _ => rfl
  | k + 1, hk => by
    have hd := decode_cont s i h ha k (by omega)
    have hne : ¬ s.get! (i + k) = 47 := fun e => by rw [e] at hd; exact absurd hd.2 (by decide)
    show cutSt s (i + k + 1) = _
    rw [cutSt, if_neg hne]
    exact cutSt_high s i h ha k (by omega)

/-- The parts of a text: what stands between its slashes, without the empty ones and the dots. -/
def cutParts (s : ByteArray) : List ByteArray := addPart s (cutSt s s.size).1 s.size (cutSt s s.size).2

def walk_cut.f (a0 : ByteArray) : Option (List ByteArray) := if a0.size ≤ 1048576 then some (cutParts a0) else none

theorem CutSt.iterAt {s : ByteArray} {B from_ pos pos2 : Nat} {acc : List ByteArray} {v : Value} {w : World} (H : CutSt s B from_ pos acc v w) : CutSt s B from_ pos2 acc v (w.iterAt (B + 1 + 1 + 1) s pos2) := by
  refine ⟨?_, ?_, ?_, iterAt_heap w (B + 3) s pos pos2 H.iter, ?_⟩
  · rw [iterAt_other _ _ _ _ _ (by omega)]; exact H.text
  · rw [iterAt_other _ _ _ _ _ (by omega)]; exact H.out
  · rw [iterAt_other _ _ _ _ _ (by omega)]; exact H.fro
  · exact Kd.R_step H.row (fun k hk _ => iterAt_other _ _ _ _ _ (by omega))

theorem CutSt.setFrom {s : ByteArray} {B from_ from2 pos : Nat} {acc : List ByteArray} {v : Value} {w : World} (H : CutSt s B from_ pos acc v w) : CutSt s B from2 pos acc v (w.setCell ⟨B + 1 + 1, 0, none⟩ (.int .i64 from2)) :=
  ⟨(Below.heap_setCell _ _ _ _ (by simp; omega)).trans H.text, (Below.heap_setCell _ _ _ _ (by simp)).trans H.out, one_setCell H.fro, (Below.heap_setCell _ _ _ _ (by simp)).trans H.iter,
    Kd.R_far H.row (fun k hk => by show k ≠ B + 1 + 1; omega) _⟩

theorem cut_start (s : ByteArray) (w : World) : CutSt s w.heap.size 0 0 [] (.slice none 0 0) ((((w.alloc (.cells #[.string s] 9)).alloc (.cells #[.slice none 0 0] 23)).alloc (.cells #[.int .i64 0] 3)).iter s 0) := by
  refine ⟨?_, ?_, ?_, ?_, Kd.R_nil _ _ _ _ _⟩
  · show ((((w.heap.push _).push _).push _).push _)[w.heap.size]? = _
    simp only [Array.getElem?_push, Array.size_push]
    rw [if_neg (by omega), if_neg (by omega), if_neg (by omega), if_pos trivial]
  · show ((((w.heap.push _).push _).push _).push _)[w.heap.size + 1]? = _
    simp only [Array.getElem?_push, Array.size_push]
    rw [if_neg (by omega), if_neg (by omega), if_pos trivial]
  · show ((((w.heap.push _).push _).push _).push _)[w.heap.size + 2]? = _
    simp only [Array.getElem?_push, Array.size_push]
    rw [if_neg (by omega), if_pos trivial]
    rfl
  · show ((((w.heap.push _).push _).push _).push _)[w.heap.size + 3]? = _
    simp only [Array.getElem?_push, Array.size_push]
    rw [if_pos trivial]

set_option maxHeartbeats 4000000 in
set_option maxRecDepth 100000 in
theorem walk_cut.calls (a0 : ByteArray) (r : List ByteArray) (w : World) (h : walk_cut.f a0 = some r) :
    Calls Try.prog 15 #[.string a0] w fun e w' => ∃ v0_ : Value, e = .returned v0_ ∧ Kd.R Kd.string 9 w' w.heap.size (fun _ => True) v0_ r ∧ Below w.heap.size w w' := by
  unfold walk_cut.f at h
  by_cases hs : a0.size ≤ 1048576
  · rw [if_pos hs] at h
    obtain rfl := Option.some.inj h
    clear h
    go_enter Try.func15, Try.ntmps15
    go_wp2
    go_loopg [6, 7] a0.size (fun g _ _ wx => ∃ i : Nat, i + g = a0.size ∧ Aside0 (∃ v, CutSt a0 w.heap.size (cutSt a0 i).1 i (cutSt a0 i).2 v wx) ∧ Aside0 (Below w.heap.size w wx))
    case atStart => exact ⟨0, by omega, ⟨_, cut_start a0 w⟩, ⟨(((((Below.refl _ _).alloc (Nat.le_refl _) _).alloc (by simp) _).alloc (by simp; omega) _).alloc (by simp; omega) _)⟩⟩
    case round =>
      obtain ⟨i, hig, HC, HB⟩ := hrel
      obtain ⟨v, HC⟩ := HC.out
      have HC := Aside0.mk HC
      by_cases hp : i < a0.size
      · obtain ⟨x, hx⟩ : ∃ x : UInt8, a0[i]'hp = x := ⟨_, rfl⟩
        have hg : a0.get! i = x := by
          rw [← hx]
          simp [ByteArray.get!, getElem!_pos, hp]
          rfl
        have hle := cutSt_le a0 i
        have HG := Aside0.mk hg
        by_cases ha : x.toNat < 128
        · have hnx := fun ty => run_next_ascii_at (P := Try.prog) wr (w.heap.size + 1 + 1 + 1) a0 i ty HC.out.iter hp (by rw [hx]; exact ha)
          rw [hx] at hnx
          clear hx hg
          have HC2 := Aside0.mk (CutSt.iterAt (pos2 := i + 1) HC.out)
          have HB2 := Aside0.mk (below_iterAt HB.out (show w.heap.size ≤ w.heap.size + 1 + 1 + 1 by omega) a0 (i + 1))
          by_cases h47 : x = 47
          · subst h47
            have hlen : (cutSt a0 i).2.length ≤ 1048576 := by omega
            have hfi := hle.1
            have hpi : i ≤ a0.size := by omega
            go_wp2_with (go_at_call 20; refine (cut_add a0 w _ (cutSt a0 i).1 i (i + 1) (cutSt a0 i).2 v HC2.out HB2.out hfi hpi hlen).mono ?_; rintro e w2 ⟨rfl, hst, hbl⟩; obtain ⟨v2, hst⟩ := hst; have HC3 := Aside0.mk hst; have HB3 := Aside0.mk hbl; have cF2 : w2.cell? ⟨w.heap.size + 1 + 1, 0, none⟩ = _ := cell_of_one hst.fro; have fF2 : w2.frozen? ⟨w.heap.size + 1 + 1, 0, none⟩ = false := free_of_one hst.fro; clear hst hbl)
            go_roundg (a0.size - (i + 1))
            case measure => omega
            case rel => exact ⟨i + 1, by omega, ⟨v2, by rw [cutSt, if_pos HG.out]; exact HC3.out.setFrom⟩, ⟨HB3.out.setCell (by simp; omega) _⟩⟩
          · have hne : ((x.toNat : Int) == 47) = false := beq_eq_false_iff_ne.2 (fun e => h47 (UInt8.toNat_inj.1 (by have : (47 : UInt8).toNat = 47 := rfl; omega)))
            have H47 := Aside0.mk h47
            clear h47
            go_wp2_with (fail)
            go_roundg (a0.size - (i + 1))
            case measure => omega
            case rel => exact ⟨i + 1, by omega, ⟨v, by rw [cutSt, if_neg (by rw [HG.out]; exact H47.out)]; exact HC2.out⟩, HB2⟩
        · have hhi : 128 ≤ (a0[i]'hp).toNat := by rw [hx]; omega
          have hd := decode_high a0 i hp hhi
          have HD := fun k hk => decode_cont a0 i hp hhi k hk
          have hL : i + (Utf8.decode a0 i).2 ≤ a0.size := by have := (HD ((Utf8.decode a0 i).2 - 1) (by omega)).1; omega
          have HS := Aside0.mk (cutSt_high a0 i hp hhi (Utf8.decode a0 i).2 (Nat.le_refl _))
          clear HD
          obtain ⟨rn, wd, hde⟩ : ∃ rn wd, Utf8.decode a0 i = (rn, wd) := ⟨_, _, rfl⟩
          have hnx := fun ty => run_next_any_at (P := Try.prog) wr (w.heap.size + 1 + 1 + 1) a0 i ty HC.out.iter hp
          rw [hde] at hnx hd hL HS
          have hd1 := hd.1
          have hd2 := hd.2
          clear hd hx hhi hde hg
          dsimp only at hnx hd1 hd2 hL
          have HS2 : Aside0 (cutSt a0 (i + wd) = cutSt a0 i) := ⟨HS.out⟩
          clear HS
          have hne : ((rn : Int) == 47) = false := beq_eq_false_iff_ne.2 (by omega)
          have HC2 := Aside0.mk (CutSt.iterAt (pos2 := i + wd) HC.out)
          have HB2 := Aside0.mk (below_iterAt HB.out (show w.heap.size ≤ w.heap.size + 1 + 1 + 1 by omega) a0 (i + wd))
          go_wp2_with (fail)
          go_roundg (a0.size - (i + wd))
          case measure => omega
          case rel => exact ⟨i + wd, by omega, ⟨v, by rw [HS2.out]; exact HC2.out⟩, HB2⟩
      · obtain rfl : i = a0.size := by omega
        have hnx := fun ty => run_next_end_at (P := Try.prog) wr (w.heap.size + 1 + 1 + 1) a0 a0.size ty HC.out.iter (by omega)
        have hle := cutSt_le a0 a0.size
        have hlen : (cutSt a0 a0.size).2.length ≤ 1048576 := by omega
        have hfi := hle.1
        have cT := cell_of_one HC.out.text
        go_wp2_with (go_at_call 20; refine (cut_add a0 w _ (cutSt a0 a0.size).1 a0.size a0.size (cutSt a0 a0.size).2 v HC.out HB.out hfi (Nat.le_refl _) hlen).mono ?_; rintro e w2 ⟨rfl, hst, hbl⟩; obtain ⟨v2, hst⟩ := hst; have HC3 := Aside0.mk hst; have HB3 := Aside0.mk hbl; have cO2 := cell_of_one hst.out; clear hst hbl)
        go_ret
        exact ⟨_, rfl, Kd.R_mono HC3.out.row (fun _ _ => trivial), HB3.out⟩
  · rw [if_neg hs] at h
    cases h
end Go.Proofs.Ytjlgfcgdagikgaa
