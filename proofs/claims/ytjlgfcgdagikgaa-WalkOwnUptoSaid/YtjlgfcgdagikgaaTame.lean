/- vellumlaw11.tame: a contract for every text that memory can hold. -/
import Derived.Test.YtjlgfcgdagikgaaCut
import Derived.Lib.ConvBytes
namespace Go.Proofs.Ytjlgfcgdagikgaa
open Go.RowKit Go.Lib
open Go.Proofs.YtjlgfcgdagikgaaW.PrintWords Go.Proofs.YtjlgfcgdagikgaaW.PrintLast

/-- A row of bytes of the call's own: block N holds xs at its head, and no cell of it is barred. -/
structure ByteRow (N : Nat) (xs : List UInt8) (w : World) : Prop where
  row : ∃ cs : Array Value, w.heap[N]? = some (.cells cs 5 (cs.size, cs.size + 1)) ∧ ∀ j, j < xs.length → cs[j]? = some (.int .u8 ((xs.getD j 0).toNat))

theorem ByteRow.cell {N : Nat} {xs : List UInt8} {w : World} (h : ByteRow N xs w) (j : Nat) (hj : j < xs.length) : w.cell? ⟨N, j, none⟩ = some (.int .u8 ((xs.getD j 0).toNat)) := by
  obtain ⟨cs, h1, h2⟩ := h.row
  simp [World.cell?, h1, h2 j hj]

theorem ByteRow.free {N : Nat} {xs : List UInt8} {w : World} (h : ByteRow N xs w) (j : Nat) (hj : j < xs.length) : w.frozen? ⟨N, j, none⟩ = false := by
  obtain ⟨cs, h1, h2⟩ := h.row
  have hlt : j < cs.size := (Array.getElem?_eq_some_iff.1 (h2 j hj)).1
  simp [World.frozen?, h1]
  omega

theorem ByteRow.set {N : Nat} {xs : List UInt8} {w : World} (h : ByteRow N xs w) (j : Nat) (hj : j < xs.length) (c : UInt8) : ByteRow N (xs.set j c) (w.setCell ⟨N, j, none⟩ (.int .u8 c.toNat)) := by
  obtain ⟨cs, h1, h2⟩ := h.row
  have hlt : j < cs.size := (Array.getElem?_eq_some_iff.1 (h2 j hj)).1
  refine ⟨cs.setIfInBounds j (.int .u8 c.toNat), ?_, fun i hi => ?_⟩
  · have hN : N < w.heap.size := (Array.getElem?_eq_some_iff.1 h1).1
    have h1' : w.heap[N] = .cells cs 5 (cs.size, cs.size + 1) := by simpa [Array.getElem?_eq_getElem hN] using h1
    show (w.heap.modify N _)[N]? = _
    rw [Array.getElem?_eq_getElem (by simpa using hN), Array.getElem_modify_self, h1']
    simp
  · rw [List.length_set] at hi
    by_cases e : i = j
    · subst e
      rw [Array.getElem?_setIfInBounds_self_of_lt hlt, List.getD_eq_getElem?_getD, List.getElem?_set_self hj]
      rfl
    · rw [Array.getElem?_setIfInBounds_ne (Ne.symm e), h2 i hi, List.getD_eq_getElem?_getD, List.getD_eq_getElem?_getD, List.getElem?_set_ne (Ne.symm e)]

theorem ByteRow.take {N : Nat} {xs : List UInt8} {w : World} (h : ByteRow N xs w) (n : Nat) : ByteRow N (xs.take n) w := by
  obtain ⟨cs, h1, h2⟩ := h.row
  refine ⟨cs, h1, fun j hj => ?_⟩
  rw [List.length_take] at hj
  rw [h2 j (by omega), List.getD_eq_getElem?_getD, List.getD_eq_getElem?_getD, List.getElem?_take_of_lt (by omega)]

theorem ByteRow.made (w : World) (s : ByteArray) : ByteRow w.heap.size s.data.toList (Lib.bytesWorld w 5 s) := by
  refine ⟨_, Lib.bytesWorld_at_new w 5 s, fun j hj => ?_⟩
  simp at hj
  simp [Lib.bytesCells, Array.getElem?_append, List.getD, hj]

def tameC (c : UInt8) : UInt8 := if c = 47 ∨ c = 0 then 95 else c
def tameL (l : List UInt8) : List UInt8 :=
  if (l.take 54).map tameC = [] ∨ (l.take 54).map tameC = [46] ∨ (l.take 54).map tameC = [46, 46] then [120] else (l.take 54).map tameC
def mkB (l : List UInt8) : ByteArray := ⟨l.toArray⟩
def vellumlaw11_tame.f (a0 : ByteArray) : Option ByteArray := if a0.size ≤ 9223372036854775807 then some (mkB (tameL a0.data.toList)) else none

theorem tame_get {i : Nat} {L : List UInt8} (hi : i < L.length) {x : UInt8} (hx : L[i] = x) : ((L.take i).map tameC ++ L.drop i).getD i 0 = x := by
  rw [List.getD_eq_getElem?_getD, List.getElem?_append_right (by simp; omega)]
  simp [Nat.min_eq_left (Nat.le_of_lt hi)]
  rw [List.getElem?_eq_getElem hi, hx]
  rfl

theorem tame_row {N i : Nat} {L : List UInt8} {w : World} (hi : i < L.length) {c : UInt8} (hc : tameC L[i] = c) (h : ByteRow N (((L.take i).map tameC ++ L.drop i).set i c) w) : ByteRow N ((L.take (i + 1)).map tameC ++ L.drop (i + 1)) w := by
  have e : ((L.take i).map tameC ++ L.drop i).set i c = (L.take (i + 1)).map tameC ++ L.drop (i + 1) := by
    rw [List.set_append_right _ _ (by simp; omega)]
    have hl : ((L.take i).map tameC).length = i := by simp; omega
    rw [hl, Nat.sub_self, List.drop_eq_getElem_cons hi, List.set_cons_zero, List.take_succ_eq_append_getElem hi, List.map_append, List.map_cons, List.map_nil, hc, List.append_assoc]
    rfl
  rwa [e] at h

theorem tame_row' {N i : Nat} {L : List UInt8} {w : World} (hi : i < L.length) (hc : tameC L[i] = L[i]) (h : ByteRow N ((L.take i).map tameC ++ L.drop i) w) : ByteRow N ((L.take (i + 1)).map tameC ++ L.drop (i + 1)) w := by
  have e : (L.take i).map tameC ++ L.drop i = (L.take (i + 1)).map tameC ++ L.drop (i + 1) := by
    rw [List.drop_eq_getElem_cons hi, List.take_succ_eq_append_getElem hi, List.map_append, List.map_cons, List.map_nil, hc, List.append_assoc]
    rfl
  rwa [e] at h
theorem tameC_47 {x : UInt8} (h : (x.toNat : Int) = 47) : tameC x = 95 := by
  have : x = 47 := UInt8.toNat_inj.1 (by have : (47 : UInt8).toNat = 47 := rfl; omega)
  subst this; rfl
theorem tameC_0 {x : UInt8} (h : (x.toNat : Int) = 0) : tameC x = 95 := by
  have : x = 0 := UInt8.toNat_inj.1 (by have : (0 : UInt8).toNat = 0 := rfl; omega)
  subst this; rfl
theorem tameC_other {x : UInt8} (h : ¬ (x.toNat : Int) = 47) (h0 : ¬ (x.toNat : Int) = 0) : tameC x = x := by
  have h1 : x ≠ 47 := by rintro rfl; exact h rfl
  have h2 : x ≠ 0 := by rintro rfl; exact h0 rfl
  simp [tameC, h1, h2]

theorem byteRow_conv {N c : Nat} {xs : List UInt8} {w : World} (h : ByteRow N xs w) : (convert 42 9 (.slice (some ⟨N, 0, none⟩) xs.length c)).run Try.prog w = .ok (.string (mkB xs)) w := by
  have e : strOfNums (xs.map fun x => (x.toNat : Int)) = mkB xs := by
    unfold strOfNums mkB
    rw [List.map_map]
    congr 2
    rw [show ((fun n : Int => UInt8.ofNat n.toNat) ∘ fun x : UInt8 => (x.toNat : Int)) = id from funext fun x => by simp, List.map_id]
  have := run_convert_bytes_arg (P := Try.prog) w 42 5 Try.underlying42 Try.underlying5 N 0 xs.length c (xs.map fun x => (x.toNat : Int)) (by simp) (fun i hi => by
    rw [Nat.zero_add, h.cell i hi]
    simp [List.getD_eq_getElem?_getD, List.getElem?_eq_getElem hi]) 9 Try.underlying9
  rwa [e] at this

theorem ret_str {a b : ByteArray} (h : a = b) : Ending.returned (.string a) = .returned (.string b) := by rw [h]
theorem two_of {l : List UInt8} (h : l.length = 2) : ∃ a b, l = [a, b] := by
  match l, h with
  | [a, b], _ => exact ⟨a, b, rfl⟩
theorem of46 {a : UInt8} (h : (a.toNat : Int) = 46) : a = 46 := UInt8.toNat_inj.1 (by have : (46 : UInt8).toNat = 46 := rfl; omega)
theorem not46 {a : UInt8} (h : ¬ (a.toNat : Int) = 46) : a ≠ 46 := by rintro rfl; exact h rfl
def tameOf (M : List UInt8) : ByteArray := if M = [] ∨ M = [46] ∨ M = [46, 46] then mkB [120] else mkB M
theorem tame_spec {L l : List UInt8} (h : L = l.take 54) : mkB (tameL l) = tameOf (L.map tameC) := by
  unfold tameL tameOf
  rw [← h]
  split <;> rfl

set_option maxHeartbeats 4000000 in
set_option maxRecDepth 100000 in
theorem vellumlaw11_tame.calls (a0 : ByteArray) (r : ByteArray) (w : World) (h : vellumlaw11_tame.f a0 = some r) :
    Calls Try.prog 12 #[.string a0] w fun e w' => e = .returned (.string r) ∧ Below w.heap.size w w' := by
  unfold vellumlaw11_tame.f at h
  by_cases hs : a0.size ≤ 9223372036854775807
  · rw [if_pos hs] at h
    obtain rfl := Option.some.inj h
    obtain ⟨R, hR⟩ : ∃ R, R = mkB (tameL a0.data.toList) := ⟨_, rfl⟩
    have HR := Aside0.mk hR
    rw [← hR]
    clear h hR
    have hconv := Lib.run_convert_string_bytes (P := Try.prog) w 9 42 5 a0 Try.underlying9 Try.underlying42 Try.underlying5
    have hcap := grownCap_ge w a0.size 0 5
    obtain ⟨L, hL⟩ : ∃ L, L = a0.data.toList.take 54 := ⟨_, rfl⟩
    have hmade := (ByteRow.made w a0).take 54
    rw [← hL] at hmade
    have hLl : L.length ≤ 54 := by rw [hL, List.length_take]; omega
    have hLs : L.length = if 54 < a0.size then 54 else a0.size := by
      rw [hL, List.length_take]
      have := Lib.size_eq a0
      split <;> omega
    have hbel : Below w.heap.size w (Lib.bytesWorld w 5 a0) := by
      refine ⟨rfl, rfl, rfl, by rw [Lib.bytesWorld_size]; omega, fun k hk => Lib.bytesWorld_at_old w 5 a0 k hk⟩
    have HM := Aside0.mk hmade
    have HB := Aside0.mk hbel
    have HL := Aside0.mk hL
    have HLS := Aside0.mk hLs
    clear hmade hbel hL hLs
    go_enter Try.func12, Try.ntmps12
    go_upto_if 9 with (fail)
    go_cut [3] (fun v3 wc => ∃ c : Nat, v3 = .slice (some ⟨w.heap.size, 0, none⟩) L.length c ∧ Aside0 (ByteRow w.heap.size L wc) ∧ Aside0 (Below w.heap.size w wc))
    case first =>
      by_cases h54 : 54 < a0.size
      · have hc54 : 54 ≤ grownCap w a0.size 0 5 := by omega
        have hlen := HLS.out
        rw [if_pos h54] at hlen
        go_wp2
        go_meet
        case rel => exact ⟨_, by rw [hlen], HM, HB⟩
      · have hlen := HLS.out
        rw [if_neg h54] at hlen
        go_wp2
        go_meet
        case rel => exact ⟨_, by rw [hlen], HM, HB⟩
    case rest =>
      clear hconv hcap HM HB
      obtain ⟨c, rfl, HM, HB⟩ := hcut
      go_wp2
      have hpos : (0 : Int) ≤ L.length := by omega
      go_loopg [4] L.length (fun g v4 wx => ∃ i : Nat, i + g = L.length ∧ v4 = .int .i64 i ∧ Aside0 (ByteRow w.heap.size ((L.take i).map tameC ++ L.drop i) wx) ∧ Aside0 (Below w.heap.size w wx))
      case atStart => exact ⟨0, by omega, rfl, HM, HB⟩
      case round =>
        clear HM HB
        obtain ⟨i, hig, rfl, HM, HB⟩ := hrel
        by_cases hi : i < L.length
        · obtain ⟨x, hx⟩ : ∃ x : UInt8, L[i] = x := ⟨_, rfl⟩
          have hlen : i < ((L.take i).map tameC ++ L.drop i).length := by simp; omega
          have hget := tame_get hi hx
          have hc := HM.out.cell i hlen
          have hf := HM.out.free i hlen
          rw [hget] at hc
          have HS := Aside0.mk (fun c => HM.out.set i hlen c)
          have HX := Aside0.mk hx
          clear hget hlen hx
          by_cases h47 : (x.toNat : Int) = 47
          · have hb1 : ((x.toNat : Int) == 47) = true := beq_iff_eq.2 h47
            have H47 := Aside0.mk h47
            clear h47
            go_wp2
            go_roundg (L.length - (i + 1))
            case measure => omega
            case rel => exact ⟨i + 1, by omega, by first | rfl | simp, ⟨tame_row hi (by rw [HX.out]; exact tameC_47 H47.out) (HS.out 95)⟩, ⟨HB.out.setCell (Nat.le_refl _) _⟩⟩
          · have hb1 : ((x.toNat : Int) == 47) = false := beq_eq_false_iff_ne.2 h47
            have H47 := Aside0.mk h47
            clear h47
            by_cases h0 : (x.toNat : Int) = 0
            · have hb2 : ((x.toNat : Int) == 0) = true := beq_iff_eq.2 h0
              have H0 := Aside0.mk h0
              clear h0
              go_wp2
              go_roundg (L.length - (i + 1))
              case measure => omega
              case rel => exact ⟨i + 1, by omega, by first | rfl | simp, ⟨tame_row hi (by rw [HX.out]; exact tameC_0 H0.out) (HS.out 95)⟩, ⟨HB.out.setCell (Nat.le_refl _) _⟩⟩
            · have hb2 : ((x.toNat : Int) == 0) = false := beq_eq_false_iff_ne.2 h0
              have H0 := Aside0.mk h0
              clear h0
              go_wp2
              go_roundg (L.length - (i + 1))
              case measure => omega
              case rel => exact ⟨i + 1, by omega, by first | rfl | simp, ⟨tame_row' hi (by rw [HX.out]; exact tameC_other H47.out H0.out) HM.out⟩, HB⟩
        · obtain rfl : i = L.length := by omega
          have HM2 := HM.out
          rw [List.take_of_length_le (Nat.le_refl _), List.drop_of_length_le (Nat.le_refl _), List.append_nil] at HM2
          have HM := Aside0.mk HM2
          clear HM2
          have hcv := byteRow_conv (c := c) HM.out
          rw [List.length_map] at hcv
          have hlt0 : ¬ ((L.length : Int) < (L.length : Int)) := by omega
          have hML : (L.map tameC).length = L.length := List.length_map tameC
          have HR' := Aside0.mk (HR.out.trans (tame_spec HL.out))
          obtain ⟨M, hM⟩ : ∃ M, L.map tameC = M := ⟨_, rfl⟩
          rw [hM] at HM hcv hML HR'
          clear hM HL HR HLS hpos
          rcases Nat.lt_or_ge L.length 3 with h3 | h3
          · rcases (show L.length = 0 ∨ L.length = 1 ∨ L.length = 2 by omega) with h | h | h
            · have hb0 : ((L.length : Int) == 0) = true := beq_iff_eq.2 (by omega)
              obtain rfl : M = [] := List.eq_nil_of_length_eq_zero (by omega)
              clear h hML
              go_wp2
              go_ret
              exact ⟨by rw [HR'.out]; rfl, HB.out⟩
            · have hb0 : ((L.length : Int) == 0) = false := beq_eq_false_iff_ne.2 (by omega)
              have hb1 : ((L.length : Int) == 1) = true := beq_iff_eq.2 (by omega)
              have hb2 : ((L.length : Int) == 2) = false := beq_eq_false_iff_ne.2 (by omega)
              have hl0 : (0 : Int) < (L.length : Int) := by omega
              obtain ⟨a, rfl⟩ : ∃ a, M = [a] := List.length_eq_one_iff.1 (by omega)
              have c0 : wr.cell? ⟨w.heap.size, 0, none⟩ = some (.int .u8 (a.toNat)) := HM.out.cell 0 (by simp)
              clear h hML
              by_cases ha : (a.toNat : Int) = 46
              · have hba : ((a.toNat : Int) == 46) = true := beq_iff_eq.2 ha
                have HA := Aside0.mk ha
                clear ha
                go_wp2
                go_ret
                exact ⟨by rw [HR'.out, of46 HA.out]; rfl, HB.out⟩
              · have hba : ((a.toNat : Int) == 46) = false := beq_eq_false_iff_ne.2 ha
                have HA := Aside0.mk ha
                clear ha
                go_wp2
                go_ret
                exact ⟨ret_str (Eq.symm (by rw [HR'.out, tameOf, if_neg (by simp [not46 HA.out])])), HB.out⟩
            · have hb0 : ((L.length : Int) == 0) = false := beq_eq_false_iff_ne.2 (by omega)
              have hb1 : ((L.length : Int) == 1) = false := beq_eq_false_iff_ne.2 (by omega)
              have hb2 : ((L.length : Int) == 2) = true := beq_iff_eq.2 (by omega)
              have hl0 : (0 : Int) < (L.length : Int) := by omega
              have hl1 : (1 : Int) < (L.length : Int) := by omega
              obtain ⟨a, b, rfl⟩ : ∃ a b, M = [a, b] := two_of (by omega)
              have c0 : wr.cell? ⟨w.heap.size, 0, none⟩ = some (.int .u8 (a.toNat)) := HM.out.cell 0 (by simp)
              have c1 : wr.cell? ⟨w.heap.size, 1, none⟩ = some (.int .u8 (b.toNat)) := HM.out.cell 1 (by simp)
              clear h hML
              by_cases ha : (a.toNat : Int) = 46
              · have hba : ((a.toNat : Int) == 46) = true := beq_iff_eq.2 ha
                have HA := Aside0.mk ha
                clear ha
                by_cases hb : (b.toNat : Int) = 46
                · have hbb : ((b.toNat : Int) == 46) = true := beq_iff_eq.2 hb
                  have HB' := Aside0.mk hb
                  clear hb
                  go_wp2
                  go_ret
                  exact ⟨by rw [HR'.out, of46 HA.out, of46 HB'.out]; rfl, HB.out⟩
                · have hbb : ((b.toNat : Int) == 46) = false := beq_eq_false_iff_ne.2 hb
                  have HB' := Aside0.mk hb
                  clear hb
                  go_wp2
                  go_ret
                  exact ⟨ret_str (Eq.symm (by rw [HR'.out, tameOf, if_neg (by simp [not46 HB'.out])])), HB.out⟩
              · have hba : ((a.toNat : Int) == 46) = false := beq_eq_false_iff_ne.2 ha
                have HA := Aside0.mk ha
                clear ha
                go_wp2
                go_ret
                exact ⟨ret_str (Eq.symm (by rw [HR'.out, tameOf, if_neg (by simp [not46 HA.out])])), HB.out⟩
          · have hb0 : ((L.length : Int) == 0) = false := beq_eq_false_iff_ne.2 (by omega)
            have hb1 : ((L.length : Int) == 1) = false := beq_eq_false_iff_ne.2 (by omega)
            have hb2 : ((L.length : Int) == 2) = false := beq_eq_false_iff_ne.2 (by omega)
            have HN := Aside0.mk (show 3 ≤ M.length by omega)
            clear hML h3
            go_wp2
            go_ret
            exact ⟨ret_str (Eq.symm (by rw [HR'.out, tameOf, if_neg (by rintro (e | e | e) <;> (have := HN.out; rw [e] at this; simp at this))])), HB.out⟩
  · rw [if_neg hs] at h
    cases h
end Go.Proofs.Ytjlgfcgdagikgaa
