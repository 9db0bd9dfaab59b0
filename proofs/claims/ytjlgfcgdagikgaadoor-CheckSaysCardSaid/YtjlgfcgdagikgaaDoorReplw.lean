/- (*strings.byteStringReplacer).Replace: the walk. -/
import Derived.Test.YtjlgfcgdagikgaaDoorRepl
namespace Go.Proofs.YtjlgfcgdagikgaaDoor.repl
open Go.RowKit
open Go.Proofs.YtjlgfcgdagikgaaDoorW.PrintWords Go.Proofs.YtjlgfcgdagikgaaDoorW.PrintLast Go.Proofs.YtjlgfcgdagikgaaDoorW.PrintMore
set_option linter.unusedVariables false

/-- What the table says of each byte. -/
def Says (w : World) (f : Nat → Value) (R : UInt8 → Option ByteArray) : Prop :=
  ∀ c : UInt8, (R c = none ∧ f c.toNat = .slice none 0 0) ∨ ∃ v x cx, R c = some v ∧ f c.toNat = .slice (some ⟨x, 0, none⟩) v.size cx ∧ 1 ≤ v.size ∧ v.size ≤ 100 ∧ ∀ j, j < v.size → w.cell? ⟨x, j, none⟩ = some (.int .u8 (at_ v j).toNat)

theorem info5o : (Tryd.prog.info? 5).map (fun i => (i.zero, i.size, i.bytes)) = some (some (.int .u8 0), 1, 1) := by kernel_rfl
theorem row_zero (w : World) (n : Nat) : Row (w.alloc (.cells (madeCells #[.int .u8 0] n) 5)) w.heap.size n (fun _ => 0) := by
  intro j hj
  have h := heap_alloc_last w (.cells (madeCells #[Value.int .u8 0] n) 5)
  refine ⟨by rw [cell_of_row _ _ j _ 5 (0, 0) h]; simp [madeCells, hj, Nat.mod_one], ?_⟩
  unfold World.frozen?
  rw [h]
  simp
theorem tot_next (R : UInt8 → Option ByteArray) (s : ByteArray) (i : Nat) (h : i < s.size) : tot R (s.data.toList.take i) + lenR R (at_ s i) ≤ tot R s.data.toList := by
  rw [← tot_append, ← take_succ_at s i h]
  conv => rhs; rw [← List.take_append_drop (i + 1) s.data.toList]
  simp only [tot, List.map_append, List.sum_append]
  omega
theorem row_put {w : World} {g n J : Nat} {l : List UInt8} {c : UInt8} (h : Row w g n (fun k => l.getD k 0)) (hJ : J = l.length) : Row (w.setCell ⟨g, J, none⟩ (.int .u8 c.toNat)) g n (fun k => (l ++ [c]).getD k 0) := by
  refine (h.set J c).congr (fun k _ => ?_)
  subst hJ
  by_cases e : k = l.length
  · subst e
    simp
  · rw [if_neg e]
    rcases Nat.lt_or_gt_of_ne e with h1 | h1
    · simp [List.getD_eq_getElem?_getD, List.getElem?_append_left h1]
    · simp only [List.getD_eq_getElem?_getD]
      rw [List.getElem?_eq_none (by omega), List.getElem?_eq_none (by simp; omega)]
theorem back_rep (l : List UInt8) (n g cap : Nat) (w : World) (hn : n = l.length) (h : Row w g n (fun k => l.getD k 0)) :
    (convert 55 9 (.slice (some ⟨g, 0, none⟩) n cap)).run Tryd.prog w = .ok (.string ⟨l.toArray⟩) w := by
  subst hn
  exact run_convert_bytes_back (P := Tryd.prog) w 55 9 5 ⟨g, 0, none⟩ cap l Tryd.underlying55 Tryd.underlying5 Tryd.underlying9 (fun j hj => by
    rw [show (⟨g, 0, none⟩ : Addr).add j = ⟨g, j, none⟩ by unfold Addr.add; split <;> simp_all, (h j hj).1]
    simp [List.getD_eq_getElem?_getD, List.getElem?_eq_getElem hj])
theorem row_some {w : World} {g n : Nat} {f : Nat → UInt8} (h : Row w g n f) (j : Nat) (hj : j < n) : (w.drew.cell? ⟨g, j, none⟩).isSome = true ∧ w.drew.frozen? ⟨g, j, none⟩ = false :=
  ⟨by rw [show w.drew.cell? ⟨g, j, none⟩ = w.cell? ⟨g, j, none⟩ from rfl, (h j hj).1]; rfl, (h j hj).2⟩
def cellsOf (v : ByteArray) : List Value := v.data.toList.map fun x => .int .u8 x.toNat
theorem copy_law (v : ByteArray) (x cx g J n cap : Nat) (w : World) (hfit : J + v.size ≤ n) (hs : ∀ j, j < v.size → w.cell? ⟨x, j, none⟩ = some (.int .u8 (at_ v j).toNat))
    (hr : ∀ j, j < v.size → (w.cell? ⟨g, J + j, none⟩).isSome = true ∧ w.frozen? ⟨g, J + j, none⟩ = false) :
    (Builtin.copy_ #[55, 55] 3 #[.slice (some ⟨g, J, none⟩) (n - J) (cap - J), .slice (some ⟨x, 0, none⟩) v.size cx]).run Tryd.prog w = .ok (.int .i64 v.size) (w.setCells g J (cellsOf v)) := by
  have hl : (cellsOf v).length = v.size := by simp [cellsOf]
  have h := run_copy_cells (P := Tryd.prog) w 55 55 3 5 g J (n - J) (cap - J) ⟨x, 0, none⟩ v.size cx (cellsOf v) Tryd.underlying55 (by kernel_rfl) (by rw [hl]; exact (Nat.min_eq_left (by omega)).symm)
    (fun j u hj => by
      have hj1 : j < (cellsOf v).length := (List.getElem?_eq_some_iff.1 hj).1
      rw [hl] at hj1
      rw [show (⟨x, 0, none⟩ : Addr).add j = ⟨x, j, none⟩ by unfold Addr.add; split <;> simp_all, hs j hj1, ← hj]
      have h2 : j < v.data.toList.length := by simpa using hj1
      unfold cellsOf
      rw [List.getElem?_map, List.getElem?_eq_getElem h2, at_list v j h2]
      rfl)
    (fun j hj => by rw [hl] at hj; exact (hr j hj).1) (fun j hj => by rw [hl] at hj; exact (hr j hj).2) (fun u hu => by
      unfold cellsOf at hu
      obtain ⟨y, _, rfl⟩ := List.mem_map.1 hu
      rfl)
  rw [hl] at h
  exact h
theorem row_copy {w : World} {g n J : Nat} {l : List UInt8} (h : Row w g n (fun k => l.getD k 0)) (v : ByteArray) (hJ : J = l.length) (hall : J + v.size ≤ n) : Row (w.drew.setCells g J (cellsOf v)) g n (fun k => (l ++ v.data.toList).getD k 0) := by
  have hl : (cellsOf v).length = v.data.toList.length := by simp [cellsOf]
  intro k hk
  have h1 := (h k hk).1
  refine ⟨?_, by rw [World.frozen?_setCells]; exact (h k hk).2⟩
  by_cases hin : J ≤ k ∧ k < J + v.data.toList.length
  · obtain ⟨j, rfl⟩ : ∃ j, k = J + j := ⟨k - J, by omega⟩
    have hj : j < (cellsOf v).length := by omega
    have hvs : v.data.toList.length = v.size := by simp
    · rw [World.cell?_setCells_in g (cellsOf v) J w.drew (fun q hq => (row_some h (J + q) (by omega)).1) j hj]
      have hj2 : j < v.data.toList.length := by omega
      subst hJ
      simp only [List.getD_eq_getElem?_getD]
      rw [List.getElem?_append_right (by omega), show l.length + j - l.length = j by omega, List.getElem?_eq_getElem hj2]
      simp [cellsOf]
  · rw [World.cell?_setCells_out g (cellsOf v) J w.drew ⟨g, k, none⟩ (fun _ _ => by rw [hl]; show k < J ∨ J + _ ≤ k; omega)]
    show w.cell? _ = _
    rw [h1]
    subst hJ
    simp only [List.getD_eq_getElem?_getD]
    by_cases hlt : k < l.length
    · rw [List.getElem?_append_left hlt]
    · rw [List.getElem?_eq_none (by omega), List.getElem?_eq_none (by simp only [List.length_append]; omega)]
theorem keepC {w : World} {b g2 J c : Nat} {u : Value} {cs : List Value} (hb : b ≠ g2) (h : w.cell? ⟨b, c, none⟩ = some u) : (w.setCells g2 J cs).cell? ⟨b, c, none⟩ = some u := by
  rw [World.cell?_setCells_out g2 cs J w ⟨b, c, none⟩ (fun e _ => absurd e hb)]
  exact h
theorem below_setCells {B : Nat} {w0 : World} {g : Nat} : ∀ (cs : List Value) (o : Nat) (w : World), Below B w0 w → B ≤ g → Below B w0 (w.setCells g o cs)
  | [], _, _, h, _ => h
  | v :: r, o, w, h, hg => below_setCells r (o + 1) _ (h.setCell hg v) hg
theorem below_copy {B : Nat} {w0 w : World} {g : Nat} (h : Below B w0 w) (hg : B ≤ g) (o : Nat) (cs : List Value) : Below B w0 (w.drew.setCells g o cs) := below_setCells cs o _ h.drew hg
theorem keep1_start {w3 : World} {a0 : Addr} {u0 : Value} (h0 : w3.cell? a0 = some u0) : w3.drew.cell? a0 = some u0 := h0

set_option maxHeartbeats 8000000 in
set_option maxRecDepth 100000 in
theorem replace_strs (b : Nat) (f : Nat → Value) (R : UInt8 → Option ByteArray) (key : Nat → UInt8) (g cap : Nat) (s : ByteArray) (w : World)
    (hT : Tab w b f) (hrow : w.cell? ⟨b, 256, none⟩ = some (.slice (some ⟨g, 0, none⟩) 4 cap)) (hK : ∀ k, k < 4 → w.cell? ⟨g, k, none⟩ = some (.string ⟨#[key k]⟩))
    (hR : Says w f R) (hd : ∀ p q, p < 4 → q < 4 → p ≠ q → key p ≠ key q) (hR0 : ∀ c, (∀ q, q < 4 → c ≠ key q) → R c = none) (hRs : ∀ q, q < 4 → ∃ v, R (key q) = some v) (hs : s.size ≤ 1000) :
    Calls Tryd.prog 94 #[.pointer (some ⟨b, 0, none⟩), .string s] w fun e w' => e = .returned (.string ⟨(rep R s.data.toList).toArray⟩) ∧ Below w.heap.size w w' := by
  have HT := Aside0.mk hT
  have HR := Aside0.mk hR
  have HS := Aside0.mk hs
  have HK := Aside0.mk hK
  have HD := Aside0.mk hd
  have HR0 := Aside0.mk hR0
  have HRs := Aside0.mk hRs
  clear hT hR hs hK hd hR0 hRs
  have heq : ∀ w : World, (binOp .neq 55 (.slice none 0 0) (.slice none 0 0)).run Tryd.prog w = .ok (.bool false) w := fun _ => rfl
  have heq2 : ∀ (a : Addr) (n c : Nat) (w : World), (binOp .neq 55 (.slice (some a) n c) (.slice none 0 0)).run Tryd.prog w = .ok (.bool true) w := fun _ _ _ _ => rfl
  go_enter Tryd.func94, Tryd.ntmps94
  go_upto_if 26 with (fail)
  generalize decide ((32 : Int) ≤ (s.size : Int)) = d0
  go_cut [5, 6] (fun v5 v6 wc => v5 = .int .i64 (tot R s.data.toList : Nat) ∧ ∃ a : Bool, v6 = .bool a ∧ Aside0 (a = false → rep R s.data.toList = s.data.toList) ∧ Aside0 (Below w.heap.size w wc))
  case first =>
    cases d0 with
    | true =>
      go_wp2_with (fail)
      go_loopg [5, 6, 8, 9, 32] 4 (fun g v5 v6 _ _ v32 wx => ∃ (k n2 : Nat) (a : Bool), k + g = 4 ∧ v32 = .int .i64 k ∧ v5 = .int .i64 n2 ∧ v6 = .bool a ∧ Aside0 (n2 ≤ 1000 + k * 100000) ∧
        Aside0 (n2 + sumK (fun q => s.data.toList.count (key q)) k = s.size + sumK (fun q => s.data.toList.count (key q) * lenR R (key q)) k) ∧ Aside0 (a = false → ∀ q, q < k → s.data.toList.count (key q) = 0) ∧ Aside0 (Below w.heap.size w wx))
      case atStart => exact ⟨0, s.size, false, rfl, rfl, rfl, rfl, ⟨by have := HS.out; omega⟩, ⟨rfl⟩, ⟨fun _ q h => by omega⟩, ⟨Below.refl _ _⟩⟩
      case round =>
        obtain ⟨k, n2, a, hk, rfl, rfl, rfl, HN, HSum, HA, HB⟩ := hrel
        by_cases hk4 : k < 4
        · have q1 : (k : Int) < 4 := by omega
          have hkey := pw_cell_below HB.out (HK.out k hk4)
          obtain ⟨v, hv⟩ := HRs.out k hk4
          obtain ⟨c, hc⟩ : ∃ c, c = key k := ⟨_, rfl⟩
          rw [← hc] at hkey hv
          rcases HR.out c with ⟨hv2, _⟩ | ⟨v2, x, cx, hv2, hfc, h1, h2, hcells⟩
          · rw [hv] at hv2; cases hv2
          obtain rfl : v = v2 := by rw [hv] at hv2; injection hv2
          have hx := pw_cell_below HB.out (HT.out c.toNat c.toNat_lt).1
          rw [hfc] at hx
          obtain ⟨m, hm⟩ : ∃ m, v.size = m + 1 := ⟨v.size - 1, by omega⟩
          rw [hm] at hx
          obtain ⟨cn, hcn⟩ : ∃ cn, cn = s.data.toList.count c := ⟨_, rfl⟩
          have hcl : cn ≤ 1000 := by rw [hcn]; exact Nat.le_trans (List.count_le_length) (by simpa using HS.out)
          obtain ⟨P, hP⟩ : ∃ P, P = cn * m := ⟨_, rfl⟩
          have hPl : P ≤ 99000 := by rw [hP]; exact Nat.le_trans (Nat.mul_le_mul hcl (show m ≤ 99 by omega)) (by decide)
          have hPi : (cn : Int) * (m : Int) = (P : Int) := by rw [hP]; exact (Int.natCast_mul cn m).symm
          have hlen : lenR R c = m + 1 := by unfold lenR; rw [hv]; exact hm
          have hstep : cn * lenR R c = P + cn := by rw [hlen, Nat.mul_add, Nat.mul_one, ← hP]
          have HC := Aside0.mk (And.intro hc (And.intro hcn (And.intro hstep (And.intro hPl hP))))
          have q3 : ((c.toNat : Nat) : Int) < 256 := by have := c.toNat_lt; omega
          have q4 : c.toNat < 256 := c.toNat_lt
          have q5 : ∀ h : 0 < (⟨#[c]⟩ : ByteArray).size, (⟨#[c]⟩ : ByteArray)[0]'h = c := fun _ => rfl
          have hn2 : n2 ≤ 500000 := by have := HN.out; omega
          have q6 : IntKind.i64.wrap ((n2 : Int) + (P : Int)) = (n2 : Int) + (P : Int) := by rw [IntKind.wrap_i64]; omega
          have q7 : IntKind.i64.wrap (P : Int) = (P : Int) := by rw [IntKind.wrap_i64]; omega
          have q8 : IntKind.i64.wrap (m : Int) = (m : Int) := by rw [IntKind.wrap_i64]; omega
          clear hc hcn hstep hP hPl hlen hv hv2 hfc h1 h2 hcells hm hcl
          by_cases hz : cn = 0
          · have HZ := Aside0.mk hz
            have q9 : ((cn : Int) != 0) = false := by rw [hz]; rfl
            clear hz
            go_wp2_with (go_at_call 96; refine (Tryd.strings_Count_one s c _).mono ?_; rintro e w2 ⟨rfl, rfl⟩; rw [show Lib.countByte s.data.toList c = cn from HC.out.2.1.symm])
            go_roundg (4 - (k + 1))
            case measure => omega
            case rel =>
              refine ⟨k + 1, n2, a, by omega, by simp, rfl, rfl, ⟨Nat.le_trans HN.out (Nat.add_le_add_left (Nat.mul_le_mul_right _ (Nat.le_succ k)) _)⟩, ⟨?_⟩, ⟨fun ha q hq => ?_⟩, HB⟩
              · simp only [sumK]
                have h := HSum.out
                obtain ⟨e1, e2, e3, e4⟩ := HC.out
                rw [← e1, ← e2, e3]
                have : P = 0 := by rw [e4.2, HZ.out, Nat.zero_mul]
                omega
              · rcases Nat.lt_succ_iff_lt_or_eq.1 hq with h | h
                · exact HA.out ha q h
                · rw [h, ← HC.out.1, ← HC.out.2.1]; exact HZ.out
          · have q9 : ((cn : Int) != 0) = true := by rw [bne_iff_ne]; omega
            clear hz
            go_upto_region 9 with (go_at_call 96; refine (Tryd.strings_Count_one s c _).mono ?_; rintro e w2 ⟨rfl, rfl⟩; rw [show Lib.countByte s.data.toList c = cn from HC.out.2.1.symm])
            go_region_held3 (fun w' => w'.cell? ⟨b, c.toNat, none⟩ = some (.slice (some ⟨x, 0, none⟩) (m + 1) cx)) (first | exact keep1_start hx | assumption) (fail)
            go_wp2_with (fail)
            go_roundg (4 - (k + 1))
            case measure => omega
            case rel =>
              refine ⟨k + 1, n2 + P, true, by omega, by simp, by simp, rfl, ⟨by have := HN.out; have := HC.out.2.2.2.1; omega⟩, ⟨?_⟩, ⟨fun ha => by cases ha⟩, ⟨below_drew HB.out⟩⟩
              simp only [sumK]
              have h := HSum.out
              obtain ⟨e1, e2, e3, e4⟩ := HC.out
              rw [← e1, ← e2, e3]
              omega
        · obtain rfl : k = 4 := by omega
          go_wp2_with (fail)
          go_meet
          case rel =>
            have h := HSum.out
            have h2 := count_tot R key 4 HD.out HR0.out s.data.toList
            have h3 : s.data.toList.length = s.size := by simp
            refine ⟨?_, a, rfl, ⟨fun ha => count_none R key 4 HR0.out _ (HA.out ha)⟩, HB⟩
            congr 1
            omega
    | false =>
      go_wp2_with (fail)
      go_loopg [5, 6, 10, 11] s.size (fun g v5 v6 v10 _ wx => ∃ (i n2 : Nat) (a : Bool), i + g = s.size ∧ v10 = .int .i64 i ∧ v5 = .int .i64 n2 ∧ v6 = .bool a ∧ Aside0 (n2 ≤ 1000 + i * 100) ∧
        Aside0 (n2 + i = s.size + tot R (s.data.toList.take i)) ∧ Aside0 (a = false → ∀ c, c ∈ s.data.toList.take i → R c = none) ∧ Aside0 (Below w.heap.size w wx))
      case atStart => exact ⟨0, s.size, false, by omega, rfl, rfl, rfl, ⟨by have := HS.out; omega⟩, ⟨by simp [tot]⟩, ⟨fun _ q h => by simp at h⟩, ⟨Below.refl _ _⟩⟩
      case round =>
        obtain ⟨i, n2, a, hi, rfl, rfl, rfl, HN, HSum, HA, HB⟩ := hrel
        by_cases hin : i < s.size
        · have q1 : (i : Int) < s.size := by omega
          obtain ⟨c, hc⟩ : ∃ c, c = at_ s i := ⟨_, rfl⟩
          have hg : ∀ h : i < s.size, s[i]'h = c := fun h => by rw [hc]; exact at_get s i h
          have hx := pw_cell_below HB.out (HT.out c.toNat c.toNat_lt).1
          have q3 : ((c.toNat : Nat) : Int) < 256 := by have := c.toNat_lt; omega
          have q4 : c.toNat < 256 := c.toNat_lt
          have hn2 : n2 ≤ 500000 := by have := HN.out; have := HS.out; omega
          have hil : i ≤ 1000 := by have := HS.out; omega
          have HC := Aside0.mk hc
          clear hc
          rcases HR.out c with ⟨hv, hfc⟩ | ⟨v, x, cx, hv, hfc, h1, h2, hcells⟩
          · rw [hfc] at hx
            have hlen : lenR R c = 1 := by unfold lenR; rw [hv]
            have HV := Aside0.mk (And.intro hv hlen)
            clear hv hlen hfc
            go_wp2_with (fail)
            go_roundg (s.size - (i + 1))
            case measure => omega
            case rel =>
              refine ⟨i + 1, n2, a, by omega, by simp, rfl, rfl, ⟨by have := HN.out; omega⟩, ⟨?_⟩, ⟨fun ha q hq => ?_⟩, HB⟩
              · rw [take_succ_at s i hin, tot_append, ← HC.out, HV.out.2]
                have := HSum.out
                omega
              · rw [take_succ_at s i hin, List.mem_append, List.mem_singleton] at hq
                rcases hq with h | h
                · exact HA.out ha q h
                · rw [h, ← HC.out]; exact HV.out.1
          · rw [hfc] at hx
            obtain ⟨m, hm⟩ : ∃ m, v.size = m + 1 := ⟨v.size - 1, by omega⟩
            rw [hm] at hx
            have hml : m ≤ 99 := by omega
            have hlen : lenR R c = m + 1 := by unfold lenR; rw [hv]; exact hm
            have HV := Aside0.mk hlen
            have q6 : IntKind.i64.wrap ((n2 : Int) + (m : Int)) = (n2 : Int) + (m : Int) := by rw [IntKind.wrap_i64]; omega
            have q8 : IntKind.i64.wrap (m : Int) = (m : Int) := by rw [IntKind.wrap_i64]; omega
            clear hv hlen hfc h1 h2 hcells hm
            go_wp2_with (fail)
            go_roundg (s.size - (i + 1))
            case measure => omega
            case rel =>
              refine ⟨i + 1, n2 + m, true, by omega, by simp, by simp, rfl, ⟨by have := HN.out; omega⟩, ⟨?_⟩, ⟨fun ha => by cases ha⟩, HB⟩
              rw [take_succ_at s i hin, tot_append, ← HC.out, HV.out]
              have := HSum.out
              omega
        · obtain rfl : i = s.size := by omega
          go_wp2_with (fail)
          go_meet
          case rel =>
            have h := HSum.out
            have h3 : s.data.toList.take s.size = s.data.toList := List.take_of_length_le (by simp)
            rw [h3] at h
            refine ⟨by congr 1; omega, a, rfl, ⟨fun ha => rep_same R _ (fun c hc => HA.out ha c (by rw [h3]; exact hc))⟩, HB⟩
  case rest =>
    obtain ⟨rfl, a, rfl, HA, HB⟩ := hcut
    cases a with
    | false =>
      have HA2 := Aside0.mk (HA.out rfl)
      clear HA
      go_wp2_with (fail)
      go_ret
      refine ⟨?_, HB.out⟩
      have := HA2.out
      rw [this]
      rfl
    | true =>
      have hbw := hrow
      clear HA HK HD HR0 HRs hrow
      have hn : tot R s.data.toList ≤ 100000 := by
        have h := tot_le R s.data.toList 100 (fun c => by
          rcases HR.out c with ⟨hv, _⟩ | ⟨v, x, cx, hv, _, _, h2, _⟩
          · unfold lenR; rw [hv]; decide
          · unfold lenR; rw [hv]; exact h2)
        have := HS.out
        have h3 : s.data.toList.length = s.size := by simp
        omega
      obtain ⟨n, hnn⟩ : ∃ n, n = tot R s.data.toList := ⟨_, rfl⟩
      rw [← hnn] at hn ⊢
      have HN := Aside0.mk hnn
      have hmk := print_make_int (P := Tryd.prog) 55 5 (.int .u8 0) 1 Tryd.underlying55 info5o rfl (by decide) (n : Int) (by omega) (by simpa using (show n ≤ 281474976710656 by omega)) wc
      rw [Int.toNat_natCast] at hmk
      clear hnn
      have hrow0 := Aside0.mk (row_zero wc n)
      have HB0 := Aside0.mk (show Below w.heap.size w (wc.alloc (.cells (madeCells #[.int .u8 0] n) 5)) from below_alloc HB.out _)
      have HW := Aside0.mk HB.out.size
      clear HB
      obtain ⟨g2, hg2⟩ : ∃ g2, g2 = wc.heap.size := ⟨_, rfl⟩
      rw [← hg2] at hmk hrow0 HW
      clear hg2
      go_wp2_with (fail)
      clear hmk
      have HBW := Aside0.mk (World.block_lt_of_cell? _ _ hbw)
      clear hbw
      go_loopg [13, 14, 15] s.size (fun g v13 v14 _ wx => ∃ i : Nat, i + g = s.size ∧ v14 = .int .i64 i ∧ v13 = .int .i64 (tot R (s.data.toList.take i) : Nat) ∧ Aside0 (Row wx g2 n (fun k => (rep R (s.data.toList.take i)).getD k 0)) ∧ Aside0 (Below w.heap.size w wx))
      case atStart => exact ⟨0, by omega, rfl, rfl, ⟨hrow0.out.congr (fun j _ => by simp [rep])⟩, HB0⟩
      case round =>
        clear hrow0 HB0
        obtain ⟨i, hi, rfl, rfl, HRow, HB⟩ := hrel
        by_cases hin : i < s.size
        · have q1 : (i : Int) < s.size := by omega
          obtain ⟨c, hc⟩ : ∃ c, c = at_ s i := ⟨_, rfl⟩
          have hg : ∀ h : i < s.size, s[i]'h = c := fun h => by rw [hc]; exact at_get s i h
          have hx := pw_cell_below HB.out (HT.out c.toNat c.toNat_lt).1
          have q3 : ((c.toNat : Nat) : Int) < 256 := by have := c.toNat_lt; omega
          have q4 : c.toNat < 256 := c.toNat_lt
          have hil : i ≤ 1000 := by have := HS.out; omega
          obtain ⟨J, hJ⟩ : ∃ J, J = tot R (s.data.toList.take i) := ⟨_, rfl⟩
          rw [← hJ]
          have hJn : J + lenR R c ≤ n := by rw [hJ, HN.out, hc]; exact tot_next R s i hin
          have HC := Aside0.mk (And.intro hc hJ)
          clear hc hJ
          rcases HR.out c with ⟨hv, hfc⟩ | ⟨v, x, cx, hv, hfc, h1, h2, hcells⟩
          · rw [hfc] at hx
            have hlen : lenR R c = 1 := by unfold lenR; rw [hv]
            have hrc : repC R c = [c] := by unfold repC; rw [hv]
            have hJ1 : J < n := by omega
            have hJ2 : (J : Int) < (n : Int) := by omega
            obtain ⟨hy, hz⟩ := HRow.out J hJ1
            have HV := Aside0.mk (And.intro hlen hrc)
            clear hv hlen hfc hJn hrc
            go_wp2_with (fail)
            go_roundg (s.size - (i + 1))
            case measure => omega
            case rel =>
              refine ⟨i + 1, by omega, by simp, ?_, ⟨?_⟩, ⟨HB.out.setCell HW.out _⟩⟩
              · rw [take_succ_at s i hin, tot_append, ← HC.out.1, HV.out.1, ← HC.out.2]; simp
              · rw [take_succ_at s i hin, rep_append, ← HC.out.1, HV.out.2]
                exact row_put (HRow.out) (by rw [rep_length]; exact HC.out.2)
          · rw [hfc] at hx
            obtain ⟨m, hm⟩ : ∃ m, v.size = m + 1 := ⟨v.size - 1, by omega⟩
            have hlen : lenR R c = v.size := by unfold lenR; rw [hv]
            have hrc : repC R c = v.data.toList := by unfold repC; rw [hv]
            have hJ1 : J < n := by omega
            have hJ2 : (J : Int) < (n : Int) := by omega
            have hJ3 : (J : Int) ≤ (n : Int) := by omega
            have hV := copy_law v x cx g2 J n n wr.drew (by omega) (fun j hj => pw_cell_below HB.out (hcells j hj)) (fun j hj => row_some HRow.out (J + j) (by omega))
            have HV := Aside0.mk (And.intro hlen (And.intro hrc (show J + v.size ≤ n by omega)))
            have hbg : b ≠ g2 := by have h1 : b < w.heap.size := HBW.out; have := HW.out; omega
            have q6 : IntKind.i64.wrap ((J : Int) + (v.size : Int)) = (J : Int) + (v.size : Int) := by rw [IntKind.wrap_i64]; omega
            have HBG := Aside0.mk hbg
            clear hv hlen hfc hrc h1 hm hJn hbg
            go_upto_region 28 with (fail)
            go_region_held3 (fun w' => w'.cell? ⟨b, c.toNat, none⟩ = some (.slice (some ⟨x, 0, none⟩) v.size cx)) (first | exact keep1_start hx | exact keepC HBG.out (by assumption)) (fail)
            go_wp2_with (fail)
            go_roundg (s.size - (i + 1))
            case measure => omega
            case rel =>
              refine ⟨i + 1, by omega, by simp, ?_, ⟨?_⟩, ⟨?_⟩⟩
              · rw [take_succ_at s i hin, tot_append, ← HC.out.1, HV.out.1, ← HC.out.2]; simp
              · rw [take_succ_at s i hin, rep_append, ← HC.out.1, HV.out.2.1]
                exact row_copy HRow.out v (by rw [rep_length]; exact HC.out.2) HV.out.2.2
              · exact below_copy HB.out HW.out _ _
        · obtain rfl : i = s.size := by omega
          have h3 : s.data.toList.take s.size = s.data.toList := List.take_of_length_le (by simp)
          rw [h3] at HRow ⊢
          have hcv := back_rep (rep R s.data.toList) n g2 n wr (by rw [rep_length]; exact HN.out) HRow.out
          clear h3
          go_wp2_with (fail)
          go_ret
          exact ⟨rfl, HB.out⟩
end Go.Proofs.YtjlgfcgdagikgaaDoor.repl
