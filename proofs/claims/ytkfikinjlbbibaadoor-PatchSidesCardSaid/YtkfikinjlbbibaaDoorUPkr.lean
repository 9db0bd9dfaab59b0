/- Packed by this session's own program (wip/tools/pack.py): what the claim needs of its texts. -/
import Derived.Test.YtkfikinjlbbibaaDoorUSum
import Derived.Test.YtkfikinjlbbibaaDoorUW
import Derived.OneCell
import Derived.ArgAppend
import Derived.Lib.SlBytesConst
import Derived.RowKit3
import Derived.WalkKit
namespace Go.Proofs.YtkfikinjlbbibaaDoor
open Go.RowKit Go.Lib
open Go.Proofs.YtkfikinjlbbibaaDoorW.PrintWords Go.Proofs.YtkfikinjlbbibaaDoorW.PrintLast Go.Proofs.YtkfikinjlbbibaaDoor.PT
set_option linter.unusedVariables false
set_option linter.unusedSimpArgs false
structure Pk (B : Nat) (w : World) (g : Nat) (v : Value) (out : List Int) (n : Int) : Prop where
  blk : w.heap[g]? = some (.cells #[v, .int .i64 n] 65 (0, 0))
  row : Kd.R (Kd.int .u8) 5 w B (fun _ => True) v out
  low : B ≤ g
theorem Pk.lt {B g : Nat} {w : World} {v : Value} {out : List Int} {n : Int} (H : Pk B w g v out n) : g < w.heap.size := blk_lt H.blk
theorem Pk.below {B g : Nat} {w w1 : World} {v : Value} {out : List Int} {n : Int} (H : Pk B w g v out n) (hb : Below w.heap.size w w1) : Pk B w1 g v out n := ⟨blk_below H.blk hb, Kd.R_below H.row hb, H.low⟩
theorem Pk.ne {B g : Nat} {w : World} {v : Value} {out : List Int} {n : Int} (H : Pk B w g v out n) : some g ≠ v.ownBlock := Kd.R_ne H.row H.blk (by decide)
theorem Pk.slice {B g : Nat} {w : World} {v : Value} {out : List Int} {n : Int} (H : Pk B w g v out n) : ∃ A c, v = .slice A out.length c := Kd.R_slice H.row
theorem Pk.cell {B g : Nat} {w : World} {v : Value} {out : List Int} {n : Int} (H : Pk B w g v out n) : w.cell? ⟨g, 0, none⟩ = some v := by rw [blk_cell H.blk]; rfl
theorem Pk.put {B g : Nat} {w w1 : World} {v v1 : Value} {out out1 : List Int} {n : Int} (H : Pk B w g v out n) (hg : w.grownBy w1 v.ownBlock) (ho : Kd.R (Kd.int .u8) 5 w1 B (fun _ => True) v1 out1) :
    Pk B (w1.setCell ⟨g, 0, none⟩ v1) g v1 out1 n := by
  have hb := blk_grown H.blk hg H.ne
  exact ⟨by have := blk_set hb 0 v1; simpa using this, Kd.R_set ho hb (by intro q hq; simp [Kd.int, Kd.scalar] at hq; subst hq; decide) 0 v1, H.low⟩
theorem Pk.cells {B g : Nat} {w w1 : World} {v : Value} {out : List Int} {n : Int} (H : Pk B w g v out n) (hg : w.grownBy w1 v.ownBlock) :
    w1.cell? ⟨g, 0, none⟩ = some v ∧ w1.frozen? ⟨g, 0, none⟩ = false ∧ g < w1.heap.size := by
  have hb := blk_grown H.blk hg H.ne
  exact ⟨by rw [blk_cell hb]; rfl, blk_frozen hb 0, blk_lt hb⟩
structure Fr (g : Nat) (w w' : World) : Prop where
  size : w.heap.size ≤ w'.heap.size
  same : ∀ (k : Nat) (o : Obj), w.heap[k]? = some o → k ≠ g → (∀ cs fr, o ≠ .cells cs 5 fr) → w'.heap[k]? = some o
theorem Fr.refl (g : Nat) (w : World) : Fr g w w := ⟨Nat.le_refl _, fun _ _ h _ _ => h⟩
theorem Fr.trans {g : Nat} {a b c : World} (h : Fr g a b) (k : Fr g b c) : Fr g a c := ⟨Nat.le_trans h.size k.size, fun i o hi hg ht => k.same i o (h.same i o hi hg ht) hg ht⟩
theorem Fr.of_below {g : Nat} {a b : World} (h : Below a.heap.size a b) : Fr g a b := ⟨h.size, fun _ _ hi _ _ => blk_below hi h⟩
theorem Fr.set {g : Nat} (w : World) (i : Nat) (u : Value) : Fr g w (w.setCell ⟨g, i, none⟩ u) :=
  ⟨by show w.heap.size ≤ (w.heap.modify _ _).size; rw [Array.size_modify]; exact Nat.le_refl _, fun k o hk hg _ => (Below.heap_setCell w ⟨g, i, none⟩ u k hg).trans hk⟩
theorem Fr.grown {B g : Nat} {w w1 : World} {v : Value} {out : List Int} {n : Int} (H : Pk B w g v out n) (hg : w.grownBy w1 v.ownBlock) : Fr g w w1 :=
  ⟨hg.size, fun k o hk _ ht => (hg.block k (blk_lt hk) (fun e => by
    obtain ⟨inner, ho⟩ := Kd.R_own H.row
    obtain ⟨cs, hc⟩ := own_typed ho k e.symm
    rw [hk] at hc
    injection hc with hc
    exact ht _ _ hc)).trans hk⟩
theorem Fr.cell {g : Nat} {w w1 : World} (h : Fr g w w1) {k : Nat} {cs : Array Value} {t : TypeId} {fr : Nat × Nat} (hk : w.heap[k]? = some (.cells cs t fr)) (hg : k ≠ g) (ht : t ≠ 5) : w1.heap[k]? = some (.cells cs t fr) :=
  h.same k _ hk hg (fun cs' fr' e => by injection e with _ e; exact ht e)
def leB : Nat → Int → List Int
  | 0, _ => []
  | m + 1, x => x % 256 :: leB m (x / 256)
theorem leB_length : ∀ (m : Nat) (x : Int), (leB m x).length = m
  | 0, _ => rfl
  | m + 1, x => by rw [leB, List.length_cons, leB_length m]
theorem leB_wf : ∀ (m : Nat) (x : Int), ∀ b ∈ leB m x, 0 ≤ b ∧ b ≤ 255
  | 0, _ => by simp [leB]
  | m + 1, x => by
    intro b hb
    rcases List.mem_cons.1 hb with rfl | hb
    · omega
    · exact leB_wf m _ b hb
set_option maxHeartbeats 4000000 in
set_option maxRecDepth 100000 in
theorem num_any (w0 w : World) (g : Nat) (v : Value) (out : List Int) (n x : Int) (m : Nat) (H : Pk w0.heap.size w g v out n) (hb : Below w0.heap.size w0 w) (hm : m ≤ 8) (hl : out.length ≤ 1099511627776) :
    Calls Tryd.prog 44 #[.pointer (some ⟨g, 0, none⟩), .int .i64 x, .int .i64 m] w fun e w' => e = .returned (.tuple #[]) ∧ (∃ v', Pk w0.heap.size w' g v' (out ++ leB m x) n) ∧ Below w0.heap.size w0 w' ∧ Fr g w w' := by
  have HP := Aside0.mk H
  have HB := Aside0.mk hb
  clear H hb
  go_enter Tryd.func44, Tryd.ntmps44
  go_wp2
  go_loopg [1, 7] m (fun gk s1 s7 wx => ∃ (i : Nat) (y : Int) (v1 : Value) (out1 : List Int), i + gk = m ∧ s7 = .int .i64 i ∧ s1 = .int .i64 y ∧ Aside0 (out1 ++ leB gk y = out ++ leB m x) ∧ Aside0 (out1.length = out.length + i) ∧ Aside0 (Pk w0.heap.size wx g v1 out1 n) ∧ Aside0 (Below w0.heap.size w0 wx) ∧ Aside0 (Fr g w wx))
  case atStart => exact ⟨0, x, v, out, by omega, rfl, rfl, ⟨rfl⟩, ⟨rfl⟩, HP, HB, ⟨Fr.refl _ _⟩⟩
  case round =>
    clear HP HB
    obtain ⟨i, y, v1, out1, hig, rfl, rfl, HE, hlen, HP, HB, HF⟩ := hrel
    cases gk with
    | zero =>
      have hd : decide ((i : Int) < (m : Int)) = false := decide_eq_false (by omega)
      have hd2 : decide (i < m) = false := decide_eq_false (by omega)
      go_wp2
      go_end0
      have h := HE.out
      rw [leB, List.append_nil] at h
      exact ⟨rfl, ⟨v1, by rw [← h]; exact HP.out⟩, HB.out, HF.out⟩
    | succ gk =>
      have hd : decide ((i : Int) < (m : Int)) = true := decide_eq_true (by omega)
      have hd2 : decide (i < m) = true := decide_eq_true (by omega)
      have hl1 : out1.length ≤ 1099511627786 := by have := hlen.out; omega
      obtain ⟨A, c, hv⟩ := HP.out.slice
      subst hv
      have c0 := HP.out.cell
      go_wp2_with ((with_reducible refine gate_builtin (b := .append) (xs := #[.tmp 13, .tmp 16]) rfl ?_); at_builtin; refine Kd.R_append (Kd.int .u8) (w0 := w0) w0.heap.size rfl (.tmp 13) (.tmp 16) 25 5 (.int .u8 0) 1 rfl Tryd.underlying25 info5 rfl (by decide) (by omega) (.slice A out1.length c) out1 (y % 256) [.int .u8 (y % 256)] (fun _ => True) (fun _ => False) rfl rfl ?aP (fun _ hk => hk.elim) (fun _ _ => trivial) ?aO ?aB ?aS ?aL ?_; (case aP => exact rfl); (case aB => exact HB.out); (case aO => exact HP.out.row); (case aS => exact HB.out.size); (case aL => omega); intro v2 w2 ho hb hg _h; have HO := Aside0.mk ho; have HG := Aside0.mk hg; have HB1 := Aside0.mk hb; obtain ⟨cF, fF, lF⟩ := HP.out.cells hg; clear ho hb hg _h; obtain ⟨A2, c2, hv2⟩ := Kd.R_slice HO.out; subst hv2)
      have hO := HO.out
      simp only [List.length_append, List.length_cons, List.length_nil, Nat.zero_add] at hO
      have HO := Aside0.mk hO
      clear hO
      go_roundg gk
      case measure => omega
      case rel => exact ⟨i + 1, y / 256, _, out1 ++ [y % 256], by omega, by first | rfl | simp, by first | rfl | simp, ⟨by rw [← HE.out, leB, List.append_assoc]; rfl⟩, ⟨by rw [List.length_append, hlen.out]; simp; omega⟩, ⟨HP.out.put HG.out HO.out⟩, ⟨HB1.out.setCell HP.out.low _⟩, ⟨HF.out.trans ((Fr.grown HP.out HG.out).trans (Fr.set _ _ _))⟩⟩
theorem own_of_bytes {w : World} {B : Nat} {v : Value} {xs : List Int} (h : Kd.R (Kd.int .u8) 5 w B (fun _ => True) v xs) : w.ownsRow B 5 1 v xs.length (nums .u8 xs) := Kd.own_of_R h
theorem bytes_of_own {w : World} {B : Nat} {v : Value} {xs : List Int} (h : w.ownsRow B 5 1 v xs.length (nums .u8 xs)) : Kd.R (Kd.int .u8) 5 w B (fun _ => True) v xs := Kd.R_of_own h (fun _ _ => trivial)
set_option maxHeartbeats 4000000 in
set_option maxRecDepth 100000 in
theorem text_any (w0 w : World) (g : Nat) (v : Value) (out : List Int) (n : Int) (s : ByteArray) (H : Pk w0.heap.size w g v out n) (hb : Below w0.heap.size w0 w) (hl : out.length ≤ 549755813888) (hs : s.size ≤ 549755813888) :
    Calls Tryd.prog 45 #[.pointer (some ⟨g, 0, none⟩), .string s] w fun e w' => e = .returned (.tuple #[]) ∧ (∃ v', Pk w0.heap.size w' g v' (out ++ leB 2 s.size ++ bytesOf s) n) ∧ Below w0.heap.size w0 w' ∧ Fr g w w' := by
  have HP := Aside0.mk H
  have HB := Aside0.mk hb
  have hc := num_any w0 w g v out n s.size 2 H hb (by decide) (by omega)
  have hl2 : (out ++ leB 2 (s.size : Int)).length = out.length + 2 := by rw [List.length_append, leB_length]
  obtain ⟨o1, ho1⟩ : ∃ o, out ++ leB 2 (s.size : Int) = o := ⟨_, rfl⟩
  rw [ho1] at hc hl2
  rw [ho1]
  have HL := Aside0.mk hl2
  clear H hb hl2 ho1
  go_enter Tryd.func45, Tryd.ntmps45
  go_wp2_with (first
    | (go_at_call 44; refine hc.mono ?_; rintro e w1 ⟨rfl, ⟨v1, h1⟩, hb1, hf1⟩; have HP1 := Aside0.mk h1; have HB1 := Aside0.mk hb1; have HF1 := Aside0.mk hf1; have c0 := h1.cell; obtain ⟨A, c, hv⟩ := h1.slice; clear h1 hb1 hf1 hc; subst hv)
    | ((with_reducible refine gate_builtin (b := .append) (xs := #[.tmp 12, .tmp 13]) rfl ?_); at_builtin; refine print_append_str (w0 := w0) w0.heap.size rfl (.tmp 12) (.tmp 13) 25 9 5 rfl Tryd.underlying25 Tryd.underlying9 info5 _ o1 s rfl rfl (own_of_bytes HP1.out.row) HB1.out HB1.out.size (by have := HL.out; omega) ?_; intro v2 w2 ho hb hg; have HO := Aside0.mk (bytes_of_own ho); have HG := Aside0.mk hg; have HB2 := Aside0.mk hb; obtain ⟨cF, fF, lF⟩ := HP1.out.cells hg; clear ho hb hg; obtain ⟨A2, c2, hv2⟩ := Kd.R_slice HO.out; subst hv2))
  have hO := HO.out
  simp only [List.length_append] at hO
  go_end0
  exact ⟨rfl, ⟨_, HP1.out.put HG.out hO⟩, HB2.out.setCell HP1.out.low _, HF1.out.trans ((Fr.grown HP1.out HG.out).trans (Fr.set _ _ _))⟩
def magicD : List Int := [118, 108, 109, 97, 114, 99, 104, 1]
structure Pf (B : Nat) (w : World) (g b : Nat) (n : Int) : Prop where
  blk : w.heap[g]? = some (.cells #[.slice (some ⟨b, 0, none⟩) 8 8, .int .i64 n] 65 (0, 0))
  arr : w.heap[b]? = some (.cells (nums .u8 magicD).toArray 5 (8, 9))
  low : B ≤ g
theorem Pf.below {B g b : Nat} {w w1 : World} {n : Int} (H : Pf B w g b n) (hb : Below w.heap.size w w1) : Pf B w1 g b n := ⟨blk_below H.blk hb, blk_below H.arr hb, H.low⟩
set_option maxHeartbeats 4000000 in
set_option maxRecDepth 100000 in
theorem newPacker_any (w : World) : Calls Tryd.prog 28 #[] w fun e w' => ∃ g b, e = .returned (.pointer (some ⟨g, 0, none⟩)) ∧ Pf w.heap.size w' g b 0 ∧ Below w.heap.size w w' := by
  have kc := fun (w : World) (C : Array Value) (n c : Nat) => Lib.run_convert_bytes_const (P := Tryd.prog) w 25 5 C n c Tryd.underlying25 Tryd.underlying5
  go_enter Tryd.func28, Tryd.ntmps28
  go_wp2
  go_ret
  exact ⟨_, w.heap.size, rfl, ⟨by have := blk_new (w.alloc (.cells #[Value.int .u8 118, .int .u8 108, .int .u8 109, .int .u8 97, .int .u8 114, .int .u8 99, .int .u8 104, .int .u8 1] 5 (8, 9))) (.cells #[.slice (some ⟨w.heap.size, 0, none⟩) 8 8, .int .i64 0] 65); rwa [World.size_alloc] at this, blk_alloc (blk_new _ _) _, by simp⟩, (((Below.refl _ _).alloc (Nat.le_refl _) _).alloc (by simp) _)⟩
theorem magic_cells {w : World} {b : Nat} (h : w.heap[b]? = some (.cells (nums .u8 magicD).toArray 5 (8, 9))) (o : Obj) : ∀ b', some (⟨b, 0, none⟩ : Addr) = some b' → ∀ (j : Nat) u, (nums .u8 magicD)[j]? = some u → (w.alloc o).cell? (b'.add j) = some u := by
  intro b' hb' j u hj
  injection hb' with hb'
  subst hb'
  have h1 : (w.alloc o).cell? ⟨b, j, none⟩ = (nums .u8 magicD).toArray[j]? := cell_of_row _ b j _ 5 (8, 9) (blk_alloc h o)
  rw [add_plain, h1, List.getElem?_toArray]
  exact hj
theorem one_cells (w : World) (u0 : Value) (e : TypeId) : ∀ (j : Nat) u, [u0][j]? = some u → (w.alloc (.cells #[u0] e)).cell? ((⟨w.heap.size, 0, none⟩ : Addr).add j) = some u := by
  intro j u hj
  rw [add_plain, blk_cell (blk_new w _)]
  simpa using hj
theorem below_of_grown {w w1 : World} (h : w.grownBy w1 none) : Below w.heap.size w w1 := ⟨h.os, h.tape, h.output, h.size, fun k hk => h.block k hk (by simp)⟩
set_option maxHeartbeats 4000000 in
set_option maxRecDepth 100000 in
theorem num_first (w0 w : World) (g b : Nat) (n x : Int) (H : Pf w0.heap.size w g b n) (hb : Below w0.heap.size w0 w) :
    Calls Tryd.prog 44 #[.pointer (some ⟨g, 0, none⟩), .int .i64 x, .int .i64 1] w fun e w' => e = .returned (.tuple #[]) ∧ (∃ v', Pk w0.heap.size w' g v' (magicD ++ leB 1 x) n) ∧ Below w0.heap.size w0 w' ∧ Fr g w w' := by
  have HP := Aside0.mk H
  have HB := Aside0.mk hb
  have c0 : w.cell? ⟨g, 0, none⟩ = some (.slice (some ⟨b, 0, none⟩) 8 8) := by rw [blk_cell H.blk]; rfl
  obtain ⟨i0, hi, hz0, hz1, hz2⟩ := info_parts info5
  have HI := Aside0.mk (show _ ∧ _ ∧ _ ∧ _ from ⟨hi, hz0, hz1, hz2⟩)
  clear H hb hi hz0 hz1 hz2
  go_enter Tryd.func44, Tryd.ntmps44
  go_wp2
  refine wp_loop_rounds 2 ?_; rw [rounds_succ]
  go_wp2_with ((with_reducible refine gate_builtin (b := .append) (xs := #[.tmp 13, .tmp 16]) rfl ?_); at_builtin; refine wpList_append_grows _ rfl (.tmp 13) (.tmp 16) 25 rfl 5 i0 (.int .u8 0) 1 1 Tryd.underlying25 HI.out.1 HI.out.2.1 HI.out.2.2.1 HI.out.2.2.2 rfl (by decide) (some ⟨b, 0, none⟩) 8 8 (nums .u8 magicD) rfl (fun h => by cases h) rfl ?hA ⟨w.heap.size, 0, none⟩ 1 1 [.int .u8 (x % 256)] rfl rfl ?hN (by simp [Value.oneCell']) (by decide) (by decide) (by decide) ?_; (case hA => exact magic_cells HP.out.arr _); (case hN => exact one_cells w _ 5); intro v2 w2 ho hg; have HO := Aside0.mk ho; have HG := Aside0.mk hg; have hgb := blk_grown (blk_alloc HP.out.blk (.cells #[Value.int .u8 (x % 256)] 5)) hg (by simp); have cF : w2.cell? ⟨g, 0, none⟩ = some (.slice (some ⟨b, 0, none⟩) 8 8) := (by rw [blk_cell hgb]; rfl); have fF := blk_frozen hgb 0; have lF := blk_lt hgb; have HGB := Aside0.mk hgb; clear ho hg hgb; obtain ⟨A2, c2, hv2⟩ := own_slice HO.out; subst hv2)
  rw [rounds_succ]
  go_wp2
  go_end0
  have hR : Kd.R (Kd.int .u8) 5 w2 w0.heap.size (fun _ => True) (.slice A2 9 c2) (magicD ++ leB 1 x) := Kd.R_of_own (own_weaken HO.out (Nat.le_trans HB.out.size (by simp))) (fun _ _ => trivial)
  have hbel : Below w0.heap.size w0 w2 := pw_below_grown (HB.out.alloc HB.out.size _) none (by rw [World.size_alloc]; have := HB.out.size; omega) HG.out (by simp)
  exact ⟨rfl, ⟨_, ⟨by have := blk_set HGB.out 0 (.slice A2 9 c2); simpa using this, Kd.R_set hR HGB.out (by intro q hq; simp [Kd.int, Kd.scalar] at hq; subst hq; decide) 0 _, HP.out.low⟩⟩, hbel.setCell HP.out.low _, (Fr.of_below ((Below.refl _ _).alloc (Nat.le_refl _) _)).trans ((Fr.of_below (below_of_grown HG.out)).trans (Fr.set _ _ _))⟩
end Go.Proofs.YtkfikinjlbbibaaDoor
