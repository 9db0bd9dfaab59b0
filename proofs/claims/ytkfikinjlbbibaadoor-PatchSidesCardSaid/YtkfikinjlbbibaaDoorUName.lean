/- Packed by this session's own program (wip/tools/pack.py): what the claim needs of its texts. -/
import Derived.Test.YtkfikinjlbbibaaDoorUShelf
import Derived.Test.YtkfikinjlbbibaaDoorUW
import Derived.WalkLawsBesides
import Derived.Lib.IndexAny
import Derived.Lib.IndexBytes
import Derived.Laws.RangeString
import Derived.Laws.RangeAny
import Derived.Laws.Strings3
import Derived.Deep.LoopGhost
import Derived.Lib.AsciiSet
import Derived.Lib.Builder
import Derived.Lib.OthersKept
import Derived.Deep.QuietTactic
import Derived.BigQuiet
import Derived.WalkKit
import Derived.WalkMore
namespace Go.Proofs.YtkfikinjlbbibaaDoor
open Go.RowKit Go.Lib
open Go.Proofs.YtkfikinjlbbibaaDoorW.PrintWords
theorem hid {p : Prop} (h : p) : Hid p := h
theorem quiet_add_same {P : Program} {f : FuncId} {args : Array Value} {w : World} {a n : Nat} {v : Value}
    (h : Calls P f args (w.drewN (a + n)) fun e w' => e = .returned v ∧ w' = w.drewN (a + n)) :
    Calls P f args (w.drewN (a + n)) fun e w'' => e = .returned v ∧ ∃ m, w'' = w.drewN (a + m) :=
  h.mono fun _ _ ⟨he, hm⟩ => ⟨he, n, hm⟩
def slashNul : ByteArray := ⟨#[47, 0]⟩
theorem encode_shape (r : Int) (h0 : 128 ≤ r) (hv : Utf8.valid r = true) :
    (∃ a b : UInt8, Utf8.encode r = ⟨#[a, b]⟩ ∧ 128 ≤ b.toNat) ∨ (∃ a b c : UInt8, Utf8.encode r = ⟨#[a, b, c]⟩) ∨ ∃ a b c d : UInt8, Utf8.encode r = ⟨#[a, b, c, d]⟩ := by
  have hc : (if Utf8.valid r then r.toNat else Utf8.runeError) = r.toNat := by rw [if_pos hv]
  unfold Utf8.encode
  rw [hc]
  by_cases h1 : r.toNat < 2048
  · refine .inl ⟨_, _, by rw [if_neg (show ¬ r.toNat < 128 by omega), if_pos h1], ?_⟩
    rw [UInt8.toNat_ofNat']
    omega
  · by_cases h2 : r.toNat < 65536
    · exact .inr (.inl ⟨_, _, _, by rw [if_neg (show ¬ r.toNat < 128 by omega), if_neg h1, if_pos h2]⟩)
    · exact .inr (.inr ⟨_, _, _, _, by rw [if_neg (show ¬ r.toNat < 128 by omega), if_neg h1, if_neg h2]⟩)
theorem slashNul_byte (i : Nat) (h : i < 2) : ∃ x : UInt8, slashNul[i]'h = x ∧ x.toNat < 128 := by
  match i, h with
  | 0, _ => exact ⟨47, rfl, by decide⟩
  | 1, _ => exact ⟨0, rfl, by decide⟩
theorem slashNul_size : slashNul.size = 2 := rfl
set_option maxHeartbeats 2000000 in
set_option maxRecDepth 1000000 in
theorem rune_error (w : World) :
    Calls Tryd.prog 78 #[.string slashNul, .int .i32 65533] w fun e w' => e = .returned (.int .i64 (-1)) ∧ Below w.heap.size w w' := by
  go_enter Tryd.func78, Tryd.ntmps78
  go_wp2
  go_loopg [5, 6] 2 (fun g _ _ wx => ∃ i : Nat, i + g = 2 ∧ wx = w.iter slashNul i)
  case atStart => exact ⟨0, by omega, rfl⟩
  case round =>
    obtain ⟨i, hig, rfl⟩ := hrel
    cases gk with
    | zero =>
      obtain rfl : i = 2 := by omega
      have hnx := fun ty => run_next_end (P := Tryd.prog) w slashNul 2 ty (by decide)
      go_wp2
      go_ret
      exact ⟨rfl, (Below.refl _ _).alloc (Nat.le_refl _) _⟩
    | succ g =>
      have hi : i < 2 := by omega
      obtain ⟨x, hx, hx128⟩ := slashNul_byte i hi
      have hnx := fun ty => run_next_ascii (P := Tryd.prog) w slashNul i ty hi (by rw [hx]; exact hx128)
      rw [hx] at hnx
      have hne : ((x.toNat : Int) == 65533) = false := beq_eq_false_iff_ne.2 (by omega)
      clear hx
      go_wp2
      go_roundg g
      case measure => omega
      case rel => exact ⟨i + 1, by omega, rfl⟩
set_option maxHeartbeats 2000000 in
set_option maxRecDepth 1000000 in
theorem rune_high (r : Int) (w : World) (h0 : 128 ≤ r) :
    Calls Tryd.prog 78 #[.string ⟨#[47, 0]⟩, .int .i32 r] w fun e w' => e = .returned (.int .i64 (-1)) ∧ Below w.heap.size w w' := by
  by_cases h1 : r = 65533
  · subst h1
    exact rune_error w
  · by_cases h2 : Go.Lib.validRune r = true
    · have hne : (r == 65533) = false := beq_eq_false_iff_ne.2 h1
      have hv : Utf8.valid r = true := by
        unfold Go.Lib.validRune at h2
        have h2 := of_decide_eq_true h2
        simp [Utf8.valid]
        omega
      have hsz := slashNul_size
      rcases encode_shape r h0 hv with ⟨a, b, he, hb⟩ | ⟨a, b, c, he⟩ | ⟨a, b, c, d, he⟩
      · clear h1
        have HE := hid he
        clear he
        go_enter Tryd.func78, Tryd.ntmps78
        go_wp2_with (go_at_call 83; refine (Tryd.utf8_ValidRune _ _).mono ?_; rintro e w' ⟨rfl, hw⟩; rw [hw, h2])
        go_step3
        have he := HE.out
        go_wp2_with (fail)
        clear he
        have hne2 : ∀ h h', (((((⟨#[47, 0]⟩ : ByteArray)[1]'h).toNat : Int)) != ((((⟨#[a, b]⟩ : ByteArray)[1]'h').toNat : Int))) = true := fun _ _ => bne_iff_ne.2 (show (0 : Int) ≠ (b.toNat : Int) by omega)
        refine wp_loop_rounds 1 ?_; rw [rounds_succ]
        go_wp2_with (fail)
        go_step3
        go_wp2_with (fail)
        go_quiet (fail)
        go_wp2_with (fail)
        go_quiet ((go_at_call 43; exact quiet_add_same (Tryd.strings_IndexByte _ _ _)))
        have hi0 : Lib.indexByte (ByteArray.mk #[]).data.toList b = -1 := by rfl
        go_wp2_with (fail)
        go_ret
        exact ⟨rfl, (pw_below_drewN (Below.refl _ _) _)⟩
      · clear h1
        have HE := hid he
        clear he
        go_enter Tryd.func78, Tryd.ntmps78
        go_wp2_with (go_at_call 83; refine (Tryd.utf8_ValidRune _ _).mono ?_; rintro e w' ⟨rfl, hw⟩; rw [hw, h2])
        go_step3
        have he := HE.out
        go_wp2_with (fail)
        clear he
        refine wp_loop_rounds 1 ?_; rw [rounds_succ]
        go_wp2_with (fail)
        rw [Exit.noGoto_ret]
        go_ret
        exact ⟨rfl, Below.refl _ _⟩
      · clear h1
        have HE := hid he
        clear he
        go_enter Tryd.func78, Tryd.ntmps78
        go_wp2_with (go_at_call 83; refine (Tryd.utf8_ValidRune _ _).mono ?_; rintro e w' ⟨rfl, hw⟩; rw [hw, h2])
        go_step3
        have he := HE.out
        go_wp2_with (fail)
        clear he
        refine wp_loop_rounds 1 ?_; rw [rounds_succ]
        go_wp2_with (fail)
        rw [Exit.noGoto_ret]
        go_ret
        exact ⟨rfl, Below.refl _ _⟩
    · have hne : (r == 65533) = false := beq_eq_false_iff_ne.2 h1
      have h2 := Bool.eq_false_iff.2 h2
      go_enter Tryd.func78, Tryd.ntmps78
      go_wp2_with (go_at_call 83; refine (Tryd.utf8_ValidRune _ _).mono ?_; rintro e w' ⟨rfl, hw⟩; rw [hw, h2])
      go_ret
      exact ⟨rfl, Below.refl _ _⟩
theorem decode_cont (s : ByteArray) (pos : Nat) (h : pos < s.size) (ha : 128 ≤ (s[pos]'h).toNat) :
    ∀ k, k < (Utf8.decode s pos).2 → pos + k < s.size ∧ 128 ≤ (s.get! (pos + k)).toNat := by
  have g0 : s.get! pos = s[pos] := by
    simp [ByteArray.get!, getElem!_pos, h]
    rfl
  have hn : ¬ (s.get! (pos + 0)).toNat < 128 := by rw [Nat.add_zero, g0]; omega
  have h0 : pos + 0 < s.size ∧ 128 ≤ (s.get! (pos + 0)).toNat := ⟨h, by omega⟩
  intro k hk
  simp only [Utf8.decode] at hk
  rw [if_neg hn] at hk
  match k, hk with
  | 0, _ => exact h0
  | 1, hk =>
    split at hk
    · rename_i hc; simp at hc; omega
    · split at hk
      · rename_i hc; simp at hc; omega
      · split at hk
        · rename_i hc; simp at hc; omega
        · simp at hk
  | 2, hk =>
    split at hk
    · split at hk <;> simp at hk
    · split at hk
      · rename_i hc; simp at hc; omega
      · split at hk
        · rename_i hc; simp at hc; omega
        · simp at hk
  | 3, hk =>
    split at hk
    · split at hk <;> simp at hk
    · split at hk
      · split at hk <;> simp at hk
      · split at hk
        · rename_i hc; simp at hc; omega
        · simp at hk
  | k + 4, hk =>
    split at hk
    · split at hk <;> (dsimp only at hk; omega)
    · split at hk
      · split at hk <;> (dsimp only at hk; omega)
      · split at hk
        · split at hk <;> (dsimp only at hk; omega)
        · dsimp only at hk; omega
theorem noAny_rune {s : ByteArray} {chars : List UInt8} {i : Nat} (hc : ∀ x : UInt8, 128 ≤ x.toNat → chars.contains x = false) (h : i < s.size) (ha : 128 ≤ (s[i]'h).toNat)
    (hn : Lib.NoAny s.data.toList chars i) : ∀ k, k ≤ (Utf8.decode s i).2 → Lib.NoAny s.data.toList chars (i + k)
  | 0, _ => hn
  | k + 1, hk => by
    obtain ⟨h1, h2⟩ := decode_cont s i h ha k (by omega)
    have hx : s.data.toList[i + k]? = some (s[i + k]'h1) := Lib.data_getElem? s (i + k) h1
    have hg : s.get! (i + k) = s[i + k]'h1 := by
      simp [ByteArray.get!, getElem!_pos, h1]
      rfl
    rw [hg] at h2
    exact (noAny_rune hc h ha hn k (by omega)).succ hx (hc _ h2)
theorem chars_high (x : UInt8) (h : 128 ≤ x.toNat) : [(47 : UInt8), 0].contains x = false := by
  have h1 : x ≠ 47 := by rintro rfl; exact absurd h (by decide)
  have h2 : x ≠ 0 := by rintro rfl; exact absurd h (by decide)
  simp [h1, h2]
theorem below_call {w w1 w2 : World} {o : Obj} (h : Below w.heap.size w w1) (hi : w1.heap[w.heap.size]? = some o) (h2 : Below w1.heap.size w1 w2) : Below w.heap.size w w2 ∧ w2.heap[w.heap.size]? = some o :=
  ⟨below_then h h.size h2, (h2.block _ (Array.getElem?_eq_some_iff.1 hi).1).trans hi⟩
set_option maxHeartbeats 8000000 in
set_option maxRecDepth 1000000 in
theorem indexAny_short (s : ByteArray) (w : World) (h8 : s.size ≤ 8) :
    Calls Tryd.prog 72 #[.string s, .string ⟨#[47, 0]⟩] w fun e w' => e = .returned (.int .i64 (Lib.indexAny s.data.toList [47, 0])) ∧ Below w.heap.size w w' := by
  have h8z : decide ((8 : Int) < (s.size : Int)) = false := decide_eq_false (by omega)
  go_enter Tryd.func72, Tryd.ntmps72
  go_wp2_with (go_at_call 79; refine (Tryd.strings_shouldUseASCIISet _ _).mono ?_; rintro e w' ⟨rfl, hw⟩; rw [hw, h8z])
  have hb0 : w.heap.size < (w.iter s 0).heap.size := by simp [World.iter]
  have hbel : Below w.heap.size w (w.iter s 0) := (Below.refl _ _).alloc (Nat.le_refl _) _
  have HB := hid hbel
  clear hbel hb0
  go_loopg [9, 10] s.size (fun g _ _ wx => ∃ i : Nat, i + g = s.size ∧ Aside0 (Below w.heap.size w wx) ∧ Aside0 (wx.heap[w.heap.size]? = some (.stringIter s i)) ∧ Aside0 (Lib.NoAny s.data.toList [47, 0] i))
  case atStart => exact ⟨0, by omega, ⟨HB⟩, ⟨World.iter_heap _ _ _⟩, ⟨Lib.NoAny.zero _ _⟩⟩
  case round =>
    obtain ⟨i, hig, HBx, HI, HN⟩ := hrel
    by_cases hp : i < s.size
    · obtain ⟨x, hx⟩ : ∃ x : UInt8, s[i]'hp = x := ⟨_, rfl⟩
      have hxl : s.data.toList[i]? = some x := by rw [← hx]; exact Lib.data_getElem? s i hp
      have Hx : Aside0 (s.data.toList[i]? = some x) := ⟨hxl⟩
      have hblk : w.heap.size ≤ w.heap.size := Nat.le_refl _
      by_cases ha : x.toNat < 128
      · have hnx := fun ty => run_next_ascii_at (P := Tryd.prog) wr w.heap.size s i ty HI.out hp (by rw [hx]; exact ha)
        rw [hx] at hnx
        have hcon := Lib.contains_iff_indexByte [47, 0] x
        have hback : ((x.toNat : Int)).toNat.toUInt8 = x := by simp
        clear hxl hx
        cases hin : [(47 : UInt8), 0].contains x
        · rw [hin] at hcon
          have hlt : ¬ ((0 : Int) ≤ Lib.indexByte [47, 0] x) := of_decide_eq_false hcon.symm
          clear hcon
          go_wp2_with (go_at_call 78; refine (Tryd.strings_IndexRune_ascii _ _ _ (by omega) (by omega)).mono ?_; rintro e w' ⟨rfl, hw⟩; rw [hw, hback])
          go_roundg (s.size - (i + 1))
          case measure => omega
          case rel => exact ⟨i + 1, by omega, ⟨below_iterAt HBx.out hblk _ _⟩, ⟨iterAt_heap _ _ _ _ _ HI.out⟩, ⟨HN.out.succ Hx.out hin⟩⟩
        · rw [hin] at hcon
          have hge : (0 : Int) ≤ Lib.indexByte [47, 0] x := of_decide_eq_true hcon.symm
          clear hcon
          go_wp2_with (go_at_call 78; refine (Tryd.strings_IndexRune_ascii _ _ _ (by omega) (by omega)).mono ?_; rintro e w' ⟨rfl, hw⟩; rw [hw, hback])
          go_ret
          exact ⟨by rw [Lib.indexAny_hit HN.out Hx.out hin]; rfl, below_iterAt HBx.out hblk _ _⟩
      · have hhi : 128 ≤ (s[i]'hp).toNat := by rw [hx]; omega
        have hd := decode_high s i hp hhi
        have HD := fun k hk => decode_cont s i hp hhi k hk
        have HL := hid (HD ((Utf8.decode s i).2 - 1) (by omega)).1
        have hL : i + (Utf8.decode s i).2 ≤ s.size := by have := (HD ((Utf8.decode s i).2 - 1) (by omega)).1; omega
        have HN2 := Aside0.mk (noAny_rune chars_high hp hhi HN.out (Utf8.decode s i).2 (Nat.le_refl _))
        clear HD
        obtain ⟨rn, wd, hde⟩ : ∃ rn wd, Utf8.decode s i = (rn, wd) := ⟨_, _, rfl⟩
        have hnx := fun ty => run_next_any_at (P := Tryd.prog) wr w.heap.size s i ty HI.out hp
        rw [hde] at hnx hd hL HN2
        have hd1 := hd.1
        have hd2 := hd.2
        clear hd hxl hx hhi hde HL
        dsimp only at hnx hd1 hd2 hL
        have HN3 : Aside0 (Lib.NoAny s.data.toList [47, 0] (i + wd)) := ⟨HN2.out⟩
        clear HN2
        have HI2 := Aside0.mk (iterAt_heap wr w.heap.size s i (i + wd) HI.out)
        have HB2 := Aside0.mk (below_iterAt HBx.out hblk s (i + wd))
        go_wp2_with (go_at_call 78; refine (rune_high _ _ (by omega)).mono ?_; rintro e w' ⟨rfl, hw⟩)
        have HB3 := Aside0.mk (below_call HB2.out HI2.out (by assumption))
        go_roundg (s.size - (i + wd))
        case measure => omega
        case rel => exact ⟨i + wd, by omega, ⟨HB3.out.1⟩, ⟨HB3.out.2⟩, ⟨HN3.out⟩⟩
    · have hnx := fun ty => run_next_end_at (P := Tryd.prog) wr w.heap.size s i ty HI.out hp
      go_wp2
      go_ret
      have hi : i = s.data.toList.length := by rw [← Lib.size_eq]; omega
      exact ⟨by rw [Lib.indexAny_none (by rw [← hi]; exact HN.out)]; rfl, HBx.out⟩
theorem info53 : (Tryd.prog.info? 119).map (fun i => (i.zero, i.size)) = some (some (.agg (Array.replicate 256 (.bool false))), 256) := by kernel_rfl
theorem zero53 : ∀ w, (zeroValue 119).run Tryd.prog w = .ok (.agg (Array.replicate 256 (.bool false))) w := (zero_of_info info53).1
theorem size53 : (Tryd.prog.info? 119).map (·.size) = some 256 := (zero_of_info info53).2
set_option maxHeartbeats 8000000 in
set_option maxRecDepth 1000000 in
theorem indexAny_long (s : ByteArray) (w : World) (h8 : 8 < s.size) (hs : s.size < 4294967281) :
    Calls Tryd.prog 72 #[.string s, .string ⟨#[47, 0]⟩] w fun e w' => e = .returned (.int .i64 (Lib.indexAny s.data.toList [47, 0])) ∧ Below w.heap.size w w' := by
  have hM := Tryd.strings_makeASCIISet zero53 ⟨#[47, 0]⟩ w (by decide) (by
    intro j b hj
    match j, hj with
    | 0, hj => simp at hj; subst hj; decide
    | 1, hj => simp at hj; subst hj; decide)
  have h8z : decide ((8 : Int) < (s.size : Int)) = true := decide_eq_true (by omega)
  have hsc0 : (storeCells ⟨w.heap.size + 1, 0, none⟩ (Lib.setCells [47, 0]).toList 0).run Tryd.prog ((w.alloc (.cells (Lib.setCells [47, 0]) 119)).alloc (.cells (Array.replicate 256 (.bool false)) 119)) = .ok () ((w.alloc (.cells (Lib.setCells [47, 0]) 119)).alloc (.cells (Lib.setCells [47, 0]) 119)) := by
    have := run_storeCells_new (P := Tryd.prog) (w.alloc (.cells (Lib.setCells [47, 0]) 119)) 119 (Array.replicate 256 (.bool false)) (Lib.setCells [47, 0]) (by rw [Lib.setCells_size]; exact size53) (by rw [Lib.setCells_size, Array.size_replicate]) (Lib.setCells_one _)
    simpa using this
  have hsz0 := Lib.setCells_size [47, 0]
  have hcellAt : ∀ x : UInt8, ((w.alloc (.cells (Lib.setCells [47, 0]) 119)).alloc (.cells (Lib.setCells [47, 0]) 119)).cell? ⟨w.heap.size + 1, x.toNat, none⟩ = some (.bool ([(47 : UInt8), 0].contains x)) := fun x => by
    rw [World.cell?_alloc_at _ _ _ _ (by simp), Lib.setCells_at]
  have hM : Calls Tryd.prog 80 #[.string ⟨#[47, 0]⟩] w fun e w' => e = .returned (.tuple #[.agg (Lib.setCells [47, 0]), .bool true]) ∧ w' = w.alloc (.cells (Lib.setCells [47, 0]) 119) := hM
  obtain ⟨SC, hSC⟩ : ∃ SC, Lib.setCells [47, 0] = SC := ⟨_, rfl⟩
  rw [hSC] at hsc0 hsz0 hM
  simp only [hSC] at hcellAt
  have HC := Aside0.mk hcellAt
  have hsc := hsc0
  have hsz := hsz0
  clear hcellAt hSC hsc0 hsz0
  have t53 := Tryd.underlying119
  have hz53 := zero53
  go_enter Tryd.func72, Tryd.ntmps72
  go_wp2_with (first
    | (go_at_call 79; refine (Tryd.strings_shouldUseASCIISet _ _).mono ?_; rintro e w' ⟨rfl, hw⟩; rw [hw, h8z])
    | (go_at_call 80; refine hM.mono ?_; rintro e w' ⟨rfl, hw⟩; rw [hw]))
  clear hM hsc hz53 t53
  go_loopg [8] s.size (fun g s8 wx => ∃ i : Nat, i + g = s.size ∧ s8 = .int .i64 i ∧ wx = ((w.alloc (.cells SC 119)).alloc (.cells SC 119)) ∧ Aside0 (Lib.NoAny s.data.toList [47, 0] i))
  case atStart => exact ⟨0, by omega, rfl, rfl, ⟨Lib.NoAny.zero _ _⟩⟩
  case round =>
    obtain ⟨i, hig, rfl, rfl, HN⟩ := hrel
    by_cases hi : i < s.size
    · have hiz : (i : Int) < (s.size : Int) := by omega
      obtain ⟨x, hx⟩ : ∃ x : UInt8, s[i]'hi = x := ⟨_, rfl⟩
      have hxl : s.data.toList[i]? = some x := by rw [← hx]; exact Lib.data_getElem? s i hi
      have Hx : Aside0 (s.data.toList[i]? = some x) := ⟨hxl⟩
      clear hxl
      have hcx := HC.out x
      cases hin : [(47 : UInt8), 0].contains x <;> rw [hin] at hcx
      · go_wp2_with (go_at_call 81; refine (Tryd.asciiSet_contains _ x _ _ hcx).mono ?_; rintro e w' ⟨rfl, hw⟩; rw [hw])
        go_roundg (s.size - (i + 1))
        case measure => omega
        case rel => exact ⟨i + 1, by omega, by first | rfl | simp, rfl, ⟨HN.out.succ Hx.out hin⟩⟩
      · go_wp2_with (go_at_call 81; refine (Tryd.asciiSet_contains _ x _ _ hcx).mono ?_; rintro e w' ⟨rfl, hw⟩; rw [hw])
        go_ret
        exact ⟨by rw [Lib.indexAny_hit HN.out Hx.out hin]; rfl, ((Below.refl _ _).alloc (Nat.le_refl _) _).alloc (by simp) _⟩
    · have hiz : ¬ ((i : Int) < (s.size : Int)) := by omega
      go_wp2
      go_ret
      have hi : i = s.data.toList.length := by rw [← Lib.size_eq]; omega
      exact ⟨by rw [Lib.indexAny_none (by rw [← hi]; exact HN.out)]; rfl, ((Below.refl _ _).alloc (Nat.le_refl _) _).alloc (by simp) _⟩
theorem indexAny_any (s : ByteArray) (w : World) (hs : s.size < 4294967281) :
    Calls Tryd.prog 72 #[.string s, .string ⟨#[47, 0]⟩] w fun e w' => e = .returned (.int .i64 (Lib.indexAny s.data.toList [47, 0])) ∧ Below w.heap.size w w' := by
  by_cases h8 : s.size ≤ 8
  · exact indexAny_short s w h8
  · exact indexAny_long s w (by omega) hs
set_option maxHeartbeats 1000000 in
theorem containsAny_any (s : ByteArray) (w : World) (hs : s.size < 4294967281) :
    Calls Tryd.prog 63 #[.string s, .string ⟨#[47, 0]⟩] w fun e w' => e = .returned (.bool (Lib.containsAny s.data.toList [47, 0])) ∧ Below w.heap.size w w' := by
  have c := indexAny_any s w hs
  go_enter Tryd.func63, Tryd.ntmps63
  go_wp2_with (go_at_call 72; refine c.mono ?_; rintro e w' ⟨rfl, hw⟩)
  go_ret
  exact ⟨rfl, hw⟩
def codec_Name.f (a0 : ByteArray) : Option Int :=
  if 54 < a0.size then some 7
  else if a0.toList = ([] : List UInt8) then some 21
  else if a0.toList = ([46] : List UInt8) then some 21
  else if a0.toList = ([46, 46] : List UInt8) then some 21
  else if Lib.containsAny a0.data.toList [47, 0] = true then some 21
  else some 0
set_option maxHeartbeats 1000000 in
set_option maxRecDepth 100000 in
theorem codec_Name.calls (a0 : ByteArray) (r : Int) (w : World) (h : codec_Name.f a0 = some r) :
    Calls Tryd.prog 52 #[.string a0] w fun e w' => e = .returned (.int .i64 r) ∧ Below w.heap.size w w' := by
  unfold codec_Name.f at h
  by_cases h1 : 54 < a0.size
  · rw [if_pos h1] at h
    obtain rfl := Option.some.inj h
    go_enter Tryd.func52, Tryd.ntmps52
    go_wp2
    go_ret
    exact ⟨rfl, Below.refl _ _⟩
  · rw [if_neg h1] at h
    have c := containsAny_any a0 w (by omega)
    have H := Aside0.mk h
    clear h
    by_cases h2 : a0.toList = ([] : List UInt8)
    · have h := H.out
      rw [if_pos h2] at h
      obtain rfl := Option.some.inj h
      clear h H c
      go_enter Tryd.func52, Tryd.ntmps52
      go_wp2
      go_ret
      exact ⟨rfl, Below.refl _ _⟩
    · have h := H.out
      rw [if_neg h2] at h
      have b2 : (a0.toList == ([] : List UInt8)) = false := beq_eq_false_iff_ne.mpr h2
      clear h2 H
      by_cases h3 : a0.toList = ([46] : List UInt8)
      · rw [if_pos h3] at h
        obtain rfl := Option.some.inj h
        have b3 : (a0.toList == ([46] : List UInt8)) = true := beq_iff_eq.mpr h3
        clear h h3 c
        go_enter Tryd.func52, Tryd.ntmps52
        go_wp2
        go_ret
        exact ⟨rfl, Below.refl _ _⟩
      · rw [if_neg h3] at h
        have b3 : (a0.toList == ([46] : List UInt8)) = false := beq_eq_false_iff_ne.mpr h3
        clear h3
        by_cases h4 : a0.toList = ([46, 46] : List UInt8)
        · rw [if_pos h4] at h
          obtain rfl := Option.some.inj h
          have b4 : (a0.toList == ([46, 46] : List UInt8)) = true := beq_iff_eq.mpr h4
          clear h h4 c
          go_enter Tryd.func52, Tryd.ntmps52
          go_wp2
          go_ret
          exact ⟨rfl, Below.refl _ _⟩
        · rw [if_neg h4] at h
          have b4 : (a0.toList == ([46, 46] : List UInt8)) = false := beq_eq_false_iff_ne.mpr h4
          clear h4
          cases h5 : Lib.containsAny a0.data.toList [47, 0] with
          | true =>
            rw [h5, if_pos rfl] at h
            obtain rfl := Option.some.inj h
            rw [h5] at c
            clear h h5
            go_enter Tryd.func52, Tryd.ntmps52
            go_wp2_with (go_at_call 63; refine c.mono ?_; rintro e w' ⟨rfl, hw⟩)
            go_ret
            exact ⟨rfl, by assumption⟩
          | false =>
            rw [h5, if_neg (by decide)] at h
            obtain rfl := Option.some.inj h
            rw [h5] at c
            clear h h5
            go_enter Tryd.func52, Tryd.ntmps52
            go_wp2_with (go_at_call 63; refine c.mono ?_; rintro e w' ⟨rfl, hw⟩)
            go_ret
            exact ⟨rfl, by assumption⟩
end Go.Proofs.YtkfikinjlbbibaaDoor
