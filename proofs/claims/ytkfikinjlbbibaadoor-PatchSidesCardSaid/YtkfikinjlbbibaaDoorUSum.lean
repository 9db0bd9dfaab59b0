/- Packed by this session's own program (wip/tools/pack.py): what the claim needs of its texts. -/
import Derived.Test.YtkfikinjlbbibaaDoorUHalv
import Derived.WalkKit
namespace Go.Proofs.YtkfikinjlbbibaaDoor
open Go.RowKit
open Go.Proofs.YtkfikinjlbbibaaDoorW.PrintWords Go.Proofs.YtkfikinjlbbibaaDoorW.PrintLast
set_option linter.unusedVariables false
set_option linter.unusedSimpArgs false
def crcHalf (reg : Int) : Int := Go.bits .xor .u32 (reg / 16) (rd halfT (Go.bits .and .u32 reg 15))
def crcByte (reg x : Int) : Int := crcHalf (crcHalf (Go.bits .xor .u32 reg x))
def crcReg (l : List Int) : Int := l.foldl crcByte 4294967295
def crcSum (l : List Int) : Int := Go.bits .xor .u32 IntKind.u32.max (crcReg l)
theorem halfV_get (i : Int) (h0 : 0 ≤ i) (h1 : i < 16) : halfV[i.toNat]? = some (.int .u32 (rd halfT i)) := by
  have h : ∀ k : Nat, k < 16 → halfV[k]? = some (.int .u32 (rd halfT k)) := by
    intro k hk
    have hc : k = 0 ∨ k = 1 ∨ k = 2 ∨ k = 3 ∨ k = 4 ∨ k = 5 ∨ k = 6 ∨ k = 7 ∨ k = 8 ∨ k = 9 ∨ k = 10 ∨ k = 11 ∨ k = 12 ∨ k = 13 ∨ k = 14 ∨ k = 15 := by omega
    rcases hc with rfl | rfl | rfl | rfl | rfl | rfl | rfl | rfl | rfl | rfl | rfl | rfl | rfl | rfl | rfl | rfl <;> rfl
  have h := h i.toNat (by omega)
  rwa [show ((i.toNat : Nat) : Int) = i by omega] at h
theorem wrap32_range (n : Int) : 0 ≤ IntKind.u32.wrap n ∧ IntKind.u32.wrap n < 4294967296 := by rw [IntKind.wrap_u32]; omega
theorem xor32_range (a b : Int) : 0 ≤ Go.bits .xor .u32 a b ∧ Go.bits .xor .u32 a b < 4294967296 := wrap32_range _
theorem and15 (x : Int) (h0 : 0 ≤ x) (h1 : x < 4294967296) : Go.bits .and .u32 x 15 = x % 16 :=
  bits_mask .u32 32 (by decide) (fun n h0 h1 => by rw [IntKind.wrap_u32]; omega) 4 (by decide) x h0 h1
theorem crcHalf_range (a : Int) : 0 ≤ crcHalf a ∧ crcHalf a < 4294967296 := xor32_range _ _
theorem crcByte_range (a x : Int) : 0 ≤ crcByte a x ∧ crcByte a x < 4294967296 := crcHalf_range _
theorem crcReg_range (l : List Int) : 0 ≤ crcReg l ∧ crcReg l < 4294967296 := by
  unfold crcReg
  have : ∀ (l : List Int) (r : Int), 0 ≤ r → r < 4294967296 → 0 ≤ l.foldl crcByte r ∧ l.foldl crcByte r < 4294967296 := by
    intro l
    induction l with
    | nil => exact fun r h0 h1 => ⟨h0, h1⟩
    | cons x l ih => exact fun r _ _ => ih _ (crcByte_range r x).1 (crcByte_range r x).2
  exact this l _ (by decide) (by decide)
theorem crcReg_snoc (l : List Int) (k : Nat) (h : k < l.length) : crcReg (l.take (k + 1)) = crcByte (crcReg (l.take k)) (rd l k) := by
  unfold crcReg
  rw [List.take_succ_eq_append_getElem h, List.foldl_append]
  simp [rd, h]
def TabAt (B : Nat) (w : World) : Prop := w.heap[B]? = some (.cells halfV 90 (0, 0))
theorem TabAt.cell {B : Nat} {w : World} (h : TabAt B w) (i : Int) (h0 : 0 ≤ i) (h1 : i < 16) : w.cell? ⟨B, i.toNat, none⟩ = some (.int .u32 (rd halfT i)) := by
  rw [blk_cell h]; exact halfV_get i h0 h1
set_option maxHeartbeats 8000000 in
set_option maxRecDepth 100000 in
theorem sum_any (A0 : Option Addr) (c0 : Nat) (l : List Int) (w : World) (hr : Kd.C (Kd.int .u8) w A0 l.length l) (hc : l.length ≤ c0) (hwf : ∀ x ∈ l, 0 ≤ x ∧ x ≤ 255) :
    Calls Tryd.prog 46 #[.slice A0 l.length c0] w fun e w' => e = .returned (.int .i64 (crcSum l)) ∧ Below w.heap.size w w' := by
  have hu := Tryd.underlying90
  have HR := Aside0.mk hr
  have hlen := hr.2.1
  have HW := Aside0.mk hwf
  clear hr hwf
  go_enter Tryd.func46, Tryd.ntmps46
  go_wp2_with (go_at_call 54; refine (halves_any _).mono ?_; rintro e w1 ⟨rfl, hb⟩; have HB := Aside0.mk hb; have HR1 := Aside0.mk (Kd.C_below HR.out hb); clear hb HR; unfold halfV halfT; simp only [List.map_cons, List.map_nil])
  go_loopg [4, 10] l.length (fun g v4 v10 wx => ∃ k : Nat, k + g = l.length ∧ v10 = .int .i64 k ∧ v4 = .int .u32 (crcReg (l.take k)) ∧ Aside0 (TabAt w1.heap.size wx) ∧ Aside0 (Kd.C (Kd.int .u8) wx A0 l.length l) ∧ Aside0 (Below w.heap.size w wx))
  case atStart => exact ⟨0, by omega, rfl, rfl, ⟨blk_new w1 _⟩, ⟨Kd.C_below HR1.out (below_alloc (Below.refl _ _) _)⟩, ⟨HB.out.alloc HB.out.size _⟩⟩
  case round =>
    clear HR1 HB
    obtain ⟨k, hkg, rfl, rfl, HT, HR, HB⟩ := hrel
    by_cases hk : k < l.length
    · obtain ⟨ad, hA, hcell⟩ := Kd.at_int HR.out (k : Int) (by omega) (by omega)
      rw [Int.toNat_natCast] at hcell
      have hx := HW.out (rd l k) (by unfold rd; simp [hk])
      have hsn := crcReg_snoc l k hk
      obtain ⟨reg, hreg⟩ : ∃ reg, crcReg (l.take k) = reg := ⟨_, rfl⟩
      have hrr := crcReg_range (l.take k)
      rw [hreg] at hsn hrr
      rw [hreg]
      obtain ⟨x, hxe⟩ : ∃ x, rd l k = x := ⟨_, rfl⟩
      rw [hxe] at hsn hcell hx
      have HS := Aside0.mk hsn
      subst hA
      clear hsn hreg hxe
      have hx0 := hx.1
      have hx1 := hx.2
      obtain ⟨r1, hr1⟩ : ∃ r, Go.bits .xor .u32 reg x = r := ⟨_, rfl⟩
      have hr1r := xor32_range reg x
      rw [hr1] at hr1r
      have ha1 := and15 r1 hr1r.1 hr1r.2
      have hc1 := HT.out.cell (r1 % 16) (by omega) (by omega)
      obtain ⟨r2, hr2⟩ : ∃ r, Go.bits .xor .u32 (r1 / 16) (rd halfT (r1 % 16)) = r := ⟨_, rfl⟩
      have hr2r := xor32_range (r1 / 16) (rd halfT (r1 % 16))
      rw [hr2] at hr2r
      have ha2 := and15 r2 hr2r.1 hr2r.2
      have hc2 := HT.out.cell (r2 % 16) (by omega) (by omega)
      have b1 := hr1r.1; have b2 := hr1r.2; have b3 := hr2r.1; have b4 := hr2r.2
      have hd1 : decide ((k : Int) < (l.length : Int)) = true := decide_eq_true (by omega)
      clear hx hr1r hr2r
      go_wp2
      go_roundg (l.length - (k + 1))
      case measure => omega
      case rel => exact ⟨k + 1, by omega, by first | rfl | simp, by rw [HS.out, crcByte, hr1]; unfold crcHalf; rw [ha1, hr2, ha2], HT, HR, HB⟩
    · have hd0 : decide ((k : Int) < (l.length : Int)) = false := decide_eq_false (by omega)
      have hkl : k = l.length := by omega
      have hrr := crcReg_range (l.take k)
      have hE : l.take k = l := by rw [hkl]; exact List.take_length
      rw [hE] at hrr
      rw [hE]
      obtain ⟨reg, hreg⟩ : ∃ reg, crcReg l = reg := ⟨_, rfl⟩
      rw [hreg] at hrr
      rw [hreg]
      have b1 := hrr.1
      have b2 := hrr.2
      have HG := Aside0.mk hreg
      clear hreg hE hkl hrr
      have hs32 : IntKind.u32.signed = false := rfl
      have hw := xor32_range IntKind.u32.max reg
      have hw2 : wrap64 (Go.bits .xor .u32 IntKind.u32.max reg) = Go.bits .xor .u32 IntKind.u32.max reg := by unfold wrap64; omega
      clear hw
      go_wp2
      go_ret
      exact ⟨by unfold crcSum; rw [HG.out]; first | rfl | exact congrArg (fun n => Ending.returned (.int .i64 n)) hw2, HB.out⟩
end Go.Proofs.YtkfikinjlbbibaaDoor
