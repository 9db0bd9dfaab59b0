/- (*strings.Replacer).build, at four old strings of one byte each. -/
import Derived.Test.YtjlgfcgdagikgaaDoorOnce
import Derived.Test.YtjlgfcgdagikgaaDoorWMore
import Derived.Test.YtjlgfcgdagikgaaDoorWLast
import Derived.Test.YtjlgfcgdagikgaaDoorWWords
import Derived.Deep.LoopGhost
import Derived.Deep.DeepCutAuto
import Derived.Deep.MidRow
import Derived.Deep.WholeRow
import Derived.KernelRfl
import Derived.OwnWalk
namespace Go.Proofs.YtjlgfcgdagikgaaDoor.repl
open Go.RowKit
open Go.Proofs.YtjlgfcgdagikgaaDoorW.PrintWords Go.Proofs.YtjlgfcgdagikgaaDoorW.PrintLast Go.Proofs.YtjlgfcgdagikgaaDoorW.PrintMore
set_option linter.unusedVariables false

/-- The row of old and new strings. -/
def Old (w : World) (o : Nat) (kc : Nat → UInt8) (kv : Nat → ByteArray) : Prop :=
  ∀ m, m < 4 → w.cell? ⟨o, 2 * m, none⟩ = some (.string ⟨#[kc m]⟩) ∧ w.cell? ⟨o, 2 * m + 1, none⟩ = some (.string (kv m))

/-- A row of 256 cells, each with what f says. -/
def Tab (w : World) (b : Nat) (f : Nat → Value) : Prop := ∀ c, c < 256 → w.cell? ⟨b, c, none⟩ = some (f c) ∧ w.frozen? ⟨b, c, none⟩ = false
def upd (f : Nat → Value) (c : Nat) (v : Value) : Nat → Value := fun x => if x = c then v else f x
theorem Tab.set {w : World} {b : Nat} {f : Nat → Value} (h : Tab w b f) (c : Nat) (v : Value) (hc : c < 256) : Tab (w.setCell ⟨b, c, none⟩ v) b (upd f c v) := by
  intro x hx
  refine ⟨?_, by rw [World.frozen?_setCell]; exact (h x hx).2⟩
  unfold upd
  by_cases e : x = c
  · subst e
    rw [if_pos rfl]
    exact World.cell?_setCell_same _ _ _ (h x hx).1
  · rw [if_neg e, World.cell?_setCell_other _ _ _ _ (fun h => by injection h; omega)]
    exact (h x hx).1
theorem Tab.congr {w : World} {b : Nat} {f g : Nat → Value} (h : Tab w b f) (e : ∀ c, c < 256 → f c = g c) : Tab w b g := fun c hc => by rw [← e c hc]; exact h c hc
theorem Tab.far {w : World} {b : Nat} {f : Nat → Value} (h : Tab w b f) (a : Addr) (v : Value) (hc : a.block ≠ b) : Tab (w.setCell a v) b f := fun c hx => by
  rw [World.frozen?_setCell, World.cell?_setCell_other _ _ _ _ (fun e => hc (by rw [e]))]
  exact h c hx
theorem zero75 : Tryd.zeroCells75 = Array.replicate 256 (.int .u8 0) := by kernel_rfl
theorem zeros75 (c : Nat) (hc : c < 256) : Tryd.zeroCells75[c]? = some (.int .u8 0) := by
  rw [zero75, Array.getElem?_replicate, if_pos hc]

/-- the table of bytes: first each byte itself, then the new ones from behind -/
def bytesF (kc nb : Nat → UInt8) : Nat → (Nat → Value)
  | 0 => fun c => .int .u8 c
  | d + 1 => upd (bytesF kc nb d) (kc (3 - d)).toNat (.int .u8 (nb (3 - d)).toNat)

theorem tab_new (w : World) : Tab (w.alloc (.cells Tryd.zeroCells75 75)) w.heap.size (fun _ => .int .u8 0) := by
  intro c hc
  have h := heap_alloc_last w (.cells Tryd.zeroCells75 75)
  refine ⟨by rw [cell_of_row _ _ c _ 75 (0, 0) h]; exact zeros75 c hc, ?_⟩
  unfold World.frozen?
  rw [h]
  simp

set_option maxHeartbeats 4000000 in
set_option maxRecDepth 100000 in
theorem build_bytes (r o cap : Nat) (kc : Nat → UInt8) (nb : Nat → UInt8) (w : World) (hr : w.cell? ⟨r, 4, none⟩ = some (.slice (some ⟨o, 0, none⟩) 8 cap))
    (ho : Old w o kc (fun m => ⟨#[nb m]⟩)) (hol : o < w.heap.size) :
    Calls Tryd.prog 21 #[.pointer (some ⟨r, 0, none⟩)] w fun e w' => ∃ b, e = .returned (.iface 76 (.pointer (some ⟨b, 0, none⟩))) ∧ w.heap.size ≤ b ∧ Tab w' b (bytesF kc nb 4) ∧ Below w.heap.size w w' := by
  have HO := Aside0.mk ho
  have HOL := Aside0.mk hol
  clear ho hol
  go_enter Tryd.func21, Tryd.ntmps21
  go_wp2_with (fail)
  go_loopg [4, 5] 4 (fun g v4 v5 wx => ∃ m : Nat, m + g = 4 ∧ v5 = .int .i64 (2 * m : Nat) ∧ v4 = .bool true ∧ wx = w)
  case atStart => exact ⟨0, rfl, rfl, rfl, rfl⟩
  case round =>
    obtain ⟨m, hm, rfl, rfl, rfl⟩ := hrel
    by_cases hm4 : m < 4
    · obtain ⟨hx, hy⟩ := HO.out m hm4
      have q1 : ((2 * m : Nat) : Int) < 8 := by omega
      have q2 : ((2 * m : Nat) : Int) + 1 < 8 := by omega
      go_wp2_with (fail)
      go_roundg (4 - (m + 1))
      case measure => omega
      case rel => exact ⟨m + 1, by omega, by simp; omega, rfl, rfl⟩
    · obtain rfl : m = 4 := by omega
      have hst := run_storeCells_new (P := Tryd.prog) wr 75 Tryd.zeroCells75 Tryd.zeroCells75 (by kernel_rfl) rfl (by rw [zero75]; decide +kernel)
      go_wp2_with (fail)
      obtain ⟨wo, rfl⟩ : ∃ wo, wo = wr := ⟨_, rfl⟩
      have hT0 := Aside0.mk (tab_new wo)
      have hB0 := Aside0.mk (show Below wo.heap.size wo (wo.alloc (.cells Tryd.zeroCells75 75)) from below_alloc (Below.refl _ wo) _)
      clear hst
      go_loopg [7, 61] 256 (fun g _ v61 wx => ∃ i : Nat, i + g = 256 ∧ v61 = .int .i64 i ∧ Aside0 (Tab wx wo.heap.size (fun c => if c < i then .int .u8 c else .int .u8 0)) ∧ Aside0 (Below wo.heap.size wo wx))
      case atStart => exact ⟨0, rfl, rfl, ⟨hT0.out.congr (fun c _ => by simp)⟩, hB0⟩
      case round =>
        clear hT0 hB0
        obtain ⟨i, hi, rfl, HT, HB⟩ := hrel
        by_cases hi4 : i < 256
        · obtain ⟨hx, hz⟩ := HT.out i hi4
          have q1 : (i : Int) < 256 := by omega
          have q2 : IntKind.u8.wrap (i : Int) = i := by rw [IntKind.wrap_u8]; omega
          go_wp2_with (fail)
          go_roundg (256 - (i + 1))
          case measure => omega
          case rel => exact ⟨i + 1, by omega, by simp, ⟨(HT.out.set i (.int .u8 i) hi4).congr (fun c _ => by unfold upd; dsimp only; by_cases e : c = i; (rw [if_pos e, if_pos (by omega), e]); (rw [if_neg e]; by_cases e2 : c < i; (rw [if_pos e2, if_pos (by omega)]); (rw [if_neg e2, if_neg (by omega)])))⟩, ⟨HB.out.setCell (Nat.le_refl _) _⟩⟩
        · obtain rfl : i = 256 := by omega
          have HT1 := Aside0.mk (HT.out.congr (g := bytesF kc nb 0) (fun c hc => by simp [bytesF, hc]))
          clear HT hi4 hi
          go_wp2_with (fail)
          go_loopg [8, 9, 10] 4 (fun g v8 _ _ wx => ∃ (d : Nat) (i : Int), d + g = 4 ∧ i = 6 - 2 * (d : Int) ∧ v8 = .int .i64 i ∧ Aside0 (Tab wx wo.heap.size (bytesF kc nb d)) ∧ Aside0 (Below wo.heap.size wo wx))
          case atStart => exact ⟨0, 6, rfl, rfl, rfl, HT1, HB⟩
          case round =>
            clear HT1 HB
            obtain ⟨d, i, hd, hi, rfl, HT, HB⟩ := hrel
            by_cases hd4 : d < 4
            · obtain ⟨m, hm⟩ : ∃ m, m = 3 - d := ⟨_, rfl⟩
              obtain rfl : i = ((2 * m : Nat) : Int) := by omega
              obtain ⟨hx, hy⟩ := HO.out m (by omega)
              have hx := pw_cell_below HB.out hx
              have hy := pw_cell_below HB.out hy
              obtain ⟨hc, hz⟩ := HT.out (kc m).toNat (kc m).toNat_lt
              have q0 : (0 : Int) ≤ ((2 * m : Nat) : Int) := by omega
              have q1 : ((2 * m : Nat) : Int) < 8 := by omega
              have q2 : ((2 * m : Nat) : Int) + 1 < 8 := by omega
              have q3 : (((kc m).toNat : Nat) : Int) < 256 := by have := (kc m).toNat_lt; omega
              have q4 : (kc m).toNat < 256 := (kc m).toNat_lt
              have q5 : ∀ h : 0 < (⟨#[kc m]⟩ : ByteArray).size, (⟨#[kc m]⟩ : ByteArray)[0]'h = kc m := fun _ => rfl
              have q6 : ∀ h : 0 < (⟨#[nb m]⟩ : ByteArray).size, (⟨#[nb m]⟩ : ByteArray)[0]'h = nb m := fun _ => rfl
              have HM := Aside0.mk hm
              clear hm hi
              go_wp2_with (fail)
              go_roundg (4 - (d + 1))
              case measure => omega
              case rel => exact ⟨d + 1, 2 * (m : Int) - 2, by omega, by have := HM.out; omega, by first | rfl | simp, ⟨by have := HT.out.set (kc m).toNat (.int .u8 (nb m).toNat) q4; rw [HM.out] at this ⊢; exact this⟩, ⟨HB.out.setCell (Nat.le_refl _) _⟩⟩
            · obtain rfl : d = 4 := by omega
              obtain rfl : i = -2 := by omega
              go_wp2_with (fail)
              go_ret
              exact ⟨_, rfl, Nat.le_refl _, HT.out, HB.out⟩
end Go.Proofs.YtjlgfcgdagikgaaDoor.repl
