/- sync.Once.Do, not yet done and its lock free (turned from the worked toy 'lazy'): the function is called once, in between the lock is held; behind it 'done' is stored and the lock let go. -/
import Derived.Test.YtjlgfcgdagikgaaDoorRows
import Derived.Below
import Derived.ProofKit
import Derived.WalkKit
import Derived.Tactics
import Derived.Tactics2
import Derived.Defers
import Derived.Laws.Pointers
import Derived.Laws.LoneSync
import Derived.RegionTactic
import Derived.RegionCalls
import Derived.ChangeAlike
namespace Go.Proofs.YtjlgfcgdagikgaaDoor.once
set_option linter.unusedVariables false

theorem disable (w : World) : (callFunc 45 #[]).run Tryd.prog w = .ok (.value (.tuple #[])) w := run_call_mark0 Tryd.func45 (by kernel_rfl) (by kernel_rfl) (by kernel_rfl) .disable (by kernel_rfl) w
theorem enable (w : World) : (callFunc 47 #[]).run Tryd.prog w = .ok (.value (.tuple #[])) w := run_call_mark0 Tryd.func47 (by kernel_rfl) (by kernel_rfl) (by kernel_rfl) .enable (by kernel_rfl) w
theorem acquire (a : Addr) (w : World) : (callFunc 48 #[.pointer (some a)]).run Tryd.prog w = .ok (.value (.tuple #[])) w := run_call_marked Tryd.func48 (by kernel_rfl) (by kernel_rfl) (by kernel_rfl) .acquire (by kernel_rfl) a w
theorem releaseMerge (a : Addr) (w : World) : (callFunc 50 #[.pointer (some a)]).run Tryd.prog w = .ok (.value (.tuple #[])) w := run_call_marked Tryd.func50 (by kernel_rfl) (by kernel_rfl) (by kernel_rfl) .releaseMerge (by kernel_rfl) a w

/-- '(*sync/atomic.Bool).Store(true)', entered as a deferred call: the cell holds 1. -/
theorem store_deferred (a : Addr) (x : Value) (u : FrameMode) (w : World) (hc : w.cell? a = some x) (hz : w.frozen? a = false) :
    CallsD Tryd.prog 29 #[.pointer (some a), .bool true] u w fun e u' w' => u' = u ∧ (e = .returned (.tuple #[]) ∧ w' = w.drew.setCell a (.int .u32 1)) := by
  have hc' : w.drew.cell? a = some x := by go_simp
  have hz' : w.drew.frozen? a = false := by go_simp
  have hst := run_call_store (P := Tryd.prog) Tryd.func39 (by kernel_rfl) (by kernel_rfl) (by kernel_rfl) (by kernel_rfl) (k := .u32) (y := 1) hc' hz'
  go_enter_d Tryd.func29, Tryd.ntmps29
  go_wp2
  go_region_calls
  all_goals (go_end0; exact ⟨rfl, rfl⟩)

set_option maxRecDepth 100000 in
/-- '(*sync.Mutex).Unlock', entered as a deferred call, the lock held and nobody waiting. -/
theorem unlock_deferred (a : Addr) (u : FrameMode) (w : World) (hc : w.cell? a = some (.int .i32 1)) (hz : w.frozen? a = false) :
    CallsD Tryd.prog 28 #[.pointer (some a)] u w fun e u' w' => u' = u ∧ (e = .returned (.tuple #[]) ∧ w' = w.setCell a (.int .i32 0)) := by
  have hd := disable
  have he := enable
  have hr := releaseMerge
  have hadd := run_call_add (P := Tryd.prog) Tryd.func51 (by kernel_rfl) (by kernel_rfl) (by kernel_rfl) .i32 (by kernel_rfl) (y := -1) (s := 0) hc hz (by simp [go_sem]; rfl)
  have hcv := run_convert_to_unsafe (P := Tryd.prog) (src := 103) (dst := 107) Tryd.underlying103 Tryd.underlying107 (by kernel_rfl) hc
  go_enter_d Tryd.func28, Tryd.ntmps28
  go_wp2
  go_end0
  go_wp2
  go_end0
  exact ⟨rfl, rfl⟩

set_option maxRecDepth 100000 in
/-- '(*sync.Mutex).Lock', the lock free. -/
theorem lock_free (a : Addr) (w : World) (hc : w.cell? a = some (.int .i32 0)) (hz : w.frozen? a = false) :
    Calls Tryd.prog 27 #[.pointer (some a)] w fun e w' => e = .returned (.tuple #[]) ∧ w' = w.setCell a (.int .i32 1) := by
  have hd := disable
  have he := enable
  have ha := acquire
  have hcas := run_call_cas_hit (P := Tryd.prog) Tryd.func46 (by kernel_rfl) (by kernel_rfl) (by kernel_rfl) .i32 (by kernel_rfl) (y := 1) hc hz
  have hc' : (w.setCell a (.int .i32 1)).cell? a = some (.int .i32 1) := World.cell?_setCell_same w a _ hc
  have hcv := run_convert_to_unsafe (P := Tryd.prog) (src := 103) (dst := 107) Tryd.underlying103 Tryd.underlying107 (by kernel_rfl) hc'
  go_enter Tryd.func27, Tryd.ntmps27
  go_wp2
  first | go_end0 | (simp only [Exit.inBlock, Exit.then]; refine bodyPost_ret (results_none rfl _ _ _) rfl ?_) | refine bodyPost_ret (results_none rfl _ _ _) rfl ?_
  go_wp2
  go_end0
  exact ⟨rfl, rfl⟩

set_option maxRecDepth 100000 in
set_option maxHeartbeats 1600000 in
/-- '(*sync.Once).doSlow', not yet done, the lock free. -/
theorem slow_any (r : Nat) (Φ : World → Prop) (w : World)
    (h0 : w.cell? ⟨r, 0, none⟩ = some (.int .u32 0)) (h1 : w.cell? ⟨r, 1, none⟩ = some (.int .i32 0)) (f1 : w.frozen? ⟨r, 1, none⟩ = false)
    (hcall : Calls Tryd.prog 17 #[.pointer (some ⟨r, 0, none⟩)] (w.setCell ⟨r, 1, none⟩ (.int .i32 1)) fun e w' => e = .returned (.tuple #[]) ∧ Φ w')
    (hΦ : ∀ w', Φ w' → w'.cell? ⟨r, 0, none⟩ = some (.int .u32 0) ∧ w'.frozen? ⟨r, 0, none⟩ = false ∧ w'.cell? ⟨r, 1, none⟩ = some (.int .i32 1) ∧ w'.frozen? ⟨r, 1, none⟩ = false) :
    Calls Tryd.prog 20 #[.pointer (some ⟨r, 0, none⟩), .func (.func 17) #[.pointer (some ⟨r, 0, none⟩)] #[]] w fun e w' => e = .returned (.tuple #[]) ∧
      ∃ w2, Φ w2 ∧ w' = (w2.drew.setCell ⟨r, 0, none⟩ (.int .u32 1)).setCell ⟨r, 1, none⟩ (.int .i32 0) := by
  have hl := run_call_load (P := Tryd.prog) Tryd.func26 (by kernel_rfl) (by kernel_rfl) (by kernel_rfl) .u32 (by kernel_rfl) (w := w.setCell ⟨r, 1, none⟩ (.int .i32 1)) (a := ⟨r, 0, none⟩) (x := 0) ((World.cell?_setCell_other _ ⟨r, 1, none⟩ ⟨r, 0, none⟩ _ (by simp)).trans h0)
  have hnot : ∀ (x : Bool) (w : World), (Op.unary .not (.bool x)).run Tryd.prog w = .ok (.bool (!x)) w := fun _ _ => rfl
  go_enter_defers Tryd.func20, Tryd.ntmps20
  go_wp2_with (first | (go_at_call 27; refine (lock_free ⟨r, 1, none⟩ _ (by go_simp) (by go_simp)).mono ?_; rintro e w' ⟨rfl, rfl⟩) | (go_at_call 19; go_in) | (go_at_call 17; refine hcall.mono ?_; rintro e w2 ⟨rfl, hw2⟩))
  go_wp2
  obtain ⟨c0, z0, c1, z1⟩ := hΦ _ hw2
  -- two deferred calls, the last laid first
  refine leaves_cons (f := 29) (args := #[.pointer (some ⟨r, 0, none⟩), .bool true]) (by simp) (by simp [go_sem]) ?_
  refine (store_deferred ⟨r, 0, none⟩ (.int .u32 0) .returning _ c0 z0).mono ?_
  rintro e u' w'' ⟨rfl, rfl, rfl⟩
  refine leaves_cons (f := 28) (args := #[.pointer (some ⟨r, 1, none⟩)]) (by simp [settle]) (by simp [go_sem]) ?_
  refine (unlock_deferred ⟨r, 1, none⟩ _ _ ?_ (by simp [z1])).mono ?_
  · refine (World.cell?_setCell_other _ ⟨r, 0, none⟩ ⟨r, 1, none⟩ _ (by simp)).trans ?_
    rw [World.cell?_drew]
    exact c1
  rintro e u' w'' ⟨rfl, rfl, rfl⟩
  simp [Leaves, settle, results, Tryd.results20]
  exact ⟨_, hw2, rfl⟩

set_option maxRecDepth 100000 in
set_option maxHeartbeats 1600000 in
/-- '(*sync.Once).Do', not yet done, the lock free. -/
theorem do_first (r : Nat) (Φ : World → Prop) (w : World)
    (h0 : w.cell? ⟨r, 0, none⟩ = some (.int .u32 0)) (h1 : w.cell? ⟨r, 1, none⟩ = some (.int .i32 0)) (f1 : w.frozen? ⟨r, 1, none⟩ = false)
    (hcall : Calls Tryd.prog 17 #[.pointer (some ⟨r, 0, none⟩)] (w.setCell ⟨r, 1, none⟩ (.int .i32 1)) fun e w' => e = .returned (.tuple #[]) ∧ Φ w')
    (hΦ : ∀ w', Φ w' → w'.cell? ⟨r, 0, none⟩ = some (.int .u32 0) ∧ w'.frozen? ⟨r, 0, none⟩ = false ∧ w'.cell? ⟨r, 1, none⟩ = some (.int .i32 1) ∧ w'.frozen? ⟨r, 1, none⟩ = false) :
    Calls Tryd.prog 16 #[.pointer (some ⟨r, 0, none⟩), .func (.func 17) #[.pointer (some ⟨r, 0, none⟩)] #[]] w fun e w' => e = .returned (.tuple #[]) ∧
      ∃ w2, Φ w2 ∧ w' = (w2.drew.setCell ⟨r, 0, none⟩ (.int .u32 1)).setCell ⟨r, 1, none⟩ (.int .i32 0) := by
  have hl := run_call_load (P := Tryd.prog) Tryd.func26 (by kernel_rfl) (by kernel_rfl) (by kernel_rfl) .u32 (by kernel_rfl) h0
  have hnot : ∀ (x : Bool) (w : World), (Op.unary .not (.bool x)).run Tryd.prog w = .ok (.bool (!x)) w := fun _ _ => rfl
  go_enter Tryd.func16, Tryd.ntmps16
  go_wp2_with (first | (go_at_call 20; refine (slow_any r Φ _ h0 h1 f1 hcall hΦ).mono ?_; rintro e w' ⟨rfl, w2, hw2, rfl⟩) | (go_at_call 19; go_in))
  go_end0
  exact ⟨rfl, _, hw2, rfl⟩
end Go.Proofs.YtjlgfcgdagikgaaDoor.once
