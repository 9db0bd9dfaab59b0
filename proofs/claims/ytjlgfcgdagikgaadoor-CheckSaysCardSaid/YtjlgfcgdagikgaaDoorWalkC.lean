/- CheckSays: the walk. -/
import Derived.Test.YtjlgfcgdagikgaaDoorWalkS
import Derived.Test.YtjlgfcgdagikgaaDoorSaid
namespace Go.Proofs.YtjlgfcgdagikgaaDoor.says
open Go.RowKit Go.Deep
open Go.Proofs.YtjlgfcgdagikgaaDoor.repl
open Go.Proofs.YtjlgfcgdagikgaaDoorW.PrintWords Go.Proofs.YtjlgfcgdagikgaaDoorW.PrintLast Go.Proofs.YtjlgfcgdagikgaaDoorW.PrintMore
set_option linter.unusedVariables false
set_option linter.unusedSimpArgs false

theorem noRoot : chkSay 2 0 0 0 0 = ⟨#[110, 111, 100, 101, 32, 49, 32, 105, 115, 32, 110, 111, 32, 114, 111, 111, 116]⟩ := by
  decide +kernel
theorem words_below {w w' : World} (h : Words w) (hb : Below w.heap.size w w') : Words w' := fun k hk => pw_cell_below hb (h k hk)

set_option maxRecDepth 100000 in
set_option maxHeartbeats 8000000 in
theorem check_walk (A : Option Addr) (n c : Nat) (V : Nat → Nat → Int) (w : World) (hV : Fives w A n V) (hn : n ≤ 9223372036854775807) (ht : Tabs w) (hw : Words w) :
    Calls Tryd.prog 4 #[.slice A n c] w fun e w' => e = .returned (.bool true) ∧ Below w.heap.size w w' := by
  have HT := Aside0.mk ht
  have HW := Aside0.mk hw
  have HV := Aside0.mk hV
  have HN := Aside0.mk hn
  clear ht hV hn hw
  go_enter Tryd.func4, Tryd.ntmps4
  go_wp2_with (go_at_call 7; refine (chk_say 2 0 0 0 0 (fits_small 0 (by decide)) (fits_small 0 (by decide)) (fits_small 0 (by decide)) (fits_small 0 (by decide)) _ HT.out).mono ?_; rintro e w2 ⟨rfl, hb2⟩; rw [noRoot]; have HB2 := Aside0.mk hb2; clear hb2)
  go_loopg [4, 5] n (fun g v4 _ wx => ∃ i : Nat, i + g = n ∧ v4 = .int .i64 i ∧ Aside0 (Below w.heap.size w wx))
  case atStart => exact ⟨0, by omega, rfl, HB2⟩
  case round =>
    clear HB2
    obtain ⟨i, hi, rfl, HB⟩ := hrel
    by_cases hin : i < n
    · by_cases h1000 : i < 1000
      · obtain ⟨x, hx, hc⟩ := HV.out (by omega)
        subst hx
        have q1 : (i : Int) < n := by omega
        have q2 : (i : Int) < 1000 := by omega
        obtain ⟨⟨r0, r1, r2, r3, r4⟩, f1, f2, f3, f4, _⟩ := row_five (y := x.add (i * 5)) rfl HB.out (hc i hin)
        have HF := Aside0.mk (And.intro f1 (And.intro f2 (And.intro f3 f4)))
        have HT2 := Aside0.mk (tab_below HT.out HB.out)
        have q5 : IntKind.i64.wrap ((i : Int) + 1) = i + 1 := by rw [IntKind.wrap_i64]; omega
        clear hc f1 f2 f3 f4
        go_wp2_with (first
          | (go_at_call 7; refine (chk_say (V i 0) (V i 1) (V i 2) (V i 3) (V i 4) HF.out.1 HF.out.2.1 HF.out.2.2.1 HF.out.2.2.2 _ HT2.out).mono ?_; rintro e w3 ⟨rfl, hb3⟩; have s0 := pw_cell_below hb3 r0; have s1 := pw_cell_below hb3 r1; have s2 := pw_cell_below hb3 r2; have s3 := pw_cell_below hb3 r3; have s4 := pw_cell_below hb3 r4; have HB3 := Aside0.mk (HB.out.trans (hb3.mono HB.out.size)); clear hb3)
          | (go_at_call 8; refine (said_calls (V i 0) (V i 1) (V i 2) (V i 3) (V i 4) HF.out.1 HF.out.2.1 HF.out.2.2.1 HF.out.2.2.2 _ (words_below HW.out HB3.out)).mono ?_; rintro e w4 ⟨rfl, hb4⟩; have HB4 := Aside0.mk (HB3.out.trans (hb4.mono HB3.out.size)); clear hb4))
        go_roundg (n - (i + 1))
        case measure => omega
        case rel => exact ⟨i + 1, by omega, by simp, HB4⟩
      · have q1 : (i : Int) < n := by omega
        have q2 : decide ((i : Int) < 1000) = false := decide_eq_false (by omega)
        clear h1000
        go_wp2_with (fail)
        go_ret
        exact ⟨rfl, HB.out⟩
    · obtain rfl : i = n := by omega
      go_wp2_with (fail)
      go_ret
      exact ⟨rfl, HB.out⟩
end Go.Proofs.YtjlgfcgdagikgaaDoor.says
