/-
  NARROWER THAN 'FOR EVERY INPUT', by the rows' own cells (each row's printed sentence says how): PatchPacks: laid · PatchLists: laid · PatchDiffs: laid · PatchOne: laid · PatchApplies: laid · PatchForced: laid · PatchUndone: laid.
  DERIVED. THE GIVEN ROWS OF THIS SEAT. 7 by the template 'for every input the law returns true; each argument reads behind the call as it read before'; 0 by the template 'total and deterministic' (their statements: YtknihldkhedpkaaGreatDoorTotals.lean).
  GIVEN WITH THE SEED: the statements are not yours to turn. If you find one false, say at which input.
  Laid BY PROGRAM, IN A SANDBOX (cutbox-rows.mjs): the forced cells as the released guide's own fill.sh prints them over the translation 960f1783479b5004… (all of the seat's roots in one cut). By AI agents, Wed Nov 11 2026. No macro, syntax, notation, axiom, sorry.
-/
import Derived.Test.YtknihldkhedpkaaGreatDoorChecked
import GoSem.PinnedTables
import GoSem.Claim
import GoSem.ClaimJoined
import GoSem.ClaimMapViews
import Derived.JoinedTies
import Derived.KernelRfl
namespace Go.Proofs.YtknihldkhedpkaaGreatDoor
/- THE CELL 'sum', in the pinned program and in every row, IS THE sha256 OF THE DUMP (.gsa) THAT YtknihldkhedpkaaGreatDoorProg.lean LOADS. Nothing in Lean hashes anything: it is a label: what it is worth is what the hold of that sum in a sandbox is worth. -/
noncomputable def Tryz.pinned : Pinned := { name := "ytknihldkhedpkaagreatdoor", sum := "960f1783479b5004897476720e04301aa6b289920ed0ceeadaf3c17df61a70d6", checked := Tryz.checked }
namespace Rows
def none {H : Type} : Left H := { results := [], args := [] }

/- WHAT THE LISTED PACKAGE-LEVEL VARIABLES READ AS WHEN THE CALL BEGINS. Each datum BY PROGRAM (the guide's laid-datum.mjs) off the statement by which the dump's own 'gosem.cut.vars' lays the variable. In a bare row this is a premise. The card (YtknihldkhedpkaaGreatDoorCards.lean) ties it to the program's text. -/
def laid_unicode_utf8_acceptRanges {H : Type} : DataW H := .agg [.agg [.lit (.int .u8 128), .lit (.int .u8 191)], .agg [.lit (.int .u8 160), .lit (.int .u8 191)], .agg [.lit (.int .u8 128), .lit (.int .u8 159)], .agg [.lit (.int .u8 144), .lit (.int .u8 191)], .agg [.lit (.int .u8 128), .lit (.int .u8 143)], .agg [.lit (.int .u8 0), .lit (.int .u8 0)], .agg [.lit (.int .u8 0), .lit (.int .u8 0)], .agg [.lit (.int .u8 0), .lit (.int .u8 0)], .agg [.lit (.int .u8 0), .lit (.int .u8 0)], .agg [.lit (.int .u8 0), .lit (.int .u8 0)], .agg [.lit (.int .u8 0), .lit (.int .u8 0)], .agg [.lit (.int .u8 0), .lit (.int .u8 0)], .agg [.lit (.int .u8 0), .lit (.int .u8 0)], .agg [.lit (.int .u8 0), .lit (.int .u8 0)], .agg [.lit (.int .u8 0), .lit (.int .u8 0)], .agg [.lit (.int .u8 0), .lit (.int .u8 0)]]
/-- One of Go's own tables, pinned by name: the form's constant. -/
def laid_unicode_utf8_first : DataW Unit := Go.Pinned.utf8First

/-- 'vellumlaw18.PatchPacks': WHATEVER THE INPUT: true; the input reads as it did. -/
def patchPacksSpec : ChangeSpec := { name := "patchPacks", fn := fun _ => fun
  | [d1, d2, d3, d4, d5] => { results := [.lit (.bool true)], args := [d1, d2, d3, d4, d5] }
  | _ => none }
def patchPacksRow : OpenClaim := { program := "ytknihldkhedpkaagreatdoor", sum := "960f1783479b5004897476720e04301aa6b289920ed0ceeadaf3c17df61a70d6", func := "vellum/vellumlaw18.PatchPacks", spec := "patchPacks", inPlace := ["internal/bytealg.IndexByteString", "internal/bytealg.IndexString", "internal/bytealg.CountString", "internal/abi.NoEscape", "internal/bytealg.MakeNoZero"], unfollowed := true, recurses := true, named := ["unicode/utf8.first", "unicode/utf8.acceptRanges", "internal/bytealg.MaxLen"], apart := false, laid := [("unicode/utf8.acceptRanges", laid_unicode_utf8_acceptRanges), ("unicode/utf8.first", laid_unicode_utf8_first)] }
def PatchPacksSaid : Prop := patchPacksRow.holds Tryz.pinned (OpenSpec.ofChange patchPacksSpec)

/-- ITS FALSE NEIGHBOUR: 'it returns false'. Refute it at one input. -/
def patchPacksWrong : ChangeSpec := { name := "patchPacks", fn := fun _ => fun
  | [d1, d2, d3, d4, d5] => { results := [.lit (.bool false)], args := [d1, d2, d3, d4, d5] }
  | _ => none }
def PatchPacksWrongFalsely : Prop := patchPacksRow.holds Tryz.pinned (OpenSpec.ofChange patchPacksWrong)

/-- 'vellumlaw18.PatchLists': WHATEVER THE INPUT: true; the input reads as it did. -/
def patchListsSpec : ChangeSpec := { name := "patchLists", fn := fun _ => fun
  | [d1, d2, d3, d4, d5] => { results := [.lit (.bool true)], args := [d1, d2, d3, d4, d5] }
  | _ => none }
def patchListsRow : OpenClaim := { program := "ytknihldkhedpkaagreatdoor", sum := "960f1783479b5004897476720e04301aa6b289920ed0ceeadaf3c17df61a70d6", func := "vellum/vellumlaw18.PatchLists", spec := "patchLists", inPlace := ["internal/bytealg.IndexByteString", "internal/bytealg.IndexString", "internal/bytealg.CountString", "internal/abi.NoEscape", "internal/bytealg.MakeNoZero"], unfollowed := true, recurses := true, named := ["unicode/utf8.first", "unicode/utf8.acceptRanges", "internal/bytealg.MaxLen"], apart := false, laid := [("unicode/utf8.acceptRanges", laid_unicode_utf8_acceptRanges), ("unicode/utf8.first", laid_unicode_utf8_first)] }
def PatchListsSaid : Prop := patchListsRow.holds Tryz.pinned (OpenSpec.ofChange patchListsSpec)

/-- ITS FALSE NEIGHBOUR: 'it returns false'. Refute it at one input. -/
def patchListsWrong : ChangeSpec := { name := "patchLists", fn := fun _ => fun
  | [d1, d2, d3, d4, d5] => { results := [.lit (.bool false)], args := [d1, d2, d3, d4, d5] }
  | _ => none }
def PatchListsWrongFalsely : Prop := patchListsRow.holds Tryz.pinned (OpenSpec.ofChange patchListsWrong)

/-- 'vellumlaw18.PatchDiffs': WHATEVER THE INPUT: true; the input reads as it did. -/
def patchDiffsSpec : ChangeSpec := { name := "patchDiffs", fn := fun _ => fun
  | [d1, d2] => { results := [.lit (.bool true)], args := [d1, d2] }
  | _ => none }
def patchDiffsRow : OpenClaim := { program := "ytknihldkhedpkaagreatdoor", sum := "960f1783479b5004897476720e04301aa6b289920ed0ceeadaf3c17df61a70d6", func := "vellum/vellumlaw18.PatchDiffs", spec := "patchDiffs", inPlace := ["internal/bytealg.CountString", "internal/bytealg.IndexByteString", "internal/bytealg.IndexString", "internal/abi.NoEscape", "internal/bytealg.MakeNoZero"], unfollowed := true, recurses := true, named := ["unicode/utf8.first", "unicode/utf8.acceptRanges", "internal/bytealg.MaxLen"], apart := false, laid := [("unicode/utf8.acceptRanges", laid_unicode_utf8_acceptRanges), ("unicode/utf8.first", laid_unicode_utf8_first)] }
def PatchDiffsSaid : Prop := patchDiffsRow.holds Tryz.pinned (OpenSpec.ofChange patchDiffsSpec)

/-- ITS FALSE NEIGHBOUR: 'it returns false'. Refute it at one input. -/
def patchDiffsWrong : ChangeSpec := { name := "patchDiffs", fn := fun _ => fun
  | [d1, d2] => { results := [.lit (.bool false)], args := [d1, d2] }
  | _ => none }
def PatchDiffsWrongFalsely : Prop := patchDiffsRow.holds Tryz.pinned (OpenSpec.ofChange patchDiffsWrong)

/-- 'vellumlaw18.PatchOne': WHATEVER THE INPUT: true; the input reads as it did. -/
def patchOneSpec : ChangeSpec := { name := "patchOne", fn := fun _ => fun
  | [d1, d2, d3] => { results := [.lit (.bool true)], args := [d1, d2, d3] }
  | _ => none }
def patchOneRow : OpenClaim := { program := "ytknihldkhedpkaagreatdoor", sum := "960f1783479b5004897476720e04301aa6b289920ed0ceeadaf3c17df61a70d6", func := "vellum/vellumlaw18.PatchOne", spec := "patchOne", inPlace := ["internal/bytealg.CountString", "internal/bytealg.IndexByteString", "internal/bytealg.IndexString", "internal/abi.NoEscape", "internal/bytealg.MakeNoZero"], unfollowed := true, recurses := true, named := ["unicode/utf8.first", "unicode/utf8.acceptRanges", "internal/bytealg.MaxLen"], apart := false, laid := [("unicode/utf8.acceptRanges", laid_unicode_utf8_acceptRanges), ("unicode/utf8.first", laid_unicode_utf8_first)] }
def PatchOneSaid : Prop := patchOneRow.holds Tryz.pinned (OpenSpec.ofChange patchOneSpec)

/-- ITS FALSE NEIGHBOUR: 'it returns false'. Refute it at one input. -/
def patchOneWrong : ChangeSpec := { name := "patchOne", fn := fun _ => fun
  | [d1, d2, d3] => { results := [.lit (.bool false)], args := [d1, d2, d3] }
  | _ => none }
def PatchOneWrongFalsely : Prop := patchOneRow.holds Tryz.pinned (OpenSpec.ofChange patchOneWrong)

/-- 'vellumlaw18.PatchApplies': WHATEVER THE INPUT: true; the input reads as it did. -/
def patchAppliesSpec : ChangeSpec := { name := "patchApplies", fn := fun _ => fun
  | [d1, d2, d3, d4, d5] => { results := [.lit (.bool true)], args := [d1, d2, d3, d4, d5] }
  | _ => none }
def patchAppliesRow : OpenClaim := { program := "ytknihldkhedpkaagreatdoor", sum := "960f1783479b5004897476720e04301aa6b289920ed0ceeadaf3c17df61a70d6", func := "vellum/vellumlaw18.PatchApplies", spec := "patchApplies", inPlace := ["internal/bytealg.CountString", "internal/bytealg.IndexByteString", "internal/bytealg.IndexString", "internal/abi.NoEscape", "internal/bytealg.MakeNoZero"], unfollowed := true, recurses := true, named := ["unicode/utf8.first", "unicode/utf8.acceptRanges", "internal/bytealg.MaxLen"], apart := false, laid := [("unicode/utf8.acceptRanges", laid_unicode_utf8_acceptRanges), ("unicode/utf8.first", laid_unicode_utf8_first)] }
def PatchAppliesSaid : Prop := patchAppliesRow.holds Tryz.pinned (OpenSpec.ofChange patchAppliesSpec)

/-- ITS FALSE NEIGHBOUR: 'it returns false'. Refute it at one input. -/
def patchAppliesWrong : ChangeSpec := { name := "patchApplies", fn := fun _ => fun
  | [d1, d2, d3, d4, d5] => { results := [.lit (.bool false)], args := [d1, d2, d3, d4, d5] }
  | _ => none }
def PatchAppliesWrongFalsely : Prop := patchAppliesRow.holds Tryz.pinned (OpenSpec.ofChange patchAppliesWrong)

/-- 'vellumlaw18.PatchForced': WHATEVER THE INPUT: true; the input reads as it did. -/
def patchForcedSpec : ChangeSpec := { name := "patchForced", fn := fun _ => fun
  | [d1, d2, d3, d4, d5, d6] => { results := [.lit (.bool true)], args := [d1, d2, d3, d4, d5, d6] }
  | _ => none }
def patchForcedRow : OpenClaim := { program := "ytknihldkhedpkaagreatdoor", sum := "960f1783479b5004897476720e04301aa6b289920ed0ceeadaf3c17df61a70d6", func := "vellum/vellumlaw18.PatchForced", spec := "patchForced", inPlace := ["internal/bytealg.CountString", "internal/bytealg.IndexByteString", "internal/bytealg.IndexString", "internal/abi.NoEscape", "internal/bytealg.MakeNoZero"], unfollowed := true, recurses := true, named := ["unicode/utf8.first", "unicode/utf8.acceptRanges", "internal/bytealg.MaxLen"], apart := false, laid := [("unicode/utf8.acceptRanges", laid_unicode_utf8_acceptRanges), ("unicode/utf8.first", laid_unicode_utf8_first)] }
def PatchForcedSaid : Prop := patchForcedRow.holds Tryz.pinned (OpenSpec.ofChange patchForcedSpec)

/-- ITS FALSE NEIGHBOUR: 'it returns false'. Refute it at one input. -/
def patchForcedWrong : ChangeSpec := { name := "patchForced", fn := fun _ => fun
  | [d1, d2, d3, d4, d5, d6] => { results := [.lit (.bool false)], args := [d1, d2, d3, d4, d5, d6] }
  | _ => none }
def PatchForcedWrongFalsely : Prop := patchForcedRow.holds Tryz.pinned (OpenSpec.ofChange patchForcedWrong)

/-- 'vellumlaw18.PatchUndone': WHATEVER THE INPUT: true; the input reads as it did. -/
def patchUndoneSpec : ChangeSpec := { name := "patchUndone", fn := fun _ => fun
  | [d1, d2, d3] => { results := [.lit (.bool true)], args := [d1, d2, d3] }
  | _ => none }
def patchUndoneRow : OpenClaim := { program := "ytknihldkhedpkaagreatdoor", sum := "960f1783479b5004897476720e04301aa6b289920ed0ceeadaf3c17df61a70d6", func := "vellum/vellumlaw18.PatchUndone", spec := "patchUndone", inPlace := ["internal/bytealg.CountString", "internal/bytealg.IndexByteString", "internal/bytealg.IndexString", "internal/abi.NoEscape", "internal/bytealg.MakeNoZero"], unfollowed := true, recurses := true, named := ["unicode/utf8.first", "unicode/utf8.acceptRanges", "internal/bytealg.MaxLen"], apart := false, laid := [("unicode/utf8.acceptRanges", laid_unicode_utf8_acceptRanges), ("unicode/utf8.first", laid_unicode_utf8_first)] }
def PatchUndoneSaid : Prop := patchUndoneRow.holds Tryz.pinned (OpenSpec.ofChange patchUndoneSpec)

/-- ITS FALSE NEIGHBOUR: 'it returns false'. Refute it at one input. -/
def patchUndoneWrong : ChangeSpec := { name := "patchUndone", fn := fun _ => fun
  | [d1, d2, d3] => { results := [.lit (.bool false)], args := [d1, d2, d3] }
  | _ => none }
def PatchUndoneWrongFalsely : Prop := patchUndoneRow.holds Tryz.pinned (OpenSpec.ofChange patchUndoneWrong)

/- THE SECOND FORM. 'bulk': how many values and letters a reading holds, each counted each time it is reached (what is shared counts as often as it is met; a slice's spare places count too). A statement '..UptoSaid' is the law's where the arguments, and the package variables that the reading takes, are together of bulk at most 1048576: NARROWER than '..Said'. Prove '..Said' where nothing that the law and all that it calls make is longer than what came in: it says more and counts as full. Else prove '..UptoSaid'. A law counts once. -/
mutual
def uptoBulk {H : Type} : DataW H → Nat
  | .lit (.string bytes) => bytes.length + 1
  | .lit _ => 1
  | .nil => 1
  | .ptr d => uptoBulk d + 1
  | .slice elems spare => uptoBulkAll elems + uptoBulkAll spare + 1
  | .agg parts => uptoBulkAll parts + 1
  | .iface _ d => uptoBulk d + 1
  | .map entries => uptoBulkEntries entries + 1
  | .held _ => 1
def uptoBulkAll {H : Type} : List (DataW H) → Nat
  | [] => 0
  | d :: r => uptoBulk d + uptoBulkAll r
def uptoBulkEntries {H : Type} : List (Lit × DataW H) → Nat
  | [] => 0
  | x :: r => uptoBulkEntry x + uptoBulkEntries r
def uptoBulkEntry {H : Type} : Lit × DataW H → Nat
  | (.string bytes, d) => bytes.length + uptoBulk d + 1
  | (_, d) => uptoBulk d + 1
 end
def uptoSmall : (H : Type) → List (DataW H) → Bool := fun _ ds => decide (uptoBulkAll ds ≤ 1048576)
def OpenSpec.upto (s : _root_.Go.ChangeSpec) : _root_.Go.OpenSpec := { _root_.Go.OpenSpec.ofChange s with cond := some uptoSmall }

/-- 'vellumlaw18.PatchPacks', WHERE WHAT IT READS IS OF BULK AT MOST 1048576: true; the input reads as it did. -/
def patchPacksUptoRow : OpenClaim := { program := "ytknihldkhedpkaagreatdoor", sum := "960f1783479b5004897476720e04301aa6b289920ed0ceeadaf3c17df61a70d6", func := "vellum/vellumlaw18.PatchPacks", spec := "patchPacks", inPlace := ["internal/bytealg.IndexByteString", "internal/bytealg.IndexString", "internal/bytealg.CountString", "internal/abi.NoEscape", "internal/bytealg.MakeNoZero"], unfollowed := true, recurses := true, named := ["unicode/utf8.first", "unicode/utf8.acceptRanges", "internal/bytealg.MaxLen"], apart := false, laid := [("unicode/utf8.acceptRanges", laid_unicode_utf8_acceptRanges), ("unicode/utf8.first", laid_unicode_utf8_first)], narrowed := true }
def PatchPacksUptoSaid : Prop := patchPacksUptoRow.holds Tryz.pinned (OpenSpec.upto patchPacksSpec)

/-- 'vellumlaw18.PatchLists', WHERE WHAT IT READS IS OF BULK AT MOST 1048576: true; the input reads as it did. -/
def patchListsUptoRow : OpenClaim := { program := "ytknihldkhedpkaagreatdoor", sum := "960f1783479b5004897476720e04301aa6b289920ed0ceeadaf3c17df61a70d6", func := "vellum/vellumlaw18.PatchLists", spec := "patchLists", inPlace := ["internal/bytealg.IndexByteString", "internal/bytealg.IndexString", "internal/bytealg.CountString", "internal/abi.NoEscape", "internal/bytealg.MakeNoZero"], unfollowed := true, recurses := true, named := ["unicode/utf8.first", "unicode/utf8.acceptRanges", "internal/bytealg.MaxLen"], apart := false, laid := [("unicode/utf8.acceptRanges", laid_unicode_utf8_acceptRanges), ("unicode/utf8.first", laid_unicode_utf8_first)], narrowed := true }
def PatchListsUptoSaid : Prop := patchListsUptoRow.holds Tryz.pinned (OpenSpec.upto patchListsSpec)

/-- 'vellumlaw18.PatchDiffs', WHERE WHAT IT READS IS OF BULK AT MOST 1048576: true; the input reads as it did. -/
def patchDiffsUptoRow : OpenClaim := { program := "ytknihldkhedpkaagreatdoor", sum := "960f1783479b5004897476720e04301aa6b289920ed0ceeadaf3c17df61a70d6", func := "vellum/vellumlaw18.PatchDiffs", spec := "patchDiffs", inPlace := ["internal/bytealg.CountString", "internal/bytealg.IndexByteString", "internal/bytealg.IndexString", "internal/abi.NoEscape", "internal/bytealg.MakeNoZero"], unfollowed := true, recurses := true, named := ["unicode/utf8.first", "unicode/utf8.acceptRanges", "internal/bytealg.MaxLen"], apart := false, laid := [("unicode/utf8.acceptRanges", laid_unicode_utf8_acceptRanges), ("unicode/utf8.first", laid_unicode_utf8_first)], narrowed := true }
def PatchDiffsUptoSaid : Prop := patchDiffsUptoRow.holds Tryz.pinned (OpenSpec.upto patchDiffsSpec)

/-- 'vellumlaw18.PatchOne', WHERE WHAT IT READS IS OF BULK AT MOST 1048576: true; the input reads as it did. -/
def patchOneUptoRow : OpenClaim := { program := "ytknihldkhedpkaagreatdoor", sum := "960f1783479b5004897476720e04301aa6b289920ed0ceeadaf3c17df61a70d6", func := "vellum/vellumlaw18.PatchOne", spec := "patchOne", inPlace := ["internal/bytealg.CountString", "internal/bytealg.IndexByteString", "internal/bytealg.IndexString", "internal/abi.NoEscape", "internal/bytealg.MakeNoZero"], unfollowed := true, recurses := true, named := ["unicode/utf8.first", "unicode/utf8.acceptRanges", "internal/bytealg.MaxLen"], apart := false, laid := [("unicode/utf8.acceptRanges", laid_unicode_utf8_acceptRanges), ("unicode/utf8.first", laid_unicode_utf8_first)], narrowed := true }
def PatchOneUptoSaid : Prop := patchOneUptoRow.holds Tryz.pinned (OpenSpec.upto patchOneSpec)

/-- 'vellumlaw18.PatchApplies', WHERE WHAT IT READS IS OF BULK AT MOST 1048576: true; the input reads as it did. -/
def patchAppliesUptoRow : OpenClaim := { program := "ytknihldkhedpkaagreatdoor", sum := "960f1783479b5004897476720e04301aa6b289920ed0ceeadaf3c17df61a70d6", func := "vellum/vellumlaw18.PatchApplies", spec := "patchApplies", inPlace := ["internal/bytealg.CountString", "internal/bytealg.IndexByteString", "internal/bytealg.IndexString", "internal/abi.NoEscape", "internal/bytealg.MakeNoZero"], unfollowed := true, recurses := true, named := ["unicode/utf8.first", "unicode/utf8.acceptRanges", "internal/bytealg.MaxLen"], apart := false, laid := [("unicode/utf8.acceptRanges", laid_unicode_utf8_acceptRanges), ("unicode/utf8.first", laid_unicode_utf8_first)], narrowed := true }
def PatchAppliesUptoSaid : Prop := patchAppliesUptoRow.holds Tryz.pinned (OpenSpec.upto patchAppliesSpec)

/-- 'vellumlaw18.PatchForced', WHERE WHAT IT READS IS OF BULK AT MOST 1048576: true; the input reads as it did. -/
def patchForcedUptoRow : OpenClaim := { program := "ytknihldkhedpkaagreatdoor", sum := "960f1783479b5004897476720e04301aa6b289920ed0ceeadaf3c17df61a70d6", func := "vellum/vellumlaw18.PatchForced", spec := "patchForced", inPlace := ["internal/bytealg.CountString", "internal/bytealg.IndexByteString", "internal/bytealg.IndexString", "internal/abi.NoEscape", "internal/bytealg.MakeNoZero"], unfollowed := true, recurses := true, named := ["unicode/utf8.first", "unicode/utf8.acceptRanges", "internal/bytealg.MaxLen"], apart := false, laid := [("unicode/utf8.acceptRanges", laid_unicode_utf8_acceptRanges), ("unicode/utf8.first", laid_unicode_utf8_first)], narrowed := true }
def PatchForcedUptoSaid : Prop := patchForcedUptoRow.holds Tryz.pinned (OpenSpec.upto patchForcedSpec)

/-- 'vellumlaw18.PatchUndone', WHERE WHAT IT READS IS OF BULK AT MOST 1048576: true; the input reads as it did. -/
def patchUndoneUptoRow : OpenClaim := { program := "ytknihldkhedpkaagreatdoor", sum := "960f1783479b5004897476720e04301aa6b289920ed0ceeadaf3c17df61a70d6", func := "vellum/vellumlaw18.PatchUndone", spec := "patchUndone", inPlace := ["internal/bytealg.CountString", "internal/bytealg.IndexByteString", "internal/bytealg.IndexString", "internal/abi.NoEscape", "internal/bytealg.MakeNoZero"], unfollowed := true, recurses := true, named := ["unicode/utf8.first", "unicode/utf8.acceptRanges", "internal/bytealg.MaxLen"], apart := false, laid := [("unicode/utf8.acceptRanges", laid_unicode_utf8_acceptRanges), ("unicode/utf8.first", laid_unicode_utf8_first)], narrowed := true }
def PatchUndoneUptoSaid : Prop := patchUndoneUptoRow.holds Tryz.pinned (OpenSpec.upto patchUndoneSpec)

end Rows
end Go.Proofs.YtknihldkhedpkaaGreatDoor
