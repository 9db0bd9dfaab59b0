/-
  No cell of these rows narrows 'for every input' (looked for: loops, veiled, ifaces, maps, wideKeys, modest, calm, conditions, laid).
  DERIVED. THE GIVEN ROWS OF THIS SEAT. 6 by the template 'for every input the law returns true; each argument reads behind the call as it read before'; 0 by the template 'total and deterministic' (their statements: YtjlgfcgdagikgaaTotals.lean).
  GIVEN WITH THE SEED: the statements are not yours to turn. If you find one false, say at which input.
  Laid BY PROGRAM, IN A SANDBOX (cutbox-rows.mjs): the forced cells as the released guide's own fill.sh prints them over the translation 567214aa23756d03… (all of the seat's roots in one cut). By AI agents, Wed Nov 11 2026. No macro, syntax, notation, axiom, sorry.
-/
import Derived.Test.YtjlgfcgdagikgaaChecked
import GoSem.Claim
import GoSem.ClaimJoined
import GoSem.ClaimMapViews
import Derived.JoinedTies
import Derived.KernelRfl
namespace Go.Proofs.Ytjlgfcgdagikgaa
/- THE CELL 'sum', in the pinned program and in every row, IS THE sha256 OF THE DUMP (.gsa) THAT YtjlgfcgdagikgaaProg.lean LOADS. Nothing in Lean hashes anything: it is a label: what it is worth is what the hold of that sum in a sandbox is worth. -/
noncomputable def Try.pinned : Pinned := { name := "ytjlgfcgdagikgaa", sum := "567214aa23756d0334be7b40c05ffd13565a633560e7be6607cf0476dfc1dba7", checked := Try.checked }
namespace Rows
def none {H : Type} : Left H := { results := [], args := [] }

/-- 'vellumlaw10.DirNames': WHATEVER THE INPUT: true; the input reads as it did. -/
def dirNamesSpec : ChangeSpec := { name := "dirNames", fn := fun _ => fun
  | [] => { results := [.lit (.bool true)], args := [] }
  | _ => none }
def dirNamesRow : OpenClaim := { program := "ytjlgfcgdagikgaa", sum := "567214aa23756d0334be7b40c05ffd13565a633560e7be6607cf0476dfc1dba7", func := "vellum/vellumlaw10.DirNames", spec := "dirNames", apart := false }
def DirNamesSaid : Prop := dirNamesRow.holds Try.pinned (OpenSpec.ofChange dirNamesSpec)

/-- ITS FALSE NEIGHBOUR: 'it returns false'. Refute it at one input. -/
def dirNamesWrong : ChangeSpec := { name := "dirNames", fn := fun _ => fun
  | [] => { results := [.lit (.bool false)], args := [] }
  | _ => none }
def DirNamesWrongFalsely : Prop := dirNamesRow.holds Try.pinned (OpenSpec.ofChange dirNamesWrong)

/-- 'vellumlaw11.WalkNames': WHATEVER THE INPUT: true; the input reads as it did. -/
def walkNamesSpec : ChangeSpec := { name := "walkNames", fn := fun _ => fun
  | [] => { results := [.lit (.bool true)], args := [] }
  | _ => none }
def walkNamesRow : OpenClaim := { program := "ytjlgfcgdagikgaa", sum := "567214aa23756d0334be7b40c05ffd13565a633560e7be6607cf0476dfc1dba7", func := "vellum/vellumlaw11.WalkNames", spec := "walkNames", apart := false }
def WalkNamesSaid : Prop := walkNamesRow.holds Try.pinned (OpenSpec.ofChange walkNamesSpec)

/-- ITS FALSE NEIGHBOUR: 'it returns false'. Refute it at one input. -/
def walkNamesWrong : ChangeSpec := { name := "walkNames", fn := fun _ => fun
  | [] => { results := [.lit (.bool false)], args := [] }
  | _ => none }
def WalkNamesWrongFalsely : Prop := walkNamesRow.holds Try.pinned (OpenSpec.ofChange walkNamesWrong)

/-- 'vellumlaw17.SalvageNames': WHATEVER THE INPUT: true; the input reads as it did. -/
def salvageNamesSpec : ChangeSpec := { name := "salvageNames", fn := fun _ => fun
  | [] => { results := [.lit (.bool true)], args := [] }
  | _ => none }
def salvageNamesRow : OpenClaim := { program := "ytjlgfcgdagikgaa", sum := "567214aa23756d0334be7b40c05ffd13565a633560e7be6607cf0476dfc1dba7", func := "vellum/vellumlaw17.SalvageNames", spec := "salvageNames", apart := false }
def SalvageNamesSaid : Prop := salvageNamesRow.holds Try.pinned (OpenSpec.ofChange salvageNamesSpec)

/-- ITS FALSE NEIGHBOUR: 'it returns false'. Refute it at one input. -/
def salvageNamesWrong : ChangeSpec := { name := "salvageNames", fn := fun _ => fun
  | [] => { results := [.lit (.bool false)], args := [] }
  | _ => none }
def SalvageNamesWrongFalsely : Prop := salvageNamesRow.holds Try.pinned (OpenSpec.ofChange salvageNamesWrong)

/-- 'vellumlaw11.WalkSplits': WHATEVER THE INPUT: true; the input reads as it did. -/
def walkSplitsSpec : ChangeSpec := { name := "walkSplits", fn := fun _ => fun
  | [d] => { results := [.lit (.bool true)], args := [d] }
  | _ => none }
def walkSplitsRow : OpenClaim := { program := "ytjlgfcgdagikgaa", sum := "567214aa23756d0334be7b40c05ffd13565a633560e7be6607cf0476dfc1dba7", func := "vellum/vellumlaw11.WalkSplits", spec := "walkSplits", inPlace := ["internal/bytealg.IndexByteString", "internal/bytealg.IndexString"], unfollowed := true, recurses := true, named := ["internal/bytealg.MaxLen"], apart := false }
def WalkSplitsSaid : Prop := walkSplitsRow.holds Try.pinned (OpenSpec.ofChange walkSplitsSpec)

/-- ITS FALSE NEIGHBOUR: 'it returns false'. Refute it at one input. -/
def walkSplitsWrong : ChangeSpec := { name := "walkSplits", fn := fun _ => fun
  | [d] => { results := [.lit (.bool false)], args := [d] }
  | _ => none }
def WalkSplitsWrongFalsely : Prop := walkSplitsRow.holds Try.pinned (OpenSpec.ofChange walkSplitsWrong)

/-- 'vellumlaw11.WalkParts': WHATEVER THE INPUT: true; the input reads as it did. -/
def walkPartsSpec : ChangeSpec := { name := "walkParts", fn := fun _ => fun
  | [d1, d2, d3] => { results := [.lit (.bool true)], args := [d1, d2, d3] }
  | _ => none }
def walkPartsRow : OpenClaim := { program := "ytjlgfcgdagikgaa", sum := "567214aa23756d0334be7b40c05ffd13565a633560e7be6607cf0476dfc1dba7", func := "vellum/vellumlaw11.WalkParts", spec := "walkParts", inPlace := ["internal/bytealg.IndexByteString", "internal/bytealg.IndexString"], unfollowed := true, recurses := true, named := ["internal/bytealg.MaxLen"], apart := false }
def WalkPartsSaid : Prop := walkPartsRow.holds Try.pinned (OpenSpec.ofChange walkPartsSpec)

/-- ITS FALSE NEIGHBOUR: 'it returns false'. Refute it at one input. -/
def walkPartsWrong : ChangeSpec := { name := "walkParts", fn := fun _ => fun
  | [d1, d2, d3] => { results := [.lit (.bool false)], args := [d1, d2, d3] }
  | _ => none }
def WalkPartsWrongFalsely : Prop := walkPartsRow.holds Try.pinned (OpenSpec.ofChange walkPartsWrong)

/-- 'vellumlaw11.WalkOwn': WHATEVER THE INPUT: true; the input reads as it did. -/
def walkOwnSpec : ChangeSpec := { name := "walkOwn", fn := fun _ => fun
  | [d] => { results := [.lit (.bool true)], args := [d] }
  | _ => none }
def walkOwnRow : OpenClaim := { program := "ytjlgfcgdagikgaa", sum := "567214aa23756d0334be7b40c05ffd13565a633560e7be6607cf0476dfc1dba7", func := "vellum/vellumlaw11.WalkOwn", spec := "walkOwn", inPlace := ["internal/bytealg.IndexByteString", "internal/bytealg.IndexString"], unfollowed := true, recurses := true, named := ["internal/bytealg.MaxLen"], apart := false }
def WalkOwnSaid : Prop := walkOwnRow.holds Try.pinned (OpenSpec.ofChange walkOwnSpec)

/-- ITS FALSE NEIGHBOUR: 'it returns false'. Refute it at one input. -/
def walkOwnWrong : ChangeSpec := { name := "walkOwn", fn := fun _ => fun
  | [d] => { results := [.lit (.bool false)], args := [d] }
  | _ => none }
def WalkOwnWrongFalsely : Prop := walkOwnRow.holds Try.pinned (OpenSpec.ofChange walkOwnWrong)

/- THE SECOND FORM. 'bulk': how many values and letters a reading holds, each counted each time it is reached (what is shared counts as often as it is met; a slice's spare places count too). A statement '..UptoSaid' is the law's where the arguments, and the package variables that the reading takes, are together of bulk at most 1048576: NARROWER than '..Said'. Prove '..Said' where nothing that the law and all that it calls make is longer than what came in: it says more and counts as full. Else prove '..UptoSaid'. A law counts once. -/
mutual
def uptoBulk {H : Type} : DataW H → Nat
  | .lit (.string bytes) => bytes.length + 1
  | .lit _ => 1
  | .nil => 1
  | .ptr d => uptoBulk d + 1
  | .slice elems spare => uptoBulkAll elems + uptoBulkAll spare + 1
  | .agg parts => uptoBulkAll parts + 1
  | .iface _ d => uptoBulk d + 1
  | .map entries => uptoBulkEntries entries + 1
  | .held _ => 1
def uptoBulkAll {H : Type} : List (DataW H) → Nat
  | [] => 0
  | d :: r => uptoBulk d + uptoBulkAll r
def uptoBulkEntries {H : Type} : List (Lit × DataW H) → Nat
  | [] => 0
  | x :: r => uptoBulkEntry x + uptoBulkEntries r
def uptoBulkEntry {H : Type} : Lit × DataW H → Nat
  | (.string bytes, d) => bytes.length + uptoBulk d + 1
  | (_, d) => uptoBulk d + 1
 end
def uptoSmall : (H : Type) → List (DataW H) → Bool := fun _ ds => decide (uptoBulkAll ds ≤ 1048576)
def OpenSpec.upto (s : _root_.Go.ChangeSpec) : _root_.Go.OpenSpec := { _root_.Go.OpenSpec.ofChange s with cond := some uptoSmall }

/-- 'vellumlaw10.DirNames', WHERE WHAT IT READS IS OF BULK AT MOST 1048576: true; the input reads as it did. -/
def dirNamesUptoRow : OpenClaim := { program := "ytjlgfcgdagikgaa", sum := "567214aa23756d0334be7b40c05ffd13565a633560e7be6607cf0476dfc1dba7", func := "vellum/vellumlaw10.DirNames", spec := "dirNames", apart := false, narrowed := true }
def DirNamesUptoSaid : Prop := dirNamesUptoRow.holds Try.pinned (OpenSpec.upto dirNamesSpec)

/-- 'vellumlaw11.WalkNames', WHERE WHAT IT READS IS OF BULK AT MOST 1048576: true; the input reads as it did. -/
def walkNamesUptoRow : OpenClaim := { program := "ytjlgfcgdagikgaa", sum := "567214aa23756d0334be7b40c05ffd13565a633560e7be6607cf0476dfc1dba7", func := "vellum/vellumlaw11.WalkNames", spec := "walkNames", apart := false, narrowed := true }
def WalkNamesUptoSaid : Prop := walkNamesUptoRow.holds Try.pinned (OpenSpec.upto walkNamesSpec)

/-- 'vellumlaw17.SalvageNames', WHERE WHAT IT READS IS OF BULK AT MOST 1048576: true; the input reads as it did. -/
def salvageNamesUptoRow : OpenClaim := { program := "ytjlgfcgdagikgaa", sum := "567214aa23756d0334be7b40c05ffd13565a633560e7be6607cf0476dfc1dba7", func := "vellum/vellumlaw17.SalvageNames", spec := "salvageNames", apart := false, narrowed := true }
def SalvageNamesUptoSaid : Prop := salvageNamesUptoRow.holds Try.pinned (OpenSpec.upto salvageNamesSpec)

/-- 'vellumlaw11.WalkSplits', WHERE WHAT IT READS IS OF BULK AT MOST 1048576: true; the input reads as it did. -/
def walkSplitsUptoRow : OpenClaim := { program := "ytjlgfcgdagikgaa", sum := "567214aa23756d0334be7b40c05ffd13565a633560e7be6607cf0476dfc1dba7", func := "vellum/vellumlaw11.WalkSplits", spec := "walkSplits", inPlace := ["internal/bytealg.IndexByteString", "internal/bytealg.IndexString"], unfollowed := true, recurses := true, named := ["internal/bytealg.MaxLen"], apart := false, narrowed := true }
def WalkSplitsUptoSaid : Prop := walkSplitsUptoRow.holds Try.pinned (OpenSpec.upto walkSplitsSpec)

/-- 'vellumlaw11.WalkParts', WHERE WHAT IT READS IS OF BULK AT MOST 1048576: true; the input reads as it did. -/
def walkPartsUptoRow : OpenClaim := { program := "ytjlgfcgdagikgaa", sum := "567214aa23756d0334be7b40c05ffd13565a633560e7be6607cf0476dfc1dba7", func := "vellum/vellumlaw11.WalkParts", spec := "walkParts", inPlace := ["internal/bytealg.IndexByteString", "internal/bytealg.IndexString"], unfollowed := true, recurses := true, named := ["internal/bytealg.MaxLen"], apart := false, narrowed := true }
def WalkPartsUptoSaid : Prop := walkPartsUptoRow.holds Try.pinned (OpenSpec.upto walkPartsSpec)

/-- 'vellumlaw11.WalkOwn', WHERE WHAT IT READS IS OF BULK AT MOST 1048576: true; the input reads as it did. -/
def walkOwnUptoRow : OpenClaim := { program := "ytjlgfcgdagikgaa", sum := "567214aa23756d0334be7b40c05ffd13565a633560e7be6607cf0476dfc1dba7", func := "vellum/vellumlaw11.WalkOwn", spec := "walkOwn", inPlace := ["internal/bytealg.IndexByteString", "internal/bytealg.IndexString"], unfollowed := true, recurses := true, named := ["internal/bytealg.MaxLen"], apart := false, narrowed := true }
def WalkOwnUptoSaid : Prop := walkOwnUptoRow.holds Try.pinned (OpenSpec.upto walkOwnSpec)

end Rows
end Go.Proofs.Ytjlgfcgdagikgaa
