/-
  DERIVED. GIVEN WITH THE SEED: THE CARDS: each row of YtkfikinjlbbibaaDoorRows.lean that lists a variable, with what it lists TIED to the program's text (the seventh form; the later family's looks); each row that meets fmt, with fmt's text TOLD by the authors' own Lean function (tested against real Go, not proved from fmt's source: count such statements apart). THE CARD IS WHAT COUNTS. Prove the row's statement (the work); the ties are given (YtkfikinjlbbibaaDoorTie.lean); close each card by the builder's one call (the guide's Derived/Test/ToyasCard.lean, 'card_holds'). Laid BY PROGRAM, IN A SANDBOX (cutbox-door.mjs). By AI agents, Wed Nov 11 2026. No macro, syntax, notation, axiom, sorry.
-/
import Derived.Test.YtkfikinjlbbibaaDoorRows
import GoSem.ClaimSeven
namespace Go.Proofs.YtkfikinjlbbibaaDoor
namespace Rows

/-- THE TIED CARD OF 'vellumlaw18.PatchThree'. -/
def patchThreeCard : Claim7 := { stood := { row := patchThreeRow, standIns := [], harness := (true, "d885b7c318c89b806db267a996f34e66b2ec536e94a6ed5d56c90d6c85aeeee1"), looks := false }, kinds := [], alts := [], laidByText := true, laidKinds := [.data, .pinned], laidTests := true, laidLooks := .later }
def PatchThreeCardSaid : Prop := Claim7.holds Tryd.pinned (.plain (OpenSpec.ofChange patchThreeSpec)) patchThreeCard

/-- THE TIED CARD OF 'vellumlaw18.PatchSides'. -/
def patchSidesCard : Claim7 := { stood := { row := patchSidesRow, standIns := [], harness := (true, "d885b7c318c89b806db267a996f34e66b2ec536e94a6ed5d56c90d6c85aeeee1"), looks := false }, kinds := [], alts := [], laidByText := true, laidKinds := [.data, .pinned], laidTests := true, laidLooks := .later }
def PatchSidesCardSaid : Prop := Claim7.holds Tryd.pinned (.plain (OpenSpec.ofChange patchSidesSpec)) patchSidesCard

/-- THE SECOND FORM's CARD OF 'vellumlaw18.PatchThree'. -/
def patchThreeUptoCard : Claim7 := { stood := { row := patchThreeUptoRow, standIns := [], harness := (true, "d885b7c318c89b806db267a996f34e66b2ec536e94a6ed5d56c90d6c85aeeee1"), looks := false }, kinds := [], alts := [], laidByText := true, laidKinds := [.data, .pinned], laidTests := true, laidLooks := .later }
def PatchThreeUptoCardSaid : Prop := Claim7.holds Tryd.pinned (.plain (OpenSpec.upto patchThreeSpec)) patchThreeUptoCard

/-- THE SECOND FORM's CARD OF 'vellumlaw18.PatchSides'. -/
def patchSidesUptoCard : Claim7 := { stood := { row := patchSidesUptoRow, standIns := [], harness := (true, "d885b7c318c89b806db267a996f34e66b2ec536e94a6ed5d56c90d6c85aeeee1"), looks := false }, kinds := [], alts := [], laidByText := true, laidKinds := [.data, .pinned], laidTests := true, laidLooks := .later }
def PatchSidesUptoCardSaid : Prop := Claim7.holds Tryd.pinned (.plain (OpenSpec.upto patchSidesSpec)) patchSidesUptoCard
end Rows
end Go.Proofs.YtkfikinjlbbibaaDoor
