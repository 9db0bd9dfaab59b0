/-
  DERIVED. GIVEN WITH THE SEED: THE CARDS: each row of YtknihldkhedpkaaGreatDoorRows.lean that lists a variable, with what it lists TIED to the program's text (the seventh form; the later family's looks); each row that meets fmt, with fmt's text TOLD by the authors' own Lean function (tested against real Go, not proved from fmt's source: count such statements apart). THE CARD IS WHAT COUNTS. Prove the row's statement (the work); the ties are given (YtknihldkhedpkaaGreatDoorTie.lean); close each card by the builder's one call (the guide's Derived/Test/ToyasCard.lean, 'card_holds'). Laid BY PROGRAM, IN A SANDBOX (cutbox-door.mjs). By AI agents, Wed Nov 11 2026. No macro, syntax, notation, axiom, sorry.
-/
import Derived.Test.YtknihldkhedpkaaGreatDoorRows
import GoSem.ClaimSeven
namespace Go.Proofs.YtknihldkhedpkaaGreatDoor
namespace Rows

/-- THE TIED CARD OF 'vellumlaw18.PatchPacks'. -/
def patchPacksCard : Claim7 := { stood := { row := patchPacksRow, standIns := [], harness := (true, "eb0f964adcf9e25e5a1523e566db2de0ce6c48b0702df602d90e263fb5a2fc1a"), looks := true }, kinds := [], alts := [], laidByText := true, laidKinds := [.data, .pinned], laidTests := true, laidLooks := .later }
def PatchPacksCardSaid : Prop := Claim7.holds Tryz.pinned (.plain (OpenSpec.ofChange patchPacksSpec)) patchPacksCard

/-- THE TIED CARD OF 'vellumlaw18.PatchLists'. -/
def patchListsCard : Claim7 := { stood := { row := patchListsRow, standIns := [], harness := (true, "eb0f964adcf9e25e5a1523e566db2de0ce6c48b0702df602d90e263fb5a2fc1a"), looks := true }, kinds := [], alts := [], laidByText := true, laidKinds := [.data, .pinned], laidTests := true, laidLooks := .later }
def PatchListsCardSaid : Prop := Claim7.holds Tryz.pinned (.plain (OpenSpec.ofChange patchListsSpec)) patchListsCard

/-- THE TIED CARD OF 'vellumlaw18.PatchDiffs'. -/
def patchDiffsCard : Claim7 := { stood := { row := patchDiffsRow, standIns := [], harness := (true, "eb0f964adcf9e25e5a1523e566db2de0ce6c48b0702df602d90e263fb5a2fc1a"), looks := true }, kinds := [], alts := [], laidByText := true, laidKinds := [.data, .pinned], laidTests := true, laidLooks := .later }
def PatchDiffsCardSaid : Prop := Claim7.holds Tryz.pinned (.plain (OpenSpec.ofChange patchDiffsSpec)) patchDiffsCard

/-- THE TIED CARD OF 'vellumlaw18.PatchOne'. -/
def patchOneCard : Claim7 := { stood := { row := patchOneRow, standIns := [], harness := (true, "eb0f964adcf9e25e5a1523e566db2de0ce6c48b0702df602d90e263fb5a2fc1a"), looks := true }, kinds := [], alts := [], laidByText := true, laidKinds := [.data, .pinned], laidTests := true, laidLooks := .later }
def PatchOneCardSaid : Prop := Claim7.holds Tryz.pinned (.plain (OpenSpec.ofChange patchOneSpec)) patchOneCard

/-- THE TIED CARD OF 'vellumlaw18.PatchApplies'. -/
def patchAppliesCard : Claim7 := { stood := { row := patchAppliesRow, standIns := [], harness := (true, "eb0f964adcf9e25e5a1523e566db2de0ce6c48b0702df602d90e263fb5a2fc1a"), looks := true }, kinds := [], alts := [], laidByText := true, laidKinds := [.data, .pinned], laidTests := true, laidLooks := .later }
def PatchAppliesCardSaid : Prop := Claim7.holds Tryz.pinned (.plain (OpenSpec.ofChange patchAppliesSpec)) patchAppliesCard

/-- THE TIED CARD OF 'vellumlaw18.PatchForced'. -/
def patchForcedCard : Claim7 := { stood := { row := patchForcedRow, standIns := [], harness := (true, "eb0f964adcf9e25e5a1523e566db2de0ce6c48b0702df602d90e263fb5a2fc1a"), looks := true }, kinds := [], alts := [], laidByText := true, laidKinds := [.data, .pinned], laidTests := true, laidLooks := .later }
def PatchForcedCardSaid : Prop := Claim7.holds Tryz.pinned (.plain (OpenSpec.ofChange patchForcedSpec)) patchForcedCard

/-- THE TIED CARD OF 'vellumlaw18.PatchUndone'. -/
def patchUndoneCard : Claim7 := { stood := { row := patchUndoneRow, standIns := [], harness := (true, "eb0f964adcf9e25e5a1523e566db2de0ce6c48b0702df602d90e263fb5a2fc1a"), looks := true }, kinds := [], alts := [], laidByText := true, laidKinds := [.data, .pinned], laidTests := true, laidLooks := .later }
def PatchUndoneCardSaid : Prop := Claim7.holds Tryz.pinned (.plain (OpenSpec.ofChange patchUndoneSpec)) patchUndoneCard

/-- THE SECOND FORM's CARD OF 'vellumlaw18.PatchPacks'. -/
def patchPacksUptoCard : Claim7 := { stood := { row := patchPacksUptoRow, standIns := [], harness := (true, "eb0f964adcf9e25e5a1523e566db2de0ce6c48b0702df602d90e263fb5a2fc1a"), looks := true }, kinds := [], alts := [], laidByText := true, laidKinds := [.data, .pinned], laidTests := true, laidLooks := .later }
def PatchPacksUptoCardSaid : Prop := Claim7.holds Tryz.pinned (.plain (OpenSpec.upto patchPacksSpec)) patchPacksUptoCard

/-- THE SECOND FORM's CARD OF 'vellumlaw18.PatchLists'. -/
def patchListsUptoCard : Claim7 := { stood := { row := patchListsUptoRow, standIns := [], harness := (true, "eb0f964adcf9e25e5a1523e566db2de0ce6c48b0702df602d90e263fb5a2fc1a"), looks := true }, kinds := [], alts := [], laidByText := true, laidKinds := [.data, .pinned], laidTests := true, laidLooks := .later }
def PatchListsUptoCardSaid : Prop := Claim7.holds Tryz.pinned (.plain (OpenSpec.upto patchListsSpec)) patchListsUptoCard

/-- THE SECOND FORM's CARD OF 'vellumlaw18.PatchDiffs'. -/
def patchDiffsUptoCard : Claim7 := { stood := { row := patchDiffsUptoRow, standIns := [], harness := (true, "eb0f964adcf9e25e5a1523e566db2de0ce6c48b0702df602d90e263fb5a2fc1a"), looks := true }, kinds := [], alts := [], laidByText := true, laidKinds := [.data, .pinned], laidTests := true, laidLooks := .later }
def PatchDiffsUptoCardSaid : Prop := Claim7.holds Tryz.pinned (.plain (OpenSpec.upto patchDiffsSpec)) patchDiffsUptoCard

/-- THE SECOND FORM's CARD OF 'vellumlaw18.PatchOne'. -/
def patchOneUptoCard : Claim7 := { stood := { row := patchOneUptoRow, standIns := [], harness := (true, "eb0f964adcf9e25e5a1523e566db2de0ce6c48b0702df602d90e263fb5a2fc1a"), looks := true }, kinds := [], alts := [], laidByText := true, laidKinds := [.data, .pinned], laidTests := true, laidLooks := .later }
def PatchOneUptoCardSaid : Prop := Claim7.holds Tryz.pinned (.plain (OpenSpec.upto patchOneSpec)) patchOneUptoCard

/-- THE SECOND FORM's CARD OF 'vellumlaw18.PatchApplies'. -/
def patchAppliesUptoCard : Claim7 := { stood := { row := patchAppliesUptoRow, standIns := [], harness := (true, "eb0f964adcf9e25e5a1523e566db2de0ce6c48b0702df602d90e263fb5a2fc1a"), looks := true }, kinds := [], alts := [], laidByText := true, laidKinds := [.data, .pinned], laidTests := true, laidLooks := .later }
def PatchAppliesUptoCardSaid : Prop := Claim7.holds Tryz.pinned (.plain (OpenSpec.upto patchAppliesSpec)) patchAppliesUptoCard

/-- THE SECOND FORM's CARD OF 'vellumlaw18.PatchForced'. -/
def patchForcedUptoCard : Claim7 := { stood := { row := patchForcedUptoRow, standIns := [], harness := (true, "eb0f964adcf9e25e5a1523e566db2de0ce6c48b0702df602d90e263fb5a2fc1a"), looks := true }, kinds := [], alts := [], laidByText := true, laidKinds := [.data, .pinned], laidTests := true, laidLooks := .later }
def PatchForcedUptoCardSaid : Prop := Claim7.holds Tryz.pinned (.plain (OpenSpec.upto patchForcedSpec)) patchForcedUptoCard

/-- THE SECOND FORM's CARD OF 'vellumlaw18.PatchUndone'. -/
def patchUndoneUptoCard : Claim7 := { stood := { row := patchUndoneUptoRow, standIns := [], harness := (true, "eb0f964adcf9e25e5a1523e566db2de0ce6c48b0702df602d90e263fb5a2fc1a"), looks := true }, kinds := [], alts := [], laidByText := true, laidKinds := [.data, .pinned], laidTests := true, laidLooks := .later }
def PatchUndoneUptoCardSaid : Prop := Claim7.holds Tryz.pinned (.plain (OpenSpec.upto patchUndoneSpec)) patchUndoneUptoCard
end Rows
end Go.Proofs.YtknihldkhedpkaaGreatDoor
