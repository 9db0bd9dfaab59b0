/-
  DERIVED. GIVEN WITH THE SEED: THE CARDS: each row of YtjlgfcgdagikgaaDoorRows.lean that lists a variable, with what it lists TIED to the program's text (the seventh form; the later family's looks); each row that meets fmt, with fmt's text TOLD by the authors' own Lean function (tested against real Go, not proved from fmt's source: count such statements apart). THE CARD IS WHAT COUNTS. Prove the row's statement (the work); the ties are given (YtjlgfcgdagikgaaDoorTie.lean); close each card by the builder's one call (the guide's Derived/Test/ToyasCard.lean, 'card_holds'). Laid BY PROGRAM, IN A SANDBOX (cutbox-door.mjs). By AI agents, Wed Nov 11 2026. No macro, syntax, notation, axiom, sorry.
-/
import Derived.Test.YtjlgfcgdagikgaaDoorRows
import GoSem.ClaimSeven
namespace Go.Proofs.YtjlgfcgdagikgaaDoor
namespace Rows

/-- THE TIED CARD OF 'vellumlaw17.SalvageSays'. -/
def salvageSaysCard : Claim7 := { stood := { row := salvageSaysRow, standIns := [], harness := (true, "932a02d4433e5f59957e569820f874120e50200f52cab3d38a3b5f3a894e8b24"), looks := true }, kinds := [], alts := [], laidByText := true, laidKinds := [.data, .data, .data], laidTests := true, laidLooks := .later }
def SalvageSaysCardSaid : Prop := Claim7.holds Tryd.pinned (.plain (OpenSpec.ofChange salvageSaysSpec)) salvageSaysCard

/-- THE TIED CARD OF 'vellumlaw12.CheckSays'. -/
def checkSaysCard : Claim7 := { stood := { row := checkSaysRow, standIns := [], harness := (true, "932a02d4433e5f59957e569820f874120e50200f52cab3d38a3b5f3a894e8b24"), looks := true }, kinds := [], alts := [], laidByText := true, laidKinds := [.data, .data, .data, .data], laidTests := true, laidLooks := .later }
def CheckSaysCardSaid : Prop := Claim7.holds Tryd.pinned (.plain (OpenSpec.ofChange checkSaysSpec)) checkSaysCard

/-- THE SECOND FORM's CARD OF 'vellumlaw17.SalvageSays'. -/
def salvageSaysUptoCard : Claim7 := { stood := { row := salvageSaysUptoRow, standIns := [], harness := (true, "932a02d4433e5f59957e569820f874120e50200f52cab3d38a3b5f3a894e8b24"), looks := true }, kinds := [], alts := [], laidByText := true, laidKinds := [.data, .data, .data], laidTests := true, laidLooks := .later }
def SalvageSaysUptoCardSaid : Prop := Claim7.holds Tryd.pinned (.plain (OpenSpec.upto salvageSaysSpec)) salvageSaysUptoCard

/-- THE SECOND FORM's CARD OF 'vellumlaw12.CheckSays'. -/
def checkSaysUptoCard : Claim7 := { stood := { row := checkSaysUptoRow, standIns := [], harness := (true, "932a02d4433e5f59957e569820f874120e50200f52cab3d38a3b5f3a894e8b24"), looks := true }, kinds := [], alts := [], laidByText := true, laidKinds := [.data, .data, .data, .data], laidTests := true, laidLooks := .later }
def CheckSaysUptoCardSaid : Prop := Claim7.holds Tryd.pinned (.plain (OpenSpec.upto checkSaysSpec)) checkSaysUptoCard
end Rows
end Go.Proofs.YtjlgfcgdagikgaaDoor
