/-
  NARROWER THAN 'FOR EVERY INPUT', by the rows' own cells (each row's printed sentence says how): SalvageSays: laid · CheckSays: laid.
  DERIVED. THE GIVEN ROWS OF THIS SEAT. 2 by the template 'for every input the law returns true; each argument reads behind the call as it read before'; 0 by the template 'total and deterministic' (their statements: YtjlgfcgdagikgaaDoorTotals.lean).
  GIVEN WITH THE SEED: the statements are not yours to turn. If you find one false, say at which input.
  Laid BY PROGRAM, IN A SANDBOX (cutbox-rows.mjs): the forced cells as the released guide's own fill.sh prints them over the translation ea73c00f823847ac… (all of the seat's roots in one cut). By AI agents, Wed Nov 11 2026. No macro, syntax, notation, axiom, sorry.
-/
import Derived.Test.YtjlgfcgdagikgaaDoorChecked
import GoSem.Claim
import GoSem.ClaimJoined
import GoSem.ClaimMapViews
import Derived.JoinedTies
import Derived.KernelRfl
namespace Go.Proofs.YtjlgfcgdagikgaaDoor
/- THE CELL 'sum', in the pinned program and in every row, IS THE sha256 OF THE DUMP (.gsa) THAT YtjlgfcgdagikgaaDoorProg.lean LOADS. Nothing in Lean hashes anything: it is a label: what it is worth is what the hold of that sum in a sandbox is worth. -/
noncomputable def Tryd.pinned : Pinned := { name := "ytjlgfcgdagikgaadoor", sum := "ea73c00f823847ac70bb50dd5e33d68a9325ffdf077172df6ff2d8d983626859", checked := Tryd.checked }
namespace Rows
def none {H : Type} : Left H := { results := [], args := [] }

/- WHAT THE LISTED PACKAGE-LEVEL VARIABLES READ AS WHEN THE CALL BEGINS. Each datum BY PROGRAM (the guide's laid-datum.mjs) off the statement by which the dump's own 'gosem.cut.vars' lays the variable. In a bare row this is a premise. The card (YtjlgfcgdagikgaaDoorCards.lean) ties it to the program's text. -/
def laid_math_bits_deBruijn32tab {H : Type} : DataW H := .agg [.lit (.int .u8 0), .lit (.int .u8 1), .lit (.int .u8 28), .lit (.int .u8 2), .lit (.int .u8 29), .lit (.int .u8 14), .lit (.int .u8 24), .lit (.int .u8 3), .lit (.int .u8 30), .lit (.int .u8 22), .lit (.int .u8 20), .lit (.int .u8 15), .lit (.int .u8 25), .lit (.int .u8 17), .lit (.int .u8 4), .lit (.int .u8 8), .lit (.int .u8 31), .lit (.int .u8 27), .lit (.int .u8 13), .lit (.int .u8 23), .lit (.int .u8 21), .lit (.int .u8 19), .lit (.int .u8 16), .lit (.int .u8 7), .lit (.int .u8 26), .lit (.int .u8 12), .lit (.int .u8 18), .lit (.int .u8 6), .lit (.int .u8 11), .lit (.int .u8 5), .lit (.int .u8 10), .lit (.int .u8 9)]
def laid_math_bits_deBruijn64tab {H : Type} : DataW H := .agg [.lit (.int .u8 0), .lit (.int .u8 1), .lit (.int .u8 56), .lit (.int .u8 2), .lit (.int .u8 57), .lit (.int .u8 49), .lit (.int .u8 28), .lit (.int .u8 3), .lit (.int .u8 61), .lit (.int .u8 58), .lit (.int .u8 42), .lit (.int .u8 50), .lit (.int .u8 38), .lit (.int .u8 29), .lit (.int .u8 17), .lit (.int .u8 4), .lit (.int .u8 62), .lit (.int .u8 47), .lit (.int .u8 59), .lit (.int .u8 36), .lit (.int .u8 45), .lit (.int .u8 43), .lit (.int .u8 51), .lit (.int .u8 22), .lit (.int .u8 53), .lit (.int .u8 39), .lit (.int .u8 33), .lit (.int .u8 30), .lit (.int .u8 24), .lit (.int .u8 18), .lit (.int .u8 12), .lit (.int .u8 5), .lit (.int .u8 63), .lit (.int .u8 55), .lit (.int .u8 48), .lit (.int .u8 27), .lit (.int .u8 60), .lit (.int .u8 41), .lit (.int .u8 37), .lit (.int .u8 16), .lit (.int .u8 46), .lit (.int .u8 35), .lit (.int .u8 44), .lit (.int .u8 21), .lit (.int .u8 52), .lit (.int .u8 32), .lit (.int .u8 23), .lit (.int .u8 11), .lit (.int .u8 54), .lit (.int .u8 26), .lit (.int .u8 40), .lit (.int .u8 15), .lit (.int .u8 34), .lit (.int .u8 20), .lit (.int .u8 31), .lit (.int .u8 10), .lit (.int .u8 25), .lit (.int .u8 14), .lit (.int .u8 19), .lit (.int .u8 9), .lit (.int .u8 13), .lit (.int .u8 8), .lit (.int .u8 7), .lit (.int .u8 6)]
def laid_internal_strconv_uint64pow10 {H : Type} : DataW H := .agg [.lit (.int .u64 1), .lit (.int .u64 10), .lit (.int .u64 100), .lit (.int .u64 1000), .lit (.int .u64 10000), .lit (.int .u64 100000), .lit (.int .u64 1000000), .lit (.int .u64 10000000), .lit (.int .u64 100000000), .lit (.int .u64 1000000000), .lit (.int .u64 10000000000), .lit (.int .u64 100000000000), .lit (.int .u64 1000000000000), .lit (.int .u64 10000000000000), .lit (.int .u64 100000000000000), .lit (.int .u64 1000000000000000), .lit (.int .u64 10000000000000000), .lit (.int .u64 100000000000000000), .lit (.int .u64 1000000000000000000), .lit (.int .u64 10000000000000000000)]
def laid_vellum_vellumlaw12_words {H : Type} : DataW H := .agg [.lit (.string []), .lit (.string [110, 111, 100, 101, 32, 78, 58, 32, 98, 114, 111, 107, 101, 110, 32, 115, 108, 111, 116]), .lit (.string [110, 111, 100, 101, 32, 49, 32, 105, 115, 32, 110, 111, 32, 114, 111, 111, 116]), .lit (.string [110, 111, 100, 101, 32, 78, 58, 32, 115, 105, 122, 101, 32, 79, 32, 109, 97, 121, 32, 110, 111, 116, 32, 98, 101]), .lit (.string [110, 111, 100, 101, 32, 78, 58, 32, 105, 110, 100, 101, 120, 32, 73, 44, 32, 100, 101, 112, 116, 104, 32, 79, 58, 32, 112, 111, 105, 110, 116, 101, 114, 32, 66, 32, 111, 117, 116, 32, 111, 102, 32, 114, 97, 110, 103, 101]), .lit (.string [110, 111, 100, 101, 32, 78, 58, 32, 105, 110, 100, 101, 120, 32, 73, 44, 32, 100, 101, 112, 116, 104, 32, 79, 58, 32, 98, 108, 111, 99, 107, 32, 66, 32, 105, 115, 32, 111, 119, 110, 101, 100, 32, 97, 108, 114, 101, 97, 100, 121]), .lit (.string [110, 111, 100, 101, 32, 78, 58, 32, 105, 110, 100, 101, 120, 32, 73, 58, 32, 98, 108, 111, 99, 107, 32, 66, 32, 98, 101, 104, 105, 110, 100, 32, 116, 104, 101, 32, 115, 105, 122, 101]), .lit (.string [110, 111, 100, 101, 32, 78, 58, 32, 105, 110, 100, 101, 120, 32, 73, 44, 32, 100, 101, 112, 116, 104, 32, 79, 58, 32, 98, 108, 111, 99, 107, 32, 66, 32, 104, 97, 115, 32, 110, 111, 32, 112, 111, 105, 110, 116, 101, 114]), .lit (.string [110, 111, 100, 101, 32, 78, 58, 32, 111, 119, 110, 115, 32, 79]), .lit (.string [110, 111, 100, 101, 32, 78, 58, 32, 105, 110, 100, 101, 120, 32, 73, 58, 32, 98, 108, 111, 99, 107, 32, 66, 32, 104, 97, 115, 32, 98, 121, 116, 101, 115, 32, 98, 101, 104, 105, 110, 100, 32, 116, 104, 101, 32, 115, 105, 122, 101]), .lit (.string [98, 108, 111, 99, 107, 32, 66, 58, 32, 98, 105, 116, 32, 79]), .lit (.string [110, 111, 100, 101, 32, 78, 58, 32, 98, 105, 116, 32, 79]), .lit (.string [110, 111, 100, 101, 32, 78, 58, 32, 115, 108, 111, 116, 32, 73, 58, 32, 98, 114, 111, 107, 101, 110, 32, 101, 110, 116, 114, 121]), .lit (.string [110, 111, 100, 101, 32, 78, 58, 32, 115, 108, 111, 116, 32, 73, 58, 32, 97, 32, 110, 97, 109, 101, 32, 116, 119, 105, 99, 101]), .lit (.string [110, 111, 100, 101, 32, 78, 58, 32, 115, 108, 111, 116, 32, 73, 58, 32, 101, 110, 116, 114, 121, 32, 111, 102, 32, 110, 111, 100, 101, 32, 79]), .lit (.string [110, 111, 100, 101, 32, 78, 58, 32, 105, 110, 100, 101, 120, 32, 73, 58, 32, 104, 111, 108, 101, 32, 105, 110, 32, 97, 32, 100, 105, 114, 101, 99, 116, 111, 114, 121]), .lit (.string [110, 111, 100, 101, 32, 78, 58, 32, 108, 97, 115, 116, 32, 98, 108, 111, 99, 107, 32, 119, 105, 116, 104, 111, 117, 116, 32, 97, 110, 32, 101, 110, 116, 114, 121]), .lit (.string [110, 111, 100, 101, 32, 78, 58, 32, 108, 105, 110, 107, 115, 32, 115, 104, 111, 117, 108, 100, 32, 98, 101, 32, 79]), .lit (.string [110, 111, 100, 101, 32, 78, 58, 32, 104, 97, 110, 103, 115, 32, 119, 114, 111, 110, 103, 32, 79]), .lit (.string [110, 111, 100, 101, 32, 78, 58, 32, 119, 105, 116, 104, 111, 117, 116, 32, 97, 32, 110, 97, 109, 101]), .lit (.string [110, 111, 100, 101, 32, 78, 58, 32, 110, 111, 116, 32, 98, 101, 108, 111, 119, 32, 116, 104, 101, 32, 114, 111, 111, 116]), .lit (.string [110, 111, 100, 101, 32, 78, 58, 32, 116, 101, 120, 116, 32, 119, 105, 116, 104, 32, 97, 32, 122, 101, 114, 111])]

/-- 'vellumlaw17.SalvageSays': WHATEVER THE INPUT: true; the input reads as it did. -/
def salvageSaysSpec : ChangeSpec := { name := "salvageSays", fn := fun _ => fun
  | [d] => { results := [.lit (.bool true)], args := [d] }
  | _ => none }
def salvageSaysRow : OpenClaim := { program := "ytjlgfcgdagikgaadoor", sum := "ea73c00f823847ac70bb50dd5e33d68a9325ffdf077172df6ff2d8d983626859", func := "vellum/vellumlaw17.SalvageSays", spec := "salvageSays", inPlace := ["sync/atomic.LoadUint32", "(*internal/sync.Mutex).Lock", "internal/race.Disable", "sync/atomic.CompareAndSwapInt32", "internal/race.Enable", "internal/race.Acquire", "(*internal/sync.Mutex).lockSlow", "internal/sync.runtime_canSpin", "internal/sync.runtime_doSpin", "internal/sync.throw", "internal/sync.runtime_nanotime", "internal/sync.runtime_SemacquireMutex", "sync/atomic.AddInt32", "(*internal/sync.Mutex).Unlock", "internal/race.ReleaseMerge", "(*internal/sync.Mutex).unlockSlow", "internal/sync.fatal", "internal/sync.runtime_Semrelease", "sync/atomic.StoreUint32"], unfollowed := true, recurses := true, named := ["internal/strconv.uint64pow10", "math/bits.deBruijn32tab", "math/bits.deBruijn64tab"], apart := false, laid := [("math/bits.deBruijn32tab", laid_math_bits_deBruijn32tab), ("math/bits.deBruijn64tab", laid_math_bits_deBruijn64tab), ("internal/strconv.uint64pow10", laid_internal_strconv_uint64pow10)] }
def SalvageSaysSaid : Prop := salvageSaysRow.holds Tryd.pinned (OpenSpec.ofChange salvageSaysSpec)

/-- ITS FALSE NEIGHBOUR: 'it returns false'. Refute it at one input. -/
def salvageSaysWrong : ChangeSpec := { name := "salvageSays", fn := fun _ => fun
  | [d] => { results := [.lit (.bool false)], args := [d] }
  | _ => none }
def SalvageSaysWrongFalsely : Prop := salvageSaysRow.holds Tryd.pinned (OpenSpec.ofChange salvageSaysWrong)

/-- 'vellumlaw12.CheckSays': WHATEVER THE INPUT: true; the input reads as it did. -/
def checkSaysSpec : ChangeSpec := { name := "checkSays", fn := fun _ => fun
  | [d] => { results := [.lit (.bool true)], args := [d] }
  | _ => none }
def checkSaysRow : OpenClaim := { program := "ytjlgfcgdagikgaadoor", sum := "ea73c00f823847ac70bb50dd5e33d68a9325ffdf077172df6ff2d8d983626859", func := "vellum/vellumlaw12.CheckSays", spec := "checkSays", inPlace := ["sync/atomic.LoadUint32", "(*internal/sync.Mutex).Lock", "internal/race.Disable", "sync/atomic.CompareAndSwapInt32", "internal/race.Enable", "internal/race.Acquire", "(*internal/sync.Mutex).lockSlow", "internal/sync.runtime_canSpin", "internal/sync.runtime_doSpin", "internal/sync.throw", "internal/sync.runtime_nanotime", "internal/sync.runtime_SemacquireMutex", "sync/atomic.AddInt32", "(*internal/sync.Mutex).Unlock", "internal/race.ReleaseMerge", "(*internal/sync.Mutex).unlockSlow", "internal/sync.fatal", "internal/sync.runtime_Semrelease", "sync/atomic.StoreUint32"], unfollowed := true, recurses := true, named := ["internal/strconv.uint64pow10", "math/bits.deBruijn32tab", "math/bits.deBruijn64tab", "vellum/vellumlaw12.words"], apart := false, laid := [("math/bits.deBruijn32tab", laid_math_bits_deBruijn32tab), ("math/bits.deBruijn64tab", laid_math_bits_deBruijn64tab), ("internal/strconv.uint64pow10", laid_internal_strconv_uint64pow10), ("vellum/vellumlaw12.words", laid_vellum_vellumlaw12_words)] }
def CheckSaysSaid : Prop := checkSaysRow.holds Tryd.pinned (OpenSpec.ofChange checkSaysSpec)

/-- ITS FALSE NEIGHBOUR: 'it returns false'. Refute it at one input. -/
def checkSaysWrong : ChangeSpec := { name := "checkSays", fn := fun _ => fun
  | [d] => { results := [.lit (.bool false)], args := [d] }
  | _ => none }
def CheckSaysWrongFalsely : Prop := checkSaysRow.holds Tryd.pinned (OpenSpec.ofChange checkSaysWrong)

/- THE SECOND FORM. 'bulk': how many values and letters a reading holds, each counted each time it is reached (what is shared counts as often as it is met; a slice's spare places count too). A statement '..UptoSaid' is the law's where the arguments, and the package variables that the reading takes, are together of bulk at most 1048576: NARROWER than '..Said'. Prove '..Said' where nothing that the law and all that it calls make is longer than what came in: it says more and counts as full. Else prove '..UptoSaid'. A law counts once. -/
mutual
def uptoBulk {H : Type} : DataW H → Nat
  | .lit (.string bytes) => bytes.length + 1
  | .lit _ => 1
  | .nil => 1
  | .ptr d => uptoBulk d + 1
  | .slice elems spare => uptoBulkAll elems + uptoBulkAll spare + 1
  | .agg parts => uptoBulkAll parts + 1
  | .iface _ d => uptoBulk d + 1
  | .map entries => uptoBulkEntries entries + 1
  | .held _ => 1
def uptoBulkAll {H : Type} : List (DataW H) → Nat
  | [] => 0
  | d :: r => uptoBulk d + uptoBulkAll r
def uptoBulkEntries {H : Type} : List (Lit × DataW H) → Nat
  | [] => 0
  | x :: r => uptoBulkEntry x + uptoBulkEntries r
def uptoBulkEntry {H : Type} : Lit × DataW H → Nat
  | (.string bytes, d) => bytes.length + uptoBulk d + 1
  | (_, d) => uptoBulk d + 1
 end
def uptoSmall : (H : Type) → List (DataW H) → Bool := fun _ ds => decide (uptoBulkAll ds ≤ 1048576)
def OpenSpec.upto (s : _root_.Go.ChangeSpec) : _root_.Go.OpenSpec := { _root_.Go.OpenSpec.ofChange s with cond := some uptoSmall }

/-- 'vellumlaw17.SalvageSays', WHERE WHAT IT READS IS OF BULK AT MOST 1048576: true; the input reads as it did. -/
def salvageSaysUptoRow : OpenClaim := { program := "ytjlgfcgdagikgaadoor", sum := "ea73c00f823847ac70bb50dd5e33d68a9325ffdf077172df6ff2d8d983626859", func := "vellum/vellumlaw17.SalvageSays", spec := "salvageSays", inPlace := ["sync/atomic.LoadUint32", "(*internal/sync.Mutex).Lock", "internal/race.Disable", "sync/atomic.CompareAndSwapInt32", "internal/race.Enable", "internal/race.Acquire", "(*internal/sync.Mutex).lockSlow", "internal/sync.runtime_canSpin", "internal/sync.runtime_doSpin", "internal/sync.throw", "internal/sync.runtime_nanotime", "internal/sync.runtime_SemacquireMutex", "sync/atomic.AddInt32", "(*internal/sync.Mutex).Unlock", "internal/race.ReleaseMerge", "(*internal/sync.Mutex).unlockSlow", "internal/sync.fatal", "internal/sync.runtime_Semrelease", "sync/atomic.StoreUint32"], unfollowed := true, recurses := true, named := ["internal/strconv.uint64pow10", "math/bits.deBruijn32tab", "math/bits.deBruijn64tab"], apart := false, laid := [("math/bits.deBruijn32tab", laid_math_bits_deBruijn32tab), ("math/bits.deBruijn64tab", laid_math_bits_deBruijn64tab), ("internal/strconv.uint64pow10", laid_internal_strconv_uint64pow10)], narrowed := true }
def SalvageSaysUptoSaid : Prop := salvageSaysUptoRow.holds Tryd.pinned (OpenSpec.upto salvageSaysSpec)

/-- 'vellumlaw12.CheckSays', WHERE WHAT IT READS IS OF BULK AT MOST 1048576: true; the input reads as it did. -/
def checkSaysUptoRow : OpenClaim := { program := "ytjlgfcgdagikgaadoor", sum := "ea73c00f823847ac70bb50dd5e33d68a9325ffdf077172df6ff2d8d983626859", func := "vellum/vellumlaw12.CheckSays", spec := "checkSays", inPlace := ["sync/atomic.LoadUint32", "(*internal/sync.Mutex).Lock", "internal/race.Disable", "sync/atomic.CompareAndSwapInt32", "internal/race.Enable", "internal/race.Acquire", "(*internal/sync.Mutex).lockSlow", "internal/sync.runtime_canSpin", "internal/sync.runtime_doSpin", "internal/sync.throw", "internal/sync.runtime_nanotime", "internal/sync.runtime_SemacquireMutex", "sync/atomic.AddInt32", "(*internal/sync.Mutex).Unlock", "internal/race.ReleaseMerge", "(*internal/sync.Mutex).unlockSlow", "internal/sync.fatal", "internal/sync.runtime_Semrelease", "sync/atomic.StoreUint32"], unfollowed := true, recurses := true, named := ["internal/strconv.uint64pow10", "math/bits.deBruijn32tab", "math/bits.deBruijn64tab", "vellum/vellumlaw12.words"], apart := false, laid := [("math/bits.deBruijn32tab", laid_math_bits_deBruijn32tab), ("math/bits.deBruijn64tab", laid_math_bits_deBruijn64tab), ("internal/strconv.uint64pow10", laid_internal_strconv_uint64pow10), ("vellum/vellumlaw12.words", laid_vellum_vellumlaw12_words)], narrowed := true }
def CheckSaysUptoSaid : Prop := checkSaysUptoRow.holds Tryd.pinned (OpenSpec.upto checkSaysSpec)

end Rows
end Go.Proofs.YtjlgfcgdagikgaaDoor
