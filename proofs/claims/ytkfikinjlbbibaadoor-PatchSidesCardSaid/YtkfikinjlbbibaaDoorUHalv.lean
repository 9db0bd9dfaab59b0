/- Packed by this session's own program (wip/tools/pack.py): what the claim needs of its texts. -/
import Derived.Test.YtkfikinjlbbibaaDoorUPTx0
import Derived.WalkKit
namespace Go.Proofs.YtkfikinjlbbibaaDoor
open Go.RowKit
open Go.Proofs.YtkfikinjlbbibaaDoorW.PrintWords Go.Proofs.YtkfikinjlbbibaaDoorW.PrintLast
set_option linter.unusedVariables false
set_option linter.unusedSimpArgs false
def halfT : List Int := [0, 274646895, 549293790, 820201905, 1098587580, 1361435347, 1640403810, 1905808397, 2197175160, 2460548119, 2722870694, 2987750089, 3280807620, 3553878443, 3811616794, 4084100981]
def halfV : Array Value := (halfT.map (Value.int .u32)).toArray
set_option maxHeartbeats 1000000 in
theorem halves_any (w : World) : Calls Tryd.prog 54 #[] w fun e w' => e = .returned (.agg halfV) ∧ Below w.heap.size w w' := by
  have hu := Tryd.underlying90
  go_enter Tryd.func54, Tryd.ntmps54
  go_wp2
  exact bodyPost_ret (v := .agg halfV) (by simp [results, Tryd.results54, go_sem, halfV, halfT]) rfl ⟨rfl, (Below.refl _ _).alloc (Nat.le_refl _) _⟩
end Go.Proofs.YtkfikinjlbbibaaDoor
