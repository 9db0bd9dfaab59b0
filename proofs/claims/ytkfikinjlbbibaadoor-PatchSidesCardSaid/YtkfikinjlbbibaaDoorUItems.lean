/- Packed by this session's own program (wip/tools/pack.py): what the claim needs of its texts. -/
import Derived.Test.YtkfikinjlbbibaaDoorURead
import Derived.Test.YtkfikinjlbbibaaDoorUThr
namespace Go.Proofs.YtkfikinjlbbibaaDoor
open Go.RowKit Go.ChangeShapes Go.WideShapes
open Go.Proofs.YtkfikinjlbbibaaDoorW.PrintWords Go.Proofs.YtkfikinjlbbibaaDoorW.PrintLast Go.Proofs.YtkfikinjlbbibaaDoor.PT
set_option linter.unusedVariables false
set_option linter.unusedSimpArgs false
theorem rdRun : Rdr Tryd.prog 73 k73 (fun _ => True) :=
  (Rdr.struct (fun x : S73 => (x.f0, x.f1)) (fun y => ⟨⟨y.1, y.2⟩, rfl⟩) Tryd.underlying73 (by kernel_rfl)
    (RdF.cons rfl (by kernel_rfl) (Rdr.int Tryd.underlying3) (RdF.last rfl (by kernel_rfl) (Rdr.int Tryd.underlying3)))).good (fun _ _ => trivial)
theorem wf_u8 {n : Int} (h : (Lit.int .u8 n).wf = true) : 0 ≤ n ∧ n ≤ 255 := by
  simp [Lit.wf, IntKind.min, IntKind.max, IntKind.signed, IntKind.bits] at h
  omega
theorem rdItem : Rdr Tryd.prog 27 k27 (fun x => Fit x ∧ x.f4.length < 8796093022208) := by
  have b1 : Tryd.prog.bytesOf 73 = 16 := by kernel_rfl
  have b2 : Tryd.prog.bytesOf 5 = 1 := by kernel_rfl
  refine (Rdr.struct (fun x : S27 => (x.f0, x.f1, x.f2, x.f3, x.f4, x.f5)) (fun y => ⟨⟨y.1, y.2.1, y.2.2.1, y.2.2.2.1, y.2.2.2.2.1, y.2.2.2.2.2⟩, rfl⟩) Tryd.underlying27 (by kernel_rfl)
    (RdF.cons rfl (by kernel_rfl) (Rdr.int Tryd.underlying3) (RdF.cons rfl (by kernel_rfl) (Rdr.string Tryd.underlying9) (RdF.cons rfl (by kernel_rfl) (Rdr.string Tryd.underlying9) (RdF.cons rfl (by kernel_rfl) (Rdr.int Tryd.underlying3)
      (RdF.cons rfl (by kernel_rfl) (Rdr.slice 73 Tryd.underlying24 (by kernel_rfl) rdRun) (RdF.last rfl (by kernel_rfl) (Rdr.slice 5 Tryd.underlying25 (by kernel_rfl) (Rdr.int Tryd.underlying5))))))))).good ?_
  rintro x ⟨_, h1, h2, _, ⟨h4, _⟩, h5, h6⟩
  dsimp only at h1 h2 h4 h5 h6
  rw [b1] at h4
  rw [b2] at h5
  unfold reachBytes at h1 h2 h4 h5
  exact ⟨⟨by omega, by omega, by omega, by omega, fun n hn => wf_u8 (h6 n hn)⟩, by omega⟩
theorem rdItems : Rdr Tryd.prog 22 (Kd.slice 27 k27) Came := by
  have b1 : Tryd.prog.bytesOf 27 = 96 := by kernel_rfl
  refine (Rdr.slice 27 Tryd.underlying22 (by kernel_rfl) rdItem).good ?_
  rintro l ⟨h1, h2⟩
  rw [b1] at h1
  unfold reachBytes at h1
  exact ⟨by omega, fun x hx => (h2 x hx).2, fun x hx => (h2 x hx).1⟩
end Go.Proofs.YtkfikinjlbbibaaDoor
