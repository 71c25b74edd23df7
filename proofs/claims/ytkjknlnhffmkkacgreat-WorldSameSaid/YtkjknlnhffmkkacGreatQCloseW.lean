/- Closed facts of the program: how deeds are read. -/
import Derived.Test.YtkjknlnhffmkkacGreatQCloseN
import Derived.Test.YtkjknlnhffmkkacGreatQEg
namespace Go.Proofs.YtkjknlnhffmkkacGreat
open Go.ChangeShapes Go.WideShapes Go.ChangeAt Go.RowKit
set_option linter.unusedVariables false
def DoBd (d : Do) : Prop := UpdBd1 d.update
set_option maxRecDepth 100000 in
theorem op_do : Opens Tryz.prog 65 DoR DoBd := by
  intro H enc w fuel cs x h hw
  obtain ⟨m, y0, y1, y2, y3, hlen, e0, z0, e1, z1, e2, z2, e3, z3⟩ := fields_4 (k0 := 1) (o0 := 0) (k1 := 1) (o1 := 1) (k2 := 1) (o2 := 2) (k3 := 5) (o3 := 3) Tryz.underlying65 (by kernel_rfl) h hw
  rw [show Tryz.prog.cellsOf 65 = 8 from by kernel_rfl] at hlen
  match cs, hlen with
  | [c0, c1, c2, c3, c4, c5, c6, c7], _ =>
    obtain ⟨a0, r0, b0⟩ := op_int enc w m [c0] y0 (by simpa using e0) z0
    obtain ⟨a1, r1, b1⟩ := op_int enc w m [c1] y1 (by simpa using e1) z1
    obtain ⟨a2, r2, b2⟩ := op_int enc w m [c2] y2 (by simpa using e2) z2
    obtain ⟨a3, ⟨s3, e5, r4⟩, b3⟩ := op_upd enc w m [c3, c4, c5, c6, c7] y3 (by simpa using e3) z3
    cases r0; cases r1; cases r2; cases e5
    exact ⟨⟨a0, a1, a2, a3⟩, ⟨_, rfl, r4⟩, b3⟩
theorem op_dos : Opens Tryz.prog 54 (SlC 8 DoR) (fun l => l.length * 80 ≤ reachBytes ∧ ∀ a ∈ l, DoBd a) := opens_slice Tryz.underlying54 (by kernel_rfl) (by kernel_rfl) (by omega) op_do
end Go.Proofs.YtkjknlnhffmkkacGreat
