/- Closed facts of the program: how updates are read. -/
import Derived.Test.YtkjknlnhffmkkacGreatQClose
import Derived.Test.YtkjknlnhffmkkacGreatQPl
import Derived.Deep.Fields
namespace Go.Proofs.YtkjknlnhffmkkacGreat
open Go.ChangeShapes Go.WideShapes Go.ChangeAt Go.RowKit

abbrev UpdBd1 (u : Upd) : Prop := ClockBd u.seen
theorem op_upd : Opens Tryz.prog 42 UpdR UpdBd1 := by
  intro H enc w fuel cs x h hw
  obtain ⟨c0, c1, c2, c3, c4, a0, a1, a2, a3, a4, rfl, r0, _, ⟨sv, e, r1⟩, b1, r2, _, r3, _, r4, _⟩ := opens_5 Tryz.underlying42 (by kernel_rfl) (by kernel_rfl) op_int op_clock op_int op_int op_int enc w fuel cs x h hw
  cases r0; cases r2; cases r3; cases r4; cases e
  exact ⟨⟨a0, a1, a2, a3, a4⟩, ⟨_, rfl, r1⟩, b1⟩
end Go.Proofs.YtkjknlnhffmkkacGreat
