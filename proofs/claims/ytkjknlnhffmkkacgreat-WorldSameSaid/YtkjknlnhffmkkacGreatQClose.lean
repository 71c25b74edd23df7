/- Closed facts of the program: its layout, the opens of its argument types. -/
import Derived.Test.YtkjknlnhffmkkacGreatQOpen
import Derived.Test.YtkjknlnhffmkkacGreatRows
import Derived.JoinedOf
import Derived.Handed
namespace Go.Proofs.YtkjknlnhffmkkacGreat
open Go.ChangeShapes Go.WideShapes Go.ChangeAt Go.RowKit

theorem own_ : ownKnob Tryz.prog.godebug = none := by kernel_rfl
theorem laidOut : laidOutB Tryz.prog = true := by kernel_rfl
theorem op_int : Opens Tryz.prog 3 IntR (fun n => (Lit.int .i64 n).wf = true) := opens_int Tryz.underlying3
abbrev ClockBd (l : List Int) : Prop := l.length * 8 ≤ reachBytes ∧ ∀ x ∈ l, (Lit.int .i64 x).wf = true
theorem op_clock : Opens Tryz.prog 23 (SlC 1 IntR) (fun l => l.length * 8 ≤ reachBytes ∧ ∀ a ∈ l, (Lit.int .i64 a).wf = true) := opens_slice Tryz.underlying23 (by kernel_rfl) (by kernel_rfl) (by omega) op_int
end Go.Proofs.YtkjknlnhffmkkacGreat
