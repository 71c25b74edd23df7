/- Closed facts of the program: how bytes are read. -/
import Derived.Test.YtkjknlnhffmkkaaQCl
import Derived.Deep.Fields
namespace Go.Proofs.Ytkjknlnhffmkkaa
open Go.ChangeShapes Go.WideShapes Go.ChangeAt Go.RowKit
abbrev BytesBd (l : List UInt8) : Prop := l.length * 1 ≤ reachBytes ∧ ∀ a ∈ l, True
theorem op_bytes : Opens Try.prog 33 (SlC 1 ByteR) BytesBd := opens_slice Try.underlying33 (by kernel_rfl) (by kernel_rfl) (by omega) (opens_byte Try.underlying5)
end Go.Proofs.Ytkjknlnhffmkkaa
