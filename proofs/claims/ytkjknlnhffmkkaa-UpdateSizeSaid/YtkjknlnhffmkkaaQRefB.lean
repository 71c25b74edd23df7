/- An update's bytes, read: the document's. -/
import Derived.Test.YtkjknlnhffmkkaaQBytes
import Derived.Test.YtkjknlnhffmkkaaQEg
namespace Go.Proofs.Ytkjknlnhffmkkaa
open Go.RowKit
set_option linter.unusedVariables false
theorem atB_of {b : List UInt8} {k : Nat} {z : UInt8} (h : b[k]? = some z) : iB z = atB b k := by
  unfold atB; rw [List.getD, h]; rfl
theorem atB_bd (b : List UInt8) (k : Nat) : 0 ≤ atB b k ∧ atB b k ≤ 255 := iB_bd _
end Go.Proofs.Ytkjknlnhffmkkaa
