/- What is wrong with an update: the program's answer and the reference's. -/
import Derived.Test.YtkjknlnhffmkkabQClock3
import Derived.Test.YtkjknlnhffmkkabQPl
import Derived.Test.YtkjknlnhffmkkabQTy
namespace Go.Proofs.Ytkjknlnhffmkkab
open Go.RowKit
set_option linter.unusedVariables false
theorem atI_nth {l : List Int} {k : Nat} {z : Int} (h : l[k]? = some z) : atI l k = z := by
  unfold atI; rw [List.getD, h]; rfl
end Go.Proofs.Ytkjknlnhffmkkab
