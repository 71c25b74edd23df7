/- The reference's SameUpdate and Has; log.has. -/
import Derived.Test.YtkjknlnhffmkkabQUpdate2
namespace Go.Proofs.Ytkjknlnhffmkkab
open Go.RowKit
set_option linter.unusedVariables false

end Go.Proofs.Ytkjknlnhffmkkab
