/- pruneref4.Same. -/
import Derived.Test.YtkjknlnhffmkkadGreatQEqs
import Derived.Test.YtkjknlnhffmkkadGreatQEg
import Derived.Test.YtkjknlnhffmkkadGreatQClock3
namespace Go.Proofs.YtkjknlnhffmkkadGreat
open Go.RowKit
set_option linter.unusedVariables false
end Go.Proofs.YtkjknlnhffmkkadGreat
