/- pruneref4.Same. -/
import Derived.Test.YtkjknlnhffmkkabGreatQEqs
import Derived.Test.YtkjknlnhffmkkabGreatQEg
import Derived.Test.YtkjknlnhffmkkabGreatQClock3
namespace Go.Proofs.YtkjknlnhffmkkabGreat
open Go.RowKit
set_option linter.unusedVariables false
end Go.Proofs.YtkjknlnhffmkkabGreat
