/- Closed facts of the program: how states are read. -/
import Derived.Test.YtkjknlnhffmkkacGreatQClose2
import Derived.Test.YtkjknlnhffmkkacGreatQPl
namespace Go.Proofs.YtkjknlnhffmkkacGreat
open Go.ChangeShapes Go.WideShapes Go.ChangeAt Go.RowKit

end Go.Proofs.YtkjknlnhffmkkacGreat
