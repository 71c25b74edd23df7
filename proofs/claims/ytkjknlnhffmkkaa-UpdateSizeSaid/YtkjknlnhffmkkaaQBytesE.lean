/- Steps on bytes: to a byte and back, quotient; a row of bytes. Plain theorems over any program. -/
import Derived.Test.YtkjknlnhffmkkaaQBytesP
import Derived.Test.YtkjknlnhffmkkaaQTy
namespace Go.Proofs.Ytkjknlnhffmkkaa
open Go.RowKit
set_option linter.unusedVariables false
theorem u8_byI (n : Int) : IntKind.u8.wrap n = ((byI n).toNat : Int) := by
  rw [IntKind.wrap_u8]
  unfold byI
  rw [UInt8.toNat_ofNat']
  omega
theorem i64_iB (b : UInt8) : IntKind.i64.wrap (b.toNat : Int) = iB b := by
  have := b.toNat_lt
  exact w64 (by omega) (by omega)
theorem seenB_snoc (h : List UInt8) {l : List Int} {k : Nat} {z : Int} (hz : l[k]? = some z) : h ++ seenB (l.take (k + 1)) = h ++ seenB (l.take k) ++ [byI (z / 256)] ++ [byI z] := by
  rw [take_snoc hz, seenB_app]; simp [seenB]
end Go.Proofs.Ytkjknlnhffmkkaa
