/- Steps on bytes: to a byte and back, quotient; a row of bytes. Plain theorems over any program. -/
import Derived.Test.YtkjknlnhffmkkaaQBytesP
import Derived.Test.YtkjknlnhffmkkaaQTy
namespace Go.Proofs.Ytkjknlnhffmkkaa
open Go.RowKit
set_option linter.unusedVariables false
theorem y_quo {P : Program} {C : World → Prop} {e : Operand → Value} {d : Option Tmp} {t ty yt : TypeId} {pos : String} {af : Array Edge} {g : Option (Nat × Bool)} {x y : Operand} {k : IntKind} {p q r : Int} (h1 : e x = .int k p) (h2 : e y = .int k q) (hq : q ≠ 0) (h : k.wrap (p.tdiv q) = r) : Yv P C e ⟨d, .binOp .quo t x y yt, ty, pos, af, g⟩ (.int k r) := fun w _ => by
  subst h
  simp [execOp, h1, h2, eqGuard, binOp, Op.intDiv, hq]
theorem u8_byI (n : Int) : IntKind.u8.wrap n = ((byI n).toNat : Int) := by
  rw [IntKind.wrap_u8]
  unfold byI
  rw [UInt8.toNat_ofNat']
  omega
theorem i64_iB (b : UInt8) : IntKind.i64.wrap (b.toNat : Int) = iB b := by
  have := b.toNat_lt
  exact w64 (by omega) (by omega)
theorem quo_p {p q : Int} (hp : 0 ≤ p) (hb : p < 9223372036854775808) (hq : 0 < q) : IntKind.i64.wrap (p.tdiv q) = p / q := by
  rw [Int.tdiv_eq_ediv_of_nonneg hp]
  have h1 : 0 ≤ p / q := Int.ediv_nonneg hp (by omega)
  have h2 : p / q ≤ p := Int.ediv_le_self _ hp
  exact w64 (by omega) (by omega)
theorem rem_p {p q : Int} (hp : 0 ≤ p) : p.tmod q = p % q := Int.tmod_eq_emod_of_nonneg hp
theorem by_rem (n : Int) : IntKind.u8.wrap (n % 256) = ((byI n).toNat : Int) := by rw [u8_byI, byI_mod]
theorem seenB_snoc (h : List UInt8) {l : List Int} {k : Nat} {z : Int} (hz : l[k]? = some z) : h ++ seenB (l.take (k + 1)) = h ++ seenB (l.take k) ++ [byI (z / 256)] ++ [byI z] := by
  rw [take_snoc hz, seenB_app]; simp [seenB]
end Go.Proofs.Ytkjknlnhffmkkaa
