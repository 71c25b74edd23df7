/- Steps on strings: a row of bytes made a string; two strings held against each other. Plain theorems over any program. -/
import Derived.Test.YtkjknlnhffmkkaaQEg
import Derived.Laws.Strings
import Derived.Laws.IdiomStrings
import Derived.Laws.BytesArg
namespace Go.Proofs.Ytkjknlnhffmkkaa
open Go.RowKit
set_option linter.unusedVariables false
def strV (l : List UInt8) : Value := .string ⟨l.toArray⟩
section
variable {P : Program} {C : World → Prop} {e : Operand → Value} {d : Option Tmp} {t ty yt : TypeId} {pos : String} {af : Array Edge} {gd : Option (Nat × Bool)} {x y : Operand} {rd : Rd}
theorem y_str {s el : TypeId} {v : Value} {l : List UInt8} (hs : P.underlying s = some (.slice el)) (he : P.underlying el = some (.int .u8)) (hd : P.underlying t = some .string) (hle : ∀ w, C w → Rd.le rd (wrd w)) (h : SliceR 1 ByteR rd v l) (hx : e x = v) : Yv P C e ⟨d, .convert s t x, ty, pos, af, gd⟩ (strV l) := fun w hw => by
  obtain ⟨A, c, xs, e1, h1, h2, h3, h4⟩ := h
  subst e1
  have key : (convert s t (.slice A l.length c)).run P w = .ok (strV l) w := by
    cases A with
    | none =>
      have : l = [] := by
        cases l with
        | nil => rfl
        | cons a l => obtain ⟨b, o, q, _⟩ := h4 (by simp); cases q
      subst this
      exact run_convert_bytes_nil w s el hs he _ _ t hd
    | some ad =>
      refine run_convert_bytes_back w s t el ad c l hs he hd fun j hj => ?_
      obtain ⟨b, o, q, hc⟩ := h4 (by intro q; subst q; simp at hj)
      injection q with q; subst q
      obtain ⟨cs, a1, a2, a3⟩ := h3.get j (x := l[j]) (by simp [hj])
      have a2 : cs = [.int .u8 l[j].toNat] := a2
      subst a2
      have := hle w hw _ _ _ (hc _ _ (a3 0 _ rfl))
      simp only [Nat.mul_one, Nat.add_zero] at this
      rw [Addr.add_mid]
      exact this
  simp [execOp, hx, key]
theorem y_strF {l m : List UInt8} (h1 : e x = strV l) (h2 : e y = strV m) (h : l = m) : Yv P C e ⟨d, .binOp .neq t x y yt, ty, pos, af, gd⟩ (.bool false) := fun w _ => by
  simp [execOp, h1, h2, strV, eqGuard, binOp, Op.stringOp, ByteArray.toList_eq, h]
end
end Go.Proofs.Ytkjknlnhffmkkaa
