/- Closed facts of the program: how nodes and parcels are read. -/
import Derived.Test.YtkjknlnhffmkkacGreatQClose4
import Derived.Test.YtkjknlnhffmkkacGreatQEg
namespace Go.Proofs.YtkjknlnhffmkkacGreat
open Go.ChangeShapes Go.WideShapes Go.ChangeAt Go.RowKit
set_option linter.unusedVariables false
theorem fields_4 {P : Program} {t : TypeId} {f0 f1 f2 f3 : Field} {k0 k1 k2 k3 o0 o1 o2 o3 : Nat} (ht : P.underlying t = some (.struct #[f0, f1, f2, f3])) (hk : [(P.cellsOf f0.type, f0.offset), (P.cellsOf f1.type, f1.offset), (P.cellsOf f2.type, f2.offset), (P.cellsOf f3.type, f3.offset)] = ([(k0, o0), (k1, o1), (k2, o2), (k3, o3)] : List (Nat × Nat))) {H : Type} {enc : TypeId × Value → H} {w : World} {fuel : Nat} {cs : List Value} {x : DataW H × List MemPlace}
    (h : DataW.trod enc P w 0 (fun _ => true) true fuel t cs = some x) (hw : (x.1.weights P t).all (· ≤ reachBytes) = true) : ∃ m y0 y1 y2 y3, cs.length = P.cellsOf t ∧ DataW.trod enc P w 0 (fun _ => true) true m f0.type ((cs.drop o0).take k0) = some y0 ∧ (y0.1.weights P f0.type).all (· ≤ reachBytes) = true ∧ DataW.trod enc P w 0 (fun _ => true) true m f1.type ((cs.drop o1).take k1) = some y1 ∧ (y1.1.weights P f1.type).all (· ≤ reachBytes) = true ∧ DataW.trod enc P w 0 (fun _ => true) true m f2.type ((cs.drop o2).take k2) = some y2 ∧ (y2.1.weights P f2.type).all (· ≤ reachBytes) = true ∧ DataW.trod enc P w 0 (fun _ => true) true m f3.type ((cs.drop o3).take k3) = some y3 ∧ (y3.1.weights P f3.type).all (· ≤ reachBytes) = true := by
  obtain ⟨xs, m, _, rfl, hlen, hxl, hf⟩ := DataW.trod_struct ht h
  simp only [List.cons.injEq, Prod.mk.injEq, and_true] at hk
  match xs, hxl with
  | [y0, y1, y2, y3], _ =>
    simp only [DataW.weights, ht, List.map_cons, List.map_nil] at hw
    obtain ⟨z0, hw⟩ := weights_each hw
    obtain ⟨z1, hw⟩ := weights_each hw
    obtain ⟨z2, hw⟩ := weights_each hw
    obtain ⟨z3, hw⟩ := weights_each hw
    have e0 := hf 0 f0 rfl
    have e1 := hf 1 f1 rfl
    have e2 := hf 2 f2 rfl
    have e3 := hf 3 f3 rfl
    obtain ⟨⟨q0, p0⟩, ⟨q1, p1⟩, ⟨q2, p2⟩, ⟨q3, p3⟩⟩ := hk
    rw [q0, p0] at e0
    rw [q1, p1] at e1
    rw [q2, p2] at e2
    rw [q3, p3] at e3
    exact ⟨m, y0, y1, y2, y3, hlen, e0, z0, e1, z1, e2, z2, e3, z3⟩
end Go.Proofs.YtkjknlnhffmkkacGreat
