/- Closed facts of the program: how nodes and parcels are read. -/
import Derived.Test.YtkjknlnhffmkkacGreatQClose4
import Derived.Test.YtkjknlnhffmkkacGreatQNodeR
namespace Go.Proofs.YtkjknlnhffmkkacGreat
open Go.ChangeShapes Go.WideShapes Go.ChangeAt Go.RowKit
set_option linter.unusedVariables false
theorem op_clocks : Opens Tryz.prog 29 (SlC 1 (SlC 1 IntR)) (fun l => l.length * 24 ≤ reachBytes ∧ ∀ a ∈ l, ClockBd a) := opens_slice Tryz.underlying29 (by kernel_rfl) (by kernel_rfl) (by omega) op_clock
theorem fields_5 {P : Program} {t : TypeId} {f0 f1 f2 f3 f4 : Field} {k0 k1 k2 k3 k4 o0 o1 o2 o3 o4 : Nat} (ht : P.underlying t = some (.struct #[f0, f1, f2, f3, f4])) (hk : [(P.cellsOf f0.type, f0.offset), (P.cellsOf f1.type, f1.offset), (P.cellsOf f2.type, f2.offset), (P.cellsOf f3.type, f3.offset), (P.cellsOf f4.type, f4.offset)] = ([(k0, o0), (k1, o1), (k2, o2), (k3, o3), (k4, o4)] : List (Nat × Nat))) {H : Type} {enc : TypeId × Value → H} {w : World} {fuel : Nat} {cs : List Value} {x : DataW H × List MemPlace}
    (h : DataW.trod enc P w 0 (fun _ => true) true fuel t cs = some x) (hw : (x.1.weights P t).all (· ≤ reachBytes) = true) : ∃ m y0 y1 y2 y3 y4, cs.length = P.cellsOf t ∧ DataW.trod enc P w 0 (fun _ => true) true m f0.type ((cs.drop o0).take k0) = some y0 ∧ (y0.1.weights P f0.type).all (· ≤ reachBytes) = true ∧ DataW.trod enc P w 0 (fun _ => true) true m f1.type ((cs.drop o1).take k1) = some y1 ∧ (y1.1.weights P f1.type).all (· ≤ reachBytes) = true ∧ DataW.trod enc P w 0 (fun _ => true) true m f2.type ((cs.drop o2).take k2) = some y2 ∧ (y2.1.weights P f2.type).all (· ≤ reachBytes) = true ∧ DataW.trod enc P w 0 (fun _ => true) true m f3.type ((cs.drop o3).take k3) = some y3 ∧ (y3.1.weights P f3.type).all (· ≤ reachBytes) = true ∧ DataW.trod enc P w 0 (fun _ => true) true m f4.type ((cs.drop o4).take k4) = some y4 ∧ (y4.1.weights P f4.type).all (· ≤ reachBytes) = true := by
  obtain ⟨xs, m, _, rfl, hlen, hxl, hf⟩ := DataW.trod_struct ht h
  simp only [List.cons.injEq, Prod.mk.injEq, and_true] at hk
  match xs, hxl with
  | [y0, y1, y2, y3, y4], _ =>
    simp only [DataW.weights, ht, List.map_cons, List.map_nil] at hw
    obtain ⟨z0, hw⟩ := weights_each hw
    obtain ⟨z1, hw⟩ := weights_each hw
    obtain ⟨z2, hw⟩ := weights_each hw
    obtain ⟨z3, hw⟩ := weights_each hw
    obtain ⟨z4, hw⟩ := weights_each hw
    have e0 := hf 0 f0 rfl
    have e1 := hf 1 f1 rfl
    have e2 := hf 2 f2 rfl
    have e3 := hf 3 f3 rfl
    have e4 := hf 4 f4 rfl
    obtain ⟨⟨q0, p0⟩, ⟨q1, p1⟩, ⟨q2, p2⟩, ⟨q3, p3⟩, ⟨q4, p4⟩⟩ := hk
    rw [q0, p0] at e0
    rw [q1, p1] at e1
    rw [q2, p2] at e2
    rw [q3, p3] at e3
    rw [q4, p4] at e4
    exact ⟨m, y0, y1, y2, y3, y4, hlen, e0, z0, e1, z1, e2, z2, e3, z3, e4, z4⟩
structure NodeBd (d : Node) : Prop where
  s : StateBd d.state
  b : ClockBd d.base
  l : UpdsBd d.log
  k : d.known.length * 24 ≤ reachBytes ∧ ∀ a ∈ d.known, ClockBd a
set_option maxRecDepth 100000 in
theorem op_node : Opens Tryz.prog 31 NodeR NodeBd := by
  intro H enc w fuel cs x h hw
  obtain ⟨m, y0, y1, y2, y3, y4, hlen, e0, z0, e1, z1, e2, z2, e3, z3, e4, z4⟩ := fields_5 (k0 := 1) (o0 := 0) (k1 := 3) (o1 := 1) (k2 := 1) (o2 := 4) (k3 := 1) (o3 := 5) (k4 := 1) (o4 := 6) Tryz.underlying31 (by kernel_rfl) h hw
  rw [show Tryz.prog.cellsOf 31 = 7 from by kernel_rfl] at hlen
  match cs, hlen with
  | [c0, c1, c2, c3, c4, c5, c6], _ =>
    obtain ⟨a0, r0, b0⟩ := op_int enc w m [c0] y0 (by simpa using e0) z0
    obtain ⟨a1, ⟨s0, s1, s2, es, r1, r2, r3⟩, b1⟩ := op_state enc w m [c1, c2, c3] y1 (by simpa using e1) z1
    obtain ⟨a2, ⟨s3, e5, r4⟩, b2⟩ := op_clock enc w m [c4] y2 (by simpa using e2) z2
    obtain ⟨a3, ⟨s4, e6, r5⟩, b3⟩ := op_upds enc w m [c5] y3 (by simpa using e3) z3
    obtain ⟨a4, ⟨s5, e7, r6⟩, b4⟩ := op_clocks enc w m [c6] y4 (by simpa using e4) z4
    cases r0; cases es; cases e5; cases e6; cases e7
    exact ⟨⟨a0, a1, a2, a3, a4⟩, ⟨_, _, _, _, _, _, rfl, r1, r2, r3, r4, r5, r6⟩, ⟨b1, b2, b3, b4⟩⟩
end Go.Proofs.YtkjknlnhffmkkacGreat
