/- Closed facts of the program: how states are read. -/
import Derived.Test.YtkjknlnhffmkkacGreatQClose2
import Derived.Test.YtkjknlnhffmkkacGreatQPl
namespace Go.Proofs.YtkjknlnhffmkkacGreat
open Go.ChangeShapes Go.WideShapes Go.ChangeAt Go.RowKit

theorem op_bool : Opens Tryz.prog 4 BoolR (fun _ => True) := opens_bool Tryz.underlying4
theorem op_live : Opens Tryz.prog 104 LiveR (fun _ => True) := by
  intro H enc w fuel cs x h hw
  obtain ⟨c0, c1, c2, c3, c4, a0, a1, a2, a3, a4, rfl, r0, _, r1, _, r2, _, r3, _, r4, _⟩ := opens_5 Tryz.underlying104 (by kernel_rfl) (by kernel_rfl) op_bool op_int op_int op_int op_int enc w fuel cs x h hw
  cases r0; cases r1; cases r2; cases r3; cases r4
  exact ⟨⟨a0, a1, a2, a3, a4⟩, rfl, trivial⟩
theorem op_tally : Opens Tryz.prog 106 TallyR (fun _ => True) := by
  intro H enc w fuel cs x h hw
  obtain ⟨c0, c1, c2, a0, a1, a2, rfl, r0, _, r1, _, r2, _⟩ := opens_3 Tryz.underlying106 (by kernel_rfl) (by kernel_rfl) op_int op_int op_int enc w fuel cs x h hw
  cases r0; cases r1; cases r2
  exact ⟨⟨a0, a1, a2⟩, rfl, trivial⟩
theorem op_lives : Opens Tryz.prog 24 (SlC 5 LiveR) (fun l => l.length * 40 ≤ reachBytes ∧ ∀ a ∈ l, True) := opens_slice Tryz.underlying24 (by kernel_rfl) (by kernel_rfl) (by omega) op_live
theorem op_tallies : Opens Tryz.prog 25 (SlC 3 TallyR) (fun l => l.length * 24 ≤ reachBytes ∧ ∀ a ∈ l, True) := opens_slice Tryz.underlying25 (by kernel_rfl) (by kernel_rfl) (by omega) op_tally
structure StateBd (s : State) : Prop where
  c : ClockBd s.clock
  l : s.lives.length * 40 ≤ reachBytes
  t : s.tallies.length * 24 ≤ reachBytes
theorem op_state : Opens Tryz.prog 27 StateR StateBd := by
  intro H enc w fuel cs x h hw
  obtain ⟨c0, c1, c2, a0, a1, a2, rfl, ⟨s0, e0, r0⟩, b0, ⟨s1, e1, r1⟩, b1, ⟨s2, e2, r2⟩, b2⟩ := opens_3 Tryz.underlying27 (by kernel_rfl) (by kernel_rfl) op_clock op_lives op_tallies enc w fuel cs x h hw
  cases e0; cases e1; cases e2
  exact ⟨⟨a0, a1, a2⟩, ⟨_, _, _, rfl, r0, r1, r2⟩, ⟨b0, b1.1, b2.1⟩⟩
end Go.Proofs.YtkjknlnhffmkkacGreat
