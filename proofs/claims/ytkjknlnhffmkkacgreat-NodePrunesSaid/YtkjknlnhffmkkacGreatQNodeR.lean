/- Nodes and parcels in memory. Plain; no program in sight. -/
import Derived.Test.YtkjknlnhffmkkacGreatQPl
import Derived.Test.YtkjknlnhffmkkacGreatQEg
namespace Go.Proofs.YtkjknlnhffmkkacGreat
open Go.RowKit
set_option linter.unusedVariables false
def NodeR : CR Node := fun rd cs d => ∃ a b c e f g, cs = [.int .i64 d.self, a, b, c, e, f, g] ∧ SliceR 1 IntR rd a d.state.clock ∧ SliceR 5 LiveR rd b d.state.lives ∧ SliceR 3 TallyR rd c d.state.tallies ∧ SliceR 1 IntR rd e d.base ∧ SliceR 5 UpdR rd f d.log ∧ SliceR 1 (SlC 1 IntR) rd g d.known
def ParcelR : CR Parcel := fun rd cs p => ∃ a b c e f, cs = [.bool p.whole, a, b, c, e, f] ∧ SliceR 1 IntR rd a p.state.clock ∧ SliceR 5 LiveR rd b p.state.lives ∧ SliceR 3 TallyR rd c p.state.tallies ∧ SliceR 5 UpdR rd e p.updates ∧ SliceR 1 IntR rd f p.clock
theorem sl_one {α : Type} {size : Nat} {R : CR α} {rd : Rd} {v : Value} {l : List α} (h : SliceR size R rd v l) : v.oneCell' = true := by
  obtain ⟨A, c, e, _⟩ := h.val; subst e; rfl
instance : GoodR NodeR := ⟨fun _ _ _ _ hle ⟨a, b, c, e, f, g, ee, h1, h2, h3, h4, h5, h6⟩ => ⟨a, b, c, e, f, g, ee, h1.mono GoodR.mono hle, h2.mono GoodR.mono hle, h3.mono GoodR.mono hle, h4.mono GoodR.mono hle, h5.mono GoodR.mono hle, h6.mono GoodR.mono hle⟩,
  fun _ _ _ ⟨a, b, c, e, f, g, ee, h1, h2, h3, h4, h5, h6⟩ u hu => by
    subst ee
    simp only [List.mem_cons, List.not_mem_nil, or_false] at hu
    rcases hu with h | h | h | h | h | h | h <;> subst h
    · rfl
    · exact sl_one h1
    · exact sl_one h2
    · exact sl_one h3
    · exact sl_one h4
    · exact sl_one h5
    · exact sl_one h6⟩
instance : GoodR ParcelR := ⟨fun _ _ _ _ hle ⟨a, b, c, e, f, ee, h1, h2, h3, h4, h5⟩ => ⟨a, b, c, e, f, ee, h1.mono GoodR.mono hle, h2.mono GoodR.mono hle, h3.mono GoodR.mono hle, h4.mono GoodR.mono hle, h5.mono GoodR.mono hle⟩,
  fun _ _ _ ⟨a, b, c, e, f, ee, h1, h2, h3, h4, h5⟩ u hu => by
    subst ee
    simp only [List.mem_cons, List.not_mem_nil, or_false] at hu
    rcases hu with h | h | h | h | h | h <;> subst h
    · rfl
    · exact sl_one h1
    · exact sl_one h2
    · exact sl_one h3
    · exact sl_one h4
    · exact sl_one h5⟩
end Go.Proofs.YtkjknlnhffmkkacGreat
