/- The reference's SameUpdate and Has; log.has. -/
import Derived.Test.YtkjknlnhffmkkaaQUpdate2
namespace Go.Proofs.Ytkjknlnhffmkkaa
open Go.RowKit
set_option linter.unusedVariables false

set_option maxHeartbeats 1000000 in
theorem SameU_calls (v v' : Value) (a b : Upd) (w : World) (h : AggR UpdR (wrd w) v a) (h' : AggR UpdR (wrd w) v' b) :
    Calls Try.prog 28 #[v, v'] w fun e w' => e = .returned (.bool (sameU a b)) ∧ Below w.heap.size w w' := by
  obtain ⟨cs, rfl, sv, rfl, hs⟩ := h
  obtain ⟨cs', rfl, sv', rfl, hs'⟩ := h'
  obtain ⟨au, se, ki, ke, it⟩ := a
  obtain ⟨au', se', ki', ke', it'⟩ := b
  simp only at hs hs' ⊢
  by_cases eau : au = au'
  rotate_left
  · rw [show sameU ⟨au, se, ki, ke, it⟩ ⟨au', se', ki', ke', it'⟩ = false by unfold sameU; simp [eau]]
    have q1 : (au == au') = false := by simp [eau]
    clear eau
    go_enter Try.func28, Try.ntmps28
    go_wp2
    go_ret
    exact ⟨rfl, below_alloc2 _ _ _⟩
  by_cases eki : ki = ki'
  rotate_left
  · rw [show sameU ⟨au, se, ki, ke, it⟩ ⟨au', se', ki', ke', it'⟩ = false by unfold sameU; simp [eki]]
    have q1 : (ki == ki') = false := by simp [eki]
    have qau : (au == au') = true := by simp [eau]
    clear eki eau
    go_enter Try.func28, Try.ntmps28
    go_wp2
    go_ret
    exact ⟨rfl, below_alloc2 _ _ _⟩
  by_cases eke : ke = ke'
  rotate_left
  · rw [show sameU ⟨au, se, ki, ke, it⟩ ⟨au', se', ki', ke', it'⟩ = false by unfold sameU; simp [eke]]
    have q1 : (ke == ke') = false := by simp [eke]
    have qau : (au == au') = true := by simp [eau]
    have qki : (ki == ki') = true := by simp [eki]
    clear eke eau eki
    go_enter Try.func28, Try.ntmps28
    go_wp2
    go_ret
    exact ⟨rfl, below_alloc2 _ _ _⟩
  by_cases eit : it = it'
  rotate_left
  · rw [show sameU ⟨au, se, ki, ke, it⟩ ⟨au', se', ki', ke', it'⟩ = false by unfold sameU; simp [eit]]
    have q1 : (it == it') = false := by simp [eit]
    have qau : (au == au') = true := by simp [eau]
    have qki : (ki == ki') = true := by simp [eki]
    have qke : (ke == ke') = true := by simp [eke]
    clear eit eau eki eke
    go_enter Try.func28, Try.ntmps28
    go_wp2
    go_ret
    exact ⟨rfl, below_alloc2 _ _ _⟩
  subst eau eki eke eit
  rw [show sameU ⟨au, se, ki, ke, it⟩ ⟨au, se', ki, ke, it⟩ = sameL se se' by unfold sameU sameL; simp]
  have q1 : (au == au) = true := by simp
  have q2 : (ki == ki) = true := by simp
  have q3 : (ke == ke) = true := by simp
  have q4 : (it == it) = true := by simp
  go_enter Try.func28, Try.ntmps28
  go_wp2_with (go_at_call 18; refine (Same_calls _ _ _ _ _ (SliceR.up hs (below_alloc2 _ _ _)) (SliceR.up hs' (below_alloc2 _ _ _))).mono ?_; rintro e w' ⟨rfl, k⟩)
  go_ret
  exact ⟨rfl, below_of_alloc (below_of_alloc k)⟩
end Go.Proofs.Ytkjknlnhffmkkaa
