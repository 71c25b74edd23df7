/- The reference's SameUpdate and Has; log.has. -/
import Derived.Test.YtkjknlnhffmkkabQUpdate2
namespace Go.Proofs.Ytkjknlnhffmkkab
open Go.RowKit
set_option linter.unusedVariables false

set_option maxHeartbeats 1000000 in
set_option maxHeartbeats 1000000 in
theorem has_calls (v p : Value) (c : List Int) (u : Upd) (w : World) (h : IntsR (wrd w) v c) (hp : PtrR UpdR (wrd w) p u) :
    Calls Try.prog 70 #[v, p] w fun e w' => e = .returned (.bool (hasU c u)) ∧ Below w.heap.size w w' := by
  obtain ⟨pb, po, cs, rfl, ⟨sv, rfl, hs⟩, hcells⟩ := hp
  obtain ⟨au, se, ki, ke, it⟩ := u
  simp only [wrd] at hs hcells ⊢
  have p0 := hcells 0 _ rfl
  have p1 := hcells 1 _ rfl
  clear hcells
  rw [Nat.add_zero] at p0
  obtain ⟨A, cc, rfl, m1, m2⟩ := h.val
  obtain ⟨A', cc', rfl, m1', m2'⟩ := IntsR.mono (rd' := wrd w) hs (Rd.le_refl _) |>.val
  unfold maxLen at m2 m2'
  by_cases a0 : au < 0
  · rw [show hasU c ⟨au, se, ki, ke, it⟩ = false by unfold hasU; simp; omega]
    have d0 : decide (0 ≤ au) = false := decide_eq_false (by omega)
    go_enter Try.func70, Try.ntmps70
    go_wp2
    go_quiet (fail)
    go_wp2
    go_ret
    exact ⟨rfl, below_drewN _ _ _⟩
  obtain ⟨k, rfl⟩ := Int.eq_ofNat_of_zero_le (Int.not_lt.1 a0)
  clear a0
  by_cases k1 : k < c.length
  rotate_left
  · rw [show hasU c ⟨k, se, ki, ke, it⟩ = false by unfold hasU; simp; omega]
    have d1 : decide (k < c.length) = false := decide_eq_false k1
    go_enter Try.func70, Try.ntmps70
    go_wp2
    go_quiet (fail)
    go_wp2
    go_ret
    exact ⟨rfl, below_drewN _ _ _⟩
  have d1 : decide (k < c.length) = true := decide_eq_true k1
  by_cases k2 : k < se.length
  rotate_left
  · rw [show hasU c ⟨k, se, ki, ke, it⟩ = false by unfold hasU; simp; omega]
    have d2 : decide (k < se.length) = false := decide_eq_false k2
    go_enter Try.func70, Try.ntmps70
    go_wp2
    go_quiet (fail)
    go_wp2
    go_ret
    exact ⟨rfl, below_drewN _ _ _⟩
  have d2 : decide (k < se.length) = true := decide_eq_true k2
  rw [hasU_in k1 k2]
  obtain ⟨b, o, rfl, hc1⟩ := h.at_ k1
  obtain ⟨b', o', rfl, hc2⟩ := IntsR.at_ hs k2
  simp only [wrd] at hc1 hc2
  go_enter Try.func70, Try.ntmps70
  go_wp2
  go_quiet (fail)
  go_wp2
  go_ret
  exact ⟨rfl, below_drewN _ _ _⟩
end Go.Proofs.Ytkjknlnhffmkkab
