/- Package clock and the reference's clocks, further: Clone, Index, Contains, Has, Tick, Sees, Join, Meet; the reference's Wrong, Join, Meet, Sees, Same. -/
import Derived.Test.YtkjknlnhffmkkabQClock
import Derived.Deep.QuietTactic
import Derived.BigQuiet
import Derived.WalkSpells
namespace Go.Proofs.Ytkjknlnhffmkkab
open Go.RowKit
set_option linter.unusedVariables false

theorem Has_calls (v : Value) (l : List Int) (a s : Int) (w : World) (h : IntsR (wrd w) v l) :
    Calls Try.prog 29 #[v, .int .i64 a, .int .i64 s] w fun e w' => e = .returned (.bool (hasC l a s)) ∧ w = w' := by
  obtain ⟨A, c, rfl, h1, h2⟩ := h.val
  unfold maxLen at h2
  by_cases h0 : 0 ≤ a
  · obtain ⟨k, rfl⟩ := Int.eq_ofNat_of_zero_le h0
    by_cases hk : k < l.length
    · obtain ⟨b, o, rfl, hc⟩ := h.at_ hk
      simp only [wrd] at hc
      have e : hasC l k s = decide (s ≤ l[k]) := by unfold hasC; rw [Int.toNat_natCast, atI_lt hk]; simp [hk]
      rw [e]; clear e h
      go_enter Try.func29, Try.ntmps29
      go_wp2
      go_ret
      exact ⟨rfl, rfl⟩
    · have e : hasC l k s = false := by unfold hasC; simp; omega
      rw [e]; clear e h
      go_enter Try.func29, Try.ntmps29
      go_wp2
      go_ret
      exact ⟨rfl, rfl⟩
  · have e : hasC l a s = false := by unfold hasC; simp; omega
    rw [e]; clear e h
    go_enter Try.func29, Try.ntmps29
    go_wp2
    go_ret
    exact ⟨rfl, rfl⟩

theorem Join_calls (v u : Value) (a b : List Int) (w : World) (h : IntsR (wrd w) v a) (h' : IntsR (wrd w) u b) (hbig : max a.length b.length * 8 ≤ 140737488355328) :
    Calls Try.prog 37 #[v, u] w fun e w' => ∃ r, e = .returned r ∧ OwnR 1 IntR w.heap.size 3 w' rdN r (joinC a b) ∧ Below w.heap.size w w' := by
  have HC := hid (each_calls v u a b _ _ w h h' max_tells hbig)
  clear h h'
  go_enter Try.func37, Try.ntmps37
  go_wp2_with fail
  refine HC.out.mono ?_
  rintro e w1 ⟨r, rfl, ho, hb⟩
  go_wp2
  go_ret
  exact ⟨_, rfl, ho, hb⟩
end Go.Proofs.Ytkjknlnhffmkkab
