/- What state.Apply and state.Play answer. No program in sight. -/
import Derived.Test.YtkjknlnhffmkkabStC
namespace Go.Proofs.Ytkjknlnhffmkkab
set_option linter.unusedVariables false

def zeroS : State := ⟨[], [], []⟩
def lenI {α : Type} (l : List α) : Int := (l.length : Int)
/-- Apply: the state, the error -/
def ApplyS (s : State) (u : Upd) : State × Int :=
  if (wrongS s (lenI s.clock)).1 ≠ 0 then (zeroS, (wrongS s (lenI s.clock)).1)
  else if (clockL s.clock [u] (lenI s.clock)).2.1 ≠ 0 then (zeroS, (clockL s.clock [u] (lenI s.clock)).2.1)
  else (applyS s u, 0)
/-- Play: the state, the error, its place -/
def PlayS (s : State) (l : List Upd) : State × Int × Int :=
  if (wrongS s (lenI s.clock)).1 ≠ 0 then (zeroS, (wrongS s (lenI s.clock)).1, 0)
  else if (clockL s.clock l (lenI s.clock)).2.1 ≠ 0 then (zeroS, (clockL s.clock l (lenI s.clock)).2)
  else (playS s l, 0, 0)
theorem ApplyS_1 {s : State} {u : Upd} (h : (wrongS s (lenI s.clock)).1 ≠ 0) : ApplyS s u = (zeroS, (wrongS s (lenI s.clock)).1) := by unfold ApplyS; rw [if_pos h]
theorem ApplyS_2 {s : State} {u : Upd} (h : (wrongS s (lenI s.clock)).1 = 0) (k : (clockL s.clock [u] (lenI s.clock)).2.1 ≠ 0) : ApplyS s u = (zeroS, (clockL s.clock [u] (lenI s.clock)).2.1) := by unfold ApplyS; rw [if_neg (fun e => e h), if_pos k]
theorem ApplyS_3 {s : State} {u : Upd} (h : (wrongS s (lenI s.clock)).1 = 0) (k : (clockL s.clock [u] (lenI s.clock)).2.1 = 0) : ApplyS s u = (applyS s u, 0) := by unfold ApplyS; rw [if_neg (fun e => e h), if_neg (fun e => e k)]
theorem PlayS_1 {s : State} {l : List Upd} (h : (wrongS s (lenI s.clock)).1 ≠ 0) : PlayS s l = (zeroS, (wrongS s (lenI s.clock)).1, 0) := by unfold PlayS; rw [if_pos h]
theorem PlayS_2 {s : State} {l : List Upd} (h : (wrongS s (lenI s.clock)).1 = 0) (k : (clockL s.clock l (lenI s.clock)).2.1 ≠ 0) : PlayS s l = (zeroS, (clockL s.clock l (lenI s.clock)).2) := by unfold PlayS; rw [if_neg (fun e => e h), if_pos k]
theorem PlayS_3 {s : State} {l : List Upd} (h : (wrongS s (lenI s.clock)).1 = 0) (k : (clockL s.clock l (lenI s.clock)).2.1 = 0) : PlayS s l = (playS s l, 0, 0) := by unfold PlayS; rw [if_neg (fun e => e h), if_neg (fun e => e k)]
theorem wrongS_nil (l : List Live) (t : List Tally) (n : Int) : (wrongS ⟨[], l, t⟩ n).1 ≠ 0 := by
  intro h
  have := wrongC_ok (wrongS_iff.1 h).c
  simp at this; omega
theorem wrongC_err {c : List Int} {n : Int} : 0 ≤ wrongC c n ∧ wrongC c n ≤ 9 := by unfold wrongC; repeat' split
                                                                                    all_goals omega
/-- what a Play that is not refused tells -/
theorem PlayS_ok {s : State} {l : List Upd} (h : (PlayS s l).2.1 = 0) : RightS s (lenI s.clock) ∧ (logC (lenI s.clock) s.clock l 0).2.1 = 0 ∧ l.length ≤ 300 ∧ PlayS s l = (playS s l, 0, 0) := by
  by_cases h1 : (wrongS s (lenI s.clock)).1 = 0
  · by_cases h2 : (clockL s.clock l (lenI s.clock)).2.1 = 0
    · obtain ⟨a, b, c⟩ := clockL_ok h2
      exact ⟨wrongS_iff.1 h1, by rw [← c]; exact h2, b, PlayS_3 h1 h2⟩
    · rw [PlayS_2 h1 h2] at h; exact absurd h h2
  · rw [PlayS_1 h1] at h; exact absurd h h1
theorem PlayS_of {s : State} {l : List Upd} {n : Int} (h1 : RightS s n) (h2 : (logC n s.clock l 0).2.1 = 0) (h3 : l.length ≤ 300) : PlayS s l = (playS s l, 0, 0) := by
  have e := (wrongC_ok h1.c).2.2.1
  have e' : lenI s.clock = n := e
  exact PlayS_3 (by rw [e']; exact wrongS_iff.2 h1) (by rw [e', clockL_log h1.c h3]; exact h2)
theorem ApplyS_ok {s : State} {u : Upd} (h : (ApplyS s u).2 = 0) : RightS s (lenI s.clock) ∧ StepOk s.clock u (lenI s.clock) ∧ ApplyS s u = (applyS s u, 0) := by
  by_cases h1 : (wrongS s (lenI s.clock)).1 = 0
  · by_cases h2 : (clockL s.clock [u] (lenI s.clock)).2.1 = 0
    · obtain ⟨a, b, c⟩ := clockL_ok h2
      exact ⟨wrongS_iff.1 h1, (logC_cons a (c ▸ h2)).1, ApplyS_3 h1 h2⟩
    · rw [ApplyS_2 h1 h2] at h; exact absurd h h2
  · rw [ApplyS_1 h1] at h; exact absurd h h1
theorem ApplyS_of {s : State} {u : Upd} {n : Int} (h1 : RightS s n) (h2 : StepOk s.clock u n) : ApplyS s u = (applyS s u, 0) := by
  have e := (wrongC_ok h1.c).2.2.1
  have e' : lenI s.clock = n := e
  refine ApplyS_3 (by rw [e']; exact wrongS_iff.2 h1) ?_
  rw [e', clockL_log h1.c (by simp), logC.eq_2, stepE_of h2, if_neg (by simp)]
  rfl
theorem clock1_ok {s : State} {u : Upd} {n : Int} (h1 : (wrongS s n).1 = 0) (h2 : (clockL s.clock [u] n).2.1 = 0) : RightS s n ∧ StepOk s.clock u n := by
  obtain ⟨a, b, c⟩ := clockL_ok h2
  exact ⟨wrongS_iff.1 h1, (logC_cons a (c ▸ h2)).1⟩
theorem play_go {s : State} {l : List Upd} {n : Int} (h1 : (wrongS s n).1 = 0) (h2 : (clockL s.clock l n).2.1 = 0) {k : Nat} {u : Upd} (hk : l[k]? = some u) : RightS (playS s (l.take k)) n ∧ StepOk (playS s (l.take k)).clock u n := by
  obtain ⟨a, b, c⟩ := clockL_ok h2
  exact play_step (wrongS_iff.1 h1) (c ▸ h2) hk
/-- the beginning, of so many -/
def startG (n : Int) : State := ⟨List.replicate (min (max n 0) 6).toNat 0, [], []⟩
/-! ## the laws -/
theorem apart_p {s : State} {a b : Upd} (h : (PlayS s [a, b]).2.1 = 0) (k : (PlayS s [b, a]).2.1 = 0) : (PlayS s [a, b]).1 = (PlayS s [b, a]).1 := by
  obtain ⟨h1, h2, h3, e⟩ := PlayS_ok h
  obtain ⟨k1, k2, k3, e'⟩ := PlayS_ok k
  rw [e, e']
  exact play_perm h1 h2 k2 (List.Perm.swap b a [])
theorem keeps_p {s : State} {u : Upd} {x : Live} (h : (ApplyS s u).2 = 0) (hx : x ∈ s.lives) (hn : hasC u.seen x.author x.seq = false) : x ∈ (ApplyS s u).1.lives := by
  obtain ⟨h1, h2, e⟩ := ApplyS_ok h
  rw [e]
  refine (applyS_mem h2.r).2 (.inl ⟨hx, ?_⟩)
  rw [Bool.eq_false_iff]; intro k
  rw [ends_has k] at hn; cases hn
/-- each of a log's steps -/
theorem parts_p {s : State} {l : List Upd} {k : Nat} {u : Upd} (h : (PlayS s l).2.1 = 0) (hk : l[k]? = some u) : ApplyS (playS s (l.take k)) u = (playS s (l.take (k + 1)), 0) ∧ (wrongS (playS s (l.take (k + 1))) (lenI s.clock)).1 = 0 ∧ (playS s (l.take (k + 1))).clock = tickC (playS s (l.take k)).clock u.author := by
  obtain ⟨h1, h2, h3, e⟩ := PlayS_ok h
  obtain ⟨a, b⟩ := play_step h1 h2 hk
  rw [playS_take hk]
  exact ⟨ApplyS_of a b, wrongS_iff.2 (applyS_right a b), rfl⟩
theorem parts_end {s : State} {l : List Upd} (h : (PlayS s l).2.1 = 0) : (PlayS s l).1 = playS s (l.take l.length) := by
  obtain ⟨h1, h2, h3, e⟩ := PlayS_ok h
  rw [e, List.take_length]
end Go.Proofs.Ytkjknlnhffmkkab
