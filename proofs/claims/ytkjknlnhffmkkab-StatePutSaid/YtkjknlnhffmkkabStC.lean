/- Logs played on a right state: what stays, what is counted, in whatever order. No program in sight. -/
import Derived.Test.YtkjknlnhffmkkabStB
namespace Go.Proofs.Ytkjknlnhffmkkab
set_option linter.unusedVariables false

def playS (s : State) (l : List Upd) : State := l.foldl applyS s
theorem playS_cons (s : State) (u : Upd) (l : List Upd) : playS s (u :: l) = playS (applyS s u) l := rfl
theorem playS_app (s : State) (l m : List Upd) : playS s (l ++ m) = playS (playS s l) m := List.foldl_append
def sumU (k a : Int) : List Upd → Int
  | [] => 0
  | u :: l => (if u.kind = 5 ∧ u.key = k ∧ u.author = a then u.item else 0) + sumU k a l
def cntU (j : Nat) : List Upd → Int
  | [] => 0
  | u :: l => (if j = u.author.toNat then 1 else 0) + cntU j l
theorem logC_cons {n : Int} {c : List Int} {u : Upd} {l : List Upd} {i : Nat} (hc : wrongC c n = 0) (h : (logC n c (u :: l) i).2.1 = 0) : StepOk c u n ∧ logC n c (u :: l) i = logC n (tickC c u.author) l (i + 1) ∧ (logC n (tickC c u.author) l (i + 1)).2.1 = 0 := by
  rw [logC.eq_2] at h ⊢
  by_cases he : stepE c u n = 0
  · rw [if_neg (by omega)] at h ⊢
    exact ⟨stepE_ok hc he, rfl, h⟩
  · rw [if_pos he] at h; exact absurd h he
theorem logC_at {n : Int} : ∀ (l : List Upd) (c : List Int) (i : Nat), wrongC c n = 0 → (logC n c l i).2.1 = 0 → ∀ j, atI (logC n c l i).1 j = atI c j + cntU j l
  | [], c, i, hc, h, j => by simp [logC, cntU]
  | u :: l, c, i, hc, h, j => by
    obtain ⟨h1, h2, h3⟩ := logC_cons hc h
    rw [h2, logC_at l _ _ (tick_ok hc h1) h3 j, tick_at hc h1 j]
    simp only [cntU]
    split
    · rename_i e; subst e; omega
    · omega
structure Played (s t : State) (l : List Upd) (n : Int) : Prop where
  r : RightS t n
  m : ∀ x, x ∈ t.lives ↔ (x ∈ s.lives ∨ ∃ u ∈ l, makes u = true ∧ x = liveOf u) ∧ ∀ v ∈ l, ends v x = false
  s : ∀ k a, sumT k a t.tallies = sumT k a s.tallies + sumU k a l
theorem play_ok {n : Int} : ∀ (l : List Upd) (s : State) (i : Nat), RightS s n → (logC n s.clock l i).2.1 = 0 → Played s (playS s l) l n ∧ (playS s l).clock = (logC n s.clock l i).1
  | [], s, i, hs, h => ⟨⟨hs, fun x => by simp [playS], fun k a => by simp [playS, sumU]⟩, rfl⟩
  | u :: l, s, i, hs, h => by
    obtain ⟨h1, h2, h3⟩ := logC_cons hs.c h
    have hr := applyS_right hs h1
    obtain ⟨⟨r, m, t⟩, cc⟩ := play_ok l (applyS s u) (i + 1) hr h3
    rw [playS_cons, h2]
    refine ⟨⟨r, fun x => ?_, fun k a => ?_⟩, cc⟩
    · rw [m, applyS_mem h1.r]
      have hlater : ∀ w ∈ l, ends u (liveOf w) = false := fun w hw => by
        have e1 := (logC_ok l _ (i + 1) (tick_ok hs.c h1) h3).2.2 w hw
        refine ends_not ?_
        show atI u.seen w.author.toNat < atI w.seen w.author.toNat + 1
        have e2 := seesC_iff.1 h1.sees w.author.toNat
        have e3 := seesC_iff.1 (tick_sees hs.c h1) w.author.toNat
        have := e1.2
        omega
      have hself : ends u (liveOf u) = false := ends_not (by show atI u.seen u.author.toNat < atI u.seen u.author.toNat + 1; omega)
      simp only [List.mem_cons, forall_eq_or_imp]
      constructor
      · rintro ⟨(⟨a, b⟩ | ⟨a, b⟩) | ⟨w, a, b, c⟩, hv⟩
        · exact ⟨.inl a, b, hv⟩
        · subst b; exact ⟨.inr ⟨u, .inl rfl, a, rfl⟩, hself, hv⟩
        · subst c; exact ⟨.inr ⟨w, .inr a, b, rfl⟩, hlater w a, hv⟩
      · rintro ⟨a | ⟨w, a | a, b, c⟩, hu, hv⟩
        · exact ⟨.inl (.inl ⟨a, hu⟩), hv⟩
        · subst a; exact ⟨.inl (.inr ⟨b, c⟩), hv⟩
        · exact ⟨.inr ⟨w, a, b, c⟩, hv⟩
    · rw [t, applyS_sum]; simp only [sumU]; omega
theorem sumU_perm {k a : Int} {l m : List Upd} (h : l.Perm m) : sumU k a l = sumU k a m := by
  induction h with
  | nil => rfl
  | cons u _ ih => simp only [sumU, ih]
  | swap u v l => simp only [sumU]; omega
  | trans _ _ a b => exact a.trans b
theorem cntU_perm {j : Nat} {l m : List Upd} (h : l.Perm m) : cntU j l = cntU j m := by
  induction h with
  | nil => rfl
  | cons u _ ih => simp only [cntU, ih]
  | swap u v l => simp only [cntU]; omega
  | trans _ _ a b => exact a.trans b
theorem logC_len {n : Int} {l : List Upd} {c : List Int} {i : Nat} (hc : wrongC c n = 0) (h : (logC n c l i).2.1 = 0) : ((logC n c l i).1.length : Int) = n := (wrongC_ok (logC_ok l c i hc h).1).2.2.1
/-- in whatever order -/
theorem play_perm {n : Int} {l m : List Upd} {s : State} {i j : Nat} (hs : RightS s n) (h : (logC n s.clock l i).2.1 = 0) (k : (logC n s.clock m j).2.1 = 0) (p : l.Perm m) : playS s l = playS s m := by
  obtain ⟨a, ac⟩ := play_ok l s i hs h
  obtain ⟨b, bc⟩ := play_ok m s j hs k
  refine state_ext a.r b.r ?_ (fun x => ?_) (fun k' a' => ?_)
  · rw [ac, bc]
    refine atI_ext (by have := logC_len hs.c h; have := logC_len hs.c k; omega) fun q => ?_
    rw [logC_at l _ _ hs.c h, logC_at m _ _ hs.c k, cntU_perm p]
  · rw [a.m, b.m]
    constructor
    · rintro ⟨h1, h2⟩
      refine ⟨h1.imp id fun ⟨u, hu, r⟩ => ⟨u, p.mem_iff.1 hu, r⟩, fun v hv => h2 v (p.mem_iff.2 hv)⟩
    · rintro ⟨h1, h2⟩
      refine ⟨h1.imp id fun ⟨u, hu, r⟩ => ⟨u, p.mem_iff.2 hu, r⟩, fun v hv => h2 v (p.mem_iff.1 hv)⟩
  · rw [a.s, b.s, sumU_perm p]
theorem playS_take {s : State} {l : List Upd} {k : Nat} {u : Upd} (h : l[k]? = some u) : playS s (l.take (k + 1)) = applyS (playS s (l.take k)) u := by
  rw [take_snoc h, playS_app]; rfl
/-- each step on the way fits -/
theorem play_step {n : Int} {l : List Upd} {s : State} {k : Nat} {u : Upd} (hs : RightS s n) (h : (logC n s.clock l 0).2.1 = 0) (hk : l[k]? = some u) : RightS (playS s (l.take k)) n ∧ StepOk (playS s (l.take k)).clock u n := by
  have e := split_at hk
  have h' := h
  rw [e] at h'
  have h1 : (logC n s.clock (l.take k) 0).2.1 = 0 := by
    by_cases hz : (logC n s.clock (l.take k) 0).2.1 = 0
    · exact hz
    · rw [logC_app_bad _ _ _ _ hz] at h'; exact absurd h' hz
  obtain ⟨a, ac⟩ := play_ok (l.take k) s 0 hs h1
  rw [logC_app _ _ _ _ h1, ← ac] at h'
  exact ⟨a.r, (logC_cons a.r.c h').1⟩
end Go.Proofs.Ytkjknlnhffmkkab
