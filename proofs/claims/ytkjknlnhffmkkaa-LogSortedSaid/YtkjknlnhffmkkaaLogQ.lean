/- Plain laws of logs: parts one behind the other; who lacks what. No program in sight. -/
import Derived.Test.YtkjknlnhffmkkaaLogP
namespace Go.Proofs.Ytkjknlnhffmkkaa
set_option linter.unusedVariables false

theorem wrongC_of {l : List Int} {n : Int} (h1 : 1 ≤ n) (h2 : n ≤ 6) (h3 : (l.length : Int) = n) (h4 : ∀ x ∈ l, 0 ≤ x ∧ x ≤ 1000) : wrongC l n = 0 := by
  unfold wrongC
  rw [if_neg (by omega), if_pos]
  rw [List.all_eq_true]
  intro x hx
  have := h4 x hx
  simp [okK, this.1, this.2]
theorem atI_bd {c : List Int} {n : Int} (h : wrongC c n = 0) (k : Nat) : 0 ≤ atI c k ∧ atI c k ≤ 1000 := by
  rcases Nat.lt_or_ge k c.length with hk | hk
  · rw [atI_lt hk]; exact (wrongC_ok h).2.2.2 _ (List.getElem_mem hk)
  · rw [atI_ge hk]; omega

/-- what a step that is not refused tells -/
structure StepOk (c : List Int) (u : Upd) (n : Int) : Prop where
  r : RightU u n
  eq : atI u.seen u.author.toNat = atI c u.author.toNat
  sees : seesC c u.seen = true
theorem stepE_ok {c : List Int} {u : Upd} {n : Int} (hc : wrongC c n = 0) (h : stepE c u n = 0) : StepOk c u n := by
  unfold stepE at h
  split at h
  · rename_i h1; exact absurd h h1
  · rename_i h1
    have hr := wrongU_iff.1 (Classical.not_not.1 h1)
    split at h
    · cases h
    · rename_i h2
      split at h
      · cases h
      · rename_i h3
        have hs : seesC c u.seen = true := by simpa using h3
        refine ⟨hr, ?_, hs⟩
        have e1 := seesC_iff.1 hs u.author.toNat
        have hl := hr.len
        have hcl := wrongC_ok hc
        have ha := hr.a0
        have hb := hr.a1
        have e2 : ¬ atI u.seen u.author.toNat < atI c u.author.toNat := by
          intro hlt
          refine h2 ?_
          unfold hasU
          simp only [Bool.and_eq_true, decide_eq_true_eq]
          omega
        omega
theorem stepE_of {c : List Int} {u : Upd} {n : Int} (h : StepOk c u n) : stepE c u n = 0 := by
  unfold stepE
  have h1 := wrongU_iff.2 h.r
  have h2 : hasU c u = false := by
    rw [Bool.eq_false_iff]; intro hh
    unfold hasU at hh
    simp only [Bool.and_eq_true, decide_eq_true_eq] at hh
    have := h.eq
    omega
  rw [if_neg (by omega), if_neg (by simp [h2]), if_neg (by simp [h.sees])]
theorem tick_at {c : List Int} {u : Upd} {n : Int} (hc : wrongC c n = 0) (h : StepOk c u n) (j : Nat) : atI (tickC c u.author) j = if j = u.author.toNat then atI c u.author.toNat + 1 else atI c j := by
  have hl := h.r.len
  have hcl := wrongC_ok hc
  have ha := h.r.a0
  have hb := h.r.a1
  obtain ⟨k, hk⟩ := Int.eq_ofNat_of_zero_le ha
  rw [hk] at hb ⊢
  rw [tickC_in (by omega), set_at (by omega), Int.toNat_natCast]
  have := atI_bd hc k
  rw [wrap_small (by rw [← atI_lt (by omega)]; omega) (by rw [← atI_lt (by omega)]; omega), ← atI_lt (by omega)]
theorem tick_ok {c : List Int} {u : Upd} {n : Int} (hc : wrongC c n = 0) (h : StepOk c u n) : wrongC (tickC c u.author) n = 0 := by
  have hcl := wrongC_ok hc
  refine wrongC_of hcl.1 hcl.2.1 (by rw [tickC_len]; exact hcl.2.2.1) fun x hx => ?_
  obtain ⟨j, hj, e⟩ := List.getElem_of_mem hx
  rw [← e, ← atI_lt hj, tick_at hc h j]
  have b1 := atI_bd hc j
  have b2 := atI_bd hc u.author.toNat
  have := h.eq
  have := h.r.s
  split <;> omega
theorem tick_sees {c : List Int} {u : Upd} {n : Int} (hc : wrongC c n = 0) (h : StepOk c u n) : seesC (tickC c u.author) c = true := seesC_iff.2 fun k => by
  rw [tick_at hc h k]; split
  · rename_i e; subst e; omega
  · omega

theorem logC_app {n : Int} : ∀ (l1 : List Upd) (c : List Int) (i : Nat) (l2 : List Upd), (logC n c l1 i).2.1 = 0 → logC n c (l1 ++ l2) i = logC n (logC n c l1 i).1 l2 (i + l1.length)
  | [], c, i, l2, _ => by simp [logC]
  | u :: l1, c, i, l2, h => by
    rw [List.cons_append, logC.eq_2, logC.eq_2]
    rw [logC.eq_2] at h
    by_cases he : stepE c u n = 0
    · rw [if_neg (by omega)] at h ⊢
      rw [if_neg (by omega), logC_app l1 _ _ _ h]
      congr 1
      simp only [List.length_cons]; omega
    · rw [if_pos he] at h; exact absurd h he
theorem logC_app_bad {n : Int} : ∀ (l1 : List Upd) (c : List Int) (i : Nat) (l2 : List Upd), (logC n c l1 i).2.1 ≠ 0 → logC n c (l1 ++ l2) i = logC n c l1 i
  | [], c, i, l2, h => by simp [logC] at h
  | u :: l1, c, i, l2, h => by
    rw [List.cons_append, logC.eq_2, logC.eq_2]
    rw [logC.eq_2] at h
    by_cases he : stepE c u n = 0
    · rw [if_neg (by omega)] at h ⊢
      rw [if_neg (by omega), logC_app_bad l1 _ _ _ h]
    · rw [if_pos he, if_pos he]
theorem logC_shift {n : Int} : ∀ (l : List Upd) (c : List Int) (i j : Nat), (logC n c l (i + j)).1 = (logC n c l i).1 ∧ (logC n c l (i + j)).2.1 = (logC n c l i).2.1 ∧ ((logC n c l i).2.1 ≠ 0 → (logC n c l (i + j)).2.2 = (logC n c l i).2.2 + j)
  | [], c, i, j => by simp [logC]
  | u :: l, c, i, j => by
    rw [logC.eq_2, logC.eq_2]
    by_cases he : stepE c u n = 0
    · rw [if_neg (by omega), if_neg (by omega)]
      have := logC_shift (n := n) l (tickC c u.author) (i + 1) j
      rwa [show i + 1 + j = i + j + 1 by omega] at this
    · rw [if_pos he, if_pos he]
      exact ⟨rfl, rfl, fun _ => by show ((i + j : Nat) : Int) = (i : Int) + j; omega⟩
theorem logC_place {n : Int} : ∀ (l : List Upd) (c : List Int) (i : Nat), ((logC n c l i).2.1 = 0 → (logC n c l i).2.2 = 0) ∧ 0 ≤ (logC n c l i).2.2 ∧ (logC n c l i).2.2 ≤ i + l.length
  | [], c, i => by simp [logC]
  | u :: l, c, i => by
    rw [logC.eq_2]
    by_cases he : stepE c u n = 0
    · rw [if_neg (by omega)]
      have := logC_place (n := n) l (tickC c u.author) (i + 1)
      simp only [List.length_cons]
      refine ⟨this.1, this.2.1, ?_⟩
      have := this.2.2
      omega
    · rw [if_pos he]
      refine ⟨fun h => absurd h he, ?_, ?_⟩ <;> simp <;> omega
/-- a log that is taken: a right clock that sees the base; each of its updates is behind the base -/
theorem logC_ok {n : Int} : ∀ (l : List Upd) (c : List Int) (i : Nat), wrongC c n = 0 → (logC n c l i).2.1 = 0 →
    wrongC (logC n c l i).1 n = 0 ∧ seesC (logC n c l i).1 c = true ∧ ∀ u ∈ l, RightU u n ∧ atI c u.author.toNat ≤ atI u.seen u.author.toNat
  | [], c, i, hc, _ => ⟨hc, seesC_refl c, by simp⟩
  | u :: l, c, i, hc, h => by
    rw [logC.eq_2] at h ⊢
    by_cases he : stepE c u n = 0
    · rw [if_neg (by omega)] at h ⊢
      have hs := stepE_ok hc he
      obtain ⟨a1, a2, a3⟩ := logC_ok l (tickC c u.author) (i + 1) (tick_ok hc hs) h
      refine ⟨a1, seesC_trans a2 (tick_sees hc hs), fun v hv => ?_⟩
      rcases List.mem_cons.1 hv with e | hv
      · subst e; exact ⟨hs.r, by rw [hs.eq]; exact Int.le_refl _⟩
      · refine ⟨(a3 v hv).1, Int.le_trans ?_ (a3 v hv).2⟩
        exact seesC_iff.1 (tick_sees hc hs) _
    · rw [if_pos he] at h; exact absurd h he

theorem clockL_log {base : List Int} {l : List Upd} {n : Int} (h : wrongC base n = 0) (hl : l.length ≤ 300) : clockL base l n = logC n base l 0 := by
  unfold clockL; rw [if_neg (by omega), if_neg (by omega)]
theorem clockL_ok {base : List Int} {l : List Upd} {n : Int} (h : (clockL base l n).2.1 = 0) : wrongC base n = 0 ∧ l.length ≤ 300 ∧ clockL base l n = logC n base l 0 := by
  unfold clockL at h ⊢
  split at h
  · rename_i h1; exact absurd h h1
  · rename_i h1
    split at h
    · cases h
    · rename_i h2
      exact ⟨by omega, by omega, by rw [if_neg h1, if_neg h2]⟩
theorem clockL_place {base : List Int} {l : List Upd} {n : Int} : 0 ≤ (clockL base l n).2.2 ∧ (clockL base l n).2.2 ≤ 300 ∧ ((clockL base l n).2.1 = 0 → (clockL base l n).2.2 = 0) := by
  unfold clockL
  split
  · simp
  · split
    · simp
    · have := logC_place (n := n) l base 0
      refine ⟨this.2.1, ?_, this.1⟩
      have := this.2.2
      omega

theorem clockL_len {base : List Int} {l : List Upd} {n : Int} (h : (clockL base l n).2.1 = 0) : wrongC (clockL base l n).1 n = 0 ∧ (clockL base l n).1.length ≤ 6 := by
  obtain ⟨hw, _, e⟩ := clockL_ok h
  rw [e] at h ⊢
  have := (logC_ok _ _ _ hw h).1
  have := wrongC_ok this
  exact ⟨by assumption, by omega⟩
theorem parts_bad {base : List Int} {l : List Upd} {n : Int} {k : Nat} (h5 : (clockL base l n).2.1 ≠ 5) (hg : (clockL base (l.take k) n).2.1 ≠ 0) : clockL base l n = clockL base (l.take k) n := by
  by_cases hw : wrongC base n = 0
  · by_cases hl : 300 < l.length
    · exfalso; apply h5; unfold clockL; rw [if_neg (by omega), if_pos hl]
    · have ht : (l.take k).length ≤ 300 := by simp; omega
      rw [clockL_log hw (by omega), clockL_log hw ht] at *
      conv => lhs; rw [← List.take_append_drop k l]
      exact logC_app_bad _ _ _ _ hg
  · unfold clockL; rw [if_pos hw, if_pos hw]
theorem parts_ok {base : List Int} {l : List Upd} {n : Int} {k : Nat} (hk : k ≤ l.length) (h5 : (clockL base l n).2.1 ≠ 5) (hg : (clockL base (l.take k) n).2.1 = 0) :
    (clockL (clockL base (l.take k) n).1 (l.drop k) n).1 = (clockL base l n).1 ∧ (clockL (clockL base (l.take k) n).1 (l.drop k) n).2.1 = (clockL base l n).2.1 ∧
    ((clockL base l n).2.1 ≠ 0 → (clockL (clockL base (l.take k) n).1 (l.drop k) n).2.2 = (clockL base l n).2.2 - k) ∧ ((clockL base l n).2.1 = 0 → seesC (clockL base l n).1 (clockL base (l.take k) n).1 = true) := by
  obtain ⟨hw, ht, e1⟩ := clockL_ok hg
  have hl : l.length ≤ 300 := by
    rcases Nat.lt_or_ge 300 l.length with h | h
    · exfalso; apply h5; unfold clockL; rw [if_neg (by omega), if_pos h]
    · exact h
  rw [e1] at hg
  obtain ⟨a1, _, _⟩ := logC_ok _ _ _ hw hg
  have e2 := clockL_log hw hl
  have e3 : clockL (logC n base (l.take k) 0).1 (l.drop k) n = logC n (logC n base (l.take k) 0).1 (l.drop k) 0 := clockL_log a1 (by simp; omega)
  have e4 : logC n base l 0 = logC n (logC n base (l.take k) 0).1 (l.drop k) (0 + k) := by
    conv => lhs; rw [← List.take_append_drop k l]
    rw [logC_app _ _ _ _ hg]
    congr 1
    simp; omega
  rw [e1, e2, e3, e4]
  obtain ⟨s1, s2, s3⟩ := logC_shift (n := n) (l.drop k) (logC n base (l.take k) 0).1 0 k
  refine ⟨s1.symm, s2.symm, fun h => ?_, fun h => ?_⟩
  · have := s3 (by rw [← s2]; exact h)
    omega
  · rw [s2] at h
    rw [s1]
    exact (logC_ok _ _ _ a1 h).2.1

/-- who sees a log's clock has each of its updates -/
theorem lacks_sees {n : Int} {c : List Int} (hcn : wrongC c n = 0) : ∀ (l : List Upd) (base : List Int) (i : Nat), wrongC base n = 0 → (logC n base l i).2.1 = 0 → seesC c base = true → (seesC c (logC n base l i).1 = true ↔ ∀ u ∈ l, hasU c u = true)
  | [], base, i, hb, _, hs => by simp [logC, hs]
  | u :: l, base, i, hb, h, hs => by
    rw [logC.eq_2] at h ⊢
    by_cases he : stepE base u n = 0
    · rw [if_neg (by omega)] at h ⊢
      have hok := stepE_ok hb he
      have hl := hok.r.len
      have hcl := wrongC_ok hcn
      have ha := hok.r.a0
      have ha1 := hok.r.a1
      have hhas : hasU c u = true ↔ seesC c (tickC base u.author) = true := by
        unfold hasU
        simp only [Bool.and_eq_true, decide_eq_true_eq]
        constructor
        · rintro ⟨_, h4⟩
          refine seesC_iff.2 fun j => ?_
          rw [tick_at hb hok j]
          have := hok.eq
          split
          · rename_i e; subst e; omega
          · exact seesC_iff.1 hs j
        · intro hh
          have := seesC_iff.1 hh u.author.toNat
          rw [tick_at hb hok, if_pos rfl] at this
          have := hok.eq
          omega
      have hsee := (logC_ok l (tickC base u.author) (i + 1) (tick_ok hb hok) h).2.1
      constructor
      · intro hall
        have h1 := seesC_trans hall hsee
        have := (lacks_sees hcn l _ (i + 1) (tick_ok hb hok) h h1).1 hall
        intro v hv
        rcases List.mem_cons.1 hv with e | hv
        · subst e; exact hhas.2 h1
        · exact this v hv
      · intro hall
        have h1 := hhas.1 (hall u (List.mem_cons_self))
        exact (lacks_sees hcn l _ (i + 1) (tick_ok hb hok) h h1).2 fun v hv => hall v (List.mem_cons_of_mem _ hv)
    · rw [if_pos he] at h; exact absurd h he
theorem lacks_empty {l : List Upd} {c : List Int} : (lacksU l c).length = 0 ↔ ∀ u ∈ l, hasU c u = true := by
  unfold lacksU
  rw [List.length_eq_zero_iff, List.filter_eq_nil_iff]
  simp
/-- what a clock lacks takes it to what both come to -/
theorem lacks_join {n : Int} : ∀ (l : List Upd) (base c : List Int) (i j : Nat), wrongC base n = 0 → wrongC c n = 0 → (logC n base l i).2.1 = 0 → seesC c base = true → (logC n c (lacksU l c) j).2.1 = 0 →
    (logC n c (lacksU l c) j).1 = joinC c (logC n base l i).1
  | [], base, c, i, j, hb, hc, _, hs, _ => by
    show c = joinC c base
    have hl1 := wrongC_ok hb
    have hl2 := wrongC_ok hc
    exact atI_ext (by rw [joinC_len]; omega) fun k => by rw [joinC_at]; have := seesC_iff.1 hs k; omega
  | u :: l, base, c, i, j, hb, hc, h, hs, hg => by
    rw [logC.eq_2] at h ⊢
    by_cases he : stepE base u n = 0
    · rw [if_neg (by omega)] at h ⊢
      have hok := stepE_ok hb he
      have hbt := tick_ok hb hok
      obtain ⟨w1, w2, w3⟩ := logC_ok l (tickC base u.author) (i + 1) hbt h
      cases hh : hasU c u
      · have e : lacksU (u :: l) c = u :: lacksU l c := by unfold lacksU; rw [List.filter_cons]; simp [hh]
        rw [e] at hg ⊢
        rw [logC.eq_2] at hg ⊢
        by_cases hec : stepE c u n = 0
        · rw [if_neg (by omega)] at hg ⊢
          have hcok := stepE_ok hc hec
          have hct := tick_ok hc hcok
          have e2 : lacksU l c = lacksU l (tickC c u.author) := by
            unfold lacksU
            refine List.filter_congr fun v hv => ?_
            obtain ⟨v1, v2⟩ := w3 v hv
            congr 1
            unfold hasU
            rw [tickC_len]
            congr 1
            rw [tick_at hc hcok]
            split
            · rename_i ev
              rw [tick_at hb hok, if_pos ev] at v2
              have := hcok.eq
              have := hok.eq
              rw [ev] at v2 ⊢
              rw [decide_eq_decide]
              omega
            · rfl
          rw [e2] at hg ⊢
          have hss : seesC (tickC c u.author) (tickC base u.author) = true := seesC_iff.2 fun k => by
            rw [tick_at hc hcok, tick_at hb hok]
            split
            · have := hcok.eq; have := hok.eq; omega
            · exact seesC_iff.1 hs k
          rw [lacks_join l _ _ (i + 1) (j + 1) hbt hct h hss hg]
          have k1 := wrongC_ok w1
          have k2 := wrongC_ok hc
          refine atI_ext (by rw [joinC_len, joinC_len, tickC_len]) fun k => ?_
          rw [joinC_at, joinC_at, tick_at hc hcok]
          split
          · rename_i ek
            have := seesC_iff.1 w2 k
            rw [tick_at hb hok, if_pos ek] at this
            have := hcok.eq
            have := hok.eq
            subst ek
            omega
          · rfl
        · rw [if_pos hec] at hg; exact absurd hg hec
      · have e : lacksU (u :: l) c = lacksU l c := by unfold lacksU; rw [List.filter_cons]; simp [hh]
        rw [e] at hg ⊢
        refine lacks_join l _ c (i + 1) j hbt hc h (seesC_iff.2 fun k => ?_) hg
        rw [tick_at hb hok]
        unfold hasU at hh
        simp only [Bool.and_eq_true, decide_eq_true_eq] at hh
        have := hok.eq
        split
        · rename_i ek; subst ek; omega
        · exact seesC_iff.1 hs k
    · rw [if_pos he] at h; exact absurd h he
end Go.Proofs.Ytkjknlnhffmkkaa
