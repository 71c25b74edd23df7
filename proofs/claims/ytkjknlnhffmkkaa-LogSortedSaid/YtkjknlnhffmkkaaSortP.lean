/- Logs that fit, in whatever order; the order of log.Sorted. No program in sight. -/
import Derived.Test.YtkjknlnhffmkkaaLogQ
namespace Go.Proofs.Ytkjknlnhffmkkaa
set_option linter.unusedVariables false

def Fits (n : Int) : List Int → List Upd → Prop
  | _, [] => True
  | c, u :: l => StepOk c u n ∧ Fits n (tickC c u.author) l
theorem fits_iff {n : Int} : ∀ {l : List Upd} {c : List Int} {i : Nat}, wrongC c n = 0 → ((logC n c l i).2.1 = 0 ↔ Fits n c l)
  | [], c, i, hc => by simp [logC, Fits]
  | u :: l, c, i, hc => by
    rw [logC.eq_2]
    unfold Fits
    by_cases he : stepE c u n = 0
    · have h := stepE_ok hc he
      rw [if_neg (by omega), fits_iff (l := l) (tick_ok hc h)]
      exact ⟨fun k => ⟨h, k⟩, fun k => k.2⟩
    · rw [if_pos he]
      exact ⟨fun k => absurd k he, fun k => absurd (stepE_of k.1) he⟩
theorem fits_later {n : Int} {l : List Upd} {c : List Int} (hc : wrongC c n = 0) (h : Fits n c l) {u : Upd} (hu : u ∈ l) : RightU u n ∧ atI c u.author.toNat ≤ atI u.seen u.author.toNat :=
  (logC_ok l c 0 hc ((fits_iff (i := 0) hc).2 h)).2.2 u hu
theorem tick_comm {n : Int} {c : List Int} {u v : Upd} (hc : wrongC c n = 0) (hu : StepOk c u n) (hv : StepOk c v n) (hu' : StepOk (tickC c v.author) u n) (hv' : StepOk (tickC c u.author) v n) (hne : u.author.toNat ≠ v.author.toNat) : tickC (tickC c u.author) v.author = tickC (tickC c v.author) u.author := by
  refine atI_ext (by simp only [tickC_len]) fun j => ?_
  have e1 := tick_at hc hu
  have e2 := tick_at hc hv
  rw [tick_at (tick_ok hc hu) hv', tick_at (tick_ok hc hv) hu', e1, e1, e2, e2]
  by_cases h1 : j = u.author.toNat
  · subst h1
    rw [if_neg hne, if_pos rfl, if_pos rfl, if_neg hne]
  · by_cases h2 : j = v.author.toNat
    · subst h2
      rw [if_pos rfl, if_neg h1, if_neg h1, if_pos rfl]
    · rw [if_neg h2, if_neg h1, if_neg h1, if_neg h2]
theorem step_other {n : Int} {c : List Int} {u v : Upd} (hc : wrongC c n = 0) (hu : StepOk c u n) (hv : StepOk c v n) (hne : u.author.toNat ≠ v.author.toNat) : StepOk (tickC c v.author) u n := by
  refine ⟨hu.r, ?_, seesC_trans (tick_sees hc hv) hu.sees⟩
  rw [hu.eq, tick_at hc hv, if_neg hne]
theorem fits_front {n : Int} {u : Upd} {m2 : List Upd} : ∀ {m1 : List Upd} {c : List Int}, wrongC c n = 0 → Fits n c (m1 ++ u :: m2) → StepOk c u n → Fits n c (u :: (m1 ++ m2))
  | [], c, hc, h, k => h
  | v :: m1, c, hc, h, k => by
    obtain ⟨hv, h⟩ := h
    have hc' := tick_ok hc hv
    have hne : u.author.toNat ≠ v.author.toNat := fun e => by
      have := (fits_later hc' h (u := u) (by simp)).2
      rw [tick_at hc hv, if_pos e, k.eq, e] at this
      omega
    have hu' := step_other hc k hv hne
    have hv' := step_other hc hv k (fun e => hne e.symm)
    obtain ⟨a, b⟩ := fits_front (m1 := m1) hc' h hu'
    refine ⟨k, hv', ?_⟩
    show Fits n (tickC (tickC c u.author) v.author) (m1 ++ m2)
    rw [tick_comm hc k hv hu' hv' hne]
    exact b
/-! ## the order -/
def readyU (c : List Int) (u : Upd) : Bool := seesC c u.seen && decide (seqU u = RowKit.wrap64 (atI c u.author.toNat + 1))
theorem ready_step {n : Int} {c : List Int} {u : Upd} (h : StepOk c u n) : readyU c u = true := by
  unfold readyU seqU; rw [h.sees, h.eq]; simp
theorem step_ready {n : Int} {c : List Int} {u : Upd} (hc : wrongC c n = 0) (hr : RightU u n) (h : readyU c u = true) : StepOk c u n := by
  unfold readyU seqU at h
  simp only [Bool.and_eq_true, decide_eq_true_eq] at h
  have b1 := atI_bd hr.c u.author.toNat
  have b2 := atI_bd hc u.author.toNat
  rw [wrap_small (by omega) (by omega), wrap_small (by omega) (by omega)] at h
  exact ⟨hr, by omega, h.1⟩
theorem ready_unique {n : Int} : ∀ {m : List Upd} {c : List Int} {u v : Upd}, wrongC c n = 0 → Fits n c m → u ∈ m → v ∈ m → StepOk c u n → StepOk c v n → u.author.toNat = v.author.toNat → u = v
  | [], c, u, v, hc, h, hu, hv, ku, kv, e => by cases hu
  | w :: m, c, u, v, hc, h, hu, hv, ku, kv, e => by
    obtain ⟨hw, h⟩ := h
    have hc' := tick_ok hc hw
    have key : ∀ x : Upd, x ∈ m → StepOk c x n → x.author.toNat ≠ w.author.toNat := fun x hx kx ex => by
      have := (fits_later hc' h hx).2
      rw [tick_at hc hw, if_pos ex, kx.eq, ex] at this
      omega
    rcases List.mem_cons.1 hu with eu | hu
    · rcases List.mem_cons.1 hv with ev | hv
      · rw [eu, ev]
      · exact absurd (by rw [← e, eu]) (key v hv kv)
    · rcases List.mem_cons.1 hv with ev | hv
      · exact absurd (by rw [e, ev]) (key u hu ku)
      · exact ready_unique hc' h hu hv (step_other hc ku hw (key u hu ku)) (step_other hc kv hw (key v hv kv)) e
/-- the best of the first k -/
def betterU (l : List Upd) (o : Option Nat) (u : Upd) : Bool := match o with | none => true | some b => match l[b]? with | some v => decide (u.author < v.author) | none => false
theorem better_some {l : List Upd} {b : Nat} {u v : Upd} (h : l[b]? = some v) : betterU l (some b) u = decide (u.author < v.author) := by unfold betterU; dsimp only; rw [h]
def bestTo (c : List Int) (l : List Upd) : Nat → Option Nat
  | 0 => none
  | k + 1 => match l[k]? with
    | none => bestTo c l k
    | some u => if readyU c u = true ∧ betterU l (bestTo c l k) u = true then some k else bestTo c l k
structure Best (c : List Int) (l : List Upd) (k b : Nat) (u : Upd) : Prop where
  lt : b < k
  at_ : l[b]? = some u
  r : readyU c u = true
  m : ∀ (j : Nat) v, j < k → l[j]? = some v → readyU c v = true → u.author ≤ v.author
theorem best_none {c : List Int} {l : List Upd} : ∀ {k : Nat}, bestTo c l k = none → ∀ (j : Nat) v, j < k → l[j]? = some v → readyU c v = false
  | 0, _, j, v, hj, _ => by omega
  | k + 1, h, j, v, hj, hv => by
    unfold bestTo at h
    cases hk : l[k]? with
    | none =>
      rw [hk] at h; dsimp only at h
      rcases Nat.lt_or_eq_of_le (Nat.lt_succ_iff.1 hj) with hj | rfl
      · exact best_none h j v hj hv
      · rw [hk] at hv; cases hv
    | some u =>
      rw [hk] at h; dsimp only at h
      split at h
      · cases h
      · rename_i hn
        rw [h] at hn
        rcases Nat.lt_or_eq_of_le (Nat.lt_succ_iff.1 hj) with hj | rfl
        · exact best_none h j v hj hv
        · rw [hk] at hv; injection hv with hv; subst hv
          simpa [betterU] using hn
theorem best_some {c : List Int} {l : List Upd} : ∀ {k b : Nat}, bestTo c l k = some b → ∃ u, Best c l k b u
  | 0, b, h => by cases h
  | k + 1, b, h => by
    unfold bestTo at h
    cases hk : l[k]? with
    | none =>
      rw [hk] at h; dsimp only at h
      obtain ⟨u, a1, a2, a3, a4⟩ := best_some h
      refine ⟨u, by omega, a2, a3, fun j v hj hv hr => ?_⟩
      rcases Nat.lt_or_eq_of_le (Nat.lt_succ_iff.1 hj) with hj | rfl
      · exact a4 j v hj hv hr
      · rw [hk] at hv; cases hv
    | some u =>
      rw [hk] at h; dsimp only at h
      split at h
      · rename_i hn
        injection h with h; subst h
        refine ⟨u, by omega, hk, hn.1, fun j v hj hv hr => ?_⟩
        rcases Nat.lt_or_eq_of_le (Nat.lt_succ_iff.1 hj) with hj | rfl
        · cases hb : bestTo c l k with
          | none => rw [best_none hb j v hj hv] at hr; cases hr
          | some b =>
            obtain ⟨z, a1, a2, a3, a4⟩ := best_some hb
            have hn := hn.2
            rw [hb, better_some a2] at hn
            have := of_decide_eq_true hn
            have := a4 j v hj hv hr
            omega
        · rw [hk] at hv; injection hv with hv; subst hv; exact Int.le_refl _
      · rename_i hn
        obtain ⟨z, a1, a2, a3, a4⟩ := best_some h
        refine ⟨z, by omega, a2, a3, fun j v hj hv hr => ?_⟩
        rcases Nat.lt_or_eq_of_le (Nat.lt_succ_iff.1 hj) with hj | rfl
        · exact a4 j v hj hv hr
        · rw [hk] at hv; injection hv with hv; subst hv
          rw [h, better_some a2] at hn
          have : ¬ u.author < z.author := fun q => hn ⟨hr, decide_eq_true q⟩
          omega
def sortU : Nat → List Int → List Upd → List Upd
  | 0, _, _ => []
  | k + 1, c, l => match bestTo c l l.length with
    | none => []
    | some b => match l[b]? with
      | none => []
      | some u => u :: sortU k (tickC c u.author) (l.eraseIdx b)
theorem erase_perm {l : List Upd} {b : Nat} {u : Upd} (h : l[b]? = some u) : (u :: l.eraseIdx b).Perm l := by
  obtain ⟨hb, e⟩ := List.getElem?_eq_some_iff.1 h
  subst e
  have e : l = l.take b ++ l[b] :: l.drop (b + 1) := by conv => lhs; rw [← List.take_append_drop b l, List.drop_eq_getElem_cons hb]
  have e2 : l.eraseIdx b = l.take b ++ l.drop (b + 1) := List.eraseIdx_eq_take_drop_succ ..
  rw [e2]
  conv => rhs; rw [e]
  exact List.perm_middle.symm
/-- a step of the order: there is a best one; it fits; the rest fits behind it -/
theorem sort_step {n : Int} {c : List Int} {l m : List Upd} (hc : wrongC c n = 0) (hp : m.Perm l) (hm : Fits n c m) (hl : l ≠ []) : ∃ b u m', bestTo c l l.length = some b ∧ Best c l l.length b u ∧ StepOk c u n ∧ m'.Perm (l.eraseIdx b) ∧ Fits n (tickC c u.author) m' ∧ u ∈ m := by
  cases hb : bestTo c l l.length with
  | none =>
    cases m with
    | nil => exact absurd (List.Perm.nil_eq hp).symm hl
    | cons v m =>
      obtain ⟨j, hj⟩ := List.getElem?_of_mem (hp.mem_iff.1 (List.mem_cons_self))
      have := best_none hb j v (List.getElem?_eq_some_iff.1 hj).1 hj
      rw [ready_step hm.1] at this; cases this
  | some b =>
    obtain ⟨u, B⟩ := best_some hb
    have hu : u ∈ m := hp.mem_iff.2 (List.mem_of_getElem? B.at_)
    have hs := step_ready hc (fits_later hc hm hu).1 B.r
    obtain ⟨m1, m2, e⟩ := List.append_of_mem hu
    subst e
    have hf := fits_front hc hm hs
    refine ⟨b, u, m1 ++ m2, rfl, B, hs, ?_, hf.2, hu⟩
    have p1 : (u :: (m1 ++ m2)).Perm (m1 ++ u :: m2) := List.perm_middle.symm
    exact (List.perm_cons u).1 ((p1.trans hp).trans (erase_perm B.at_).symm)
theorem sort_ok {n : Int} : ∀ {k : Nat} {c : List Int} {l m : List Upd}, l.length = k → wrongC c n = 0 → m.Perm l → Fits n c m → (sortU k c l).Perm l ∧ Fits n c (sortU k c l)
  | 0, c, l, m, hk, hc, hp, hm => by
    have : l = [] := List.eq_nil_of_length_eq_zero hk
    subst this; exact ⟨List.Perm.refl _, trivial⟩
  | k + 1, c, l, m, hk, hc, hp, hm => by
    obtain ⟨b, u, m', hb, B, hs, hp', hm', _⟩ := sort_step hc hp hm (by rintro rfl; cases hk)
    unfold sortU
    rw [hb]; dsimp only; rw [B.at_]; dsimp only
    obtain ⟨a1, a2⟩ := sort_ok (k := k) (by rw [List.length_eraseIdx, if_pos B.lt]; omega) (tick_ok hc hs) hp' hm'
    exact ⟨(a1.cons u).trans (erase_perm B.at_), hs, a2⟩
theorem sort_perm {n : Int} : ∀ {k : Nat} {c : List Int} {l l' m : List Upd}, l.length = k → wrongC c n = 0 → m.Perm l → l'.Perm l → Fits n c m → sortU k c l = sortU k c l'
  | 0, c, l, l', m, hk, hc, hp, hq, hm => rfl
  | k + 1, c, l, l', m, hk, hc, hp, hq, hm => by
    obtain ⟨b, u, m', hb, B, hs, hp', hm', hu⟩ := sort_step hc hp hm (by rintro rfl; cases hk)
    obtain ⟨b2, u2, m2, hb2, B2, hs2, hp2, hm2, hu2⟩ := sort_step (l := l') hc (hp.trans hq.symm) hm (by rintro rfl; have := hq.length_eq; simp at this; omega)
    have e : u = u2 := by
      refine ready_unique hc hm hu hu2 hs hs2 ?_
      obtain ⟨j, hj⟩ := List.getElem?_of_mem (hp.mem_iff.1 hu2)
      obtain ⟨j2, hj2⟩ := List.getElem?_of_mem ((hp.trans hq.symm).mem_iff.1 hu)
      have q1 := B.m j u2 (List.getElem?_eq_some_iff.1 hj).1 hj B2.r
      have q2 := B2.m j2 u (List.getElem?_eq_some_iff.1 hj2).1 hj2 B.r
      omega
    subst e
    unfold sortU
    rw [hb, hb2]; dsimp only; rw [B.at_, B2.at_]; dsimp only
    rw [sort_perm (k := k) (l' := l'.eraseIdx b2) (by rw [List.length_eraseIdx, if_pos B.lt]; omega) (tick_ok hc hs) hp' ?_ hm']
    exact (List.perm_cons u).1 (((erase_perm B2.at_).trans hq).trans (erase_perm B.at_).symm)
theorem sortU_len {n : Int} {c : List Int} {l : List Upd} (hc : wrongC c n = 0) (h : Fits n c l) : (sortU l.length c l).length = l.length := (sort_ok rfl hc (List.Perm.refl l) h).1.length_eq
end Go.Proofs.Ytkjknlnhffmkkaa
