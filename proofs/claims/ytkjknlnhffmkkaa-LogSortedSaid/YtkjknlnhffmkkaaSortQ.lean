/- The order of a log, on the way. No program in sight. -/
import Derived.Test.YtkjknlnhffmkkaaSortP
namespace Go.Proofs.Ytkjknlnhffmkkaa
set_option linter.unusedVariables false

def SortL (base : List Int) (l : List Upd) (n : Int) : List Upd × Int × Int := if (clockL base l n).2.1 ≠ 0 then ([], (clockL base l n).2) else (sortU l.length base l, 0, 0)
theorem SortL_1 {base : List Int} {l : List Upd} {n : Int} (h : (clockL base l n).2.1 ≠ 0) : SortL base l n = ([], (clockL base l n).2) := by unfold SortL; rw [if_pos h]
theorem SortL_2 {base : List Int} {l : List Upd} {n : Int} (h : (clockL base l n).2.1 = 0) : SortL base l n = (sortU l.length base l, 0, 0) := by unfold SortL; rw [if_neg (fun k => k h)]
theorem sort_pre {base : List Int} {l : List Upd} {n : Int} (h : (clockL base l n).2.1 = 0) : wrongC base n = 0 ∧ l.length ≤ 300 ∧ Fits n base l := by
  obtain ⟨a, b, c⟩ := clockL_ok h
  exact ⟨a, b, (fits_iff (i := 0) a).1 (c ▸ h)⟩
def bestI (c : List Int) (r : List Upd) (k : Nat) : Int := match bestTo c r k with | none => -1 | some b => (b : Int)
section
variable {c : List Int} {r : List Upd} {k : Nat} {z z2 : Upd} {bI : Int} {n : Int}
theorem bestI_zero : (-1 : Int) = bestI c r 0 := rfl
theorem bestI_bd : -1 ≤ bestI c r k ∧ bestI c r k < k ∨ bestI c r k = -1 := by
  unfold bestI
  cases h : bestTo c r k with
  | none => right; rfl
  | some b => left; obtain ⟨u, B⟩ := best_some h; have := B.lt; constructor <;> dsimp only <;> omega
theorem bestTo_step (hz : r[k]? = some z) : bestTo c r (k + 1) = if readyU c z = true ∧ betterU r (bestTo c r k) z = true then some k else bestTo c r k := by
  show (match r[k]? with | none => bestTo c r k | some u => if readyU c u = true ∧ betterU r (bestTo c r k) u = true then some k else bestTo c r k) = _
  rw [hz]
theorem bestI_no1 (hz : r[k]? = some z) (hr : readyU c z = false) (hb : bI = bestI c r k) : bI = bestI c r (k + 1) := by
  rw [hb]; unfold bestI; rw [bestTo_step hz, if_neg (by simp [hr])]
theorem bestI_yes0 (hz : r[k]? = some z) (hr : readyU c z = true) (hb : bI = bestI c r k) (h : bI < 0) : (k : Int) = bestI c r (k + 1) := by
  unfold bestI at hb ⊢
  cases hk : bestTo c r k with
  | none => rw [bestTo_step hz, hk, if_pos ⟨hr, rfl⟩]
  | some b => rw [hk] at hb; dsimp only at hb; omega
theorem bestI_yes1 (hz : r[k]? = some z) (hr : readyU c z = true) (hb : bI = bestI c r k) (h0 : ¬ bI < 0) (hz2 : r[bI.toNat]? = some z2) (h : z.author < z2.author) : (k : Int) = bestI c r (k + 1) := by
  unfold bestI at hb ⊢
  cases hk : bestTo c r k with
  | none => rw [hk] at hb; dsimp only at hb; omega
  | some b =>
    rw [hk] at hb; dsimp only at hb
    subst hb
    rw [Int.toNat_natCast] at hz2
    rw [bestTo_step hz, hk, if_pos ⟨hr, by rw [better_some hz2]; exact decide_eq_true h⟩]
theorem bestI_no2 (hz : r[k]? = some z) (hb : bI = bestI c r k) (h0 : ¬ bI < 0) (hz2 : r[bI.toNat]? = some z2) (h : ¬ z.author < z2.author) : bI = bestI c r (k + 1) := by
  have hb' := hb
  unfold bestI at hb ⊢
  cases hk : bestTo c r k with
  | none => rw [hk] at hb; dsimp only at hb; omega
  | some b =>
    rw [hk] at hb; dsimp only at hb
    subst hb
    rw [Int.toNat_natCast] at hz2
    rw [bestTo_step hz, hk, if_neg (by rw [better_some hz2]; simp [h])]
theorem ready_T {y : Int} (hc : wrongC c n = 0) (ha : atI c z.author.toNat = y) (h1 : seesC c z.seen = true) (h2 : seqU z = y + 1) : readyU c z = true := by
  have := atI_bd hc z.author.toNat
  unfold readyU; rw [h1, h2, ← ha, wrap_small (by omega) (by omega)]; simp
theorem ready_F1 (h1 : seesC c z.seen = false) : readyU c z = false := by unfold readyU; rw [h1]; rfl
theorem ready_F2 {y : Int} (hc : wrongC c n = 0) (ha : atI c z.author.toNat = y) (h2 : ¬ seqU z = y + 1) : readyU c z = false := by
  have := atI_bd hc z.author.toNat
  unfold readyU; rw [wrap_small (by omega) (by omega), ha]; simp [h2]
end
structure SortI (n : Int) (base : List Int) (l : List Upd) (c : List Int) (r o : List Upd) : Prop where
  w : wrongC c n = 0
  f : ∃ m, m.Perm r ∧ Fits n c m
  e : o ++ sortU r.length c r = sortU l.length base l
  n : o.length + r.length = l.length
section
variable {n : Int} {base c : List Int} {l r o : List Upd}
theorem SortI.right (h : SortI n base l c r o) {z : Upd} {k : Nat} (hz : r[k]? = some z) : RightU z n := by
  obtain ⟨m, hp, hf⟩ := h.f
  exact (fits_later h.w hf (hp.mem_iff.2 (List.mem_of_getElem? hz))).1
theorem SortI.step (h : SortI n base l c r o) (hr : 0 < r.length) : ∃ b u, bestTo c r r.length = some b ∧ Best c r r.length b u ∧ StepOk c u n ∧ SortI n base l (tickC c u.author) (r.eraseIdx b) (o ++ [u]) := by
  obtain ⟨m, hp, hf⟩ := h.f
  obtain ⟨b, u, m', h1, B, hs, hp', hf', _⟩ := sort_step h.w hp hf (by rintro rfl; cases hr)
  have hlen : r.length = (r.eraseIdx b).length + 1 := by rw [List.length_eraseIdx, if_pos B.lt]; omega
  refine ⟨b, u, h1, B, hs, tick_ok h.w hs, ⟨m', hp', hf'⟩, ?_, ?_⟩
  · have e := h.e
    generalize sortU l.length base l = X at e ⊢
    rw [hlen] at e
    unfold sortU at e
    rw [h1] at e; dsimp only at e; rw [B.at_] at e
    rw [← e]; simp
  · have := h.n; simp; omega
theorem SortI.fin (h : SortI n base l c r o) (hr : r.length = 0) : sortU l.length base l = o := by
  have : r = [] := List.eq_nil_of_length_eq_zero hr
  subst this
  rw [← h.e]; simp [sortU]
end
/-! ## the laws -/
theorem SortL_ok {base : List Int} {l : List Upd} {n : Int} (h : (SortL base l n).2.1 = 0) : (clockL base l n).2.1 = 0 ∧ SortL base l n = (sortU l.length base l, 0, 0) ∧ (sortU l.length base l).Perm l ∧ (clockL base (sortU l.length base l) n).2.1 = 0 := by
  by_cases hc : (clockL base l n).2.1 = 0
  · obtain ⟨a, b, f⟩ := sort_pre hc
    obtain ⟨p, q⟩ := sort_ok (k := l.length) rfl a (List.Perm.refl l) f
    refine ⟨hc, SortL_2 hc, p, ?_⟩
    rw [clockL_log a (by rw [p.length_eq]; exact b)]
    exact (fits_iff a).2 q
  · rw [SortL_1 hc] at h; exact absurd h hc
theorem SortL_len {base : List Int} {l : List Upd} {n : Int} (h : (SortL base l n).2.1 ≠ 0) : (SortL base l n).1 = [] := by
  by_cases hc : (clockL base l n).2.1 = 0
  · rw [SortL_2 hc] at h; exact absurd rfl h
  · rw [SortL_1 hc]
def cntA (j : Nat) : List Upd → Int
  | [] => 0
  | u :: l => (if j = u.author.toNat then 1 else 0) + cntA j l
theorem logC_cnt {n : Int} : ∀ (l : List Upd) (c : List Int), wrongC c n = 0 → Fits n c l → ∀ j i, atI (logC n c l i).1 j = atI c j + cntA j l
  | [], c, hc, h, j, i => by simp [logC, cntA]
  | u :: l, c, hc, h, j, i => by
    obtain ⟨h1, h2⟩ := h
    rw [logC.eq_2, stepE_of h1, if_neg (by simp), logC_cnt l _ (tick_ok hc h1) h2 j, tick_at hc h1 j]
    simp only [cntA]
    split
    · rename_i e; subst e; omega
    · omega
theorem cntA_perm {j : Nat} {l m : List Upd} (h : l.Perm m) : cntA j l = cntA j m := by
  induction h with
  | nil => rfl
  | cons u _ ih => simp only [cntA, ih]
  | swap u v l => simp only [cntA]; omega
  | trans _ _ a b => exact a.trans b
/-- an order comes to the same clock; sorted again it is the same -/
theorem sorted_p {base : List Int} {l : List Upd} {n : Int} (h : (SortL base l n).2.1 = 0) :
    (clockL base l n).2.1 = 0 ∧ (clockL base (SortL base l n).1 n).2.1 = 0 ∧ (SortL base (SortL base l n).1 n).2.1 = 0 ∧ (clockL base l n).1 = (clockL base (SortL base l n).1 n).1 ∧ (SortL base (SortL base l n).1 n).1 = (SortL base l n).1 ∧ (SortL base l n).1.length = l.length ∧ ∀ u ∈ l, u ∈ (SortL base l n).1 := by
  obtain ⟨hc, e, p, q⟩ := SortL_ok h
  obtain ⟨a, b, f⟩ := sort_pre hc
  obtain ⟨_, f2⟩ := sort_ok (k := l.length) rfl a (List.Perm.refl l) f
  rw [e]
  refine ⟨hc, q, by rw [SortL_2 q], ?_, ?_, p.length_eq, fun u hu => p.mem_iff.2 hu⟩
  · dsimp only
    rw [clockL_log a b, clockL_log a (by rw [p.length_eq]; exact b)]
    have w1 := wrongC_ok (logC_ok l base 0 a ((fits_iff a).2 f)).1
    have w2 := wrongC_ok (logC_ok _ base 0 a ((fits_iff a).2 f2)).1
    exact atI_ext (by omega) fun j => by rw [logC_cnt _ _ a f, logC_cnt _ _ a f2, cntA_perm p]
  · rw [SortL_2 q]
    dsimp only
    rw [p.length_eq]
    exact (sort_perm (k := l.length) rfl a (List.Perm.refl l) p f).symm
end Go.Proofs.Ytkjknlnhffmkkaa
