/- Package clock and the reference's clocks compute the plain functions of Pure. The slices are read, not written; what is answered is new. -/
import Derived.Test.YtkjknlnhffmkkaaRows
import Derived.Test.YtkjknlnhffmkkaaQPl
namespace Go.Proofs.Ytkjknlnhffmkkaa
open Go.RowKit
set_option linter.unusedVariables false

theorem At_calls (v : Value) (l : List Int) (i : Nat) (w : World) (h : IntsR (wrd w) v l) :
    Calls Try.prog 55 #[v, .int .i64 i] w fun e w' => e = .returned (.int .i64 (atI l i)) ∧ w = w' := by
  obtain ⟨A, c, rfl, h1, h2⟩ := h.val
  unfold maxLen at h2
  by_cases hk : i < l.length
  · obtain ⟨b, o, rfl, hc⟩ := h.at_ hk
    simp only [wrd] at hc
    have e : atI l i = l[i] := atI_lt hk
    clear h
    rw [e]
    clear e
    go_enter Try.func55, Try.ntmps55
    go_wp2
    go_ret
    exact ⟨rfl, rfl⟩
  · have e : atI l i = 0 := atI_ge (by omega)
    clear h
    rw [e]
    clear e
    go_enter Try.func55, Try.ntmps55
    go_wp2
    go_ret
    exact ⟨rfl, rfl⟩

theorem long_calls (v u : Value) (l m : List Int) (w : World) (h : IntsR (wrd w) v l) (h' : IntsR (wrd w) u m) :
    Calls Try.prog 54 #[v, u] w fun e w' => e = .returned (.int .i64 (max l.length m.length : Nat)) ∧ w = w' := by
  obtain ⟨A, c, rfl, h1, h2⟩ := h.val
  obtain ⟨A', c', rfl, h1', h2'⟩ := h'.val
  unfold maxLen at h2 h2'
  clear h h'
  go_enter Try.func54, Try.ntmps54
  go_wp2
  all_goals
    go_ret
    exact ⟨ret_i (by omega), rfl⟩

/-- a function value that tells of a number -/
def TellsI (f : Nat) (p : Int → Bool) : Prop := (∀ (x : Int) (w : World), (callFunc f #[.int .i64 x]).run Try.prog w = .ok (.enter f #[.int .i64 x]) w) ∧ ∀ (x : Int) (w : World), Calls Try.prog f #[.int .i64 x] w fun e w' => e = .returned (.bool (p x)) ∧ w = w'

theorem idxFunc_calls (v : Value) (l : List Int) (f : Nat) (p : Int → Bool) (w : World) (h : IntsR (wrd w) v l) (hp : TellsI f p) :
    Calls Try.prog 66 #[v, .func (.func f) #[] #[]] w fun e w' => e = .returned (.int .i64 (idxF p l)) ∧ w = w' := by
  obtain ⟨A, c, rfl, h1, h2⟩ := h.val
  unfold maxLen at h2
  have H := hid h; clear h
  obtain ⟨eg, hp⟩ := hp
  have HP := hid hp; clear hp
  go_enter Try.func66, Try.ntmps66
  go_wp2
  go_loop [8] (fun i => ∃ k : Nat, k ≤ l.length ∧ i = .int .i64 k ∧ Hid (∀ j y, j < k → l[j]? = some y → p y = false)) (fun i => l.length - (intOf i).toNat)
  case atStart => exact ⟨0, Nat.zero_le _, rfl, hid (fun j y h => absurd h (by omega))⟩
  case round =>
    obtain ⟨k, hk, rfl, hb⟩ := hrel
    by_cases hlt : k < l.length
    · obtain ⟨b, o, rfl, hc⟩ := H.out.at_ hlt
      simp only [wrd] at hc
      cases hpk : p l[k]
      · go_wp2_with (refine (HP.out _ _).mono ?_; rintro e w' ⟨rfl, rfl⟩)
        go_round
        case rel => exact ⟨k + 1, by omega, by go_num, hid (fun j y hj hy => by
          by_cases e : j = k
          · subst e; have e2 := (List.getElem?_eq_some_iff.1 hy).2; rw [← e2]; exact hpk
          · exact hb.out j y (by omega) hy)⟩
        case measure => simp [intOf]; omega
      · go_wp2_with (refine (HP.out _ _).mono ?_; rintro e w' ⟨rfl, rfl⟩)
        go_ret
        exact ⟨ret_i (idxF_hit (x := l[k]) (by simp [hlt]) hpk hb.out).symm, rfl⟩
    · go_wp2
      go_ret
      refine ⟨ret_i (idxF_none fun j y hy => hb.out j y ?_ hy).symm, rfl⟩
      have := (List.getElem?_eq_some_iff.1 hy).1
      omega

theorem cntFunc_calls (v : Value) (l : List Int) (f : Nat) (p : Int → Bool) (w : World) (h : IntsR (wrd w) v l) (hp : TellsI f p) :
    Calls Try.prog 46 #[v, .func (.func f) #[] #[]] w fun e w' => e = .returned (.bool (l.any p)) ∧ w = w' := by
  rw [← idxF_any]
  obtain ⟨b1, b2⟩ := idxF_bd p l
  have HI := idxFunc_calls v l f p w h hp
  generalize idxF p l = q at *
  have H := hid HI; clear HI h hp
  go_enter Try.func46, Try.ntmps46
  go_wp2_with (refine H.out.mono ?_; rintro e w' ⟨rfl, rfl⟩)
  go_ret
  exact ⟨rfl, rfl⟩

theorem wrong1_tells : TellsI 47 (fun k => !okK k) := by
  refine ⟨fun _ _ => by kernel_rfl, fun x w => ?_⟩
  show Calls _ _ _ _ fun e w' => e = .returned (.bool (!okK x)) ∧ w = w'
  by_cases h0 : x < 0
  · have e : (!okK x) = true := by simp [okK]; omega
    rw [e]; clear e
    go_enter Try.func47, Try.ntmps47
    go_wp2
    go_ret
    exact ⟨rfl, rfl⟩
  · by_cases h1 : 1000 < x
    · have e : (!okK x) = true := by simp [okK]; omega
      rw [e]; clear e
      go_enter Try.func47, Try.ntmps47
      go_wp2
      go_ret
      exact ⟨rfl, rfl⟩
    · have e : (!okK x) = false := by simp [okK]; omega
      rw [e]; clear e
      go_enter Try.func47, Try.ntmps47
      go_wp2
      go_ret
      exact ⟨rfl, rfl⟩

theorem any_not_all {l : List Int} : l.any (fun k => !okK k) = !l.all okK := by
  induction l <;> simp_all

theorem Wrong_calls (v : Value) (l : List Int) (n : Int) (w : World) (h : IntsR (wrd w) v l) :
    Calls Try.prog 16 #[v, .int .i64 n] w fun e w' => e = .returned (.int .i64 (wrongC l n)) ∧ w = w' := by
  have HC := hid (cntFunc_calls v l _ _ w h wrong1_tells)
  rw [any_not_all] at HC
  obtain ⟨A, c, rfl, h1, h2⟩ := h.val
  unfold maxLen at h2
  clear h
  by_cases c1 : n < 1
  · have e : wrongC l n = 5 := by unfold wrongC; rw [if_pos (by omega)]
    rw [e]; clear e HC
    go_enter Try.func16, Try.ntmps16
    go_wp2
    go_ret
    exact ⟨rfl, rfl⟩
  by_cases c2 : 6 < n
  · have e : wrongC l n = 5 := by unfold wrongC; rw [if_pos (by omega)]
    rw [e]; clear e HC
    go_enter Try.func16, Try.ntmps16
    go_wp2
    go_ret
    exact ⟨rfl, rfl⟩
  by_cases c3 : (l.length : Int) = n
  · subst c3
    cases hl : l.all okK
    · have e : wrongC l l.length = 3 := by unfold wrongC; rw [if_neg (by omega), hl]; rfl
      rw [hl] at HC
      rw [e]; clear e hl
      go_enter Try.func16, Try.ntmps16
      go_wp2_with (refine HC.out.mono ?_; rintro e w' ⟨rfl, rfl⟩)
      go_ret
      exact ⟨rfl, rfl⟩
    · have e : wrongC l l.length = 0 := by unfold wrongC; rw [if_neg (by omega), hl]; rfl
      rw [hl] at HC
      rw [e]; clear e hl
      go_enter Try.func16, Try.ntmps16
      go_wp2_with (refine HC.out.mono ?_; rintro e w' ⟨rfl, rfl⟩)
      go_ret
      exact ⟨rfl, rfl⟩
  · have e : wrongC l n = 5 := by unfold wrongC; rw [if_pos (by omega)]
    have e2 : ((l.length : Int) == n) = false := by simpa using c3
    have e3 : ((l.length : Int) != n) = true := by simpa using c3
    rw [e]; clear e HC
    go_enter Try.func16, Try.ntmps16
    go_wp2
    go_ret
    exact ⟨rfl, rfl⟩

end Go.Proofs.Ytkjknlnhffmkkaa
