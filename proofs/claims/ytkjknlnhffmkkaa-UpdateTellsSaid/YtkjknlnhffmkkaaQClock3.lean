/- The reference's clocks: Wrong, Sees, Same, Join, Meet compute the plain functions of Pure. -/
import Derived.Test.YtkjknlnhffmkkaaQClock2
namespace Go.Proofs.Ytkjknlnhffmkkaa
open Go.RowKit
set_option linter.unusedVariables false

theorem wrongC_five {l : List Int} {n : Int} (h : n < 1 ∨ 6 < n ∨ (l.length : Int) ≠ n) : wrongC l n = 5 := by unfold wrongC; rw [if_pos h]
theorem wrongC_three {l : List Int} (h1 : 1 ≤ l.length) (h2 : l.length ≤ 6) {k : Nat} (hk : k < l.length) (hb : okK l[k] = false) : wrongC l l.length = 3 := by
  unfold wrongC
  rw [if_neg (by omega), if_neg]
  intro h
  rw [List.all_eq_true] at h
  rw [h _ (List.getElem_mem hk)] at hb
  cases hb
theorem wrongC_zero {l : List Int} (h1 : 1 ≤ l.length) (h2 : l.length ≤ 6) (hb : ∀ (j : Nat) y, l[j]? = some y → okK y = true) : wrongC l l.length = 0 := by
  unfold wrongC
  rw [if_neg (by omega), if_pos]
  rw [List.all_eq_true]
  intro x hx
  obtain ⟨j, hj⟩ := List.getElem?_of_mem hx
  exact hb j x hj

theorem rWrong_calls (v : Value) (l : List Int) (n : Int) (w : World) (h : IntsR (wrd w) v l) :
    Calls Try.prog 30 #[v, .int .i64 n] w fun e w' => e = .returned (.int .i64 (wrongC l n)) ∧ w = w' := by
  obtain ⟨A, c, rfl, h1, h2⟩ := h.val
  unfold maxLen at h2
  have H := hid h; clear h
  by_cases c1 : n < 1
  · rw [wrongC_five (.inl c1)]
    go_enter Try.func30, Try.ntmps30
    go_wp2
    go_ret
    exact ⟨rfl, rfl⟩
  by_cases c2 : 6 < n
  · rw [wrongC_five (.inr (.inl c2))]
    go_enter Try.func30, Try.ntmps30
    go_wp2
    go_ret
    exact ⟨rfl, rfl⟩
  by_cases c3 : (l.length : Int) = n
  · subst c3
    go_enter Try.func30, Try.ntmps30
    go_wp2
    go_loop [21] (fun i => ∃ k : Nat, k ≤ l.length ∧ i = .int .i64 k ∧ Hid (∀ (j : Nat) y, j < k → l[j]? = some y → okK y = true)) (fun i => l.length - (intOf i).toNat)
    case atStart => exact ⟨0, Nat.zero_le _, rfl, hid (fun j y h => absurd h (by omega))⟩
    case round =>
      obtain ⟨k, hk, rfl, hb⟩ := hrel
      by_cases hlt : k < l.length
      · obtain ⟨b, o, rfl, hc⟩ := H.out.at_ hlt
        simp only [wrd] at hc
        by_cases d1 : l[k] < 0
        · have HQ := hid (wrongC_three (by omega) (by omega) hlt (by unfold okK; simp; omega))
          go_wp2
          go_ret
          exact ⟨ret_i HQ.out.symm, rfl⟩
        · by_cases d2 : 1000 < l[k]
          · have HQ := hid (wrongC_three (by omega) (by omega) hlt (by unfold okK; simp; omega))
            go_wp2
            go_ret
            exact ⟨ret_i HQ.out.symm, rfl⟩
          · have HQ := hid (show okK l[k] = true by unfold okK; simp; omega)
            go_wp2
            go_round
            case rel => exact ⟨k + 1, by omega, by go_num, hid (fun j y hj hy => by
              by_cases e : j = k
              · subst e; rw [← (List.getElem?_eq_some_iff.1 hy).2]; exact HQ.out
              · exact hb.out j y (by omega) hy)⟩
            case measure => simp [intOf]; omega
      · go_wp2
        go_ret
        refine ⟨ret_i (wrongC_zero (by omega) (by omega) fun j y hy => hb.out j y ?_ hy).symm, rfl⟩
        have := (List.getElem?_eq_some_iff.1 hy).1
        omega
  · have e2 : ((l.length : Int) == n) = false := by simpa using c3
    have e3 : ((l.length : Int) != n) = true := by simpa using c3
    rw [wrongC_five (.inr (.inr c3))]
    go_enter Try.func30, Try.ntmps30
    go_wp2
    go_ret
    exact ⟨rfl, rfl⟩

theorem seesC_false {a b : List Int} {k : Nat} (hk : k < max a.length b.length) (h : atI a k < atI b k) : seesC a b = false := by
  unfold seesC
  rw [List.all_eq_false]
  exact ⟨k, List.mem_range.2 hk, by simpa using h⟩
theorem seesC_true {a b : List Int} (h : ∀ k, k < max a.length b.length → atI b k ≤ atI a k) : seesC a b = true := by
  unfold seesC
  rw [List.all_eq_true]
  intro k hk
  simpa using h k (List.mem_range.1 hk)

theorem rSees_calls (v u : Value) (a b : List Int) (w : World) (h : IntsR (wrd w) v a) (h' : IntsR (wrd w) u b) :
    Calls Try.prog 33 #[v, u] w fun e w' => e = .returned (.bool (seesC a b)) ∧ w = w' := by
  obtain ⟨A, c, rfl, h1, h2⟩ := h.val
  obtain ⟨A', c', rfl, h1', h2'⟩ := h'.val
  unfold maxLen at h2 h2'
  have HA := h
  have HB := h'
  clear h h'
  go_enter Try.func33, Try.ntmps33
  go_wp2
  go_loop [5] (fun i => ∃ k : Nat, k ≤ max a.length b.length ∧ i = .int .i64 k ∧ Hid (∀ j, j < k → atI b j ≤ atI a j)) (fun i => max a.length b.length - (intOf i).toNat)
  case atStart => exact ⟨0, Nat.zero_le _, rfl, hid (fun j h => absurd h (by omega))⟩
  case round =>
    obtain ⟨k, hk, rfl, hb⟩ := hrel
    by_cases hlt : k < max a.length b.length
    · by_cases hs : atI a k < atI b k
      · have HQ := hid (seesC_false hlt hs)
        go_wp2_with (first | (go_at_call 54; refine (long_calls _ _ _ _ _ HA HB).mono ?_; rintro e w' ⟨rfl, rfl⟩) | (go_at_call 55; refine (At_calls _ _ _ _ (by assumption)).mono ?_; rintro e w' ⟨rfl, rfl⟩))
        go_ret
        exact ⟨ret_b HQ.out.symm, rfl⟩
      · go_wp2_with (first | (go_at_call 54; refine (long_calls _ _ _ _ _ HA HB).mono ?_; rintro e w' ⟨rfl, rfl⟩) | (go_at_call 55; refine (At_calls _ _ _ _ (by assumption)).mono ?_; rintro e w' ⟨rfl, rfl⟩))
        go_round
        case rel => exact ⟨k + 1, by omega, by go_num, hid (fun j hj => by
          by_cases e : j = k
          · subst e; omega
          · exact hb.out j (by omega))⟩
        case measure => simp [intOf]; omega
    · go_wp2_with (first | (go_at_call 54; refine (long_calls _ _ _ _ _ HA HB).mono ?_; rintro e w' ⟨rfl, rfl⟩))
      go_ret
      exact ⟨ret_b (seesC_true fun j hj => hb.out j (by omega)).symm, rfl⟩

def sameL (a b : List Int) : Bool := decide (a = b)
theorem sameL_ne {a b : List Int} (h : a.length ≠ b.length) : sameL a b = false := by unfold sameL; simp; intro e; exact h (by rw [e])
theorem sameL_at {a b : List Int} {k : Nat} (h1 : k < a.length) (h2 : k < b.length) (h : a[k] ≠ b[k]) : sameL a b = false := by
  unfold sameL; simp; intro e; subst e; exact h rfl
theorem sameL_all {a b : List Int} (hl : a.length = b.length) (h : ∀ (k : Nat) (h1 : k < a.length) (h2 : k < b.length), a[k] = b[k]) : sameL a b = true := by
  unfold sameL; simp; exact List.ext_getElem hl h

theorem Same_calls (v u : Value) (a b : List Int) (w : World) (h : IntsR (wrd w) v a) (h' : IntsR (wrd w) u b) :
    Calls Try.prog 18 #[v, u] w fun e w' => e = .returned (.bool (sameL a b)) ∧ Below w.heap.size w w' := by
  obtain ⟨A, c, rfl, h1, h2⟩ := h.val
  obtain ⟨A', c', rfl, h1', h2'⟩ := h'.val
  unfold maxLen at h2 h2'
  have HA := h
  have HB := h'
  clear h h'
  by_cases hl : a.length = b.length
  · have e2 : ((a.length : Int) != (b.length : Int)) = false := by simp [hl]
    have e3 : ((a.length : Int) == (b.length : Int)) = true := by simp [hl]
    have HL := hid hl
    clear hl
    go_enter Try.func18, Try.ntmps18
    go_wp2
    clear e2 e3
    go_loopw [13] (fun i wr => ∃ k : Nat, k ≤ a.length ∧ i = .int .i64 k ∧ Hid (∀ (j : Nat) (h1 : j < a.length) (h2 : j < b.length), j < k → a[j] = b[j]) ∧ Below w.heap.size w wr) (fun i _ => a.length - (intOf i).toNat)
    case atStart => exact ⟨0, Nat.zero_le _, rfl, hid (fun j _ _ h => absurd h (by omega)), Below.refl _ _⟩
    case round =>
      obtain ⟨k, hk, rfl, hr, hb⟩ := hrel
      by_cases hlt : k < a.length
      · obtain ⟨ba, oa, rfl, hca⟩ := (HA.mono (le_below hb (Nat.le_refl _))).at_ hlt
        have hlt2 : k < b.length := by have := HL.out; omega
        obtain ⟨bb, ob, rfl, hcb⟩ := (HB.mono (le_below hb (Nat.le_refl _))).at_ hlt2
        simp only [wrd] at hca hcb
        have i1 : (k : Int) < (a.length : Int) := by omega
        have i2 : (k : Int) < (b.length : Int) := by omega
        by_cases he : a[k] = b[k]
        · have e2 : (a[k] != b[k]) = false := by simp [he]
          have e3 : (a[k] == b[k]) = true := by simp [he]
          have he' := hid he
          clear he
          go_wp2
          go_quiet (fail)
          go_wp2
          go_roundw
          case rel => exact ⟨k + 1, by omega, by go_num, hid (fun j h1 h2 hj => by
            by_cases e : j = k
            · subst e; exact he'.out
            · exact hr.out j h1 h2 (by omega)), hb.trans (below_drewN _ _ _)⟩
          case measure => simp [intOf]; omega
        · have e2 : (a[k] != b[k]) = true := by simp [he]
          have e3 : (a[k] == b[k]) = false := by simp [he]
          have HQ := hid (sameL_at hlt hlt2 he)
          clear he
          go_wp2
          go_quiet (fail)
          go_wp2
          go_ret
          exact ⟨ret_b HQ.out.symm, hb.trans (below_drewN _ _ _)⟩
      · go_wp2
        go_ret
        exact ⟨ret_b (sameL_all HL.out fun j h1 h2 => hr.out j h1 h2 (by omega)).symm, hb⟩
  · have e2 : ((a.length : Int) != (b.length : Int)) = true := by simp; omega
    have e3 : ((a.length : Int) == (b.length : Int)) = false := by simp; omega
    have HQ := hid (sameL_ne hl)
    clear hl
    go_enter Try.func18, Try.ntmps18
    go_wp2
    go_ret
    exact ⟨ret_b HQ.out.symm, Below.refl _ _⟩
end Go.Proofs.Ytkjknlnhffmkkaa
