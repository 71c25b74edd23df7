/- Package update and the reference's updates: Wrong, Seq, Own, SameUpdate; log.has. -/
import Derived.Test.YtkjknlnhffmkkaaClock3
import Derived.Test.YtkjknlnhffmkkaaUpd
namespace Go.Proofs.Ytkjknlnhffmkkaa
open Go.RowKit
set_option linter.unusedVariables false

set_option maxHeartbeats 8000000 in
theorem UWrong_calls (v : Value) (u : Upd) (n : Int) (w : World) (h : AggR UpdR (wrd w) v u) :
    Calls Try.prog 21 #[v, .int .i64 n] w fun e w' => e = .returned (.int .i64 (wrongU u n)) ∧ Below w.heap.size w w' := by
  obtain ⟨cs, rfl, sv, rfl, hs⟩ := h
  obtain ⟨au, se, ki, ke, it⟩ := u
  simp only at hs ⊢
  by_cases hc : wrongC se n = 0
  rotate_left
  · rw [show wrongU ⟨au, se, ki, ke, it⟩ n = wrongC se n by unfold wrongU; rw [if_pos hc]]
    obtain ⟨hc1, hc2⟩ := ne_b hc
    clear hc
    go_enter Try.func21, Try.ntmps21
    go_wp2_with (go_at_call 16; refine (Wrong_calls _ _ _ _ (SliceR.up hs (below_alloc1 _ _))).mono ?_; rintro e w' ⟨rfl, rfl⟩)
    go_ret
    exact ⟨rfl, below_alloc1 _ _⟩
  obtain ⟨n1, n6, hln, hrange⟩ := wrongC_ok hc
  clear hrange
  by_cases a0 : au < 0
  · rw [show wrongU ⟨au, se, ki, ke, it⟩ n = 3 by unfold wrongU; simp only; rw [if_neg (by omega), if_pos (by omega)]]
    clear hln
    go_enter Try.func21, Try.ntmps21
    go_wp2_with (go_at_call 16; refine (Wrong_calls _ _ _ _ (SliceR.up hs (below_alloc1 _ _))).mono ?_; rintro e w' ⟨rfl, rfl⟩)
    go_ret
    exact ⟨rfl, below_alloc1 _ _⟩
  obtain ⟨k, rfl⟩ := Int.eq_ofNat_of_zero_le (Int.not_lt.1 a0)
  clear a0
  by_cases a1 : n ≤ k
  · rw [show wrongU ⟨k, se, ki, ke, it⟩ n = 3 by unfold wrongU; simp only; rw [if_neg (by omega), if_pos (by omega)]]
    clear hln
    go_enter Try.func21, Try.ntmps21
    go_wp2_with (go_at_call 16; refine (Wrong_calls _ _ _ _ (SliceR.up hs (below_alloc1 _ _))).mono ?_; rintro e w' ⟨rfl, rfl⟩)
    go_ret
    exact ⟨rfl, below_alloc1 _ _⟩
  have hk : k < se.length := by omega
  obtain ⟨A, c, rfl, m1, m2⟩ := hs.val
  obtain ⟨b, o, rfl, hcell⟩ := hs.at_ hk
  have hcell2 : ∀ X : Obj, (w.alloc X).cell? ⟨b, o + k, none⟩ = some (.int .i64 se[k]) := fun X => IntsR.cell hs (le_alloc w X) hk
  have hse := (wrongC_ok hc).2.2.2 se[k] (List.getElem_mem hk)
  obtain ⟨s0, s1⟩ := hse
  have hat : atI se (Int.toNat k) = se[k] := by rw [Int.toNat_natCast, atI_lt hk]
  have hln' := hid hln
  unfold maxLen at m2
  clear hcell
  by_cases a2 : 1000 ≤ se[k]
  · rw [show wrongU ⟨k, se, ki, ke, it⟩ n = 3 by unfold wrongU; simp only; rw [if_neg (by omega), if_pos (by omega)]]
    have b1 : (se[k] == 1000) = true := by simp; omega
    clear hln hat
    go_enter Try.func21, Try.ntmps21
    go_wp2_with (go_at_call 16; refine (Wrong_calls _ _ _ _ (SliceR.up hs (below_alloc1 _ _))).mono ?_; rintro e w' ⟨rfl, rfl⟩)
    go_ret
    exact ⟨rfl, below_alloc1 _ _⟩
  have b1 : (se[k] == 1000) = false := by simp; omega
  by_cases k0 : ki < 1
  · rw [show wrongU ⟨k, se, ki, ke, it⟩ n = 1 by unfold wrongU; simp only; rw [if_neg (by omega), if_neg (by omega), if_pos (by omega)]]
    clear hln hat
    go_enter Try.func21, Try.ntmps21
    go_wp2_with (go_at_call 16; refine (Wrong_calls _ _ _ _ (SliceR.up hs (below_alloc1 _ _))).mono ?_; rintro e w' ⟨rfl, rfl⟩)
    go_ret
    exact ⟨rfl, below_alloc1 _ _⟩
  by_cases k1 : 5 < ki
  · rw [show wrongU ⟨k, se, ki, ke, it⟩ n = 1 by unfold wrongU; simp only; rw [if_neg (by omega), if_neg (by omega), if_pos (by omega)]]
    clear hln hat
    go_enter Try.func21, Try.ntmps21
    go_wp2_with (go_at_call 16; refine (Wrong_calls _ _ _ _ (SliceR.up hs (below_alloc1 _ _))).mono ?_; rintro e w' ⟨rfl, rfl⟩)
    go_ret
    exact ⟨rfl, below_alloc1 _ _⟩
  by_cases y0 : ke < 0
  · rw [show wrongU ⟨k, se, ki, ke, it⟩ n = 3 by unfold wrongU; simp only; rw [if_neg (by omega), if_neg (by omega), if_neg (by omega), if_pos (by omega)]]
    clear hln hat
    go_enter Try.func21, Try.ntmps21
    go_wp2_with (go_at_call 16; refine (Wrong_calls _ _ _ _ (SliceR.up hs (below_alloc1 _ _))).mono ?_; rintro e w' ⟨rfl, rfl⟩)
    go_ret
    exact ⟨rfl, below_alloc1 _ _⟩
  by_cases y1 : 15 < ke
  · rw [show wrongU ⟨k, se, ki, ke, it⟩ n = 3 by unfold wrongU; simp only; rw [if_neg (by omega), if_neg (by omega), if_neg (by omega), if_pos (by omega)]]
    clear hln hat
    go_enter Try.func21, Try.ntmps21
    go_wp2_with (go_at_call 16; refine (Wrong_calls _ _ _ _ (SliceR.up hs (below_alloc1 _ _))).mono ?_; rintro e w' ⟨rfl, rfl⟩)
    go_ret
    exact ⟨rfl, below_alloc1 _ _⟩
  by_cases i0 : it < -1000
  · rw [show wrongU ⟨k, se, ki, ke, it⟩ n = 3 by unfold wrongU; simp only; rw [if_neg (by omega), if_neg (by omega), if_neg (by omega), if_pos (by omega)]]
    clear hln hat
    go_enter Try.func21, Try.ntmps21
    go_wp2_with (go_at_call 16; refine (Wrong_calls _ _ _ _ (SliceR.up hs (below_alloc1 _ _))).mono ?_; rintro e w' ⟨rfl, rfl⟩)
    go_ret
    exact ⟨rfl, below_alloc1 _ _⟩
  by_cases i1 : 1000 < it
  · rw [show wrongU ⟨k, se, ki, ke, it⟩ n = 3 by unfold wrongU; simp only; rw [if_neg (by omega), if_neg (by omega), if_neg (by omega), if_pos (by omega)]]
    clear hln hat
    go_enter Try.func21, Try.ntmps21
    go_wp2_with (go_at_call 16; refine (Wrong_calls _ _ _ _ (SliceR.up hs (below_alloc1 _ _))).mono ?_; rintro e w' ⟨rfl, rfl⟩)
    go_ret
    exact ⟨rfl, below_alloc1 _ _⟩
  by_cases f0 : ki = 2
  · have b2 : (ki == 2) = true := by simp [f0]
    by_cases f1 : it = 0
    · have b3 : (it != 0) = false := by simp [f1]
      have b4 : (it == 0) = true := by simp [f1]
      rw [show wrongU ⟨k, se, ki, ke, it⟩ n = 0 by unfold wrongU; simp only; rw [if_neg (by omega), if_neg (by omega), if_neg (by omega), if_neg (by omega), if_neg (by omega)]]
      clear hln hat f0 f1
      go_enter Try.func21, Try.ntmps21
      go_wp2_with (go_at_call 16; refine (Wrong_calls _ _ _ _ (SliceR.up hs (below_alloc1 _ _))).mono ?_; rintro e w' ⟨rfl, rfl⟩)
      go_ret
      exact ⟨rfl, below_alloc1 _ _⟩
    · have b3 : (it != 0) = true := by simp [f1]
      have b4 : (it == 0) = false := by simp [f1]
      rw [show wrongU ⟨k, se, ki, ke, it⟩ n = 2 by unfold wrongU; simp only; rw [if_neg (by omega), if_neg (by omega), if_neg (by omega), if_neg (by omega), if_pos (by omega)]]
      clear hln hat f0 f1
      go_enter Try.func21, Try.ntmps21
      go_wp2_with (go_at_call 16; refine (Wrong_calls _ _ _ _ (SliceR.up hs (below_alloc1 _ _))).mono ?_; rintro e w' ⟨rfl, rfl⟩)
      go_ret
      exact ⟨rfl, below_alloc1 _ _⟩
  · have b2 : (ki == 2) = false := by simp [f0]
    rw [show wrongU ⟨k, se, ki, ke, it⟩ n = 0 by unfold wrongU; simp only; rw [if_neg (by omega), if_neg (by omega), if_neg (by omega), if_neg (by omega), if_neg (by omega)]]
    clear hln hat f0
    go_enter Try.func21, Try.ntmps21
    go_wp2_with (go_at_call 16; refine (Wrong_calls _ _ _ _ (SliceR.up hs (below_alloc1 _ _))).mono ?_; rintro e w' ⟨rfl, rfl⟩)
    go_ret
    exact ⟨rfl, below_alloc1 _ _⟩

set_option maxHeartbeats 8000000 in
theorem rUWrong_calls (v : Value) (u : Upd) (n : Int) (w : World) (h : AggR UpdR (wrd w) v u) :
    Calls Try.prog 22 #[v, .int .i64 n] w fun e w' => e = .returned (.int .i64 (wrongU u n)) ∧ Below w.heap.size w w' := by
  obtain ⟨cs, rfl, sv, rfl, hs⟩ := h
  obtain ⟨au, se, ki, ke, it⟩ := u
  simp only at hs ⊢
  by_cases hc : wrongC se n = 0
  rotate_left
  · rw [show wrongU ⟨au, se, ki, ke, it⟩ n = wrongC se n by unfold wrongU; rw [if_pos hc]]
    obtain ⟨hc1, hc2⟩ := ne_b hc
    clear hc
    go_enter Try.func22, Try.ntmps22
    go_wp2_with (go_at_call 30; refine (rWrong_calls _ _ _ _ (SliceR.up hs (below_alloc1 _ _))).mono ?_; rintro e w' ⟨rfl, rfl⟩)
    go_ret
    exact ⟨rfl, below_alloc1 _ _⟩
  obtain ⟨n1, n6, hln, hrange⟩ := wrongC_ok hc
  clear hrange
  by_cases a0 : au < 0
  · rw [show wrongU ⟨au, se, ki, ke, it⟩ n = 3 by unfold wrongU; simp only; rw [if_neg (by omega), if_pos (by omega)]]
    clear hln
    go_enter Try.func22, Try.ntmps22
    go_wp2_with (go_at_call 30; refine (rWrong_calls _ _ _ _ (SliceR.up hs (below_alloc1 _ _))).mono ?_; rintro e w' ⟨rfl, rfl⟩)
    go_ret
    exact ⟨rfl, below_alloc1 _ _⟩
  obtain ⟨k, rfl⟩ := Int.eq_ofNat_of_zero_le (Int.not_lt.1 a0)
  clear a0
  by_cases a1 : n ≤ k
  · rw [show wrongU ⟨k, se, ki, ke, it⟩ n = 3 by unfold wrongU; simp only; rw [if_neg (by omega), if_pos (by omega)]]
    clear hln
    go_enter Try.func22, Try.ntmps22
    go_wp2_with (go_at_call 30; refine (rWrong_calls _ _ _ _ (SliceR.up hs (below_alloc1 _ _))).mono ?_; rintro e w' ⟨rfl, rfl⟩)
    go_ret
    exact ⟨rfl, below_alloc1 _ _⟩
  have hk : k < se.length := by omega
  obtain ⟨A, c, rfl, m1, m2⟩ := hs.val
  obtain ⟨b, o, rfl, hcell⟩ := hs.at_ hk
  have hcell2 : ∀ X : Obj, (w.alloc X).cell? ⟨b, o + k, none⟩ = some (.int .i64 se[k]) := fun X => IntsR.cell hs (le_alloc w X) hk
  have hse := (wrongC_ok hc).2.2.2 se[k] (List.getElem_mem hk)
  obtain ⟨s0, s1⟩ := hse
  have hat : atI se (Int.toNat k) = se[k] := by rw [Int.toNat_natCast, atI_lt hk]
  have hln' := hid hln
  unfold maxLen at m2
  clear hcell
  by_cases a2 : 1000 ≤ se[k]
  · rw [show wrongU ⟨k, se, ki, ke, it⟩ n = 3 by unfold wrongU; simp only; rw [if_neg (by omega), if_pos (by omega)]]
    clear hln hat
    go_enter Try.func22, Try.ntmps22
    go_wp2_with (go_at_call 30; refine (rWrong_calls _ _ _ _ (SliceR.up hs (below_alloc1 _ _))).mono ?_; rintro e w' ⟨rfl, rfl⟩)
    go_ret
    exact ⟨rfl, below_alloc1 _ _⟩
  by_cases k0 : ki < 1
  · rw [show wrongU ⟨k, se, ki, ke, it⟩ n = 1 by unfold wrongU; simp only; rw [if_neg (by omega), if_neg (by omega), if_pos (by omega)]]
    clear hln hat
    go_enter Try.func22, Try.ntmps22
    go_wp2_with (go_at_call 30; refine (rWrong_calls _ _ _ _ (SliceR.up hs (below_alloc1 _ _))).mono ?_; rintro e w' ⟨rfl, rfl⟩)
    go_ret
    exact ⟨rfl, below_alloc1 _ _⟩
  by_cases k1 : 5 < ki
  · rw [show wrongU ⟨k, se, ki, ke, it⟩ n = 1 by unfold wrongU; simp only; rw [if_neg (by omega), if_neg (by omega), if_pos (by omega)]]
    clear hln hat
    go_enter Try.func22, Try.ntmps22
    go_wp2_with (go_at_call 30; refine (rWrong_calls _ _ _ _ (SliceR.up hs (below_alloc1 _ _))).mono ?_; rintro e w' ⟨rfl, rfl⟩)
    go_ret
    exact ⟨rfl, below_alloc1 _ _⟩
  by_cases y0 : ke < 0
  · rw [show wrongU ⟨k, se, ki, ke, it⟩ n = 3 by unfold wrongU; simp only; rw [if_neg (by omega), if_neg (by omega), if_neg (by omega), if_pos (by omega)]]
    clear hln hat
    go_enter Try.func22, Try.ntmps22
    go_wp2_with (go_at_call 30; refine (rWrong_calls _ _ _ _ (SliceR.up hs (below_alloc1 _ _))).mono ?_; rintro e w' ⟨rfl, rfl⟩)
    go_ret
    exact ⟨rfl, below_alloc1 _ _⟩
  by_cases y1 : 15 < ke
  · rw [show wrongU ⟨k, se, ki, ke, it⟩ n = 3 by unfold wrongU; simp only; rw [if_neg (by omega), if_neg (by omega), if_neg (by omega), if_pos (by omega)]]
    clear hln hat
    go_enter Try.func22, Try.ntmps22
    go_wp2_with (go_at_call 30; refine (rWrong_calls _ _ _ _ (SliceR.up hs (below_alloc1 _ _))).mono ?_; rintro e w' ⟨rfl, rfl⟩)
    go_ret
    exact ⟨rfl, below_alloc1 _ _⟩
  by_cases i0 : it < -1000
  · rw [show wrongU ⟨k, se, ki, ke, it⟩ n = 3 by unfold wrongU; simp only; rw [if_neg (by omega), if_neg (by omega), if_neg (by omega), if_pos (by omega)]]
    clear hln hat
    go_enter Try.func22, Try.ntmps22
    go_wp2_with (go_at_call 30; refine (rWrong_calls _ _ _ _ (SliceR.up hs (below_alloc1 _ _))).mono ?_; rintro e w' ⟨rfl, rfl⟩)
    go_ret
    exact ⟨rfl, below_alloc1 _ _⟩
  by_cases i1 : 1000 < it
  · rw [show wrongU ⟨k, se, ki, ke, it⟩ n = 3 by unfold wrongU; simp only; rw [if_neg (by omega), if_neg (by omega), if_neg (by omega), if_pos (by omega)]]
    clear hln hat
    go_enter Try.func22, Try.ntmps22
    go_wp2_with (go_at_call 30; refine (rWrong_calls _ _ _ _ (SliceR.up hs (below_alloc1 _ _))).mono ?_; rintro e w' ⟨rfl, rfl⟩)
    go_ret
    exact ⟨rfl, below_alloc1 _ _⟩
  by_cases f0 : ki = 2
  · have b2 : (ki == 2) = true := by simp [f0]
    by_cases f1 : it = 0
    · have b3 : (it != 0) = false := by simp [f1]
      have b4 : (it == 0) = true := by simp [f1]
      rw [show wrongU ⟨k, se, ki, ke, it⟩ n = 0 by unfold wrongU; simp only; rw [if_neg (by omega), if_neg (by omega), if_neg (by omega), if_neg (by omega), if_neg (by omega)]]
      clear hln hat f0 f1
      go_enter Try.func22, Try.ntmps22
      go_wp2_with (go_at_call 30; refine (rWrong_calls _ _ _ _ (SliceR.up hs (below_alloc1 _ _))).mono ?_; rintro e w' ⟨rfl, rfl⟩)
      go_ret
      exact ⟨rfl, below_alloc1 _ _⟩
    · have b3 : (it != 0) = true := by simp [f1]
      have b4 : (it == 0) = false := by simp [f1]
      rw [show wrongU ⟨k, se, ki, ke, it⟩ n = 2 by unfold wrongU; simp only; rw [if_neg (by omega), if_neg (by omega), if_neg (by omega), if_neg (by omega), if_pos (by omega)]]
      clear hln hat f0 f1
      go_enter Try.func22, Try.ntmps22
      go_wp2_with (go_at_call 30; refine (rWrong_calls _ _ _ _ (SliceR.up hs (below_alloc1 _ _))).mono ?_; rintro e w' ⟨rfl, rfl⟩)
      go_ret
      exact ⟨rfl, below_alloc1 _ _⟩
  · have b2 : (ki == 2) = false := by simp [f0]
    rw [show wrongU ⟨k, se, ki, ke, it⟩ n = 0 by unfold wrongU; simp only; rw [if_neg (by omega), if_neg (by omega), if_neg (by omega), if_neg (by omega), if_neg (by omega)]]
    clear hln hat f0
    go_enter Try.func22, Try.ntmps22
    go_wp2_with (go_at_call 30; refine (rWrong_calls _ _ _ _ (SliceR.up hs (below_alloc1 _ _))).mono ?_; rintro e w' ⟨rfl, rfl⟩)
    go_ret
    exact ⟨rfl, below_alloc1 _ _⟩
end Go.Proofs.Ytkjknlnhffmkkaa
