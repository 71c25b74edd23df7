/- prunelaw1.alive answers true. -/
import Derived.Test.YtkjknlnhffmkkaaClock3
namespace Go.Proofs.Ytkjknlnhffmkkaa
open Go.RowKit
set_option linter.unusedVariables false

theorem alive1_calls (w : World) : Calls Try.prog 15 #[] w fun e w' => e = .returned (.bool true) ∧ Below w.heap.size w w' := by
  go_enter Try.func15, Try.ntmps15
  go_wp2_with fail
  have h0 : Below w.heap.size w ((w.alloc (.cells #[.int .i64 1, .int .i64 2] 3)).alloc (.cells #[.int .i64 2, .int .i64 1] 3)) := ((Below.refl _ _).alloc (by simp) _).alloc (by simp) _
  have ha : IntsR (wrd ((w.alloc (.cells #[.int .i64 1, .int .i64 2] 3)).alloc (.cells #[.int .i64 2, .int .i64 1] 3))) (.slice (some ⟨w.heap.size, 0, none⟩) 2 2) [1, 2] :=
    built_ints (w := w) [1, 2] 3 _ _ rfl rfl (by simp [maxLen]) ((Below.refl _ _).alloc (by simp) _)
  have hb : IntsR (wrd ((w.alloc (.cells #[.int .i64 1, .int .i64 2] 3)).alloc (.cells #[.int .i64 2, .int .i64 1] 3))) (.slice (some ⟨w.heap.size + 1, 0, none⟩) 2 2) [2, 1] :=
    built_ints (w := w.alloc (.cells #[.int .i64 1, .int .i64 2] 3)) [2, 1] 3 _ _ (by simp) rfl (by simp [maxLen]) (Below.refl _ _)
  generalize (w.alloc (.cells #[.int .i64 1, .int .i64 2] 3)).alloc (.cells #[.int .i64 2, .int .i64 1] 3) = w2 at *
  refine (Join_calls _ _ _ _ _ ha hb (by decide)).mono ?_
  rintro e w3 ⟨r1, rfl, ho, k⟩
  have h0 := below_next h0 k
  have ha := ha.mono (le_below k (Nat.le_refl _))
  have hb := hb.mono (le_below k (Nat.le_refl _))
  have hr := ho.ints
  go_wp2_with fail
  have hl : IntsR (wrd (w3.alloc (.cells #[.int .i64 2, .int .i64 2] 3))) (.slice (some ⟨w3.heap.size, 0, none⟩) 2 2) [2, 2] := built_ints (w := w3) [2, 2] 3 _ _ rfl rfl (by simp [maxLen]) (Below.refl _ _)
  have h0 := h0.alloc h0.size (.cells #[.int .i64 2, .int .i64 2] 3)
  have ha := ha.mono (le_alloc _ (.cells #[.int .i64 2, .int .i64 2] 3))
  have hb := hb.mono (le_alloc _ (.cells #[.int .i64 2, .int .i64 2] 3))
  have hs := Same_calls _ _ _ _ _ (hr.mono (le_alloc _ (.cells #[.int .i64 2, .int .i64 2] 3))) hl
  rw [show sameL (joinC [1, 2] [2, 1]) [2, 2] = true by decide] at hs
  refine hs.mono ?_
  clear hs hl hr ho k
  rintro e w4 ⟨rfl, k⟩
  have h0 := below_next h0 k
  have ha := ha.mono (le_below k (Nat.le_refl _))
  have hb := hb.mono (le_below k (Nat.le_refl _))
  go_wp2_with fail
  refine (Meet_calls _ _ _ _ _ ha hb (by decide)).mono ?_
  rintro e w5 ⟨r2, rfl, ho, k⟩
  have h0 := below_next h0 k
  have ha := ha.mono (le_below k (Nat.le_refl _))
  have hb := hb.mono (le_below k (Nat.le_refl _))
  have hr := ho.ints
  go_wp2_with fail
  have hl : IntsR (wrd (w5.alloc (.cells #[.int .i64 1, .int .i64 1] 3))) (.slice (some ⟨w5.heap.size, 0, none⟩) 2 2) [1, 1] := built_ints (w := w5) [1, 1] 3 _ _ rfl rfl (by simp [maxLen]) (Below.refl _ _)
  have h0 := h0.alloc h0.size (.cells #[.int .i64 1, .int .i64 1] 3)
  have ha := ha.mono (le_alloc _ (.cells #[.int .i64 1, .int .i64 1] 3))
  have hb := hb.mono (le_alloc _ (.cells #[.int .i64 1, .int .i64 1] 3))
  have hs := Same_calls _ _ _ _ _ (hr.mono (le_alloc _ (.cells #[.int .i64 1, .int .i64 1] 3))) hl
  rw [show sameL (meetC [1, 2] [2, 1]) [1, 1] = true by decide] at hs
  refine hs.mono ?_
  clear hs hl hr ho k
  rintro e w6 ⟨rfl, k⟩
  have h0 := below_next h0 k
  have ha := ha.mono (le_below k (Nat.le_refl _))
  have hb := hb.mono (le_below k (Nat.le_refl _))
  go_wp2_with fail
  refine (Join_calls _ _ _ _ _ ha hb (by decide)).mono ?_
  rintro e w7 ⟨r3, rfl, ho, k⟩
  have h0 := below_next h0 k
  have ha := ha.mono (le_below k (Nat.le_refl _))
  have hb := hb.mono (le_below k (Nat.le_refl _))
  have hr := ho.ints
  go_wp2_with fail
  have hs := Sees_calls _ _ _ _ _ hr ha (by decide)
  rw [show seesC (joinC [1, 2] [2, 1]) [1, 2] = true by decide] at hs
  refine hs.mono ?_
  clear hs hr ho k
  rintro e w8 ⟨rfl, k⟩
  have h0 := below_next h0 k
  have ha := ha.mono (le_below k (Nat.le_refl _))
  have hb := hb.mono (le_below k (Nat.le_refl _))
  go_wp2_with fail
  have hs := Sees_calls _ _ _ _ _ ha hb (by decide)
  rw [show seesC [1, 2] [2, 1] = false by decide] at hs
  refine hs.mono ?_
  clear hs
  rintro e w9 ⟨rfl, k⟩
  have h0 := below_next h0 k
  have ha := ha.mono (le_below k (Nat.le_refl _))
  go_wp2_with fail
  have hs := Has_calls _ _ 1 2 _ ha
  rw [show hasC [1, 2] 1 2 = true by decide] at hs
  refine hs.mono ?_
  clear hs
  rintro e w10 ⟨rfl, rfl⟩
  go_wp2
  go_ret
  exact ⟨rfl, h0⟩
end Go.Proofs.Ytkjknlnhffmkkaa
