/- prunelaw3.alive answers true. -/
import Derived.Test.YtkjknlnhffmkkaaLog3
namespace Go.Proofs.Ytkjknlnhffmkkaa
open Go.RowKit
set_option linter.unusedVariables false

theorem up3_calls (a : Int) (A : Option Addr) (n c : Nat) (w : World) : Calls Try.prog 57 #[.int .i64 a, .slice A n c] w fun e w' => e = .returned (.agg #[.int .i64 a, .slice A n c, .int .i64 5, .int .i64 1, .int .i64 1]) ∧ Below w.heap.size w w' := by
  go_enter Try.func57, Try.ntmps57
  go_wp2
  exact bodyPost_ret (v := .agg #[.int .i64 a, .slice A n c, .int .i64 5, .int .i64 1, .int .i64 1]) (by simp [results, Try.results57, go_sem]) rfl ⟨rfl, below_alloc1 _ _⟩
def logA : List Upd := [⟨0, [0, 0], 5, 1, 1⟩, ⟨1, [0, 0], 5, 1, 1⟩, ⟨0, [1, 1], 5, 1, 1⟩]
set_option maxHeartbeats 1000000 in
theorem alive3_calls (W : World) : Calls Try.prog 36 #[] W fun e w' => e = .returned (.bool true) ∧ Below W.heap.size W w' := by
  go_enter Try.func36, Try.ntmps36
  go_wp2_with fail
  have q1 := built_ints (w := W) [0, 0] 3 _ _ rfl rfl (by simp [maxLen]) (Below.refl _ _)
  refine (up3_calls _ _ _ _ _).mono ?_
  rintro e w1 ⟨rfl, k⟩
  replace q1 := SliceR.up q1 k
  have h0 : Below W.heap.size W w1 := below_of_alloc k
  clear k
  go_wp2_with fail
  have q2 := built_ints (w := w1) [0, 0] 3 _ _ rfl rfl (by simp [maxLen]) (Below.refl _ _)
  replace q1 := SliceR.up q1 (below_alloc1 w1 (.cells #[.int .i64 0, .int .i64 0] 3))
  refine (up3_calls _ _ _ _ _).mono ?_
  rintro e w2 ⟨rfl, k⟩
  replace q1 := SliceR.up q1 k
  replace q2 := SliceR.up q2 k
  have h0 := below_next h0 (below_of_alloc k)
  clear k
  go_wp2_with fail
  have q3 := built_ints (w := w2) [1, 1] 3 _ _ rfl rfl (by simp [maxLen]) (Below.refl _ _)
  replace q1 := SliceR.up q1 (below_alloc1 w2 (.cells #[.int .i64 1, .int .i64 1] 3))
  replace q2 := SliceR.up q2 (below_alloc1 w2 (.cells #[.int .i64 1, .int .i64 1] 3))
  refine (up3_calls _ _ _ _ _).mono ?_
  rintro e w3 ⟨rfl, k⟩
  replace q1 := SliceR.up q1 k
  replace q2 := SliceR.up q2 k
  replace q3 := SliceR.up q3 k
  have h0 := below_next h0 (below_of_alloc k)
  clear k
  go_wp2_with fail
  have hb15 := Blk.new_ w3 32 #[.int .i64 0, .slice (some ⟨W.heap.size, 0, none⟩) 2 2, .int .i64 5, .int .i64 1, .int .i64 1, .int .i64 1, .slice (some ⟨w1.heap.size, 0, none⟩) 2 2, .int .i64 5, .int .i64 1, .int .i64 1, .int .i64 0, .slice (some ⟨w2.heap.size, 0, none⟩) 2 2, .int .i64 5, .int .i64 1, .int .i64 1]
  have k := below_alloc1 w3 (.cells #[.int .i64 0, .slice (some ⟨W.heap.size, 0, none⟩) 2 2, .int .i64 5, .int .i64 1, .int .i64 1, .int .i64 1, .slice (some ⟨w1.heap.size, 0, none⟩) 2 2, .int .i64 5, .int .i64 1, .int .i64 1, .int .i64 0, .slice (some ⟨w2.heap.size, 0, none⟩) 2 2, .int .i64 5, .int .i64 1, .int .i64 1] 32)
  replace q1 := SliceR.up q1 k
  replace q2 := SliceR.up q2 k
  replace q3 := SliceR.up q3 k
  have h0 := below_next h0 k
  clear k
  have hs4 : (w3.alloc (.cells #[.int .i64 0, .slice (some ⟨W.heap.size, 0, none⟩) 2 2, .int .i64 5, .int .i64 1, .int .i64 1, .int .i64 1, .slice (some ⟨w1.heap.size, 0, none⟩) 2 2, .int .i64 5, .int .i64 1, .int .i64 1, .int .i64 0, .slice (some ⟨w2.heap.size, 0, none⟩) 2 2, .int .i64 5, .int .i64 1, .int .i64 1] 32)).heap.size = w3.heap.size + 1 := by simp
  generalize w3.alloc (.cells #[.int .i64 0, .slice (some ⟨W.heap.size, 0, none⟩) 2 2, .int .i64 5, .int .i64 1, .int .i64 1, .int .i64 1, .slice (some ⟨w1.heap.size, 0, none⟩) 2 2, .int .i64 5, .int .i64 1, .int .i64 1, .int .i64 0, .slice (some ⟨w2.heap.size, 0, none⟩) 2 2, .int .i64 5, .int .i64 1, .int .i64 1] 32) = w4 at *
  have hl : UpdsR (wrd w4) (.slice (some ⟨w3.heap.size, 0, none⟩) 3 3) logA := slice_of_blk (xs := [.int .i64 0, .slice (some ⟨W.heap.size, 0, none⟩) 2 2, .int .i64 5, .int .i64 1, .int .i64 1, .int .i64 1, .slice (some ⟨w1.heap.size, 0, none⟩) 2 2, .int .i64 5, .int .i64 1, .int .i64 1, .int .i64 0, .slice (some ⟨w2.heap.size, 0, none⟩) 2 2, .int .i64 5, .int .i64 1, .int .i64 1]) hb15 ⟨[.int .i64 0, _, .int .i64 5, .int .i64 1, .int .i64 1], _, rfl, rfl, ⟨_, rfl, q1⟩, ⟨[.int .i64 1, _, .int .i64 5, .int .i64 1, .int .i64 1], _, rfl, rfl, ⟨_, rfl, q2⟩, ⟨[.int .i64 0, _, .int .i64 5, .int .i64 1, .int .i64 1], [], rfl, rfl, ⟨_, rfl, q3⟩, rfl⟩⟩⟩ rfl (by decide) (by simp [maxLen])
  clear q1 q2 q3 hb15
  have c0 := built_ints (w := w4) [0, 0] 3 _ _ hs4.symm rfl (by simp [maxLen]) (Below.refl _ _)
  replace hl := SliceR.up hl (below_alloc1 w4 (.cells #[.int .i64 0, .int .i64 0] 3))
  refine (Clock_calls _ _ _ _ 2 _ c0 hl).mono ?_
  rintro e w5 ⟨r5, rfl, hr5, k⟩
  have ec : clockL [0, 0] logA 2 = ([2, 1], 0, 0) := by decide +kernel
  rw [ec] at hr5
  simp only [ec]
  replace hl := SliceR.up hl k
  have h0 := below_next h0 (below_of_alloc k)
  clear k c0
  have hr5 := IntsR.mono hr5 (newer_le _ _)
  clear hs4
  go_wp2_with fail
  have k := below_alloc1 w5 (.cells #[.int .i64 0, .int .i64 0] 50)
  have hs6 : (w5.alloc (.cells #[.int .i64 0, .int .i64 0] 50)).heap.size = w5.heap.size + 1 := by simp
  replace hl := SliceR.up hl k
  replace hr5 := SliceR.up hr5 k
  have h0 := below_next h0 k
  clear k
  generalize w5.alloc (.cells #[.int .i64 0, .int .i64 0] 50) = w6 at *
  have c0 := built_ints (w := w6) [2, 1] 3 _ _ hs6.symm rfl (by simp [maxLen]) (Below.refl _ _)
  replace hl := SliceR.up hl (below_alloc1 w6 (.cells #[.int .i64 2, .int .i64 1] 3))
  replace hr5 := SliceR.up hr5 (below_alloc1 w6 (.cells #[.int .i64 2, .int .i64 1] 3))
  clear hs6
  have hq := Same_calls _ _ _ _ _ hr5 c0
  rw [show sameL [2, 1] [2, 1] = true by decide] at hq
  refine hq.mono ?_
  clear hq c0
  rintro e w7 ⟨rfl, k⟩
  replace hl := SliceR.up hl k
  have h0 := below_next h0 (below_of_alloc k)
  clear k hr5
  go_wp2_with fail
  have c0 := built_ints (w := w7) [1, 0] 3 _ _ rfl rfl (by simp [maxLen]) (Below.refl _ _)
  replace hl := SliceR.up hl (below_alloc1 w7 (.cells #[.int .i64 1, .int .i64 0] 3))
  refine (Lacks_calls _ _ _ _ _ hl c0 (by decide) (by decide)).mono ?_
  rintro e w8 ⟨r8, rfl, ho8, k⟩
  obtain ⟨A8, c8, rfl, _, _⟩ := ho8.val
  rw [show (lacksU logA [1, 0]).length = 2 by decide +kernel]
  replace hl := SliceR.up hl k
  have h0 := below_next h0 (below_of_alloc k)
  clear k ho8 c0
  go_wp2_with fail
  refine (Heads_calls _ _ _ hl (by decide)).mono ?_
  rintro e w9 ⟨r9, rfl, ho9, k⟩
  have h0 := below_next h0 k
  have hr9 := ho9.ints
  clear k ho9 hl
  go_wp2_with fail
  have c0 := built_ints (w := w9) [2] 3 _ _ rfl rfl (by simp [maxLen]) (Below.refl _ _)
  have hq := Same_calls _ _ _ _ _ (SliceR.up hr9 (below_alloc1 w9 (.cells #[.int .i64 2] 3))) c0
  rw [show sameL (headsU logA) [2] = true by decide +kernel] at hq
  refine hq.mono ?_
  clear hq c0
  rintro e w10 ⟨rfl, k⟩
  have h0 := below_next h0 (below_of_alloc k)
  go_wp2
  go_ret
  exact ⟨rfl, h0⟩
end Go.Proofs.Ytkjknlnhffmkkaa
