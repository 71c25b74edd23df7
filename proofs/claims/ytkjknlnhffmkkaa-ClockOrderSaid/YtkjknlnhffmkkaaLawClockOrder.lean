/- ClockOrder: who sees who sees another one sees that, too; who see each other are the same. For every input; no condition. -/
import Derived.Test.YtkjknlnhffmkkaaAlive1
import Derived.Test.YtkjknlnhffmkkaaClose
namespace Go.Proofs.Ytkjknlnhffmkkaa
open Go.ChangeShapes Go.WideShapes Go.ChangeAt Go.RowKit
set_option linter.unusedVariables false

theorem ClockOrder_calls (W : World) (v1 : Value) (a : List Int) (h1 : IntsR (wrd W) v1 a) (_ : a.length * 8 ≤ reachBytes ∧ ∀ x ∈ a, (Lit.int .i64 x).wf = true) (v2 : Value) (b : List Int) (h2 : IntsR (wrd W) v2 b) (_ : b.length * 8 ≤ reachBytes ∧ ∀ x ∈ b, (Lit.int .i64 x).wf = true) (v3 : Value) (c : List Int) (h3 : IntsR (wrd W) v3 c) (_ : c.length * 8 ≤ reachBytes ∧ ∀ x ∈ c, (Lit.int .i64 x).wf = true) :
    Calls Try.prog 3 #[v1, v2, v3] W fun e w' => e = .returned (.bool true) ∧ Below W.heap.size W w' := by
  obtain ⟨A1, c1, rfl, m1, m2⟩ := h1.val
  have h1 := IntsR.mono h1 (upto_top W)
  have h2 := IntsR.mono h2 (upto_top W)
  have h3 := IntsR.mono h3 (upto_top W)
  have h0 := Below.refl W.heap.size W
  unfold maxLen at m2
  by_cases wa : wrongC a a.length = 0
  rotate_left
  · obtain ⟨wa1, wa2⟩ := ne_b wa
    clear wa
    go_enter Try.func3, Try.ntmps3
    go_wp2_with (first | (go_at_call 15; refine (alive1_calls _).mono ?_; rintro e w' ⟨rfl, k⟩; have h0 := below_next (by assumption) k) | (go_at_call 16; refine (Wrong_calls _ _ _ _ (IntsR.mono (rd := upto W W.heap.size) (by assumption) (upto_le (by assumption)))).mono ?_; rintro e w' ⟨rfl, rfl⟩))
    go_ret
    exact ⟨rfl, by assumption⟩
  by_cases wb : wrongC b a.length = 0
  rotate_left
  · obtain ⟨wa1, wa2⟩ := ne_b wb
    clear wb
    go_enter Try.func3, Try.ntmps3
    go_wp2_with (first | (go_at_call 15; refine (alive1_calls _).mono ?_; rintro e w' ⟨rfl, k⟩; have h0 := below_next (by assumption) k) | (go_at_call 16; refine (Wrong_calls _ _ _ _ (IntsR.mono (rd := upto W W.heap.size) (by assumption) (upto_le (by assumption)))).mono ?_; rintro e w' ⟨rfl, rfl⟩))
    go_ret
    exact ⟨rfl, by assumption⟩
  by_cases wc : wrongC c a.length = 0
  rotate_left
  · obtain ⟨wa1, wa2⟩ := ne_b wc
    clear wc
    go_enter Try.func3, Try.ntmps3
    go_wp2_with (first | (go_at_call 15; refine (alive1_calls _).mono ?_; rintro e w' ⟨rfl, k⟩; have h0 := below_next (by assumption) k) | (go_at_call 16; refine (Wrong_calls _ _ _ _ (IntsR.mono (rd := upto W W.heap.size) (by assumption) (upto_le (by assumption)))).mono ?_; rintro e w' ⟨rfl, rfl⟩))
    go_ret
    exact ⟨rfl, by assumption⟩
  have l1 : a.length ≤ 6 := by have := wrongC_ok wa; omega
  have l2 : b.length ≤ 6 := by have := wrongC_ok wb; omega
  have l3 : c.length ≤ 6 := by have := wrongC_ok wc; omega
  have hl : Hid (a.length = b.length) := hid (by have := wrongC_ok wb; omega)
  have saa := seesC_refl a
  cases sab : seesC a b
  · -- a does not see b
    go_enter Try.func3, Try.ntmps3
    go_wp2_with (first | (go_at_call 15; refine (alive1_calls _).mono ?_; rintro e w' ⟨rfl, k⟩; have h0 := below_next (by assumption) k) | (go_at_call 16; refine (Wrong_calls _ _ _ _ (IntsR.mono (rd := upto W W.heap.size) (by assumption) (upto_le (by assumption)))).mono ?_; rintro e w' ⟨rfl, rfl⟩) | (go_at_call 17; refine (Sees_calls _ _ _ _ _ (IntsR.mono (rd := upto W W.heap.size) (by assumption) (upto_le (by assumption))) (IntsR.mono (rd := upto W W.heap.size) (by assumption) (upto_le (by assumption))) (by omega)).mono ?_; rintro e w' ⟨rfl, k⟩; have h0 := below_next (by assumption) k))
    go_ret
    exact ⟨rfl, by assumption⟩
  · cases sba : seesC b a
    · cases sbc : seesC b c
      · go_enter Try.func3, Try.ntmps3
        go_wp2_with (first | (go_at_call 15; refine (alive1_calls _).mono ?_; rintro e w' ⟨rfl, k⟩; have h0 := below_next (by assumption) k) | (go_at_call 16; refine (Wrong_calls _ _ _ _ (IntsR.mono (rd := upto W W.heap.size) (by assumption) (upto_le (by assumption)))).mono ?_; rintro e w' ⟨rfl, rfl⟩) | (go_at_call 17; refine (Sees_calls _ _ _ _ _ (IntsR.mono (rd := upto W W.heap.size) (by assumption) (upto_le (by assumption))) (IntsR.mono (rd := upto W W.heap.size) (by assumption) (upto_le (by assumption))) (by omega)).mono ?_; rintro e w' ⟨rfl, k⟩; have h0 := below_next (by assumption) k))
        go_ret
        exact ⟨rfl, by assumption⟩
      · have sac := seesC_trans sab sbc
        go_enter Try.func3, Try.ntmps3
        go_wp2_with (first | (go_at_call 15; refine (alive1_calls _).mono ?_; rintro e w' ⟨rfl, k⟩; have h0 := below_next (by assumption) k) | (go_at_call 16; refine (Wrong_calls _ _ _ _ (IntsR.mono (rd := upto W W.heap.size) (by assumption) (upto_le (by assumption)))).mono ?_; rintro e w' ⟨rfl, rfl⟩) | (go_at_call 17; refine (Sees_calls _ _ _ _ _ (IntsR.mono (rd := upto W W.heap.size) (by assumption) (upto_le (by assumption))) (IntsR.mono (rd := upto W W.heap.size) (by assumption) (upto_le (by assumption))) (by omega)).mono ?_; rintro e w' ⟨rfl, k⟩; have h0 := below_next (by assumption) k))
        go_ret
        exact ⟨rfl, by assumption⟩
    · obtain rfl := seesC_anti hl.out sab sba
      have hs : sameL a a = true := by simp [sameL]
      cases sbc : seesC a c
      · go_enter Try.func3, Try.ntmps3
        go_wp2_with (first | (go_at_call 15; refine (alive1_calls _).mono ?_; rintro e w' ⟨rfl, k⟩; have h0 := below_next (by assumption) k) | (go_at_call 16; refine (Wrong_calls _ _ _ _ (IntsR.mono (rd := upto W W.heap.size) (by assumption) (upto_le (by assumption)))).mono ?_; rintro e w' ⟨rfl, rfl⟩) | (go_at_call 17; refine (Sees_calls _ _ _ _ _ (IntsR.mono (rd := upto W W.heap.size) (by assumption) (upto_le (by assumption))) (IntsR.mono (rd := upto W W.heap.size) (by assumption) (upto_le (by assumption))) (by omega)).mono ?_; rintro e w' ⟨rfl, k⟩; have h0 := below_next (by assumption) k) | (go_at_call 18; refine (Same_calls _ _ _ _ _ (IntsR.mono (rd := upto W W.heap.size) (by assumption) (upto_le (by assumption))) (IntsR.mono (rd := upto W W.heap.size) (by assumption) (upto_le (by assumption)))).mono ?_; rintro e w' ⟨rfl, k⟩; have h0 := below_next (by assumption) k))
        go_ret
        exact ⟨rfl, by assumption⟩
      · skip
        go_enter Try.func3, Try.ntmps3
        go_wp2_with (first | (go_at_call 15; refine (alive1_calls _).mono ?_; rintro e w' ⟨rfl, k⟩; have h0 := below_next (by assumption) k) | (go_at_call 16; refine (Wrong_calls _ _ _ _ (IntsR.mono (rd := upto W W.heap.size) (by assumption) (upto_le (by assumption)))).mono ?_; rintro e w' ⟨rfl, rfl⟩) | (go_at_call 17; refine (Sees_calls _ _ _ _ _ (IntsR.mono (rd := upto W W.heap.size) (by assumption) (upto_le (by assumption))) (IntsR.mono (rd := upto W W.heap.size) (by assumption) (upto_le (by assumption))) (by omega)).mono ?_; rintro e w' ⟨rfl, k⟩; have h0 := below_next (by assumption) k) | (go_at_call 18; refine (Same_calls _ _ _ _ _ (IntsR.mono (rd := upto W W.heap.size) (by assumption) (upto_le (by assumption))) (IntsR.mono (rd := upto W W.heap.size) (by assumption) (upto_le (by assumption)))).mono ?_; rintro e w' ⟨rfl, k⟩; have h0 := below_next (by assumption) k))
        go_ret
        exact ⟨rfl, by assumption⟩

set_option maxRecDepth 100000 in
theorem ClockOrder_lifted (os : Os) (started : os.Started) (H : Type) (enc : TypeId × Value → H) :
    ReturnsInHanded {} Try.checked os 3 .any (Rows.clockOrderSpec.pre6 enc Try.prog Try.f3 Rows.clockOrderRow.domain false) (Rows.clockOrderSpec.post enc Try.prog Try.f3 false true false false) := by
  refine returnsInHanded_of_change_sized (C := Try.checked) own_ started (by kernel_rfl) Try.func3
    (ChangeSpec.witness6 (enc := enc) (C := Try.checked) false ⟨#[], #[.slice none 0 0, .slice none 0 0, .slice none 0 0], []⟩ 8 (by kernel_rfl) (by kernel_rfl) (by kernel_rfl) (by kernel_rfl)) ?_
  intro W base args ds gs before hval0 hW _ hsz0 _
  have hval : ∀ (j : Nat) t v, Try.f3.params[j]? = some t → args[j]? = some v → Value.okWide Try.prog W .any base t v := hval0
  have hsz : (DataW.weightsEach Try.prog (Try.f3.params.toList ++ Rows.clockOrderSpec.plain.varTypes Try.prog) (ds ++ gs)).all (· ≤ reachBytes) = true := hsz0
  have hW' := hW
  obtain ⟨p, q, hA0, hV, rfl, _, _⟩ := hW
  obtain ⟨rfl, rfl⟩ := trodVars_none hV
  have hA : DataW.TrodAll enc Try.prog W 0 (fun _ => true) true Try.f3.params.toList args.toList ds p := hA0
  rw [Try.params3] at hA hval hsz
  obtain ⟨v1, vs1, d1, ds1, p1, q1, e1, rfl, rfl, t1, r1⟩ := trodAll_cons hA
  obtain ⟨v2, vs2, d2, ds2, p2, q2, rfl, rfl, rfl, t2, r2⟩ := trodAll_cons r1
  obtain ⟨v3, vs3, d3, ds3, p3, q3, rfl, rfl, rfl, t3, r3⟩ := trodAll_cons r2
  obtain ⟨rfl, rfl, rfl⟩ := trodAll_nil r3
  obtain rfl : args = #[v1, v2, v3] := by cases args; simp_all
  obtain ⟨z1, hsz⟩ := weights_each hsz
  obtain ⟨z2, hsz⟩ := weights_each hsz
  obtain ⟨z3, hsz⟩ := weights_each hsz
  obtain ⟨a1, ha1, hb1⟩ := arg_slice Try.underlying23 op_clock (hval 0 _ v1 rfl rfl) t1 z1
  obtain ⟨a2, ha2, hb2⟩ := arg_slice Try.underlying23 op_clock (hval 1 _ v2 rfl rfl) t2 z2
  obtain ⟨a3, ha3, hb3⟩ := arg_slice Try.underlying23 op_clock (hval 2 _ v3 rfl rfl) t3 z3
  refine (ClockOrder_calls W v1 a1 ha1 hb1 v2 a2 ha2 hb2 v3 a3 ha3 hb3).mono fun e W' ⟨he, hbl⟩ => ?_
  subst he
  exact ⟨_, rfl, close_law laidOut (by kernel_rfl) rfl (fun gs h => by subst h; rfl) rfl (tb := 4) Try.underlying4 hW' hbl⟩

theorem ClockOrder_holds : Rows.ClockOrderSaid :=
  OpenClaim.holds_of_wide 3 Try.f3 rfl rfl rfl rfl rfl rfl rfl ⟨rfl, rfl, rfl, rfl, rfl⟩ rfl rfl rfl rfl rfl (by kernel_rfl) Try.func3 (by kernel_rfl)
    (of_decide_eq_true (by kernel_rfl)) (by unfold Func.isWrapper; first | (rw [if_pos (by decide +kernel)]; kernel_rfl) | (rw [if_neg (by decide +kernel)]; exact ⟨rfl, rfl⟩))
    (fun os started H enc _ => ClockOrder_lifted os started H enc)
#print axioms ClockOrder_holds
end Go.Proofs.Ytkjknlnhffmkkaa
