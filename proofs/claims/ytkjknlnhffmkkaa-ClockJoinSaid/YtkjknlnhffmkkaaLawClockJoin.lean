/- ClockJoin: the least that sees both. For every input; no condition. -/
import Derived.Test.YtkjknlnhffmkkaaAlive1
import Derived.Test.YtkjknlnhffmkkaaClose
namespace Go.Proofs.Ytkjknlnhffmkkaa
open Go.ChangeShapes Go.WideShapes Go.ChangeAt Go.RowKit
set_option linter.unusedVariables false

set_option maxHeartbeats 4000000 in
theorem ClockJoin_calls (W : World) (v1 : Value) (a : List Int) (h1 : IntsR (wrd W) v1 a) (b1 : ClockBd a) (v2 : Value) (b : List Int) (h2 : IntsR (wrd W) v2 b) (b2 : ClockBd b) (v3 : Value) (c : List Int) (h3 : IntsR (wrd W) v3 c) (b3 : ClockBd c) :
    Calls Try.prog 4 #[v1, v2, v3] W fun e w' => e = .returned (.bool true) ∧ Below W.heap.size W w' := by
  obtain ⟨A1, c1, rfl, m1, m2⟩ := h1.val
  have h1 := SliceR.top h1
  have h2 := SliceR.top h2
  have h3 := SliceR.top h3
  have h0 := Below.refl W.heap.size W
  unfold maxLen at m2
  clear b1 b2 b3
  by_cases wa : wrongC a a.length = 0
  rotate_left
  · obtain ⟨wa1, wa2⟩ := ne_b wa
    clear wa
    go_enter Try.func4, Try.ntmps4
    go_wp2_with (first | (go_at_call 15; refine (alive1_calls _).mono ?_; rintro e w' ⟨rfl, k⟩; (repeat (first | replace k := below_of_alloc k | replace k := below_of_drewN k)); (repeat (rename SliceR _ _ (wrd _) _ _ => hz; replace hz := SliceR.up hz k; revert hz)); (repeat (rename AggR _ (wrd _) _ _ => hz; replace hz := AggR.up hz k; revert hz)); intros; have h0 := below_next (by assumption) k; clear k) | (go_at_call 16; refine (Wrong_calls _ _ _ _ (by first | assumption | exact SliceR.of_top (by assumption) (by assumption) | exact SliceR.up (by assumption) (below_alloc1 _ _) | exact SliceR.up (by assumption) (below_alloc2 _ _ _) | exact SliceR.of_top (W := W) (by assumption) (Below.alloc (by assumption) (Below.size (by assumption)) _))).mono ?_; rintro e w' ⟨rfl, rfl⟩))
    go_ret
    exact ⟨rfl, by assumption⟩
  by_cases wb : wrongC b a.length = 0
  rotate_left
  · obtain ⟨wa1, wa2⟩ := ne_b wb
    clear wb
    go_enter Try.func4, Try.ntmps4
    go_wp2_with (first | (go_at_call 15; refine (alive1_calls _).mono ?_; rintro e w' ⟨rfl, k⟩; (repeat (first | replace k := below_of_alloc k | replace k := below_of_drewN k)); (repeat (rename SliceR _ _ (wrd _) _ _ => hz; replace hz := SliceR.up hz k; revert hz)); (repeat (rename AggR _ (wrd _) _ _ => hz; replace hz := AggR.up hz k; revert hz)); intros; have h0 := below_next (by assumption) k; clear k) | (go_at_call 16; refine (Wrong_calls _ _ _ _ (by first | assumption | exact SliceR.of_top (by assumption) (by assumption) | exact SliceR.up (by assumption) (below_alloc1 _ _) | exact SliceR.up (by assumption) (below_alloc2 _ _ _) | exact SliceR.of_top (W := W) (by assumption) (Below.alloc (by assumption) (Below.size (by assumption)) _))).mono ?_; rintro e w' ⟨rfl, rfl⟩))
    go_ret
    exact ⟨rfl, by assumption⟩
  by_cases wc : wrongC c a.length = 0
  rotate_left
  · obtain ⟨wa1, wa2⟩ := ne_b wc
    clear wc
    go_enter Try.func4, Try.ntmps4
    go_wp2_with (first | (go_at_call 15; refine (alive1_calls _).mono ?_; rintro e w' ⟨rfl, k⟩; (repeat (first | replace k := below_of_alloc k | replace k := below_of_drewN k)); (repeat (rename SliceR _ _ (wrd _) _ _ => hz; replace hz := SliceR.up hz k; revert hz)); (repeat (rename AggR _ (wrd _) _ _ => hz; replace hz := AggR.up hz k; revert hz)); intros; have h0 := below_next (by assumption) k; clear k) | (go_at_call 16; refine (Wrong_calls _ _ _ _ (by first | assumption | exact SliceR.of_top (by assumption) (by assumption) | exact SliceR.up (by assumption) (below_alloc1 _ _) | exact SliceR.up (by assumption) (below_alloc2 _ _ _) | exact SliceR.of_top (W := W) (by assumption) (Below.alloc (by assumption) (Below.size (by assumption)) _))).mono ?_; rintro e w' ⟨rfl, rfl⟩))
    go_ret
    exact ⟨rfl, by assumption⟩
  have l1 : a.length ≤ 6 := by have := wrongC_ok wa; omega
  have l2 : b.length ≤ 6 := by have := wrongC_ok wb; omega
  have l3 : c.length ≤ 6 := by have := wrongC_ok wc; omega
  have ll : b.length ≤ a.length := by have := wrongC_ok wb; omega
  have s1 := sees_joinl a b
  have s2 := sees_joinr a b
  have s3 := sees_meetl a b
  have s4 := sees_meetr a b
  have s5 := sees_join c a b
  have s6 := meet_sees a b c
  have e1 : sameL (joinC a (joinC b c)) (joinC (joinC a b) c) = true := by rw [joinC_assoc]; simp [sameL]
  have e2 : sameL (joinC a b) (joinC b a) = true := by rw [joinC_comm]; simp [sameL]
  have e3 : sameL (joinC a (meetC a b)) a = true := by rw [joinC_meet ll]; simp [sameL]
  have e4 : sameL (meetC a (joinC a b)) a = true := by rw [meetC_join ll]; simp [sameL]
  cases sca : seesC c a <;> cases scb : seesC c b <;> cases sac : seesC a c <;> cases sbc : seesC b c
  all_goals
    rw [sca, scb] at s5
    rw [sac, sbc] at s6
    simp only [Bool.and_true, Bool.and_false] at s5 s6
    go_enter Try.func4, Try.ntmps4
    go_wp2_with (first | (go_at_call 15; refine (alive1_calls _).mono ?_; rintro e w' ⟨rfl, k⟩; (repeat (first | replace k := below_of_alloc k | replace k := below_of_drewN k)); (repeat (rename SliceR _ _ (wrd _) _ _ => hz; replace hz := SliceR.up hz k; revert hz)); (repeat (rename AggR _ (wrd _) _ _ => hz; replace hz := AggR.up hz k; revert hz)); intros; have h0 := below_next (by assumption) k; clear k) | (go_at_call 16; refine (Wrong_calls _ _ _ _ (by first | assumption | exact SliceR.of_top (by assumption) (by assumption) | exact SliceR.up (by assumption) (below_alloc1 _ _) | exact SliceR.up (by assumption) (below_alloc2 _ _ _) | exact SliceR.of_top (W := W) (by assumption) (Below.alloc (by assumption) (Below.size (by assumption)) _))).mono ?_; rintro e w' ⟨rfl, rfl⟩) | (go_at_call 17; refine (Sees_calls _ _ _ _ _ (by first | assumption | exact SliceR.of_top (by assumption) (by assumption) | exact SliceR.up (by assumption) (below_alloc1 _ _) | exact SliceR.up (by assumption) (below_alloc2 _ _ _) | exact SliceR.of_top (W := W) (by assumption) (Below.alloc (by assumption) (Below.size (by assumption)) _)) (by first | assumption | exact SliceR.of_top (by assumption) (by assumption) | exact SliceR.up (by assumption) (below_alloc1 _ _) | exact SliceR.up (by assumption) (below_alloc2 _ _ _) | exact SliceR.of_top (W := W) (by assumption) (Below.alloc (by assumption) (Below.size (by assumption)) _)) (by first | omega | (rw [joinC_len]; omega) | (rw [meetC_len]; omega) | (rw [joinC_len, joinC_len]; omega) | (rw [joinC_len, meetC_len]; omega))).mono ?_; rintro e w' ⟨rfl, k⟩; (repeat (first | replace k := below_of_alloc k | replace k := below_of_drewN k)); (repeat (rename SliceR _ _ (wrd _) _ _ => hz; replace hz := SliceR.up hz k; revert hz)); (repeat (rename AggR _ (wrd _) _ _ => hz; replace hz := AggR.up hz k; revert hz)); intros; have h0 := below_next (by assumption) k; clear k) | (go_at_call 19; refine (Join_calls _ _ _ _ _ (by first | assumption | exact SliceR.of_top (by assumption) (by assumption) | exact SliceR.up (by assumption) (below_alloc1 _ _) | exact SliceR.up (by assumption) (below_alloc2 _ _ _) | exact SliceR.of_top (W := W) (by assumption) (Below.alloc (by assumption) (Below.size (by assumption)) _)) (by first | assumption | exact SliceR.of_top (by assumption) (by assumption) | exact SliceR.up (by assumption) (below_alloc1 _ _) | exact SliceR.up (by assumption) (below_alloc2 _ _ _) | exact SliceR.of_top (W := W) (by assumption) (Below.alloc (by assumption) (Below.size (by assumption)) _)) (by first | omega | (rw [joinC_len]; omega) | (rw [meetC_len]; omega) | (rw [joinC_len, joinC_len]; omega) | (rw [joinC_len, meetC_len]; omega))).mono ?_; rintro e w' ⟨r, rfl, ho, k⟩; (repeat (first | replace k := below_of_alloc k | replace k := below_of_drewN k)); (repeat (rename SliceR _ _ (wrd _) _ _ => hz; replace hz := SliceR.up hz k; revert hz)); (repeat (rename AggR _ (wrd _) _ _ => hz; replace hz := AggR.up hz k; revert hz)); intros; have h0 := below_next (by assumption) k; clear k; have q := ho.ints; clear ho) | (go_at_call 20; refine (Meet_calls _ _ _ _ _ (by first | assumption | exact SliceR.of_top (by assumption) (by assumption) | exact SliceR.up (by assumption) (below_alloc1 _ _) | exact SliceR.up (by assumption) (below_alloc2 _ _ _) | exact SliceR.of_top (W := W) (by assumption) (Below.alloc (by assumption) (Below.size (by assumption)) _)) (by first | assumption | exact SliceR.of_top (by assumption) (by assumption) | exact SliceR.up (by assumption) (below_alloc1 _ _) | exact SliceR.up (by assumption) (below_alloc2 _ _ _) | exact SliceR.of_top (W := W) (by assumption) (Below.alloc (by assumption) (Below.size (by assumption)) _)) (by first | omega | (rw [joinC_len]; omega) | (rw [meetC_len]; omega) | (rw [joinC_len, joinC_len]; omega) | (rw [joinC_len, meetC_len]; omega))).mono ?_; rintro e w' ⟨r, rfl, ho, k⟩; (repeat (first | replace k := below_of_alloc k | replace k := below_of_drewN k)); (repeat (rename SliceR _ _ (wrd _) _ _ => hz; replace hz := SliceR.up hz k; revert hz)); (repeat (rename AggR _ (wrd _) _ _ => hz; replace hz := AggR.up hz k; revert hz)); intros; have h0 := below_next (by assumption) k; clear k; have q := ho.ints; clear ho) | (go_at_call 18; refine (Same_calls _ _ _ _ _ (by first | assumption | exact SliceR.of_top (by assumption) (by assumption) | exact SliceR.up (by assumption) (below_alloc1 _ _) | exact SliceR.up (by assumption) (below_alloc2 _ _ _) | exact SliceR.of_top (W := W) (by assumption) (Below.alloc (by assumption) (Below.size (by assumption)) _)) (by first | assumption | exact SliceR.of_top (by assumption) (by assumption) | exact SliceR.up (by assumption) (below_alloc1 _ _) | exact SliceR.up (by assumption) (below_alloc2 _ _ _) | exact SliceR.of_top (W := W) (by assumption) (Below.alloc (by assumption) (Below.size (by assumption)) _))).mono ?_; rintro e w' ⟨rfl, k⟩; (repeat (first | replace k := below_of_alloc k | replace k := below_of_drewN k)); (repeat (rename SliceR _ _ (wrd _) _ _ => hz; replace hz := SliceR.up hz k; revert hz)); (repeat (rename AggR _ (wrd _) _ _ => hz; replace hz := AggR.up hz k; revert hz)); intros; have h0 := below_next (by assumption) k; clear k))
    go_ret
    exact ⟨rfl, by assumption⟩

set_option maxRecDepth 100000 in
theorem ClockJoin_lifted (os : Os) (started : os.Started) (H : Type) (enc : TypeId × Value → H) :
    ReturnsInHanded {} Try.checked os 4 .any (Rows.clockJoinSpec.pre6 enc Try.prog Try.f4 Rows.clockJoinRow.domain false) (Rows.clockJoinSpec.post enc Try.prog Try.f4 false true false false) := by
  refine returnsInHanded_of_change_sized (C := Try.checked) own_ started (by kernel_rfl) Try.func4
    (ChangeSpec.witness6 (enc := enc) (C := Try.checked) false ⟨#[], #[.slice none 0 0, .slice none 0 0, .slice none 0 0], []⟩ 8 (by kernel_rfl) (by kernel_rfl) (by kernel_rfl) (by kernel_rfl)) ?_
  intro W base args ds gs before hval0 hW _ hsz0 _
  have hval : ∀ (j : Nat) t v, Try.f4.params[j]? = some t → args[j]? = some v → Value.okWide Try.prog W .any base t v := hval0
  have hsz : (DataW.weightsEach Try.prog (Try.f4.params.toList ++ Rows.clockJoinSpec.plain.varTypes Try.prog) (ds ++ gs)).all (· ≤ reachBytes) = true := hsz0
  have hW' := hW
  obtain ⟨p, q, hA0, hV, rfl, _, _⟩ := hW
  obtain ⟨rfl, rfl⟩ := trodVars_none hV
  have hA : DataW.TrodAll enc Try.prog W 0 (fun _ => true) true Try.f4.params.toList args.toList ds p := hA0
  rw [Try.params4] at hA hval hsz
  obtain ⟨v1, vs1, d1, ds1, p1, q1, e1, rfl, rfl, t1, r1⟩ := trodAll_cons hA
  obtain ⟨v2, vs2, d2, ds2, p2, q2, rfl, rfl, rfl, t2, r2⟩ := trodAll_cons r1
  obtain ⟨v3, vs3, d3, ds3, p3, q3, rfl, rfl, rfl, t3, r3⟩ := trodAll_cons r2
  obtain ⟨rfl, rfl, rfl⟩ := trodAll_nil r3
  obtain rfl : args = #[v1, v2, v3] := by cases args; simp_all
  obtain ⟨z1, hsz⟩ := weights_each hsz
  obtain ⟨z2, hsz⟩ := weights_each hsz
  obtain ⟨z3, hsz⟩ := weights_each hsz
  obtain ⟨a1, ha1, hb1⟩ := arg_slice Try.underlying23 op_clock (hval 0 _ v1 rfl rfl) t1 z1
  obtain ⟨a2, ha2, hb2⟩ := arg_slice Try.underlying23 op_clock (hval 1 _ v2 rfl rfl) t2 z2
  obtain ⟨a3, ha3, hb3⟩ := arg_slice Try.underlying23 op_clock (hval 2 _ v3 rfl rfl) t3 z3
  refine (ClockJoin_calls W v1 a1 ha1 hb1 v2 a2 ha2 hb2 v3 a3 ha3 hb3).mono fun e W' ⟨he, hbl⟩ => ?_
  subst he
  exact ⟨_, rfl, close_law laidOut (by kernel_rfl) rfl (fun gs h => by subst h; rfl) rfl (tb := 4) Try.underlying4 hW' hbl⟩

theorem ClockJoin_holds : Rows.ClockJoinSaid :=
  OpenClaim.holds_of_wide 4 Try.f4 rfl rfl rfl rfl rfl rfl rfl ⟨rfl, rfl, rfl, rfl, rfl⟩ rfl rfl rfl rfl rfl (by kernel_rfl) Try.func4 (by kernel_rfl)
    (of_decide_eq_true (by kernel_rfl)) (by unfold Func.isWrapper; first | (rw [if_pos (by decide +kernel)]; kernel_rfl) | (rw [if_neg (by decide +kernel)]; exact ⟨rfl, rfl⟩))
    (fun os started H enc _ => ClockJoin_lifted os started H enc)
#print axioms ClockJoin_holds
end Go.Proofs.Ytkjknlnhffmkkaa
