/- ClockTick: one more, and no other. For every input; no condition. -/
import Derived.Test.YtkjknlnhffmkkaaAlive1
import Derived.Test.YtkjknlnhffmkkaaClose
namespace Go.Proofs.Ytkjknlnhffmkkaa
open Go.ChangeShapes Go.WideShapes Go.ChangeAt Go.RowKit
set_option linter.unusedVariables false

set_option maxHeartbeats 1000000 in
theorem ClockTick_calls (W : World) (v1 : Value) (a : List Int) (h1 : IntsR (wrd W) v1 a) (b1 : ClockBd a) (n : Int) (w2 : (Lit.int .i64 n).wf = true) :
    Calls Try.prog 9 #[v1, .int .i64 n] W fun e w' => e = .returned (.bool true) ∧ Below W.heap.size W w' := by
  obtain ⟨A1, c1, rfl, m1, m2⟩ := h1.val
  have h1 := SliceR.top h1
  have h0 := Below.refl W.heap.size W
  unfold maxLen at m2
  clear b1 w2
  by_cases wa : wrongC a a.length = 0
  rotate_left
  · obtain ⟨wa1, wa2⟩ := ne_b wa
    clear wa
    go_enter Try.func9, Try.ntmps9
    go_wp2_with (first | (go_at_call 15; refine (alive1_calls _).mono ?_; rintro e w' ⟨rfl, k⟩; (repeat (first | replace k := below_of_alloc k | replace k := below_of_drewN k)); (repeat (rename SliceR _ _ (wrd _) _ _ => hz; replace hz := SliceR.up hz k; revert hz)); (repeat (rename AggR _ (wrd _) _ _ => hz; replace hz := AggR.up hz k; revert hz)); intros; have h0 := below_next (by assumption) k; clear k) | (go_at_call 16; refine (Wrong_calls _ _ _ _ (by first | assumption | exact SliceR.of_top (by assumption) (by assumption) | exact SliceR.up (by assumption) (below_alloc1 _ _) | exact SliceR.up (by assumption) (below_alloc2 _ _ _) | exact SliceR.of_top (W := W) (by assumption) (Below.alloc (by assumption) (Below.size (by assumption)) _))).mono ?_; rintro e w' ⟨rfl, rfl⟩))
    go_ret
    exact ⟨rfl, by assumption⟩
  by_cases n0 : n < 0
  · go_enter Try.func9, Try.ntmps9
    go_wp2_with (first | (go_at_call 15; refine (alive1_calls _).mono ?_; rintro e w' ⟨rfl, k⟩; (repeat (first | replace k := below_of_alloc k | replace k := below_of_drewN k)); (repeat (rename SliceR _ _ (wrd _) _ _ => hz; replace hz := SliceR.up hz k; revert hz)); (repeat (rename AggR _ (wrd _) _ _ => hz; replace hz := AggR.up hz k; revert hz)); intros; have h0 := below_next (by assumption) k; clear k) | (go_at_call 16; refine (Wrong_calls _ _ _ _ (by first | assumption | exact SliceR.of_top (by assumption) (by assumption) | exact SliceR.up (by assumption) (below_alloc1 _ _) | exact SliceR.up (by assumption) (below_alloc2 _ _ _) | exact SliceR.of_top (W := W) (by assumption) (Below.alloc (by assumption) (Below.size (by assumption)) _))).mono ?_; rintro e w' ⟨rfl, rfl⟩))
    go_ret
    exact ⟨rfl, by assumption⟩
  obtain ⟨k, rfl⟩ := Int.eq_ofNat_of_zero_le (Int.not_lt.1 n0)
  clear n0
  by_cases n1 : k < a.length
  rotate_left
  · go_enter Try.func9, Try.ntmps9
    go_wp2_with (first | (go_at_call 15; refine (alive1_calls _).mono ?_; rintro e w' ⟨rfl, k⟩; (repeat (first | replace k := below_of_alloc k | replace k := below_of_drewN k)); (repeat (rename SliceR _ _ (wrd _) _ _ => hz; replace hz := SliceR.up hz k; revert hz)); (repeat (rename AggR _ (wrd _) _ _ => hz; replace hz := AggR.up hz k; revert hz)); intros; have h0 := below_next (by assumption) k; clear k) | (go_at_call 16; refine (Wrong_calls _ _ _ _ (by first | assumption | exact SliceR.of_top (by assumption) (by assumption) | exact SliceR.up (by assumption) (below_alloc1 _ _) | exact SliceR.up (by assumption) (below_alloc2 _ _ _) | exact SliceR.of_top (W := W) (by assumption) (Below.alloc (by assumption) (Below.size (by assumption)) _))).mono ?_; rintro e w' ⟨rfl, rfl⟩))
    go_ret
    exact ⟨rfl, by assumption⟩
  have l1 : a.length ≤ 6 := by have := wrongC_ok wa; omega
  have ak := (wrongC_ok wa).2.2.2 a[k] (List.getElem_mem n1)
  obtain ⟨ak0, ak1⟩ := ak
  have ht := tickC_in n1
  rw [wrap_small (by omega) (by omega)] at ht
  have f1 : seesC (a.set k (a[k] + 1)) a = true := sees_set_up n1 (by rw [atI_lt n1]; omega)
  have f2 : seesC a (a.set k (a[k] + 1)) = false := sees_set_no n1 (by rw [atI_lt n1]; omega)
  have f3 : hasC a k (a[k] + 1) = false := by rw [hasC_nat n1, atI_lt n1]; exact decide_eq_false (by omega)
  have f4 : hasC (a.set k (a[k] + 1)) k (a[k] + 1) = true := by rw [hasC_nat (by simpa using n1), set_at n1, if_pos rfl]; exact decide_eq_true (Int.le_refl _)
  obtain ⟨bb, oo, rfl, hca⟩ := IntsR.at_ h1 n1
  clear hca
  go_enter Try.func9, Try.ntmps9
  go_wp2_with (first | (go_at_call 15; refine (alive1_calls _).mono ?_; rintro e w' ⟨rfl, k⟩; (repeat (first | replace k := below_of_alloc k | replace k := below_of_drewN k)); (repeat (rename SliceR _ _ (wrd _) _ _ => hz; replace hz := SliceR.up hz k; revert hz)); (repeat (rename AggR _ (wrd _) _ _ => hz; replace hz := AggR.up hz k; revert hz)); intros; have h0 := below_next (by assumption) k; clear k) | (go_at_call 16; refine (Wrong_calls _ _ _ _ (by first | assumption | exact SliceR.of_top (by assumption) (by assumption) | exact SliceR.up (by assumption) (below_alloc1 _ _) | exact SliceR.up (by assumption) (below_alloc2 _ _ _) | exact SliceR.of_top (W := W) (by assumption) (Below.alloc (by assumption) (Below.size (by assumption)) _))).mono ?_; rintro e w' ⟨rfl, rfl⟩))
  refine (Tick_calls _ _ _ _ _ h1 (upto_le (by assumption)) (by omega)).mono ?_
  rintro e w2 ⟨r, rfl, ho, k2⟩
  rw [ht] at ho
  clear ht
  have h0 := below_next (by assumption) k2
  clear k2
  have hr := ho.ints
  clear ho
  obtain ⟨A2, c2, rfl, m3, m4⟩ := hr.val
  simp only [List.length_set] at m3
  unfold maxLen at m4
  simp only [List.length_set] at hr
  have hcw := IntsR.cell h1 (upto_le h0) n1
  go_wp2_with (first | (go_at_call 17; refine (Sees_calls _ _ _ _ _ (by first | assumption | exact SliceR.of_top (by assumption) (by assumption) | exact SliceR.up (by assumption) (below_alloc1 _ _) | exact SliceR.up (by assumption) (below_alloc2 _ _ _) | exact SliceR.of_top (W := W) (by assumption) (Below.alloc (by assumption) (Below.size (by assumption)) _)) (by first | assumption | exact SliceR.of_top (by assumption) (by assumption) | exact SliceR.up (by assumption) (below_alloc1 _ _) | exact SliceR.up (by assumption) (below_alloc2 _ _ _) | exact SliceR.of_top (W := W) (by assumption) (Below.alloc (by assumption) (Below.size (by assumption)) _)) (by first | omega | (rw [List.length_set]; omega))).mono ?_; rintro e w' ⟨rfl, k⟩; (repeat (first | replace k := below_of_alloc k | replace k := below_of_drewN k)); (repeat (rename SliceR _ _ (wrd _) _ _ => hz; replace hz := SliceR.up hz k; revert hz)); (repeat (rename AggR _ (wrd _) _ _ => hz; replace hz := AggR.up hz k; revert hz)); intros; have h0 := below_next (by assumption) k; clear k; have hcw := IntsR.cell h1 (upto_le (by assumption)) n1) | (go_at_call 34; refine (Has_calls _ _ _ _ _ (by first | assumption | exact SliceR.of_top (by assumption) (by assumption) | exact SliceR.up (by assumption) (below_alloc1 _ _) | exact SliceR.up (by assumption) (below_alloc2 _ _ _) | exact SliceR.of_top (W := W) (by assumption) (Below.alloc (by assumption) (Below.size (by assumption)) _))).mono ?_; rintro e w' ⟨rfl, rfl⟩))
  rename SliceR _ _ (wrd _) _ _ => hr
  clear hcw
  go_loopw [59] (fun i wr => ∃ j : Nat, j ≤ a.length ∧ i = .int .i64 j ∧ Below w'.heap.size w' wr) (fun i _ => a.length - (intOf i).toNat)
  case atStart => exact ⟨0, Nat.zero_le _, rfl, Below.refl _ _⟩
  case round =>
    obtain ⟨j, hj, rfl, hb⟩ := hrel
    have h0 := below_next h0 hb
    by_cases hlt : j < a.length
    · have hc1 := IntsR.cell h1 (upto_le h0) hlt
      obtain ⟨b2, o2, e2, hc2⟩ := IntsR.at_ (SliceR.up hr hb) (k := j) (by simpa using hlt)
      subst e2
      simp only [wrd] at hc2
      have i1 : (j : Int) < (a.length : Int) := by omega
      by_cases he : j = k
      · subst he
        have e3 : ((j : Int) != (j : Int)) = false := by simp
        have e4 : ((j : Int) == (j : Int)) = true := by simp
        go_wp2
        go_quiet (fail)
        go_wp2
        go_roundw
        case rel => exact ⟨j + 1, by omega, by go_num, hb.trans (below_drewN _ _ _)⟩
        case measure => simp [intOf]; omega
      · have e3 : ((j : Int) != (k : Int)) = true := by simp; omega
        have e4 : ((j : Int) == (k : Int)) = false := by simp; omega
        have e5 : (a.set k (a[k] + 1))[j]'(by simpa using hlt) = a[j] := List.getElem_set_ne (by omega) _
        rw [e5] at hc2
        have e6 : (a[j] != a[j]) = false := by simp
        have e7 : (a[j] == a[j]) = true := by simp
        clear e5
        go_wp2
        go_quiet (fail)
        go_wp2
        go_roundw
        case rel => exact ⟨j + 1, by omega, by go_num, hb.trans (below_drewN _ _ _)⟩
        case measure => simp [intOf]; omega
    · have e3 : ((a.length : Int) == (a.length : Int)) = true := by simp
      go_wp2
      go_ret
      exact ⟨rfl, h0⟩

set_option maxRecDepth 100000 in
theorem ClockTick_lifted (os : Os) (started : os.Started) (H : Type) (enc : TypeId × Value → H) :
    ReturnsInHanded {} Try.checked os 9 .any (Rows.clockTickSpec.pre6 enc Try.prog Try.f9 Rows.clockTickRow.domain false) (Rows.clockTickSpec.post enc Try.prog Try.f9 false true false false) := by
  refine returnsInHanded_of_change_sized (C := Try.checked) own_ started (by kernel_rfl) Try.func9
    (ChangeSpec.witness6 (enc := enc) (C := Try.checked) false ⟨#[], #[.slice none 0 0, .int .i64 0], []⟩ 8 (by kernel_rfl) (by kernel_rfl) (by kernel_rfl) (by kernel_rfl)) ?_
  intro W base args ds gs before hval0 hW _ hsz0 _
  have hval : ∀ (j : Nat) t v, Try.f9.params[j]? = some t → args[j]? = some v → Value.okWide Try.prog W .any base t v := hval0
  have hsz : (DataW.weightsEach Try.prog (Try.f9.params.toList ++ Rows.clockTickSpec.plain.varTypes Try.prog) (ds ++ gs)).all (· ≤ reachBytes) = true := hsz0
  have hW' := hW
  obtain ⟨p, q, hA0, hV, rfl, _, _⟩ := hW
  obtain ⟨rfl, rfl⟩ := trodVars_none hV
  have hA : DataW.TrodAll enc Try.prog W 0 (fun _ => true) true Try.f9.params.toList args.toList ds p := hA0
  rw [Try.params9] at hA hval hsz
  obtain ⟨v1, vs1, d1, ds1, p1, q1, e1, rfl, rfl, t1, r1⟩ := trodAll_cons hA
  obtain ⟨v2, vs2, d2, ds2, p2, q2, rfl, rfl, rfl, t2, r2⟩ := trodAll_cons r1
  obtain ⟨rfl, rfl, rfl⟩ := trodAll_nil r2
  obtain rfl : args = #[v1, v2] := by cases args; simp_all
  obtain ⟨z1, hsz⟩ := weights_each hsz
  obtain ⟨z2, hsz⟩ := weights_each hsz
  obtain ⟨a1, ha1, hb1⟩ := arg_slice Try.underlying23 op_clock (hval 0 _ v1 rfl rfl) t1 z1
  obtain ⟨n2, rfl, rfl, rfl, hw2⟩ := open_int Try.underlying3 (hval 1 _ v2 rfl rfl) t2
  refine (ClockTick_calls W v1 a1 ha1 hb1 n2 hw2).mono fun e W' ⟨he, hbl⟩ => ?_
  subst he
  exact ⟨_, rfl, close_law laidOut (by kernel_rfl) rfl (fun gs h => by subst h; rfl) rfl (tb := 4) Try.underlying4 hW' hbl⟩

theorem ClockTick_holds : Rows.ClockTickSaid :=
  OpenClaim.holds_of_wide 9 Try.f9 rfl rfl rfl rfl rfl rfl rfl ⟨rfl, rfl, rfl, rfl, rfl⟩ rfl rfl rfl rfl rfl (by kernel_rfl) Try.func9 (by kernel_rfl)
    (of_decide_eq_true (by kernel_rfl)) (by unfold Func.isWrapper; first | (rw [if_pos (by decide +kernel)]; kernel_rfl) | (rw [if_neg (by decide +kernel)]; exact ⟨rfl, rfl⟩))
    (fun os started H enc _ => ClockTick_lifted os started H enc)
#print axioms ClockTick_holds
end Go.Proofs.Ytkjknlnhffmkkaa
