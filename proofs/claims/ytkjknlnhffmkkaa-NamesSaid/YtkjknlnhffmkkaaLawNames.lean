/- Names: each constant has its value. For every input; no condition. -/
import Derived.Test.YtkjknlnhffmkkaaClose
import Derived.Test.YtkjknlnhffmkkaaTy
namespace Go.Proofs.Ytkjknlnhffmkkaa
open Go.ChangeShapes Go.WideShapes Go.ChangeAt Go.RowKit
set_option linter.unusedVariables false
theorem names_p1 (k : Nat) (z : Int) (h : ([0, 1, 2, 3, 4, 5, 6, 7, 8, 9] : List Int)[k]? = some z) : z = (k : Int) := by
  rcases k with _ | _ | _ | _ | _ | _ | _ | _ | _ | _ | k <;> simp at h <;> omega
set_option maxRecDepth 100000 in
set_option maxHeartbeats 8000000 in
theorem Names_calls (W : World) :
    Calls Try.prog 12 #[] W (fun e w' => e = .returned (.bool true) ∧ Below W.heap.size W w') := by
  have S : St W (wrd W) (wrd W) [] [] W := St.start (Rd.le_refl _)
  refine e_enter (args := []) 36 Try.func12 rfl rfl rfl ?_
  refine e_seq ?_
  refine e_reg ?_
  refine l_y (v := .bool false) S (y_as rfl) ?_
  refine l_nil ?_
  refine n_seq ?_
  refine e_seq ?_
  refine e_reg ?_
  refine l_bs (ps := [(0, .int .i64 0), (1, .int .i64 1), (2, .int .i64 2), (3, .int .i64 3), (4, .int .i64 4), (5, .int .i64 5), (6, .int .i64 6), (7, .int .i64 7), (8, .int .i64 8), (9, .int .i64 9)]) (cs := #[.int .i64 0, .int .i64 1, .int .i64 2, .int .i64 3, .int .i64 4, .int .i64 5, .int .i64 6, .int .i64 7, .int .i64 8, .int .i64 9]) S U56 SZ25 Z25 rfl rfl rfl (by kernel_rfl) fun g1 w2 S => ?_
  refine l_y (v := .slice (some ⟨g1, 0, none⟩) 10 10) S (y_as rfl) ?_
  obtain ⟨rd3, S, L4, Fz5⟩ := S.frz' (i := 0) rfl
  have F6 := Fz5 (size := 1) (R := IntR) (xs := ([0, 1, 2, 3, 4, 5, 6, 7, 8, 9] : List Int)) (n := 10) (c := 10) rfl (Nat.le_refl _) (by simp [maxLen]) (rowInts _ ([0, 1, 2, 3, 4, 5, 6, 7, 8, 9] : List Int)); clear Fz5
  refine l_nil ?_
  refine n_seq ?_
  refine e_seq ?_
  refine e_seq ?_
  refine e_reg ?_
  refine l_y (v := .slice (some ⟨g1, 0, none⟩) 10 10) S (y_mv rfl) ?_
  refine l_y (v := .int .i64 10) S (y_len U56 rfl rfl) ?_
  refine l_y (v := .int .i64 0) S (y_mv rfl) ?_
  refine l_nil ?_
  refine n_seq ?_
  refine e_blk ?_
  refine e_trim [(8, .slice (some ⟨g1, 0, none⟩) 10 10), (9, .int .i64 10), (10, .int .i64 (0 : Int))] ⟨⟨rfl, rfl⟩, ⟨rfl, rfl⟩, ⟨ival (by first | rfl | omega), rfl⟩, trivial⟩ (fun junk => ?_)
  refine e_loop (fun (g : Nat) ov w => match g with | k => ∃ rd' junk, ov = [(8, .slice (some ⟨g1, 0, none⟩) 10 10), (9, .int .i64 10), (10, .int .i64 (k : Int))] ++ junk ∧ St W (wrd W) rd' [] [] w ∧ Rd.le rd3 rd' ∧ k ≤ 10) (fun g => match g with | k => 10 - k) 0 ⟨_, junk, rfl, (S.rw' rfl rfl), (Rd.le_refl _), (by first | omega | rfl | simp)⟩ ?_
  rintro k ov10 w8 ⟨rd7, junk, rfl, S, L9, hk⟩
  have F6 := fm F6 L9
  refine e_seq ?_
  refine e_reg ?_
  by_cases h11 : (k : Int) < 10
  · -- h11 yes
    refine l_y (v := .bool true) S (y_ltT rfl rfl h11) ?_
    refine l_nil ?_
    refine n_seq ?_
    refine e_seq ?_
    refine e_cT rfl ?_
    refine e_skip ?_
    refine n_seq ?_
    refine e_seq ?_
    refine e_blk ?_
    refine e_seq ?_
    refine e_reg ?_
    refine l_y (v := .int .i64 (k : Int)) S (y_mv rfl) ?_
    obtain ⟨z12, hz13⟩ : ∃ z, (([0, 1, 2, 3, 4, 5, 6, 7, 8, 9] : List Int))[k]? = some z := nth_of (by show _ < 10; omega)
    have hn := names_p1 _ _ hz13
    obtain ⟨p14, vs15, E16, nn17, r18, Y19⟩ := y_ia U56 SZ25 F6 hz13
    clear nn17
    have r18 : vs15 = [.int .i64 z12] := r18; subst r18
    refine l_y (v := p14) S (Y19 rfl rfl (by first | rfl | omega)) ?_
    refine l_y (v := .int .i64 z12) S (y_ld rfl (fun w S => ld_p1 S.le E16 rfl T25)) ?_
    refine l_y (v := .int .i64 (k : Int)) S (y_as rfl) ?_
    refine l_y (v := .int .i64 z12) S (y_as rfl) ?_
    refine l_nil ?_
    refine n_seq ?_
    refine e_seq ?_
    refine e_reg ?_
    refine l_y (v := .int .i64 z12) S (y_mv rfl) ?_
    refine l_y (v := .int .i64 (k : Int)) S (y_mv rfl) ?_
    have h20 : z12 = (k : Int) := hn
    refine l_y (v := .bool false) S (y_neF rfl rfl h20) ?_
    refine l_nil ?_
    refine n_seq ?_
    refine e_cF rfl ?_
    refine e_skip ?_
    refine n_blk ?_
    refine n_seq ?_
    refine e_reg ?_
    refine l_y (v := .int .i64 ((k : Int) + 1)) S (y_add (r := (k : Int) + 1) rfl rfl (w64 (by omega) (by omega))) ?_
    refine l_y (v := .int .i64 ((k : Int) + 1)) S (y_mv rfl) ?_
    refine l_nil ?_
    refine n_lp ⟨(k + 1), _, fr_keep (m := [(8, .slice (some ⟨g1, 0, none⟩) 10 10), (9, .int .i64 10), (10, .int .i64 ((k + 1 : Nat) : Int))]) ⟨⟨rfl, rfl⟩, ⟨rfl, rfl⟩, ⟨ival (by first | rfl | omega), rfl⟩, trivial⟩, ⟨_, _, rfl, (S.tk 0 0 rfl rfl), L9, (by omega)⟩, ?_⟩
    show _ < _; dsimp only; omega
  · -- h11 no
    refine l_y (v := .bool false) S (y_ltF rfl rfl h11) ?_
    refine l_nil ?_
    refine n_seq ?_
    refine e_seq ?_
    refine e_cF rfl ?_
    refine e_exit ?_
    refine x_seq ?_
    refine x_lp ?_
    refine x_hit ?_
    refine n_seq ?_
    refine e_seq ?_
    refine e_reg ?_
    refine l_bs (ps := [(0, .int .i64 6), (1, .int .i64 1000), (2, .int .i64 1), (3, .int .i64 2), (4, .int .i64 3), (5, .int .i64 4), (6, .int .i64 5), (7, .int .i64 15), (8, .int .i64 1000), (9, .int .i64 1), (10, .int .i64 2), (11, .int .i64 3), (12, .int .i64 4), (13, .int .i64 5), (14, .int .i64 150), (15, .int .i64 20), (16, .int .i64 300)]) (cs := #[.int .i64 6, .int .i64 1000, .int .i64 1, .int .i64 2, .int .i64 3, .int .i64 4, .int .i64 5, .int .i64 15, .int .i64 1000, .int .i64 1, .int .i64 2, .int .i64 3, .int .i64 4, .int .i64 5, .int .i64 150, .int .i64 20, .int .i64 300]) S U22 SZ3 Z3 rfl rfl rfl (by kernel_rfl) fun g21 w22 S => ?_
    refine l_y (v := .slice (some ⟨g21, 0, none⟩) 17 17) S (y_as rfl) ?_
    obtain ⟨rd23, S, L24, Fz25⟩ := S.frz' (i := 0) rfl
    have F6 := fm F6 L24
    have F26 := Fz25 (size := 1) (R := IntR) (xs := ([6, 1000, 1, 2, 3, 4, 5, 15, 1000, 1, 2, 3, 4, 5, 150, 20, 300] : List Int)) (n := 17) (c := 17) rfl (Nat.le_refl _) (by simp [maxLen]) (rowInts _ ([6, 1000, 1, 2, 3, 4, 5, 15, 1000, 1, 2, 3, 4, 5, 150, 20, 300] : List Int)); clear Fz25
    refine l_nil ?_
    refine n_seq ?_
    refine e_seq ?_
    refine e_reg ?_
    refine l_bs (ps := [(0, .int .i64 6), (1, .int .i64 1000), (2, .int .i64 1), (3, .int .i64 2), (4, .int .i64 3), (5, .int .i64 4), (6, .int .i64 5), (7, .int .i64 15), (8, .int .i64 1000), (9, .int .i64 1), (10, .int .i64 2), (11, .int .i64 3), (12, .int .i64 4), (13, .int .i64 5), (14, .int .i64 150), (15, .int .i64 20), (16, .int .i64 300)]) (cs := #[.int .i64 6, .int .i64 1000, .int .i64 1, .int .i64 2, .int .i64 3, .int .i64 4, .int .i64 5, .int .i64 15, .int .i64 1000, .int .i64 1, .int .i64 2, .int .i64 3, .int .i64 4, .int .i64 5, .int .i64 150, .int .i64 20, .int .i64 300]) S U22 SZ3 Z3 rfl rfl rfl (by kernel_rfl) fun g27 w28 S => ?_
    refine l_y (v := .slice (some ⟨g27, 0, none⟩) 17 17) S (y_as rfl) ?_
    obtain ⟨rd29, S, L30, Fz31⟩ := S.frz' (i := 0) rfl
    have F6 := fm F6 L30
    have F26 := fm F26 L30
    have F32 := Fz31 (size := 1) (R := IntR) (xs := ([6, 1000, 1, 2, 3, 4, 5, 15, 1000, 1, 2, 3, 4, 5, 150, 20, 300] : List Int)) (n := 17) (c := 17) rfl (Nat.le_refl _) (by simp [maxLen]) (rowInts _ ([6, 1000, 1, 2, 3, 4, 5, 15, 1000, 1, 2, 3, 4, 5, 150, 20, 300] : List Int)); clear Fz31
    refine l_nil ?_
    refine n_seq ?_
    refine e_seq ?_
    refine e_seq ?_
    refine e_reg ?_
    refine l_y (v := .slice (some ⟨g27, 0, none⟩) 17 17) S (y_mv rfl) ?_
    refine l_y (v := .int .i64 17) S (y_len U22 rfl rfl) ?_
    refine l_y (v := .int .i64 0) S (y_mv rfl) ?_
    refine l_nil ?_
    refine n_seq ?_
    refine e_blk ?_
    refine e_trim [(4, .slice (some ⟨g21, 0, none⟩) 17 17), (5, .slice (some ⟨g27, 0, none⟩) 17 17), (22, .int .i64 17), (23, .int .i64 (0 : Int))] ⟨⟨rfl, rfl⟩, ⟨rfl, rfl⟩, ⟨rfl, rfl⟩, ⟨ival (by first | rfl | omega), rfl⟩, trivial⟩ (fun junk => ?_)
    refine e_loop (fun (g : Nat) ov w => match g with | k => ∃ rd' junk, ov = [(4, .slice (some ⟨g21, 0, none⟩) 17 17), (5, .slice (some ⟨g27, 0, none⟩) 17 17), (22, .int .i64 17), (23, .int .i64 (k : Int))] ++ junk ∧ St W (wrd W) rd' [] [] w ∧ Rd.le rd29 rd' ∧ k ≤ 17) (fun g => match g with | k => 17 - k) 0 ⟨_, junk, rfl, (S.rw' rfl rfl), (Rd.le_refl _), (by first | omega | rfl | simp)⟩ ?_
    rintro k ov36 w34 ⟨rd33, junk, rfl, S, L35, hk⟩
    have F26 := fm F26 L35
    have F32 := fm F32 L35
    refine e_seq ?_
    refine e_reg ?_
    by_cases h37 : (k : Int) < 17
    · -- h37 yes
      refine l_y (v := .bool true) S (y_ltT rfl rfl h37) ?_
      refine l_nil ?_
      refine n_seq ?_
      refine e_seq ?_
      refine e_cT rfl ?_
      refine e_skip ?_
      refine n_seq ?_
      refine e_seq ?_
      refine e_blk ?_
      refine e_seq ?_
      refine e_reg ?_
      refine l_y (v := .int .i64 (k : Int)) S (y_mv rfl) ?_
      refine l_y (v := .int .i64 (k : Int)) S (y_as rfl) ?_
      refine l_nil ?_
      refine n_seq ?_
      refine e_seq ?_
      refine e_q MX (by kernel_rfl) S.drew ?_
      -- draws
      refine q_y (v := .slice (some ⟨g21, 0, none⟩) 17 17) (y_mv rfl) ?_
      refine q_y (v := .int .i64 (k : Int)) (y_mv rfl) ?_
      obtain ⟨z38, hz39⟩ : ∃ z, (([6, 1000, 1, 2, 3, 4, 5, 15, 1000, 1, 2, 3, 4, 5, 150, 20, 300] : List Int))[k]? = some z := nth_of (by show _ < 17; omega)
      obtain ⟨p40, vs41, E42, nn43, r44, Y45⟩ := y_ia U22 SZ3 F26 hz39
      clear nn43
      have r44 : vs41 = [.int .i64 z38] := r44; subst r44
      refine q_y (v := p40) (Y45 rfl rfl (by first | rfl | omega)) ?_
      refine q_y (v := .int .i64 z38) (y_ld rfl (fun w S => ld_p1 S.le E42 rfl T3)) ?_
      refine q_y (v := .slice (some ⟨g27, 0, none⟩) 17 17) (y_mv rfl) ?_
      refine q_y (v := .int .i64 (k : Int)) (y_mv rfl) ?_
      obtain ⟨p48, vs49, E50, nn51, r52, Y53⟩ := y_ia U22 SZ3 F32 hz39
      clear nn51
      have r52 : vs49 = [.int .i64 z38] := r52; subst r52
      refine q_y (v := p48) (Y53 rfl rfl (by first | rfl | omega)) ?_
      refine q_y (v := .int .i64 z38) (y_ld rfl (fun w S => ld_p1 S.le E50 rfl T3)) ?_
      have h54 : z38 = z38 := rfl
      refine q_y (v := .bool false) (y_neF rfl rfl h54) ?_
      refine q_nil fun w55 S => ?_
      refine n_seq ?_
      refine e_cF rfl ?_
      refine e_skip ?_
      refine n_blk ?_
      refine n_seq ?_
      refine e_reg ?_
      refine l_y (v := .int .i64 ((k : Int) + 1)) S (y_add (r := (k : Int) + 1) rfl rfl (w64 (by omega) (by omega))) ?_
      refine l_y (v := .int .i64 ((k : Int) + 1)) S (y_mv rfl) ?_
      refine l_nil ?_
      refine n_lp ⟨(k + 1), _, fr_keep (m := [(4, .slice (some ⟨g21, 0, none⟩) 17 17), (5, .slice (some ⟨g27, 0, none⟩) 17 17), (22, .int .i64 17), (23, .int .i64 ((k + 1 : Nat) : Int))]) ⟨⟨rfl, rfl⟩, ⟨rfl, rfl⟩, ⟨rfl, rfl⟩, ⟨ival (by first | rfl | omega), rfl⟩, trivial⟩, ⟨_, _, rfl, (S.tk 0 0 rfl rfl), L35, (by omega)⟩, ?_⟩
      show _ < _; dsimp only; omega
    · -- h37 no
      refine l_y (v := .bool false) S (y_ltF rfl rfl h37) ?_
      refine l_nil ?_
      refine n_seq ?_
      refine e_seq ?_
      refine e_cF rfl ?_
      refine e_exit ?_
      refine x_seq ?_
      refine x_lp ?_
      refine x_hit ?_
      refine n_seq ?_
      refine e_seq ?_
      refine e_reg ?_
      refine l_y (v := .bool true) S (y_as rfl) ?_
      refine l_nil ?_
      refine n_seq ?_
      refine e_ret ?_
      refine ret1 rfl rfl ?_
      exact ⟨rfl, S.below⟩
set_option maxRecDepth 100000 in
theorem Names_lifted (os : Os) (started : os.Started) (H : Type) (enc : TypeId × Value → H) :
    ReturnsInHanded {} Try.checked os 12 .any (Rows.namesSpec.pre6 enc Try.prog Try.f12 Rows.namesRow.domain false) (Rows.namesSpec.post enc Try.prog Try.f12 false true false false) := by
  refine returnsInHanded_of_change_sized (C := Try.checked) own_ started (by kernel_rfl) Try.func12
    (ChangeSpec.witness6 (enc := enc) (C := Try.checked) false ⟨#[], #[], []⟩ 8 (by kernel_rfl) (by kernel_rfl) (by kernel_rfl) (by kernel_rfl)) ?_
  intro W base args ds gs before hval0 hW _ hsz0 _
  have hval : ∀ (j : Nat) t v, Try.f12.params[j]? = some t → args[j]? = some v → Value.okWide Try.prog W .any base t v := hval0
  have hsz : (DataW.weightsEach Try.prog (Try.f12.params.toList ++ Rows.namesSpec.plain.varTypes Try.prog) (ds ++ gs)).all (· ≤ reachBytes) = true := hsz0
  have hW' := hW
  obtain ⟨p, q, hA0, hV, rfl, _, _⟩ := hW
  obtain ⟨rfl, rfl⟩ := trodVars_none hV
  have hA : DataW.TrodAll enc Try.prog W 0 (fun _ => true) true Try.f12.params.toList args.toList ds p := hA0
  rw [Try.params12] at hA hval hsz
  obtain ⟨e1, rfl, rfl⟩ := trodAll_nil hA
  obtain rfl : args = #[] := by cases args; simp_all
  refine (Names_calls W ).mono fun e W' ⟨he, hbl⟩ => ?_
  subst he
  exact ⟨_, rfl, close_law laidOut (by kernel_rfl) rfl (fun gs h => by subst h; rfl) rfl (tb := 4) Try.underlying4 hW' hbl⟩

theorem Names_holds : Rows.NamesSaid :=
  OpenClaim.holds_of_wide 12 Try.f12 rfl rfl rfl rfl rfl rfl rfl ⟨rfl, rfl, rfl, rfl, rfl⟩ rfl rfl rfl rfl rfl (by kernel_rfl) Try.func12 (by kernel_rfl)
    (of_decide_eq_true (by kernel_rfl)) (by unfold Func.isWrapper; first | (rw [if_pos (by decide +kernel)]; kernel_rfl) | (rw [if_neg (by decide +kernel)]; exact ⟨rfl, rfl⟩))
    (fun os started H enc _ => Names_lifted os started H enc)
#print axioms Names_holds
end Go.Proofs.Ytkjknlnhffmkkaa
