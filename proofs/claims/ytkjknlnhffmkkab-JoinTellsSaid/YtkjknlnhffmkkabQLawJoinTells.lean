/- JoinTells: Join tells what the document's answer tells. For every input; no condition. -/
import Derived.Test.YtkjknlnhffmkkabQRefJ
import Derived.Test.YtkjknlnhffmkkabQSame
import Derived.Test.YtkjknlnhffmkkabQCl
namespace Go.Proofs.Ytkjknlnhffmkkab
open Go.ChangeShapes Go.WideShapes Go.ChangeAt Go.RowKit
set_option linter.unusedVariables false
set_option maxRecDepth 100000 in
set_option maxHeartbeats 16000000 in
theorem JoinTells_calls (W : World) (v1 : Value) (a : State) (qa : AggR StateR (wrd W) v1 a) (b1 : StateBd a) (v2 : Value) (b : State) (qb : AggR StateR (wrd W) v2 b) (b2 : StateBd b) :
    Calls Try.prog 9 #[v1, v2] W (fun e w' => e = .returned (.bool true) ∧ Below W.heap.size W w') := by
 obtain ⟨vs1, qae, qa⟩ := qa; subst qae; obtain ⟨sv2, sv4, sv6, qae, h3, h5, h7⟩ := qa; subst qae; obtain ⟨A8, c9, rfl, m10, m10'⟩ := h3.val; obtain ⟨A11, c12, rfl, m13, m13'⟩ := h5.val; obtain ⟨A14, c15, rfl, m16, m16'⟩ := h7.val; obtain ⟨vs17, qbe, qb⟩ := qb; subst qbe; obtain ⟨sv18, sv20, sv22, qbe, h19, h21, h23⟩ := qb; subst qbe; obtain ⟨A24, c25, rfl, m26, m26'⟩ := h19.val; obtain ⟨A27, c28, rfl, m29, m29'⟩ := h21.val; obtain ⟨A30, c31, rfl, m32, m32'⟩ := h23.val; have hmx : maxLen = 9223372036854775807 := rfl; have S : St [] W (wrd W) (wrd W) [] [] W := St.start (Rd.le_refl _); refine e_enter (args := [.agg (kS a A8 c9 A11 c12 A14 c15), .agg (kS b A24 c25 A27 c28 A30 c31)]) 29 Try.func9 rfl rfl rfl ?_; refine er (l_bx (u := .agg (kS a A8 c9 A11 c12 A14 c15)) (cs := (kS a A8 c9 A11 c12 A14 c15)) S rfl rfl fun g33 w34 S => l_bx (u := .agg (kS b A24 c25 A27 c28 A30 c31)) (cs := (kS b A24 c25 A27 c28 A30 c31)) S rfl rfl fun g35 w36 S => ly (.bool false) S Ya (ln (er (ly (.agg (kS a A8 c9 A11 c12 A14 c15)) S (ybA 0 T27) (ly (.agg (kS b A24 c25 A27 c28 A30 c31)) S (ybA 1 T27) ?_))))); refine l_c (en_f (vs := [.agg (kS a A8 c9 A11 c12 A14 c15), .agg (kS b A24 c25 A27 c28 A30 c31)]) (CF 31 _) rfl rfl) (Join_m _ _ S.le _ _ a b (⟨_, rfl, ⟨_, _, _, rfl, h3, h5, h7⟩⟩ : AggR StateR (wrd W) _ a) (⟨_, rfl, ⟨_, _, _, rfl, h19, h21, h23⟩⟩ : AggR StateR (wrd W) _ b)) ?_; rintro e w37 ⟨v42, rfl, h43, k⟩; obtain ⟨rd38, S, L39, N40, X41⟩ := S.call' k; clear k; replace h3 := fm h3 L39; replace h5 := fm h5 L39; replace h7 := fm h7 L39; replace h19 := fm h19 L39; replace h21 := fm h21 L39; replace h23 := fm h23 L39; replace h43 := am h43 X41; obtain ⟨cs44, h43v, h43⟩ := h43; subst h43v; obtain ⟨sv45, sv47, sv49, h43e, h46, h48, h50⟩ := h43; subst h43e; obtain ⟨A51, c52, rfl, m53, m53'⟩ := h46.val; obtain ⟨A54, c55, rfl, m56, m56'⟩ := h48.val; obtain ⟨A57, c58, rfl, m59, m59'⟩ := h50.val; refine ckd (ly (.tuple #[.agg (kS ((JoinS a b).1) A51 c52 A54 c55 A57 c58), ni ((JoinS a b).2)]) S Ym (ly (.agg (kS ((JoinS a b).1) A51 c52 A54 c55 A57 c58)) S Ye (ly (ni ((JoinS a b).2)) S Ye (l_al (cs := zc27) S Z27 rfl fun g60 w61 S => l_st (u := .agg (kS ((JoinS a b).1) A51 c52 A54 c55 A57 c58)) (i := 2) (cs' := (kS ((JoinS a b).1) A51 c52 A54 c55 A57 c58)) S rfl rfl rfl SZ27 rfl rfl rfl fun w62 S => ly (ni ((JoinS a b).2)) S Ya (ln (er (ly (.agg (kS a A8 c9 A11 c12 A14 c15)) S (ybA 0 T27) (ly (.agg (kS b A24 c25 A27 c28 A30 c31)) S (ybA 1 T27) ?_)))))))); refine l_c (en_f (vs := [.agg (kS a A8 c9 A11 c12 A14 c15), .agg (kS b A24 c25 A27 c28 A30 c31)]) (CF 32 _) rfl rfl) (RJoin4_c _ _ S.le _ _ a b (⟨_, rfl, ⟨_, _, _, rfl, h3, h5, h7⟩⟩ : AggR StateR rd38 _ a) (⟨_, rfl, ⟨_, _, _, rfl, h19, h21, h23⟩⟩ : AggR StateR rd38 _ b)) ?_; rintro e w63 ⟨v68, rfl, h69, k⟩; obtain ⟨rd64, S, L65, N66, X67⟩ := S.call' k; clear k; replace h3 := fm h3 L65; replace h5 := fm h5 L65; replace h7 := fm h7 L65; replace h19 := fm h19 L65; replace h21 := fm h21 L65; replace h23 := fm h23 L65; replace h46 := fm h46 L65; replace h48 := fm h48 L65; replace h50 := fm h50 L65; replace h69 := am h69 X67; obtain ⟨cs70, h69v, h69⟩ := h69; subst h69v; obtain ⟨sv71, sv73, sv75, h69e, h72, h74, h76⟩ := h69; subst h69e; obtain ⟨A77, c78, rfl, m79, m79'⟩ := h72.val; obtain ⟨A80, c81, rfl, m82, m82'⟩ := h74.val; obtain ⟨A83, c84, rfl, m85, m85'⟩ := h76.val; refine ckd (ly (.tuple #[.agg (kS ((JoinS a b).1) A77 c78 A80 c81 A83 c84), ni ((JoinS a b).2)]) S Ym (ly (.agg (kS ((JoinS a b).1) A77 c78 A80 c81 A83 c84)) S Ye (ly (ni ((JoinS a b).2)) S Ye (l_al (cs := zc27) S Z27 rfl fun g86 w87 S => l_st (u := .agg (kS ((JoinS a b).1) A77 c78 A80 c81 A83 c84)) (i := 3) (cs' := (kS ((JoinS a b).1) A77 c78 A80 c81 A83 c84)) S rfl rfl rfl SZ27 rfl rfl rfl fun w88 S => ly (ni ((JoinS a b).2)) S Ya (ln (er (ly (ni ((JoinS a b).2)) S Ym (ly (ni ((JoinS a b).2)) S Ym ?_)))))))); have h89 : (JoinS a b).2 = (JoinS a b).2 := rfl; refine ly (.bool true) S (y_eqT rfl rfl h89) (ly (.bool true) S Ym (lg 24 (.agg (kS ((JoinS a b).1) A51 c52 A54 c55 A57 c58)) S (ybA 2 T27) (lg 24 (.agg (kS ((JoinS a b).1) A77 c78 A80 c81 A83 c84)) S (ybA 3 T27) ?_))); refine l_cg (d' := 24) (en_f (vs := [.agg (kS ((JoinS a b).1) A51 c52 A54 c55 A57 c58), .agg (kS ((JoinS a b).1) A77 c78 A80 c81 A83 c84)]) (CF 15 _) rfl rfl) rfl rfl (SSame_c _ _ S.le _ _ ((JoinS a b).1) ((JoinS a b).1) (⟨_, rfl, ⟨_, _, _, rfl, h46, h48, h50⟩⟩ : AggR StateR rd64 _ ((JoinS a b).1)) (⟨_, rfl, ⟨_, _, _, rfl, h72, h74, h76⟩⟩ : AggR StateR rd64 _ ((JoinS a b).1))) ?_; rintro e w90 ⟨rfl, k⟩; have S := S.callq k; clear k; have b91 : sameS ((JoinS a b).1) ((JoinS a b).1) = true := decide_eq_true rfl; rw [b91]; refine ckd (ly (.bool true) S Yt (ly (.bool true) S Ya (ln (e_ret ?_)))); refine ret1 (v := .bool true) rfl rfl ?_; exact ⟨rfl, S.below⟩
set_option maxRecDepth 100000 in
theorem JoinTells_lifted (os : Os) (started : os.Started) (H : Type) (enc : TypeId × Value → H) :
    ReturnsInHanded {} Try.checked os 9 .any (Rows.joinTellsSpec.pre6 enc Try.prog Try.f9 Rows.joinTellsRow.domain false) (Rows.joinTellsSpec.post enc Try.prog Try.f9 false true false false) := by
  refine returnsInHanded_of_change_sized (C := Try.checked) own_ started (by kernel_rfl) Try.func9
    (ChangeSpec.witness6 (enc := enc) (C := Try.checked) false ⟨#[], #[.agg #[.slice none 0 0, .slice none 0 0, .slice none 0 0], .agg #[.slice none 0 0, .slice none 0 0, .slice none 0 0]], []⟩ 8 (by kernel_rfl) (by kernel_rfl) (by kernel_rfl) (by kernel_rfl)) ?_
  intro W base args ds gs before hval0 hW _ hsz0 _
  have hval : ∀ (j : Nat) t v, Try.f9.params[j]? = some t → args[j]? = some v → Value.okWide Try.prog W .any base t v := hval0
  have hsz : (DataW.weightsEach Try.prog (Try.f9.params.toList ++ Rows.joinTellsSpec.plain.varTypes Try.prog) (ds ++ gs)).all (· ≤ reachBytes) = true := hsz0
  have hW' := hW
  obtain ⟨p, q, hA0, hV, rfl, _, _⟩ := hW
  obtain ⟨rfl, rfl⟩ := trodVars_none hV
  have hA : DataW.TrodAll enc Try.prog W 0 (fun _ => true) true Try.f9.params.toList args.toList ds p := hA0
  rw [Try.params9] at hA hval hsz
  obtain ⟨v1, vs1, d1, ds1, p1, q1, e1, rfl, rfl, t1, r1⟩ := trodAll_cons hA
  obtain ⟨v2, vs2, d2, ds2, p2, q2, rfl, rfl, rfl, t2, r2⟩ := trodAll_cons r1
  obtain ⟨rfl, rfl, rfl⟩ := trodAll_nil r2
  obtain rfl : args = #[v1, v2] := by cases args; simp_all
  obtain ⟨z1, hsz⟩ := weights_each hsz
  obtain ⟨z2, hsz⟩ := weights_each hsz
  obtain ⟨a1, ha1, hb1⟩ := arg_agg Try.underlying27 op_state (hval 0 _ v1 rfl rfl) t1 z1
  obtain ⟨a2, ha2, hb2⟩ := arg_agg Try.underlying27 op_state (hval 1 _ v2 rfl rfl) t2 z2
  refine (JoinTells_calls W v1 a1 ha1 hb1 v2 a2 ha2 hb2).mono fun e W' ⟨he, hbl⟩ => ?_
  subst he
  exact ⟨_, rfl, close_law laidOut (by kernel_rfl) rfl (fun gs h => by subst h; rfl) rfl (tb := 4) Try.underlying4 hW' hbl⟩

theorem JoinTells_holds : Rows.JoinTellsSaid :=
  OpenClaim.holds_of_wide 9 Try.f9 rfl rfl rfl rfl rfl rfl rfl ⟨rfl, rfl, rfl, rfl, rfl⟩ rfl rfl rfl rfl rfl (by kernel_rfl) Try.func9 (by kernel_rfl)
    (of_decide_eq_true (by kernel_rfl)) (by unfold Func.isWrapper; first | (rw [if_pos (by decide +kernel)]; kernel_rfl) | (rw [if_neg (by decide +kernel)]; exact ⟨rfl, rfl⟩))
    (fun os started H enc _ => JoinTells_lifted os started H enc)
#print axioms JoinTells_holds
end Go.Proofs.Ytkjknlnhffmkkab
