/- UpdateSize: so long is it. For every input; no condition. -/
import Derived.Test.YtkjknlnhffmkkaaQAlive2
import Derived.Test.YtkjknlnhffmkkaaQCloseB
import Derived.Test.YtkjknlnhffmkkaaQCl
namespace Go.Proofs.Ytkjknlnhffmkkaa
open Go.ChangeShapes Go.WideShapes Go.ChangeAt Go.RowKit
set_option linter.unusedVariables false
set_option maxRecDepth 100000 in
set_option maxHeartbeats 8000000 in
theorem UpdateSize_calls (W : World) (v1 : Value) (u : Upd) (qa : AggR UpdR (wrd W) v1 u) (b1 : UpdBd1 u) (n : Int) (w2 : (Lit.int .i64 n).wf = true) (v3 : Value) (b : List UInt8) (qb : SliceR 1 ByteR (wrd W) v3 b) (b3 : BytesBd b) :
    Calls Try.prog 7 #[v1, (.int .i64 n), v3] W (fun e w' => e = .returned (.bool true) ∧ Below W.heap.size W w') := by
 obtain ⟨vs1, qae, qa⟩ := qa; subst qae; obtain ⟨sv2, qae, h3⟩ := qa; subst qae; obtain ⟨A4, c5, rfl, m6, m6'⟩ := h3.val; obtain ⟨A7, c8, rfl, m9, m9'⟩ := qb.val; have hmx : maxLen = 9223372036854775807 := rfl; have q3 := b3.1; have hrb : reachBytes = 140737488351232 := rfl; have S : St [] W (wrd W) (wrd W) [] [] W := St.start (Rd.le_refl _); refine e_enter (args := [.agg (kU u A4 c5), ni n, sc A7 b.length c8]) 68 Try.func7 rfl rfl rfl ?_; refine er (l_bx (u := .agg (kU u A4 c5)) (cs := (kU u A4 c5)) S rfl rfl fun g10 w11 S => ly (.bool false) S Ya (ln (e_seq (er ?_)))); refine l_c (en_f (vs := []) (CF 29 _) rfl rfl) (alive2_c _ _ S.le) ?_; rintro e w12 ⟨rfl, k⟩; have S := S.callq k; clear k; refine ckd (ly (.bool false) S (y_not rfl rfl) (ln (e_cF rfl (e_skip (n_seq (er (ly (.agg (kU u A4 c5)) S (ybA 0 T32) (ly (ni n) S Ym ?_)))))))); refine l_c (en_f (vs := [.agg (kU u A4 c5), ni n]) (CF 24 _) rfl rfl) (Bytes_c _ _ S.le _ u n (⟨_, rfl, ⟨_, rfl, h3⟩⟩ : AggR UpdR (wrd W) _ u)) ?_; rintro e w13 ⟨v18, rfl, h19, k⟩; obtain ⟨rd14, S, L15, N16, X17⟩ := S.call' k; clear k; replace h3 := fm h3 L15; replace qb := fm qb L15; replace h19 := fm h19 X17; obtain ⟨A20, c21, rfl, m22, m22'⟩ := h19.val; refine ckd (ly (.tuple #[sc A20 (((BytesU u n).1).length) c21, ni ((BytesU u n).2)]) S Ym (ly (sc A20 (((BytesU u n).1).length) c21) S Ye (ly (ni ((BytesU u n).2)) S Ye (ly (sc A20 (((BytesU u n).1).length) c21) S Ya (ly (ni ((BytesU u n).2)) S Ya (ln (e_seq (er (ly (ni ((BytesU u n).2)) S Ym ?_))))))))); by_cases hb : (BytesU u n).2 = 0
 ·
  refine ly (.bool false) S (y_neF rfl rfl hb) (ln (e_cF rfl (e_skip (n_seq (e_seq (er ?_)))))); have hb0 : wrongU u n = 0 := by by_cases q : wrongU u n = 0; exact q; exact absurd hb (by unfold BytesU; rw [if_pos q]; exact q)
  have eB : BytesU u n = (bytesU u n, 0) := by unfold BytesU; rw [if_neg (fun q => q hb0)]
  have hlen : ((BytesU u n).1.length : Int) = 6 + 2 * n := by rw [eB]; exact bytesU_len hb0
  have hul := (wrongU_iff.1 hb0).len; have hwc := wrongC_ok (wrongU_iff.1 hb0).c; refine ly (sc A20 (((BytesU u n).1).length) c21) S Ym (ly (ni (((BytesU u n).1).length : Int)) S (Yl U33) (ly (ni n) S Ym (ly (ni (2 * n)) S (y_mul (r := 2 * n) rfl rfl (w64 (by omega) (by omega))) (ly (ni (6 + (2 * n))) S (y_add (r := 6 + (2 * n)) rfl rfl (w64 (by omega) (by omega))) ?_)))); have h23 : (((BytesU u n).1).length : Int) = 6 + (2 * n) := hlen; refine ly (.bool false) S (y_neF rfl rfl h23) (ly (.bool false) S Ym (lg 31 (sc A7 b.length c8) S Ym (lg 31 (ni (b.length : Int)) S (Yl U33) ?_))); by_cases hm : (b.length : Int) = 0
  ·
   refine lg 31 (.bool true) S (y_eqT rfl rfl hm) (ly (.bool true) S Yf (ln (e_cT rfl (er (ly (sc A20 (((BytesU u n).1).length) c21) S Ym (ly (ni (((BytesU u n).1).length : Int)) S (Yl U33) (ly (ni n) S Ym (ly (ni (2 * n)) S (y_mul (r := 2 * n) rfl rfl (w64 (by omega) (by omega))) (ly (ni (6 + (2 * n))) S (y_add (r := 6 + (2 * n)) rfl rfl (w64 (by omega) (by omega))) ?_))))))))); have h24 : (((BytesU u n).1).length : Int) = 6 + (2 * n) := by omega
   refine ly (.bool true) S (y_eqT rfl rfl h24) (ly (.bool true) S Ya (ln (e_ret ?_))); refine ret1 (v := .bool true) rfl rfl ?_; exact ⟨rfl, S.below⟩
  refine lg 31 (.bool false) S (y_eqF rfl rfl hm) (ly (.bool false) S Yf (ln (e_cF rfl (e_skip (n_seq (er (l_bs0 S U33 SZ5 fun g25 w26 S => ly (sc A20 (((BytesU u n).1).length) c21) S Ym ?_))))))); have S := S.boxOwn (i := 1) rfl 1 0 0 rfl rfl (by simp [maxLen]); have O27 : RowR 1 ByteR rd14 [] [] := rfl; refine l_apS (i := 0) S K33 U33 GoodR.one rfl rfl rfl rfl h19 (by simp only [maxLen]; omega) (by first | omega | (dsimp only; omega)) fun v28 w29 us30 r31 S => ?_
  have O27 := RowR.append O27 r31; obtain ⟨A32, c33, m34e, m34, m34'⟩ : ∃ A c, v28 = .slice A (0 + (((BytesU u n).1).length)) c ∧ (0 + (((BytesU u n).1).length)) ≤ c ∧ c ≤ maxLen := own_len S (i := 0) rfl; subst m34e; refine ly (sc A7 b.length c8) S Ym ?_; refine l_apS (i := 0) S K33 U33 GoodR.one rfl rfl rfl rfl qb (by simp only [maxLen]; omega) (by first | omega | (dsimp only; omega)) fun v35 w36 us37 r38 S => ?_
  have O27 := RowR.append O27 r38; obtain ⟨A39, c40, m41e, m41, m41'⟩ : ∃ A c, v35 = .slice A ((0 + (((BytesU u n).1).length)) + b.length) c ∧ ((0 + (((BytesU u n).1).length)) + b.length) ≤ c ∧ c ≤ maxLen := own_len S (i := 0) rfl; subst m41e; obtain ⟨rd42, S, L43, F44⟩ := S.frzo' (i := 0) rfl rfl; replace h3 := fm h3 L43; replace qb := fm qb L43; replace h19 := fm h19 L43; replace O27 := rm O27 L43; have F45 : SliceR 1 ByteR rd42 (sc A39 ((0 + (((BytesU u n).1).length)) + b.length) c40) (([] ++ ((BytesU u n).1)) ++ b) := F44 (by dsimp only; simp only [List.length_append, List.length_nil]) O27; clear F44; refine l_c (en_f (vs := [sc A39 ((0 + (((BytesU u n).1).length)) + b.length) c40]) (CF 26 _) rfl rfl) (Parse_c _ _ S.le _ (([] ++ ((BytesU u n).1)) ++ b) F45) ?_; rintro e w46 ⟨v51, rfl, h52, k⟩; obtain ⟨rd47, S, L48, N49, X50⟩ := S.call' k; clear k; replace h3 := fm h3 L48; replace qb := fm qb L48; replace h19 := fm h19 L48; replace F45 := fm F45 L48; replace h52 := am h52 X50; obtain ⟨cs53, h52v, h52⟩ := h52; subst h52v; obtain ⟨sv54, h52e, h55⟩ := h52; subst h52e; obtain ⟨A56, c57, rfl, m58, m58'⟩ := h55.val; refine ckd (ly (.tuple #[.agg (kU ((ParseU (([] ++ ((BytesU u n).1)) ++ b)).1) A56 c57), ni ((ParseU (([] ++ ((BytesU u n).1)) ++ b)).2.1), ni ((ParseU (([] ++ ((BytesU u n).1)) ++ b)).2.2)]) S Ym (ly (.agg (kU ((ParseU (([] ++ ((BytesU u n).1)) ++ b)).1) A56 c57)) S Ye (ly (ni ((ParseU (([] ++ ((BytesU u n).1)) ++ b)).2.1)) S Ye (ly (ni ((ParseU (([] ++ ((BytesU u n).1)) ++ b)).2.2)) S Ye (ly (ni ((ParseU (([] ++ ((BytesU u n).1)) ++ b)).2.2)) S Ya (ln (er (ly (sc A20 (((BytesU u n).1).length) c21) S Ym (ly (sc A20 (((BytesU u n).1).length) c21) S Ym (ly (ni (((BytesU u n).1).length : Int)) S (Yl U33) (ly (ni ((((BytesU u n).1).length : Int) - 1)) S (y_sub (r := (((BytesU u n).1).length : Int) - 1) rfl rfl (w64 (by omega) (by omega))) ?_))))))))))); obtain ⟨A59, c60, F61, Y62⟩ := y_sl (lo := 0) (hi := ((BytesU u n).1.length - 1)) U33 SZ5 h19 (by omega) (by first | exact Nat.le_refl _ | omega); rw [List.drop_zero] at F61; refine ly (sc A59 (((BytesU u n).1.length - 1) - 0) c60) S (Y62 rfl (.inl ⟨rfl, rfl⟩) (.inr ⟨_, _, _, rfl, rfl, (by first | rfl | omega)⟩)) ?_; refine l_c (en_f (vs := [sc A59 (((BytesU u n).1.length - 1) - 0) c60]) (CF 26 _) rfl rfl) (Parse_c _ _ S.le _ (((BytesU u n).1).take ((BytesU u n).1.length - 1)) F61) ?_; rintro e w63 ⟨v68, rfl, h69, k⟩; obtain ⟨rd64, S, L65, N66, X67⟩ := S.call' k; clear k; replace h3 := fm h3 L65; replace qb := fm qb L65; replace h19 := fm h19 L65; replace F45 := fm F45 L65; replace h55 := fm h55 L65; replace F61 := fm F61 L65; replace h69 := am h69 X67; obtain ⟨cs70, h69v, h69⟩ := h69; subst h69v; obtain ⟨sv71, h69e, h72⟩ := h69; subst h69e; obtain ⟨A73, c74, rfl, m75, m75'⟩ := h72.val; refine ckd (ly (.tuple #[.agg (kU ((ParseU (((BytesU u n).1).take ((BytesU u n).1.length - 1))).1) A73 c74), ni ((ParseU (((BytesU u n).1).take ((BytesU u n).1.length - 1))).2.1), ni ((ParseU (((BytesU u n).1).take ((BytesU u n).1.length - 1))).2.2)]) S Ym (ly (.agg (kU ((ParseU (((BytesU u n).1).take ((BytesU u n).1.length - 1))).1) A73 c74)) S Ye (ly (ni ((ParseU (((BytesU u n).1).take ((BytesU u n).1.length - 1))).2.1)) S Ye (ly (ni ((ParseU (((BytesU u n).1).take ((BytesU u n).1.length - 1))).2.2)) S Ye (l_al (cs := zc32) S Z32 rfl fun g76 w77 S => l_st (u := .agg (kU ((ParseU (((BytesU u n).1).take ((BytesU u n).1.length - 1))).1) A73 c74)) (i := 1) (cs' := (kU ((ParseU (((BytesU u n).1).take ((BytesU u n).1.length - 1))).1) A73 c74)) S rfl rfl rfl SZ32 rfl rfl rfl fun w78 S => ly (ni ((ParseU (((BytesU u n).1).take ((BytesU u n).1.length - 1))).2.1)) S Ya (ly (ni ((ParseU (((BytesU u n).1).take ((BytesU u n).1.length - 1))).2.2)) S Ya (ln (er ?_)))))))); have eB1 : (BytesU u n).1 = bytesU u n := by rw [eB]
  have hmore : (ParseU ([] ++ (BytesU u n).1 ++ b)).2.2 = 2 := by rw [eB1, List.nil_append]; exact parse_more hb0 (fun q => hm (by rw [q]; rfl))
  have hless : (ParseU ((BytesU u n).1.take ((BytesU u n).1.length - 1))).2.2 = 2 := by rw [eB1]; exact parse_less hb0 (by rw [← eB1]; omega)
  skip
  refine ly (ni ((ParseU (([] ++ ((BytesU u n).1)) ++ b)).2.2)) S Ym ?_; have h79 : (ParseU (([] ++ ((BytesU u n).1)) ++ b)).2.2 = 2 := hmore; refine ly (.bool true) S (y_eqT rfl rfl h79) (ly (.bool true) S Ym (lg 64 (ni ((ParseU (((BytesU u n).1).take ((BytesU u n).1.length - 1))).2.2)) S Ym ?_)); have h80 : (ParseU (((BytesU u n).1).take ((BytesU u n).1.length - 1))).2.2 = 2 := hless; refine lg 64 (.bool true) S (y_eqT rfl rfl h80) (ly (.bool true) S Yt (ly (.bool true) S Ya (ln (e_ret ?_)))); refine ret1 (v := .bool true) rfl rfl ?_; exact ⟨rfl, S.below⟩
 refine ly (.bool true) S (y_neT rfl rfl hb) (ln (e_cT rfl (er ?_))); have eB : (BytesU u n).1 = [] := by unfold BytesU at hb ⊢; split; rfl; rename_i q; rw [if_neg q] at hb; exact absurd rfl hb
 refine ly (sc A20 (((BytesU u n).1).length) c21) S Ym (ly (ni (((BytesU u n).1).length : Int)) S (Yl U33) ?_); have h81 : (((BytesU u n).1).length : Int) = 0 := by rw [eB]; rfl
 refine ly (.bool true) S (y_eqT rfl rfl h81) (ly (.bool true) S Ya (ln (e_ret ?_))); refine ret1 (v := .bool true) rfl rfl ?_; exact ⟨rfl, S.below⟩
set_option maxRecDepth 100000 in
theorem UpdateSize_lifted (os : Os) (started : os.Started) (H : Type) (enc : TypeId × Value → H) :
    ReturnsInHanded {} Try.checked os 7 .any (Rows.updateSizeSpec.pre6 enc Try.prog Try.f7 Rows.updateSizeRow.domain false) (Rows.updateSizeSpec.post enc Try.prog Try.f7 false true false false) := by
  refine returnsInHanded_of_change_sized (C := Try.checked) own_ started (by kernel_rfl) Try.func7
    (ChangeSpec.witness6 (enc := enc) (C := Try.checked) false ⟨#[], #[.agg #[.int .i64 0, .slice none 0 0, .int .i64 0, .int .i64 0, .int .i64 0], .int .i64 0, .slice none 0 0], []⟩ 8 (by kernel_rfl) (by kernel_rfl) (by kernel_rfl) (by kernel_rfl)) ?_
  intro W base args ds gs before hval0 hW _ hsz0 _
  have hval : ∀ (j : Nat) t v, Try.f7.params[j]? = some t → args[j]? = some v → Value.okWide Try.prog W .any base t v := hval0
  have hsz : (DataW.weightsEach Try.prog (Try.f7.params.toList ++ Rows.updateSizeSpec.plain.varTypes Try.prog) (ds ++ gs)).all (· ≤ reachBytes) = true := hsz0
  have hW' := hW
  obtain ⟨p, q, hA0, hV, rfl, _, _⟩ := hW
  obtain ⟨rfl, rfl⟩ := trodVars_none hV
  have hA : DataW.TrodAll enc Try.prog W 0 (fun _ => true) true Try.f7.params.toList args.toList ds p := hA0
  rw [Try.params7] at hA hval hsz
  obtain ⟨v1, vs1, d1, ds1, p1, q1, e1, rfl, rfl, t1, r1⟩ := trodAll_cons hA
  obtain ⟨v2, vs2, d2, ds2, p2, q2, rfl, rfl, rfl, t2, r2⟩ := trodAll_cons r1
  obtain ⟨v3, vs3, d3, ds3, p3, q3, rfl, rfl, rfl, t3, r3⟩ := trodAll_cons r2
  obtain ⟨rfl, rfl, rfl⟩ := trodAll_nil r3
  obtain rfl : args = #[v1, v2, v3] := by cases args; simp_all
  obtain ⟨z1, hsz⟩ := weights_each hsz
  obtain ⟨z2, hsz⟩ := weights_each hsz
  obtain ⟨z3, hsz⟩ := weights_each hsz
  obtain ⟨a1, ha1, hb1⟩ := arg_agg Try.underlying32 op_upd (hval 0 _ v1 rfl rfl) t1 z1
  obtain ⟨n2, rfl, rfl, rfl, hw2⟩ := open_int Try.underlying3 (hval 1 _ v2 rfl rfl) t2
  obtain ⟨a3, ha3, hb3⟩ := arg_slice Try.underlying33 op_bytes (hval 2 _ v3 rfl rfl) t3 z3
  refine (UpdateSize_calls W v1 a1 ha1 hb1 n2 hw2 v3 a3 ha3 hb3).mono fun e W' ⟨he, hbl⟩ => ?_
  subst he
  exact ⟨_, rfl, close_law laidOut (by kernel_rfl) rfl (fun gs h => by subst h; rfl) rfl (tb := 4) Try.underlying4 hW' hbl⟩

theorem UpdateSize_holds : Rows.UpdateSizeSaid :=
  OpenClaim.holds_of_wide 7 Try.f7 rfl rfl rfl rfl rfl rfl rfl ⟨rfl, rfl, rfl, rfl, rfl⟩ rfl rfl rfl rfl rfl (by kernel_rfl) Try.func7 (by kernel_rfl)
    (of_decide_eq_true (by kernel_rfl)) (by unfold Func.isWrapper; first | (rw [if_pos (by decide +kernel)]; kernel_rfl) | (rw [if_neg (by decide +kernel)]; exact ⟨rfl, rfl⟩))
    (fun os started H enc _ => UpdateSize_lifted os started H enc)
#print axioms UpdateSize_holds
end Go.Proofs.Ytkjknlnhffmkkaa
