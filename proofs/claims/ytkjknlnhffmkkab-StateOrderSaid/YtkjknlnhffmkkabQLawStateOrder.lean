/- StateOrder: in whatever order they come. For every input; no condition. -/
import Derived.Test.YtkjknlnhffmkkabQAlive4
import Derived.Test.YtkjknlnhffmkkabQPl
import Derived.Test.YtkjknlnhffmkkabQSorted
import Derived.Test.YtkjknlnhffmkkabQClose4
namespace Go.Proofs.Ytkjknlnhffmkkab
open Go.ChangeShapes Go.WideShapes Go.ChangeAt Go.RowKit
set_option linter.unusedVariables false
set_option maxRecDepth 100000 in
set_option maxHeartbeats 8000000 in
theorem StateOrder_calls (W : World) (v1 : Value) (s : State) (qa : AggR StateR (wrd W) v1 s) (b1 : StateBd s) (v2 : Value) (l : List Upd) (qb : UpdsR (wrd W) v2 l) (b2 : UpdsBd l) :
    Calls Try.prog 8 #[v1, v2] W (fun e w' => e = .returned (.bool true) ∧ Below W.heap.size W w') := by
 obtain ⟨vs1, qae, qa⟩ := qa; subst qae
 obtain ⟨sv2, sv4, sv6, qae, h3, h5, h7⟩ := qa; subst qae
 obtain ⟨A8, c9, rfl, m10, m10'⟩ := h3.val
 obtain ⟨A11, c12, rfl, m13, m13'⟩ := h5.val
 obtain ⟨A14, c15, rfl, m16, m16'⟩ := h7.val
 obtain ⟨A17, c18, rfl, m19, m19'⟩ := qb.val
 have hmx : maxLen = 9223372036854775807 := rfl
 have S : St [] W (wrd W) (wrd W) [] [] W := St.start (Rd.le_refl _)
 refine e_enter (args := [.agg #[.slice A8 s.clock.length c9, .slice A11 s.lives.length c12, .slice A14 s.tallies.length c15], .slice A17 l.length c18]) 54 Try.func8 rfl rfl rfl ?_
 refine e_seq ?_
 refine e_reg ?_
 refine l_bx (u := .agg #[.slice A8 s.clock.length c9, .slice A11 s.lives.length c12, .slice A14 s.tallies.length c15]) (cs := #[.slice A8 s.clock.length c9, .slice A11 s.lives.length c12, .slice A14 s.tallies.length c15]) S rfl rfl fun g20 w21 S => ?_
 refine l_y (v := .bool false) S (y_as rfl) ?_
 refine l_nil ?_
 refine n_seq ?_
 refine e_seq ?_
 refine e_seq ?_
 refine e_reg ?_
 refine l_c (en_f (vs := []) (CF 13 _) rfl rfl) (alive4_c _ _ S.le) ?_
 rintro e w22 ⟨rfl, k⟩
 have S := S.callq k; clear k
 refine ckd ?_
 refine l_y (v := .bool false) S (y_not rfl rfl) ?_
 refine l_nil ?_
 refine n_seq ?_
 refine e_cF rfl ?_
 refine e_skip ?_
 refine n_seq ?_
 refine e_seq ?_
 refine e_reg ?_
 refine l_y (v := .agg #[.slice A8 s.clock.length c9, .slice A11 s.lives.length c12, .slice A14 s.tallies.length c15]) S (y_ld rfl (fun w S => ld_bA (vs := [.slice A8 s.clock.length c9, .slice A11 s.lives.length c12, .slice A14 s.tallies.length c15]) (i := 0) S rfl T27 rfl rfl)) ?_
 refine l_y (v := .slice A17 l.length c18) S (y_mv rfl) ?_
 refine l_c (en_f (vs := [.agg #[.slice A8 s.clock.length c9, .slice A11 s.lives.length c12, .slice A14 s.tallies.length c15], .slice A17 l.length c18]) (CF 14 _) rfl rfl) (SPlay_c _ _ S.le _ _ s l (⟨_, rfl, ⟨_, _, _, rfl, h3, h5, h7⟩⟩ : AggR StateR (wrd W) _ s) qb) ?_
 rintro e w23 ⟨v28, rfl, h29, k⟩
 obtain ⟨rd24, S, L25, N26, X27⟩ := S.call' k; clear k
 replace h3 := fm h3 L25
 replace h5 := fm h5 L25
 replace h7 := fm h7 L25
 replace qb := fm qb L25
 replace h29 := am h29 X27
 obtain ⟨cs30, h29v, h29⟩ := h29; subst h29v
 obtain ⟨sv31, sv33, sv35, h29e, h32, h34, h36⟩ := h29; subst h29e
 obtain ⟨A37, c38, rfl, m39, m39'⟩ := h32.val
 obtain ⟨A40, c41, rfl, m42, m42'⟩ := h34.val
 obtain ⟨A43, c44, rfl, m45, m45'⟩ := h36.val
 refine ckd ?_
 refine l_y (v := .tuple #[.agg #[.slice A37 (((PlayS s l).1.clock).length) c38, .slice A40 (((PlayS s l).1.lives).length) c41, .slice A43 (((PlayS s l).1.tallies).length) c44], .agg #[.int .i64 ((PlayS s l).2.1), .int .i64 ((PlayS s l).2.2)]]) S (y_mv rfl) ?_
 refine l_y (v := .agg #[.slice A37 (((PlayS s l).1.clock).length) c38, .slice A40 (((PlayS s l).1.lives).length) c41, .slice A43 (((PlayS s l).1.tallies).length) c44]) S (y_ex rfl rfl) ?_
 refine l_y (v := .agg #[.int .i64 ((PlayS s l).2.1), .int .i64 ((PlayS s l).2.2)]) S (y_ex rfl rfl) ?_
 refine l_al (cs := #[.slice none 0 0, .slice none 0 0, .slice none 0 0]) S Z27 rfl fun g46 w47 S => ?_
 refine l_al (cs := #[.int .i64 0, .int .i64 0]) S Z33 rfl fun g48 w49 S => ?_
 refine l_st (u := .agg #[.slice A37 (((PlayS s l).1.clock).length) c38, .slice A40 (((PlayS s l).1.lives).length) c41, .slice A43 (((PlayS s l).1.tallies).length) c44]) (i := 1) (cs' := #[.slice A37 (((PlayS s l).1.clock).length) c38, .slice A40 (((PlayS s l).1.lives).length) c41, .slice A43 (((PlayS s l).1.tallies).length) c44]) S rfl rfl rfl SZ27 rfl rfl rfl fun w50 S => ?_
 refine l_st (u := .agg #[.int .i64 ((PlayS s l).2.1), .int .i64 ((PlayS s l).2.2)]) (i := 2) (cs' := #[.int .i64 ((PlayS s l).2.1), .int .i64 ((PlayS s l).2.2)]) S rfl rfl rfl SZ33 rfl rfl rfl fun w51 S => ?_
 refine l_nil ?_
 refine n_seq ?_
 refine e_seq ?_
 refine e_seq ?_
 refine e_reg ?_
 refine l_y (v := .pointer (some ⟨g48, 0, none⟩)) S (y_fb FA33_0 rfl rfl) ?_
 refine l_y (v := .int .i64 ((PlayS s l).2.1)) S (y_ld rfl (fun w S => ld_b1 (i := 2) S rfl rfl T31)) ?_
 by_cases hP : (PlayS s l).2.1 = 0
 · -- hP yes
  refine l_y (v := .bool false) S (y_neF rfl rfl hP) ?_
  refine l_nil ?_
  refine n_seq ?_
  refine e_cF rfl ?_
  refine e_skip ?_
  refine n_seq ?_
  refine e_seq ?_
  refine e_reg ?_
  obtain ⟨q1, q2, q3⟩ := order_p hP
  refine l_y (v := .pointer (some ⟨g20, 0, none⟩)) S (y_fb FA27_0 rfl rfl) ?_
  refine l_y (v := .slice A8 s.clock.length c9) S (y_ld rfl (fun w S => ld_b1 (i := 0) S rfl rfl T23)) ?_
  refine l_y (v := .slice A17 l.length c18) S (y_mv rfl) ?_
  refine l_y (v := .pointer (some ⟨g20, 0, none⟩)) S (y_fb FA27_0 rfl rfl) ?_
  refine l_y (v := .slice A8 s.clock.length c9) S (y_ld rfl (fun w S => ld_b1 (i := 0) S rfl rfl T23)) ?_
  refine l_y (v := .int .i64 (s.clock.length : Int)) S (y_len U23 rfl rfl) ?_
  refine l_c (en_f (vs := [.slice A8 s.clock.length c9, .slice A17 l.length c18, .int .i64 (s.clock.length : Int)]) (CF 30 _) rfl rfl) (LSorted_c _ _ S.le _ _ s.clock l (s.clock.length : Int) h3 qb) ?_
  rintro e w52 ⟨v57, rfl, h58, k⟩
  obtain ⟨rd53, S, L54, N55, X56⟩ := S.call' k; clear k
  replace h3 := fm h3 L54
  replace h5 := fm h5 L54
  replace h7 := fm h7 L54
  replace qb := fm qb L54
  replace h32 := fm h32 L54
  replace h34 := fm h34 L54
  replace h36 := fm h36 L54
  replace h58 := fm h58 X56
  obtain ⟨A59, c60, rfl, m61, m61'⟩ := h58.val
  refine ckd ?_
  refine l_y (v := .tuple #[.slice A59 (((SortL s.clock l (s.clock.length : Int)).1).length) c60, .agg #[.int .i64 ((SortL s.clock l (s.clock.length : Int)).2.1), .int .i64 ((SortL s.clock l (s.clock.length : Int)).2.2)]]) S (y_mv rfl) ?_
  refine l_y (v := .slice A59 (((SortL s.clock l (s.clock.length : Int)).1).length) c60) S (y_ex rfl rfl) ?_
  refine l_y (v := .agg #[.int .i64 ((SortL s.clock l (s.clock.length : Int)).2.1), .int .i64 ((SortL s.clock l (s.clock.length : Int)).2.2)]) S (y_ex rfl rfl) ?_
  refine l_al (cs := #[.int .i64 0, .int .i64 0]) S Z33 rfl fun g62 w63 S => ?_
  refine l_y (v := .slice A59 (((SortL s.clock l (s.clock.length : Int)).1).length) c60) S (y_as rfl) ?_
  refine l_st (u := .agg #[.int .i64 ((SortL s.clock l (s.clock.length : Int)).2.1), .int .i64 ((SortL s.clock l (s.clock.length : Int)).2.2)]) (i := 3) (cs' := #[.int .i64 ((SortL s.clock l (s.clock.length : Int)).2.1), .int .i64 ((SortL s.clock l (s.clock.length : Int)).2.2)]) S rfl rfl rfl SZ33 rfl rfl rfl fun w64 S => ?_
  refine l_nil ?_
  refine n_seq ?_
  refine e_trim [(2, .pointer (some ⟨g20, 0, none⟩)), (4, .bool false), (5, .pointer (some ⟨g46, 0, none⟩)), (8, .pointer (some ⟨g62, 0, none⟩)), (7, .slice A59 (((SortL s.clock l (s.clock.length : Int)).1).length) c60)] ⟨⟨rfl, rfl⟩, ⟨rfl, rfl⟩, ⟨rfl, rfl⟩, ⟨rfl, rfl⟩, ⟨rfl, rfl⟩, trivial⟩ (fun junk => ?_)
  refine e_seq ?_
  refine e_reg ?_
  refine l_y (v := .agg #[.slice A8 s.clock.length c9, .slice A11 s.lives.length c12, .slice A14 s.tallies.length c15]) S (y_ld rfl (fun w S => ld_bA (vs := [.slice A8 s.clock.length c9, .slice A11 s.lives.length c12, .slice A14 s.tallies.length c15]) (i := 0) S rfl T27 rfl rfl)) ?_
  refine l_y (v := .slice A59 (((SortL s.clock l (s.clock.length : Int)).1).length) c60) S (y_mv rfl) ?_
  refine l_c (en_f (vs := [.agg #[.slice A8 s.clock.length c9, .slice A11 s.lives.length c12, .slice A14 s.tallies.length c15], .slice A59 (((SortL s.clock l (s.clock.length : Int)).1).length) c60]) (CF 14 _) rfl rfl) (SPlay_c _ _ S.le _ _ s ((SortL s.clock l (s.clock.length : Int)).1) (⟨_, rfl, ⟨_, _, _, rfl, h3, h5, h7⟩⟩ : AggR StateR rd53 _ s) h58) ?_
  rintro e w65 ⟨v70, rfl, h71, k⟩
  obtain ⟨rd66, S, L67, N68, X69⟩ := S.call' k; clear k
  replace h3 := fm h3 L67
  replace h5 := fm h5 L67
  replace h7 := fm h7 L67
  replace h32 := fm h32 L67
  replace h34 := fm h34 L67
  replace h36 := fm h36 L67
  replace h58 := fm h58 L67
  replace h71 := am h71 X69
  obtain ⟨cs72, h71v, h71⟩ := h71; subst h71v
  obtain ⟨sv73, sv75, sv77, h71e, h74, h76, h78⟩ := h71; subst h71e
  obtain ⟨A79, c80, rfl, m81, m81'⟩ := h74.val
  obtain ⟨A82, c83, rfl, m84, m84'⟩ := h76.val
  obtain ⟨A85, c86, rfl, m87, m87'⟩ := h78.val
  refine ckd ?_
  refine l_y (v := .tuple #[.agg #[.slice A79 (((PlayS s ((SortL s.clock l (s.clock.length : Int)).1)).1.clock).length) c80, .slice A82 (((PlayS s ((SortL s.clock l (s.clock.length : Int)).1)).1.lives).length) c83, .slice A85 (((PlayS s ((SortL s.clock l (s.clock.length : Int)).1)).1.tallies).length) c86], .agg #[.int .i64 ((PlayS s ((SortL s.clock l (s.clock.length : Int)).1)).2.1), .int .i64 ((PlayS s ((SortL s.clock l (s.clock.length : Int)).1)).2.2)]]) S (y_mv rfl) ?_
  refine l_y (v := .agg #[.slice A79 (((PlayS s ((SortL s.clock l (s.clock.length : Int)).1)).1.clock).length) c80, .slice A82 (((PlayS s ((SortL s.clock l (s.clock.length : Int)).1)).1.lives).length) c83, .slice A85 (((PlayS s ((SortL s.clock l (s.clock.length : Int)).1)).1.tallies).length) c86]) S (y_ex rfl rfl) ?_
  refine l_y (v := .agg #[.int .i64 ((PlayS s ((SortL s.clock l (s.clock.length : Int)).1)).2.1), .int .i64 ((PlayS s ((SortL s.clock l (s.clock.length : Int)).1)).2.2)]) S (y_ex rfl rfl) ?_
  refine l_al (cs := #[.slice none 0 0, .slice none 0 0, .slice none 0 0]) S Z27 rfl fun g88 w89 S => ?_
  refine l_al (cs := #[.int .i64 0, .int .i64 0]) S Z33 rfl fun g90 w91 S => ?_
  refine l_st (u := .agg #[.slice A79 (((PlayS s ((SortL s.clock l (s.clock.length : Int)).1)).1.clock).length) c80, .slice A82 (((PlayS s ((SortL s.clock l (s.clock.length : Int)).1)).1.lives).length) c83, .slice A85 (((PlayS s ((SortL s.clock l (s.clock.length : Int)).1)).1.tallies).length) c86]) (i := 4) (cs' := #[.slice A79 (((PlayS s ((SortL s.clock l (s.clock.length : Int)).1)).1.clock).length) c80, .slice A82 (((PlayS s ((SortL s.clock l (s.clock.length : Int)).1)).1.lives).length) c83, .slice A85 (((PlayS s ((SortL s.clock l (s.clock.length : Int)).1)).1.tallies).length) c86]) S rfl rfl rfl SZ27 rfl rfl rfl fun w92 S => ?_
  refine l_st (u := .agg #[.int .i64 ((PlayS s ((SortL s.clock l (s.clock.length : Int)).1)).2.1), .int .i64 ((PlayS s ((SortL s.clock l (s.clock.length : Int)).1)).2.2)]) (i := 5) (cs' := #[.int .i64 ((PlayS s ((SortL s.clock l (s.clock.length : Int)).1)).2.1), .int .i64 ((PlayS s ((SortL s.clock l (s.clock.length : Int)).1)).2.2)]) S rfl rfl rfl SZ33 rfl rfl rfl fun w93 S => ?_
  refine l_nil ?_
  refine n_seq ?_
  refine e_seq ?_
  refine e_reg ?_
  refine l_y (v := .pointer (some ⟨g62, 0, none⟩)) S (y_fb FA33_0 rfl rfl) ?_
  refine l_y (v := .int .i64 ((SortL s.clock l (s.clock.length : Int)).2.1)) S (y_ld rfl (fun w S => ld_b1 (i := 3) S rfl rfl T31)) ?_
  have h94 : (SortL s.clock l (s.clock.length : Int)).2.1 = 0 := q1
  refine l_y (v := .bool true) S (y_eqT rfl rfl h94) ?_
  refine l_y (v := .bool true) S (y_mv rfl) ?_
  refine l_g (d' := 44) (v := .pointer (some ⟨g90, 0, none⟩)) S (y_fb FA33_0 rfl rfl) rfl rfl ?_
  refine l_g (d' := 44) (v := .int .i64 ((PlayS s ((SortL s.clock l (s.clock.length : Int)).1)).2.1)) S (y_ld rfl (fun w S => ld_b1 (i := 5) S rfl rfl T31)) rfl rfl ?_
  have h95 : (PlayS s ((SortL s.clock l (s.clock.length : Int)).1)).2.1 = 0 := q2
  refine l_g (d' := 44) (v := .bool true) S (y_eqT rfl rfl h95) rfl rfl ?_
  refine l_y (v := .bool true) S (y_pT rfl rfl) ?_
  refine l_y (v := .bool true) S (y_mv rfl) ?_
  refine l_g (d' := 49) (v := .agg #[.slice A37 (((PlayS s l).1.clock).length) c38, .slice A40 (((PlayS s l).1.lives).length) c41, .slice A43 (((PlayS s l).1.tallies).length) c44]) S (y_ld rfl (fun w S => ld_bA (vs := [.slice A37 (((PlayS s l).1.clock).length) c38, .slice A40 (((PlayS s l).1.lives).length) c41, .slice A43 (((PlayS s l).1.tallies).length) c44]) (i := 1) S rfl T27 rfl rfl)) rfl rfl ?_
  refine l_g (d' := 49) (v := .agg #[.slice A79 (((PlayS s ((SortL s.clock l (s.clock.length : Int)).1)).1.clock).length) c80, .slice A82 (((PlayS s ((SortL s.clock l (s.clock.length : Int)).1)).1.lives).length) c83, .slice A85 (((PlayS s ((SortL s.clock l (s.clock.length : Int)).1)).1.tallies).length) c86]) S (y_ld rfl (fun w S => ld_bA (vs := [.slice A79 (((PlayS s ((SortL s.clock l (s.clock.length : Int)).1)).1.clock).length) c80, .slice A82 (((PlayS s ((SortL s.clock l (s.clock.length : Int)).1)).1.lives).length) c83, .slice A85 (((PlayS s ((SortL s.clock l (s.clock.length : Int)).1)).1.tallies).length) c86]) (i := 4) S rfl T27 rfl rfl)) rfl rfl ?_
  refine l_cg (d' := 49) (en_f (vs := [.agg #[.slice A37 (((PlayS s l).1.clock).length) c38, .slice A40 (((PlayS s l).1.lives).length) c41, .slice A43 (((PlayS s l).1.tallies).length) c44], .agg #[.slice A79 (((PlayS s ((SortL s.clock l (s.clock.length : Int)).1)).1.clock).length) c80, .slice A82 (((PlayS s ((SortL s.clock l (s.clock.length : Int)).1)).1.lives).length) c83, .slice A85 (((PlayS s ((SortL s.clock l (s.clock.length : Int)).1)).1.tallies).length) c86]]) (CF 15 _) rfl rfl) rfl rfl (SSame_c _ _ S.le _ _ ((PlayS s l).1) ((PlayS s ((SortL s.clock l (s.clock.length : Int)).1)).1) (⟨_, rfl, ⟨_, _, _, rfl, h32, h34, h36⟩⟩ : AggR StateR rd66 _ ((PlayS s l).1)) (⟨_, rfl, ⟨_, _, _, rfl, h74, h76, h78⟩⟩ : AggR StateR rd66 _ ((PlayS s ((SortL s.clock l (s.clock.length : Int)).1)).1))) ?_
  rintro e w96 ⟨rfl, k⟩
  have S := S.callq k; clear k
  have b97 : sameS ((PlayS s l).1) ((PlayS s ((SortL s.clock l (s.clock.length : Int)).1)).1) = true := decide_eq_true q3
  rw [b97]
  refine ckd ?_
  refine l_y (v := .bool true) S (y_pT rfl rfl) ?_
  refine l_y (v := .bool true) S (y_as rfl) ?_
  refine l_nil ?_
  refine n_seq ?_
  refine e_ret ?_
  refine ret1 (v := .bool true) rfl rfl ?_
  exact ⟨rfl, S.below⟩
 · -- hP no
  refine l_y (v := .bool true) S (y_neT rfl rfl hP) ?_
  refine l_nil ?_
  refine n_seq ?_
  refine e_cT rfl ?_
  refine e_seq ?_
  refine e_reg ?_
  refine l_y (v := .agg #[.slice A37 (((PlayS s l).1.clock).length) c38, .slice A40 (((PlayS s l).1.lives).length) c41, .slice A43 (((PlayS s l).1.tallies).length) c44]) S (y_ld rfl (fun w S => ld_bA (vs := [.slice A37 (((PlayS s l).1.clock).length) c38, .slice A40 (((PlayS s l).1.lives).length) c41, .slice A43 (((PlayS s l).1.tallies).length) c44]) (i := 1) S rfl T27 rfl rfl)) ?_
  refine l_y (v := .agg #[.slice none 0 0, .slice none 0 0, .slice none 0 0]) S (y_bd (ps := []) rfl (fun _ => by kernel_rfl)) ?_
  refine l_c (en_f (vs := [.agg #[.slice A37 (((PlayS s l).1.clock).length) c38, .slice A40 (((PlayS s l).1.lives).length) c41, .slice A43 (((PlayS s l).1.tallies).length) c44], .agg #[.slice none 0 0, .slice none 0 0, .slice none 0 0]]) (CF 15 _) rfl rfl) (SSame_c _ _ S.le _ _ ((PlayS s l).1) (⟨[], [], []⟩ : State) (⟨_, rfl, ⟨_, _, _, rfl, h32, h34, h36⟩⟩ : AggR StateR rd24 _ ((PlayS s l).1)) (⟨_, rfl, ⟨_, _, _, rfl, (SliceR.nil_ _), (SliceR.nil_ _), (SliceR.nil_ _)⟩⟩ : AggR StateR rd24 _ (⟨[], [], []⟩ : State))) ?_
  rintro e w98 ⟨rfl, k⟩
  have S := S.callq k; clear k
  have b99 : sameS ((PlayS s l).1) (⟨[], [], []⟩ : State) = true := by rw [PlayS_err hP]; simp [sameS]
  rw [b99]
  refine ckd ?_
  refine l_y (v := .bool true) S (y_as rfl) ?_
  refine l_nil ?_
  refine n_seq ?_
  refine e_ret ?_
  refine ret1 (v := .bool true) rfl rfl ?_
  exact ⟨rfl, S.below⟩
set_option maxRecDepth 100000 in
theorem StateOrder_lifted (os : Os) (started : os.Started) (H : Type) (enc : TypeId × Value → H) :
    ReturnsInHanded {} Try.checked os 8 .any (Rows.stateOrderSpec.pre6 enc Try.prog Try.f8 Rows.stateOrderRow.domain false) (Rows.stateOrderSpec.post enc Try.prog Try.f8 false true false false) := by
  refine returnsInHanded_of_change_sized (C := Try.checked) own_ started (by kernel_rfl) Try.func8
    (ChangeSpec.witness6 (enc := enc) (C := Try.checked) false ⟨#[], #[.agg #[.slice none 0 0, .slice none 0 0, .slice none 0 0], .slice none 0 0], []⟩ 8 (by kernel_rfl) (by kernel_rfl) (by kernel_rfl) (by kernel_rfl)) ?_
  intro W base args ds gs before hval0 hW _ hsz0 _
  have hval : ∀ (j : Nat) t v, Try.f8.params[j]? = some t → args[j]? = some v → Value.okWide Try.prog W .any base t v := hval0
  have hsz : (DataW.weightsEach Try.prog (Try.f8.params.toList ++ Rows.stateOrderSpec.plain.varTypes Try.prog) (ds ++ gs)).all (· ≤ reachBytes) = true := hsz0
  have hW' := hW
  obtain ⟨p, q, hA0, hV, rfl, _, _⟩ := hW
  obtain ⟨rfl, rfl⟩ := trodVars_none hV
  have hA : DataW.TrodAll enc Try.prog W 0 (fun _ => true) true Try.f8.params.toList args.toList ds p := hA0
  rw [Try.params8] at hA hval hsz
  obtain ⟨v1, vs1, d1, ds1, p1, q1, e1, rfl, rfl, t1, r1⟩ := trodAll_cons hA
  obtain ⟨v2, vs2, d2, ds2, p2, q2, rfl, rfl, rfl, t2, r2⟩ := trodAll_cons r1
  obtain ⟨rfl, rfl, rfl⟩ := trodAll_nil r2
  obtain rfl : args = #[v1, v2] := by cases args; simp_all
  obtain ⟨z1, hsz⟩ := weights_each hsz
  obtain ⟨z2, hsz⟩ := weights_each hsz
  obtain ⟨a1, ha1, hb1⟩ := arg_agg Try.underlying27 op_state (hval 0 _ v1 rfl rfl) t1 z1
  obtain ⟨a2, ha2, hb2⟩ := arg_slice Try.underlying36 op_upds (hval 1 _ v2 rfl rfl) t2 z2
  refine (StateOrder_calls W v1 a1 ha1 hb1 v2 a2 ha2 hb2).mono fun e W' ⟨he, hbl⟩ => ?_
  subst he
  exact ⟨_, rfl, close_law laidOut (by kernel_rfl) rfl (fun gs h => by subst h; rfl) rfl (tb := 4) Try.underlying4 hW' hbl⟩

theorem StateOrder_holds : Rows.StateOrderSaid :=
  OpenClaim.holds_of_wide 8 Try.f8 rfl rfl rfl rfl rfl rfl rfl ⟨rfl, rfl, rfl, rfl, rfl⟩ rfl rfl rfl rfl rfl (by kernel_rfl) Try.func8 (by kernel_rfl)
    (of_decide_eq_true (by kernel_rfl)) (by unfold Func.isWrapper; first | (rw [if_pos (by decide +kernel)]; kernel_rfl) | (rw [if_neg (by decide +kernel)]; exact ⟨rfl, rfl⟩))
    (fun os started H enc _ => StateOrder_lifted os started H enc)
#print axioms StateOrder_holds
end Go.Proofs.Ytkjknlnhffmkkab
