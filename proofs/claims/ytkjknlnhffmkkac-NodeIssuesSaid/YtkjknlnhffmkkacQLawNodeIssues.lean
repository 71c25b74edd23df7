/- NodeIssues: what is issued is there. For every input; no condition. -/
import Derived.Test.YtkjknlnhffmkkacQAlive6
import Derived.Test.YtkjknlnhffmkkacQCloseN
import Derived.Test.YtkjknlnhffmkkacQSameLog
import Derived.Test.YtkjknlnhffmkkacQSame
namespace Go.Proofs.Ytkjknlnhffmkkac
open Go.ChangeShapes Go.WideShapes Go.ChangeAt Go.RowKit
set_option linter.unusedVariables false
structure IssuesP (d : Node) (u : Upd) : Prop where
  at_ : (IssueN d u).1.log[d.log.length]? = some (upN d u)
  len : (IssueN d u).1.log.length = d.log.length + 1
  n : ((d.log.length : Nat) : Int) = (d.log.length : Int)
  a : (ApplyS d.state (upN d u)).2 = 0 ∧ (ApplyS d.state (upN d u)).1 = (IssueN d u).1.state
  t : (IssueN d u).1.log.take d.log.length = d.log
theorem issues_p {d : Node} {u : Upd} (h : (IssueN d u).2 = 0) : IssuesP d u := by
  have k := IssueN_ok h
  have e := k.e
  refine ⟨by rw [e]; simp, by rw [e]; simp, rfl, ?_, by rw [e]; simp⟩
  rw [ApplyS_of k.r.s k.s, e]
  exact ⟨rfl, rfl⟩
set_option maxRecDepth 100000 in
set_option maxHeartbeats 8000000 in
theorem NodeIssues_calls (W : World) (v1 : Value) (d : Node) (qa : AggR NodeR (wrd W) v1 d) (b1 : NodeBd d) (v2 : Value) (u : Upd) (qb : AggR UpdR (wrd W) v2 u) (b2 : UpdBd1 u) :
    Calls Try.prog 3 #[v1, v2] W (fun e w' => e = .returned (.bool true) ∧ Below W.heap.size W w') := by
 obtain ⟨vs1, qae, qa⟩ := qa; subst qae
 obtain ⟨sv2, sv4, sv6, sv8, sv10, sv12, qae, h3, h5, h7, h9, h11, h13⟩ := qa; subst qae
 obtain ⟨A14, c15, rfl, m16, m16'⟩ := h3.val
 obtain ⟨A17, c18, rfl, m19, m19'⟩ := h5.val
 obtain ⟨A20, c21, rfl, m22, m22'⟩ := h7.val
 obtain ⟨A23, c24, rfl, m25, m25'⟩ := h9.val
 obtain ⟨A26, c27, rfl, m28, m28'⟩ := h11.val
 obtain ⟨A29, c30, rfl, m31, m31'⟩ := h13.val
 obtain ⟨vs32, qbe, qb⟩ := qb; subst qbe
 obtain ⟨sv33, qbe, h34⟩ := qb; subst qbe
 obtain ⟨A35, c36, rfl, m37, m37'⟩ := h34.val
 have hmx : maxLen = 9223372036854775807 := rfl
 have S : St [] W (wrd W) (wrd W) [] [] W := St.start (Rd.le_refl _)
 refine e_enter (args := [.agg #[ni d.self, .slice A14 d.state.clock.length c15, .slice A17 d.state.lives.length c18, .slice A20 d.state.tallies.length c21, .slice A23 d.base.length c24, .slice A26 d.log.length c27, .slice A29 d.known.length c30], .agg #[ni u.author, .slice A35 u.seen.length c36, ni u.kind, ni u.key, ni u.item]]) 114 Try.func3 rfl rfl rfl ?_
 refine e_seq ?_
 refine e_reg ?_
 refine l_bx (u := .agg #[ni d.self, .slice A14 d.state.clock.length c15, .slice A17 d.state.lives.length c18, .slice A20 d.state.tallies.length c21, .slice A23 d.base.length c24, .slice A26 d.log.length c27, .slice A29 d.known.length c30]) (cs := #[ni d.self, .slice A14 d.state.clock.length c15, .slice A17 d.state.lives.length c18, .slice A20 d.state.tallies.length c21, .slice A23 d.base.length c24, .slice A26 d.log.length c27, .slice A29 d.known.length c30]) S rfl rfl fun g38 w39 S => ?_
 refine l_bx (u := .agg #[ni u.author, .slice A35 u.seen.length c36, ni u.kind, ni u.key, ni u.item]) (cs := #[ni u.author, .slice A35 u.seen.length c36, ni u.kind, ni u.key, ni u.item]) S rfl rfl fun g40 w41 S => ?_
 refine l_y (v := .bool false) S (y_as rfl) ?_
 refine l_nil ?_
 refine n_seq ?_
 refine e_seq ?_
 refine e_seq ?_
 refine e_reg ?_
 refine l_c (en_f (vs := []) (CF 5 _) rfl rfl) (alive6_c _ _ S.le) ?_
 rintro e w42 ⟨rfl, k⟩
 have S := S.callq k; clear k
 refine ckd ?_
 refine l_y (v := .bool false) S (y_not rfl rfl) ?_
 refine l_nil ?_
 refine n_seq ?_
 refine e_cF rfl ?_
 refine e_skip ?_
 refine n_seq ?_
 refine e_seq ?_
 refine e_reg ?_
 refine l_y (v := .agg #[ni d.self, .slice A14 d.state.clock.length c15, .slice A17 d.state.lives.length c18, .slice A20 d.state.tallies.length c21, .slice A23 d.base.length c24, .slice A26 d.log.length c27, .slice A29 d.known.length c30]) S (y_ld rfl (fun w S => ld_bA (vs := [ni d.self, .slice A14 d.state.clock.length c15, .slice A17 d.state.lives.length c18, .slice A20 d.state.tallies.length c21, .slice A23 d.base.length c24, .slice A26 d.log.length c27, .slice A29 d.known.length c30]) (i := 0) S rfl T31 rfl rfl)) ?_
 refine l_y (v := .agg #[ni u.author, .slice A35 u.seen.length c36, ni u.kind, ni u.key, ni u.item]) S (y_ld rfl (fun w S => ld_bA (vs := [ni u.author, .slice A35 u.seen.length c36, ni u.kind, ni u.key, ni u.item]) (i := 1) S rfl T33 rfl rfl)) ?_
 refine l_c (en_f (vs := [.agg #[ni d.self, .slice A14 d.state.clock.length c15, .slice A17 d.state.lives.length c18, .slice A20 d.state.tallies.length c21, .slice A23 d.base.length c24, .slice A26 d.log.length c27, .slice A29 d.known.length c30], .agg #[ni u.author, .slice A35 u.seen.length c36, ni u.kind, ni u.key, ni u.item]]) (CF 6 _) rfl rfl) (NIssue_c _ _ S.le _ _ d u _ (⟨_, rfl, ⟨_, _, _, _, _, _, rfl, h3, h5, h7, h9, h11, h13⟩⟩ : AggR NodeR (wrd W) _ d) (⟨_, rfl, ⟨_, rfl, h34⟩⟩ : AggR UpdR (wrd W) _ u)) ?_
 rintro e w43 ⟨v48, rfl, h49, k⟩
 obtain ⟨rd44, S, L45, N46, X47⟩ := S.call' k; clear k
 replace h3 := fm h3 L45
 replace h5 := fm h5 L45
 replace h7 := fm h7 L45
 replace h9 := fm h9 L45
 replace h11 := fm h11 L45
 replace h13 := fm h13 L45
 replace h34 := fm h34 L45
 replace h49 := am h49 X47
 obtain ⟨cs50, h49v, h49⟩ := h49; subst h49v
 obtain ⟨sv51, sv53, sv55, sv57, sv59, sv61, h49e, h52, h54, h56, h58, h60, h62⟩ := h49; subst h49e
 obtain ⟨A63, c64, rfl, m65, m65'⟩ := h52.val
 obtain ⟨A66, c67, rfl, m68, m68'⟩ := h54.val
 obtain ⟨A69, c70, rfl, m71, m71'⟩ := h56.val
 obtain ⟨A72, c73, rfl, m74, m74'⟩ := h58.val
 obtain ⟨A75, c76, rfl, m77, m77'⟩ := h60.val
 obtain ⟨A78, c79, rfl, m80, m80'⟩ := h62.val
 refine ckd ?_
 refine l_y (v := .tuple #[.agg #[ni ((IssueN d u).1.self), .slice A63 (((IssueN d u).1.state.clock).length) c64, .slice A66 (((IssueN d u).1.state.lives).length) c67, .slice A69 (((IssueN d u).1.state.tallies).length) c70, .slice A72 (((IssueN d u).1.base).length) c73, .slice A75 (((IssueN d u).1.log).length) c76, .slice A78 (((IssueN d u).1.known).length) c79], ni ((IssueN d u).2)]) S (y_mv rfl) ?_
 refine l_y (v := .agg #[ni ((IssueN d u).1.self), .slice A63 (((IssueN d u).1.state.clock).length) c64, .slice A66 (((IssueN d u).1.state.lives).length) c67, .slice A69 (((IssueN d u).1.state.tallies).length) c70, .slice A72 (((IssueN d u).1.base).length) c73, .slice A75 (((IssueN d u).1.log).length) c76, .slice A78 (((IssueN d u).1.known).length) c79]) S (y_ex rfl rfl) ?_
 refine l_y (v := ni ((IssueN d u).2)) S (y_ex rfl rfl) ?_
 refine l_al (cs := #[ni 0, .slice none 0 0, .slice none 0 0, .slice none 0 0, .slice none 0 0, .slice none 0 0, .slice none 0 0]) S Z31 rfl fun g81 w82 S => ?_
 refine l_st (u := .agg #[ni ((IssueN d u).1.self), .slice A63 (((IssueN d u).1.state.clock).length) c64, .slice A66 (((IssueN d u).1.state.lives).length) c67, .slice A69 (((IssueN d u).1.state.tallies).length) c70, .slice A72 (((IssueN d u).1.base).length) c73, .slice A75 (((IssueN d u).1.log).length) c76, .slice A78 (((IssueN d u).1.known).length) c79]) (i := 2) (cs' := #[ni ((IssueN d u).1.self), .slice A63 (((IssueN d u).1.state.clock).length) c64, .slice A66 (((IssueN d u).1.state.lives).length) c67, .slice A69 (((IssueN d u).1.state.tallies).length) c70, .slice A72 (((IssueN d u).1.base).length) c73, .slice A75 (((IssueN d u).1.log).length) c76, .slice A78 (((IssueN d u).1.known).length) c79]) S rfl rfl rfl SZ31 rfl rfl rfl fun w83 S => ?_
 refine l_y (v := ni ((IssueN d u).2)) S (y_as rfl) ?_
 refine l_nil ?_
 refine n_seq ?_
 refine e_seq ?_
 refine e_seq ?_
 refine e_reg ?_
 refine l_y (v := ni ((IssueN d u).2)) S (y_mv rfl) ?_
 by_cases hI : (IssueN d u).2 = 0
 ·
  refine l_y (v := .bool false) S (y_neF rfl rfl hI) ?_
  refine l_nil ?_
  refine n_seq ?_
  refine e_cF rfl ?_
  refine e_skip ?_
  refine n_seq ?_
  refine e_seq ?_
  refine e_reg ?_
  have k := issues_p hI
  refine l_y (v := pa g81 5) S (y_fb FA31_3 rfl rfl) ?_
  refine l_y (v := .slice A75 (((IssueN d u).1.log).length) c76) S (y_ld rfl (fun w S => ld_b1 (i := 2) S rfl rfl T28)) ?_
  refine l_y (v := ni (((IssueN d u).1.log).length : Int)) S (y_len U28 rfl rfl) ?_
  refine l_y (v := ni ((d.log.length : Nat) : Int)) S (y_sub (r := ((d.log.length : Nat) : Int)) rfl rfl ((w64 (by omega) (by omega)).trans (by have := k.len; omega))) ?_
  refine l_y (v := ni ((d.log.length : Nat) : Int)) S (y_as rfl) ?_
  refine l_nil ?_
  refine n_seq ?_
  refine e_seq ?_
  refine e_seq ?_
  refine e_q MX (by kernel_rfl) S.drew ?_
  refine q_y (v := ni ((d.log.length : Nat) : Int)) (y_mv rfl) ?_
  refine q_y (v := pa g38 5) (y_fb FA31_3 rfl rfl) ?_
  refine q_y (v := .slice A26 d.log.length c27) (y_ld rfl (fun w S => ld_b1 (i := 0) S rfl rfl T28)) ?_
  refine q_y (v := ni (d.log.length : Int)) (y_len U28 rfl rfl) ?_
  have h84 : ((d.log.length : Nat) : Int) = (d.log.length : Int) := k.n
  refine q_y (v := .bool false) (y_neF rfl rfl h84) ?_
  refine q_y (v := .bool false) (y_mv rfl) ?_
  refine q_g (d' := 29) (v := pa g81 5) (y_fb FA31_3 rfl rfl) rfl rfl ?_
  refine q_g (d' := 29) (v := .slice A75 (((IssueN d u).1.log).length) c76) (y_ld rfl (fun w S => ld_b1 (i := 2) S rfl rfl T28)) rfl rfl ?_
  refine q_g (d' := 29) (v := ni ((d.log.length : Nat) : Int)) (y_mv rfl) rfl rfl ?_
  obtain ⟨z85, hz86⟩ : ∃ z, ((IssueN d u).1.log)[d.log.length]? = some z := ⟨_, k.at_⟩
  have hz1 : z85 = upN d u := (Option.some.inj (k.at_.symm.trans hz86)).symm
  obtain ⟨p87, vs88, E89, nn90, r91, Y92⟩ := y_ia U28 SZ33 h60 hz86
  clear nn90
  obtain ⟨sv93, r91e, h94⟩ := r91; subst r91e
  obtain ⟨A95, c96, rfl, m97, m97'⟩ := h94.val
  refine q_g (d' := 29) (v := p87) (Y92 rfl rfl (by have := k.len; omega)) rfl rfl ?_
  obtain ⟨p98, Ep98, Yp98⟩ := y_fp (us := [ni z85.author, .slice A95 z85.seen.length c96, ni z85.kind, ni z85.key, ni z85.item]) FA33_0 E89 rfl
  refine q_g (d' := 29) (v := p98) (Yp98 rfl) rfl rfl ?_
  refine q_g (d' := 29) (v := ni z85.author) (y_ld rfl (fun w S => ld_p1 S.le Ep98 rfl T3)) rfl rfl ?_
  refine q_g (d' := 29) (v := pa g38 0) (y_fb FA31_0 rfl rfl) rfl rfl ?_
  refine q_g (d' := 29) (v := ni d.self) (y_ld rfl (fun w S => ld_b1 (i := 0) S rfl rfl T3)) rfl rfl ?_
  have h99 : z85.author = d.self := by rw [hz1] <;> rfl
  refine q_g (d' := 29) (v := .bool false) (y_neF rfl rfl h99) rfl rfl ?_
  refine q_y (v := .bool false) (y_pF rfl rfl) ?_
  refine q_y (v := .bool false) (y_mv rfl) ?_
  refine q_g (d' := 40) (v := pa g81 5) (y_fb FA31_3 rfl rfl) rfl rfl ?_
  refine q_g (d' := 40) (v := .slice A75 (((IssueN d u).1.log).length) c76) (y_ld rfl (fun w S => ld_b1 (i := 2) S rfl rfl T28)) rfl rfl ?_
  refine q_g (d' := 40) (v := ni ((d.log.length : Nat) : Int)) (y_mv rfl) rfl rfl ?_
  have hz1 : z85 = upN d u := (Option.some.inj (k.at_.symm.trans hz86)).symm
  obtain ⟨p102, vs103, E104, nn105, r106, Y107⟩ := y_ia U28 SZ33 h60 hz86
  clear nn105
  obtain ⟨sv108, r106e, h109⟩ := r106; subst r106e
  obtain ⟨A110, c111, rfl, m112, m112'⟩ := h109.val
  refine q_g (d' := 40) (v := p102) (Y107 rfl rfl (by have := k.len; omega)) rfl rfl ?_
  obtain ⟨p113, Ep113, Yp113⟩ := y_fp (us := [.slice A110 z85.seen.length c111, ni z85.kind, ni z85.key, ni z85.item]) FA33_1 E104 rfl
  refine q_g (d' := 40) (v := p113) (Yp113 rfl) rfl rfl ?_
  refine q_g (d' := 40) (v := .slice A110 z85.seen.length c111) (y_ld rfl (fun w S => ld_p1 S.le Ep113 rfl T23)) rfl rfl ?_
  refine q_g (d' := 40) (v := pa g38 1) (y_fb FA31_1 rfl rfl) rfl rfl ?_
  refine q_g (d' := 40) (v := pa g38 1) (y_fb FA27_0 rfl rfl) rfl rfl ?_
  refine q_g (d' := 40) (v := .slice A14 d.state.clock.length c15) (y_ld rfl (fun w S => ld_b1 (i := 0) S rfl rfl T23)) rfl rfl ?_
  have b114 : sameL z85.seen d.state.clock = true := by rw [hz1]; exact decide_eq_true rfl
  refine q_cg (d' := 40) (v := .bool true) (en_f (vs := [.slice A110 z85.seen.length c111, .slice A14 d.state.clock.length c15]) (CF 7 _) rfl rfl) rfl rfl (fun w S => (Same_calls _ _ _ _ _ (fm h109 S.le) (fm h3 S.le)).mono (by rintro e w' ⟨rfl, k⟩; exact ⟨rbool (by assumption), (S.callq k)⟩)) ?_
  refine q_g (d' := 40) (v := .bool false) (y_not rfl rfl) rfl rfl ?_
  refine q_y (v := .bool false) (y_pF rfl rfl) ?_
  refine q_y (v := .bool false) (y_mv rfl) ?_
  refine q_g (d' := 53) (v := pa g81 5) (y_fb FA31_3 rfl rfl) rfl rfl ?_
  refine q_g (d' := 53) (v := .slice A75 (((IssueN d u).1.log).length) c76) (y_ld rfl (fun w S => ld_b1 (i := 2) S rfl rfl T28)) rfl rfl ?_
  refine q_g (d' := 53) (v := ni ((d.log.length : Nat) : Int)) (y_mv rfl) rfl rfl ?_
  have hz1 : z85 = upN d u := (Option.some.inj (k.at_.symm.trans hz86)).symm
  obtain ⟨p117, vs118, E119, nn120, r121, Y122⟩ := y_ia U28 SZ33 h60 hz86
  clear nn120
  obtain ⟨sv123, r121e, h124⟩ := r121; subst r121e
  obtain ⟨A125, c126, rfl, m127, m127'⟩ := h124.val
  refine q_g (d' := 53) (v := p117) (Y122 rfl rfl (by have := k.len; omega)) rfl rfl ?_
  obtain ⟨p128, Ep128, Yp128⟩ := y_fp (us := [ni z85.kind, ni z85.key, ni z85.item]) FA33_2 E119 rfl
  refine q_g (d' := 53) (v := p128) (Yp128 rfl) rfl rfl ?_
  refine q_g (d' := 53) (v := ni z85.kind) (y_ld rfl (fun w S => ld_p1 S.le Ep128 rfl T3)) rfl rfl ?_
  refine q_g (d' := 53) (v := pa g40 2) (y_fb FA33_2 rfl rfl) rfl rfl ?_
  refine q_g (d' := 53) (v := ni u.kind) (y_ld rfl (fun w S => ld_b1 (i := 1) S rfl rfl T3)) rfl rfl ?_
  have h129 : z85.kind = u.kind := by rw [hz1] <;> rfl
  refine q_g (d' := 53) (v := .bool false) (y_neF rfl rfl h129) rfl rfl ?_
  refine q_y (v := .bool false) (y_pF rfl rfl) ?_
  refine q_y (v := .bool false) (y_mv rfl) ?_
  refine q_g (d' := 64) (v := pa g81 5) (y_fb FA31_3 rfl rfl) rfl rfl ?_
  refine q_g (d' := 64) (v := .slice A75 (((IssueN d u).1.log).length) c76) (y_ld rfl (fun w S => ld_b1 (i := 2) S rfl rfl T28)) rfl rfl ?_
  refine q_g (d' := 64) (v := ni ((d.log.length : Nat) : Int)) (y_mv rfl) rfl rfl ?_
  have hz1 : z85 = upN d u := (Option.some.inj (k.at_.symm.trans hz86)).symm
  obtain ⟨p132, vs133, E134, nn135, r136, Y137⟩ := y_ia U28 SZ33 h60 hz86
  clear nn135
  obtain ⟨sv138, r136e, h139⟩ := r136; subst r136e
  obtain ⟨A140, c141, rfl, m142, m142'⟩ := h139.val
  refine q_g (d' := 64) (v := p132) (Y137 rfl rfl (by have := k.len; omega)) rfl rfl ?_
  obtain ⟨p143, Ep143, Yp143⟩ := y_fp (us := [ni z85.key, ni z85.item]) FA33_3 E134 rfl
  refine q_g (d' := 64) (v := p143) (Yp143 rfl) rfl rfl ?_
  refine q_g (d' := 64) (v := ni z85.key) (y_ld rfl (fun w S => ld_p1 S.le Ep143 rfl T3)) rfl rfl ?_
  refine q_g (d' := 64) (v := pa g40 3) (y_fb FA33_3 rfl rfl) rfl rfl ?_
  refine q_g (d' := 64) (v := ni u.key) (y_ld rfl (fun w S => ld_b1 (i := 1) S rfl rfl T3)) rfl rfl ?_
  have h144 : z85.key = u.key := by rw [hz1] <;> rfl
  refine q_g (d' := 64) (v := .bool false) (y_neF rfl rfl h144) rfl rfl ?_
  refine q_y (v := .bool false) (y_pF rfl rfl) ?_
  refine q_y (v := .bool false) (y_mv rfl) ?_
  refine q_g (d' := 75) (v := pa g81 5) (y_fb FA31_3 rfl rfl) rfl rfl ?_
  refine q_g (d' := 75) (v := .slice A75 (((IssueN d u).1.log).length) c76) (y_ld rfl (fun w S => ld_b1 (i := 2) S rfl rfl T28)) rfl rfl ?_
  refine q_g (d' := 75) (v := ni ((d.log.length : Nat) : Int)) (y_mv rfl) rfl rfl ?_
  have hz1 : z85 = upN d u := (Option.some.inj (k.at_.symm.trans hz86)).symm
  obtain ⟨p147, vs148, E149, nn150, r151, Y152⟩ := y_ia U28 SZ33 h60 hz86
  clear nn150
  obtain ⟨sv153, r151e, h154⟩ := r151; subst r151e
  obtain ⟨A155, c156, rfl, m157, m157'⟩ := h154.val
  refine q_g (d' := 75) (v := p147) (Y152 rfl rfl (by have := k.len; omega)) rfl rfl ?_
  obtain ⟨p158, Ep158, Yp158⟩ := y_fp (us := [ni z85.item]) FA33_4 E149 rfl
  refine q_g (d' := 75) (v := p158) (Yp158 rfl) rfl rfl ?_
  refine q_g (d' := 75) (v := ni z85.item) (y_ld rfl (fun w S => ld_p1 S.le Ep158 rfl T3)) rfl rfl ?_
  refine q_g (d' := 75) (v := pa g40 4) (y_fb FA33_4 rfl rfl) rfl rfl ?_
  refine q_g (d' := 75) (v := ni u.item) (y_ld rfl (fun w S => ld_b1 (i := 1) S rfl rfl T3)) rfl rfl ?_
  have h159 : z85.item = u.item := by rw [hz1] <;> rfl
  refine q_g (d' := 75) (v := .bool false) (y_neF rfl rfl h159) rfl rfl ?_
  refine q_y (v := .bool false) (y_pF rfl rfl) ?_
  refine q_nil fun w160 S => ?_
  refine n_seq ?_
  refine e_cF rfl ?_
  refine e_skip ?_
  refine n_seq ?_
  refine e_cut (J := fun ov w => ∃ (g198 : Nat), ∃ (A189 : Option Addr), ∃ (c190 : Nat), ∃ (A192 : Option Addr), ∃ (c193 : Nat), ∃ (A195 : Option Addr), ∃ (c196 : Nat), ∃ rd' junk, ov = [(2, pa g38 0), (4, .bool false), (5, pa g81 0), (7, ni ((d.log.length : Nat) : Int)), (8, pa g198 0), (9, ni ((ApplyS d.state z85).2))] ++ junk ∧ St [] W (wrd W) rd' [(g38, 31, #[ni d.self, .slice A14 d.state.clock.length c15, .slice A17 d.state.lives.length c18, .slice A20 d.state.tallies.length c21, .slice A23 d.base.length c24, .slice A26 d.log.length c27, .slice A29 d.known.length c30]), (g40, 33, #[ni u.author, .slice A35 u.seen.length c36, ni u.kind, ni u.key, ni u.item]), (g81, 31, #[ni ((IssueN d u).1.self), .slice A63 (((IssueN d u).1.state.clock).length) c64, .slice A66 (((IssueN d u).1.state.lives).length) c67, .slice A69 (((IssueN d u).1.state.tallies).length) c70, .slice A72 (((IssueN d u).1.base).length) c73, .slice A75 (((IssueN d u).1.log).length) c76, .slice A78 (((IssueN d u).1.known).length) c79]), (g198, 27, #[.slice A189 (((ApplyS d.state z85).1.clock).length) c190, .slice A192 (((ApplyS d.state z85).1.lives).length) c193, .slice A195 (((ApplyS d.state z85).1.tallies).length) c196])] [] w ∧ Rd.le rd44 rd' ∧ SliceR 1 IntR rd' (.slice A189 (((ApplyS d.state z85).1.clock).length) c190) ((ApplyS d.state z85).1.clock) ∧ SliceR 5 LiveR rd' (.slice A192 (((ApplyS d.state z85).1.lives).length) c193) ((ApplyS d.state z85).1.lives) ∧ SliceR 3 TallyR rd' (.slice A195 (((ApplyS d.state z85).1.tallies).length) c196) ((ApplyS d.state z85).1.tallies)) ?_ ?_
  ·
   refine e_a (fun w => St [] W (wrd W) rd44 [(g38, 31, #[ni d.self, .slice A14 d.state.clock.length c15, .slice A17 d.state.lives.length c18, .slice A20 d.state.tallies.length c21, .slice A23 d.base.length c24, .slice A26 d.log.length c27, .slice A29 d.known.length c30]), (g40, 33, #[ni u.author, .slice A35 u.seen.length c36, ni u.kind, ni u.key, ni u.item]), (g81, 31, #[ni ((IssueN d u).1.self), .slice A63 (((IssueN d u).1.state.clock).length) c64, .slice A66 (((IssueN d u).1.state.lives).length) c67, .slice A69 (((IssueN d u).1.state.tallies).length) c70, .slice A72 (((IssueN d u).1.base).length) c73, .slice A75 (((IssueN d u).1.log).length) c76, .slice A78 (((IssueN d u).1.known).length) c79])] [] w) MX rfl ?_
   have S := S.drew; have sup161 := S.sup
   have SC := (S.tk 3 0 rfl rfl)
   refine a_tk (v := pa g38 1) 0 rfl rfl SC rfl (y_fb FA31_1 rfl rfl) ?_
   refine a_tk (v := .agg #[.slice A14 d.state.clock.length c15, .slice A17 d.state.lives.length c18, .slice A20 d.state.tallies.length c21]) 1 rfl rfl SC rfl (y_ld rfl (fun w S => ld_bA (vs := [.slice A14 d.state.clock.length c15, .slice A17 d.state.lives.length c18, .slice A20 d.state.tallies.length c21]) (i := 0) S rfl T27 rfl rfl)) ?_
   refine a_tk (v := pa g81 5) 2 rfl rfl SC rfl (y_fb FA31_3 rfl rfl) ?_
   refine a_tk (v := .slice A75 (((IssueN d u).1.log).length) c76) 3 rfl rfl SC rfl (y_ld rfl (fun w S => ld_b1 (i := 2) S rfl rfl T28)) ?_
   refine a_tk (v := ni ((d.log.length : Nat) : Int)) 4 rfl rfl SC rfl (y_mv rfl) ?_
   have hz1 : z85 = upN d u := (Option.some.inj (k.at_.symm.trans hz86)).symm
   obtain ⟨p164, vs165, E166, nn167, r168, Y169⟩ := y_ia U28 SZ33 h60 hz86
   clear nn167
   obtain ⟨sv170, r168e, h171⟩ := r168; subst r168e
   obtain ⟨A172, c173, rfl, m174, m174'⟩ := h171.val
   refine a_tk (v := p164) 5 rfl rfl SC rfl (Y169 rfl rfl (by have := k.len; omega)) ?_
   refine a_tk (v := .agg #[ni z85.author, .slice A172 z85.seen.length c173, ni z85.kind, ni z85.key, ni z85.item]) 6 rfl rfl SC rfl (y_ld rfl (fun w S => ld_pA (us := [ni z85.author, .slice A172 z85.seen.length c173, ni z85.kind, ni z85.key, ni z85.item]) S.le E166 T33 rfl rfl)) ?_
   refine a_all (rs := [7, 11]) (by kernel_rfl) rfl ?_
   refine aa_cons rfl ?_ ?_
   ·
    refine l_c (en_f (vs := [.agg #[.slice A14 d.state.clock.length c15, .slice A17 d.state.lives.length c18, .slice A20 d.state.tallies.length c21], .agg #[ni z85.author, .slice A172 z85.seen.length c173, ni z85.kind, ni z85.key, ni z85.item]]) (CF 8 _) rfl rfl) (SApply_c _ _ S.le _ _ d.state z85 (⟨_, rfl, ⟨_, _, _, rfl, h3, h5, h7⟩⟩ : AggR StateR rd44 _ d.state) (⟨_, rfl, ⟨_, rfl, h171⟩⟩ : AggR UpdR rd44 _ z85)) ?_
    rintro e w175 ⟨v180, rfl, h181, k⟩
    obtain ⟨rd176, S, L177, N178, X179⟩ := S.call' k; clear k
    replace h3 := fm h3 L177
    replace h5 := fm h5 L177
    replace h7 := fm h7 L177
    replace h9 := fm h9 L177
    replace h11 := fm h11 L177
    replace h13 := fm h13 L177
    replace h34 := fm h34 L177
    replace h52 := fm h52 L177
    replace h54 := fm h54 L177
    replace h56 := fm h56 L177
    replace h58 := fm h58 L177
    replace h60 := fm h60 L177
    replace h62 := fm h62 L177
    replace h94 := fm h94 L177
    replace E89 := PtrC.mono E89 L177
    replace Ep98 := PtrC.mono Ep98 L177
    replace h109 := fm h109 L177
    replace E104 := PtrC.mono E104 L177
    replace Ep113 := PtrC.mono Ep113 L177
    replace h124 := fm h124 L177
    replace E119 := PtrC.mono E119 L177
    replace Ep128 := PtrC.mono Ep128 L177
    replace h139 := fm h139 L177
    replace E134 := PtrC.mono E134 L177
    replace Ep143 := PtrC.mono Ep143 L177
    replace h154 := fm h154 L177
    replace E149 := PtrC.mono E149 L177
    replace Ep158 := PtrC.mono Ep158 L177
    replace h171 := fm h171 L177
    replace E166 := PtrC.mono E166 L177
    replace h181 := am h181 X179
    obtain ⟨cs182, h181v, h181⟩ := h181; subst h181v
    obtain ⟨sv183, sv185, sv187, h181e, h184, h186, h188⟩ := h181; subst h181e
    obtain ⟨A189, c190, rfl, m191, m191'⟩ := h184.val
    obtain ⟨A192, c193, rfl, m194, m194'⟩ := h186.val
    obtain ⟨A195, c196, rfl, m197, m197'⟩ := h188.val
    refine ckd ?_
    refine l_nil ?_
    have SC := ((S.tk 3 0 rfl rfl).weak sup161 L177)
    refine n_lp (ak SC ?_)
    refine a_tk (v := .tuple #[.agg #[.slice A189 (((ApplyS d.state z85).1.clock).length) c190, .slice A192 (((ApplyS d.state z85).1.lives).length) c193, .slice A195 (((ApplyS d.state z85).1.tallies).length) c196], ni ((ApplyS d.state z85).2)]) 8 rfl rfl SC rfl (y_mv rfl) ?_
    refine a_tk (v := .agg #[.slice A189 (((ApplyS d.state z85).1.clock).length) c190, .slice A192 (((ApplyS d.state z85).1.lives).length) c193, .slice A195 (((ApplyS d.state z85).1.tallies).length) c196]) 9 rfl rfl SC rfl (y_ex rfl rfl) ?_
    refine a_tk (v := ni ((ApplyS d.state z85).2)) 10 rfl rfl SC rfl (y_ex rfl rfl) ?_
    refine a_all (rs := [11]) (by kernel_rfl) rfl ?_
    refine aa_cons rfl ?_ ?_
    ·
     refine l_al (cs := #[.slice none 0 0, .slice none 0 0, .slice none 0 0]) S Z27 rfl fun g198 w199 S => ?_
     refine l_nil ?_
     have SC := ((S.tk 3 0 rfl rfl).weak sup161 L177)
     refine n_lp (ak SC ?_)
     refine a_all (rs := [12]) (by kernel_rfl) rfl ?_
     refine aa_cons rfl ?_ ?_
     ·
      refine l_st (u := .agg #[.slice A189 (((ApplyS d.state z85).1.clock).length) c190, .slice A192 (((ApplyS d.state z85).1.lives).length) c193, .slice A195 (((ApplyS d.state z85).1.tallies).length) c196]) (i := 3) (cs' := #[.slice A189 (((ApplyS d.state z85).1.clock).length) c190, .slice A192 (((ApplyS d.state z85).1.lives).length) c193, .slice A195 (((ApplyS d.state z85).1.tallies).length) c196]) S rfl rfl rfl SZ27 rfl rfl rfl fun w200 S => ?_
      refine l_nil ?_
      have SC := ((S.tk 3 0 rfl rfl).weak sup161 L177)
      refine n_lp (ak SC ?_)
      refine a_tk (v := ni ((ApplyS d.state z85).2)) 13 rfl rfl SC rfl (y_as rfl) ?_
      refine a_done (by kernel_rfl) ?_
      clear SC
      refine n_lp ⟨_, fr_keep (m := [(2, pa g38 0), (4, .bool false), (5, pa g81 0), (7, ni ((d.log.length : Nat) : Int)), (8, pa g198 0), (9, ni ((ApplyS d.state z85).2))]) ⟨⟨rfl, rfl⟩, ⟨rfl, rfl⟩, ⟨rfl, rfl⟩, ⟨rfl, rfl⟩, ⟨rfl, rfl⟩, ⟨rfl, rfl⟩, trivial⟩, g198, A189, c190, A192, c193, A195, c196, _, _, rfl, (S.tk 4 0 rfl rfl).rw' rfl rfl, (Rd.le_trans (Rd.le_refl rd44) L177), h184, h186, h188⟩
     exact aa_nil
    exact aa_nil
   refine aa_cons rfl ?_ ?_
   ·
    refine l_al (cs := #[.slice none 0 0, .slice none 0 0, .slice none 0 0]) S Z27 rfl fun g201 w202 S => ?_
    refine l_nil ?_
    have SC := (S.tk 3 0 rfl rfl)
    refine n_lp (ak SC ?_)
    refine a_all (rs := [7]) (by kernel_rfl) rfl ?_
    refine aa_cons rfl ?_ ?_
    ·
     refine l_c (en_f (vs := [.agg #[.slice A14 d.state.clock.length c15, .slice A17 d.state.lives.length c18, .slice A20 d.state.tallies.length c21], .agg #[ni z85.author, .slice A172 z85.seen.length c173, ni z85.kind, ni z85.key, ni z85.item]]) (CF 8 _) rfl rfl) (SApply_c _ _ S.le _ _ d.state z85 (⟨_, rfl, ⟨_, _, _, rfl, h3, h5, h7⟩⟩ : AggR StateR rd44 _ d.state) (⟨_, rfl, ⟨_, rfl, h171⟩⟩ : AggR UpdR rd44 _ z85)) ?_
     rintro e w203 ⟨v208, rfl, h209, k⟩
     obtain ⟨rd204, S, L205, N206, X207⟩ := S.call' k; clear k
     replace h3 := fm h3 L205
     replace h5 := fm h5 L205
     replace h7 := fm h7 L205
     replace h9 := fm h9 L205
     replace h11 := fm h11 L205
     replace h13 := fm h13 L205
     replace h34 := fm h34 L205
     replace h52 := fm h52 L205
     replace h54 := fm h54 L205
     replace h56 := fm h56 L205
     replace h58 := fm h58 L205
     replace h60 := fm h60 L205
     replace h62 := fm h62 L205
     replace h94 := fm h94 L205
     replace E89 := PtrC.mono E89 L205
     replace Ep98 := PtrC.mono Ep98 L205
     replace h109 := fm h109 L205
     replace E104 := PtrC.mono E104 L205
     replace Ep113 := PtrC.mono Ep113 L205
     replace h124 := fm h124 L205
     replace E119 := PtrC.mono E119 L205
     replace Ep128 := PtrC.mono Ep128 L205
     replace h139 := fm h139 L205
     replace E134 := PtrC.mono E134 L205
     replace Ep143 := PtrC.mono Ep143 L205
     replace h154 := fm h154 L205
     replace E149 := PtrC.mono E149 L205
     replace Ep158 := PtrC.mono Ep158 L205
     replace h171 := fm h171 L205
     replace E166 := PtrC.mono E166 L205
     replace h209 := am h209 X207
     obtain ⟨cs210, h209v, h209⟩ := h209; subst h209v
     obtain ⟨sv211, sv213, sv215, h209e, h212, h214, h216⟩ := h209; subst h209e
     obtain ⟨A217, c218, rfl, m219, m219'⟩ := h212.val
     obtain ⟨A220, c221, rfl, m222, m222'⟩ := h214.val
     obtain ⟨A223, c224, rfl, m225, m225'⟩ := h216.val
     refine ckd ?_
     refine l_nil ?_
     have SC := ((S.tk 3 0 rfl rfl).weak sup161 L205)
     refine n_lp (ak SC ?_)
     refine a_tk (v := .tuple #[.agg #[.slice A217 (((ApplyS d.state z85).1.clock).length) c218, .slice A220 (((ApplyS d.state z85).1.lives).length) c221, .slice A223 (((ApplyS d.state z85).1.tallies).length) c224], ni ((ApplyS d.state z85).2)]) 8 rfl rfl SC rfl (y_mv rfl) ?_
     refine a_tk (v := .agg #[.slice A217 (((ApplyS d.state z85).1.clock).length) c218, .slice A220 (((ApplyS d.state z85).1.lives).length) c221, .slice A223 (((ApplyS d.state z85).1.tallies).length) c224]) 9 rfl rfl SC rfl (y_ex rfl rfl) ?_
     refine a_tk (v := ni ((ApplyS d.state z85).2)) 10 rfl rfl SC rfl (y_ex rfl rfl) ?_
     refine a_all (rs := [12]) (by kernel_rfl) rfl ?_
     refine aa_cons rfl ?_ ?_
     ·
      refine l_st (u := .agg #[.slice A217 (((ApplyS d.state z85).1.clock).length) c218, .slice A220 (((ApplyS d.state z85).1.lives).length) c221, .slice A223 (((ApplyS d.state z85).1.tallies).length) c224]) (i := 3) (cs' := #[.slice A217 (((ApplyS d.state z85).1.clock).length) c218, .slice A220 (((ApplyS d.state z85).1.lives).length) c221, .slice A223 (((ApplyS d.state z85).1.tallies).length) c224]) S rfl rfl rfl SZ27 rfl rfl rfl fun w226 S => ?_
      refine l_nil ?_
      have SC := ((S.tk 3 0 rfl rfl).weak sup161 L205)
      refine n_lp (ak SC ?_)
      refine a_tk (v := ni ((ApplyS d.state z85).2)) 13 rfl rfl SC rfl (y_as rfl) ?_
      refine a_done (by kernel_rfl) ?_
      clear SC
      refine n_lp ⟨_, fr_keep (m := [(2, pa g38 0), (4, .bool false), (5, pa g81 0), (7, ni ((d.log.length : Nat) : Int)), (8, pa g201 0), (9, ni ((ApplyS d.state z85).2))]) ⟨⟨rfl, rfl⟩, ⟨rfl, rfl⟩, ⟨rfl, rfl⟩, ⟨rfl, rfl⟩, ⟨rfl, rfl⟩, ⟨rfl, rfl⟩, trivial⟩, g201, A217, c218, A220, c221, A223, c224, _, _, rfl, (S.tk 4 0 rfl rfl).rw' rfl rfl, (Rd.le_trans (Rd.le_refl rd44) L205), h212, h214, h216⟩
     exact aa_nil
    exact aa_nil
   exact aa_nil
  rintro ov230 w229 ⟨g198, A189, c190, A192, c193, A195, c196, rd227, junk, rfl, S, L228, h184, h186, h188⟩
  replace h3 := fm h3 L228
  replace h5 := fm h5 L228
  replace h7 := fm h7 L228
  replace h9 := fm h9 L228
  replace h11 := fm h11 L228
  replace h13 := fm h13 L228
  replace h34 := fm h34 L228
  replace h52 := fm h52 L228
  replace h54 := fm h54 L228
  replace h56 := fm h56 L228
  replace h58 := fm h58 L228
  replace h60 := fm h60 L228
  replace h62 := fm h62 L228
  refine e_seq ?_
  refine e_q MX (by kernel_rfl) S.drew ?_
  refine q_y (v := ni ((ApplyS d.state z85).2)) (y_mv rfl) ?_
  have h231 : (ApplyS d.state z85).2 = 0 := by rw [hz1]; exact k.a.1
  refine q_y (v := .bool true) (y_eqT rfl rfl h231) ?_
  refine q_y (v := .bool true) (y_mv rfl) ?_
  refine q_g (d' := 99) (v := .agg #[.slice A189 (((ApplyS d.state z85).1.clock).length) c190, .slice A192 (((ApplyS d.state z85).1.lives).length) c193, .slice A195 (((ApplyS d.state z85).1.tallies).length) c196]) (y_ld rfl (fun w S => ld_bA (vs := [.slice A189 (((ApplyS d.state z85).1.clock).length) c190, .slice A192 (((ApplyS d.state z85).1.lives).length) c193, .slice A195 (((ApplyS d.state z85).1.tallies).length) c196]) (i := 3) S rfl T27 rfl rfl)) rfl rfl ?_
  refine q_g (d' := 99) (v := pa g81 1) (y_fb FA31_1 rfl rfl) rfl rfl ?_
  refine q_g (d' := 99) (v := .agg #[.slice A63 (((IssueN d u).1.state.clock).length) c64, .slice A66 (((IssueN d u).1.state.lives).length) c67, .slice A69 (((IssueN d u).1.state.tallies).length) c70]) (y_ld rfl (fun w S => ld_bA (vs := [.slice A63 (((IssueN d u).1.state.clock).length) c64, .slice A66 (((IssueN d u).1.state.lives).length) c67, .slice A69 (((IssueN d u).1.state.tallies).length) c70]) (i := 2) S rfl T27 rfl rfl)) rfl rfl ?_
  have b232 : sameS ((ApplyS d.state z85).1) (⟨(IssueN d u).1.state.clock, (IssueN d u).1.state.lives, (IssueN d u).1.state.tallies⟩ : State) = true := decide_eq_true (by rw [hz1]; exact k.a.2)
  refine q_cg (d' := 99) (v := .bool true) (en_f (vs := [.agg #[.slice A189 (((ApplyS d.state z85).1.clock).length) c190, .slice A192 (((ApplyS d.state z85).1.lives).length) c193, .slice A195 (((ApplyS d.state z85).1.tallies).length) c196], .agg #[.slice A63 (((IssueN d u).1.state.clock).length) c64, .slice A66 (((IssueN d u).1.state.lives).length) c67, .slice A69 (((IssueN d u).1.state.tallies).length) c70]]) (CF 9 _) rfl rfl) rfl rfl (fun w S => (SSame_c _ _ S.le _ _ ((ApplyS d.state z85).1) (⟨(IssueN d u).1.state.clock, (IssueN d u).1.state.lives, (IssueN d u).1.state.tallies⟩ : State) (⟨_, rfl, ⟨_, _, _, rfl, h184, h186, h188⟩⟩ : AggR StateR rd227 _ ((ApplyS d.state z85).1)) (⟨_, rfl, ⟨_, _, _, rfl, h52, h54, h56⟩⟩ : AggR StateR rd227 _ (⟨(IssueN d u).1.state.clock, (IssueN d u).1.state.lives, (IssueN d u).1.state.tallies⟩ : State))).mono (by rintro e w' ⟨rfl, k⟩; exact ⟨rbool (by assumption), (S.callq k)⟩)) ?_
  refine q_y (v := .bool true) (y_pT rfl rfl) ?_
  refine q_y (v := .bool true) (y_mv rfl) ?_
  refine q_g (d' := 105) (v := pa g81 5) (y_fb FA31_3 rfl rfl) rfl rfl ?_
  refine q_g (d' := 105) (v := .slice A75 (((IssueN d u).1.log).length) c76) (y_ld rfl (fun w S => ld_b1 (i := 2) S rfl rfl T28)) rfl rfl ?_
  refine q_g (d' := 105) (v := ni ((d.log.length : Nat) : Int)) (y_mv rfl) rfl rfl ?_
  obtain ⟨A233, c234, F235, Y236⟩ := y_sl (lo := 0) (hi := d.log.length) U28 SZ33 h60 (by omega) (by have := k.len; omega)
  rw [List.drop_zero] at F235
  refine q_g (d' := 105) (v := .slice A233 (d.log.length - 0) c234) (Y236 rfl (.inl ⟨rfl, rfl⟩) (.inr ⟨_, _, _, rfl, rfl, (by first | rfl | omega)⟩)) rfl rfl ?_
  refine q_g (d' := 105) (v := pa g38 5) (y_fb FA31_3 rfl rfl) rfl rfl ?_
  refine q_g (d' := 105) (v := .slice A26 d.log.length c27) (y_ld rfl (fun w S => ld_b1 (i := 0) S rfl rfl T28)) rfl rfl ?_
  have b237 : sameLg (((IssueN d u).1.log).take d.log.length) d.log = true := decide_eq_true k.t
  refine q_cg (d' := 105) (v := .bool true) (en_f (vs := [.slice A233 (d.log.length - 0) c234, .slice A26 d.log.length c27]) (CF 10 _) rfl rfl) rfl rfl (fun w S => (SameLog_c _ _ S.le _ _ (((IssueN d u).1.log).take d.log.length) d.log F235 h11).mono (by rintro e w' ⟨rfl, k⟩; exact ⟨rbool (by assumption), (S.callq k)⟩)) ?_
  refine q_y (v := .bool true) (y_pT rfl rfl) ?_
  refine q_y (v := .bool true) (y_as rfl) ?_
  refine q_nil fun w238 S => ?_
  refine n_seq ?_
  refine e_ret ?_
  refine ret1 (v := .bool true) rfl rfl ?_
  exact ⟨rfl, S.below⟩
 refine l_y (v := .bool true) S (y_neT rfl rfl hI) ?_
 refine l_nil ?_
 refine n_seq ?_
 refine e_cT rfl ?_
 refine e_seq ?_
 refine e_reg ?_
 refine l_y (v := .bool true) S (y_as rfl) ?_
 refine l_nil ?_
 refine n_seq ?_
 refine e_ret ?_
 refine ret1 (v := .bool true) rfl rfl ?_
 exact ⟨rfl, S.below⟩
set_option maxRecDepth 100000 in
theorem NodeIssues_lifted (os : Os) (started : os.Started) (H : Type) (enc : TypeId × Value → H) :
    ReturnsInHanded {} Try.checked os 3 .any (Rows.nodeIssuesSpec.pre6 enc Try.prog Try.f3 Rows.nodeIssuesRow.domain false) (Rows.nodeIssuesSpec.post enc Try.prog Try.f3 false true false false) := by
  refine returnsInHanded_of_change_sized (C := Try.checked) own_ started (by kernel_rfl) Try.func3
    (ChangeSpec.witness6 (enc := enc) (C := Try.checked) false ⟨#[], #[.agg #[.int .i64 0, .slice none 0 0, .slice none 0 0, .slice none 0 0, .slice none 0 0, .slice none 0 0, .slice none 0 0], .agg #[.int .i64 0, .slice none 0 0, .int .i64 0, .int .i64 0, .int .i64 0]], []⟩ 8 (by kernel_rfl) (by kernel_rfl) (by kernel_rfl) (by kernel_rfl)) ?_
  intro W base args ds gs before hval0 hW _ hsz0 _
  have hval : ∀ (j : Nat) t v, Try.f3.params[j]? = some t → args[j]? = some v → Value.okWide Try.prog W .any base t v := hval0
  have hsz : (DataW.weightsEach Try.prog (Try.f3.params.toList ++ Rows.nodeIssuesSpec.plain.varTypes Try.prog) (ds ++ gs)).all (· ≤ reachBytes) = true := hsz0
  have hW' := hW
  obtain ⟨p, q, hA0, hV, rfl, _, _⟩ := hW
  obtain ⟨rfl, rfl⟩ := trodVars_none hV
  have hA : DataW.TrodAll enc Try.prog W 0 (fun _ => true) true Try.f3.params.toList args.toList ds p := hA0
  rw [Try.params3] at hA hval hsz
  obtain ⟨v1, vs1, d1, ds1, p1, q1, e1, rfl, rfl, t1, r1⟩ := trodAll_cons hA
  obtain ⟨v2, vs2, d2, ds2, p2, q2, rfl, rfl, rfl, t2, r2⟩ := trodAll_cons r1
  obtain ⟨rfl, rfl, rfl⟩ := trodAll_nil r2
  obtain rfl : args = #[v1, v2] := by cases args; simp_all
  obtain ⟨z1, hsz⟩ := weights_each hsz
  obtain ⟨z2, hsz⟩ := weights_each hsz
  obtain ⟨a1, ha1, hb1⟩ := arg_agg Try.underlying31 op_node (hval 0 _ v1 rfl rfl) t1 z1
  obtain ⟨a2, ha2, hb2⟩ := arg_agg Try.underlying33 op_upd (hval 1 _ v2 rfl rfl) t2 z2
  refine (NodeIssues_calls W v1 a1 ha1 hb1 v2 a2 ha2 hb2).mono fun e W' ⟨he, hbl⟩ => ?_
  subst he
  exact ⟨_, rfl, close_law laidOut (by kernel_rfl) rfl (fun gs h => by subst h; rfl) rfl (tb := 4) Try.underlying4 hW' hbl⟩

theorem NodeIssues_holds : Rows.NodeIssuesSaid :=
  OpenClaim.holds_of_wide 3 Try.f3 rfl rfl rfl rfl rfl rfl rfl ⟨rfl, rfl, rfl, rfl, rfl⟩ rfl rfl rfl rfl rfl (by kernel_rfl) Try.func3 (by kernel_rfl)
    (of_decide_eq_true (by kernel_rfl)) (by unfold Func.isWrapper; first | (rw [if_pos (by decide +kernel)]; kernel_rfl) | (rw [if_neg (by decide +kernel)]; exact ⟨rfl, rfl⟩))
    (fun os started H enc _ => NodeIssues_lifted os started H enc)
#print axioms NodeIssues_holds
end Go.Proofs.Ytkjknlnhffmkkac
