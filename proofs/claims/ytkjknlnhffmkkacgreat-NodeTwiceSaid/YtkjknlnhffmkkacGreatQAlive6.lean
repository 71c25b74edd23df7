/- prunelaw6.alive answers true. -/
import Derived.Test.YtkjknlnhffmkkacGreatQNodeI
import Derived.Test.YtkjknlnhffmkkacGreatQNodeK
import Derived.Test.YtkjknlnhffmkkacGreatQNodeS
import Derived.Test.YtkjknlnhffmkkacGreatQSame
namespace Go.Proofs.YtkjknlnhffmkkacGreat
open Go.RowKit
set_option linter.unusedVariables false
set_option maxRecDepth 100000 in
set_option maxHeartbeats 8000000 in
theorem alive6_c (rd : Rd) (W : World) (hle : Rd.le rd (wrd W))  :
    Calls Tryz.prog 13 #[] W (fun e w' => e = .returned (.bool true) ∧ Below W.heap.size W w') := by
 have hmx : maxLen = 9223372036854775807 := rfl
 have S : St [] W rd rd [] [] W := St.start hle
 refine e_enter (args := []) 66 Tryz.func13 rfl rfl rfl ?_
 refine e_seq ?_
 refine e_reg ?_
 refine l_y (v := .bool false) S (y_as rfl) ?_
 refine l_nil ?_
 refine n_seq ?_
 refine e_seq ?_
 refine e_reg ?_
 refine l_c (en_f (vs := [ni 0, ni 2]) (CF 17 _) rfl rfl) (NStart_c _ _ S.le 0 2) ?_
 rintro e w1 ⟨v6, rfl, h7, k⟩
 obtain ⟨rd2, S, L3, N4, X5⟩ := S.call' k; clear k
 replace h7 := am h7 X5
 obtain ⟨cs8, h7v, h7⟩ := h7; subst h7v
 obtain ⟨sv9, sv11, sv13, sv15, sv17, sv19, h7e, h10, h12, h14, h16, h18, h20⟩ := h7; subst h7e
 obtain ⟨A21, c22, rfl, m23, m23'⟩ := h10.val
 obtain ⟨A24, c25, rfl, m26, m26'⟩ := h12.val
 obtain ⟨A27, c28, rfl, m29, m29'⟩ := h14.val
 obtain ⟨A30, c31, rfl, m32, m32'⟩ := h16.val
 obtain ⟨A33, c34, rfl, m35, m35'⟩ := h18.val
 obtain ⟨A36, c37, rfl, m38, m38'⟩ := h20.val
 refine ckd ?_
 refine l_y (v := .tuple #[.agg #[ni ((StartN 0 2).1.self), .slice A21 (((StartN 0 2).1.state.clock).length) c22, .slice A24 (((StartN 0 2).1.state.lives).length) c25, .slice A27 (((StartN 0 2).1.state.tallies).length) c28, .slice A30 (((StartN 0 2).1.base).length) c31, .slice A33 (((StartN 0 2).1.log).length) c34, .slice A36 (((StartN 0 2).1.known).length) c37], ni ((StartN 0 2).2)]) S (y_mv rfl) ?_
 refine l_y (v := .agg #[ni ((StartN 0 2).1.self), .slice A21 (((StartN 0 2).1.state.clock).length) c22, .slice A24 (((StartN 0 2).1.state.lives).length) c25, .slice A27 (((StartN 0 2).1.state.tallies).length) c28, .slice A30 (((StartN 0 2).1.base).length) c31, .slice A33 (((StartN 0 2).1.log).length) c34, .slice A36 (((StartN 0 2).1.known).length) c37]) S (y_ex rfl rfl) ?_
 refine l_y (v := ni ((StartN 0 2).2)) S (y_ex rfl rfl) ?_
 refine l_al (cs := #[ni 0, .slice none 0 0, .slice none 0 0, .slice none 0 0, .slice none 0 0, .slice none 0 0, .slice none 0 0]) S Z31 rfl fun g39 w40 S => ?_
 refine l_st (u := .agg #[ni ((StartN 0 2).1.self), .slice A21 (((StartN 0 2).1.state.clock).length) c22, .slice A24 (((StartN 0 2).1.state.lives).length) c25, .slice A27 (((StartN 0 2).1.state.tallies).length) c28, .slice A30 (((StartN 0 2).1.base).length) c31, .slice A33 (((StartN 0 2).1.log).length) c34, .slice A36 (((StartN 0 2).1.known).length) c37]) (i := 0) (cs' := #[ni ((StartN 0 2).1.self), .slice A21 (((StartN 0 2).1.state.clock).length) c22, .slice A24 (((StartN 0 2).1.state.lives).length) c25, .slice A27 (((StartN 0 2).1.state.tallies).length) c28, .slice A30 (((StartN 0 2).1.base).length) c31, .slice A33 (((StartN 0 2).1.log).length) c34, .slice A36 (((StartN 0 2).1.known).length) c37]) S rfl rfl rfl SZ31 rfl rfl rfl fun w41 S => ?_
 refine l_y (v := ni ((StartN 0 2).2)) S (y_as rfl) ?_
 refine l_nil ?_
 refine n_seq ?_
 refine e_seq ?_
 refine e_reg ?_
 refine l_c (en_f (vs := [ni 1, ni 2]) (CF 17 _) rfl rfl) (NStart_c _ _ S.le 1 2) ?_
 rintro e w42 ⟨v47, rfl, h48, k⟩
 obtain ⟨rd43, S, L44, N45, X46⟩ := S.call' k; clear k
 replace h10 := fm h10 L44
 replace h12 := fm h12 L44
 replace h14 := fm h14 L44
 replace h16 := fm h16 L44
 replace h18 := fm h18 L44
 replace h20 := fm h20 L44
 replace h48 := am h48 X46
 obtain ⟨cs49, h48v, h48⟩ := h48; subst h48v
 obtain ⟨sv50, sv52, sv54, sv56, sv58, sv60, h48e, h51, h53, h55, h57, h59, h61⟩ := h48; subst h48e
 obtain ⟨A62, c63, rfl, m64, m64'⟩ := h51.val
 obtain ⟨A65, c66, rfl, m67, m67'⟩ := h53.val
 obtain ⟨A68, c69, rfl, m70, m70'⟩ := h55.val
 obtain ⟨A71, c72, rfl, m73, m73'⟩ := h57.val
 obtain ⟨A74, c75, rfl, m76, m76'⟩ := h59.val
 obtain ⟨A77, c78, rfl, m79, m79'⟩ := h61.val
 refine ckd ?_
 refine l_y (v := .tuple #[.agg #[ni ((StartN 1 2).1.self), .slice A62 (((StartN 1 2).1.state.clock).length) c63, .slice A65 (((StartN 1 2).1.state.lives).length) c66, .slice A68 (((StartN 1 2).1.state.tallies).length) c69, .slice A71 (((StartN 1 2).1.base).length) c72, .slice A74 (((StartN 1 2).1.log).length) c75, .slice A77 (((StartN 1 2).1.known).length) c78], ni ((StartN 1 2).2)]) S (y_mv rfl) ?_
 refine l_y (v := .agg #[ni ((StartN 1 2).1.self), .slice A62 (((StartN 1 2).1.state.clock).length) c63, .slice A65 (((StartN 1 2).1.state.lives).length) c66, .slice A68 (((StartN 1 2).1.state.tallies).length) c69, .slice A71 (((StartN 1 2).1.base).length) c72, .slice A74 (((StartN 1 2).1.log).length) c75, .slice A77 (((StartN 1 2).1.known).length) c78]) S (y_ex rfl rfl) ?_
 refine l_y (v := ni ((StartN 1 2).2)) S (y_ex rfl rfl) ?_
 refine l_al (cs := #[ni 0, .slice none 0 0, .slice none 0 0, .slice none 0 0, .slice none 0 0, .slice none 0 0, .slice none 0 0]) S Z31 rfl fun g80 w81 S => ?_
 refine l_st (u := .agg #[ni ((StartN 1 2).1.self), .slice A62 (((StartN 1 2).1.state.clock).length) c63, .slice A65 (((StartN 1 2).1.state.lives).length) c66, .slice A68 (((StartN 1 2).1.state.tallies).length) c69, .slice A71 (((StartN 1 2).1.base).length) c72, .slice A74 (((StartN 1 2).1.log).length) c75, .slice A77 (((StartN 1 2).1.known).length) c78]) (i := 1) (cs' := #[ni ((StartN 1 2).1.self), .slice A62 (((StartN 1 2).1.state.clock).length) c63, .slice A65 (((StartN 1 2).1.state.lives).length) c66, .slice A68 (((StartN 1 2).1.state.tallies).length) c69, .slice A71 (((StartN 1 2).1.base).length) c72, .slice A74 (((StartN 1 2).1.log).length) c75, .slice A77 (((StartN 1 2).1.known).length) c78]) S rfl rfl rfl SZ31 rfl rfl rfl fun w82 S => ?_
 refine l_y (v := ni ((StartN 1 2).2)) S (y_as rfl) ?_
 refine l_nil ?_
 refine n_seq ?_
 refine e_seq ?_
 refine e_seq ?_
 refine e_reg ?_
 refine l_y (v := ni ((StartN 0 2).2)) S (y_mv rfl) ?_
 have h83 : (StartN 0 2).2 = 0 := by decide +kernel
 refine l_y (v := .bool false) S (y_neF rfl rfl h83) ?_
 refine l_y (v := .bool false) S (y_mv rfl) ?_
 refine l_g (d' := 16) (v := ni ((StartN 1 2).2)) S (y_mv rfl) rfl rfl ?_
 have h84 : (StartN 1 2).2 = 0 := by decide +kernel
 refine l_g (d' := 16) (v := .bool false) S (y_neF rfl rfl h84) rfl rfl ?_
 refine l_y (v := .bool false) S (y_pF rfl rfl) ?_
 refine l_nil ?_
 refine n_seq ?_
 refine e_cF rfl ?_
 refine e_skip ?_
 refine n_seq ?_
 refine e_seq ?_
 refine e_reg ?_
 refine l_y (v := .agg #[ni ((StartN 0 2).1.self), .slice A21 (((StartN 0 2).1.state.clock).length) c22, .slice A24 (((StartN 0 2).1.state.lives).length) c25, .slice A27 (((StartN 0 2).1.state.tallies).length) c28, .slice A30 (((StartN 0 2).1.base).length) c31, .slice A33 (((StartN 0 2).1.log).length) c34, .slice A36 (((StartN 0 2).1.known).length) c37]) S (y_ld rfl (fun w S => ld_bA (vs := [ni ((StartN 0 2).1.self), .slice A21 (((StartN 0 2).1.state.clock).length) c22, .slice A24 (((StartN 0 2).1.state.lives).length) c25, .slice A27 (((StartN 0 2).1.state.tallies).length) c28, .slice A30 (((StartN 0 2).1.base).length) c31, .slice A33 (((StartN 0 2).1.log).length) c34, .slice A36 (((StartN 0 2).1.known).length) c37]) (i := 0) S rfl T31 rfl rfl)) ?_
 refine l_y (v := .agg #[ni 0, .slice none 0 0, ni 1, ni 1, ni 5]) S (y_bd (ps := [(2, ni 1), (3, ni 1), (4, ni 5)]) rfl (fun _ => by kernel_rfl)) ?_
 refine l_c (en_f (vs := [.agg #[ni ((StartN 0 2).1.self), .slice A21 (((StartN 0 2).1.state.clock).length) c22, .slice A24 (((StartN 0 2).1.state.lives).length) c25, .slice A27 (((StartN 0 2).1.state.tallies).length) c28, .slice A30 (((StartN 0 2).1.base).length) c31, .slice A33 (((StartN 0 2).1.log).length) c34, .slice A36 (((StartN 0 2).1.known).length) c37], .agg #[ni 0, .slice none 0 0, ni 1, ni 1, ni 5]]) (CF 21 _) rfl rfl) (NIssue_c _ _ S.le _ _ ((StartN 0 2).1) (⟨0, [], 1, 1, 5⟩ : Upd) _ (⟨_, rfl, ⟨_, _, _, _, _, _, rfl, h10, h12, h14, h16, h18, h20⟩⟩ : AggR NodeR rd43 _ ((StartN 0 2).1)) (⟨_, rfl, ⟨_, rfl, (SliceR.nil_ _)⟩⟩ : AggR UpdR rd43 _ (⟨0, [], 1, 1, 5⟩ : Upd))) ?_
 rintro e w85 ⟨v90, rfl, h91, k⟩
 obtain ⟨rd86, S, L87, N88, X89⟩ := S.call' k; clear k
 replace h10 := fm h10 L87
 replace h12 := fm h12 L87
 replace h14 := fm h14 L87
 replace h16 := fm h16 L87
 replace h18 := fm h18 L87
 replace h20 := fm h20 L87
 replace h51 := fm h51 L87
 replace h53 := fm h53 L87
 replace h55 := fm h55 L87
 replace h57 := fm h57 L87
 replace h59 := fm h59 L87
 replace h61 := fm h61 L87
 replace h91 := am h91 X89
 obtain ⟨cs92, h91v, h91⟩ := h91; subst h91v
 obtain ⟨sv93, sv95, sv97, sv99, sv101, sv103, h91e, h94, h96, h98, h100, h102, h104⟩ := h91; subst h91e
 obtain ⟨A105, c106, rfl, m107, m107'⟩ := h94.val
 obtain ⟨A108, c109, rfl, m110, m110'⟩ := h96.val
 obtain ⟨A111, c112, rfl, m113, m113'⟩ := h98.val
 obtain ⟨A114, c115, rfl, m116, m116'⟩ := h100.val
 obtain ⟨A117, c118, rfl, m119, m119'⟩ := h102.val
 obtain ⟨A120, c121, rfl, m122, m122'⟩ := h104.val
 refine ckd ?_
 refine l_y (v := .tuple #[.agg #[ni ((IssueN ((StartN 0 2).1) (⟨0, [], 1, 1, 5⟩ : Upd)).1.self), .slice A105 (((IssueN ((StartN 0 2).1) (⟨0, [], 1, 1, 5⟩ : Upd)).1.state.clock).length) c106, .slice A108 (((IssueN ((StartN 0 2).1) (⟨0, [], 1, 1, 5⟩ : Upd)).1.state.lives).length) c109, .slice A111 (((IssueN ((StartN 0 2).1) (⟨0, [], 1, 1, 5⟩ : Upd)).1.state.tallies).length) c112, .slice A114 (((IssueN ((StartN 0 2).1) (⟨0, [], 1, 1, 5⟩ : Upd)).1.base).length) c115, .slice A117 (((IssueN ((StartN 0 2).1) (⟨0, [], 1, 1, 5⟩ : Upd)).1.log).length) c118, .slice A120 (((IssueN ((StartN 0 2).1) (⟨0, [], 1, 1, 5⟩ : Upd)).1.known).length) c121], ni ((IssueN ((StartN 0 2).1) (⟨0, [], 1, 1, 5⟩ : Upd)).2)]) S (y_mv rfl) ?_
 refine l_y (v := .agg #[ni ((IssueN ((StartN 0 2).1) (⟨0, [], 1, 1, 5⟩ : Upd)).1.self), .slice A105 (((IssueN ((StartN 0 2).1) (⟨0, [], 1, 1, 5⟩ : Upd)).1.state.clock).length) c106, .slice A108 (((IssueN ((StartN 0 2).1) (⟨0, [], 1, 1, 5⟩ : Upd)).1.state.lives).length) c109, .slice A111 (((IssueN ((StartN 0 2).1) (⟨0, [], 1, 1, 5⟩ : Upd)).1.state.tallies).length) c112, .slice A114 (((IssueN ((StartN 0 2).1) (⟨0, [], 1, 1, 5⟩ : Upd)).1.base).length) c115, .slice A117 (((IssueN ((StartN 0 2).1) (⟨0, [], 1, 1, 5⟩ : Upd)).1.log).length) c118, .slice A120 (((IssueN ((StartN 0 2).1) (⟨0, [], 1, 1, 5⟩ : Upd)).1.known).length) c121]) S (y_ex rfl rfl) ?_
 refine l_y (v := ni ((IssueN ((StartN 0 2).1) (⟨0, [], 1, 1, 5⟩ : Upd)).2)) S (y_ex rfl rfl) ?_
 refine l_st (u := .agg #[ni ((IssueN ((StartN 0 2).1) (⟨0, [], 1, 1, 5⟩ : Upd)).1.self), .slice A105 (((IssueN ((StartN 0 2).1) (⟨0, [], 1, 1, 5⟩ : Upd)).1.state.clock).length) c106, .slice A108 (((IssueN ((StartN 0 2).1) (⟨0, [], 1, 1, 5⟩ : Upd)).1.state.lives).length) c109, .slice A111 (((IssueN ((StartN 0 2).1) (⟨0, [], 1, 1, 5⟩ : Upd)).1.state.tallies).length) c112, .slice A114 (((IssueN ((StartN 0 2).1) (⟨0, [], 1, 1, 5⟩ : Upd)).1.base).length) c115, .slice A117 (((IssueN ((StartN 0 2).1) (⟨0, [], 1, 1, 5⟩ : Upd)).1.log).length) c118, .slice A120 (((IssueN ((StartN 0 2).1) (⟨0, [], 1, 1, 5⟩ : Upd)).1.known).length) c121]) (i := 0) (cs' := #[ni ((IssueN ((StartN 0 2).1) (⟨0, [], 1, 1, 5⟩ : Upd)).1.self), .slice A105 (((IssueN ((StartN 0 2).1) (⟨0, [], 1, 1, 5⟩ : Upd)).1.state.clock).length) c106, .slice A108 (((IssueN ((StartN 0 2).1) (⟨0, [], 1, 1, 5⟩ : Upd)).1.state.lives).length) c109, .slice A111 (((IssueN ((StartN 0 2).1) (⟨0, [], 1, 1, 5⟩ : Upd)).1.state.tallies).length) c112, .slice A114 (((IssueN ((StartN 0 2).1) (⟨0, [], 1, 1, 5⟩ : Upd)).1.base).length) c115, .slice A117 (((IssueN ((StartN 0 2).1) (⟨0, [], 1, 1, 5⟩ : Upd)).1.log).length) c118, .slice A120 (((IssueN ((StartN 0 2).1) (⟨0, [], 1, 1, 5⟩ : Upd)).1.known).length) c121]) S rfl rfl rfl SZ31 rfl rfl rfl fun w123 S => ?_
 refine l_y (v := ni ((IssueN ((StartN 0 2).1) (⟨0, [], 1, 1, 5⟩ : Upd)).2)) S (y_as rfl) ?_
 refine l_nil ?_
 refine n_seq ?_
 refine e_seq ?_
 refine e_reg ?_
 refine l_y (v := .agg #[ni ((IssueN ((StartN 0 2).1) (⟨0, [], 1, 1, 5⟩ : Upd)).1.self), .slice A105 (((IssueN ((StartN 0 2).1) (⟨0, [], 1, 1, 5⟩ : Upd)).1.state.clock).length) c106, .slice A108 (((IssueN ((StartN 0 2).1) (⟨0, [], 1, 1, 5⟩ : Upd)).1.state.lives).length) c109, .slice A111 (((IssueN ((StartN 0 2).1) (⟨0, [], 1, 1, 5⟩ : Upd)).1.state.tallies).length) c112, .slice A114 (((IssueN ((StartN 0 2).1) (⟨0, [], 1, 1, 5⟩ : Upd)).1.base).length) c115, .slice A117 (((IssueN ((StartN 0 2).1) (⟨0, [], 1, 1, 5⟩ : Upd)).1.log).length) c118, .slice A120 (((IssueN ((StartN 0 2).1) (⟨0, [], 1, 1, 5⟩ : Upd)).1.known).length) c121]) S (y_ld rfl (fun w S => ld_bA (vs := [ni ((IssueN ((StartN 0 2).1) (⟨0, [], 1, 1, 5⟩ : Upd)).1.self), .slice A105 (((IssueN ((StartN 0 2).1) (⟨0, [], 1, 1, 5⟩ : Upd)).1.state.clock).length) c106, .slice A108 (((IssueN ((StartN 0 2).1) (⟨0, [], 1, 1, 5⟩ : Upd)).1.state.lives).length) c109, .slice A111 (((IssueN ((StartN 0 2).1) (⟨0, [], 1, 1, 5⟩ : Upd)).1.state.tallies).length) c112, .slice A114 (((IssueN ((StartN 0 2).1) (⟨0, [], 1, 1, 5⟩ : Upd)).1.base).length) c115, .slice A117 (((IssueN ((StartN 0 2).1) (⟨0, [], 1, 1, 5⟩ : Upd)).1.log).length) c118, .slice A120 (((IssueN ((StartN 0 2).1) (⟨0, [], 1, 1, 5⟩ : Upd)).1.known).length) c121]) (i := 0) S rfl T31 rfl rfl)) ?_
 refine l_c (en_f (vs := [.agg #[ni ((IssueN ((StartN 0 2).1) (⟨0, [], 1, 1, 5⟩ : Upd)).1.self), .slice A105 (((IssueN ((StartN 0 2).1) (⟨0, [], 1, 1, 5⟩ : Upd)).1.state.clock).length) c106, .slice A108 (((IssueN ((StartN 0 2).1) (⟨0, [], 1, 1, 5⟩ : Upd)).1.state.lives).length) c109, .slice A111 (((IssueN ((StartN 0 2).1) (⟨0, [], 1, 1, 5⟩ : Upd)).1.state.tallies).length) c112, .slice A114 (((IssueN ((StartN 0 2).1) (⟨0, [], 1, 1, 5⟩ : Upd)).1.base).length) c115, .slice A117 (((IssueN ((StartN 0 2).1) (⟨0, [], 1, 1, 5⟩ : Upd)).1.log).length) c118, .slice A120 (((IssueN ((StartN 0 2).1) (⟨0, [], 1, 1, 5⟩ : Upd)).1.known).length) c121], ni 1]) (CF 23 _) rfl rfl) (NSend_c _ _ S.le _ ((IssueN ((StartN 0 2).1) (⟨0, [], 1, 1, 5⟩ : Upd)).1) 1 (⟨_, rfl, ⟨_, _, _, _, _, _, rfl, h94, h96, h98, h100, h102, h104⟩⟩ : AggR NodeR rd86 _ ((IssueN ((StartN 0 2).1) (⟨0, [], 1, 1, 5⟩ : Upd)).1))) ?_
 rintro e w124 ⟨v129, rfl, h130, k⟩
 obtain ⟨rd125, S, L126, N127, X128⟩ := S.call' k; clear k
 replace h10 := fm h10 L126
 replace h12 := fm h12 L126
 replace h14 := fm h14 L126
 replace h16 := fm h16 L126
 replace h18 := fm h18 L126
 replace h20 := fm h20 L126
 replace h51 := fm h51 L126
 replace h53 := fm h53 L126
 replace h55 := fm h55 L126
 replace h57 := fm h57 L126
 replace h59 := fm h59 L126
 replace h61 := fm h61 L126
 replace h94 := fm h94 L126
 replace h96 := fm h96 L126
 replace h98 := fm h98 L126
 replace h100 := fm h100 L126
 replace h102 := fm h102 L126
 replace h104 := fm h104 L126
 replace h130 := am h130 X128
 obtain ⟨cs131, h130v, h130⟩ := h130; subst h130v
 obtain ⟨sv132, sv134, sv136, sv138, sv140, h130e, h133, h135, h137, h139, h141⟩ := h130; subst h130e
 obtain ⟨A142, c143, rfl, m144, m144'⟩ := h133.val
 obtain ⟨A145, c146, rfl, m147, m147'⟩ := h135.val
 obtain ⟨A148, c149, rfl, m150, m150'⟩ := h137.val
 obtain ⟨A151, c152, rfl, m153, m153'⟩ := h139.val
 obtain ⟨A154, c155, rfl, m156, m156'⟩ := h141.val
 refine ckd ?_
 refine l_y (v := .tuple #[.agg #[.bool ((SendN ((IssueN ((StartN 0 2).1) (⟨0, [], 1, 1, 5⟩ : Upd)).1) 1).1.whole), .slice A142 (((SendN ((IssueN ((StartN 0 2).1) (⟨0, [], 1, 1, 5⟩ : Upd)).1) 1).1.state.clock).length) c143, .slice A145 (((SendN ((IssueN ((StartN 0 2).1) (⟨0, [], 1, 1, 5⟩ : Upd)).1) 1).1.state.lives).length) c146, .slice A148 (((SendN ((IssueN ((StartN 0 2).1) (⟨0, [], 1, 1, 5⟩ : Upd)).1) 1).1.state.tallies).length) c149, .slice A151 (((SendN ((IssueN ((StartN 0 2).1) (⟨0, [], 1, 1, 5⟩ : Upd)).1) 1).1.updates).length) c152, .slice A154 (((SendN ((IssueN ((StartN 0 2).1) (⟨0, [], 1, 1, 5⟩ : Upd)).1) 1).1.clock).length) c155], ni ((SendN ((IssueN ((StartN 0 2).1) (⟨0, [], 1, 1, 5⟩ : Upd)).1) 1).2)]) S (y_mv rfl) ?_
 refine l_y (v := .agg #[.bool ((SendN ((IssueN ((StartN 0 2).1) (⟨0, [], 1, 1, 5⟩ : Upd)).1) 1).1.whole), .slice A142 (((SendN ((IssueN ((StartN 0 2).1) (⟨0, [], 1, 1, 5⟩ : Upd)).1) 1).1.state.clock).length) c143, .slice A145 (((SendN ((IssueN ((StartN 0 2).1) (⟨0, [], 1, 1, 5⟩ : Upd)).1) 1).1.state.lives).length) c146, .slice A148 (((SendN ((IssueN ((StartN 0 2).1) (⟨0, [], 1, 1, 5⟩ : Upd)).1) 1).1.state.tallies).length) c149, .slice A151 (((SendN ((IssueN ((StartN 0 2).1) (⟨0, [], 1, 1, 5⟩ : Upd)).1) 1).1.updates).length) c152, .slice A154 (((SendN ((IssueN ((StartN 0 2).1) (⟨0, [], 1, 1, 5⟩ : Upd)).1) 1).1.clock).length) c155]) S (y_ex rfl rfl) ?_
 refine l_y (v := ni ((SendN ((IssueN ((StartN 0 2).1) (⟨0, [], 1, 1, 5⟩ : Upd)).1) 1).2)) S (y_ex rfl rfl) ?_
 refine l_al (cs := #[.bool false, .slice none 0 0, .slice none 0 0, .slice none 0 0, .slice none 0 0, .slice none 0 0]) S Z33 rfl fun g157 w158 S => ?_
 refine l_st (u := .agg #[.bool ((SendN ((IssueN ((StartN 0 2).1) (⟨0, [], 1, 1, 5⟩ : Upd)).1) 1).1.whole), .slice A142 (((SendN ((IssueN ((StartN 0 2).1) (⟨0, [], 1, 1, 5⟩ : Upd)).1) 1).1.state.clock).length) c143, .slice A145 (((SendN ((IssueN ((StartN 0 2).1) (⟨0, [], 1, 1, 5⟩ : Upd)).1) 1).1.state.lives).length) c146, .slice A148 (((SendN ((IssueN ((StartN 0 2).1) (⟨0, [], 1, 1, 5⟩ : Upd)).1) 1).1.state.tallies).length) c149, .slice A151 (((SendN ((IssueN ((StartN 0 2).1) (⟨0, [], 1, 1, 5⟩ : Upd)).1) 1).1.updates).length) c152, .slice A154 (((SendN ((IssueN ((StartN 0 2).1) (⟨0, [], 1, 1, 5⟩ : Upd)).1) 1).1.clock).length) c155]) (i := 2) (cs' := #[.bool ((SendN ((IssueN ((StartN 0 2).1) (⟨0, [], 1, 1, 5⟩ : Upd)).1) 1).1.whole), .slice A142 (((SendN ((IssueN ((StartN 0 2).1) (⟨0, [], 1, 1, 5⟩ : Upd)).1) 1).1.state.clock).length) c143, .slice A145 (((SendN ((IssueN ((StartN 0 2).1) (⟨0, [], 1, 1, 5⟩ : Upd)).1) 1).1.state.lives).length) c146, .slice A148 (((SendN ((IssueN ((StartN 0 2).1) (⟨0, [], 1, 1, 5⟩ : Upd)).1) 1).1.state.tallies).length) c149, .slice A151 (((SendN ((IssueN ((StartN 0 2).1) (⟨0, [], 1, 1, 5⟩ : Upd)).1) 1).1.updates).length) c152, .slice A154 (((SendN ((IssueN ((StartN 0 2).1) (⟨0, [], 1, 1, 5⟩ : Upd)).1) 1).1.clock).length) c155]) S rfl rfl rfl SZ33 rfl rfl rfl fun w159 S => ?_
 have S : St [] W rd rd125 [(g39, 31, #[ni ((IssueN ((StartN 0 2).1) (⟨0, [], 1, 1, 5⟩ : Upd)).1.self), .slice A105 (((IssueN ((StartN 0 2).1) (⟨0, [], 1, 1, 5⟩ : Upd)).1.state.clock).length) c106, .slice A108 (((IssueN ((StartN 0 2).1) (⟨0, [], 1, 1, 5⟩ : Upd)).1.state.lives).length) c109, .slice A111 (((IssueN ((StartN 0 2).1) (⟨0, [], 1, 1, 5⟩ : Upd)).1.state.tallies).length) c112, .slice A114 (((IssueN ((StartN 0 2).1) (⟨0, [], 1, 1, 5⟩ : Upd)).1.base).length) c115, .slice A117 (((IssueN ((StartN 0 2).1) (⟨0, [], 1, 1, 5⟩ : Upd)).1.log).length) c118, .slice A120 (((IssueN ((StartN 0 2).1) (⟨0, [], 1, 1, 5⟩ : Upd)).1.known).length) c121]), (g80, 31, #[ni ((StartN 1 2).1.self), .slice A62 (((StartN 1 2).1.state.clock).length) c63, .slice A65 (((StartN 1 2).1.state.lives).length) c66, .slice A68 (((StartN 1 2).1.state.tallies).length) c69, .slice A71 (((StartN 1 2).1.base).length) c72, .slice A74 (((StartN 1 2).1.log).length) c75, .slice A77 (((StartN 1 2).1.known).length) c78]), (g157, 33, #[.bool ((SendN ((IssueN ((StartN 0 2).1) (⟨0, [], 1, 1, 5⟩ : Upd)).1) 1).1.whole), .slice A142 (((SendN ((IssueN ((StartN 0 2).1) (⟨0, [], 1, 1, 5⟩ : Upd)).1) 1).1.state.clock).length) c143, .slice A145 (((SendN ((IssueN ((StartN 0 2).1) (⟨0, [], 1, 1, 5⟩ : Upd)).1) 1).1.state.lives).length) c146, .slice A148 (((SendN ((IssueN ((StartN 0 2).1) (⟨0, [], 1, 1, 5⟩ : Upd)).1) 1).1.state.tallies).length) c149, .slice A151 (((SendN ((IssueN ((StartN 0 2).1) (⟨0, [], 1, 1, 5⟩ : Upd)).1) 1).1.updates).length) c152, .slice A154 (((SendN ((IssueN ((StartN 0 2).1) (⟨0, [], 1, 1, 5⟩ : Upd)).1) 1).1.clock).length) c155])] [] _ := S.rw' rfl rfl
 refine l_y (v := ni ((SendN ((IssueN ((StartN 0 2).1) (⟨0, [], 1, 1, 5⟩ : Upd)).1) 1).2)) S (y_as rfl) ?_
 refine l_nil ?_
 refine n_seq ?_
 refine e_seq ?_
 refine e_seq ?_
 refine e_reg ?_
 refine l_y (v := ni ((IssueN ((StartN 0 2).1) (⟨0, [], 1, 1, 5⟩ : Upd)).2)) S (y_mv rfl) ?_
 have h160 : (IssueN ((StartN 0 2).1) (⟨0, [], 1, 1, 5⟩ : Upd)).2 = 0 := by decide +kernel
 refine l_y (v := .bool false) S (y_neF rfl rfl h160) ?_
 refine l_y (v := .bool false) S (y_mv rfl) ?_
 refine l_g (d' := 33) (v := ni ((SendN ((IssueN ((StartN 0 2).1) (⟨0, [], 1, 1, 5⟩ : Upd)).1) 1).2)) S (y_mv rfl) rfl rfl ?_
 have h161 : (SendN ((IssueN ((StartN 0 2).1) (⟨0, [], 1, 1, 5⟩ : Upd)).1) 1).2 = 0 := by decide +kernel
 refine l_g (d' := 33) (v := .bool false) S (y_neF rfl rfl h161) rfl rfl ?_
 refine l_y (v := .bool false) S (y_pF rfl rfl) ?_
 refine l_y (v := .bool false) S (y_mv rfl) ?_
 refine l_g (d' := 37) (v := pa g157 4) S (y_fb FA33_2 rfl rfl) rfl rfl ?_
 refine l_g (d' := 37) (v := .slice A151 (((SendN ((IssueN ((StartN 0 2).1) (⟨0, [], 1, 1, 5⟩ : Upd)).1) 1).1.updates).length) c152) S (y_ld rfl (fun w S => ld_b1 (i := 2) S rfl rfl T28)) rfl rfl ?_
 refine l_g (d' := 37) (v := ni (((SendN ((IssueN ((StartN 0 2).1) (⟨0, [], 1, 1, 5⟩ : Upd)).1) 1).1.updates).length : Int)) S (y_len U28 rfl rfl) rfl rfl ?_
 have h162 : (((SendN ((IssueN ((StartN 0 2).1) (⟨0, [], 1, 1, 5⟩ : Upd)).1) 1).1.updates).length : Int) = 1 := by decide +kernel
 refine l_g (d' := 37) (v := .bool false) S (y_neF rfl rfl h162) rfl rfl ?_
 refine l_y (v := .bool false) S (y_pF rfl rfl) ?_
 refine l_nil ?_
 refine n_seq ?_
 refine e_cF rfl ?_
 refine e_skip ?_
 refine n_seq ?_
 refine e_seq ?_
 refine e_reg ?_
 refine l_y (v := .agg #[ni ((StartN 1 2).1.self), .slice A62 (((StartN 1 2).1.state.clock).length) c63, .slice A65 (((StartN 1 2).1.state.lives).length) c66, .slice A68 (((StartN 1 2).1.state.tallies).length) c69, .slice A71 (((StartN 1 2).1.base).length) c72, .slice A74 (((StartN 1 2).1.log).length) c75, .slice A77 (((StartN 1 2).1.known).length) c78]) S (y_ld rfl (fun w S => ld_bA (vs := [ni ((StartN 1 2).1.self), .slice A62 (((StartN 1 2).1.state.clock).length) c63, .slice A65 (((StartN 1 2).1.state.lives).length) c66, .slice A68 (((StartN 1 2).1.state.tallies).length) c69, .slice A71 (((StartN 1 2).1.base).length) c72, .slice A74 (((StartN 1 2).1.log).length) c75, .slice A77 (((StartN 1 2).1.known).length) c78]) (i := 1) S rfl T31 rfl rfl)) ?_
 refine l_y (v := .agg #[.bool ((SendN ((IssueN ((StartN 0 2).1) (⟨0, [], 1, 1, 5⟩ : Upd)).1) 1).1.whole), .slice A142 (((SendN ((IssueN ((StartN 0 2).1) (⟨0, [], 1, 1, 5⟩ : Upd)).1) 1).1.state.clock).length) c143, .slice A145 (((SendN ((IssueN ((StartN 0 2).1) (⟨0, [], 1, 1, 5⟩ : Upd)).1) 1).1.state.lives).length) c146, .slice A148 (((SendN ((IssueN ((StartN 0 2).1) (⟨0, [], 1, 1, 5⟩ : Upd)).1) 1).1.state.tallies).length) c149, .slice A151 (((SendN ((IssueN ((StartN 0 2).1) (⟨0, [], 1, 1, 5⟩ : Upd)).1) 1).1.updates).length) c152, .slice A154 (((SendN ((IssueN ((StartN 0 2).1) (⟨0, [], 1, 1, 5⟩ : Upd)).1) 1).1.clock).length) c155]) S (y_ld rfl (fun w S => ld_bA (vs := [.bool ((SendN ((IssueN ((StartN 0 2).1) (⟨0, [], 1, 1, 5⟩ : Upd)).1) 1).1.whole), .slice A142 (((SendN ((IssueN ((StartN 0 2).1) (⟨0, [], 1, 1, 5⟩ : Upd)).1) 1).1.state.clock).length) c143, .slice A145 (((SendN ((IssueN ((StartN 0 2).1) (⟨0, [], 1, 1, 5⟩ : Upd)).1) 1).1.state.lives).length) c146, .slice A148 (((SendN ((IssueN ((StartN 0 2).1) (⟨0, [], 1, 1, 5⟩ : Upd)).1) 1).1.state.tallies).length) c149, .slice A151 (((SendN ((IssueN ((StartN 0 2).1) (⟨0, [], 1, 1, 5⟩ : Upd)).1) 1).1.updates).length) c152, .slice A154 (((SendN ((IssueN ((StartN 0 2).1) (⟨0, [], 1, 1, 5⟩ : Upd)).1) 1).1.clock).length) c155]) (i := 2) S rfl T33 rfl rfl)) ?_
 refine l_c (en_f (vs := [.agg #[ni ((StartN 1 2).1.self), .slice A62 (((StartN 1 2).1.state.clock).length) c63, .slice A65 (((StartN 1 2).1.state.lives).length) c66, .slice A68 (((StartN 1 2).1.state.tallies).length) c69, .slice A71 (((StartN 1 2).1.base).length) c72, .slice A74 (((StartN 1 2).1.log).length) c75, .slice A77 (((StartN 1 2).1.known).length) c78], ni 0, .agg #[.bool ((SendN ((IssueN ((StartN 0 2).1) (⟨0, [], 1, 1, 5⟩ : Upd)).1) 1).1.whole), .slice A142 (((SendN ((IssueN ((StartN 0 2).1) (⟨0, [], 1, 1, 5⟩ : Upd)).1) 1).1.state.clock).length) c143, .slice A145 (((SendN ((IssueN ((StartN 0 2).1) (⟨0, [], 1, 1, 5⟩ : Upd)).1) 1).1.state.lives).length) c146, .slice A148 (((SendN ((IssueN ((StartN 0 2).1) (⟨0, [], 1, 1, 5⟩ : Upd)).1) 1).1.state.tallies).length) c149, .slice A151 (((SendN ((IssueN ((StartN 0 2).1) (⟨0, [], 1, 1, 5⟩ : Upd)).1) 1).1.updates).length) c152, .slice A154 (((SendN ((IssueN ((StartN 0 2).1) (⟨0, [], 1, 1, 5⟩ : Upd)).1) 1).1.clock).length) c155]]) (CF 14 _) rfl rfl) (NTake_c _ _ S.le _ _ ((StartN 1 2).1) 0 ((SendN ((IssueN ((StartN 0 2).1) (⟨0, [], 1, 1, 5⟩ : Upd)).1) 1).1) (⟨_, rfl, ⟨_, _, _, _, _, _, rfl, h51, h53, h55, h57, h59, h61⟩⟩ : AggR NodeR rd125 _ ((StartN 1 2).1)) (⟨_, rfl, ⟨_, _, _, _, _, rfl, h133, h135, h137, h139, h141⟩⟩ : AggR ParcelR rd125 _ ((SendN ((IssueN ((StartN 0 2).1) (⟨0, [], 1, 1, 5⟩ : Upd)).1) 1).1))) ?_
 rintro e w163 ⟨v168, rfl, h169, k⟩
 obtain ⟨rd164, S, L165, N166, X167⟩ := S.call' k; clear k
 replace h10 := fm h10 L165
 replace h12 := fm h12 L165
 replace h14 := fm h14 L165
 replace h16 := fm h16 L165
 replace h18 := fm h18 L165
 replace h20 := fm h20 L165
 replace h51 := fm h51 L165
 replace h53 := fm h53 L165
 replace h55 := fm h55 L165
 replace h57 := fm h57 L165
 replace h59 := fm h59 L165
 replace h61 := fm h61 L165
 replace h94 := fm h94 L165
 replace h96 := fm h96 L165
 replace h98 := fm h98 L165
 replace h100 := fm h100 L165
 replace h102 := fm h102 L165
 replace h104 := fm h104 L165
 replace h133 := fm h133 L165
 replace h135 := fm h135 L165
 replace h137 := fm h137 L165
 replace h139 := fm h139 L165
 replace h141 := fm h141 L165
 replace h169 := am h169 X167
 obtain ⟨cs170, h169v, h169⟩ := h169; subst h169v
 obtain ⟨sv171, sv173, sv175, sv177, sv179, sv181, h169e, h172, h174, h176, h178, h180, h182⟩ := h169; subst h169e
 obtain ⟨A183, c184, rfl, m185, m185'⟩ := h172.val
 obtain ⟨A186, c187, rfl, m188, m188'⟩ := h174.val
 obtain ⟨A189, c190, rfl, m191, m191'⟩ := h176.val
 obtain ⟨A192, c193, rfl, m194, m194'⟩ := h178.val
 obtain ⟨A195, c196, rfl, m197, m197'⟩ := h180.val
 obtain ⟨A198, c199, rfl, m200, m200'⟩ := h182.val
 refine ckd ?_
 refine l_y (v := .tuple #[.agg #[ni ((TakeN ((StartN 1 2).1) 0 ((SendN ((IssueN ((StartN 0 2).1) (⟨0, [], 1, 1, 5⟩ : Upd)).1) 1).1)).1.self), .slice A183 (((TakeN ((StartN 1 2).1) 0 ((SendN ((IssueN ((StartN 0 2).1) (⟨0, [], 1, 1, 5⟩ : Upd)).1) 1).1)).1.state.clock).length) c184, .slice A186 (((TakeN ((StartN 1 2).1) 0 ((SendN ((IssueN ((StartN 0 2).1) (⟨0, [], 1, 1, 5⟩ : Upd)).1) 1).1)).1.state.lives).length) c187, .slice A189 (((TakeN ((StartN 1 2).1) 0 ((SendN ((IssueN ((StartN 0 2).1) (⟨0, [], 1, 1, 5⟩ : Upd)).1) 1).1)).1.state.tallies).length) c190, .slice A192 (((TakeN ((StartN 1 2).1) 0 ((SendN ((IssueN ((StartN 0 2).1) (⟨0, [], 1, 1, 5⟩ : Upd)).1) 1).1)).1.base).length) c193, .slice A195 (((TakeN ((StartN 1 2).1) 0 ((SendN ((IssueN ((StartN 0 2).1) (⟨0, [], 1, 1, 5⟩ : Upd)).1) 1).1)).1.log).length) c196, .slice A198 (((TakeN ((StartN 1 2).1) 0 ((SendN ((IssueN ((StartN 0 2).1) (⟨0, [], 1, 1, 5⟩ : Upd)).1) 1).1)).1.known).length) c199], ni ((TakeN ((StartN 1 2).1) 0 ((SendN ((IssueN ((StartN 0 2).1) (⟨0, [], 1, 1, 5⟩ : Upd)).1) 1).1)).2)]) S (y_mv rfl) ?_
 refine l_y (v := .agg #[ni ((TakeN ((StartN 1 2).1) 0 ((SendN ((IssueN ((StartN 0 2).1) (⟨0, [], 1, 1, 5⟩ : Upd)).1) 1).1)).1.self), .slice A183 (((TakeN ((StartN 1 2).1) 0 ((SendN ((IssueN ((StartN 0 2).1) (⟨0, [], 1, 1, 5⟩ : Upd)).1) 1).1)).1.state.clock).length) c184, .slice A186 (((TakeN ((StartN 1 2).1) 0 ((SendN ((IssueN ((StartN 0 2).1) (⟨0, [], 1, 1, 5⟩ : Upd)).1) 1).1)).1.state.lives).length) c187, .slice A189 (((TakeN ((StartN 1 2).1) 0 ((SendN ((IssueN ((StartN 0 2).1) (⟨0, [], 1, 1, 5⟩ : Upd)).1) 1).1)).1.state.tallies).length) c190, .slice A192 (((TakeN ((StartN 1 2).1) 0 ((SendN ((IssueN ((StartN 0 2).1) (⟨0, [], 1, 1, 5⟩ : Upd)).1) 1).1)).1.base).length) c193, .slice A195 (((TakeN ((StartN 1 2).1) 0 ((SendN ((IssueN ((StartN 0 2).1) (⟨0, [], 1, 1, 5⟩ : Upd)).1) 1).1)).1.log).length) c196, .slice A198 (((TakeN ((StartN 1 2).1) 0 ((SendN ((IssueN ((StartN 0 2).1) (⟨0, [], 1, 1, 5⟩ : Upd)).1) 1).1)).1.known).length) c199]) S (y_ex rfl rfl) ?_
 refine l_y (v := ni ((TakeN ((StartN 1 2).1) 0 ((SendN ((IssueN ((StartN 0 2).1) (⟨0, [], 1, 1, 5⟩ : Upd)).1) 1).1)).2)) S (y_ex rfl rfl) ?_
 refine l_st (u := .agg #[ni ((TakeN ((StartN 1 2).1) 0 ((SendN ((IssueN ((StartN 0 2).1) (⟨0, [], 1, 1, 5⟩ : Upd)).1) 1).1)).1.self), .slice A183 (((TakeN ((StartN 1 2).1) 0 ((SendN ((IssueN ((StartN 0 2).1) (⟨0, [], 1, 1, 5⟩ : Upd)).1) 1).1)).1.state.clock).length) c184, .slice A186 (((TakeN ((StartN 1 2).1) 0 ((SendN ((IssueN ((StartN 0 2).1) (⟨0, [], 1, 1, 5⟩ : Upd)).1) 1).1)).1.state.lives).length) c187, .slice A189 (((TakeN ((StartN 1 2).1) 0 ((SendN ((IssueN ((StartN 0 2).1) (⟨0, [], 1, 1, 5⟩ : Upd)).1) 1).1)).1.state.tallies).length) c190, .slice A192 (((TakeN ((StartN 1 2).1) 0 ((SendN ((IssueN ((StartN 0 2).1) (⟨0, [], 1, 1, 5⟩ : Upd)).1) 1).1)).1.base).length) c193, .slice A195 (((TakeN ((StartN 1 2).1) 0 ((SendN ((IssueN ((StartN 0 2).1) (⟨0, [], 1, 1, 5⟩ : Upd)).1) 1).1)).1.log).length) c196, .slice A198 (((TakeN ((StartN 1 2).1) 0 ((SendN ((IssueN ((StartN 0 2).1) (⟨0, [], 1, 1, 5⟩ : Upd)).1) 1).1)).1.known).length) c199]) (i := 1) (cs' := #[ni ((TakeN ((StartN 1 2).1) 0 ((SendN ((IssueN ((StartN 0 2).1) (⟨0, [], 1, 1, 5⟩ : Upd)).1) 1).1)).1.self), .slice A183 (((TakeN ((StartN 1 2).1) 0 ((SendN ((IssueN ((StartN 0 2).1) (⟨0, [], 1, 1, 5⟩ : Upd)).1) 1).1)).1.state.clock).length) c184, .slice A186 (((TakeN ((StartN 1 2).1) 0 ((SendN ((IssueN ((StartN 0 2).1) (⟨0, [], 1, 1, 5⟩ : Upd)).1) 1).1)).1.state.lives).length) c187, .slice A189 (((TakeN ((StartN 1 2).1) 0 ((SendN ((IssueN ((StartN 0 2).1) (⟨0, [], 1, 1, 5⟩ : Upd)).1) 1).1)).1.state.tallies).length) c190, .slice A192 (((TakeN ((StartN 1 2).1) 0 ((SendN ((IssueN ((StartN 0 2).1) (⟨0, [], 1, 1, 5⟩ : Upd)).1) 1).1)).1.base).length) c193, .slice A195 (((TakeN ((StartN 1 2).1) 0 ((SendN ((IssueN ((StartN 0 2).1) (⟨0, [], 1, 1, 5⟩ : Upd)).1) 1).1)).1.log).length) c196, .slice A198 (((TakeN ((StartN 1 2).1) 0 ((SendN ((IssueN ((StartN 0 2).1) (⟨0, [], 1, 1, 5⟩ : Upd)).1) 1).1)).1.known).length) c199]) S rfl rfl rfl SZ31 rfl rfl rfl fun w201 S => ?_
 refine l_y (v := ni ((TakeN ((StartN 1 2).1) 0 ((SendN ((IssueN ((StartN 0 2).1) (⟨0, [], 1, 1, 5⟩ : Upd)).1) 1).1)).2)) S (y_as rfl) ?_
 refine l_nil ?_
 refine n_seq ?_
 refine e_seq ?_
 refine e_reg ?_
 refine l_y (v := ni ((TakeN ((StartN 1 2).1) 0 ((SendN ((IssueN ((StartN 0 2).1) (⟨0, [], 1, 1, 5⟩ : Upd)).1) 1).1)).2)) S (y_mv rfl) ?_
 have h202 : (TakeN ((StartN 1 2).1) 0 ((SendN ((IssueN ((StartN 0 2).1) (⟨0, [], 1, 1, 5⟩ : Upd)).1) 1).1)).2 = 0 := by decide +kernel
 refine l_y (v := .bool true) S (y_eqT rfl rfl h202) ?_
 refine l_y (v := .bool true) S (y_mv rfl) ?_
 refine l_g (d' := 51) (v := pa g80 1) S (y_fb FA31_1 rfl rfl) rfl rfl ?_
 refine l_g (d' := 51) (v := pa g80 2) S (y_fb FA27_1 rfl rfl) rfl rfl ?_
 refine l_g (d' := 51) (v := .slice A186 (((TakeN ((StartN 1 2).1) 0 ((SendN ((IssueN ((StartN 0 2).1) (⟨0, [], 1, 1, 5⟩ : Upd)).1) 1).1)).1.state.lives).length) c187) S (y_ld rfl (fun w S => ld_b1 (i := 1) S rfl rfl T24)) rfl rfl ?_
 refine l_g (d' := 51) (v := ni (((TakeN ((StartN 1 2).1) 0 ((SendN ((IssueN ((StartN 0 2).1) (⟨0, [], 1, 1, 5⟩ : Upd)).1) 1).1)).1.state.lives).length : Int)) S (y_len U24 rfl rfl) rfl rfl ?_
 have h203 : (((TakeN ((StartN 1 2).1) 0 ((SendN ((IssueN ((StartN 0 2).1) (⟨0, [], 1, 1, 5⟩ : Upd)).1) 1).1)).1.state.lives).length : Int) = 1 := by decide +kernel
 refine l_g (d' := 51) (v := .bool true) S (y_eqT rfl rfl h203) rfl rfl ?_
 refine l_y (v := .bool true) S (y_pT rfl rfl) ?_
 refine l_y (v := .bool true) S (y_mv rfl) ?_
 refine l_g (d' := 58) (v := pa g80 6) S (y_fb FA31_4 rfl rfl) rfl rfl ?_
 refine l_g (d' := 58) (v := .slice A198 (((TakeN ((StartN 1 2).1) 0 ((SendN ((IssueN ((StartN 0 2).1) (⟨0, [], 1, 1, 5⟩ : Upd)).1) 1).1)).1.known).length) c199) S (y_ld rfl (fun w S => ld_b1 (i := 1) S rfl rfl T29)) rfl rfl ?_
 obtain ⟨z204, hz205⟩ : ∃ z, ((TakeN ((StartN 1 2).1) 0 ((SendN ((IssueN ((StartN 0 2).1) (⟨0, [], 1, 1, 5⟩ : Upd)).1) 1).1)).1.known)[0]? = some z := ⟨[1, 0], by decide +kernel⟩
 have hz1 : z204 = [1, 0] := by have e : (TakeN (StartN 1 2).1 0 (SendN (IssueN (StartN 0 2).1 (⟨0, [], 1, 1, 5⟩ : Upd)).1 1).1).1.known[0]? = some [1, 0] := (by decide +kernel); rw [e] at hz205; injection hz205 with h; exact h.symm
 obtain ⟨p206, vs207, E208, nn209, r210, Y211⟩ := y_ia U29 SZ23 h182 hz205
 clear nn209
 obtain ⟨sv212, r210e, r210⟩ := r210; subst r210e
 obtain ⟨A213, c214, rfl, m215, m215'⟩ := r210.val
 refine l_g (d' := 58) (v := p206) S (Y211 rfl rfl (by first | rfl | omega)) rfl rfl ?_
 refine l_g (d' := 58) (v := .slice A213 z204.length c214) S (y_ld rfl (fun w S => ld_p1 S.le E208 rfl T23)) rfl rfl ?_
 refine l_ug (d' := 58) rfl rfl ?_
 refine l_bs (ps := [(0, ni 1), (1, ni 0)]) (cs := #[ni 1, ni 0]) S U22 SZ3 Z3 rfl rfl rfl (by kernel_rfl) fun g216 w217 S => ?_
 obtain ⟨rd218, S, L219, Fz220⟩ := S.frz' (i := 3) rfl rfl
 replace h10 := fm h10 L219
 replace h12 := fm h12 L219
 replace h14 := fm h14 L219
 replace h16 := fm h16 L219
 replace h18 := fm h18 L219
 replace h20 := fm h20 L219
 replace h51 := fm h51 L219
 replace h53 := fm h53 L219
 replace h55 := fm h55 L219
 replace h57 := fm h57 L219
 replace h59 := fm h59 L219
 replace h61 := fm h61 L219
 replace h94 := fm h94 L219
 replace h96 := fm h96 L219
 replace h98 := fm h98 L219
 replace h100 := fm h100 L219
 replace h102 := fm h102 L219
 replace h104 := fm h104 L219
 replace h133 := fm h133 L219
 replace h135 := fm h135 L219
 replace h137 := fm h137 L219
 replace h139 := fm h139 L219
 replace h141 := fm h141 L219
 replace h172 := fm h172 L219
 replace h174 := fm h174 L219
 replace h176 := fm h176 L219
 replace h178 := fm h178 L219
 replace h180 := fm h180 L219
 replace h182 := fm h182 L219
 replace r210 := fm r210 L219
 replace E208 := PtrC.mono E208 L219
 have F221 := Fz220 (size := 1) (R := IntR) (xs := ([1, 0] : List Int)) (n := 2) (c := 2) rfl (Nat.le_refl _) (by simp [maxLen]) (rowInts _ ([1, 0] : List Int)); clear Fz220
 refine l_cg (d' := 58) (en_f (vs := [.slice A213 z204.length c214, .slice (some ⟨g216, 0, none⟩) 2 2]) (CF 16 _) rfl rfl) rfl rfl (Same_calls _ _ _ _ _ (fm r210 S.le) (fm F221 S.le)) ?_
 rintro e w222 ⟨rfl, k⟩
 have S := S.callq k; clear k
 have b223 : sameL z204 ([1, 0] : List Int) = true := by rw [hz1]; decide
 rw [b223]
 refine ckd ?_
 refine l_y (v := .bool true) S (y_pT rfl rfl) ?_
 refine l_y (v := .bool true) S (y_as rfl) ?_
 refine l_nil ?_
 refine n_seq ?_
 refine e_ret ?_
 refine ret1 (v := .bool true) rfl rfl ?_
 exact ⟨rfl, S.below⟩
end Go.Proofs.YtkjknlnhffmkkacGreat
