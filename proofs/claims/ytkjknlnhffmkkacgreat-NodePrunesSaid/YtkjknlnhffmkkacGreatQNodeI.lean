/- node.Issue. -/
import Derived.Test.YtkjknlnhffmkkacGreatQNodeO
import Derived.Test.YtkjknlnhffmkkacGreatQEngT
import Derived.Test.YtkjknlnhffmkkacGreatQPl
namespace Go.Proofs.YtkjknlnhffmkkacGreat
open Go.RowKit
set_option linter.unusedVariables false
theorem apply_len {s : State} {u : Upd} (h : (ApplyS s u).2 = 0) : (ApplyS s u).1.clock.length ≤ 6 := by
  obtain ⟨a, b, c⟩ := ApplyS_ok h
  rw [c]; exact (applyS_right a b).clock_len
set_option maxRecDepth 100000 in
set_option maxHeartbeats 8000000 in
theorem NIssue_c (rd : Rd) (W : World) (hle : Rd.le rd (wrd W)) (v v2 : Value) (d : Node) (u : Upd) (ru : Rd) (h : AggR NodeR rd v d) (h2 : AggR UpdR ru v2 u) :
    Calls Tryz.prog 21 #[v, v2] W (fun e w' => ∃ v', e = .returned (.tuple #[v', .int .i64 (IssueN d u).2]) ∧ AggR NodeR (ext rd W w') v' (IssueN d u).1 ∧ Below W.heap.size W w') := by
 obtain ⟨vs1, he, h⟩ := h; subst he
 obtain ⟨sv2, sv4, sv6, sv8, sv10, sv12, he, h3, h5, h7, h9, h11, h13⟩ := h; subst he
 obtain ⟨A14, c15, rfl, m16, m16'⟩ := h3.val
 obtain ⟨A17, c18, rfl, m19, m19'⟩ := h5.val
 obtain ⟨A20, c21, rfl, m22, m22'⟩ := h7.val
 obtain ⟨A23, c24, rfl, m25, m25'⟩ := h9.val
 obtain ⟨A26, c27, rfl, m28, m28'⟩ := h11.val
 obtain ⟨A29, c30, rfl, m31, m31'⟩ := h13.val
 obtain ⟨vs32, h2e, h2⟩ := h2; subst h2e
 obtain ⟨sv33, h2e, h34⟩ := h2; subst h2e
 obtain ⟨A35, c36, rfl, m37, m37'⟩ := h34.val
 have hmx : maxLen = 9223372036854775807 := rfl
 have S : St [] W rd rd [] [] W := St.start hle
 refine e_enter (args := [.agg #[ni d.self, .slice A14 d.state.clock.length c15, .slice A17 d.state.lives.length c18, .slice A20 d.state.tallies.length c21, .slice A23 d.base.length c24, .slice A26 d.log.length c27, .slice A29 d.known.length c30], .agg #[ni u.author, .slice A35 u.seen.length c36, ni u.kind, ni u.key, ni u.item]]) 59 Tryz.func21 rfl rfl rfl ?_
 refine e_seq ?_
 refine e_reg ?_
 refine l_bx (u := .agg #[ni d.self, .slice A14 d.state.clock.length c15, .slice A17 d.state.lives.length c18, .slice A20 d.state.tallies.length c21, .slice A23 d.base.length c24, .slice A26 d.log.length c27, .slice A29 d.known.length c30]) (cs := #[ni d.self, .slice A14 d.state.clock.length c15, .slice A17 d.state.lives.length c18, .slice A20 d.state.tallies.length c21, .slice A23 d.base.length c24, .slice A26 d.log.length c27, .slice A29 d.known.length c30]) S rfl rfl fun g38 w39 S => ?_
 refine l_bx (u := .agg #[ni u.author, .slice A35 u.seen.length c36, ni u.kind, ni u.key, ni u.item]) (cs := #[ni u.author, .slice A35 u.seen.length c36, ni u.kind, ni u.key, ni u.item]) S rfl rfl fun g40 w41 S => ?_
 refine l_al (cs := #[ni 0, .slice none 0 0, .slice none 0 0, .slice none 0 0, .slice none 0 0, .slice none 0 0, .slice none 0 0]) S Z31 rfl fun g42 w43 S => ?_
 refine l_y (v := ni 0) S (y_as rfl) ?_
 refine l_nil ?_
 refine n_seq ?_
 refine e_seq ?_
 refine e_seq ?_
 refine e_reg ?_
 refine l_y (v := .agg #[ni d.self, .slice A14 d.state.clock.length c15, .slice A17 d.state.lives.length c18, .slice A20 d.state.tallies.length c21, .slice A23 d.base.length c24, .slice A26 d.log.length c27, .slice A29 d.known.length c30]) S (y_ld rfl (fun w S => ld_bA (vs := [ni d.self, .slice A14 d.state.clock.length c15, .slice A17 d.state.lives.length c18, .slice A20 d.state.tallies.length c21, .slice A23 d.base.length c24, .slice A26 d.log.length c27, .slice A29 d.known.length c30]) (i := 0) S rfl T31 rfl rfl)) ?_
 refine l_c (en_f (vs := [.agg #[ni d.self, .slice A14 d.state.clock.length c15, .slice A17 d.state.lives.length c18, .slice A20 d.state.tallies.length c21, .slice A23 d.base.length c24, .slice A26 d.log.length c27, .slice A29 d.known.length c30]]) (CF 19 _) rfl rfl) (NWrong_c _ _ S.le _ d (⟨_, rfl, ⟨_, _, _, _, _, _, rfl, h3, h5, h7, h9, h11, h13⟩⟩ : AggR NodeR rd _ d)) ?_
 rintro e w44 ⟨rfl, k⟩
 have S := S.callq k; clear k
 refine ckd ?_
 refine l_y (v := ni (wrongN d)) S (y_as rfl) ?_
 refine l_nil ?_
 refine n_seq ?_
 refine e_seq ?_
 refine e_reg ?_
 refine l_y (v := ni (wrongN d)) S (y_mv rfl) ?_
 by_cases hW : wrongN d = 0
 ·
  refine l_y (v := .bool false) S (y_neF rfl rfl hW) ?_
  refine l_nil ?_
  refine n_seq ?_
  refine e_cF rfl ?_
  refine e_skip ?_
  refine n_seq ?_
  refine e_seq ?_
  refine e_a (fun w => St [] W rd rd [(g38, 31, #[ni d.self, .slice A14 d.state.clock.length c15, .slice A17 d.state.lives.length c18, .slice A20 d.state.tallies.length c21, .slice A23 d.base.length c24, .slice A26 d.log.length c27, .slice A29 d.known.length c30]), (g42, 31, #[ni 0, .slice none 0 0, .slice none 0 0, .slice none 0 0, .slice none 0 0, .slice none 0 0, .slice none 0 0])] [] w) MX rfl ?_
  have S := S.drew; have sup45 := S.sup
  have SC := ((S.tk 3 0 rfl rfl).del 1)
  have hr := wrongN_iff.1 hW
  have hl6 := hr.len
  have hl3 := hr.l
  have hkl := hr.k
  have hs0 := hr.a0
  have hs1 := hr.a1
  refine a_tk (v := pa g38 0) 0 rfl rfl SC rfl (y_fb FA31_0 rfl rfl) ?_
  refine a_tk (v := ni d.self) 1 rfl rfl SC rfl (y_ld rfl (fun w S => ld_b1 (i := 0) S rfl rfl T3)) ?_
  refine a_tk (v := pa g38 1) 2 rfl rfl SC rfl (y_fb FA31_1 rfl rfl) ?_
  refine a_tk (v := pa g38 1) 3 rfl rfl SC rfl (y_fb FA27_0 rfl rfl) ?_
  refine a_tk (v := .slice A14 d.state.clock.length c15) 4 rfl rfl SC rfl (y_ld rfl (fun w S => ld_b1 (i := 0) S rfl rfl T23)) ?_
  refine a_tk (v := pa g40 0) 6 rfl rfl SC rfl (y_fb FA42_0 rfl rfl) ?_
  refine a_all (rs := [5]) (by kernel_rfl) rfl ?_
  refine aa_cons rfl ?_ ?_
  ·
   refine l_c (en_f (vs := [.slice A14 d.state.clock.length c15]) (CF 45 _) rfl rfl) (CloneC_m _ _ S.le _ d.state.clock h3 (by omega)) ?_
   rintro e w46 ⟨v51, rfl, h52, k⟩
   obtain ⟨rd47, S, L48, N49, X50⟩ := S.call' k; clear k
   replace h3 := fm h3 L48
   replace h5 := fm h5 L48
   replace h7 := fm h7 L48
   replace h9 := fm h9 L48
   replace h11 := fm h11 L48
   replace h13 := fm h13 L48
   replace h52 := fm h52 X50
   obtain ⟨A53, c54, rfl, m55, m55'⟩ := h52.val
   refine ckd ?_
   refine l_nil ?_
   have SC := (((S.tk 3 0 rfl rfl).del 1).weak sup45 L48)
   refine n_lp (ak SC ?_)
   refine a_all (rs := [7]) (by kernel_rfl) rfl ?_
   refine aa_cons rfl ?_ ?_
   ·
    refine l_st (u := ni d.self) (i := 1) (cs' := #[ni d.self, .slice A35 u.seen.length c36, ni u.kind, ni u.key, ni u.item]) S rfl rfl rfl SZ3 rfl rfl rfl fun w56 S => ?_
    refine l_nil ?_
    have SC := (((S.tk 3 0 rfl rfl).del 1).weak sup45 L48)
    refine n_lp (ak SC ?_)
    refine a_tk (v := pa g40 1) 8 rfl rfl SC rfl (y_fb FA42_1 rfl rfl) ?_
    refine a_all (rs := [9]) (by kernel_rfl) rfl ?_
    refine aa_cons rfl ?_ ?_
    ·
     refine l_st (u := .slice A53 d.state.clock.length c54) (i := 1) (cs' := #[ni d.self, .slice A53 d.state.clock.length c54, ni u.kind, ni u.key, ni u.item]) S rfl rfl rfl SZ23 rfl rfl rfl fun w57 S => ?_
     refine l_nil ?_
     have SC := (((S.tk 3 0 rfl rfl).del 1).weak sup45 L48)
     refine n_lp (ak SC ?_)
     refine a_done (by kernel_rfl) ?_
     clear SC
     refine n_seq ?_
     refine e_seq ?_
     refine e_seq ?_
     refine e_reg ?_
     refine l_y (v := pa g38 5) S (y_fb FA31_3 rfl rfl) ?_
     refine l_y (v := .slice A26 d.log.length c27) S (y_ld rfl (fun w S => ld_b1 (i := 0) S rfl rfl T28)) ?_
     refine l_y (v := ni (d.log.length : Int)) S (y_len U28 rfl rfl) ?_
     by_cases hL : (d.log.length : Int) = 300
     ·
      refine l_y (v := .bool true) S (y_eqT rfl rfl hL) ?_
      refine l_nil ?_
      refine n_seq ?_
      refine e_cT rfl ?_
      refine e_seq ?_
      refine e_reg ?_
      refine l_y (v := .agg #[ni 0, .slice none 0 0, .slice none 0 0, .slice none 0 0, .slice none 0 0, .slice none 0 0, .slice none 0 0]) S (y_bd (ps := []) rfl (fun _ => by kernel_rfl)) ?_
      refine l_st (u := .agg #[ni 0, .slice none 0 0, .slice none 0 0, .slice none 0 0, .slice none 0 0, .slice none 0 0, .slice none 0 0]) (i := 2) (cs' := #[ni 0, .slice none 0 0, .slice none 0 0, .slice none 0 0, .slice none 0 0, .slice none 0 0, .slice none 0 0]) S rfl rfl rfl SZ31 rfl rfl rfl fun w58 S => ?_
      refine l_y (v := ni 5) S (y_as rfl) ?_
      refine l_nil ?_
      refine n_seq ?_
      refine e_ret ?_
      refine ret2 (v := .agg #[ni 0, .slice none 0 0, .slice none 0 0, .slice none 0 0, .slice none 0 0, .slice none 0 0, .slice none 0 0]) (v' := ni 5) rfl ⟨_, rfl, ld_bA (i := 2) (vs := [ni 0, .slice none 0 0, .slice none 0 0, .slice none 0 0, .slice none 0 0, .slice none 0 0, .slice none 0 0]) S rfl T31 rfl rfl⟩ rfl ?_
      have es : IssueN d u = ((⟨0, ⟨[], [], []⟩, [], [], []⟩ : Node), 5) := by unfold IssueN; rw [if_neg (fun q => q hW), if_pos (by omega)] <;> rfl
      rw [es]
      exact ⟨_, rfl, ⟨_, rfl, ⟨_, _, _, _, _, _, rfl, (SliceR.nil_ _), (SliceR.nil_ _), (SliceR.nil_ _), (SliceR.nil_ _), (SliceR.nil_ _), (SliceR.nil_ _)⟩⟩, S.below⟩
     refine l_y (v := .bool false) S (y_eqF rfl rfl hL) ?_
     refine l_nil ?_
     refine n_seq ?_
     refine e_cF rfl ?_
     refine e_skip ?_
     refine n_seq ?_
     refine e_seq ?_
     refine e_reg ?_
     refine l_y (v := pa g38 1) S (y_fb FA31_1 rfl rfl) ?_
     refine l_y (v := .agg #[.slice A14 d.state.clock.length c15, .slice A17 d.state.lives.length c18, .slice A20 d.state.tallies.length c21]) S (y_ld rfl (fun w S => ld_bA (vs := [.slice A14 d.state.clock.length c15, .slice A17 d.state.lives.length c18, .slice A20 d.state.tallies.length c21]) (i := 0) S rfl T27 rfl rfl)) ?_
     refine l_y (v := .agg #[ni d.self, .slice A53 d.state.clock.length c54, ni u.kind, ni u.key, ni u.item]) S (y_ld rfl (fun w S => ld_bA (vs := [ni d.self, .slice A53 d.state.clock.length c54, ni u.kind, ni u.key, ni u.item]) (i := 1) S rfl T42 rfl rfl)) ?_
     refine l_c (en_f (vs := [.agg #[.slice A14 d.state.clock.length c15, .slice A17 d.state.lives.length c18, .slice A20 d.state.tallies.length c21], .agg #[ni d.self, .slice A53 d.state.clock.length c54, ni u.kind, ni u.key, ni u.item]]) (CF 55 _) rfl rfl) (SApply_c _ _ S.le _ _ d.state (⟨d.self, d.state.clock, u.kind, u.key, u.item⟩ : Upd) (⟨_, rfl, ⟨_, _, _, rfl, h3, h5, h7⟩⟩ : AggR StateR rd47 _ d.state) (⟨_, rfl, ⟨_, rfl, h52⟩⟩ : AggR UpdR rd47 _ (⟨d.self, d.state.clock, u.kind, u.key, u.item⟩ : Upd))) ?_
     rintro e w59 ⟨v64, rfl, h65, k⟩
     obtain ⟨rd60, S, L61, N62, X63⟩ := S.call' k; clear k
     replace h3 := fm h3 L61
     replace h5 := fm h5 L61
     replace h7 := fm h7 L61
     replace h9 := fm h9 L61
     replace h11 := fm h11 L61
     replace h13 := fm h13 L61
     replace h52 := fm h52 L61
     replace h65 := am h65 X63
     obtain ⟨cs66, h65v, h65⟩ := h65; subst h65v
     obtain ⟨sv67, sv69, sv71, h65e, h68, h70, h72⟩ := h65; subst h65e
     obtain ⟨A73, c74, rfl, m75, m75'⟩ := h68.val
     obtain ⟨A76, c77, rfl, m78, m78'⟩ := h70.val
     obtain ⟨A79, c80, rfl, m81, m81'⟩ := h72.val
     refine ckd ?_
     refine l_y (v := .tuple #[.agg #[.slice A73 (((ApplyS d.state (⟨d.self, d.state.clock, u.kind, u.key, u.item⟩ : Upd)).1.clock).length) c74, .slice A76 (((ApplyS d.state (⟨d.self, d.state.clock, u.kind, u.key, u.item⟩ : Upd)).1.lives).length) c77, .slice A79 (((ApplyS d.state (⟨d.self, d.state.clock, u.kind, u.key, u.item⟩ : Upd)).1.tallies).length) c80], ni ((ApplyS d.state (⟨d.self, d.state.clock, u.kind, u.key, u.item⟩ : Upd)).2)]) S (y_mv rfl) ?_
     refine l_y (v := .agg #[.slice A73 (((ApplyS d.state (⟨d.self, d.state.clock, u.kind, u.key, u.item⟩ : Upd)).1.clock).length) c74, .slice A76 (((ApplyS d.state (⟨d.self, d.state.clock, u.kind, u.key, u.item⟩ : Upd)).1.lives).length) c77, .slice A79 (((ApplyS d.state (⟨d.self, d.state.clock, u.kind, u.key, u.item⟩ : Upd)).1.tallies).length) c80]) S (y_ex rfl rfl) ?_
     refine l_y (v := ni ((ApplyS d.state (⟨d.self, d.state.clock, u.kind, u.key, u.item⟩ : Upd)).2)) S (y_ex rfl rfl) ?_
     refine l_al (cs := #[.slice none 0 0, .slice none 0 0, .slice none 0 0]) S Z27 rfl fun g82 w83 S => ?_
     refine l_st (u := .agg #[.slice A73 (((ApplyS d.state (⟨d.self, d.state.clock, u.kind, u.key, u.item⟩ : Upd)).1.clock).length) c74, .slice A76 (((ApplyS d.state (⟨d.self, d.state.clock, u.kind, u.key, u.item⟩ : Upd)).1.lives).length) c77, .slice A79 (((ApplyS d.state (⟨d.self, d.state.clock, u.kind, u.key, u.item⟩ : Upd)).1.tallies).length) c80]) (i := 3) (cs' := #[.slice A73 (((ApplyS d.state (⟨d.self, d.state.clock, u.kind, u.key, u.item⟩ : Upd)).1.clock).length) c74, .slice A76 (((ApplyS d.state (⟨d.self, d.state.clock, u.kind, u.key, u.item⟩ : Upd)).1.lives).length) c77, .slice A79 (((ApplyS d.state (⟨d.self, d.state.clock, u.kind, u.key, u.item⟩ : Upd)).1.tallies).length) c80]) S rfl rfl rfl SZ27 rfl rfl rfl fun w84 S => ?_
     refine l_y (v := ni ((ApplyS d.state (⟨d.self, d.state.clock, u.kind, u.key, u.item⟩ : Upd)).2)) S (y_as rfl) ?_
     refine l_nil ?_
     refine n_seq ?_
     refine e_seq ?_
     refine e_seq ?_
     refine e_reg ?_
     refine l_y (v := ni ((ApplyS d.state (⟨d.self, d.state.clock, u.kind, u.key, u.item⟩ : Upd)).2)) S (y_mv rfl) ?_
     by_cases hA : (ApplyS d.state (⟨d.self, d.state.clock, u.kind, u.key, u.item⟩ : Upd)).2 = 0
     ·
      refine l_y (v := .bool false) S (y_neF rfl rfl hA) ?_
      refine l_nil ?_
      refine n_seq ?_
      refine e_cF rfl ?_
      refine e_skip ?_
      refine n_seq ?_
      refine e_seq ?_
      refine e_reg ?_
      refine l_y (v := .agg #[ni d.self, .slice A14 d.state.clock.length c15, .slice A17 d.state.lives.length c18, .slice A20 d.state.tallies.length c21, .slice A23 d.base.length c24, .slice A26 d.log.length c27, .slice A29 d.known.length c30]) S (y_ld rfl (fun w S => ld_bA (vs := [ni d.self, .slice A14 d.state.clock.length c15, .slice A17 d.state.lives.length c18, .slice A20 d.state.tallies.length c21, .slice A23 d.base.length c24, .slice A26 d.log.length c27, .slice A29 d.known.length c30]) (i := 0) S rfl T31 rfl rfl)) ?_
      refine l_c (en_f (vs := [.agg #[ni d.self, .slice A14 d.state.clock.length c15, .slice A17 d.state.lives.length c18, .slice A20 d.state.tallies.length c21, .slice A23 d.base.length c24, .slice A26 d.log.length c27, .slice A29 d.known.length c30]]) (CF 41 _) rfl rfl) (NOwn_c _ _ S.le _ d _ (⟨_, rfl, ⟨_, _, _, _, _, _, rfl, h3, h5, h7, h9, h11, h13⟩⟩ : AggR NodeR rd60 _ d) hr) ?_
      rintro e w85 ⟨A88, c89, A90, c91, A92, c93, A94, c95, A96, c97, xs100, A98, c99, xs101, rd86, rfl, k, f102, f103, f104, f105, O106, O107⟩
      have L87 := k.sup; have S := S.comp0 k; clear k
      replace h3 := fm h3 L87
      replace h5 := fm h5 L87
      replace h7 := fm h7 L87
      replace h9 := fm h9 L87
      replace h11 := fm h11 L87
      replace h13 := fm h13 L87
      replace h52 := fm h52 L87
      replace h68 := fm h68 L87
      replace h70 := fm h70 L87
      replace h72 := fm h72 L87
      refine ckd ?_
      obtain ⟨gK, rfl⟩ := own_atA S (i := 1) rfl rfl (show d.known.length ≠ 0 by omega)
      refine l_al (cs := #[ni 0, .slice none 0 0, .slice none 0 0, .slice none 0 0, .slice none 0 0, .slice none 0 0, .slice none 0 0]) S Z31 rfl fun g108 w109 S => ?_
      refine l_st (u := .agg #[ni d.self, .slice A88 d.state.clock.length c89, .slice A90 d.state.lives.length c91, .slice A92 d.state.tallies.length c93, .slice A94 d.base.length c95, .slice A96 d.log.length c97, .slice (some ⟨gK, 0, none⟩) d.known.length c99]) (i := 4) (cs' := #[ni d.self, .slice A88 d.state.clock.length c89, .slice A90 d.state.lives.length c91, .slice A92 d.state.tallies.length c93, .slice A94 d.base.length c95, .slice A96 d.log.length c97, .slice (some ⟨gK, 0, none⟩) d.known.length c99]) S rfl rfl rfl SZ31 rfl rfl rfl fun w110 S => ?_
      have S : St [] W rd rd86 [(g38, 31, #[ni d.self, .slice A14 d.state.clock.length c15, .slice A17 d.state.lives.length c18, .slice A20 d.state.tallies.length c21, .slice A23 d.base.length c24, .slice A26 d.log.length c27, .slice A29 d.known.length c30]), (g40, 42, #[ni d.self, .slice A53 d.state.clock.length c54, ni u.kind, ni u.key, ni u.item]), (g42, 31, #[ni 0, .slice none 0 0, .slice none 0 0, .slice none 0 0, .slice none 0 0, .slice none 0 0, .slice none 0 0]), (g82, 27, #[.slice A73 (((ApplyS d.state (⟨d.self, d.state.clock, u.kind, u.key, u.item⟩ : Upd)).1.clock).length) c74, .slice A76 (((ApplyS d.state (⟨d.self, d.state.clock, u.kind, u.key, u.item⟩ : Upd)).1.lives).length) c77, .slice A79 (((ApplyS d.state (⟨d.self, d.state.clock, u.kind, u.key, u.item⟩ : Upd)).1.tallies).length) c80]), (g108, 31, #[ni d.self, .slice A88 d.state.clock.length c89, .slice A90 d.state.lives.length c91, .slice A92 d.state.tallies.length c93, .slice A94 d.base.length c95, .slice A96 d.log.length c97, .slice (some ⟨gK, 0, none⟩) d.known.length c99])] [⟨42, 5, .slice A96 d.log.length c97, d.log.length, xs100⟩, ⟨23, 1, .slice (some ⟨gK, 0, none⟩) d.known.length c99, d.known.length, xs101⟩] _ := S.rw' rfl rfl
      refine l_nil ?_
      refine n_seq ?_
      refine e_cut (J := fun ov w => ∃ (A116 : Option Addr), ∃ (c117 : Nat), ∃ (g112 : Nat), ∃ rd' junk, ov = [(2, pa g38 0), (4, pa g42 0), (5, ni 0), (7, pa g82 0), (9, pa g108 0)] ++ junk ∧ St [] W rd rd' [(g38, 31, #[ni d.self, .slice A14 d.state.clock.length c15, .slice A17 d.state.lives.length c18, .slice A20 d.state.tallies.length c21, .slice A23 d.base.length c24, .slice A26 d.log.length c27, .slice A29 d.known.length c30]), (g40, 42, #[ni d.self, .slice A53 d.state.clock.length c54, ni u.kind, ni u.key, ni u.item]), (g42, 31, #[ni 0, .slice none 0 0, .slice none 0 0, .slice none 0 0, .slice none 0 0, .slice none 0 0, .slice none 0 0]), (g82, 27, #[.slice A73 (((ApplyS d.state (⟨d.self, d.state.clock, u.kind, u.key, u.item⟩ : Upd)).1.clock).length) c74, .slice A76 (((ApplyS d.state (⟨d.self, d.state.clock, u.kind, u.key, u.item⟩ : Upd)).1.lives).length) c77, .slice A79 (((ApplyS d.state (⟨d.self, d.state.clock, u.kind, u.key, u.item⟩ : Upd)).1.tallies).length) c80]), (g108, 31, #[ni d.self, .slice A73 (((ApplyS d.state (⟨d.self, d.state.clock, u.kind, u.key, u.item⟩ : Upd)).1.clock).length) c74, .slice A76 (((ApplyS d.state (⟨d.self, d.state.clock, u.kind, u.key, u.item⟩ : Upd)).1.lives).length) c77, .slice A79 (((ApplyS d.state (⟨d.self, d.state.clock, u.kind, u.key, u.item⟩ : Upd)).1.tallies).length) c80, .slice A94 d.base.length c95, .slice A116 (d.log.length + 1) c117, .slice (some ⟨gK, 0, none⟩) d.known.length c99]), (g112, 42, #[ni d.self, .slice A53 d.state.clock.length c54, ni u.kind, ni u.key, ni u.item])] [⟨42, 5, .slice A116 (d.log.length + 1) c117, d.log.length + 1, xs100 ++ [ni d.self, .slice A53 d.state.clock.length c54, ni u.kind, ni u.key, ni u.item]⟩, ⟨23, 1, .slice (some ⟨gK, 0, none⟩) d.known.length c99, d.known.length, xs101⟩] w ∧ Rd.le rd86 rd' ∧ RowR 5 UpdR rd' (xs100 ++ [ni d.self, .slice A53 d.state.clock.length c54, ni u.kind, ni u.key, ni u.item]) (d.log ++ [(⟨d.self, d.state.clock, u.kind, u.key, u.item⟩ : Upd)])) ?_ ?_
      ·
       refine e_a (fun w => St [] W rd rd86 [(g38, 31, #[ni d.self, .slice A14 d.state.clock.length c15, .slice A17 d.state.lives.length c18, .slice A20 d.state.tallies.length c21, .slice A23 d.base.length c24, .slice A26 d.log.length c27, .slice A29 d.known.length c30]), (g40, 42, #[ni d.self, .slice A53 d.state.clock.length c54, ni u.kind, ni u.key, ni u.item]), (g42, 31, #[ni 0, .slice none 0 0, .slice none 0 0, .slice none 0 0, .slice none 0 0, .slice none 0 0, .slice none 0 0]), (g82, 27, #[.slice A73 (((ApplyS d.state (⟨d.self, d.state.clock, u.kind, u.key, u.item⟩ : Upd)).1.clock).length) c74, .slice A76 (((ApplyS d.state (⟨d.self, d.state.clock, u.kind, u.key, u.item⟩ : Upd)).1.lives).length) c77, .slice A79 (((ApplyS d.state (⟨d.self, d.state.clock, u.kind, u.key, u.item⟩ : Upd)).1.tallies).length) c80])] [] w) MX rfl ?_
       have S := S.drew; have sup111 := S.sup
       have SC := ((S.tk 5 0 rfl rfl).del 4)
       refine a_tk (v := .agg #[.slice A73 (((ApplyS d.state (⟨d.self, d.state.clock, u.kind, u.key, u.item⟩ : Upd)).1.clock).length) c74, .slice A76 (((ApplyS d.state (⟨d.self, d.state.clock, u.kind, u.key, u.item⟩ : Upd)).1.lives).length) c77, .slice A79 (((ApplyS d.state (⟨d.self, d.state.clock, u.kind, u.key, u.item⟩ : Upd)).1.tallies).length) c80]) 0 rfl rfl SC rfl (y_ld rfl (fun w S => ld_bA (vs := [.slice A73 (((ApplyS d.state (⟨d.self, d.state.clock, u.kind, u.key, u.item⟩ : Upd)).1.clock).length) c74, .slice A76 (((ApplyS d.state (⟨d.self, d.state.clock, u.kind, u.key, u.item⟩ : Upd)).1.lives).length) c77, .slice A79 (((ApplyS d.state (⟨d.self, d.state.clock, u.kind, u.key, u.item⟩ : Upd)).1.tallies).length) c80]) (i := 3) S rfl T27 rfl rfl)) ?_
       refine a_tk (v := pa g108 5) 1 rfl rfl SC rfl (y_fb FA31_3 rfl rfl) ?_
       refine a_tk (v := .agg #[ni d.self, .slice A53 d.state.clock.length c54, ni u.kind, ni u.key, ni u.item]) 3 rfl rfl SC rfl (y_ld rfl (fun w S => ld_bA (vs := [ni d.self, .slice A53 d.state.clock.length c54, ni u.kind, ni u.key, ni u.item]) (i := 1) S rfl T42 rfl rfl)) ?_
       refine a_all (rs := [2, 4]) (by kernel_rfl) rfl ?_
       refine aa_cons rfl ?_ ?_
       ·
        refine l_y (v := .slice A96 d.log.length c97) S (y_ld rfl (fun w S => ld_b1 (i := 4) S rfl rfl T28)) ?_
        refine l_nil ?_
        have SC := ((S.tk 5 0 rfl rfl).del 4)
        refine n_lp (ak SC ?_)
        refine a_tk (v := pa g108 1) 6 rfl rfl SC rfl (y_fb FA31_1 rfl rfl) ?_
        refine a_all (rs := [4]) (by kernel_rfl) rfl ?_
        refine aa_cons rfl ?_ ?_
        ·
         refine l_bs (ps := [(0, .agg #[ni d.self, .slice A53 d.state.clock.length c54, ni u.kind, ni u.key, ni u.item])]) (cs := #[ni d.self, .slice A53 d.state.clock.length c54, ni u.kind, ni u.key, ni u.item]) S U28 SZ42 Z42 rfl rfl rfl (by kernel_rfl) fun g112 w113 S => ?_
         refine l_nil ?_
         have SC := ((S.tk 5 0 rfl rfl).del 4)
         refine n_lp (ak SC ?_)
         refine a_all (rs := [5]) (by kernel_rfl) rfl ?_
         refine aa_cons rfl ?_ ?_
         ·
          refine l_ap (e' := 0) (i := 0) (i' := 5) S K28 rfl rfl rfl rfl rfl rfl rfl (by simp only [maxLen]; omega) (by first | omega | (dsimp only; omega)) fun v114 w115 S => ?_
          have O106 := RowR.push (x := (⟨d.self, d.state.clock, u.kind, u.key, u.item⟩ : Upd)) (cs := [ni d.self, .slice A53 d.state.clock.length c54, ni u.kind, ni u.key, ni u.item]) O106 rfl ⟨_, rfl, h52⟩
          obtain ⟨A116, c117, m118e, m118, m118'⟩ : ∃ A c, v114 = .slice A (d.log.length + 1) c ∧ (d.log.length + 1) ≤ c ∧ c ≤ maxLen := own_len S (i := 0) rfl; subst m118e
          refine l_nil ?_
          have SC := ((S.tk 5 0 rfl rfl).del 4)
          refine n_lp (ak SC ?_)
          refine a_all (rs := [7]) (by kernel_rfl) rfl ?_
          refine aa_cons rfl ?_ ?_
          ·
           refine l_st (u := .agg #[.slice A73 (((ApplyS d.state (⟨d.self, d.state.clock, u.kind, u.key, u.item⟩ : Upd)).1.clock).length) c74, .slice A76 (((ApplyS d.state (⟨d.self, d.state.clock, u.kind, u.key, u.item⟩ : Upd)).1.lives).length) c77, .slice A79 (((ApplyS d.state (⟨d.self, d.state.clock, u.kind, u.key, u.item⟩ : Upd)).1.tallies).length) c80]) (i := 4) (cs' := #[ni d.self, .slice A73 (((ApplyS d.state (⟨d.self, d.state.clock, u.kind, u.key, u.item⟩ : Upd)).1.clock).length) c74, .slice A76 (((ApplyS d.state (⟨d.self, d.state.clock, u.kind, u.key, u.item⟩ : Upd)).1.lives).length) c77, .slice A79 (((ApplyS d.state (⟨d.self, d.state.clock, u.kind, u.key, u.item⟩ : Upd)).1.tallies).length) c80, .slice A94 d.base.length c95, .slice A96 d.log.length c97, .slice (some ⟨gK, 0, none⟩) d.known.length c99]) S rfl rfl rfl SZ27 rfl rfl rfl fun w119 S => ?_
           refine l_nil ?_
           have SC := ((S.tk 5 0 rfl rfl).del 4)
           refine n_lp (ak SC ?_)
           refine a_tk (v := pa g108 5) 8 rfl rfl SC rfl (y_fb FA31_3 rfl rfl) ?_
           refine a_all (rs := [9]) (by kernel_rfl) rfl ?_
           refine aa_cons rfl ?_ ?_
           ·
            refine l_st (u := .slice A116 (d.log.length + 1) c117) (i := 4) (cs' := #[ni d.self, .slice A73 (((ApplyS d.state (⟨d.self, d.state.clock, u.kind, u.key, u.item⟩ : Upd)).1.clock).length) c74, .slice A76 (((ApplyS d.state (⟨d.self, d.state.clock, u.kind, u.key, u.item⟩ : Upd)).1.lives).length) c77, .slice A79 (((ApplyS d.state (⟨d.self, d.state.clock, u.kind, u.key, u.item⟩ : Upd)).1.tallies).length) c80, .slice A94 d.base.length c95, .slice A116 (d.log.length + 1) c117, .slice (some ⟨gK, 0, none⟩) d.known.length c99]) S rfl rfl rfl SZ28 rfl rfl rfl fun w120 S => ?_
            refine l_nil ?_
            have SC := ((S.tk 5 0 rfl rfl).del 4)
            refine n_lp (ak SC ?_)
            refine a_done (by kernel_rfl) ?_
            clear SC
            refine n_lp ⟨_, fr_keep (m := [(2, pa g38 0), (4, pa g42 0), (5, ni 0), (7, pa g82 0), (9, pa g108 0)]) ⟨⟨rfl, rfl⟩, ⟨rfl, rfl⟩, ⟨rfl, rfl⟩, ⟨rfl, rfl⟩, ⟨rfl, rfl⟩, trivial⟩, A116, c117, g112, _, _, rfl, (S.tk 6 2 rfl rfl).rw' rfl rfl, (Rd.le_refl rd86), O106⟩
           exact aa_nil
          exact aa_nil
         exact aa_nil
        exact aa_nil
       refine aa_cons rfl ?_ ?_
       ·
        refine l_bs (ps := [(0, .agg #[ni d.self, .slice A53 d.state.clock.length c54, ni u.kind, ni u.key, ni u.item])]) (cs := #[ni d.self, .slice A53 d.state.clock.length c54, ni u.kind, ni u.key, ni u.item]) S U28 SZ42 Z42 rfl rfl rfl (by kernel_rfl) fun g121 w122 S => ?_
        refine l_nil ?_
        have SC := ((S.tk 5 0 rfl rfl).del 4)
        refine n_lp (ak SC ?_)
        refine a_all (rs := [2]) (by kernel_rfl) rfl ?_
        refine aa_cons rfl ?_ ?_
        ·
         refine l_y (v := .slice A96 d.log.length c97) S (y_ld rfl (fun w S => ld_b1 (i := 4) S rfl rfl T28)) ?_
         refine l_nil ?_
         have SC := ((S.tk 5 0 rfl rfl).del 4)
         refine n_lp (ak SC ?_)
         refine a_tk (v := pa g108 1) 6 rfl rfl SC rfl (y_fb FA31_1 rfl rfl) ?_
         refine a_all (rs := [5]) (by kernel_rfl) rfl ?_
         refine aa_cons rfl ?_ ?_
         ·
          refine l_ap (e' := 0) (i := 0) (i' := 5) S K28 rfl rfl rfl rfl rfl rfl rfl (by simp only [maxLen]; omega) (by first | omega | (dsimp only; omega)) fun v123 w124 S => ?_
          have O106 := RowR.push (x := (⟨d.self, d.state.clock, u.kind, u.key, u.item⟩ : Upd)) (cs := [ni d.self, .slice A53 d.state.clock.length c54, ni u.kind, ni u.key, ni u.item]) O106 rfl ⟨_, rfl, h52⟩
          obtain ⟨A125, c126, m127e, m127, m127'⟩ : ∃ A c, v123 = .slice A (d.log.length + 1) c ∧ (d.log.length + 1) ≤ c ∧ c ≤ maxLen := own_len S (i := 0) rfl; subst m127e
          refine l_nil ?_
          have SC := ((S.tk 5 0 rfl rfl).del 4)
          refine n_lp (ak SC ?_)
          refine a_all (rs := [7]) (by kernel_rfl) rfl ?_
          refine aa_cons rfl ?_ ?_
          ·
           refine l_st (u := .agg #[.slice A73 (((ApplyS d.state (⟨d.self, d.state.clock, u.kind, u.key, u.item⟩ : Upd)).1.clock).length) c74, .slice A76 (((ApplyS d.state (⟨d.self, d.state.clock, u.kind, u.key, u.item⟩ : Upd)).1.lives).length) c77, .slice A79 (((ApplyS d.state (⟨d.self, d.state.clock, u.kind, u.key, u.item⟩ : Upd)).1.tallies).length) c80]) (i := 4) (cs' := #[ni d.self, .slice A73 (((ApplyS d.state (⟨d.self, d.state.clock, u.kind, u.key, u.item⟩ : Upd)).1.clock).length) c74, .slice A76 (((ApplyS d.state (⟨d.self, d.state.clock, u.kind, u.key, u.item⟩ : Upd)).1.lives).length) c77, .slice A79 (((ApplyS d.state (⟨d.self, d.state.clock, u.kind, u.key, u.item⟩ : Upd)).1.tallies).length) c80, .slice A94 d.base.length c95, .slice A96 d.log.length c97, .slice (some ⟨gK, 0, none⟩) d.known.length c99]) S rfl rfl rfl SZ27 rfl rfl rfl fun w128 S => ?_
           refine l_nil ?_
           have SC := ((S.tk 5 0 rfl rfl).del 4)
           refine n_lp (ak SC ?_)
           refine a_tk (v := pa g108 5) 8 rfl rfl SC rfl (y_fb FA31_3 rfl rfl) ?_
           refine a_all (rs := [9]) (by kernel_rfl) rfl ?_
           refine aa_cons rfl ?_ ?_
           ·
            refine l_st (u := .slice A125 (d.log.length + 1) c126) (i := 4) (cs' := #[ni d.self, .slice A73 (((ApplyS d.state (⟨d.self, d.state.clock, u.kind, u.key, u.item⟩ : Upd)).1.clock).length) c74, .slice A76 (((ApplyS d.state (⟨d.self, d.state.clock, u.kind, u.key, u.item⟩ : Upd)).1.lives).length) c77, .slice A79 (((ApplyS d.state (⟨d.self, d.state.clock, u.kind, u.key, u.item⟩ : Upd)).1.tallies).length) c80, .slice A94 d.base.length c95, .slice A125 (d.log.length + 1) c126, .slice (some ⟨gK, 0, none⟩) d.known.length c99]) S rfl rfl rfl SZ28 rfl rfl rfl fun w129 S => ?_
            refine l_nil ?_
            have SC := ((S.tk 5 0 rfl rfl).del 4)
            refine n_lp (ak SC ?_)
            refine a_done (by kernel_rfl) ?_
            clear SC
            refine n_lp ⟨_, fr_keep (m := [(2, pa g38 0), (4, pa g42 0), (5, ni 0), (7, pa g82 0), (9, pa g108 0)]) ⟨⟨rfl, rfl⟩, ⟨rfl, rfl⟩, ⟨rfl, rfl⟩, ⟨rfl, rfl⟩, ⟨rfl, rfl⟩, trivial⟩, A125, c126, g121, _, _, rfl, (S.tk 6 2 rfl rfl).rw' rfl rfl, (Rd.le_refl rd86), O106⟩
           exact aa_nil
          exact aa_nil
         exact aa_nil
        exact aa_nil
       exact aa_nil
      rintro ov133 w132 ⟨A116, c117, g112, rd130, junk, rfl, S, L131, O106⟩
      replace h3 := fm h3 L131
      replace h5 := fm h5 L131
      replace h7 := fm h7 L131
      replace h9 := fm h9 L131
      replace h11 := fm h11 L131
      replace h13 := fm h13 L131
      replace h52 := fm h52 L131
      replace h68 := fm h68 L131
      replace h70 := fm h70 L131
      replace h72 := fm h72 L131
      replace f105 := fm f105 L131
      replace O107 := rm O107 L131
      refine e_seq ?_
      refine e_a (fun w => St [] W rd rd130 [(g38, 31, #[ni d.self, .slice A14 d.state.clock.length c15, .slice A17 d.state.lives.length c18, .slice A20 d.state.tallies.length c21, .slice A23 d.base.length c24, .slice A26 d.log.length c27, .slice A29 d.known.length c30]), (g40, 42, #[ni d.self, .slice A53 d.state.clock.length c54, ni u.kind, ni u.key, ni u.item]), (g42, 31, #[ni 0, .slice none 0 0, .slice none 0 0, .slice none 0 0, .slice none 0 0, .slice none 0 0, .slice none 0 0]), (g82, 27, #[.slice A73 (((ApplyS d.state (⟨d.self, d.state.clock, u.kind, u.key, u.item⟩ : Upd)).1.clock).length) c74, .slice A76 (((ApplyS d.state (⟨d.self, d.state.clock, u.kind, u.key, u.item⟩ : Upd)).1.lives).length) c77, .slice A79 (((ApplyS d.state (⟨d.self, d.state.clock, u.kind, u.key, u.item⟩ : Upd)).1.tallies).length) c80]), (g108, 31, #[ni d.self, .slice A73 (((ApplyS d.state (⟨d.self, d.state.clock, u.kind, u.key, u.item⟩ : Upd)).1.clock).length) c74, .slice A76 (((ApplyS d.state (⟨d.self, d.state.clock, u.kind, u.key, u.item⟩ : Upd)).1.lives).length) c77, .slice A79 (((ApplyS d.state (⟨d.self, d.state.clock, u.kind, u.key, u.item⟩ : Upd)).1.tallies).length) c80, .slice A94 d.base.length c95, .slice A116 (d.log.length + 1) c117, .slice (some ⟨gK, 0, none⟩) d.known.length c99]), (g112, 42, #[ni d.self, .slice A53 d.state.clock.length c54, ni u.kind, ni u.key, ni u.item])] [] w) MX rfl ?_
      have S := S.drew; have sup134 := S.sup
      have SC := (S.tk 6 0 rfl rfl)
      have hsl := apply_len hA
      refine a_tk (v := pa g108 6) 0 rfl rfl SC rfl (y_fb FA31_4 rfl rfl) ?_
      refine a_tk (v := .slice (some ⟨gK, 0, none⟩) d.known.length c99) 1 rfl rfl SC rfl (y_ld rfl (fun w S => ld_b1 (i := 4) S rfl rfl T29)) ?_
      refine a_tk (v := pa g38 0) 2 rfl rfl SC rfl (y_fb FA31_0 rfl rfl) ?_
      refine a_tk (v := ni d.self) 3 rfl rfl SC rfl (y_ld rfl (fun w S => ld_b1 (i := 0) S rfl rfl T3)) ?_
      refine a_tk (v := pa g82 0) 4 rfl rfl SC rfl (y_fb FA27_0 rfl rfl) ?_
      refine a_tk (v := .slice A73 (((ApplyS d.state (⟨d.self, d.state.clock, u.kind, u.key, u.item⟩ : Upd)).1.clock).length) c74) 5 rfl rfl SC rfl (y_ld rfl (fun w S => ld_b1 (i := 3) S rfl rfl T23)) ?_
      refine a_all (rs := [6]) (by kernel_rfl) rfl ?_
      refine aa_cons rfl ?_ ?_
      ·
       refine l_c (en_f (vs := [.slice A73 (((ApplyS d.state (⟨d.self, d.state.clock, u.kind, u.key, u.item⟩ : Upd)).1.clock).length) c74]) (CF 45 _) rfl rfl) (CloneC_m _ _ S.le _ ((ApplyS d.state (⟨d.self, d.state.clock, u.kind, u.key, u.item⟩ : Upd)).1.clock) h68 (by omega)) ?_
       rintro e w135 ⟨v140, rfl, h141, k⟩
       obtain ⟨rd136, S, L137, N138, X139⟩ := S.call' k; clear k
       replace h3 := fm h3 L137
       replace h5 := fm h5 L137
       replace h7 := fm h7 L137
       replace h9 := fm h9 L137
       replace h11 := fm h11 L137
       replace h13 := fm h13 L137
       replace h52 := fm h52 L137
       replace h68 := fm h68 L137
       replace h70 := fm h70 L137
       replace h72 := fm h72 L137
       replace f105 := fm f105 L137
       replace O107 := rm O107 L137
       replace O106 := rm O106 L137
       replace h141 := fm h141 X139
       obtain ⟨A142, c143, rfl, m144, m144'⟩ := h141.val
       refine ckd ?_
       refine l_nil ?_
       have SC := ((S.tk 6 0 rfl rfl).weak sup134 L137)
       refine n_lp (ak SC ?_)
       refine a_tk (v := pa gK (d.self.toNat * 1)) 7 rfl rfl SC rfl (y_ibs (k := d.self.toNat) U29 SZ23 (by omega) (Nat.zero_add _) rfl rfl (by omega)) ?_
       refine a_all (rs := [8]) (by kernel_rfl) rfl ?_
       refine aa_cons rfl ?_ ?_
       ·
        have O146 : RowR 1 (SlC 1 IntR) rd136 ((xs101).take (d.self.toNat * 1) ++ ([.slice A142 (((ApplyS d.state (⟨d.self, d.state.clock, u.kind, u.key, u.item⟩ : Upd)).1.clock).length) c143] : List Value) ++ (xs101).drop (d.self.toNat * 1 + 1)) ((d.known).set d.self.toNat ((ApplyS d.state (⟨d.self, d.state.clock, u.kind, u.key, u.item⟩ : Upd)).1.clock)) := RowR.put (k := d.self.toNat) (cs := [.slice A142 (((ApplyS d.state (⟨d.self, d.state.clock, u.kind, u.key, u.item⟩ : Upd)).1.clock).length) c143]) O107 (show d.self.toNat < d.known.length by omega) rfl (show (SlC 1 IntR) rd136 [.slice A142 (((ApplyS d.state (⟨d.self, d.state.clock, u.kind, u.key, u.item⟩ : Upd)).1.clock).length) c143] ((ApplyS d.state (⟨d.self, d.state.clock, u.kind, u.key, u.item⟩ : Upd)).1.clock) from ⟨_, rfl, h141⟩)
        have xl147 := (O107).len
        refine l_so (u := .slice A142 (((ApplyS d.state (⟨d.self, d.state.clock, u.kind, u.key, u.item⟩ : Upd)).1.clock).length) c143) (i := 1) (xs' := ((xs101).take (d.self.toNat * 1) ++ ([.slice A142 (((ApplyS d.state (⟨d.self, d.state.clock, u.kind, u.key, u.item⟩ : Upd)).1.clock).length) c143] : List Value) ++ (xs101).drop (d.self.toNat * 1 + 1))) S rfl rfl rfl rfl SZ23 (show d.self.toNat * 1 + 1 ≤ (xs101).length by rw [xl147]; have := (show d.self.toNat < d.known.length by omega); omega) rfl rfl fun w145 S => ?_
        refine l_nil ?_
        have SC := ((S.tk 6 0 rfl rfl).weak sup134 L137)
        refine n_lp (ak SC ?_)
        refine a_done (by kernel_rfl) ?_
        clear SC
        refine n_seq ?_
        refine e_seq ?_
        refine e_reg ?_
        refine l_y (v := .agg #[ni d.self, .slice A73 (((ApplyS d.state (⟨d.self, d.state.clock, u.kind, u.key, u.item⟩ : Upd)).1.clock).length) c74, .slice A76 (((ApplyS d.state (⟨d.self, d.state.clock, u.kind, u.key, u.item⟩ : Upd)).1.lives).length) c77, .slice A79 (((ApplyS d.state (⟨d.self, d.state.clock, u.kind, u.key, u.item⟩ : Upd)).1.tallies).length) c80, .slice A94 d.base.length c95, .slice A116 (d.log.length + 1) c117, .slice (some ⟨gK, 0, none⟩) d.known.length c99]) S (y_ld rfl (fun w S => ld_bA (vs := [ni d.self, .slice A73 (((ApplyS d.state (⟨d.self, d.state.clock, u.kind, u.key, u.item⟩ : Upd)).1.clock).length) c74, .slice A76 (((ApplyS d.state (⟨d.self, d.state.clock, u.kind, u.key, u.item⟩ : Upd)).1.lives).length) c77, .slice A79 (((ApplyS d.state (⟨d.self, d.state.clock, u.kind, u.key, u.item⟩ : Upd)).1.tallies).length) c80, .slice A94 d.base.length c95, .slice A116 (d.log.length + 1) c117, .slice (some ⟨gK, 0, none⟩) d.known.length c99]) (i := 4) S rfl T31 rfl rfl)) ?_
        refine l_st (u := .agg #[ni d.self, .slice A73 (((ApplyS d.state (⟨d.self, d.state.clock, u.kind, u.key, u.item⟩ : Upd)).1.clock).length) c74, .slice A76 (((ApplyS d.state (⟨d.self, d.state.clock, u.kind, u.key, u.item⟩ : Upd)).1.lives).length) c77, .slice A79 (((ApplyS d.state (⟨d.self, d.state.clock, u.kind, u.key, u.item⟩ : Upd)).1.tallies).length) c80, .slice A94 d.base.length c95, .slice A116 (d.log.length + 1) c117, .slice (some ⟨gK, 0, none⟩) d.known.length c99]) (i := 2) (cs' := #[ni d.self, .slice A73 (((ApplyS d.state (⟨d.self, d.state.clock, u.kind, u.key, u.item⟩ : Upd)).1.clock).length) c74, .slice A76 (((ApplyS d.state (⟨d.self, d.state.clock, u.kind, u.key, u.item⟩ : Upd)).1.lives).length) c77, .slice A79 (((ApplyS d.state (⟨d.self, d.state.clock, u.kind, u.key, u.item⟩ : Upd)).1.tallies).length) c80, .slice A94 d.base.length c95, .slice A116 (d.log.length + 1) c117, .slice (some ⟨gK, 0, none⟩) d.known.length c99]) S rfl rfl rfl SZ31 rfl rfl rfl fun w148 S => ?_
        refine l_y (v := ni 0) S (y_as rfl) ?_
        refine l_nil ?_
        refine n_seq ?_
        refine e_ret ?_
        refine ret2 (v := .agg #[ni d.self, .slice A73 (((ApplyS d.state (⟨d.self, d.state.clock, u.kind, u.key, u.item⟩ : Upd)).1.clock).length) c74, .slice A76 (((ApplyS d.state (⟨d.self, d.state.clock, u.kind, u.key, u.item⟩ : Upd)).1.lives).length) c77, .slice A79 (((ApplyS d.state (⟨d.self, d.state.clock, u.kind, u.key, u.item⟩ : Upd)).1.tallies).length) c80, .slice A94 d.base.length c95, .slice A116 (d.log.length + 1) c117, .slice (some ⟨gK, 0, none⟩) d.known.length c99]) (v' := ni 0) rfl ⟨_, rfl, ld_bA (i := 2) (vs := [ni d.self, .slice A73 (((ApplyS d.state (⟨d.self, d.state.clock, u.kind, u.key, u.item⟩ : Upd)).1.clock).length) c74, .slice A76 (((ApplyS d.state (⟨d.self, d.state.clock, u.kind, u.key, u.item⟩ : Upd)).1.lives).length) c77, .slice A79 (((ApplyS d.state (⟨d.self, d.state.clock, u.kind, u.key, u.item⟩ : Upd)).1.tallies).length) c80, .slice A94 d.base.length c95, .slice A116 (d.log.length + 1) c117, .slice (some ⟨gK, 0, none⟩) d.known.length c99]) S rfl T31 rfl rfl⟩ rfl ?_
        have es : IssueN d u = ((⟨d.self, (ApplyS d.state (⟨d.self, d.state.clock, u.kind, u.key, u.item⟩ : Upd)).1, d.base, d.log ++ [(⟨d.self, d.state.clock, u.kind, u.key, u.item⟩ : Upd)], (d.known).set d.self.toNat ((ApplyS d.state (⟨d.self, d.state.clock, u.kind, u.key, u.item⟩ : Upd)).1.clock)⟩ : Node), 0) := by unfold IssueN; rw [if_neg (fun q => q hW), if_neg (by omega), if_neg (fun q => q (show (ApplyS d.state (upN d u)).2 = 0 from hA))] <;> rfl
        rw [es]
        exact ⟨_, rfl, ⟨_, rfl, ⟨_, _, _, _, _, _, rfl, (fm h68 S.out), (fm h70 S.out), (fm h72 S.out), (fm f105 S.out), (S.rowOut (i := 0) rfl rfl (by first | rfl | (simp; done) | omega) rfl O106), (S.rowOut (i := 1) rfl rfl (by first | (simp; done) | (simp; omega)) rfl O146)⟩⟩, S.below⟩
       exact aa_nil
      exact aa_nil
     refine l_y (v := .bool true) S (y_neT rfl rfl hA) ?_
     refine l_nil ?_
     refine n_seq ?_
     refine e_cT rfl ?_
     refine e_seq ?_
     refine e_reg ?_
     refine l_y (v := .agg #[ni 0, .slice none 0 0, .slice none 0 0, .slice none 0 0, .slice none 0 0, .slice none 0 0, .slice none 0 0]) S (y_bd (ps := []) rfl (fun _ => by kernel_rfl)) ?_
     refine l_y (v := ni ((ApplyS d.state (⟨d.self, d.state.clock, u.kind, u.key, u.item⟩ : Upd)).2)) S (y_mv rfl) ?_
     refine l_st (u := .agg #[ni 0, .slice none 0 0, .slice none 0 0, .slice none 0 0, .slice none 0 0, .slice none 0 0, .slice none 0 0]) (i := 2) (cs' := #[ni 0, .slice none 0 0, .slice none 0 0, .slice none 0 0, .slice none 0 0, .slice none 0 0, .slice none 0 0]) S rfl rfl rfl SZ31 rfl rfl rfl fun w149 S => ?_
     have S : St [] W rd rd60 [(g38, 31, #[ni d.self, .slice A14 d.state.clock.length c15, .slice A17 d.state.lives.length c18, .slice A20 d.state.tallies.length c21, .slice A23 d.base.length c24, .slice A26 d.log.length c27, .slice A29 d.known.length c30]), (g40, 42, #[ni d.self, .slice A53 d.state.clock.length c54, ni u.kind, ni u.key, ni u.item]), (g42, 31, #[ni 0, .slice none 0 0, .slice none 0 0, .slice none 0 0, .slice none 0 0, .slice none 0 0, .slice none 0 0]), (g82, 27, #[.slice A73 (((ApplyS d.state (⟨d.self, d.state.clock, u.kind, u.key, u.item⟩ : Upd)).1.clock).length) c74, .slice A76 (((ApplyS d.state (⟨d.self, d.state.clock, u.kind, u.key, u.item⟩ : Upd)).1.lives).length) c77, .slice A79 (((ApplyS d.state (⟨d.self, d.state.clock, u.kind, u.key, u.item⟩ : Upd)).1.tallies).length) c80])] [] _ := S.rw' rfl rfl
     refine l_y (v := ni ((ApplyS d.state (⟨d.self, d.state.clock, u.kind, u.key, u.item⟩ : Upd)).2)) S (y_as rfl) ?_
     refine l_nil ?_
     refine n_seq ?_
     refine e_ret ?_
     refine ret2 (v := .agg #[ni 0, .slice none 0 0, .slice none 0 0, .slice none 0 0, .slice none 0 0, .slice none 0 0, .slice none 0 0]) (v' := ni ((ApplyS d.state (⟨d.self, d.state.clock, u.kind, u.key, u.item⟩ : Upd)).2)) rfl ⟨_, rfl, ld_bA (i := 2) (vs := [ni 0, .slice none 0 0, .slice none 0 0, .slice none 0 0, .slice none 0 0, .slice none 0 0, .slice none 0 0]) S rfl T31 rfl rfl⟩ rfl ?_
     have es : IssueN d u = ((⟨0, ⟨[], [], []⟩, [], [], []⟩ : Node), (ApplyS d.state (⟨d.self, d.state.clock, u.kind, u.key, u.item⟩ : Upd)).2) := by unfold IssueN; rw [if_neg (fun q => q hW), if_neg (by omega), if_pos (show (ApplyS d.state (upN d u)).2 ≠ 0 from hA)] <;> rfl
     rw [es]
     exact ⟨_, rfl, ⟨_, rfl, ⟨_, _, _, _, _, _, rfl, (SliceR.nil_ _), (SliceR.nil_ _), (SliceR.nil_ _), (SliceR.nil_ _), (SliceR.nil_ _), (SliceR.nil_ _)⟩⟩, S.below⟩
    exact aa_nil
   exact aa_nil
  exact aa_nil
 refine l_y (v := .bool true) S (y_neT rfl rfl hW) ?_
 refine l_nil ?_
 refine n_seq ?_
 refine e_cT rfl ?_
 refine e_seq ?_
 refine e_reg ?_
 refine l_y (v := .agg #[ni 0, .slice none 0 0, .slice none 0 0, .slice none 0 0, .slice none 0 0, .slice none 0 0, .slice none 0 0]) S (y_bd (ps := []) rfl (fun _ => by kernel_rfl)) ?_
 refine l_y (v := ni (wrongN d)) S (y_mv rfl) ?_
 refine l_st (u := .agg #[ni 0, .slice none 0 0, .slice none 0 0, .slice none 0 0, .slice none 0 0, .slice none 0 0, .slice none 0 0]) (i := 2) (cs' := #[ni 0, .slice none 0 0, .slice none 0 0, .slice none 0 0, .slice none 0 0, .slice none 0 0, .slice none 0 0]) S rfl rfl rfl SZ31 rfl rfl rfl fun w150 S => ?_
 refine l_y (v := ni (wrongN d)) S (y_as rfl) ?_
 refine l_nil ?_
 refine n_seq ?_
 refine e_ret ?_
 refine ret2 (v := .agg #[ni 0, .slice none 0 0, .slice none 0 0, .slice none 0 0, .slice none 0 0, .slice none 0 0, .slice none 0 0]) (v' := ni (wrongN d)) rfl ⟨_, rfl, ld_bA (i := 2) (vs := [ni 0, .slice none 0 0, .slice none 0 0, .slice none 0 0, .slice none 0 0, .slice none 0 0, .slice none 0 0]) S rfl T31 rfl rfl⟩ rfl ?_
 have es : IssueN d u = ((⟨0, ⟨[], [], []⟩, [], [], []⟩ : Node), wrongN d) := by unfold IssueN; rw [if_pos hW] <;> rfl
 rw [es]
 exact ⟨_, rfl, ⟨_, rfl, ⟨_, _, _, _, _, _, rfl, (SliceR.nil_ _), (SliceR.nil_ _), (SliceR.nil_ _), (SliceR.nil_ _), (SliceR.nil_ _), (SliceR.nil_ _)⟩⟩, S.below⟩
end Go.Proofs.YtkjknlnhffmkkacGreat
