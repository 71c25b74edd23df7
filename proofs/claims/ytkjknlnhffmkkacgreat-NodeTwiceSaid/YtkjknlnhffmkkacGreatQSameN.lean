/- pruneref4.SameNode. -/
import Derived.Test.YtkjknlnhffmkkacGreatQSame
import Derived.Test.YtkjknlnhffmkkacGreatQSameLog
import Derived.Test.YtkjknlnhffmkkacGreatQNodeR
namespace Go.Proofs.YtkjknlnhffmkkacGreat
open Go.RowKit
set_option linter.unusedVariables false
def sameN (a b : Node) : Bool := decide (a = b)
theorem same_node {a b : Node} (h1 : a.self = b.self) (h2 : sameS a.state b.state = true) (h3 : sameL a.base b.base = true) (h4 : sameLg a.log b.log = true) (h5 : a.known = b.known) : a = b := by
  obtain ⟨s, t, c, l, k⟩ := a
  obtain ⟨s', t', c', l', k'⟩ := b
  have e2 : t = t' := of_decide_eq_true h2
  have e3 : c = c' := of_decide_eq_true h3
  have e4 : l = l' := of_decide_eq_true h4
  dsimp only at h1 h5
  rw [h1, e2, e3, e4, h5]
set_option maxRecDepth 100000 in
set_option maxHeartbeats 4000000 in
theorem SameN_c (rd : Rd) (W : World) (hle : Rd.le rd (wrd W)) (v v2 : Value) (a b : Node) (h : AggR NodeR rd v a) (h2 : AggR NodeR rd v2 b) :
    Calls Tryz.prog 15 #[v, v2] W (fun e w' => e = .returned (.bool (sameN a b)) ∧ Below W.heap.size W w') := by
 obtain ⟨vs1, he, h⟩ := h; subst he
 obtain ⟨sv2, sv4, sv6, sv8, sv10, sv12, he, h3, h5, h7, h9, h11, h13⟩ := h; subst he
 obtain ⟨A14, c15, rfl, m16, m16'⟩ := h3.val
 obtain ⟨A17, c18, rfl, m19, m19'⟩ := h5.val
 obtain ⟨A20, c21, rfl, m22, m22'⟩ := h7.val
 obtain ⟨A23, c24, rfl, m25, m25'⟩ := h9.val
 obtain ⟨A26, c27, rfl, m28, m28'⟩ := h11.val
 obtain ⟨A29, c30, rfl, m31, m31'⟩ := h13.val
 obtain ⟨vs32, h2e, h2⟩ := h2; subst h2e
 obtain ⟨sv33, sv35, sv37, sv39, sv41, sv43, h2e, h34, h36, h38, h40, h42, h44⟩ := h2; subst h2e
 obtain ⟨A45, c46, rfl, m47, m47'⟩ := h34.val
 obtain ⟨A48, c49, rfl, m50, m50'⟩ := h36.val
 obtain ⟨A51, c52, rfl, m53, m53'⟩ := h38.val
 obtain ⟨A54, c55, rfl, m56, m56'⟩ := h40.val
 obtain ⟨A57, c58, rfl, m59, m59'⟩ := h42.val
 obtain ⟨A60, c61, rfl, m62, m62'⟩ := h44.val
 have hmx : maxLen = 9223372036854775807 := rfl
 have S : St [] W rd rd [] [] W := St.start hle
 refine e_enter (args := [.agg #[ni a.self, .slice A14 a.state.clock.length c15, .slice A17 a.state.lives.length c18, .slice A20 a.state.tallies.length c21, .slice A23 a.base.length c24, .slice A26 a.log.length c27, .slice A29 a.known.length c30], .agg #[ni b.self, .slice A45 b.state.clock.length c46, .slice A48 b.state.lives.length c49, .slice A51 b.state.tallies.length c52, .slice A54 b.base.length c55, .slice A57 b.log.length c58, .slice A60 b.known.length c61]]) 63 Tryz.func15 rfl rfl rfl ?_
 refine e_seq ?_
 refine e_reg ?_
 refine l_bx (u := .agg #[ni a.self, .slice A14 a.state.clock.length c15, .slice A17 a.state.lives.length c18, .slice A20 a.state.tallies.length c21, .slice A23 a.base.length c24, .slice A26 a.log.length c27, .slice A29 a.known.length c30]) (cs := #[ni a.self, .slice A14 a.state.clock.length c15, .slice A17 a.state.lives.length c18, .slice A20 a.state.tallies.length c21, .slice A23 a.base.length c24, .slice A26 a.log.length c27, .slice A29 a.known.length c30]) S rfl rfl fun g63 w65 S => ?_
 refine l_bx (u := .agg #[ni b.self, .slice A45 b.state.clock.length c46, .slice A48 b.state.lives.length c49, .slice A51 b.state.tallies.length c52, .slice A54 b.base.length c55, .slice A57 b.log.length c58, .slice A60 b.known.length c61]) (cs := #[ni b.self, .slice A45 b.state.clock.length c46, .slice A48 b.state.lives.length c49, .slice A51 b.state.tallies.length c52, .slice A54 b.base.length c55, .slice A57 b.log.length c58, .slice A60 b.known.length c61]) S rfl rfl fun g66 w67 S => ?_
 refine l_y (v := .bool false) S (y_as rfl) ?_
 refine l_nil ?_
 refine n_seq ?_
 refine e_seq ?_
 refine e_seq ?_
 refine e_reg ?_
 refine l_y (v := pa g63 0) S (y_fb FA31_0 rfl rfl) ?_
 refine l_y (v := ni a.self) S (y_ld rfl (fun w S => ld_b1 (i := 0) S rfl rfl T3)) ?_
 refine l_y (v := pa g66 0) S (y_fb FA31_0 rfl rfl) ?_
 refine l_y (v := ni b.self) S (y_ld rfl (fun w S => ld_b1 (i := 1) S rfl rfl T3)) ?_
 by_cases hs : a.self = b.self
 ·
  refine l_y (v := .bool false) S (y_neF rfl rfl hs) ?_
  refine l_y (v := .bool false) S (y_mv rfl) ?_
  refine l_g (d' := 11) (v := pa g63 1) S (y_fb FA31_1 rfl rfl) rfl rfl ?_
  refine l_g (d' := 11) (v := .agg #[.slice A14 a.state.clock.length c15, .slice A17 a.state.lives.length c18, .slice A20 a.state.tallies.length c21]) S (y_ld rfl (fun w S => ld_bA (vs := [.slice A14 a.state.clock.length c15, .slice A17 a.state.lives.length c18, .slice A20 a.state.tallies.length c21]) (i := 0) S rfl T27 rfl rfl)) rfl rfl ?_
  refine l_g (d' := 11) (v := pa g66 1) S (y_fb FA31_1 rfl rfl) rfl rfl ?_
  refine l_g (d' := 11) (v := .agg #[.slice A45 b.state.clock.length c46, .slice A48 b.state.lives.length c49, .slice A51 b.state.tallies.length c52]) S (y_ld rfl (fun w S => ld_bA (vs := [.slice A45 b.state.clock.length c46, .slice A48 b.state.lives.length c49, .slice A51 b.state.tallies.length c52]) (i := 1) S rfl T27 rfl rfl)) rfl rfl ?_
  refine l_cg (d' := 11) (en_f (vs := [.agg #[.slice A14 a.state.clock.length c15, .slice A17 a.state.lives.length c18, .slice A20 a.state.tallies.length c21], .agg #[.slice A45 b.state.clock.length c46, .slice A48 b.state.lives.length c49, .slice A51 b.state.tallies.length c52]]) (CF 30 _) rfl rfl) rfl rfl (SSame_c _ _ S.le _ _ a.state b.state (⟨_, rfl, ⟨_, _, _, rfl, h3, h5, h7⟩⟩ : AggR StateR rd _ a.state) (⟨_, rfl, ⟨_, _, _, rfl, h34, h36, h38⟩⟩ : AggR StateR rd _ b.state)) ?_
  rintro e w68 ⟨rfl, k⟩
  have S := S.callq k; clear k
  cases hS : sameS a.state b.state
  ·
   refine ckd ?_
   refine l_g (d' := 11) (v := .bool true) S (y_not rfl rfl) rfl rfl ?_
   refine l_y (v := .bool true) S (y_pF rfl rfl) ?_
   refine l_y (v := .bool true) S (y_mv rfl) ?_
   refine l_s (d' := 19) rfl rfl ?_
   refine l_s (d' := 19) rfl rfl ?_
   refine l_s (d' := 19) rfl rfl ?_
   refine l_s (d' := 19) rfl rfl ?_
   refine l_s (d' := 19) rfl rfl ?_
   refine l_s (d' := 19) rfl rfl ?_
   refine l_y (v := .bool true) S (y_pT rfl rfl) ?_
   refine l_y (v := .bool true) S (y_mv rfl) ?_
   refine l_s (d' := 27) rfl rfl ?_
   refine l_s (d' := 27) rfl rfl ?_
   refine l_s (d' := 27) rfl rfl ?_
   refine l_s (d' := 27) rfl rfl ?_
   refine l_s (d' := 27) rfl rfl ?_
   refine l_s (d' := 27) rfl rfl ?_
   refine l_y (v := .bool true) S (y_pT rfl rfl) ?_
   refine l_y (v := .bool true) S (y_mv rfl) ?_
   refine l_s (d' := 35) rfl rfl ?_
   refine l_s (d' := 35) rfl rfl ?_
   refine l_s (d' := 35) rfl rfl ?_
   refine l_s (d' := 35) rfl rfl ?_
   refine l_s (d' := 35) rfl rfl ?_
   refine l_s (d' := 35) rfl rfl ?_
   refine l_s (d' := 35) rfl rfl ?_
   refine l_y (v := .bool true) S (y_pT rfl rfl) ?_
   refine l_nil ?_
   refine n_seq ?_
   refine e_cT rfl ?_
   refine e_seq ?_
   refine e_reg ?_
   refine l_y (v := .bool false) S (y_as rfl) ?_
   refine l_nil ?_
   refine n_seq ?_
   refine e_ret ?_
   refine ret1 (v := .bool false) rfl rfl ?_
   exact ⟨rbool (decide_eq_false (by rintro rfl; first | exact hs rfl | exact hl rfl | simp_all [sameS, sameL, sameLg])).symm, S.below⟩
  refine ckd ?_
  refine l_g (d' := 11) (v := .bool false) S (y_not rfl rfl) rfl rfl ?_
  refine l_y (v := .bool false) S (y_pF rfl rfl) ?_
  refine l_y (v := .bool false) S (y_mv rfl) ?_
  refine l_g (d' := 19) (v := pa g63 4) S (y_fb FA31_2 rfl rfl) rfl rfl ?_
  refine l_g (d' := 19) (v := .slice A23 a.base.length c24) S (y_ld rfl (fun w S => ld_b1 (i := 0) S rfl rfl T23)) rfl rfl ?_
  refine l_g (d' := 19) (v := pa g66 4) S (y_fb FA31_2 rfl rfl) rfl rfl ?_
  refine l_g (d' := 19) (v := .slice A54 b.base.length c55) S (y_ld rfl (fun w S => ld_b1 (i := 1) S rfl rfl T23)) rfl rfl ?_
  refine l_cg (d' := 19) (en_f (vs := [.slice A23 a.base.length c24, .slice A54 b.base.length c55]) (CF 16 _) rfl rfl) rfl rfl (Same_calls _ _ _ _ _ (fm h9 S.le) (fm h40 S.le)) ?_
  rintro e w69 ⟨rfl, k⟩
  have S := S.callq k; clear k
  cases hB : sameL a.base b.base
  ·
   refine ckd ?_
   refine l_g (d' := 19) (v := .bool true) S (y_not rfl rfl) rfl rfl ?_
   refine l_y (v := .bool true) S (y_pF rfl rfl) ?_
   refine l_y (v := .bool true) S (y_mv rfl) ?_
   refine l_s (d' := 27) rfl rfl ?_
   refine l_s (d' := 27) rfl rfl ?_
   refine l_s (d' := 27) rfl rfl ?_
   refine l_s (d' := 27) rfl rfl ?_
   refine l_s (d' := 27) rfl rfl ?_
   refine l_s (d' := 27) rfl rfl ?_
   refine l_y (v := .bool true) S (y_pT rfl rfl) ?_
   refine l_y (v := .bool true) S (y_mv rfl) ?_
   refine l_s (d' := 35) rfl rfl ?_
   refine l_s (d' := 35) rfl rfl ?_
   refine l_s (d' := 35) rfl rfl ?_
   refine l_s (d' := 35) rfl rfl ?_
   refine l_s (d' := 35) rfl rfl ?_
   refine l_s (d' := 35) rfl rfl ?_
   refine l_s (d' := 35) rfl rfl ?_
   refine l_y (v := .bool true) S (y_pT rfl rfl) ?_
   refine l_nil ?_
   refine n_seq ?_
   refine e_cT rfl ?_
   refine e_seq ?_
   refine e_reg ?_
   refine l_y (v := .bool false) S (y_as rfl) ?_
   refine l_nil ?_
   refine n_seq ?_
   refine e_ret ?_
   refine ret1 (v := .bool false) rfl rfl ?_
   exact ⟨rbool (decide_eq_false (by rintro rfl; first | exact hs rfl | exact hl rfl | simp_all [sameS, sameL, sameLg])).symm, S.below⟩
  refine ckd ?_
  refine l_g (d' := 19) (v := .bool false) S (y_not rfl rfl) rfl rfl ?_
  refine l_y (v := .bool false) S (y_pF rfl rfl) ?_
  refine l_y (v := .bool false) S (y_mv rfl) ?_
  refine l_g (d' := 27) (v := pa g63 5) S (y_fb FA31_3 rfl rfl) rfl rfl ?_
  refine l_g (d' := 27) (v := .slice A26 a.log.length c27) S (y_ld rfl (fun w S => ld_b1 (i := 0) S rfl rfl T28)) rfl rfl ?_
  refine l_g (d' := 27) (v := pa g66 5) S (y_fb FA31_3 rfl rfl) rfl rfl ?_
  refine l_g (d' := 27) (v := .slice A57 b.log.length c58) S (y_ld rfl (fun w S => ld_b1 (i := 1) S rfl rfl T28)) rfl rfl ?_
  refine l_cg (d' := 27) (en_f (vs := [.slice A26 a.log.length c27, .slice A57 b.log.length c58]) (CF 46 _) rfl rfl) rfl rfl (SameLog_c _ _ S.le _ _ a.log b.log h11 h42) ?_
  rintro e w70 ⟨rfl, k⟩
  have S := S.callq k; clear k
  cases hL : sameLg a.log b.log
  ·
   refine ckd ?_
   refine l_g (d' := 27) (v := .bool true) S (y_not rfl rfl) rfl rfl ?_
   refine l_y (v := .bool true) S (y_pF rfl rfl) ?_
   refine l_y (v := .bool true) S (y_mv rfl) ?_
   refine l_s (d' := 35) rfl rfl ?_
   refine l_s (d' := 35) rfl rfl ?_
   refine l_s (d' := 35) rfl rfl ?_
   refine l_s (d' := 35) rfl rfl ?_
   refine l_s (d' := 35) rfl rfl ?_
   refine l_s (d' := 35) rfl rfl ?_
   refine l_s (d' := 35) rfl rfl ?_
   refine l_y (v := .bool true) S (y_pT rfl rfl) ?_
   refine l_nil ?_
   refine n_seq ?_
   refine e_cT rfl ?_
   refine e_seq ?_
   refine e_reg ?_
   refine l_y (v := .bool false) S (y_as rfl) ?_
   refine l_nil ?_
   refine n_seq ?_
   refine e_ret ?_
   refine ret1 (v := .bool false) rfl rfl ?_
   exact ⟨rbool (decide_eq_false (by rintro rfl; first | exact hs rfl | exact hl rfl | simp_all [sameS, sameL, sameLg])).symm, S.below⟩
  refine ckd ?_
  refine l_g (d' := 27) (v := .bool false) S (y_not rfl rfl) rfl rfl ?_
  refine l_y (v := .bool false) S (y_pF rfl rfl) ?_
  refine l_y (v := .bool false) S (y_mv rfl) ?_
  refine l_g (d' := 35) (v := pa g63 6) S (y_fb FA31_4 rfl rfl) rfl rfl ?_
  refine l_g (d' := 35) (v := .slice A29 a.known.length c30) S (y_ld rfl (fun w S => ld_b1 (i := 0) S rfl rfl T29)) rfl rfl ?_
  refine l_g (d' := 35) (v := ni (a.known.length : Int)) S (y_len U29 rfl rfl) rfl rfl ?_
  refine l_g (d' := 35) (v := pa g66 6) S (y_fb FA31_4 rfl rfl) rfl rfl ?_
  refine l_g (d' := 35) (v := .slice A60 b.known.length c61) S (y_ld rfl (fun w S => ld_b1 (i := 1) S rfl rfl T29)) rfl rfl ?_
  refine l_g (d' := 35) (v := ni (b.known.length : Int)) S (y_len U29 rfl rfl) rfl rfl ?_
  by_cases hl : (a.known.length : Int) = (b.known.length : Int)
  ·
   refine l_g (d' := 35) (v := .bool false) S (y_neF rfl rfl hl) rfl rfl ?_
   refine l_y (v := .bool false) S (y_pF rfl rfl) ?_
   refine l_nil ?_
   refine n_seq ?_
   refine e_cF rfl ?_
   refine e_skip ?_
   refine n_seq ?_
   refine e_seq ?_
   refine e_seq ?_
   refine e_reg ?_
   refine l_y (v := pa g63 6) S (y_fb FA31_4 rfl rfl) ?_
   refine l_y (v := .slice A29 a.known.length c30) S (y_ld rfl (fun w S => ld_b1 (i := 0) S rfl rfl T29)) ?_
   refine l_y (v := ni (a.known.length : Int)) S (y_len U29 rfl rfl) ?_
   refine l_y (v := ni 0) S (y_mv rfl) ?_
   refine l_nil ?_
   refine n_seq ?_
   refine e_blk ?_
   refine e_trim [(2, pa g63 0), (3, pa g66 0), (46, ni (a.known.length : Int)), (47, ni (0 : Int))] ⟨⟨rfl, rfl⟩, ⟨rfl, rfl⟩, ⟨rfl, rfl⟩, ⟨ival (by first | rfl | omega), rfl⟩, trivial⟩ (fun junk => ?_)
   refine e_loop (fun (gh_ : Nat) ov w => match gh_ with | k => ∃ rd' junk, ov = [(2, pa g63 0), (3, pa g66 0), (46, ni (a.known.length : Int)), (47, ni (k : Int))] ++ junk ∧ St [] W rd rd' [(g63, 31, #[ni a.self, .slice A14 a.state.clock.length c15, .slice A17 a.state.lives.length c18, .slice A20 a.state.tallies.length c21, .slice A23 a.base.length c24, .slice A26 a.log.length c27, .slice A29 a.known.length c30]), (g66, 31, #[ni b.self, .slice A45 b.state.clock.length c46, .slice A48 b.state.lives.length c49, .slice A51 b.state.tallies.length c52, .slice A54 b.base.length c55, .slice A57 b.log.length c58, .slice A60 b.known.length c61])] [] w ∧ Rd.le rd rd' ∧ k ≤ a.known.length ∧ a.known.take k = b.known.take k) (fun gh_ => match gh_ with | k => a.known.length - k) 0 ⟨_, junk, rfl, (S.rw' rfl rfl), (Rd.le_refl _), (by omega), rfl⟩ ?_
   rintro k ov74 w72 ⟨rd71, junk, rfl, S, L73, hk, hE⟩
   replace h3 := fm h3 L73
   replace h5 := fm h5 L73
   replace h7 := fm h7 L73
   replace h9 := fm h9 L73
   replace h11 := fm h11 L73
   replace h13 := fm h13 L73
   replace h34 := fm h34 L73
   replace h36 := fm h36 L73
   replace h38 := fm h38 L73
   replace h40 := fm h40 L73
   replace h42 := fm h42 L73
   replace h44 := fm h44 L73
   refine e_seq ?_
   refine e_reg ?_
   by_cases h75 : (k : Int) < (a.known.length : Int)
   ·
    refine l_y (v := .bool true) S (y_ltT rfl rfl h75) ?_
    refine l_nil ?_
    refine n_seq ?_
    refine e_seq ?_
    refine e_cT rfl ?_
    refine e_skip ?_
    refine n_seq ?_
    refine e_seq ?_
    refine e_blk ?_
    refine e_seq ?_
    refine e_reg ?_
    refine l_y (v := ni (k : Int)) S (y_mv rfl) ?_
    refine l_y (v := ni (k : Int)) S (y_as rfl) ?_
    refine l_nil ?_
    refine n_seq ?_
    refine e_seq ?_
    refine e_q MX (by kernel_rfl) S.drew ?_
    refine q_y (v := pa g63 6) (y_fb FA31_4 rfl rfl) ?_
    refine q_y (v := .slice A29 a.known.length c30) (y_ld rfl (fun w S => ld_b1 (i := 0) S rfl rfl T29)) ?_
    refine q_y (v := ni (k : Int)) (y_mv rfl) ?_
    obtain ⟨z76, hz77⟩ : ∃ z, (a.known)[k]? = some z := nth_of (by first | assumption | omega)
    obtain ⟨p78, vs79, E80, nn81, r82, Y83⟩ := y_ia U29 SZ23 h13 hz77
    clear nn81
    obtain ⟨sv84, r82e, r82⟩ := r82; subst r82e
    obtain ⟨A85, c86, rfl, m87, m87'⟩ := r82.val
    refine q_y (v := p78) (Y83 rfl rfl (by first | rfl | omega)) ?_
    refine q_y (v := .slice A85 z76.length c86) (y_ld rfl (fun w S => ld_p1 S.le E80 rfl T23)) ?_
    refine q_y (v := pa g66 6) (y_fb FA31_4 rfl rfl) ?_
    refine q_y (v := .slice A60 b.known.length c61) (y_ld rfl (fun w S => ld_b1 (i := 1) S rfl rfl T29)) ?_
    refine q_y (v := ni (k : Int)) (y_mv rfl) ?_
    obtain ⟨z88, hz89⟩ : ∃ z, (b.known)[k]? = some z := nth_of (by first | assumption | omega)
    obtain ⟨p90, vs91, E92, nn93, r94, Y95⟩ := y_ia U29 SZ23 h44 hz89
    clear nn93
    obtain ⟨sv96, r94e, r94⟩ := r94; subst r94e
    obtain ⟨A97, c98, rfl, m99, m99'⟩ := r94.val
    refine q_y (v := p90) (Y95 rfl rfl (by first | rfl | omega)) ?_
    refine q_y (v := .slice A97 z88.length c98) (y_ld rfl (fun w S => ld_p1 S.le E92 rfl T23)) ?_
    cases hne : sameL z76 z88
    ·
     refine q_c (v := .bool false) (en_f (vs := [.slice A85 z76.length c86, .slice A97 z88.length c98]) (CF 16 _) rfl rfl) (fun w S => (Same_calls _ _ _ _ _ (fm r82 S.le) (fm r94 S.le)).mono (by rintro e w' ⟨rfl, k⟩; exact ⟨rbool (by assumption), (S.callq k)⟩)) ?_
     refine q_y (v := .bool true) (y_not rfl rfl) ?_
     refine q_nil fun w100 S => ?_
     refine n_seq ?_
     refine e_cT rfl ?_
     refine e_seq ?_
     refine e_reg ?_
     refine l_y (v := .bool false) S (y_as rfl) ?_
     refine l_nil ?_
     refine n_seq ?_
     refine e_ret ?_
     refine ret1 (v := .bool false) rfl rfl ?_
     exact ⟨rbool (decide_eq_false (by rintro rfl; first | exact hs rfl | exact hl rfl | simp_all [sameS, sameL, sameLg])).symm, S.below⟩
    refine q_c (v := .bool true) (en_f (vs := [.slice A85 z76.length c86, .slice A97 z88.length c98]) (CF 16 _) rfl rfl) (fun w S => (Same_calls _ _ _ _ _ (fm r82 S.le) (fm r94 S.le)).mono (by rintro e w' ⟨rfl, k⟩; exact ⟨rbool (by assumption), (S.callq k)⟩)) ?_
    refine q_y (v := .bool false) (y_not rfl rfl) ?_
    refine q_nil fun w101 S => ?_
    refine n_seq ?_
    refine e_cF rfl ?_
    refine e_skip ?_
    refine n_blk ?_
    refine n_seq ?_
    refine e_reg ?_
    refine l_y (v := ni ((k : Int) + 1)) S (y_add (r := (k : Int) + 1) rfl rfl (w64 (by omega) (by omega))) ?_
    refine l_y (v := ni ((k : Int) + 1)) S (y_mv rfl) ?_
    refine l_nil ?_
    refine n_lp ⟨(k + 1), _, fr_keep (m := [(2, pa g63 0), (3, pa g66 0), (46, ni (a.known.length : Int)), (47, ni ((k + 1 : Nat) : Int))]) ⟨⟨rfl, rfl⟩, ⟨rfl, rfl⟩, ⟨rfl, rfl⟩, ⟨ival (by first | rfl | omega), rfl⟩, trivial⟩, ⟨_, _, rfl, (S.tk 2 0 rfl rfl), (Rd.le_trans L73 (Rd.le_refl rd71)), (by omega), (by rw [take_snoc hz77, take_snoc hz89, hE, of_decide_eq_true hne])⟩, ?_⟩
    show _ < _; dsimp only; omega
   refine l_y (v := .bool false) S (y_ltF rfl rfl h75) ?_
   refine l_nil ?_
   refine n_seq ?_
   refine e_seq ?_
   refine e_cF rfl ?_
   refine e_exit ?_
   refine x_seq ?_
   refine x_lp ?_
   refine x_hit ?_
   refine n_seq ?_
   refine e_seq ?_
   refine e_reg ?_
   refine l_y (v := .bool true) S (y_as rfl) ?_
   refine l_nil ?_
   refine n_seq ?_
   refine e_ret ?_
   refine ret1 (v := .bool true) rfl rfl ?_
   exact ⟨rbool (decide_eq_true (same_node hs hS hB hL (by rwa [List.take_of_length_le (by omega), List.take_of_length_le (by omega)] at hE))).symm, S.below⟩
  refine l_g (d' := 35) (v := .bool true) S (y_neT rfl rfl hl) rfl rfl ?_
  refine l_y (v := .bool true) S (y_pF rfl rfl) ?_
  refine l_nil ?_
  refine n_seq ?_
  refine e_cT rfl ?_
  refine e_seq ?_
  refine e_reg ?_
  refine l_y (v := .bool false) S (y_as rfl) ?_
  refine l_nil ?_
  refine n_seq ?_
  refine e_ret ?_
  refine ret1 (v := .bool false) rfl rfl ?_
  exact ⟨rbool (decide_eq_false (by rintro rfl; first | exact hs rfl | exact hl rfl | simp_all [sameS, sameL, sameLg])).symm, S.below⟩
 refine l_y (v := .bool true) S (y_neT rfl rfl hs) ?_
 refine l_y (v := .bool true) S (y_mv rfl) ?_
 refine l_s (d' := 11) rfl rfl ?_
 refine l_s (d' := 11) rfl rfl ?_
 refine l_s (d' := 11) rfl rfl ?_
 refine l_s (d' := 11) rfl rfl ?_
 refine l_s (d' := 11) rfl rfl ?_
 refine l_s (d' := 11) rfl rfl ?_
 refine l_y (v := .bool true) S (y_pT rfl rfl) ?_
 refine l_y (v := .bool true) S (y_mv rfl) ?_
 refine l_s (d' := 19) rfl rfl ?_
 refine l_s (d' := 19) rfl rfl ?_
 refine l_s (d' := 19) rfl rfl ?_
 refine l_s (d' := 19) rfl rfl ?_
 refine l_s (d' := 19) rfl rfl ?_
 refine l_s (d' := 19) rfl rfl ?_
 refine l_y (v := .bool true) S (y_pT rfl rfl) ?_
 refine l_y (v := .bool true) S (y_mv rfl) ?_
 refine l_s (d' := 27) rfl rfl ?_
 refine l_s (d' := 27) rfl rfl ?_
 refine l_s (d' := 27) rfl rfl ?_
 refine l_s (d' := 27) rfl rfl ?_
 refine l_s (d' := 27) rfl rfl ?_
 refine l_s (d' := 27) rfl rfl ?_
 refine l_y (v := .bool true) S (y_pT rfl rfl) ?_
 refine l_y (v := .bool true) S (y_mv rfl) ?_
 refine l_s (d' := 35) rfl rfl ?_
 refine l_s (d' := 35) rfl rfl ?_
 refine l_s (d' := 35) rfl rfl ?_
 refine l_s (d' := 35) rfl rfl ?_
 refine l_s (d' := 35) rfl rfl ?_
 refine l_s (d' := 35) rfl rfl ?_
 refine l_s (d' := 35) rfl rfl ?_
 refine l_y (v := .bool true) S (y_pT rfl rfl) ?_
 refine l_nil ?_
 refine n_seq ?_
 refine e_cT rfl ?_
 refine e_seq ?_
 refine e_reg ?_
 refine l_y (v := .bool false) S (y_as rfl) ?_
 refine l_nil ?_
 refine n_seq ?_
 refine e_ret ?_
 refine ret1 (v := .bool false) rfl rfl ?_
 exact ⟨rbool (decide_eq_false (by rintro rfl; first | exact hs rfl | exact hl rfl | simp_all [sameS, sameL, sameLg])).symm, S.below⟩
end Go.Proofs.YtkjknlnhffmkkacGreat
