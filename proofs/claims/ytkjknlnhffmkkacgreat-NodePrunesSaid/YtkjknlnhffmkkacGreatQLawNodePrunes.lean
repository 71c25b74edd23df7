/- NodePrunes: pruning is not seen. For every input; no condition. -/
import Derived.Test.YtkjknlnhffmkkacGreatQAlive6
import Derived.Test.YtkjknlnhffmkkacGreatQSameN
import Derived.Test.YtkjknlnhffmkkacGreatQCloseN
namespace Go.Proofs.YtkjknlnhffmkkacGreat
open Go.ChangeShapes Go.WideShapes Go.ChangeAt Go.RowKit
set_option linter.unusedVariables false
structure PrunesP (d e : Node) : Prop where
  a : (PruneN d).2 = 0
  b : (PruneN (PruneN d).1).2 = 0
  c : (PruneN d).1.state = d.state
  l : (PruneN d).1.log.length ≤ d.log.length
  s : (PruneN d).1 = (PruneN (PruneN d).1).1
  n : (SendN (PruneN d).1 e.self).2 = 0
  u : (SendN (PruneN d).1 e.self).1.updates.length ≤ 300
  t : e.log.length + (SendN (PruneN d).1 e.self).1.updates.length ≤ 300 → (TakeN e d.self (SendN (PruneN d).1 e.self).1).2 = 0 ∧ (TakeN e d.self (SendN (PruneN d).1 e.self).1).1.state.clock = joinC d.state.clock e.state.clock
  cl : e.log.length + (SendN (PruneN d).1 e.self).1.updates.length ≤ 300 → d.state.clock.length ≤ 6 ∧ e.state.clock.length ≤ 6
theorem prunes_p {d e : Node} {z : List Int} (hd : wrongN d = 0) (he : wrongN e = 0) (hk : (d.known.length : Int) = (e.known.length : Int)) (hs : ¬ d.self = e.self) (hz : d.known[e.self.toNat]? = some z) (hV : seesC e.state.clock z = true) : PrunesP d e := by
  have r := wrongN_iff.1 hd
  have re := wrongN_iff.1 he
  obtain ⟨n, hn⟩ : ∃ n, n = nOf d := ⟨_, rfl⟩
  rw [← hn] at r
  have hen : nOf e = n := by have := r.k; have := re.k; omega
  rw [hen] at re
  obtain ⟨rx, hb⟩ := pruned_right r
  have ex := PruneN_of r
  have ex2 := PruneN_of rx
  have eq2 := pruned_again r
  have hl := r.l
  have hll : (prunedN d).log.length ≤ d.log.length := lacksU_len _ _
  have es := SendN_of rx re.a0 re.a1 (show e.self ≠ (prunedN d).self from fun q => hs q.symm)
  have hak : atK (prunedN d).known e.self.toNat = z := atK_some hz
  rw [hak] at es
  have hzw := r.ks z (List.mem_of_getElem? hz)
  have hlk := lacksU_len (prunedN d).log z
  have hu : (SendN (prunedN d) e.self).1.updates.length ≤ 300 := by
    rw [es]
    split
    · show ([] : List Upd).length ≤ 300; simp
    · show (lacksU (prunedN d).log z).length ≤ 300; omega
  have l1 := r.len; have l2 := re.len
  refine ⟨by rw [ex], by rw [ex, ex2], by rw [ex]; rfl, by rw [ex]; exact hll, by rw [ex, ex2]; exact eq2.symm, by rw [ex, es], by rw [ex]; exact hu, fun hM => ?_, fun _ => by omega⟩
  rw [ex] at hM ⊢
  have hp : (SendN (prunedN d) e.self).1 = ⟨true, (prunedN d).state, [], (prunedN d).state.clock⟩ ∨ ((SendN (prunedN d) e.self).1 = ⟨false, zeroS, lacksU (prunedN d).log z, (prunedN d).state.clock⟩ ∧ wrongC z n = 0 ∧ seesC z (prunedN d).base = true ∧ seesC e.state.clock z = true ∧ seesC (prunedN d).state.clock z = true) := by
    rw [es]
    by_cases hc : seesC z (prunedN d).base = false
    · rw [if_pos hc]; exact .inl rfl
    · rw [if_neg hc]
      exact .inr ⟨rfl, hzw.1, by simpa using hc, hV, hzw.2⟩
  obtain ⟨t1, t2⟩ := sent_taken (C := []) rx re (show (prunedN d).self ≠ e.self from hs) hp hM
  exact ⟨t1, t2.trans (joinC_comm _ _)⟩
set_option maxRecDepth 100000 in
set_option maxHeartbeats 8000000 in
theorem NodePrunes_calls (W : World) (v1 : Value) (d : Node) (qa : AggR NodeR (wrd W) v1 d) (b1 : NodeBd d) (v2 : Value) (e : Node) (qb : AggR NodeR (wrd W) v2 e) (b2 : NodeBd e) :
    Calls Tryz.prog 5 #[v1, v2] W (fun e w' => e = .returned (.bool true) ∧ Below W.heap.size W w') := by
 obtain ⟨vs1, qae, qa⟩ := qa; subst qae
 obtain ⟨sv2, sv4, sv6, sv8, sv10, sv12, qae, h3, h5, h7, h9, h11, h13⟩ := qa; subst qae
 obtain ⟨A14, c15, rfl, m16, m16'⟩ := h3.val
 obtain ⟨A17, c18, rfl, m19, m19'⟩ := h5.val
 obtain ⟨A20, c21, rfl, m22, m22'⟩ := h7.val
 obtain ⟨A23, c24, rfl, m25, m25'⟩ := h9.val
 obtain ⟨A26, c27, rfl, m28, m28'⟩ := h11.val
 obtain ⟨A29, c30, rfl, m31, m31'⟩ := h13.val
 obtain ⟨vs32, qbe, qb⟩ := qb; subst qbe
 obtain ⟨sv33, sv35, sv37, sv39, sv41, sv43, qbe, h34, h36, h38, h40, h42, h44⟩ := qb; subst qbe
 obtain ⟨A45, c46, rfl, m47, m47'⟩ := h34.val
 obtain ⟨A48, c49, rfl, m50, m50'⟩ := h36.val
 obtain ⟨A51, c52, rfl, m53, m53'⟩ := h38.val
 obtain ⟨A54, c55, rfl, m56, m56'⟩ := h40.val
 obtain ⟨A57, c58, rfl, m59, m59'⟩ := h42.val
 obtain ⟨A60, c61, rfl, m62, m62'⟩ := h44.val
 have hmx : maxLen = 9223372036854775807 := rfl
 have S : St [] W (wrd W) (wrd W) [] [] W := St.start (Rd.le_refl _)
 refine e_enter (args := [.agg #[ni d.self, .slice A14 d.state.clock.length c15, .slice A17 d.state.lives.length c18, .slice A20 d.state.tallies.length c21, .slice A23 d.base.length c24, .slice A26 d.log.length c27, .slice A29 d.known.length c30], .agg #[ni e.self, .slice A45 e.state.clock.length c46, .slice A48 e.state.lives.length c49, .slice A51 e.state.tallies.length c52, .slice A54 e.base.length c55, .slice A57 e.log.length c58, .slice A60 e.known.length c61]]) 133 Tryz.func5 rfl rfl rfl ?_
 refine e_seq ?_
 refine e_reg ?_
 refine l_bx (u := .agg #[ni d.self, .slice A14 d.state.clock.length c15, .slice A17 d.state.lives.length c18, .slice A20 d.state.tallies.length c21, .slice A23 d.base.length c24, .slice A26 d.log.length c27, .slice A29 d.known.length c30]) (cs := #[ni d.self, .slice A14 d.state.clock.length c15, .slice A17 d.state.lives.length c18, .slice A20 d.state.tallies.length c21, .slice A23 d.base.length c24, .slice A26 d.log.length c27, .slice A29 d.known.length c30]) S rfl rfl fun g63 w65 S => ?_
 refine l_bx (u := .agg #[ni e.self, .slice A45 e.state.clock.length c46, .slice A48 e.state.lives.length c49, .slice A51 e.state.tallies.length c52, .slice A54 e.base.length c55, .slice A57 e.log.length c58, .slice A60 e.known.length c61]) (cs := #[ni e.self, .slice A45 e.state.clock.length c46, .slice A48 e.state.lives.length c49, .slice A51 e.state.tallies.length c52, .slice A54 e.base.length c55, .slice A57 e.log.length c58, .slice A60 e.known.length c61]) S rfl rfl fun g66 w67 S => ?_
 refine l_y (v := .bool false) S (y_as rfl) ?_
 refine l_nil ?_
 refine n_seq ?_
 refine e_seq ?_
 refine e_seq ?_
 refine e_reg ?_
 refine l_c (en_f (vs := []) (CF 13 _) rfl rfl) (alive6_c _ _ S.le) ?_
 rintro e w68 ⟨rfl, k⟩
 have S := S.callq k; clear k
 refine ckd ?_
 refine l_y (v := .bool false) S (y_not rfl rfl) ?_
 refine l_nil ?_
 refine n_seq ?_
 refine e_cF rfl ?_
 refine e_skip ?_
 refine n_seq ?_
 refine e_seq ?_
 refine e_seq ?_
 refine e_q MX (by kernel_rfl) S.drew ?_
 refine q_y (v := .agg #[ni d.self, .slice A14 d.state.clock.length c15, .slice A17 d.state.lives.length c18, .slice A20 d.state.tallies.length c21, .slice A23 d.base.length c24, .slice A26 d.log.length c27, .slice A29 d.known.length c30]) (y_ld rfl (fun w S => ld_bA (vs := [ni d.self, .slice A14 d.state.clock.length c15, .slice A17 d.state.lives.length c18, .slice A20 d.state.tallies.length c21, .slice A23 d.base.length c24, .slice A26 d.log.length c27, .slice A29 d.known.length c30]) (i := 0) S rfl T31 rfl rfl)) ?_
 refine q_c (v := ni (wrongN d)) (en_f (vs := [.agg #[ni d.self, .slice A14 d.state.clock.length c15, .slice A17 d.state.lives.length c18, .slice A20 d.state.tallies.length c21, .slice A23 d.base.length c24, .slice A26 d.log.length c27, .slice A29 d.known.length c30]]) (CF 19 _) rfl rfl) (fun w S => (NWrong_c _ _ S.le _ d (⟨_, rfl, ⟨_, _, _, _, _, _, rfl, h3, h5, h7, h9, h11, h13⟩⟩ : AggR NodeR (wrd W) _ d)).mono (by rintro e w' ⟨rfl, k⟩; exact ⟨rfl, (S.callq k)⟩)) ?_
 by_cases hd : wrongN d = 0
 ·
  refine q_y (v := .bool false) (y_neF rfl rfl hd) ?_
  refine q_y (v := .bool false) (y_mv rfl) ?_
  refine q_g (d' := 16) (v := .agg #[ni e.self, .slice A45 e.state.clock.length c46, .slice A48 e.state.lives.length c49, .slice A51 e.state.tallies.length c52, .slice A54 e.base.length c55, .slice A57 e.log.length c58, .slice A60 e.known.length c61]) (y_ld rfl (fun w S => ld_bA (vs := [ni e.self, .slice A45 e.state.clock.length c46, .slice A48 e.state.lives.length c49, .slice A51 e.state.tallies.length c52, .slice A54 e.base.length c55, .slice A57 e.log.length c58, .slice A60 e.known.length c61]) (i := 1) S rfl T31 rfl rfl)) rfl rfl ?_
  refine q_cg (d' := 16) (v := ni (wrongN e)) (en_f (vs := [.agg #[ni e.self, .slice A45 e.state.clock.length c46, .slice A48 e.state.lives.length c49, .slice A51 e.state.tallies.length c52, .slice A54 e.base.length c55, .slice A57 e.log.length c58, .slice A60 e.known.length c61]]) (CF 19 _) rfl rfl) rfl rfl (fun w S => (NWrong_c _ _ S.le _ e (⟨_, rfl, ⟨_, _, _, _, _, _, rfl, h34, h36, h38, h40, h42, h44⟩⟩ : AggR NodeR (wrd W) _ e)).mono (by rintro e w' ⟨rfl, k⟩; exact ⟨rfl, (S.callq k)⟩)) ?_
  by_cases he : wrongN e = 0
  ·
   refine q_g (d' := 16) (v := .bool false) (y_neF rfl rfl he) rfl rfl ?_
   refine q_y (v := .bool false) (y_pF rfl rfl) ?_
   refine q_y (v := .bool false) (y_mv rfl) ?_
   refine q_g (d' := 21) (v := pa g63 6) (y_fb FA31_4 rfl rfl) rfl rfl ?_
   refine q_g (d' := 21) (v := .slice A29 d.known.length c30) (y_ld rfl (fun w S => ld_b1 (i := 0) S rfl rfl T29)) rfl rfl ?_
   refine q_g (d' := 21) (v := ni (d.known.length : Int)) (y_len U29 rfl rfl) rfl rfl ?_
   refine q_g (d' := 21) (v := pa g66 6) (y_fb FA31_4 rfl rfl) rfl rfl ?_
   refine q_g (d' := 21) (v := .slice A60 e.known.length c61) (y_ld rfl (fun w S => ld_b1 (i := 1) S rfl rfl T29)) rfl rfl ?_
   refine q_g (d' := 21) (v := ni (e.known.length : Int)) (y_len U29 rfl rfl) rfl rfl ?_
   by_cases hk : (d.known.length : Int) = (e.known.length : Int)
   ·
    refine q_g (d' := 21) (v := .bool false) (y_neF rfl rfl hk) rfl rfl ?_
    refine q_y (v := .bool false) (y_pF rfl rfl) ?_
    refine q_y (v := .bool false) (y_mv rfl) ?_
    refine q_g (d' := 30) (v := pa g63 0) (y_fb FA31_0 rfl rfl) rfl rfl ?_
    refine q_g (d' := 30) (v := ni d.self) (y_ld rfl (fun w S => ld_b1 (i := 0) S rfl rfl T3)) rfl rfl ?_
    refine q_g (d' := 30) (v := pa g66 0) (y_fb FA31_0 rfl rfl) rfl rfl ?_
    refine q_g (d' := 30) (v := ni e.self) (y_ld rfl (fun w S => ld_b1 (i := 1) S rfl rfl T3)) rfl rfl ?_
    by_cases hs : d.self = e.self
    ·
     refine q_g (d' := 30) (v := .bool true) (y_eqT rfl rfl hs) rfl rfl ?_
     refine q_y (v := .bool true) (y_pF rfl rfl) ?_
     refine q_y (v := .bool true) (y_mv rfl) ?_
     refine q_s (d' := 37) rfl rfl ?_
     refine q_s (d' := 37) rfl rfl ?_
     refine q_s (d' := 37) rfl rfl ?_
     refine q_s (d' := 37) rfl rfl ?_
     refine q_s (d' := 37) rfl rfl ?_
     refine q_s (d' := 37) rfl rfl ?_
     refine q_s (d' := 37) rfl rfl ?_
     refine q_s (d' := 37) rfl rfl ?_
     refine q_s (d' := 37) rfl rfl ?_
     refine q_s (d' := 37) rfl rfl ?_
     refine q_s (d' := 37) rfl rfl ?_
     refine q_y (v := .bool true) (y_pT rfl rfl) ?_
     refine q_nil fun w69 S => ?_
     refine n_seq ?_
     refine e_cT rfl ?_
     refine e_seq ?_
     refine e_reg ?_
     refine l_y (v := .bool true) S (y_as rfl) ?_
     refine l_nil ?_
     refine n_seq ?_
     refine e_ret ?_
     refine ret1 (v := .bool true) rfl rfl ?_
     exact ⟨rfl, S.below⟩
    refine q_g (d' := 30) (v := .bool false) (y_eqF rfl rfl hs) rfl rfl ?_
    refine q_y (v := .bool false) (y_pF rfl rfl) ?_
    refine q_y (v := .bool false) (y_mv rfl) ?_
    have rd_ := wrongN_iff.1 hd
    have re_ := wrongN_iff.1 he
    have l1 := rd_.len
    have l2 := re_.len
    have l3 := rd_.k
    have l4 := re_.k
    have l5 := re_.a0
    have l6 := re_.a1
    have l7 := re_.l
    refine q_g (d' := 37) (v := pa g66 1) (y_fb FA31_1 rfl rfl) rfl rfl ?_
    refine q_g (d' := 37) (v := pa g66 1) (y_fb FA27_0 rfl rfl) rfl rfl ?_
    refine q_g (d' := 37) (v := .slice A45 e.state.clock.length c46) (y_ld rfl (fun w S => ld_b1 (i := 1) S rfl rfl T23)) rfl rfl ?_
    refine q_g (d' := 37) (v := pa g63 6) (y_fb FA31_4 rfl rfl) rfl rfl ?_
    refine q_g (d' := 37) (v := .slice A29 d.known.length c30) (y_ld rfl (fun w S => ld_b1 (i := 0) S rfl rfl T29)) rfl rfl ?_
    refine q_g (d' := 37) (v := pa g66 0) (y_fb FA31_0 rfl rfl) rfl rfl ?_
    refine q_g (d' := 37) (v := ni e.self) (y_ld rfl (fun w S => ld_b1 (i := 1) S rfl rfl T3)) rfl rfl ?_
    obtain ⟨z70, hz71⟩ : ∃ z, (d.known)[e.self.toNat]? = some z := nth_of (by omega)
    have k := fun q => prunes_p hd he hk hs hz71 q
    have l8 := wrongC_ok (rd_.ks _ (List.mem_of_getElem? hz71)).1
    obtain ⟨p72, vs73, E74, nn75, r76, Y77⟩ := y_ia U29 SZ23 h13 hz71
    clear nn75
    obtain ⟨sv78, r76e, r76⟩ := r76; subst r76e
    obtain ⟨A79, c80, rfl, m81, m81'⟩ := r76.val
    refine q_g (d' := 37) (v := p72) (Y77 rfl rfl (by first | rfl | omega)) rfl rfl ?_
    refine q_g (d' := 37) (v := .slice A79 z70.length c80) (y_ld rfl (fun w S => ld_p1 S.le E74 rfl T23)) rfl rfl ?_
    cases hV : seesC e.state.clock z70
    ·
     refine q_cg (d' := 37) (v := .bool false) (en_f (vs := [.slice A45 e.state.clock.length c46, .slice A79 z70.length c80]) (CF 29 _) rfl rfl) rfl rfl (fun w S => (Sees_calls _ _ _ _ _ (fm h34 S.le) (fm r76 S.le) (by omega)).mono (by rintro e w' ⟨rfl, k⟩; exact ⟨rbool (by assumption), (S.callq k)⟩)) ?_
     refine q_g (d' := 37) (v := .bool true) (y_not rfl rfl) rfl rfl ?_
     refine q_y (v := .bool true) (y_pF rfl rfl) ?_
     refine q_nil fun w82 S => ?_
     refine n_seq ?_
     refine e_cT rfl ?_
     refine e_seq ?_
     refine e_reg ?_
     refine l_y (v := .bool true) S (y_as rfl) ?_
     refine l_nil ?_
     refine n_seq ?_
     refine e_ret ?_
     refine ret1 (v := .bool true) rfl rfl ?_
     exact ⟨rfl, S.below⟩
    refine q_cg (d' := 37) (v := .bool true) (en_f (vs := [.slice A45 e.state.clock.length c46, .slice A79 z70.length c80]) (CF 29 _) rfl rfl) rfl rfl (fun w S => (Sees_calls _ _ _ _ _ (fm h34 S.le) (fm r76 S.le) (by omega)).mono (by rintro e w' ⟨rfl, k⟩; exact ⟨rbool (by assumption), (S.callq k)⟩)) ?_
    refine q_g (d' := 37) (v := .bool false) (y_not rfl rfl) rfl rfl ?_
    refine q_y (v := .bool false) (y_pF rfl rfl) ?_
    refine q_nil fun w83 S => ?_
    refine n_seq ?_
    refine e_cF rfl ?_
    refine e_skip ?_
    refine n_seq ?_
    refine e_seq ?_
    refine e_reg ?_
    refine l_y (v := .agg #[ni d.self, .slice A14 d.state.clock.length c15, .slice A17 d.state.lives.length c18, .slice A20 d.state.tallies.length c21, .slice A23 d.base.length c24, .slice A26 d.log.length c27, .slice A29 d.known.length c30]) S (y_ld rfl (fun w S => ld_bA (vs := [ni d.self, .slice A14 d.state.clock.length c15, .slice A17 d.state.lives.length c18, .slice A20 d.state.tallies.length c21, .slice A23 d.base.length c24, .slice A26 d.log.length c27, .slice A29 d.known.length c30]) (i := 0) S rfl T31 rfl rfl)) ?_
    refine l_c (en_f (vs := [.agg #[ni d.self, .slice A14 d.state.clock.length c15, .slice A17 d.state.lives.length c18, .slice A20 d.state.tallies.length c21, .slice A23 d.base.length c24, .slice A26 d.log.length c27, .slice A29 d.known.length c30]]) (CF 27 _) rfl rfl) (NPrune_c _ _ S.le _ d (⟨_, rfl, ⟨_, _, _, _, _, _, rfl, h3, h5, h7, h9, h11, h13⟩⟩ : AggR NodeR (wrd W) _ d)) ?_
    rintro e w84 ⟨v89, rfl, h90, k⟩
    obtain ⟨rd85, S, L86, N87, X88⟩ := S.call' k; clear k
    replace h3 := fm h3 L86
    replace h5 := fm h5 L86
    replace h7 := fm h7 L86
    replace h9 := fm h9 L86
    replace h11 := fm h11 L86
    replace h13 := fm h13 L86
    replace h34 := fm h34 L86
    replace h36 := fm h36 L86
    replace h38 := fm h38 L86
    replace h40 := fm h40 L86
    replace h42 := fm h42 L86
    replace h44 := fm h44 L86
    replace r76 := fm r76 L86
    replace E74 := PtrC.mono E74 L86
    replace h90 := am h90 X88
    obtain ⟨cs91, h90v, h90⟩ := h90; subst h90v
    obtain ⟨sv92, sv94, sv96, sv98, sv100, sv102, h90e, h93, h95, h97, h99, h101, h103⟩ := h90; subst h90e
    obtain ⟨A104, c105, rfl, m106, m106'⟩ := h93.val
    obtain ⟨A107, c108, rfl, m109, m109'⟩ := h95.val
    obtain ⟨A110, c111, rfl, m112, m112'⟩ := h97.val
    obtain ⟨A113, c114, rfl, m115, m115'⟩ := h99.val
    obtain ⟨A116, c117, rfl, m118, m118'⟩ := h101.val
    obtain ⟨A119, c120, rfl, m121, m121'⟩ := h103.val
    refine ckd ?_
    refine l_y (v := .tuple #[.agg #[ni ((PruneN d).1.self), .slice A104 (((PruneN d).1.state.clock).length) c105, .slice A107 (((PruneN d).1.state.lives).length) c108, .slice A110 (((PruneN d).1.state.tallies).length) c111, .slice A113 (((PruneN d).1.base).length) c114, .slice A116 (((PruneN d).1.log).length) c117, .slice A119 (((PruneN d).1.known).length) c120], ni ((PruneN d).2)]) S (y_mv rfl) ?_
    refine l_y (v := .agg #[ni ((PruneN d).1.self), .slice A104 (((PruneN d).1.state.clock).length) c105, .slice A107 (((PruneN d).1.state.lives).length) c108, .slice A110 (((PruneN d).1.state.tallies).length) c111, .slice A113 (((PruneN d).1.base).length) c114, .slice A116 (((PruneN d).1.log).length) c117, .slice A119 (((PruneN d).1.known).length) c120]) S (y_ex rfl rfl) ?_
    refine l_y (v := ni ((PruneN d).2)) S (y_ex rfl rfl) ?_
    refine l_al (cs := #[ni 0, .slice none 0 0, .slice none 0 0, .slice none 0 0, .slice none 0 0, .slice none 0 0, .slice none 0 0]) S Z31 rfl fun g122 w123 S => ?_
    refine l_st (u := .agg #[ni ((PruneN d).1.self), .slice A104 (((PruneN d).1.state.clock).length) c105, .slice A107 (((PruneN d).1.state.lives).length) c108, .slice A110 (((PruneN d).1.state.tallies).length) c111, .slice A113 (((PruneN d).1.base).length) c114, .slice A116 (((PruneN d).1.log).length) c117, .slice A119 (((PruneN d).1.known).length) c120]) (i := 2) (cs' := #[ni ((PruneN d).1.self), .slice A104 (((PruneN d).1.state.clock).length) c105, .slice A107 (((PruneN d).1.state.lives).length) c108, .slice A110 (((PruneN d).1.state.tallies).length) c111, .slice A113 (((PruneN d).1.base).length) c114, .slice A116 (((PruneN d).1.log).length) c117, .slice A119 (((PruneN d).1.known).length) c120]) S rfl rfl rfl SZ31 rfl rfl rfl fun w124 S => ?_
    refine l_y (v := ni ((PruneN d).2)) S (y_as rfl) ?_
    refine l_nil ?_
    refine n_seq ?_
    refine e_seq ?_
    refine e_reg ?_
    refine l_y (v := .agg #[ni ((PruneN d).1.self), .slice A104 (((PruneN d).1.state.clock).length) c105, .slice A107 (((PruneN d).1.state.lives).length) c108, .slice A110 (((PruneN d).1.state.tallies).length) c111, .slice A113 (((PruneN d).1.base).length) c114, .slice A116 (((PruneN d).1.log).length) c117, .slice A119 (((PruneN d).1.known).length) c120]) S (y_ld rfl (fun w S => ld_bA (vs := [ni ((PruneN d).1.self), .slice A104 (((PruneN d).1.state.clock).length) c105, .slice A107 (((PruneN d).1.state.lives).length) c108, .slice A110 (((PruneN d).1.state.tallies).length) c111, .slice A113 (((PruneN d).1.base).length) c114, .slice A116 (((PruneN d).1.log).length) c117, .slice A119 (((PruneN d).1.known).length) c120]) (i := 2) S rfl T31 rfl rfl)) ?_
    refine l_c (en_f (vs := [.agg #[ni ((PruneN d).1.self), .slice A104 (((PruneN d).1.state.clock).length) c105, .slice A107 (((PruneN d).1.state.lives).length) c108, .slice A110 (((PruneN d).1.state.tallies).length) c111, .slice A113 (((PruneN d).1.base).length) c114, .slice A116 (((PruneN d).1.log).length) c117, .slice A119 (((PruneN d).1.known).length) c120]]) (CF 27 _) rfl rfl) (NPrune_c _ _ S.le _ ((PruneN d).1) (⟨_, rfl, ⟨_, _, _, _, _, _, rfl, h93, h95, h97, h99, h101, h103⟩⟩ : AggR NodeR rd85 _ ((PruneN d).1))) ?_
    rintro e w125 ⟨v130, rfl, h131, k⟩
    obtain ⟨rd126, S, L127, N128, X129⟩ := S.call' k; clear k
    replace h3 := fm h3 L127
    replace h5 := fm h5 L127
    replace h7 := fm h7 L127
    replace h9 := fm h9 L127
    replace h11 := fm h11 L127
    replace h13 := fm h13 L127
    replace h34 := fm h34 L127
    replace h36 := fm h36 L127
    replace h38 := fm h38 L127
    replace h40 := fm h40 L127
    replace h42 := fm h42 L127
    replace h44 := fm h44 L127
    replace r76 := fm r76 L127
    replace E74 := PtrC.mono E74 L127
    replace h93 := fm h93 L127
    replace h95 := fm h95 L127
    replace h97 := fm h97 L127
    replace h99 := fm h99 L127
    replace h101 := fm h101 L127
    replace h103 := fm h103 L127
    replace h131 := am h131 X129
    obtain ⟨cs132, h131v, h131⟩ := h131; subst h131v
    obtain ⟨sv133, sv135, sv137, sv139, sv141, sv143, h131e, h134, h136, h138, h140, h142, h144⟩ := h131; subst h131e
    obtain ⟨A145, c146, rfl, m147, m147'⟩ := h134.val
    obtain ⟨A148, c149, rfl, m150, m150'⟩ := h136.val
    obtain ⟨A151, c152, rfl, m153, m153'⟩ := h138.val
    obtain ⟨A154, c155, rfl, m156, m156'⟩ := h140.val
    obtain ⟨A157, c158, rfl, m159, m159'⟩ := h142.val
    obtain ⟨A160, c161, rfl, m162, m162'⟩ := h144.val
    refine ckd ?_
    refine l_y (v := .tuple #[.agg #[ni ((PruneN ((PruneN d).1)).1.self), .slice A145 (((PruneN ((PruneN d).1)).1.state.clock).length) c146, .slice A148 (((PruneN ((PruneN d).1)).1.state.lives).length) c149, .slice A151 (((PruneN ((PruneN d).1)).1.state.tallies).length) c152, .slice A154 (((PruneN ((PruneN d).1)).1.base).length) c155, .slice A157 (((PruneN ((PruneN d).1)).1.log).length) c158, .slice A160 (((PruneN ((PruneN d).1)).1.known).length) c161], ni ((PruneN ((PruneN d).1)).2)]) S (y_mv rfl) ?_
    refine l_y (v := .agg #[ni ((PruneN ((PruneN d).1)).1.self), .slice A145 (((PruneN ((PruneN d).1)).1.state.clock).length) c146, .slice A148 (((PruneN ((PruneN d).1)).1.state.lives).length) c149, .slice A151 (((PruneN ((PruneN d).1)).1.state.tallies).length) c152, .slice A154 (((PruneN ((PruneN d).1)).1.base).length) c155, .slice A157 (((PruneN ((PruneN d).1)).1.log).length) c158, .slice A160 (((PruneN ((PruneN d).1)).1.known).length) c161]) S (y_ex rfl rfl) ?_
    refine l_y (v := ni ((PruneN ((PruneN d).1)).2)) S (y_ex rfl rfl) ?_
    refine l_al (cs := #[ni 0, .slice none 0 0, .slice none 0 0, .slice none 0 0, .slice none 0 0, .slice none 0 0, .slice none 0 0]) S Z31 rfl fun g163 w164 S => ?_
    refine l_st (u := .agg #[ni ((PruneN ((PruneN d).1)).1.self), .slice A145 (((PruneN ((PruneN d).1)).1.state.clock).length) c146, .slice A148 (((PruneN ((PruneN d).1)).1.state.lives).length) c149, .slice A151 (((PruneN ((PruneN d).1)).1.state.tallies).length) c152, .slice A154 (((PruneN ((PruneN d).1)).1.base).length) c155, .slice A157 (((PruneN ((PruneN d).1)).1.log).length) c158, .slice A160 (((PruneN ((PruneN d).1)).1.known).length) c161]) (i := 3) (cs' := #[ni ((PruneN ((PruneN d).1)).1.self), .slice A145 (((PruneN ((PruneN d).1)).1.state.clock).length) c146, .slice A148 (((PruneN ((PruneN d).1)).1.state.lives).length) c149, .slice A151 (((PruneN ((PruneN d).1)).1.state.tallies).length) c152, .slice A154 (((PruneN ((PruneN d).1)).1.base).length) c155, .slice A157 (((PruneN ((PruneN d).1)).1.log).length) c158, .slice A160 (((PruneN ((PruneN d).1)).1.known).length) c161]) S rfl rfl rfl SZ31 rfl rfl rfl fun w165 S => ?_
    refine l_y (v := ni ((PruneN ((PruneN d).1)).2)) S (y_as rfl) ?_
    refine l_nil ?_
    refine n_seq ?_
    refine e_seq ?_
    refine e_seq ?_
    refine e_reg ?_
    refine l_y (v := ni ((PruneN d).2)) S (y_mv rfl) ?_
    have h166 : (PruneN d).2 = 0 := (k hV).a
    refine l_y (v := .bool false) S (y_neF rfl rfl h166) ?_
    refine l_y (v := .bool false) S (y_mv rfl) ?_
    refine l_g (d' := 62) (v := ni ((PruneN ((PruneN d).1)).2)) S (y_mv rfl) rfl rfl ?_
    have h167 : (PruneN ((PruneN d).1)).2 = 0 := (k hV).b
    refine l_g (d' := 62) (v := .bool false) S (y_neF rfl rfl h167) rfl rfl ?_
    refine l_y (v := .bool false) S (y_pF rfl rfl) ?_
    refine l_y (v := .bool false) S (y_mv rfl) ?_
    refine l_g (d' := 66) (v := pa g122 1) S (y_fb FA31_1 rfl rfl) rfl rfl ?_
    refine l_g (d' := 66) (v := .agg #[.slice A104 (((PruneN d).1.state.clock).length) c105, .slice A107 (((PruneN d).1.state.lives).length) c108, .slice A110 (((PruneN d).1.state.tallies).length) c111]) S (y_ld rfl (fun w S => ld_bA (vs := [.slice A104 (((PruneN d).1.state.clock).length) c105, .slice A107 (((PruneN d).1.state.lives).length) c108, .slice A110 (((PruneN d).1.state.tallies).length) c111]) (i := 2) S rfl T27 rfl rfl)) rfl rfl ?_
    refine l_g (d' := 66) (v := pa g63 1) S (y_fb FA31_1 rfl rfl) rfl rfl ?_
    refine l_g (d' := 66) (v := .agg #[.slice A14 d.state.clock.length c15, .slice A17 d.state.lives.length c18, .slice A20 d.state.tallies.length c21]) S (y_ld rfl (fun w S => ld_bA (vs := [.slice A14 d.state.clock.length c15, .slice A17 d.state.lives.length c18, .slice A20 d.state.tallies.length c21]) (i := 0) S rfl T27 rfl rfl)) rfl rfl ?_
    refine l_cg (d' := 66) (en_f (vs := [.agg #[.slice A104 (((PruneN d).1.state.clock).length) c105, .slice A107 (((PruneN d).1.state.lives).length) c108, .slice A110 (((PruneN d).1.state.tallies).length) c111], .agg #[.slice A14 d.state.clock.length c15, .slice A17 d.state.lives.length c18, .slice A20 d.state.tallies.length c21]]) (CF 30 _) rfl rfl) rfl rfl (SSame_c _ _ S.le _ _ (⟨(PruneN d).1.state.clock, (PruneN d).1.state.lives, (PruneN d).1.state.tallies⟩ : State) d.state (⟨_, rfl, ⟨_, _, _, rfl, h93, h95, h97⟩⟩ : AggR StateR rd126 _ (⟨(PruneN d).1.state.clock, (PruneN d).1.state.lives, (PruneN d).1.state.tallies⟩ : State)) (⟨_, rfl, ⟨_, _, _, rfl, h3, h5, h7⟩⟩ : AggR StateR rd126 _ d.state)) ?_
    rintro e w168 ⟨rfl, k⟩
    have S := S.callq k; clear k
    have b169 : sameS (⟨(PruneN d).1.state.clock, (PruneN d).1.state.lives, (PruneN d).1.state.tallies⟩ : State) d.state = true := decide_eq_true (k hV).c
    rw [b169]
    refine ckd ?_
    refine l_g (d' := 66) (v := .bool false) S (y_not rfl rfl) rfl rfl ?_
    refine l_y (v := .bool false) S (y_pF rfl rfl) ?_
    refine l_y (v := .bool false) S (y_mv rfl) ?_
    refine l_g (d' := 74) (v := pa g122 5) S (y_fb FA31_3 rfl rfl) rfl rfl ?_
    refine l_g (d' := 74) (v := .slice A116 (((PruneN d).1.log).length) c117) S (y_ld rfl (fun w S => ld_b1 (i := 2) S rfl rfl T28)) rfl rfl ?_
    refine l_g (d' := 74) (v := ni (((PruneN d).1.log).length : Int)) S (y_len U28 rfl rfl) rfl rfl ?_
    refine l_g (d' := 74) (v := pa g63 5) S (y_fb FA31_3 rfl rfl) rfl rfl ?_
    refine l_g (d' := 74) (v := .slice A26 d.log.length c27) S (y_ld rfl (fun w S => ld_b1 (i := 0) S rfl rfl T28)) rfl rfl ?_
    refine l_g (d' := 74) (v := ni (d.log.length : Int)) S (y_len U28 rfl rfl) rfl rfl ?_
    have h170 : ¬ ((d.log.length : Int) < (((PruneN d).1.log).length : Int)) := by have := (k hV).l; omega
    refine l_g (d' := 74) (v := .bool false) S (y_gtF rfl rfl h170) rfl rfl ?_
    refine l_y (v := .bool false) S (y_pF rfl rfl) ?_
    refine l_y (v := .bool false) S (y_mv rfl) ?_
    refine l_g (d' := 83) (v := .agg #[ni ((PruneN d).1.self), .slice A104 (((PruneN d).1.state.clock).length) c105, .slice A107 (((PruneN d).1.state.lives).length) c108, .slice A110 (((PruneN d).1.state.tallies).length) c111, .slice A113 (((PruneN d).1.base).length) c114, .slice A116 (((PruneN d).1.log).length) c117, .slice A119 (((PruneN d).1.known).length) c120]) S (y_ld rfl (fun w S => ld_bA (vs := [ni ((PruneN d).1.self), .slice A104 (((PruneN d).1.state.clock).length) c105, .slice A107 (((PruneN d).1.state.lives).length) c108, .slice A110 (((PruneN d).1.state.tallies).length) c111, .slice A113 (((PruneN d).1.base).length) c114, .slice A116 (((PruneN d).1.log).length) c117, .slice A119 (((PruneN d).1.known).length) c120]) (i := 2) S rfl T31 rfl rfl)) rfl rfl ?_
    refine l_g (d' := 83) (v := .agg #[ni ((PruneN ((PruneN d).1)).1.self), .slice A145 (((PruneN ((PruneN d).1)).1.state.clock).length) c146, .slice A148 (((PruneN ((PruneN d).1)).1.state.lives).length) c149, .slice A151 (((PruneN ((PruneN d).1)).1.state.tallies).length) c152, .slice A154 (((PruneN ((PruneN d).1)).1.base).length) c155, .slice A157 (((PruneN ((PruneN d).1)).1.log).length) c158, .slice A160 (((PruneN ((PruneN d).1)).1.known).length) c161]) S (y_ld rfl (fun w S => ld_bA (vs := [ni ((PruneN ((PruneN d).1)).1.self), .slice A145 (((PruneN ((PruneN d).1)).1.state.clock).length) c146, .slice A148 (((PruneN ((PruneN d).1)).1.state.lives).length) c149, .slice A151 (((PruneN ((PruneN d).1)).1.state.tallies).length) c152, .slice A154 (((PruneN ((PruneN d).1)).1.base).length) c155, .slice A157 (((PruneN ((PruneN d).1)).1.log).length) c158, .slice A160 (((PruneN ((PruneN d).1)).1.known).length) c161]) (i := 3) S rfl T31 rfl rfl)) rfl rfl ?_
    refine l_cg (d' := 83) (en_f (vs := [.agg #[ni ((PruneN d).1.self), .slice A104 (((PruneN d).1.state.clock).length) c105, .slice A107 (((PruneN d).1.state.lives).length) c108, .slice A110 (((PruneN d).1.state.tallies).length) c111, .slice A113 (((PruneN d).1.base).length) c114, .slice A116 (((PruneN d).1.log).length) c117, .slice A119 (((PruneN d).1.known).length) c120], .agg #[ni ((PruneN ((PruneN d).1)).1.self), .slice A145 (((PruneN ((PruneN d).1)).1.state.clock).length) c146, .slice A148 (((PruneN ((PruneN d).1)).1.state.lives).length) c149, .slice A151 (((PruneN ((PruneN d).1)).1.state.tallies).length) c152, .slice A154 (((PruneN ((PruneN d).1)).1.base).length) c155, .slice A157 (((PruneN ((PruneN d).1)).1.log).length) c158, .slice A160 (((PruneN ((PruneN d).1)).1.known).length) c161]]) (CF 15 _) rfl rfl) rfl rfl (SameN_c _ _ S.le _ _ ((PruneN d).1) ((PruneN ((PruneN d).1)).1) (⟨_, rfl, ⟨_, _, _, _, _, _, rfl, h93, h95, h97, h99, h101, h103⟩⟩ : AggR NodeR rd126 _ ((PruneN d).1)) (⟨_, rfl, ⟨_, _, _, _, _, _, rfl, h134, h136, h138, h140, h142, h144⟩⟩ : AggR NodeR rd126 _ ((PruneN ((PruneN d).1)).1))) ?_
    rintro e w171 ⟨rfl, k⟩
    have S := S.callq k; clear k
    have b172 : sameN ((PruneN d).1) ((PruneN ((PruneN d).1)).1) = true := decide_eq_true (k hV).s
    rw [b172]
    refine ckd ?_
    refine l_g (d' := 83) (v := .bool false) S (y_not rfl rfl) rfl rfl ?_
    refine l_y (v := .bool false) S (y_pF rfl rfl) ?_
    refine l_nil ?_
    refine n_seq ?_
    refine e_cF rfl ?_
    refine e_skip ?_
    refine n_seq ?_
    refine e_seq ?_
    refine e_reg ?_
    refine l_y (v := .agg #[ni ((PruneN d).1.self), .slice A104 (((PruneN d).1.state.clock).length) c105, .slice A107 (((PruneN d).1.state.lives).length) c108, .slice A110 (((PruneN d).1.state.tallies).length) c111, .slice A113 (((PruneN d).1.base).length) c114, .slice A116 (((PruneN d).1.log).length) c117, .slice A119 (((PruneN d).1.known).length) c120]) S (y_ld rfl (fun w S => ld_bA (vs := [ni ((PruneN d).1.self), .slice A104 (((PruneN d).1.state.clock).length) c105, .slice A107 (((PruneN d).1.state.lives).length) c108, .slice A110 (((PruneN d).1.state.tallies).length) c111, .slice A113 (((PruneN d).1.base).length) c114, .slice A116 (((PruneN d).1.log).length) c117, .slice A119 (((PruneN d).1.known).length) c120]) (i := 2) S rfl T31 rfl rfl)) ?_
    refine l_y (v := pa g66 0) S (y_fb FA31_0 rfl rfl) ?_
    refine l_y (v := ni e.self) S (y_ld rfl (fun w S => ld_b1 (i := 1) S rfl rfl T3)) ?_
    refine l_c (en_f (vs := [.agg #[ni ((PruneN d).1.self), .slice A104 (((PruneN d).1.state.clock).length) c105, .slice A107 (((PruneN d).1.state.lives).length) c108, .slice A110 (((PruneN d).1.state.tallies).length) c111, .slice A113 (((PruneN d).1.base).length) c114, .slice A116 (((PruneN d).1.log).length) c117, .slice A119 (((PruneN d).1.known).length) c120], ni e.self]) (CF 23 _) rfl rfl) (NSend_c _ _ S.le _ ((PruneN d).1) e.self (⟨_, rfl, ⟨_, _, _, _, _, _, rfl, h93, h95, h97, h99, h101, h103⟩⟩ : AggR NodeR rd126 _ ((PruneN d).1))) ?_
    rintro e w173 ⟨v178, rfl, h179, k⟩
    obtain ⟨rd174, S, L175, N176, X177⟩ := S.call' k; clear k
    replace h3 := fm h3 L175
    replace h5 := fm h5 L175
    replace h7 := fm h7 L175
    replace h9 := fm h9 L175
    replace h11 := fm h11 L175
    replace h13 := fm h13 L175
    replace h34 := fm h34 L175
    replace h36 := fm h36 L175
    replace h38 := fm h38 L175
    replace h40 := fm h40 L175
    replace h42 := fm h42 L175
    replace h44 := fm h44 L175
    replace r76 := fm r76 L175
    replace E74 := PtrC.mono E74 L175
    replace h93 := fm h93 L175
    replace h95 := fm h95 L175
    replace h97 := fm h97 L175
    replace h99 := fm h99 L175
    replace h101 := fm h101 L175
    replace h103 := fm h103 L175
    replace h134 := fm h134 L175
    replace h136 := fm h136 L175
    replace h138 := fm h138 L175
    replace h140 := fm h140 L175
    replace h142 := fm h142 L175
    replace h144 := fm h144 L175
    replace h179 := am h179 X177
    obtain ⟨cs180, h179v, h179⟩ := h179; subst h179v
    obtain ⟨sv181, sv183, sv185, sv187, sv189, h179e, h182, h184, h186, h188, h190⟩ := h179; subst h179e
    obtain ⟨A191, c192, rfl, m193, m193'⟩ := h182.val
    obtain ⟨A194, c195, rfl, m196, m196'⟩ := h184.val
    obtain ⟨A197, c198, rfl, m199, m199'⟩ := h186.val
    obtain ⟨A200, c201, rfl, m202, m202'⟩ := h188.val
    obtain ⟨A203, c204, rfl, m205, m205'⟩ := h190.val
    refine ckd ?_
    refine l_y (v := .tuple #[.agg #[.bool ((SendN ((PruneN d).1) e.self).1.whole), .slice A191 (((SendN ((PruneN d).1) e.self).1.state.clock).length) c192, .slice A194 (((SendN ((PruneN d).1) e.self).1.state.lives).length) c195, .slice A197 (((SendN ((PruneN d).1) e.self).1.state.tallies).length) c198, .slice A200 (((SendN ((PruneN d).1) e.self).1.updates).length) c201, .slice A203 (((SendN ((PruneN d).1) e.self).1.clock).length) c204], ni ((SendN ((PruneN d).1) e.self).2)]) S (y_mv rfl) ?_
    refine l_y (v := .agg #[.bool ((SendN ((PruneN d).1) e.self).1.whole), .slice A191 (((SendN ((PruneN d).1) e.self).1.state.clock).length) c192, .slice A194 (((SendN ((PruneN d).1) e.self).1.state.lives).length) c195, .slice A197 (((SendN ((PruneN d).1) e.self).1.state.tallies).length) c198, .slice A200 (((SendN ((PruneN d).1) e.self).1.updates).length) c201, .slice A203 (((SendN ((PruneN d).1) e.self).1.clock).length) c204]) S (y_ex rfl rfl) ?_
    refine l_y (v := ni ((SendN ((PruneN d).1) e.self).2)) S (y_ex rfl rfl) ?_
    refine l_al (cs := #[.bool false, .slice none 0 0, .slice none 0 0, .slice none 0 0, .slice none 0 0, .slice none 0 0]) S Z33 rfl fun g206 w207 S => ?_
    refine l_st (u := .agg #[.bool ((SendN ((PruneN d).1) e.self).1.whole), .slice A191 (((SendN ((PruneN d).1) e.self).1.state.clock).length) c192, .slice A194 (((SendN ((PruneN d).1) e.self).1.state.lives).length) c195, .slice A197 (((SendN ((PruneN d).1) e.self).1.state.tallies).length) c198, .slice A200 (((SendN ((PruneN d).1) e.self).1.updates).length) c201, .slice A203 (((SendN ((PruneN d).1) e.self).1.clock).length) c204]) (i := 4) (cs' := #[.bool ((SendN ((PruneN d).1) e.self).1.whole), .slice A191 (((SendN ((PruneN d).1) e.self).1.state.clock).length) c192, .slice A194 (((SendN ((PruneN d).1) e.self).1.state.lives).length) c195, .slice A197 (((SendN ((PruneN d).1) e.self).1.state.tallies).length) c198, .slice A200 (((SendN ((PruneN d).1) e.self).1.updates).length) c201, .slice A203 (((SendN ((PruneN d).1) e.self).1.clock).length) c204]) S rfl rfl rfl SZ33 rfl rfl rfl fun w208 S => ?_
    refine l_y (v := ni ((SendN ((PruneN d).1) e.self).2)) S (y_as rfl) ?_
    refine l_nil ?_
    refine n_seq ?_
    refine e_seq ?_
    refine e_seq ?_
    refine e_reg ?_
    refine l_y (v := ni ((SendN ((PruneN d).1) e.self).2)) S (y_mv rfl) ?_
    have h209 : (SendN ((PruneN d).1) e.self).2 = 0 := (k hV).n
    refine l_y (v := .bool false) S (y_neF rfl rfl h209) ?_
    refine l_y (v := .bool false) S (y_mv rfl) ?_
    have l9 := (k hV).u
    refine l_g (d' := 98) (v := pa g66 5) S (y_fb FA31_3 rfl rfl) rfl rfl ?_
    refine l_g (d' := 98) (v := .slice A57 e.log.length c58) S (y_ld rfl (fun w S => ld_b1 (i := 1) S rfl rfl T28)) rfl rfl ?_
    refine l_g (d' := 98) (v := ni (e.log.length : Int)) S (y_len U28 rfl rfl) rfl rfl ?_
    refine l_g (d' := 98) (v := pa g206 4) S (y_fb FA33_2 rfl rfl) rfl rfl ?_
    refine l_g (d' := 98) (v := .slice A200 (((SendN ((PruneN d).1) e.self).1.updates).length) c201) S (y_ld rfl (fun w S => ld_b1 (i := 4) S rfl rfl T28)) rfl rfl ?_
    refine l_g (d' := 98) (v := ni (((SendN ((PruneN d).1) e.self).1.updates).length : Int)) S (y_len U28 rfl rfl) rfl rfl ?_
    refine l_g (d' := 98) (v := ni ((e.log.length : Int) + (((SendN ((PruneN d).1) e.self).1.updates).length : Int))) S (y_add (r := (e.log.length : Int) + (((SendN ((PruneN d).1) e.self).1.updates).length : Int)) rfl rfl (w64 (by omega) (by omega))) rfl rfl ?_
    by_cases hM : 300 < (e.log.length : Int) + (((SendN ((PruneN d).1) e.self).1.updates).length : Int)
    ·
     refine l_g (d' := 98) (v := .bool true) S (y_gtT rfl rfl hM) rfl rfl ?_
     refine l_y (v := .bool true) S (y_pF rfl rfl) ?_
     refine l_nil ?_
     refine n_seq ?_
     refine e_cT rfl ?_
     refine e_seq ?_
     refine e_reg ?_
     refine l_y (v := ni ((SendN ((PruneN d).1) e.self).2)) S (y_mv rfl) ?_
     have h210 : (SendN ((PruneN d).1) e.self).2 = 0 := (k hV).n
     refine l_y (v := .bool true) S (y_eqT rfl rfl h210) ?_
     refine l_y (v := .bool true) S (y_as rfl) ?_
     refine l_nil ?_
     refine n_seq ?_
     refine e_ret ?_
     refine ret1 (v := .bool true) rfl rfl ?_
     exact ⟨rfl, S.below⟩
    refine l_g (d' := 98) (v := .bool false) S (y_gtF rfl rfl hM) rfl rfl ?_
    refine l_y (v := .bool false) S (y_pF rfl rfl) ?_
    refine l_nil ?_
    refine n_seq ?_
    refine e_cF rfl ?_
    refine e_skip ?_
    refine n_seq ?_
    refine e_seq ?_
    refine e_reg ?_
    refine l_y (v := .agg #[ni e.self, .slice A45 e.state.clock.length c46, .slice A48 e.state.lives.length c49, .slice A51 e.state.tallies.length c52, .slice A54 e.base.length c55, .slice A57 e.log.length c58, .slice A60 e.known.length c61]) S (y_ld rfl (fun w S => ld_bA (vs := [ni e.self, .slice A45 e.state.clock.length c46, .slice A48 e.state.lives.length c49, .slice A51 e.state.tallies.length c52, .slice A54 e.base.length c55, .slice A57 e.log.length c58, .slice A60 e.known.length c61]) (i := 1) S rfl T31 rfl rfl)) ?_
    refine l_y (v := pa g63 0) S (y_fb FA31_0 rfl rfl) ?_
    refine l_y (v := ni d.self) S (y_ld rfl (fun w S => ld_b1 (i := 0) S rfl rfl T3)) ?_
    refine l_y (v := .agg #[.bool ((SendN ((PruneN d).1) e.self).1.whole), .slice A191 (((SendN ((PruneN d).1) e.self).1.state.clock).length) c192, .slice A194 (((SendN ((PruneN d).1) e.self).1.state.lives).length) c195, .slice A197 (((SendN ((PruneN d).1) e.self).1.state.tallies).length) c198, .slice A200 (((SendN ((PruneN d).1) e.self).1.updates).length) c201, .slice A203 (((SendN ((PruneN d).1) e.self).1.clock).length) c204]) S (y_ld rfl (fun w S => ld_bA (vs := [.bool ((SendN ((PruneN d).1) e.self).1.whole), .slice A191 (((SendN ((PruneN d).1) e.self).1.state.clock).length) c192, .slice A194 (((SendN ((PruneN d).1) e.self).1.state.lives).length) c195, .slice A197 (((SendN ((PruneN d).1) e.self).1.state.tallies).length) c198, .slice A200 (((SendN ((PruneN d).1) e.self).1.updates).length) c201, .slice A203 (((SendN ((PruneN d).1) e.self).1.clock).length) c204]) (i := 4) S rfl T33 rfl rfl)) ?_
    refine l_c (en_f (vs := [.agg #[ni e.self, .slice A45 e.state.clock.length c46, .slice A48 e.state.lives.length c49, .slice A51 e.state.tallies.length c52, .slice A54 e.base.length c55, .slice A57 e.log.length c58, .slice A60 e.known.length c61], ni d.self, .agg #[.bool ((SendN ((PruneN d).1) e.self).1.whole), .slice A191 (((SendN ((PruneN d).1) e.self).1.state.clock).length) c192, .slice A194 (((SendN ((PruneN d).1) e.self).1.state.lives).length) c195, .slice A197 (((SendN ((PruneN d).1) e.self).1.state.tallies).length) c198, .slice A200 (((SendN ((PruneN d).1) e.self).1.updates).length) c201, .slice A203 (((SendN ((PruneN d).1) e.self).1.clock).length) c204]]) (CF 14 _) rfl rfl) (NTake_c _ _ S.le _ _ e d.self ((SendN ((PruneN d).1) e.self).1) (⟨_, rfl, ⟨_, _, _, _, _, _, rfl, h34, h36, h38, h40, h42, h44⟩⟩ : AggR NodeR rd174 _ e) (⟨_, rfl, ⟨_, _, _, _, _, rfl, h182, h184, h186, h188, h190⟩⟩ : AggR ParcelR rd174 _ ((SendN ((PruneN d).1) e.self).1))) ?_
    rintro e w211 ⟨v216, rfl, h217, k⟩
    obtain ⟨rd212, S, L213, N214, X215⟩ := S.call' k; clear k
    replace h3 := fm h3 L213
    replace h5 := fm h5 L213
    replace h7 := fm h7 L213
    replace h9 := fm h9 L213
    replace h11 := fm h11 L213
    replace h13 := fm h13 L213
    replace h34 := fm h34 L213
    replace h36 := fm h36 L213
    replace h38 := fm h38 L213
    replace h40 := fm h40 L213
    replace h42 := fm h42 L213
    replace h44 := fm h44 L213
    replace r76 := fm r76 L213
    replace E74 := PtrC.mono E74 L213
    replace h93 := fm h93 L213
    replace h95 := fm h95 L213
    replace h97 := fm h97 L213
    replace h99 := fm h99 L213
    replace h101 := fm h101 L213
    replace h103 := fm h103 L213
    replace h134 := fm h134 L213
    replace h136 := fm h136 L213
    replace h138 := fm h138 L213
    replace h140 := fm h140 L213
    replace h142 := fm h142 L213
    replace h144 := fm h144 L213
    replace h182 := fm h182 L213
    replace h184 := fm h184 L213
    replace h186 := fm h186 L213
    replace h188 := fm h188 L213
    replace h190 := fm h190 L213
    replace h217 := am h217 X215
    obtain ⟨cs218, h217v, h217⟩ := h217; subst h217v
    obtain ⟨sv219, sv221, sv223, sv225, sv227, sv229, h217e, h220, h222, h224, h226, h228, h230⟩ := h217; subst h217e
    obtain ⟨A231, c232, rfl, m233, m233'⟩ := h220.val
    obtain ⟨A234, c235, rfl, m236, m236'⟩ := h222.val
    obtain ⟨A237, c238, rfl, m239, m239'⟩ := h224.val
    obtain ⟨A240, c241, rfl, m242, m242'⟩ := h226.val
    obtain ⟨A243, c244, rfl, m245, m245'⟩ := h228.val
    obtain ⟨A246, c247, rfl, m248, m248'⟩ := h230.val
    refine ckd ?_
    refine l_y (v := .tuple #[.agg #[ni ((TakeN e d.self ((SendN ((PruneN d).1) e.self).1)).1.self), .slice A231 (((TakeN e d.self ((SendN ((PruneN d).1) e.self).1)).1.state.clock).length) c232, .slice A234 (((TakeN e d.self ((SendN ((PruneN d).1) e.self).1)).1.state.lives).length) c235, .slice A237 (((TakeN e d.self ((SendN ((PruneN d).1) e.self).1)).1.state.tallies).length) c238, .slice A240 (((TakeN e d.self ((SendN ((PruneN d).1) e.self).1)).1.base).length) c241, .slice A243 (((TakeN e d.self ((SendN ((PruneN d).1) e.self).1)).1.log).length) c244, .slice A246 (((TakeN e d.self ((SendN ((PruneN d).1) e.self).1)).1.known).length) c247], ni ((TakeN e d.self ((SendN ((PruneN d).1) e.self).1)).2)]) S (y_mv rfl) ?_
    refine l_y (v := .agg #[ni ((TakeN e d.self ((SendN ((PruneN d).1) e.self).1)).1.self), .slice A231 (((TakeN e d.self ((SendN ((PruneN d).1) e.self).1)).1.state.clock).length) c232, .slice A234 (((TakeN e d.self ((SendN ((PruneN d).1) e.self).1)).1.state.lives).length) c235, .slice A237 (((TakeN e d.self ((SendN ((PruneN d).1) e.self).1)).1.state.tallies).length) c238, .slice A240 (((TakeN e d.self ((SendN ((PruneN d).1) e.self).1)).1.base).length) c241, .slice A243 (((TakeN e d.self ((SendN ((PruneN d).1) e.self).1)).1.log).length) c244, .slice A246 (((TakeN e d.self ((SendN ((PruneN d).1) e.self).1)).1.known).length) c247]) S (y_ex rfl rfl) ?_
    refine l_y (v := ni ((TakeN e d.self ((SendN ((PruneN d).1) e.self).1)).2)) S (y_ex rfl rfl) ?_
    refine l_al (cs := #[ni 0, .slice none 0 0, .slice none 0 0, .slice none 0 0, .slice none 0 0, .slice none 0 0, .slice none 0 0]) S Z31 rfl fun g249 w250 S => ?_
    refine l_st (u := .agg #[ni ((TakeN e d.self ((SendN ((PruneN d).1) e.self).1)).1.self), .slice A231 (((TakeN e d.self ((SendN ((PruneN d).1) e.self).1)).1.state.clock).length) c232, .slice A234 (((TakeN e d.self ((SendN ((PruneN d).1) e.self).1)).1.state.lives).length) c235, .slice A237 (((TakeN e d.self ((SendN ((PruneN d).1) e.self).1)).1.state.tallies).length) c238, .slice A240 (((TakeN e d.self ((SendN ((PruneN d).1) e.self).1)).1.base).length) c241, .slice A243 (((TakeN e d.self ((SendN ((PruneN d).1) e.self).1)).1.log).length) c244, .slice A246 (((TakeN e d.self ((SendN ((PruneN d).1) e.self).1)).1.known).length) c247]) (i := 5) (cs' := #[ni ((TakeN e d.self ((SendN ((PruneN d).1) e.self).1)).1.self), .slice A231 (((TakeN e d.self ((SendN ((PruneN d).1) e.self).1)).1.state.clock).length) c232, .slice A234 (((TakeN e d.self ((SendN ((PruneN d).1) e.self).1)).1.state.lives).length) c235, .slice A237 (((TakeN e d.self ((SendN ((PruneN d).1) e.self).1)).1.state.tallies).length) c238, .slice A240 (((TakeN e d.self ((SendN ((PruneN d).1) e.self).1)).1.base).length) c241, .slice A243 (((TakeN e d.self ((SendN ((PruneN d).1) e.self).1)).1.log).length) c244, .slice A246 (((TakeN e d.self ((SendN ((PruneN d).1) e.self).1)).1.known).length) c247]) S rfl rfl rfl SZ31 rfl rfl rfl fun w251 S => ?_
    have S : St [] W (wrd W) rd212 [(g63, 31, #[ni d.self, .slice A14 d.state.clock.length c15, .slice A17 d.state.lives.length c18, .slice A20 d.state.tallies.length c21, .slice A23 d.base.length c24, .slice A26 d.log.length c27, .slice A29 d.known.length c30]), (g66, 31, #[ni e.self, .slice A45 e.state.clock.length c46, .slice A48 e.state.lives.length c49, .slice A51 e.state.tallies.length c52, .slice A54 e.base.length c55, .slice A57 e.log.length c58, .slice A60 e.known.length c61]), (g122, 31, #[ni ((PruneN d).1.self), .slice A104 (((PruneN d).1.state.clock).length) c105, .slice A107 (((PruneN d).1.state.lives).length) c108, .slice A110 (((PruneN d).1.state.tallies).length) c111, .slice A113 (((PruneN d).1.base).length) c114, .slice A116 (((PruneN d).1.log).length) c117, .slice A119 (((PruneN d).1.known).length) c120]), (g163, 31, #[ni ((PruneN ((PruneN d).1)).1.self), .slice A145 (((PruneN ((PruneN d).1)).1.state.clock).length) c146, .slice A148 (((PruneN ((PruneN d).1)).1.state.lives).length) c149, .slice A151 (((PruneN ((PruneN d).1)).1.state.tallies).length) c152, .slice A154 (((PruneN ((PruneN d).1)).1.base).length) c155, .slice A157 (((PruneN ((PruneN d).1)).1.log).length) c158, .slice A160 (((PruneN ((PruneN d).1)).1.known).length) c161]), (g206, 33, #[.bool ((SendN ((PruneN d).1) e.self).1.whole), .slice A191 (((SendN ((PruneN d).1) e.self).1.state.clock).length) c192, .slice A194 (((SendN ((PruneN d).1) e.self).1.state.lives).length) c195, .slice A197 (((SendN ((PruneN d).1) e.self).1.state.tallies).length) c198, .slice A200 (((SendN ((PruneN d).1) e.self).1.updates).length) c201, .slice A203 (((SendN ((PruneN d).1) e.self).1.clock).length) c204]), (g249, 31, #[ni ((TakeN e d.self ((SendN ((PruneN d).1) e.self).1)).1.self), .slice A231 (((TakeN e d.self ((SendN ((PruneN d).1) e.self).1)).1.state.clock).length) c232, .slice A234 (((TakeN e d.self ((SendN ((PruneN d).1) e.self).1)).1.state.lives).length) c235, .slice A237 (((TakeN e d.self ((SendN ((PruneN d).1) e.self).1)).1.state.tallies).length) c238, .slice A240 (((TakeN e d.self ((SendN ((PruneN d).1) e.self).1)).1.base).length) c241, .slice A243 (((TakeN e d.self ((SendN ((PruneN d).1) e.self).1)).1.log).length) c244, .slice A246 (((TakeN e d.self ((SendN ((PruneN d).1) e.self).1)).1.known).length) c247])] [] _ := S.rw' rfl rfl
    refine l_y (v := ni ((TakeN e d.self ((SendN ((PruneN d).1) e.self).1)).2)) S (y_as rfl) ?_
    refine l_nil ?_
    refine n_seq ?_
    refine e_seq ?_
    refine e_a (fun w => St [] W (wrd W) rd212 [(g63, 31, #[ni d.self, .slice A14 d.state.clock.length c15, .slice A17 d.state.lives.length c18, .slice A20 d.state.tallies.length c21, .slice A23 d.base.length c24, .slice A26 d.log.length c27, .slice A29 d.known.length c30]), (g66, 31, #[ni e.self, .slice A45 e.state.clock.length c46, .slice A48 e.state.lives.length c49, .slice A51 e.state.tallies.length c52, .slice A54 e.base.length c55, .slice A57 e.log.length c58, .slice A60 e.known.length c61]), (g122, 31, #[ni ((PruneN d).1.self), .slice A104 (((PruneN d).1.state.clock).length) c105, .slice A107 (((PruneN d).1.state.lives).length) c108, .slice A110 (((PruneN d).1.state.tallies).length) c111, .slice A113 (((PruneN d).1.base).length) c114, .slice A116 (((PruneN d).1.log).length) c117, .slice A119 (((PruneN d).1.known).length) c120]), (g163, 31, #[ni ((PruneN ((PruneN d).1)).1.self), .slice A145 (((PruneN ((PruneN d).1)).1.state.clock).length) c146, .slice A148 (((PruneN ((PruneN d).1)).1.state.lives).length) c149, .slice A151 (((PruneN ((PruneN d).1)).1.state.tallies).length) c152, .slice A154 (((PruneN ((PruneN d).1)).1.base).length) c155, .slice A157 (((PruneN ((PruneN d).1)).1.log).length) c158, .slice A160 (((PruneN ((PruneN d).1)).1.known).length) c161]), (g206, 33, #[.bool ((SendN ((PruneN d).1) e.self).1.whole), .slice A191 (((SendN ((PruneN d).1) e.self).1.state.clock).length) c192, .slice A194 (((SendN ((PruneN d).1) e.self).1.state.lives).length) c195, .slice A197 (((SendN ((PruneN d).1) e.self).1.state.tallies).length) c198, .slice A200 (((SendN ((PruneN d).1) e.self).1.updates).length) c201, .slice A203 (((SendN ((PruneN d).1) e.self).1.clock).length) c204]), (g249, 31, #[ni ((TakeN e d.self ((SendN ((PruneN d).1) e.self).1)).1.self), .slice A231 (((TakeN e d.self ((SendN ((PruneN d).1) e.self).1)).1.state.clock).length) c232, .slice A234 (((TakeN e d.self ((SendN ((PruneN d).1) e.self).1)).1.state.lives).length) c235, .slice A237 (((TakeN e d.self ((SendN ((PruneN d).1) e.self).1)).1.state.tallies).length) c238, .slice A240 (((TakeN e d.self ((SendN ((PruneN d).1) e.self).1)).1.base).length) c241, .slice A243 (((TakeN e d.self ((SendN ((PruneN d).1) e.self).1)).1.log).length) c244, .slice A246 (((TakeN e d.self ((SendN ((PruneN d).1) e.self).1)).1.known).length) c247])] [] w) MX rfl ?_
    have S := S.drew; have sup252 := S.sup
    have SC := (S.tk 6 0 rfl rfl)
    refine a_tk (v := ni ((TakeN e d.self ((SendN ((PruneN d).1) e.self).1)).2)) 0 rfl rfl SC rfl (y_mv rfl) ?_
    have h253 : (TakeN e d.self ((SendN ((PruneN d).1) e.self).1)).2 = 0 := ((k hV).t (by omega)).1
    refine a_tk (v := .bool true) 1 rfl rfl SC rfl (y_eqT rfl rfl h253) ?_
    refine a_tk (v := .bool true) 2 rfl rfl SC rfl (y_mv rfl) ?_
    have la := (k hV).cl (by omega)
    refine a_tkg (d' := 120) (v := pa g249 1) 3 rfl rfl SC rfl rfl rfl (y_fb FA31_1 rfl rfl) ?_
    refine a_tkg (d' := 120) (v := pa g249 1) 4 rfl rfl SC rfl rfl rfl (y_fb FA27_0 rfl rfl) ?_
    refine a_tkg (d' := 120) (v := .slice A231 (((TakeN e d.self ((SendN ((PruneN d).1) e.self).1)).1.state.clock).length) c232) 5 rfl rfl SC rfl rfl rfl (y_ld rfl (fun w S => ld_b1 (i := 5) S rfl rfl T23)) ?_
    refine a_tkg (d' := 120) (v := pa g63 1) 6 rfl rfl SC rfl rfl rfl (y_fb FA31_1 rfl rfl) ?_
    refine a_tkg (d' := 120) (v := pa g63 1) 7 rfl rfl SC rfl rfl rfl (y_fb FA27_0 rfl rfl) ?_
    refine a_tkg (d' := 120) (v := .slice A14 d.state.clock.length c15) 8 rfl rfl SC rfl rfl rfl (y_ld rfl (fun w S => ld_b1 (i := 0) S rfl rfl T23)) ?_
    refine a_tkg (d' := 120) (v := pa g66 1) 9 rfl rfl SC rfl rfl rfl (y_fb FA31_1 rfl rfl) ?_
    refine a_tkg (d' := 120) (v := pa g66 1) 10 rfl rfl SC rfl rfl rfl (y_fb FA27_0 rfl rfl) ?_
    refine a_tkg (d' := 120) (v := .slice A45 e.state.clock.length c46) 11 rfl rfl SC rfl rfl rfl (y_ld rfl (fun w S => ld_b1 (i := 1) S rfl rfl T23)) ?_
    refine a_all (rs := [12]) (by kernel_rfl) rfl ?_
    refine aa_cons rfl ?_ ?_
    ·
     refine l_cg (d' := 120) (en_f (vs := [.slice A14 d.state.clock.length c15, .slice A45 e.state.clock.length c46]) (CF 31 _) rfl rfl) rfl rfl (Join_c _ _ _ _ _ (fm h3 S.le) (fm h34 S.le) (by omega)) ?_
     rintro e w256 ⟨r254, rfl, h255, k⟩
     obtain ⟨rd257, S, L258, N259, X260⟩ := S.call' k; clear k
     replace h3 := fm h3 L258
     replace h5 := fm h5 L258
     replace h7 := fm h7 L258
     replace h9 := fm h9 L258
     replace h11 := fm h11 L258
     replace h13 := fm h13 L258
     replace h34 := fm h34 L258
     replace h36 := fm h36 L258
     replace h38 := fm h38 L258
     replace h40 := fm h40 L258
     replace h42 := fm h42 L258
     replace h44 := fm h44 L258
     replace r76 := fm r76 L258
     replace E74 := PtrC.mono E74 L258
     replace h93 := fm h93 L258
     replace h95 := fm h95 L258
     replace h97 := fm h97 L258
     replace h99 := fm h99 L258
     replace h101 := fm h101 L258
     replace h103 := fm h103 L258
     replace h134 := fm h134 L258
     replace h136 := fm h136 L258
     replace h138 := fm h138 L258
     replace h140 := fm h140 L258
     replace h142 := fm h142 L258
     replace h144 := fm h144 L258
     replace h182 := fm h182 L258
     replace h184 := fm h184 L258
     replace h186 := fm h186 L258
     replace h188 := fm h188 L258
     replace h190 := fm h190 L258
     replace h220 := fm h220 L258
     replace h222 := fm h222 L258
     replace h224 := fm h224 L258
     replace h226 := fm h226 L258
     replace h228 := fm h228 L258
     replace h230 := fm h230 L258
     have h255 := fm h255 N259
     obtain ⟨A261, c262, rfl, m263, m263'⟩ := h255.val
     refine ckd ?_
     refine l_nil ?_
     have SC := ((S.tk 6 0 rfl rfl).weak sup252 L258)
     refine n_lp (ak SC ?_)
     refine a_all (rs := [13]) (by kernel_rfl) rfl ?_
     refine aa_cons rfl ?_ ?_
     ·
      refine l_cg (d' := 120) (en_f (vs := [.slice A231 (((TakeN e d.self ((SendN ((PruneN d).1) e.self).1)).1.state.clock).length) c232, .slice A261 ((joinC d.state.clock e.state.clock).length) c262]) (CF 16 _) rfl rfl) rfl rfl (Same_calls _ _ _ _ _ (fm h220 S.le) (fm h255 S.le)) ?_
      rintro e w264 ⟨rfl, k⟩
      have S := S.callq k; clear k
      have b265 : sameL ((TakeN e d.self ((SendN ((PruneN d).1) e.self).1)).1.state.clock) (joinC d.state.clock e.state.clock) = true := decide_eq_true ((k hV).t (by omega)).2
      rw [b265]
      refine ckd ?_
      refine l_nil ?_
      have SC := ((S.tk 6 0 rfl rfl).weak sup252 L258)
      refine n_lp (ak SC ?_)
      refine a_tk (v := .bool true) 14 rfl rfl SC rfl (y_pT rfl rfl) ?_
      refine a_tk (v := .bool true) 15 rfl rfl SC rfl (y_as rfl) ?_
      refine a_done (by kernel_rfl) ?_
      clear SC
      refine n_seq ?_
      refine e_ret ?_
      refine ret1 (v := .bool true) rfl rfl ?_
      exact ⟨rfl, S.below⟩
     exact aa_nil
    exact aa_nil
   refine q_g (d' := 21) (v := .bool true) (y_neT rfl rfl hk) rfl rfl ?_
   refine q_y (v := .bool true) (y_pF rfl rfl) ?_
   refine q_y (v := .bool true) (y_mv rfl) ?_
   refine q_s (d' := 30) rfl rfl ?_
   refine q_s (d' := 30) rfl rfl ?_
   refine q_s (d' := 30) rfl rfl ?_
   refine q_s (d' := 30) rfl rfl ?_
   refine q_s (d' := 30) rfl rfl ?_
   refine q_y (v := .bool true) (y_pT rfl rfl) ?_
   refine q_y (v := .bool true) (y_mv rfl) ?_
   refine q_s (d' := 37) rfl rfl ?_
   refine q_s (d' := 37) rfl rfl ?_
   refine q_s (d' := 37) rfl rfl ?_
   refine q_s (d' := 37) rfl rfl ?_
   refine q_s (d' := 37) rfl rfl ?_
   refine q_s (d' := 37) rfl rfl ?_
   refine q_s (d' := 37) rfl rfl ?_
   refine q_s (d' := 37) rfl rfl ?_
   refine q_s (d' := 37) rfl rfl ?_
   refine q_s (d' := 37) rfl rfl ?_
   refine q_s (d' := 37) rfl rfl ?_
   refine q_y (v := .bool true) (y_pT rfl rfl) ?_
   refine q_nil fun w266 S => ?_
   refine n_seq ?_
   refine e_cT rfl ?_
   refine e_seq ?_
   refine e_reg ?_
   refine l_y (v := .bool true) S (y_as rfl) ?_
   refine l_nil ?_
   refine n_seq ?_
   refine e_ret ?_
   refine ret1 (v := .bool true) rfl rfl ?_
   exact ⟨rfl, S.below⟩
  refine q_g (d' := 16) (v := .bool true) (y_neT rfl rfl he) rfl rfl ?_
  refine q_y (v := .bool true) (y_pF rfl rfl) ?_
  refine q_y (v := .bool true) (y_mv rfl) ?_
  refine q_s (d' := 21) rfl rfl ?_
  refine q_s (d' := 21) rfl rfl ?_
  refine q_s (d' := 21) rfl rfl ?_
  refine q_s (d' := 21) rfl rfl ?_
  refine q_s (d' := 21) rfl rfl ?_
  refine q_s (d' := 21) rfl rfl ?_
  refine q_s (d' := 21) rfl rfl ?_
  refine q_y (v := .bool true) (y_pT rfl rfl) ?_
  refine q_y (v := .bool true) (y_mv rfl) ?_
  refine q_s (d' := 30) rfl rfl ?_
  refine q_s (d' := 30) rfl rfl ?_
  refine q_s (d' := 30) rfl rfl ?_
  refine q_s (d' := 30) rfl rfl ?_
  refine q_s (d' := 30) rfl rfl ?_
  refine q_y (v := .bool true) (y_pT rfl rfl) ?_
  refine q_y (v := .bool true) (y_mv rfl) ?_
  refine q_s (d' := 37) rfl rfl ?_
  refine q_s (d' := 37) rfl rfl ?_
  refine q_s (d' := 37) rfl rfl ?_
  refine q_s (d' := 37) rfl rfl ?_
  refine q_s (d' := 37) rfl rfl ?_
  refine q_s (d' := 37) rfl rfl ?_
  refine q_s (d' := 37) rfl rfl ?_
  refine q_s (d' := 37) rfl rfl ?_
  refine q_s (d' := 37) rfl rfl ?_
  refine q_s (d' := 37) rfl rfl ?_
  refine q_s (d' := 37) rfl rfl ?_
  refine q_y (v := .bool true) (y_pT rfl rfl) ?_
  refine q_nil fun w267 S => ?_
  refine n_seq ?_
  refine e_cT rfl ?_
  refine e_seq ?_
  refine e_reg ?_
  refine l_y (v := .bool true) S (y_as rfl) ?_
  refine l_nil ?_
  refine n_seq ?_
  refine e_ret ?_
  refine ret1 (v := .bool true) rfl rfl ?_
  exact ⟨rfl, S.below⟩
 refine q_y (v := .bool true) (y_neT rfl rfl hd) ?_
 refine q_y (v := .bool true) (y_mv rfl) ?_
 refine q_s (d' := 16) rfl rfl ?_
 refine q_s (d' := 16) rfl rfl ?_
 refine q_s (d' := 16) rfl rfl ?_
 refine q_y (v := .bool true) (y_pT rfl rfl) ?_
 refine q_y (v := .bool true) (y_mv rfl) ?_
 refine q_s (d' := 21) rfl rfl ?_
 refine q_s (d' := 21) rfl rfl ?_
 refine q_s (d' := 21) rfl rfl ?_
 refine q_s (d' := 21) rfl rfl ?_
 refine q_s (d' := 21) rfl rfl ?_
 refine q_s (d' := 21) rfl rfl ?_
 refine q_s (d' := 21) rfl rfl ?_
 refine q_y (v := .bool true) (y_pT rfl rfl) ?_
 refine q_y (v := .bool true) (y_mv rfl) ?_
 refine q_s (d' := 30) rfl rfl ?_
 refine q_s (d' := 30) rfl rfl ?_
 refine q_s (d' := 30) rfl rfl ?_
 refine q_s (d' := 30) rfl rfl ?_
 refine q_s (d' := 30) rfl rfl ?_
 refine q_y (v := .bool true) (y_pT rfl rfl) ?_
 refine q_y (v := .bool true) (y_mv rfl) ?_
 refine q_s (d' := 37) rfl rfl ?_
 refine q_s (d' := 37) rfl rfl ?_
 refine q_s (d' := 37) rfl rfl ?_
 refine q_s (d' := 37) rfl rfl ?_
 refine q_s (d' := 37) rfl rfl ?_
 refine q_s (d' := 37) rfl rfl ?_
 refine q_s (d' := 37) rfl rfl ?_
 refine q_s (d' := 37) rfl rfl ?_
 refine q_s (d' := 37) rfl rfl ?_
 refine q_s (d' := 37) rfl rfl ?_
 refine q_s (d' := 37) rfl rfl ?_
 refine q_y (v := .bool true) (y_pT rfl rfl) ?_
 refine q_nil fun w268 S => ?_
 refine n_seq ?_
 refine e_cT rfl ?_
 refine e_seq ?_
 refine e_reg ?_
 refine l_y (v := .bool true) S (y_as rfl) ?_
 refine l_nil ?_
 refine n_seq ?_
 refine e_ret ?_
 refine ret1 (v := .bool true) rfl rfl ?_
 exact ⟨rfl, S.below⟩
set_option maxRecDepth 100000 in
theorem NodePrunes_lifted (os : Os) (started : os.Started) (H : Type) (enc : TypeId × Value → H) :
    ReturnsInHanded {} Tryz.checked os 5 .any (Rows.nodePrunesSpec.pre6 enc Tryz.prog Tryz.f5 Rows.nodePrunesRow.domain false) (Rows.nodePrunesSpec.post enc Tryz.prog Tryz.f5 false true false false) := by
  refine returnsInHanded_of_change_sized (C := Tryz.checked) own_ started (by kernel_rfl) Tryz.func5
    (ChangeSpec.witness6 (enc := enc) (C := Tryz.checked) false ⟨#[], #[.agg #[.int .i64 0, .slice none 0 0, .slice none 0 0, .slice none 0 0, .slice none 0 0, .slice none 0 0, .slice none 0 0], .agg #[.int .i64 0, .slice none 0 0, .slice none 0 0, .slice none 0 0, .slice none 0 0, .slice none 0 0, .slice none 0 0]], []⟩ 8 (by kernel_rfl) (by kernel_rfl) (by kernel_rfl) (by kernel_rfl)) ?_
  intro W base args ds gs before hval0 hW _ hsz0 _
  have hval : ∀ (j : Nat) t v, Tryz.f5.params[j]? = some t → args[j]? = some v → Value.okWide Tryz.prog W .any base t v := hval0
  have hsz : (DataW.weightsEach Tryz.prog (Tryz.f5.params.toList ++ Rows.nodePrunesSpec.plain.varTypes Tryz.prog) (ds ++ gs)).all (· ≤ reachBytes) = true := hsz0
  have hW' := hW
  obtain ⟨p, q, hA0, hV, rfl, _, _⟩ := hW
  obtain ⟨rfl, rfl⟩ := trodVars_none hV
  have hA : DataW.TrodAll enc Tryz.prog W 0 (fun _ => true) true Tryz.f5.params.toList args.toList ds p := hA0
  rw [Tryz.params5] at hA hval hsz
  obtain ⟨v1, vs1, d1, ds1, p1, q1, e1, rfl, rfl, t1, r1⟩ := trodAll_cons hA
  obtain ⟨v2, vs2, d2, ds2, p2, q2, rfl, rfl, rfl, t2, r2⟩ := trodAll_cons r1
  obtain ⟨rfl, rfl, rfl⟩ := trodAll_nil r2
  obtain rfl : args = #[v1, v2] := by cases args; simp_all
  obtain ⟨z1, hsz⟩ := weights_each hsz
  obtain ⟨z2, hsz⟩ := weights_each hsz
  obtain ⟨a1, ha1, hb1⟩ := arg_agg Tryz.underlying31 op_node (hval 0 _ v1 rfl rfl) t1 z1
  obtain ⟨a2, ha2, hb2⟩ := arg_agg Tryz.underlying31 op_node (hval 1 _ v2 rfl rfl) t2 z2
  refine (NodePrunes_calls W v1 a1 ha1 hb1 v2 a2 ha2 hb2).mono fun e W' ⟨he, hbl⟩ => ?_
  subst he
  exact ⟨_, rfl, close_law laidOut (by kernel_rfl) rfl (fun gs h => by subst h; rfl) rfl (tb := 4) Tryz.underlying4 hW' hbl⟩

theorem NodePrunes_holds : Rows.NodePrunesSaid :=
  OpenClaim.holds_of_wide 5 Tryz.f5 rfl rfl rfl rfl rfl rfl rfl ⟨rfl, rfl, rfl, rfl, rfl⟩ rfl rfl rfl rfl rfl (by kernel_rfl) Tryz.func5 (by kernel_rfl)
    (of_decide_eq_true (by kernel_rfl)) (by unfold Func.isWrapper; first | (rw [if_pos (by decide +kernel)]; kernel_rfl) | (rw [if_neg (by decide +kernel)]; exact ⟨rfl, rfl⟩))
    (fun os started H enc _ => NodePrunes_lifted os started H enc)
#print axioms NodePrunes_holds
end Go.Proofs.YtkjknlnhffmkkacGreat
