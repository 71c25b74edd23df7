/- node.Send, node.Prune. -/
import Derived.Test.YtkjknlnhffmkkacGreatQNodeO
import Derived.Test.YtkjknlnhffmkkacGreatQPl
namespace Go.Proofs.YtkjknlnhffmkkacGreat
open Go.RowKit
set_option linter.unusedVariables false
set_option maxRecDepth 100000 in
set_option maxHeartbeats 8000000 in
theorem NSend_c (rd : Rd) (W : World) (hle : Rd.le rd (wrd W)) (v : Value) (d : Node) (to : Int) (h : AggR NodeR rd v d) :
    Calls Tryz.prog 23 #[v, (.int .i64 to)] W (fun e w' => ∃ v', e = .returned (.tuple #[v', .int .i64 (SendN d to).2]) ∧ AggR ParcelR (ext rd W w') v' (SendN d to).1 ∧ Below W.heap.size W w') := by
 obtain ⟨vs1, he, h⟩ := h; subst he
 obtain ⟨sv2, sv4, sv6, sv8, sv10, sv12, he, h3, h5, h7, h9, h11, h13⟩ := h; subst he
 obtain ⟨A14, c15, rfl, m16, m16'⟩ := h3.val
 obtain ⟨A17, c18, rfl, m19, m19'⟩ := h5.val
 obtain ⟨A20, c21, rfl, m22, m22'⟩ := h7.val
 obtain ⟨A23, c24, rfl, m25, m25'⟩ := h9.val
 obtain ⟨A26, c27, rfl, m28, m28'⟩ := h11.val
 obtain ⟨A29, c30, rfl, m31, m31'⟩ := h13.val
 have hmx : maxLen = 9223372036854775807 := rfl
 have S : St [] W rd rd [] [] W := St.start hle
 refine e_enter (args := [.agg #[ni d.self, .slice A14 d.state.clock.length c15, .slice A17 d.state.lives.length c18, .slice A20 d.state.tallies.length c21, .slice A23 d.base.length c24, .slice A26 d.log.length c27, .slice A29 d.known.length c30], ni to]) 59 Tryz.func23 rfl rfl rfl ?_
 refine e_seq ?_
 refine e_reg ?_
 refine l_bx (u := .agg #[ni d.self, .slice A14 d.state.clock.length c15, .slice A17 d.state.lives.length c18, .slice A20 d.state.tallies.length c21, .slice A23 d.base.length c24, .slice A26 d.log.length c27, .slice A29 d.known.length c30]) (cs := #[ni d.self, .slice A14 d.state.clock.length c15, .slice A17 d.state.lives.length c18, .slice A20 d.state.tallies.length c21, .slice A23 d.base.length c24, .slice A26 d.log.length c27, .slice A29 d.known.length c30]) S rfl rfl fun g32 w33 S => ?_
 refine l_al (cs := #[.bool false, .slice none 0 0, .slice none 0 0, .slice none 0 0, .slice none 0 0, .slice none 0 0]) S Z33 rfl fun g34 w35 S => ?_
 refine l_y (v := ni 0) S (y_as rfl) ?_
 refine l_nil ?_
 refine n_seq ?_
 refine e_seq ?_
 refine e_seq ?_
 refine e_reg ?_
 refine l_y (v := .agg #[ni d.self, .slice A14 d.state.clock.length c15, .slice A17 d.state.lives.length c18, .slice A20 d.state.tallies.length c21, .slice A23 d.base.length c24, .slice A26 d.log.length c27, .slice A29 d.known.length c30]) S (y_ld rfl (fun w S => ld_bA (vs := [ni d.self, .slice A14 d.state.clock.length c15, .slice A17 d.state.lives.length c18, .slice A20 d.state.tallies.length c21, .slice A23 d.base.length c24, .slice A26 d.log.length c27, .slice A29 d.known.length c30]) (i := 0) S rfl T31 rfl rfl)) ?_
 refine l_c (en_f (vs := [.agg #[ni d.self, .slice A14 d.state.clock.length c15, .slice A17 d.state.lives.length c18, .slice A20 d.state.tallies.length c21, .slice A23 d.base.length c24, .slice A26 d.log.length c27, .slice A29 d.known.length c30]]) (CF 19 _) rfl rfl) (NWrong_c _ _ S.le _ d (⟨_, rfl, ⟨_, _, _, _, _, _, rfl, h3, h5, h7, h9, h11, h13⟩⟩ : AggR NodeR rd _ d)) ?_
 rintro e w36 ⟨rfl, k⟩
 have S := S.callq k; clear k
 refine ckd ?_
 refine l_y (v := ni (wrongN d)) S (y_as rfl) ?_
 refine l_nil ?_
 refine n_seq ?_
 refine e_seq ?_
 refine e_reg ?_
 refine l_y (v := ni (wrongN d)) S (y_mv rfl) ?_
 by_cases hW : wrongN d = 0
 ·
  refine l_y (v := .bool false) S (y_neF rfl rfl hW) ?_
  refine l_nil ?_
  refine n_seq ?_
  refine e_cF rfl ?_
  refine e_skip ?_
  refine n_seq ?_
  refine e_seq ?_
  refine e_seq ?_
  refine e_reg ?_
  have hr := wrongN_iff.1 hW
  have hl6 := hr.len
  have hl3 := hr.l
  have hkl := hr.k
  refine l_y (v := ni to) S (y_mv rfl) ?_
  by_cases ht0 : to < 0
  ·
   refine l_y (v := .bool true) S (y_ltT rfl rfl ht0) ?_
   refine l_y (v := .bool true) S (y_mv rfl) ?_
   refine l_s (d' := 16) rfl rfl ?_
   refine l_s (d' := 16) rfl rfl ?_
   refine l_s (d' := 16) rfl rfl ?_
   refine l_s (d' := 16) rfl rfl ?_
   refine l_s (d' := 16) rfl rfl ?_
   refine l_y (v := .bool true) S (y_pT rfl rfl) ?_
   refine l_nil ?_
   refine n_seq ?_
   refine e_cT rfl ?_
   refine e_seq ?_
   refine e_reg ?_
   refine l_y (v := .agg #[.bool false, .slice none 0 0, .slice none 0 0, .slice none 0 0, .slice none 0 0, .slice none 0 0]) S (y_bd (ps := []) rfl (fun _ => by kernel_rfl)) ?_
   refine l_st (u := .agg #[.bool false, .slice none 0 0, .slice none 0 0, .slice none 0 0, .slice none 0 0, .slice none 0 0]) (i := 1) (cs' := #[.bool false, .slice none 0 0, .slice none 0 0, .slice none 0 0, .slice none 0 0, .slice none 0 0]) S rfl rfl rfl SZ33 rfl rfl rfl fun w37 S => ?_
   refine l_y (v := ni 6) S (y_as rfl) ?_
   refine l_nil ?_
   refine n_seq ?_
   refine e_ret ?_
   refine ret2 (v := .agg #[.bool false, .slice none 0 0, .slice none 0 0, .slice none 0 0, .slice none 0 0, .slice none 0 0]) (v' := ni 6) rfl ⟨_, rfl, ld_bA (i := 1) (vs := [.bool false, .slice none 0 0, .slice none 0 0, .slice none 0 0, .slice none 0 0, .slice none 0 0]) S rfl T33 rfl rfl⟩ rfl ?_
   have es : SendN d to = ((⟨false, ⟨[], [], []⟩, [], []⟩ : Parcel), 6) := by unfold SendN lenI; rw [if_neg (fun q => q hW), if_pos (by omega)]; rfl
   rw [es]
   exact ⟨_, rfl, ⟨_, rfl, ⟨_, _, _, _, _, rfl, (SliceR.nil_ _), (SliceR.nil_ _), (SliceR.nil_ _), (SliceR.nil_ _), (SliceR.nil_ _)⟩⟩, S.below⟩
  refine l_y (v := .bool false) S (y_ltF rfl rfl ht0) ?_
  refine l_y (v := .bool false) S (y_mv rfl) ?_
  refine l_g (d' := 16) (v := ni to) S (y_mv rfl) rfl rfl ?_
  refine l_g (d' := 16) (v := pa g32 6) S (y_fb FA31_4 rfl rfl) rfl rfl ?_
  refine l_g (d' := 16) (v := .slice A29 d.known.length c30) S (y_ld rfl (fun w S => ld_b1 (i := 0) S rfl rfl T29)) rfl rfl ?_
  refine l_g (d' := 16) (v := ni (d.known.length : Int)) S (y_len U29 rfl rfl) rfl rfl ?_
  by_cases ht1 : (d.known.length : Int) ≤ to
  ·
   refine l_g (d' := 16) (v := .bool true) S (y_geT rfl rfl ht1) rfl rfl ?_
   refine l_y (v := .bool true) S (y_pF rfl rfl) ?_
   refine l_nil ?_
   refine n_seq ?_
   refine e_cT rfl ?_
   refine e_seq ?_
   refine e_reg ?_
   refine l_y (v := .agg #[.bool false, .slice none 0 0, .slice none 0 0, .slice none 0 0, .slice none 0 0, .slice none 0 0]) S (y_bd (ps := []) rfl (fun _ => by kernel_rfl)) ?_
   refine l_st (u := .agg #[.bool false, .slice none 0 0, .slice none 0 0, .slice none 0 0, .slice none 0 0, .slice none 0 0]) (i := 1) (cs' := #[.bool false, .slice none 0 0, .slice none 0 0, .slice none 0 0, .slice none 0 0, .slice none 0 0]) S rfl rfl rfl SZ33 rfl rfl rfl fun w38 S => ?_
   refine l_y (v := ni 6) S (y_as rfl) ?_
   refine l_nil ?_
   refine n_seq ?_
   refine e_ret ?_
   refine ret2 (v := .agg #[.bool false, .slice none 0 0, .slice none 0 0, .slice none 0 0, .slice none 0 0, .slice none 0 0]) (v' := ni 6) rfl ⟨_, rfl, ld_bA (i := 1) (vs := [.bool false, .slice none 0 0, .slice none 0 0, .slice none 0 0, .slice none 0 0, .slice none 0 0]) S rfl T33 rfl rfl⟩ rfl ?_
   have es : SendN d to = ((⟨false, ⟨[], [], []⟩, [], []⟩ : Parcel), 6) := by unfold SendN lenI; rw [if_neg (fun q => q hW), if_pos (by omega)]; rfl
   rw [es]
   exact ⟨_, rfl, ⟨_, rfl, ⟨_, _, _, _, _, rfl, (SliceR.nil_ _), (SliceR.nil_ _), (SliceR.nil_ _), (SliceR.nil_ _), (SliceR.nil_ _)⟩⟩, S.below⟩
  refine l_g (d' := 16) (v := .bool false) S (y_geF rfl rfl ht1) rfl rfl ?_
  refine l_y (v := .bool false) S (y_pF rfl rfl) ?_
  refine l_nil ?_
  refine n_seq ?_
  refine e_cF rfl ?_
  refine e_skip ?_
  refine n_seq ?_
  refine e_seq ?_
  refine e_seq ?_
  refine e_reg ?_
  refine l_y (v := ni to) S (y_mv rfl) ?_
  refine l_y (v := pa g32 0) S (y_fb FA31_0 rfl rfl) ?_
  refine l_y (v := ni d.self) S (y_ld rfl (fun w S => ld_b1 (i := 0) S rfl rfl T3)) ?_
  by_cases hT : to = d.self
  ·
   refine l_y (v := .bool true) S (y_eqT rfl rfl hT) ?_
   refine l_nil ?_
   refine n_seq ?_
   refine e_cT rfl ?_
   refine e_seq ?_
   refine e_reg ?_
   refine l_y (v := .agg #[.bool false, .slice none 0 0, .slice none 0 0, .slice none 0 0, .slice none 0 0, .slice none 0 0]) S (y_bd (ps := []) rfl (fun _ => by kernel_rfl)) ?_
   refine l_st (u := .agg #[.bool false, .slice none 0 0, .slice none 0 0, .slice none 0 0, .slice none 0 0, .slice none 0 0]) (i := 1) (cs' := #[.bool false, .slice none 0 0, .slice none 0 0, .slice none 0 0, .slice none 0 0, .slice none 0 0]) S rfl rfl rfl SZ33 rfl rfl rfl fun w39 S => ?_
   refine l_y (v := ni 7) S (y_as rfl) ?_
   refine l_nil ?_
   refine n_seq ?_
   refine e_ret ?_
   refine ret2 (v := .agg #[.bool false, .slice none 0 0, .slice none 0 0, .slice none 0 0, .slice none 0 0, .slice none 0 0]) (v' := ni 7) rfl ⟨_, rfl, ld_bA (i := 1) (vs := [.bool false, .slice none 0 0, .slice none 0 0, .slice none 0 0, .slice none 0 0, .slice none 0 0]) S rfl T33 rfl rfl⟩ rfl ?_
   have es : SendN d to = ((⟨false, ⟨[], [], []⟩, [], []⟩ : Parcel), 7) := by unfold SendN lenI; rw [if_neg (fun q => q hW), if_neg (by omega), if_pos hT]; rfl
   rw [es]
   exact ⟨_, rfl, ⟨_, rfl, ⟨_, _, _, _, _, rfl, (SliceR.nil_ _), (SliceR.nil_ _), (SliceR.nil_ _), (SliceR.nil_ _), (SliceR.nil_ _)⟩⟩, S.below⟩
  refine l_y (v := .bool false) S (y_eqF rfl rfl hT) ?_
  refine l_nil ?_
  refine n_seq ?_
  refine e_cF rfl ?_
  refine e_skip ?_
  refine n_seq ?_
  refine e_seq ?_
  refine e_reg ?_
  refine l_y (v := pa g32 1) S (y_fb FA31_1 rfl rfl) ?_
  refine l_y (v := pa g32 1) S (y_fb FA27_0 rfl rfl) ?_
  refine l_y (v := .slice A14 d.state.clock.length c15) S (y_ld rfl (fun w S => ld_b1 (i := 0) S rfl rfl T23)) ?_
  refine l_c (en_f (vs := [.slice A14 d.state.clock.length c15]) (CF 45 _) rfl rfl) (CloneC_m _ _ S.le _ d.state.clock h3 (by omega)) ?_
  rintro e w40 ⟨v45, rfl, h46, k⟩
  obtain ⟨rd41, S, L42, N43, X44⟩ := S.call' k; clear k
  replace h3 := fm h3 L42
  replace h5 := fm h5 L42
  replace h7 := fm h7 L42
  replace h9 := fm h9 L42
  replace h11 := fm h11 L42
  replace h13 := fm h13 L42
  replace h46 := fm h46 X44
  obtain ⟨A47, c48, rfl, m49, m49'⟩ := h46.val
  refine ckd ?_
  refine l_y (v := .agg #[.bool false, .slice none 0 0, .slice none 0 0, .slice none 0 0, .slice none 0 0, .slice A47 d.state.clock.length c48]) S (y_bd (ps := [(3, .slice A47 d.state.clock.length c48)]) rfl (fun _ => by kernel_rfl)) ?_
  refine l_al (cs := #[.bool false, .slice none 0 0, .slice none 0 0, .slice none 0 0, .slice none 0 0, .slice none 0 0]) S Z33 rfl fun g50 w51 S => ?_
  refine l_st (u := .agg #[.bool false, .slice none 0 0, .slice none 0 0, .slice none 0 0, .slice none 0 0, .slice A47 d.state.clock.length c48]) (i := 2) (cs' := #[.bool false, .slice none 0 0, .slice none 0 0, .slice none 0 0, .slice none 0 0, .slice A47 d.state.clock.length c48]) S rfl rfl rfl SZ33 rfl rfl rfl fun w52 S => ?_
  refine l_nil ?_
  refine n_seq ?_
  refine e_seq ?_
  refine e_seq ?_
  refine e_q MX (by kernel_rfl) S.drew ?_
  refine q_y (v := pa g32 6) (y_fb FA31_4 rfl rfl) ?_
  refine q_y (v := .slice A29 d.known.length c30) (y_ld rfl (fun w S => ld_b1 (i := 0) S rfl rfl T29)) ?_
  refine q_y (v := ni to) (y_mv rfl) ?_
  obtain ⟨z53, hz54⟩ : ∃ z, (d.known)[to.toNat]? = some z := nth_of (by omega)
  have hak := atK_some hz54
  have hwk := wrongC_ok (hr.ks _ (List.mem_of_getElem? hz54)).1
  obtain ⟨p55, vs56, E57, nn58, r59, Y60⟩ := y_ia U29 SZ23 h13 hz54
  clear nn58
  obtain ⟨sv61, r59e, r59⟩ := r59; subst r59e
  obtain ⟨A62, c63, rfl, m64, m64'⟩ := r59.val
  refine q_y (v := p55) (Y60 rfl rfl (by first | rfl | omega)) ?_
  refine q_y (v := .slice A62 z53.length c63) (y_ld rfl (fun w S => ld_p1 S.le E57 rfl T23)) ?_
  refine q_y (v := pa g32 4) (y_fb FA31_2 rfl rfl) ?_
  refine q_y (v := .slice A23 d.base.length c24) (y_ld rfl (fun w S => ld_b1 (i := 0) S rfl rfl T23)) ?_
  cases hV : seesC z53 d.base
  ·
   refine q_c (v := .bool false) (en_f (vs := [.slice A62 z53.length c63, .slice A23 d.base.length c24]) (CF 29 _) rfl rfl) (fun w S => (Sees_calls _ _ _ _ _ (fm r59 S.le) (fm h9 S.le) (by omega)).mono (by rintro e w' ⟨rfl, k⟩; exact ⟨rbool (by assumption), (S.callq k)⟩)) ?_
   refine q_y (v := .bool true) (y_not rfl rfl) ?_
   refine q_nil fun w65 S => ?_
   refine n_seq ?_
   refine e_cT rfl ?_
   refine e_seq ?_
   refine e_reg ?_
   refine l_y (v := pa g32 1) S (y_fb FA31_1 rfl rfl) ?_
   refine l_y (v := .agg #[.slice A14 d.state.clock.length c15, .slice A17 d.state.lives.length c18, .slice A20 d.state.tallies.length c21]) S (y_ld rfl (fun w S => ld_bA (vs := [.slice A14 d.state.clock.length c15, .slice A17 d.state.lives.length c18, .slice A20 d.state.tallies.length c21]) (i := 0) S rfl T27 rfl rfl)) ?_
   refine l_c (en_f (vs := [.agg #[.slice A14 d.state.clock.length c15, .slice A17 d.state.lives.length c18, .slice A20 d.state.tallies.length c21]]) (CF 58 _) rfl rfl) (SOwn2_c _ _ S.le _ d.state (⟨_, rfl, ⟨_, _, _, rfl, h3, h5, h7⟩⟩ : AggR StateR rd41 _ d.state) hr.s.bd) ?_
   rintro e w66 ⟨v71, rfl, h72, k⟩
   obtain ⟨rd67, S, L68, N69, X70⟩ := S.call' k; clear k
   replace h3 := fm h3 L68
   replace h5 := fm h5 L68
   replace h7 := fm h7 L68
   replace h9 := fm h9 L68
   replace h11 := fm h11 L68
   replace h13 := fm h13 L68
   replace h46 := fm h46 L68
   replace r59 := fm r59 L68
   replace E57 := PtrC.mono E57 L68
   replace h72 := am h72 X70
   obtain ⟨cs73, h72v, h72⟩ := h72; subst h72v
   obtain ⟨sv74, sv76, sv78, h72e, h75, h77, h79⟩ := h72; subst h72e
   obtain ⟨A80, c81, rfl, m82, m82'⟩ := h75.val
   obtain ⟨A83, c84, rfl, m85, m85'⟩ := h77.val
   obtain ⟨A86, c87, rfl, m88, m88'⟩ := h79.val
   refine ckd ?_
   refine l_y (v := pa g50 0) S (y_fb FA33_0 rfl rfl) ?_
   refine l_st (u := .bool true) (i := 2) (cs' := #[.bool true, .slice none 0 0, .slice none 0 0, .slice none 0 0, .slice none 0 0, .slice A47 d.state.clock.length c48]) S rfl rfl rfl SZ4 rfl rfl rfl fun w89 S => ?_
   refine l_y (v := pa g50 1) S (y_fb FA33_1 rfl rfl) ?_
   refine l_st (u := .agg #[.slice A80 d.state.clock.length c81, .slice A83 d.state.lives.length c84, .slice A86 d.state.tallies.length c87]) (i := 2) (cs' := #[.bool true, .slice A80 d.state.clock.length c81, .slice A83 d.state.lives.length c84, .slice A86 d.state.tallies.length c87, .slice none 0 0, .slice A47 d.state.clock.length c48]) S rfl rfl rfl SZ27 rfl rfl rfl fun w90 S => ?_
   refine l_nil ?_
   refine n_seq ?_
   refine e_seq ?_
   refine e_reg ?_
   refine l_y (v := .agg #[.bool true, .slice A80 d.state.clock.length c81, .slice A83 d.state.lives.length c84, .slice A86 d.state.tallies.length c87, .slice none 0 0, .slice A47 d.state.clock.length c48]) S (y_ld rfl (fun w S => ld_bA (vs := [.bool true, .slice A80 d.state.clock.length c81, .slice A83 d.state.lives.length c84, .slice A86 d.state.tallies.length c87, .slice none 0 0, .slice A47 d.state.clock.length c48]) (i := 2) S rfl T33 rfl rfl)) ?_
   refine l_st (u := .agg #[.bool true, .slice A80 d.state.clock.length c81, .slice A83 d.state.lives.length c84, .slice A86 d.state.tallies.length c87, .slice none 0 0, .slice A47 d.state.clock.length c48]) (i := 1) (cs' := #[.bool true, .slice A80 d.state.clock.length c81, .slice A83 d.state.lives.length c84, .slice A86 d.state.tallies.length c87, .slice none 0 0, .slice A47 d.state.clock.length c48]) S rfl rfl rfl SZ33 rfl rfl rfl fun w91 S => ?_
   have S : St [] W rd rd67 [(g32, 31, #[ni d.self, .slice A14 d.state.clock.length c15, .slice A17 d.state.lives.length c18, .slice A20 d.state.tallies.length c21, .slice A23 d.base.length c24, .slice A26 d.log.length c27, .slice A29 d.known.length c30]), (g34, 33, #[.bool true, .slice A80 d.state.clock.length c81, .slice A83 d.state.lives.length c84, .slice A86 d.state.tallies.length c87, .slice none 0 0, .slice A47 d.state.clock.length c48]), (g50, 33, #[.bool true, .slice A80 d.state.clock.length c81, .slice A83 d.state.lives.length c84, .slice A86 d.state.tallies.length c87, .slice none 0 0, .slice A47 d.state.clock.length c48])] [] _ := S.rw' rfl rfl
   refine l_y (v := ni 0) S (y_as rfl) ?_
   refine l_nil ?_
   refine n_seq ?_
   refine e_ret ?_
   refine ret2 (v := .agg #[.bool true, .slice A80 d.state.clock.length c81, .slice A83 d.state.lives.length c84, .slice A86 d.state.tallies.length c87, .slice none 0 0, .slice A47 d.state.clock.length c48]) (v' := ni 0) rfl ⟨_, rfl, ld_bA (i := 1) (vs := [.bool true, .slice A80 d.state.clock.length c81, .slice A83 d.state.lives.length c84, .slice A86 d.state.tallies.length c87, .slice none 0 0, .slice A47 d.state.clock.length c48]) S rfl T33 rfl rfl⟩ rfl ?_
   have es : SendN d to = ((⟨true, d.state, [], d.state.clock⟩ : Parcel), 0) := by unfold SendN lenI; rw [if_neg (fun q => q hW), if_neg (by omega), if_neg hT, hak, if_pos hV]
   rw [es]
   exact ⟨_, rfl, ⟨_, rfl, ⟨_, _, _, _, _, rfl, (fm h75 S.out), (fm h77 S.out), (fm h79 S.out), (SliceR.nil_ _), (fm h46 S.out)⟩⟩, S.below⟩
  refine q_c (v := .bool true) (en_f (vs := [.slice A62 z53.length c63, .slice A23 d.base.length c24]) (CF 29 _) rfl rfl) (fun w S => (Sees_calls _ _ _ _ _ (fm r59 S.le) (fm h9 S.le) (by omega)).mono (by rintro e w' ⟨rfl, k⟩; exact ⟨rbool (by assumption), (S.callq k)⟩)) ?_
  refine q_y (v := .bool false) (y_not rfl rfl) ?_
  refine q_nil fun w92 S => ?_
  refine n_seq ?_
  refine e_cF rfl ?_
  refine e_skip ?_
  refine n_seq ?_
  refine e_seq ?_
  refine e_a (fun w => St [] W rd rd41 [(g32, 31, #[ni d.self, .slice A14 d.state.clock.length c15, .slice A17 d.state.lives.length c18, .slice A20 d.state.tallies.length c21, .slice A23 d.base.length c24, .slice A26 d.log.length c27, .slice A29 d.known.length c30]), (g34, 33, #[.bool false, .slice none 0 0, .slice none 0 0, .slice none 0 0, .slice none 0 0, .slice none 0 0])] [] w) MX rfl ?_
  have S := S.drew; have sup93 := S.sup
  have SC := ((S.tk 3 0 rfl rfl).del 2)
  refine a_tk (v := pa g32 5) 0 rfl rfl SC rfl (y_fb FA31_3 rfl rfl) ?_
  refine a_tk (v := .slice A26 d.log.length c27) 1 rfl rfl SC rfl (y_ld rfl (fun w S => ld_b1 (i := 0) S rfl rfl T28)) ?_
  refine a_tk (v := pa g32 6) 2 rfl rfl SC rfl (y_fb FA31_4 rfl rfl) ?_
  refine a_tk (v := .slice A29 d.known.length c30) 3 rfl rfl SC rfl (y_ld rfl (fun w S => ld_b1 (i := 0) S rfl rfl T29)) ?_
  refine a_tk (v := ni to) 4 rfl rfl SC rfl (y_mv rfl) ?_
  have hak := atK_some hz54
  have hwk := wrongC_ok (hr.ks _ (List.mem_of_getElem? hz54)).1
  obtain ⟨p96, vs97, E98, nn99, r100, Y101⟩ := y_ia U29 SZ23 h13 hz54
  clear nn99
  obtain ⟨sv102, r100e, r100⟩ := r100; subst r100e
  obtain ⟨A103, c104, rfl, m105, m105'⟩ := r100.val
  refine a_tk (v := p96) 5 rfl rfl SC rfl (Y101 rfl rfl (by first | rfl | omega)) ?_
  refine a_tk (v := .slice A103 z53.length c104) 6 rfl rfl SC rfl (y_ld rfl (fun w S => ld_p1 S.le E98 rfl T23)) ?_
  refine a_all (rs := [7]) (by kernel_rfl) rfl ?_
  refine aa_cons rfl ?_ ?_
  ·
   refine l_c (en_f (vs := [.slice A26 d.log.length c27, .slice A103 z53.length c104]) (CF 43 _) rfl rfl) (Lacks_c _ _ _ _ _ (fm h11 S.le) (fm r100 S.le) (by omega) (fun u hu => by have := (fits_later hr.b hr.f hu).1.len; omega)) ?_
   rintro e w108 ⟨r106, rfl, h107, k⟩
   obtain ⟨rd109, S, L110, N111, X112⟩ := S.call' k; clear k
   replace h3 := fm h3 L110
   replace h5 := fm h5 L110
   replace h7 := fm h7 L110
   replace h9 := fm h9 L110
   replace h11 := fm h11 L110
   replace h13 := fm h13 L110
   replace h46 := fm h46 L110
   replace r59 := fm r59 L110
   replace E57 := PtrC.mono E57 L110
   replace r100 := fm r100 L110
   replace E98 := PtrC.mono E98 L110
   have h107 := fm h107 N111
   obtain ⟨A113, c114, rfl, m115, m115'⟩ := h107.val
   refine ckd ?_
   refine l_nil ?_
   have SC := (((S.tk 3 0 rfl rfl).del 2).weak sup93 L110)
   refine n_lp (ak SC ?_)
   refine a_tk (v := pa g50 4) 8 rfl rfl SC rfl (y_fb FA33_2 rfl rfl) ?_
   refine a_all (rs := [9]) (by kernel_rfl) rfl ?_
   refine aa_cons rfl ?_ ?_
   ·
    refine l_st (u := .slice A113 ((lacksU d.log z53).length) c114) (i := 2) (cs' := #[.bool false, .slice none 0 0, .slice none 0 0, .slice none 0 0, .slice A113 ((lacksU d.log z53).length) c114, .slice A47 d.state.clock.length c48]) S rfl rfl rfl SZ28 rfl rfl rfl fun w116 S => ?_
    refine l_nil ?_
    have SC := (((S.tk 3 0 rfl rfl).del 2).weak sup93 L110)
    refine n_lp (ak SC ?_)
    refine a_done (by kernel_rfl) ?_
    clear SC
    refine n_seq ?_
    refine e_seq ?_
    refine e_reg ?_
    refine l_y (v := .agg #[.bool false, .slice none 0 0, .slice none 0 0, .slice none 0 0, .slice A113 ((lacksU d.log z53).length) c114, .slice A47 d.state.clock.length c48]) S (y_ld rfl (fun w S => ld_bA (vs := [.bool false, .slice none 0 0, .slice none 0 0, .slice none 0 0, .slice A113 ((lacksU d.log z53).length) c114, .slice A47 d.state.clock.length c48]) (i := 2) S rfl T33 rfl rfl)) ?_
    refine l_st (u := .agg #[.bool false, .slice none 0 0, .slice none 0 0, .slice none 0 0, .slice A113 ((lacksU d.log z53).length) c114, .slice A47 d.state.clock.length c48]) (i := 1) (cs' := #[.bool false, .slice none 0 0, .slice none 0 0, .slice none 0 0, .slice A113 ((lacksU d.log z53).length) c114, .slice A47 d.state.clock.length c48]) S rfl rfl rfl SZ33 rfl rfl rfl fun w117 S => ?_
    refine l_y (v := ni 0) S (y_as rfl) ?_
    refine l_nil ?_
    refine n_seq ?_
    refine e_ret ?_
    refine ret2 (v := .agg #[.bool false, .slice none 0 0, .slice none 0 0, .slice none 0 0, .slice A113 ((lacksU d.log z53).length) c114, .slice A47 d.state.clock.length c48]) (v' := ni 0) rfl ⟨_, rfl, ld_bA (i := 1) (vs := [.bool false, .slice none 0 0, .slice none 0 0, .slice none 0 0, .slice A113 ((lacksU d.log z53).length) c114, .slice A47 d.state.clock.length c48]) S rfl T33 rfl rfl⟩ rfl ?_
    have es : SendN d to = ((⟨false, ⟨[], [], []⟩, lacksU d.log z53, d.state.clock⟩ : Parcel), 0) := by unfold SendN lenI; rw [if_neg (fun q => q hW), if_neg (by omega), if_neg hT, hak, if_neg (by rw [hV]; simp)]; rfl
    rw [es]
    exact ⟨_, rfl, ⟨_, rfl, ⟨_, _, _, _, _, rfl, (SliceR.nil_ _), (SliceR.nil_ _), (SliceR.nil_ _), (fm h107 S.out), (fm h46 S.out)⟩⟩, S.below⟩
   exact aa_nil
  exact aa_nil
 refine l_y (v := .bool true) S (y_neT rfl rfl hW) ?_
 refine l_nil ?_
 refine n_seq ?_
 refine e_cT rfl ?_
 refine e_seq ?_
 refine e_reg ?_
 refine l_y (v := .agg #[.bool false, .slice none 0 0, .slice none 0 0, .slice none 0 0, .slice none 0 0, .slice none 0 0]) S (y_bd (ps := []) rfl (fun _ => by kernel_rfl)) ?_
 refine l_y (v := ni (wrongN d)) S (y_mv rfl) ?_
 refine l_st (u := .agg #[.bool false, .slice none 0 0, .slice none 0 0, .slice none 0 0, .slice none 0 0, .slice none 0 0]) (i := 1) (cs' := #[.bool false, .slice none 0 0, .slice none 0 0, .slice none 0 0, .slice none 0 0, .slice none 0 0]) S rfl rfl rfl SZ33 rfl rfl rfl fun w118 S => ?_
 refine l_y (v := ni (wrongN d)) S (y_as rfl) ?_
 refine l_nil ?_
 refine n_seq ?_
 refine e_ret ?_
 refine ret2 (v := .agg #[.bool false, .slice none 0 0, .slice none 0 0, .slice none 0 0, .slice none 0 0, .slice none 0 0]) (v' := ni (wrongN d)) rfl ⟨_, rfl, ld_bA (i := 1) (vs := [.bool false, .slice none 0 0, .slice none 0 0, .slice none 0 0, .slice none 0 0, .slice none 0 0]) S rfl T33 rfl rfl⟩ rfl ?_
 have es : SendN d to = ((⟨false, ⟨[], [], []⟩, [], []⟩ : Parcel), wrongN d) := by unfold SendN; rw [if_pos hW]; rfl
 rw [es]
 exact ⟨_, rfl, ⟨_, rfl, ⟨_, _, _, _, _, rfl, (SliceR.nil_ _), (SliceR.nil_ _), (SliceR.nil_ _), (SliceR.nil_ _), (SliceR.nil_ _)⟩⟩, S.below⟩

end Go.Proofs.YtkjknlnhffmkkacGreat
