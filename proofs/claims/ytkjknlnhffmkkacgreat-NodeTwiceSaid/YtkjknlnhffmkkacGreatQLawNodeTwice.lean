/- NodeTwice: told twice is told once. For every input; no condition. -/
import Derived.Test.YtkjknlnhffmkkacGreatQAlive6
import Derived.Test.YtkjknlnhffmkkacGreatQSameN
import Derived.Test.YtkjknlnhffmkkacGreatQCloseN
namespace Go.Proofs.YtkjknlnhffmkkacGreat
open Go.ChangeShapes Go.WideShapes Go.ChangeAt Go.RowKit
set_option linter.unusedVariables false
set_option maxRecDepth 100000 in
set_option maxHeartbeats 8000000 in
theorem NodeTwice_calls (W : World) (v1 : Value) (d : Node) (qa : AggR NodeR (wrd W) v1 d) (b1 : NodeBd d) (f : Int) (hwf : (Lit.int IntKind.i64 f).wf = true) (v3 : Value) (p : Parcel) (qc : AggR ParcelR (wrd W) v3 p) (b3 : ParcelBd p) :
    Calls Tryz.prog 3 #[v1, (.int .i64 f), v3] W (fun e w' => e = .returned (.bool true) ∧ Below W.heap.size W w') := by
 obtain ⟨vs1, qae, qa⟩ := qa; subst qae
 obtain ⟨sv2, sv4, sv6, sv8, sv10, sv12, qae, h3, h5, h7, h9, h11, h13⟩ := qa; subst qae
 obtain ⟨A14, c15, rfl, m16, m16'⟩ := h3.val
 obtain ⟨A17, c18, rfl, m19, m19'⟩ := h5.val
 obtain ⟨A20, c21, rfl, m22, m22'⟩ := h7.val
 obtain ⟨A23, c24, rfl, m25, m25'⟩ := h9.val
 obtain ⟨A26, c27, rfl, m28, m28'⟩ := h11.val
 obtain ⟨A29, c30, rfl, m31, m31'⟩ := h13.val
 obtain ⟨vs32, qce, qc⟩ := qc; subst qce
 obtain ⟨sv33, sv35, sv37, sv39, sv41, qce, h34, h36, h38, h40, h42⟩ := qc; subst qce
 obtain ⟨A43, c44, rfl, m45, m45'⟩ := h34.val
 obtain ⟨A46, c47, rfl, m48, m48'⟩ := h36.val
 obtain ⟨A49, c50, rfl, m51, m51'⟩ := h38.val
 obtain ⟨A52, c53, rfl, m54, m54'⟩ := h40.val
 obtain ⟨A55, c56, rfl, m57, m57'⟩ := h42.val
 have hmx : maxLen = 9223372036854775807 := rfl
 have S : St [] W (wrd W) (wrd W) [] [] W := St.start (Rd.le_refl _)
 refine e_enter (args := [.agg #[ni d.self, .slice A14 d.state.clock.length c15, .slice A17 d.state.lives.length c18, .slice A20 d.state.tallies.length c21, .slice A23 d.base.length c24, .slice A26 d.log.length c27, .slice A29 d.known.length c30], ni f, .agg #[.bool p.whole, .slice A43 p.state.clock.length c44, .slice A46 p.state.lives.length c47, .slice A49 p.state.tallies.length c50, .slice A52 p.updates.length c53, .slice A55 p.clock.length c56]]) 60 Tryz.func3 rfl rfl rfl ?_
 refine e_seq ?_
 refine e_reg ?_
 refine l_bx (u := .agg #[ni d.self, .slice A14 d.state.clock.length c15, .slice A17 d.state.lives.length c18, .slice A20 d.state.tallies.length c21, .slice A23 d.base.length c24, .slice A26 d.log.length c27, .slice A29 d.known.length c30]) (cs := #[ni d.self, .slice A14 d.state.clock.length c15, .slice A17 d.state.lives.length c18, .slice A20 d.state.tallies.length c21, .slice A23 d.base.length c24, .slice A26 d.log.length c27, .slice A29 d.known.length c30]) S rfl rfl fun g58 w59 S => ?_
 refine l_bx (u := .agg #[.bool p.whole, .slice A43 p.state.clock.length c44, .slice A46 p.state.lives.length c47, .slice A49 p.state.tallies.length c50, .slice A52 p.updates.length c53, .slice A55 p.clock.length c56]) (cs := #[.bool p.whole, .slice A43 p.state.clock.length c44, .slice A46 p.state.lives.length c47, .slice A49 p.state.tallies.length c50, .slice A52 p.updates.length c53, .slice A55 p.clock.length c56]) S rfl rfl fun g60 w61 S => ?_
 refine l_y (v := .bool false) S (y_as rfl) ?_
 refine l_nil ?_
 refine n_seq ?_
 refine e_seq ?_
 refine e_seq ?_
 refine e_reg ?_
 refine l_c (en_f (vs := []) (CF 13 _) rfl rfl) (alive6_c _ _ S.le) ?_
 rintro e w62 ⟨rfl, k⟩
 have S := S.callq k; clear k
 refine ckd ?_
 refine l_y (v := .bool false) S (y_not rfl rfl) ?_
 refine l_nil ?_
 refine n_seq ?_
 refine e_cF rfl ?_
 refine e_skip ?_
 refine n_seq ?_
 refine e_seq ?_
 refine e_reg ?_
 refine l_y (v := .agg #[ni d.self, .slice A14 d.state.clock.length c15, .slice A17 d.state.lives.length c18, .slice A20 d.state.tallies.length c21, .slice A23 d.base.length c24, .slice A26 d.log.length c27, .slice A29 d.known.length c30]) S (y_ld rfl (fun w S => ld_bA (vs := [ni d.self, .slice A14 d.state.clock.length c15, .slice A17 d.state.lives.length c18, .slice A20 d.state.tallies.length c21, .slice A23 d.base.length c24, .slice A26 d.log.length c27, .slice A29 d.known.length c30]) (i := 0) S rfl T31 rfl rfl)) ?_
 refine l_y (v := ni f) S (y_mv rfl) ?_
 refine l_y (v := .agg #[.bool p.whole, .slice A43 p.state.clock.length c44, .slice A46 p.state.lives.length c47, .slice A49 p.state.tallies.length c50, .slice A52 p.updates.length c53, .slice A55 p.clock.length c56]) S (y_ld rfl (fun w S => ld_bA (vs := [.bool p.whole, .slice A43 p.state.clock.length c44, .slice A46 p.state.lives.length c47, .slice A49 p.state.tallies.length c50, .slice A52 p.updates.length c53, .slice A55 p.clock.length c56]) (i := 1) S rfl T33 rfl rfl)) ?_
 refine l_c (en_f (vs := [.agg #[ni d.self, .slice A14 d.state.clock.length c15, .slice A17 d.state.lives.length c18, .slice A20 d.state.tallies.length c21, .slice A23 d.base.length c24, .slice A26 d.log.length c27, .slice A29 d.known.length c30], ni f, .agg #[.bool p.whole, .slice A43 p.state.clock.length c44, .slice A46 p.state.lives.length c47, .slice A49 p.state.tallies.length c50, .slice A52 p.updates.length c53, .slice A55 p.clock.length c56]]) (CF 14 _) rfl rfl) (NTake_c _ _ S.le _ _ d f p (⟨_, rfl, ⟨_, _, _, _, _, _, rfl, h3, h5, h7, h9, h11, h13⟩⟩ : AggR NodeR (wrd W) _ d) (⟨_, rfl, ⟨_, _, _, _, _, rfl, h34, h36, h38, h40, h42⟩⟩ : AggR ParcelR (wrd W) _ p)) ?_
 rintro e w63 ⟨v68, rfl, h69, k⟩
 obtain ⟨rd64, S, L65, N66, X67⟩ := S.call' k; clear k
 replace h3 := fm h3 L65
 replace h5 := fm h5 L65
 replace h7 := fm h7 L65
 replace h9 := fm h9 L65
 replace h11 := fm h11 L65
 replace h13 := fm h13 L65
 replace h34 := fm h34 L65
 replace h36 := fm h36 L65
 replace h38 := fm h38 L65
 replace h40 := fm h40 L65
 replace h42 := fm h42 L65
 replace h69 := am h69 X67
 obtain ⟨cs70, h69v, h69⟩ := h69; subst h69v
 obtain ⟨sv71, sv73, sv75, sv77, sv79, sv81, h69e, h72, h74, h76, h78, h80, h82⟩ := h69; subst h69e
 obtain ⟨A83, c84, rfl, m85, m85'⟩ := h72.val
 obtain ⟨A86, c87, rfl, m88, m88'⟩ := h74.val
 obtain ⟨A89, c90, rfl, m91, m91'⟩ := h76.val
 obtain ⟨A92, c93, rfl, m94, m94'⟩ := h78.val
 obtain ⟨A95, c96, rfl, m97, m97'⟩ := h80.val
 obtain ⟨A98, c99, rfl, m100, m100'⟩ := h82.val
 refine ckd ?_
 refine l_y (v := .tuple #[.agg #[ni ((TakeN d f p).1.self), .slice A83 (((TakeN d f p).1.state.clock).length) c84, .slice A86 (((TakeN d f p).1.state.lives).length) c87, .slice A89 (((TakeN d f p).1.state.tallies).length) c90, .slice A92 (((TakeN d f p).1.base).length) c93, .slice A95 (((TakeN d f p).1.log).length) c96, .slice A98 (((TakeN d f p).1.known).length) c99], ni ((TakeN d f p).2)]) S (y_mv rfl) ?_
 refine l_y (v := .agg #[ni ((TakeN d f p).1.self), .slice A83 (((TakeN d f p).1.state.clock).length) c84, .slice A86 (((TakeN d f p).1.state.lives).length) c87, .slice A89 (((TakeN d f p).1.state.tallies).length) c90, .slice A92 (((TakeN d f p).1.base).length) c93, .slice A95 (((TakeN d f p).1.log).length) c96, .slice A98 (((TakeN d f p).1.known).length) c99]) S (y_ex rfl rfl) ?_
 refine l_y (v := ni ((TakeN d f p).2)) S (y_ex rfl rfl) ?_
 refine l_al (cs := #[ni 0, .slice none 0 0, .slice none 0 0, .slice none 0 0, .slice none 0 0, .slice none 0 0, .slice none 0 0]) S Z31 rfl fun g101 w102 S => ?_
 refine l_st (u := .agg #[ni ((TakeN d f p).1.self), .slice A83 (((TakeN d f p).1.state.clock).length) c84, .slice A86 (((TakeN d f p).1.state.lives).length) c87, .slice A89 (((TakeN d f p).1.state.tallies).length) c90, .slice A92 (((TakeN d f p).1.base).length) c93, .slice A95 (((TakeN d f p).1.log).length) c96, .slice A98 (((TakeN d f p).1.known).length) c99]) (i := 2) (cs' := #[ni ((TakeN d f p).1.self), .slice A83 (((TakeN d f p).1.state.clock).length) c84, .slice A86 (((TakeN d f p).1.state.lives).length) c87, .slice A89 (((TakeN d f p).1.state.tallies).length) c90, .slice A92 (((TakeN d f p).1.base).length) c93, .slice A95 (((TakeN d f p).1.log).length) c96, .slice A98 (((TakeN d f p).1.known).length) c99]) S rfl rfl rfl SZ31 rfl rfl rfl fun w103 S => ?_
 refine l_y (v := ni ((TakeN d f p).2)) S (y_as rfl) ?_
 refine l_nil ?_
 refine n_seq ?_
 refine e_seq ?_
 refine e_seq ?_
 refine e_reg ?_
 refine l_y (v := ni ((TakeN d f p).2)) S (y_mv rfl) ?_
 by_cases hT : (TakeN d f p).2 = 0
 ·
  refine l_y (v := .bool false) S (y_neF rfl rfl hT) ?_
  refine l_nil ?_
  refine n_seq ?_
  refine e_cF rfl ?_
  refine e_skip ?_
  refine n_seq ?_
  refine e_seq ?_
  refine e_seq ?_
  refine e_reg ?_
  have k := (TakeN_ok hT).again
  refine l_y (v := pa g60 0) S (y_fb FA33_0 rfl rfl) ?_
  rcases Bool.eq_false_or_eq_true p.whole with hw | hw
  ·
   refine l_y (v := .bool true) S (y_bv (y_ld rfl (fun w S => ld_b1 (i := 1) S rfl rfl T4)) hw) ?_
   refine l_nil ?_
   refine n_seq ?_
   refine e_cT rfl ?_
   refine e_seq ?_
   refine e_reg ?_
   refine l_y (v := .agg #[ni ((TakeN d f p).1.self), .slice A83 (((TakeN d f p).1.state.clock).length) c84, .slice A86 (((TakeN d f p).1.state.lives).length) c87, .slice A89 (((TakeN d f p).1.state.tallies).length) c90, .slice A92 (((TakeN d f p).1.base).length) c93, .slice A95 (((TakeN d f p).1.log).length) c96, .slice A98 (((TakeN d f p).1.known).length) c99]) S (y_ld rfl (fun w S => ld_bA (vs := [ni ((TakeN d f p).1.self), .slice A83 (((TakeN d f p).1.state.clock).length) c84, .slice A86 (((TakeN d f p).1.state.lives).length) c87, .slice A89 (((TakeN d f p).1.state.tallies).length) c90, .slice A92 (((TakeN d f p).1.base).length) c93, .slice A95 (((TakeN d f p).1.log).length) c96, .slice A98 (((TakeN d f p).1.known).length) c99]) (i := 2) S rfl T31 rfl rfl)) ?_
   refine l_y (v := ni f) S (y_mv rfl) ?_
   refine l_y (v := .agg #[.bool p.whole, .slice A43 p.state.clock.length c44, .slice A46 p.state.lives.length c47, .slice A49 p.state.tallies.length c50, .slice A52 p.updates.length c53, .slice A55 p.clock.length c56]) S (y_ld rfl (fun w S => ld_bA (vs := [.bool p.whole, .slice A43 p.state.clock.length c44, .slice A46 p.state.lives.length c47, .slice A49 p.state.tallies.length c50, .slice A52 p.updates.length c53, .slice A55 p.clock.length c56]) (i := 1) S rfl T33 rfl rfl)) ?_
   refine l_c (en_f (vs := [.agg #[ni ((TakeN d f p).1.self), .slice A83 (((TakeN d f p).1.state.clock).length) c84, .slice A86 (((TakeN d f p).1.state.lives).length) c87, .slice A89 (((TakeN d f p).1.state.tallies).length) c90, .slice A92 (((TakeN d f p).1.base).length) c93, .slice A95 (((TakeN d f p).1.log).length) c96, .slice A98 (((TakeN d f p).1.known).length) c99], ni f, .agg #[.bool p.whole, .slice A43 p.state.clock.length c44, .slice A46 p.state.lives.length c47, .slice A49 p.state.tallies.length c50, .slice A52 p.updates.length c53, .slice A55 p.clock.length c56]]) (CF 14 _) rfl rfl) (NTake_c _ _ S.le _ _ ((TakeN d f p).1) f p (⟨_, rfl, ⟨_, _, _, _, _, _, rfl, h72, h74, h76, h78, h80, h82⟩⟩ : AggR NodeR rd64 _ ((TakeN d f p).1)) (⟨_, rfl, ⟨_, _, _, _, _, rfl, h34, h36, h38, h40, h42⟩⟩ : AggR ParcelR rd64 _ p)) ?_
   rintro e w104 ⟨v109, rfl, h110, k⟩
   obtain ⟨rd105, S, L106, N107, X108⟩ := S.call' k; clear k
   replace h3 := fm h3 L106
   replace h5 := fm h5 L106
   replace h7 := fm h7 L106
   replace h9 := fm h9 L106
   replace h11 := fm h11 L106
   replace h13 := fm h13 L106
   replace h34 := fm h34 L106
   replace h36 := fm h36 L106
   replace h38 := fm h38 L106
   replace h40 := fm h40 L106
   replace h42 := fm h42 L106
   replace h72 := fm h72 L106
   replace h74 := fm h74 L106
   replace h76 := fm h76 L106
   replace h78 := fm h78 L106
   replace h80 := fm h80 L106
   replace h82 := fm h82 L106
   replace h110 := am h110 X108
   obtain ⟨cs111, h110v, h110⟩ := h110; subst h110v
   obtain ⟨sv112, sv114, sv116, sv118, sv120, sv122, h110e, h113, h115, h117, h119, h121, h123⟩ := h110; subst h110e
   obtain ⟨A124, c125, rfl, m126, m126'⟩ := h113.val
   obtain ⟨A127, c128, rfl, m129, m129'⟩ := h115.val
   obtain ⟨A130, c131, rfl, m132, m132'⟩ := h117.val
   obtain ⟨A133, c134, rfl, m135, m135'⟩ := h119.val
   obtain ⟨A136, c137, rfl, m138, m138'⟩ := h121.val
   obtain ⟨A139, c140, rfl, m141, m141'⟩ := h123.val
   refine ckd ?_
   refine l_y (v := .tuple #[.agg #[ni ((TakeN ((TakeN d f p).1) f p).1.self), .slice A124 (((TakeN ((TakeN d f p).1) f p).1.state.clock).length) c125, .slice A127 (((TakeN ((TakeN d f p).1) f p).1.state.lives).length) c128, .slice A130 (((TakeN ((TakeN d f p).1) f p).1.state.tallies).length) c131, .slice A133 (((TakeN ((TakeN d f p).1) f p).1.base).length) c134, .slice A136 (((TakeN ((TakeN d f p).1) f p).1.log).length) c137, .slice A139 (((TakeN ((TakeN d f p).1) f p).1.known).length) c140], ni ((TakeN ((TakeN d f p).1) f p).2)]) S (y_mv rfl) ?_
   refine l_y (v := .agg #[ni ((TakeN ((TakeN d f p).1) f p).1.self), .slice A124 (((TakeN ((TakeN d f p).1) f p).1.state.clock).length) c125, .slice A127 (((TakeN ((TakeN d f p).1) f p).1.state.lives).length) c128, .slice A130 (((TakeN ((TakeN d f p).1) f p).1.state.tallies).length) c131, .slice A133 (((TakeN ((TakeN d f p).1) f p).1.base).length) c134, .slice A136 (((TakeN ((TakeN d f p).1) f p).1.log).length) c137, .slice A139 (((TakeN ((TakeN d f p).1) f p).1.known).length) c140]) S (y_ex rfl rfl) ?_
   refine l_y (v := ni ((TakeN ((TakeN d f p).1) f p).2)) S (y_ex rfl rfl) ?_
   refine l_al (cs := #[ni 0, .slice none 0 0, .slice none 0 0, .slice none 0 0, .slice none 0 0, .slice none 0 0, .slice none 0 0]) S Z31 rfl fun g142 w143 S => ?_
   refine l_st (u := .agg #[ni ((TakeN ((TakeN d f p).1) f p).1.self), .slice A124 (((TakeN ((TakeN d f p).1) f p).1.state.clock).length) c125, .slice A127 (((TakeN ((TakeN d f p).1) f p).1.state.lives).length) c128, .slice A130 (((TakeN ((TakeN d f p).1) f p).1.state.tallies).length) c131, .slice A133 (((TakeN ((TakeN d f p).1) f p).1.base).length) c134, .slice A136 (((TakeN ((TakeN d f p).1) f p).1.log).length) c137, .slice A139 (((TakeN ((TakeN d f p).1) f p).1.known).length) c140]) (i := 3) (cs' := #[ni ((TakeN ((TakeN d f p).1) f p).1.self), .slice A124 (((TakeN ((TakeN d f p).1) f p).1.state.clock).length) c125, .slice A127 (((TakeN ((TakeN d f p).1) f p).1.state.lives).length) c128, .slice A130 (((TakeN ((TakeN d f p).1) f p).1.state.tallies).length) c131, .slice A133 (((TakeN ((TakeN d f p).1) f p).1.base).length) c134, .slice A136 (((TakeN ((TakeN d f p).1) f p).1.log).length) c137, .slice A139 (((TakeN ((TakeN d f p).1) f p).1.known).length) c140]) S rfl rfl rfl SZ31 rfl rfl rfl fun w144 S => ?_
   refine l_y (v := ni ((TakeN ((TakeN d f p).1) f p).2)) S (y_as rfl) ?_
   refine l_nil ?_
   refine n_seq ?_
   refine e_seq ?_
   refine e_reg ?_
   refine l_y (v := ni ((TakeN ((TakeN d f p).1) f p).2)) S (y_mv rfl) ?_
   have h145 : (TakeN ((TakeN d f p).1) f p).2 = 0 := k.1
   refine l_y (v := .bool true) S (y_eqT rfl rfl h145) ?_
   refine l_y (v := .bool true) S (y_mv rfl) ?_
   refine l_g (d' := 37) (v := pa g101 1) S (y_fb FA31_1 rfl rfl) rfl rfl ?_
   refine l_g (d' := 37) (v := pa g101 1) S (y_fb FA27_0 rfl rfl) rfl rfl ?_
   refine l_g (d' := 37) (v := .slice A83 (((TakeN d f p).1.state.clock).length) c84) S (y_ld rfl (fun w S => ld_b1 (i := 2) S rfl rfl T23)) rfl rfl ?_
   refine l_g (d' := 37) (v := pa g142 1) S (y_fb FA31_1 rfl rfl) rfl rfl ?_
   refine l_g (d' := 37) (v := pa g142 1) S (y_fb FA27_0 rfl rfl) rfl rfl ?_
   refine l_g (d' := 37) (v := .slice A124 (((TakeN ((TakeN d f p).1) f p).1.state.clock).length) c125) S (y_ld rfl (fun w S => ld_b1 (i := 3) S rfl rfl T23)) rfl rfl ?_
   refine l_cg (d' := 37) (en_f (vs := [.slice A83 (((TakeN d f p).1.state.clock).length) c84, .slice A124 (((TakeN ((TakeN d f p).1) f p).1.state.clock).length) c125]) (CF 16 _) rfl rfl) rfl rfl (Same_calls _ _ _ _ _ (fm h72 S.le) (fm h113 S.le)) ?_
   rintro e w146 ⟨rfl, k⟩
   have S := S.callq k; clear k
   have b147 : sameL ((TakeN d f p).1.state.clock) ((TakeN ((TakeN d f p).1) f p).1.state.clock) = true := decide_eq_true k.2.1.symm
   rw [b147]
   refine ckd ?_
   refine l_y (v := .bool true) S (y_pT rfl rfl) ?_
   refine l_y (v := .bool true) S (y_as rfl) ?_
   refine l_nil ?_
   refine n_seq ?_
   refine e_ret ?_
   refine ret1 (v := .bool true) rfl rfl ?_
   exact ⟨rfl, S.below⟩
  refine l_y (v := .bool false) S (y_bv (y_ld rfl (fun w S => ld_b1 (i := 1) S rfl rfl T4)) hw) ?_
  refine l_nil ?_
  refine n_seq ?_
  refine e_cF rfl ?_
  refine e_skip ?_
  refine n_seq ?_
  refine e_seq ?_
  refine e_reg ?_
  refine l_y (v := .agg #[ni ((TakeN d f p).1.self), .slice A83 (((TakeN d f p).1.state.clock).length) c84, .slice A86 (((TakeN d f p).1.state.lives).length) c87, .slice A89 (((TakeN d f p).1.state.tallies).length) c90, .slice A92 (((TakeN d f p).1.base).length) c93, .slice A95 (((TakeN d f p).1.log).length) c96, .slice A98 (((TakeN d f p).1.known).length) c99]) S (y_ld rfl (fun w S => ld_bA (vs := [ni ((TakeN d f p).1.self), .slice A83 (((TakeN d f p).1.state.clock).length) c84, .slice A86 (((TakeN d f p).1.state.lives).length) c87, .slice A89 (((TakeN d f p).1.state.tallies).length) c90, .slice A92 (((TakeN d f p).1.base).length) c93, .slice A95 (((TakeN d f p).1.log).length) c96, .slice A98 (((TakeN d f p).1.known).length) c99]) (i := 2) S rfl T31 rfl rfl)) ?_
  refine l_y (v := ni f) S (y_mv rfl) ?_
  refine l_y (v := .agg #[.bool p.whole, .slice A43 p.state.clock.length c44, .slice A46 p.state.lives.length c47, .slice A49 p.state.tallies.length c50, .slice A52 p.updates.length c53, .slice A55 p.clock.length c56]) S (y_ld rfl (fun w S => ld_bA (vs := [.bool p.whole, .slice A43 p.state.clock.length c44, .slice A46 p.state.lives.length c47, .slice A49 p.state.tallies.length c50, .slice A52 p.updates.length c53, .slice A55 p.clock.length c56]) (i := 1) S rfl T33 rfl rfl)) ?_
  refine l_c (en_f (vs := [.agg #[ni ((TakeN d f p).1.self), .slice A83 (((TakeN d f p).1.state.clock).length) c84, .slice A86 (((TakeN d f p).1.state.lives).length) c87, .slice A89 (((TakeN d f p).1.state.tallies).length) c90, .slice A92 (((TakeN d f p).1.base).length) c93, .slice A95 (((TakeN d f p).1.log).length) c96, .slice A98 (((TakeN d f p).1.known).length) c99], ni f, .agg #[.bool p.whole, .slice A43 p.state.clock.length c44, .slice A46 p.state.lives.length c47, .slice A49 p.state.tallies.length c50, .slice A52 p.updates.length c53, .slice A55 p.clock.length c56]]) (CF 14 _) rfl rfl) (NTake_c _ _ S.le _ _ ((TakeN d f p).1) f p (⟨_, rfl, ⟨_, _, _, _, _, _, rfl, h72, h74, h76, h78, h80, h82⟩⟩ : AggR NodeR rd64 _ ((TakeN d f p).1)) (⟨_, rfl, ⟨_, _, _, _, _, rfl, h34, h36, h38, h40, h42⟩⟩ : AggR ParcelR rd64 _ p)) ?_
  rintro e w148 ⟨v153, rfl, h154, k⟩
  obtain ⟨rd149, S, L150, N151, X152⟩ := S.call' k; clear k
  replace h3 := fm h3 L150
  replace h5 := fm h5 L150
  replace h7 := fm h7 L150
  replace h9 := fm h9 L150
  replace h11 := fm h11 L150
  replace h13 := fm h13 L150
  replace h34 := fm h34 L150
  replace h36 := fm h36 L150
  replace h38 := fm h38 L150
  replace h40 := fm h40 L150
  replace h42 := fm h42 L150
  replace h72 := fm h72 L150
  replace h74 := fm h74 L150
  replace h76 := fm h76 L150
  replace h78 := fm h78 L150
  replace h80 := fm h80 L150
  replace h82 := fm h82 L150
  replace h154 := am h154 X152
  obtain ⟨cs155, h154v, h154⟩ := h154; subst h154v
  obtain ⟨sv156, sv158, sv160, sv162, sv164, sv166, h154e, h157, h159, h161, h163, h165, h167⟩ := h154; subst h154e
  obtain ⟨A168, c169, rfl, m170, m170'⟩ := h157.val
  obtain ⟨A171, c172, rfl, m173, m173'⟩ := h159.val
  obtain ⟨A174, c175, rfl, m176, m176'⟩ := h161.val
  obtain ⟨A177, c178, rfl, m179, m179'⟩ := h163.val
  obtain ⟨A180, c181, rfl, m182, m182'⟩ := h165.val
  obtain ⟨A183, c184, rfl, m185, m185'⟩ := h167.val
  refine ckd ?_
  refine l_y (v := .tuple #[.agg #[ni ((TakeN ((TakeN d f p).1) f p).1.self), .slice A168 (((TakeN ((TakeN d f p).1) f p).1.state.clock).length) c169, .slice A171 (((TakeN ((TakeN d f p).1) f p).1.state.lives).length) c172, .slice A174 (((TakeN ((TakeN d f p).1) f p).1.state.tallies).length) c175, .slice A177 (((TakeN ((TakeN d f p).1) f p).1.base).length) c178, .slice A180 (((TakeN ((TakeN d f p).1) f p).1.log).length) c181, .slice A183 (((TakeN ((TakeN d f p).1) f p).1.known).length) c184], ni ((TakeN ((TakeN d f p).1) f p).2)]) S (y_mv rfl) ?_
  refine l_y (v := .agg #[ni ((TakeN ((TakeN d f p).1) f p).1.self), .slice A168 (((TakeN ((TakeN d f p).1) f p).1.state.clock).length) c169, .slice A171 (((TakeN ((TakeN d f p).1) f p).1.state.lives).length) c172, .slice A174 (((TakeN ((TakeN d f p).1) f p).1.state.tallies).length) c175, .slice A177 (((TakeN ((TakeN d f p).1) f p).1.base).length) c178, .slice A180 (((TakeN ((TakeN d f p).1) f p).1.log).length) c181, .slice A183 (((TakeN ((TakeN d f p).1) f p).1.known).length) c184]) S (y_ex rfl rfl) ?_
  refine l_y (v := ni ((TakeN ((TakeN d f p).1) f p).2)) S (y_ex rfl rfl) ?_
  refine l_al (cs := #[ni 0, .slice none 0 0, .slice none 0 0, .slice none 0 0, .slice none 0 0, .slice none 0 0, .slice none 0 0]) S Z31 rfl fun g186 w187 S => ?_
  refine l_st (u := .agg #[ni ((TakeN ((TakeN d f p).1) f p).1.self), .slice A168 (((TakeN ((TakeN d f p).1) f p).1.state.clock).length) c169, .slice A171 (((TakeN ((TakeN d f p).1) f p).1.state.lives).length) c172, .slice A174 (((TakeN ((TakeN d f p).1) f p).1.state.tallies).length) c175, .slice A177 (((TakeN ((TakeN d f p).1) f p).1.base).length) c178, .slice A180 (((TakeN ((TakeN d f p).1) f p).1.log).length) c181, .slice A183 (((TakeN ((TakeN d f p).1) f p).1.known).length) c184]) (i := 3) (cs' := #[ni ((TakeN ((TakeN d f p).1) f p).1.self), .slice A168 (((TakeN ((TakeN d f p).1) f p).1.state.clock).length) c169, .slice A171 (((TakeN ((TakeN d f p).1) f p).1.state.lives).length) c172, .slice A174 (((TakeN ((TakeN d f p).1) f p).1.state.tallies).length) c175, .slice A177 (((TakeN ((TakeN d f p).1) f p).1.base).length) c178, .slice A180 (((TakeN ((TakeN d f p).1) f p).1.log).length) c181, .slice A183 (((TakeN ((TakeN d f p).1) f p).1.known).length) c184]) S rfl rfl rfl SZ31 rfl rfl rfl fun w188 S => ?_
  refine l_y (v := ni ((TakeN ((TakeN d f p).1) f p).2)) S (y_as rfl) ?_
  refine l_nil ?_
  refine n_seq ?_
  refine e_seq ?_
  refine e_reg ?_
  refine l_y (v := ni ((TakeN ((TakeN d f p).1) f p).2)) S (y_mv rfl) ?_
  have h189 : (TakeN ((TakeN d f p).1) f p).2 = 0 := k.1
  refine l_y (v := .bool true) S (y_eqT rfl rfl h189) ?_
  refine l_y (v := .bool true) S (y_mv rfl) ?_
  refine l_g (d' := 55) (v := .agg #[ni ((TakeN d f p).1.self), .slice A83 (((TakeN d f p).1.state.clock).length) c84, .slice A86 (((TakeN d f p).1.state.lives).length) c87, .slice A89 (((TakeN d f p).1.state.tallies).length) c90, .slice A92 (((TakeN d f p).1.base).length) c93, .slice A95 (((TakeN d f p).1.log).length) c96, .slice A98 (((TakeN d f p).1.known).length) c99]) S (y_ld rfl (fun w S => ld_bA (vs := [ni ((TakeN d f p).1.self), .slice A83 (((TakeN d f p).1.state.clock).length) c84, .slice A86 (((TakeN d f p).1.state.lives).length) c87, .slice A89 (((TakeN d f p).1.state.tallies).length) c90, .slice A92 (((TakeN d f p).1.base).length) c93, .slice A95 (((TakeN d f p).1.log).length) c96, .slice A98 (((TakeN d f p).1.known).length) c99]) (i := 2) S rfl T31 rfl rfl)) rfl rfl ?_
  refine l_g (d' := 55) (v := .agg #[ni ((TakeN ((TakeN d f p).1) f p).1.self), .slice A168 (((TakeN ((TakeN d f p).1) f p).1.state.clock).length) c169, .slice A171 (((TakeN ((TakeN d f p).1) f p).1.state.lives).length) c172, .slice A174 (((TakeN ((TakeN d f p).1) f p).1.state.tallies).length) c175, .slice A177 (((TakeN ((TakeN d f p).1) f p).1.base).length) c178, .slice A180 (((TakeN ((TakeN d f p).1) f p).1.log).length) c181, .slice A183 (((TakeN ((TakeN d f p).1) f p).1.known).length) c184]) S (y_ld rfl (fun w S => ld_bA (vs := [ni ((TakeN ((TakeN d f p).1) f p).1.self), .slice A168 (((TakeN ((TakeN d f p).1) f p).1.state.clock).length) c169, .slice A171 (((TakeN ((TakeN d f p).1) f p).1.state.lives).length) c172, .slice A174 (((TakeN ((TakeN d f p).1) f p).1.state.tallies).length) c175, .slice A177 (((TakeN ((TakeN d f p).1) f p).1.base).length) c178, .slice A180 (((TakeN ((TakeN d f p).1) f p).1.log).length) c181, .slice A183 (((TakeN ((TakeN d f p).1) f p).1.known).length) c184]) (i := 3) S rfl T31 rfl rfl)) rfl rfl ?_
  refine l_cg (d' := 55) (en_f (vs := [.agg #[ni ((TakeN d f p).1.self), .slice A83 (((TakeN d f p).1.state.clock).length) c84, .slice A86 (((TakeN d f p).1.state.lives).length) c87, .slice A89 (((TakeN d f p).1.state.tallies).length) c90, .slice A92 (((TakeN d f p).1.base).length) c93, .slice A95 (((TakeN d f p).1.log).length) c96, .slice A98 (((TakeN d f p).1.known).length) c99], .agg #[ni ((TakeN ((TakeN d f p).1) f p).1.self), .slice A168 (((TakeN ((TakeN d f p).1) f p).1.state.clock).length) c169, .slice A171 (((TakeN ((TakeN d f p).1) f p).1.state.lives).length) c172, .slice A174 (((TakeN ((TakeN d f p).1) f p).1.state.tallies).length) c175, .slice A177 (((TakeN ((TakeN d f p).1) f p).1.base).length) c178, .slice A180 (((TakeN ((TakeN d f p).1) f p).1.log).length) c181, .slice A183 (((TakeN ((TakeN d f p).1) f p).1.known).length) c184]]) (CF 15 _) rfl rfl) rfl rfl (SameN_c _ _ S.le _ _ ((TakeN d f p).1) ((TakeN ((TakeN d f p).1) f p).1) (⟨_, rfl, ⟨_, _, _, _, _, _, rfl, h72, h74, h76, h78, h80, h82⟩⟩ : AggR NodeR rd149 _ ((TakeN d f p).1)) (⟨_, rfl, ⟨_, _, _, _, _, _, rfl, h157, h159, h161, h163, h165, h167⟩⟩ : AggR NodeR rd149 _ ((TakeN ((TakeN d f p).1) f p).1))) ?_
  rintro e w190 ⟨rfl, k⟩
  have S := S.callq k; clear k
  have b191 : sameN ((TakeN d f p).1) ((TakeN ((TakeN d f p).1) f p).1) = true := decide_eq_true (k.2.2 hw).symm
  rw [b191]
  refine ckd ?_
  refine l_y (v := .bool true) S (y_pT rfl rfl) ?_
  refine l_y (v := .bool true) S (y_as rfl) ?_
  refine l_nil ?_
  refine n_seq ?_
  refine e_ret ?_
  refine ret1 (v := .bool true) rfl rfl ?_
  exact ⟨rfl, S.below⟩
 refine l_y (v := .bool true) S (y_neT rfl rfl hT) ?_
 refine l_nil ?_
 refine n_seq ?_
 refine e_cT rfl ?_
 refine e_seq ?_
 refine e_reg ?_
 refine l_y (v := .agg #[ni ((TakeN d f p).1.self), .slice A83 (((TakeN d f p).1.state.clock).length) c84, .slice A86 (((TakeN d f p).1.state.lives).length) c87, .slice A89 (((TakeN d f p).1.state.tallies).length) c90, .slice A92 (((TakeN d f p).1.base).length) c93, .slice A95 (((TakeN d f p).1.log).length) c96, .slice A98 (((TakeN d f p).1.known).length) c99]) S (y_ld rfl (fun w S => ld_bA (vs := [ni ((TakeN d f p).1.self), .slice A83 (((TakeN d f p).1.state.clock).length) c84, .slice A86 (((TakeN d f p).1.state.lives).length) c87, .slice A89 (((TakeN d f p).1.state.tallies).length) c90, .slice A92 (((TakeN d f p).1.base).length) c93, .slice A95 (((TakeN d f p).1.log).length) c96, .slice A98 (((TakeN d f p).1.known).length) c99]) (i := 2) S rfl T31 rfl rfl)) ?_
 refine l_y (v := .agg #[ni 0, .slice none 0 0, .slice none 0 0, .slice none 0 0, .slice none 0 0, .slice none 0 0, .slice none 0 0]) S (y_bd (ps := []) rfl (fun _ => by kernel_rfl)) ?_
 refine l_c (en_f (vs := [.agg #[ni ((TakeN d f p).1.self), .slice A83 (((TakeN d f p).1.state.clock).length) c84, .slice A86 (((TakeN d f p).1.state.lives).length) c87, .slice A89 (((TakeN d f p).1.state.tallies).length) c90, .slice A92 (((TakeN d f p).1.base).length) c93, .slice A95 (((TakeN d f p).1.log).length) c96, .slice A98 (((TakeN d f p).1.known).length) c99], .agg #[ni 0, .slice none 0 0, .slice none 0 0, .slice none 0 0, .slice none 0 0, .slice none 0 0, .slice none 0 0]]) (CF 15 _) rfl rfl) (SameN_c _ _ S.le _ _ ((TakeN d f p).1) (⟨0, ⟨[], [], []⟩, [], [], []⟩ : Node) (⟨_, rfl, ⟨_, _, _, _, _, _, rfl, h72, h74, h76, h78, h80, h82⟩⟩ : AggR NodeR rd64 _ ((TakeN d f p).1)) (⟨_, rfl, ⟨_, _, _, _, _, _, rfl, (SliceR.nil_ _), (SliceR.nil_ _), (SliceR.nil_ _), (SliceR.nil_ _), (SliceR.nil_ _), (SliceR.nil_ _)⟩⟩ : AggR NodeR rd64 _ (⟨0, ⟨[], [], []⟩, [], [], []⟩ : Node))) ?_
 rintro e w192 ⟨rfl, k⟩
 have S := S.callq k; clear k
 have b193 : sameN ((TakeN d f p).1) (⟨0, ⟨[], [], []⟩, [], [], []⟩ : Node) = true := by rw [TakeN_err hT]; exact decide_eq_true rfl
 rw [b193]
 refine ckd ?_
 refine l_y (v := .bool true) S (y_as rfl) ?_
 refine l_nil ?_
 refine n_seq ?_
 refine e_ret ?_
 refine ret1 (v := .bool true) rfl rfl ?_
 exact ⟨rfl, S.below⟩
set_option maxRecDepth 100000 in
theorem NodeTwice_lifted (os : Os) (started : os.Started) (H : Type) (enc : TypeId × Value → H) :
    ReturnsInHanded {} Tryz.checked os 3 .any (Rows.nodeTwiceSpec.pre6 enc Tryz.prog Tryz.f3 Rows.nodeTwiceRow.domain false) (Rows.nodeTwiceSpec.post enc Tryz.prog Tryz.f3 false true false false) := by
  refine returnsInHanded_of_change_sized (C := Tryz.checked) own_ started (by kernel_rfl) Tryz.func3
    (ChangeSpec.witness6 (enc := enc) (C := Tryz.checked) false ⟨#[], #[.agg #[.int .i64 0, .slice none 0 0, .slice none 0 0, .slice none 0 0, .slice none 0 0, .slice none 0 0, .slice none 0 0], .int .i64 0, .agg #[.bool false, .slice none 0 0, .slice none 0 0, .slice none 0 0, .slice none 0 0, .slice none 0 0]], []⟩ 8 (by kernel_rfl) (by kernel_rfl) (by kernel_rfl) (by kernel_rfl)) ?_
  intro W base args ds gs before hval0 hW _ hsz0 _
  have hval : ∀ (j : Nat) t v, Tryz.f3.params[j]? = some t → args[j]? = some v → Value.okWide Tryz.prog W .any base t v := hval0
  have hsz : (DataW.weightsEach Tryz.prog (Tryz.f3.params.toList ++ Rows.nodeTwiceSpec.plain.varTypes Tryz.prog) (ds ++ gs)).all (· ≤ reachBytes) = true := hsz0
  have hW' := hW
  obtain ⟨p, q, hA0, hV, rfl, _, _⟩ := hW
  obtain ⟨rfl, rfl⟩ := trodVars_none hV
  have hA : DataW.TrodAll enc Tryz.prog W 0 (fun _ => true) true Tryz.f3.params.toList args.toList ds p := hA0
  rw [Tryz.params3] at hA hval hsz
  obtain ⟨v1, vs1, d1, ds1, p1, q1, e1, rfl, rfl, t1, r1⟩ := trodAll_cons hA
  obtain ⟨v2, vs2, d2, ds2, p2, q2, rfl, rfl, rfl, t2, r2⟩ := trodAll_cons r1
  obtain ⟨v3, vs3, d3, ds3, p3, q3, rfl, rfl, rfl, t3, r3⟩ := trodAll_cons r2
  obtain ⟨rfl, rfl, rfl⟩ := trodAll_nil r3
  obtain rfl : args = #[v1, v2, v3] := by cases args; simp_all
  obtain ⟨z1, hsz⟩ := weights_each hsz
  obtain ⟨z2, hsz⟩ := weights_each hsz
  obtain ⟨z3, hsz⟩ := weights_each hsz
  obtain ⟨a1, ha1, hb1⟩ := arg_agg Tryz.underlying31 op_node (hval 0 _ v1 rfl rfl) t1 z1
  obtain ⟨n2, rfl, rfl, rfl, hw2⟩ := open_int Tryz.underlying3 (hval 1 _ v2 rfl rfl) t2
  obtain ⟨a3, ha3, hb3⟩ := arg_agg Tryz.underlying33 op_parcel (hval 2 _ v3 rfl rfl) t3 z3
  refine (NodeTwice_calls W v1 a1 ha1 hb1 n2 hw2 v3 a3 ha3 hb3).mono fun e W' ⟨he, hbl⟩ => ?_
  subst he
  exact ⟨_, rfl, close_law laidOut (by kernel_rfl) rfl (fun gs h => by subst h; rfl) rfl (tb := 4) Tryz.underlying4 hW' hbl⟩

theorem NodeTwice_holds : Rows.NodeTwiceSaid :=
  OpenClaim.holds_of_wide 3 Tryz.f3 rfl rfl rfl rfl rfl rfl rfl ⟨rfl, rfl, rfl, rfl, rfl⟩ rfl rfl rfl rfl rfl (by kernel_rfl) Tryz.func3 (by kernel_rfl)
    (of_decide_eq_true (by kernel_rfl)) (by unfold Func.isWrapper; first | (rw [if_pos (by decide +kernel)]; kernel_rfl) | (rw [if_neg (by decide +kernel)]; exact ⟨rfl, rfl⟩))
    (fun os started H enc _ => NodeTwice_lifted os started H enc)
#print axioms NodeTwice_holds
end Go.Proofs.YtkjknlnhffmkkacGreat
