/- state.Wrong. -/
import Derived.Test.YtkjknlnhffmkkacGreatQCmp
import Derived.Test.YtkjknlnhffmkkacGreatQPl
import Derived.Test.YtkjknlnhffmkkacGreatQUpdate
namespace Go.Proofs.YtkjknlnhffmkkacGreat
open Go.RowKit
set_option linter.unusedVariables false
set_option maxRecDepth 100000 in
set_option maxHeartbeats 8000000 in
theorem SWrong_c (rd : Rd) (W : World) (hle : Rd.le rd (wrd W)) (v : Value) (s : State) (n : Int) (h : AggR StateR rd v s) :
    Calls Tryz.prog 48 #[v, (.int .i64 n)] W (fun e w' => e = .returned (.agg #[.int .i64 (wrongS s n).1, .int .i64 (wrongS s n).2]) ∧ Below W.heap.size W w') := by
 obtain ⟨vs1, he, h⟩ := h; subst he
 obtain ⟨sv2, sv4, sv6, he, h3, h5, h7⟩ := h; subst he
 obtain ⟨A8, c9, rfl, m10, m10'⟩ := h3.val
 obtain ⟨A11, c12, rfl, m13, m13'⟩ := h5.val
 obtain ⟨A14, c15, rfl, m16, m16'⟩ := h7.val
 have hmx : maxLen = 9223372036854775807 := rfl
 have S : St [] W rd rd [] [] W := St.start hle
 refine e_enter (args := [.agg #[.slice A8 s.clock.length c9, .slice A11 s.lives.length c12, .slice A14 s.tallies.length c15], ni n]) 175 Tryz.func48 rfl rfl rfl ?_
 refine e_seq ?_
 refine e_reg ?_
 refine l_bx (u := .agg #[.slice A8 s.clock.length c9, .slice A11 s.lives.length c12, .slice A14 s.tallies.length c15]) (cs := #[.slice A8 s.clock.length c9, .slice A11 s.lives.length c12, .slice A14 s.tallies.length c15]) S rfl rfl fun g17 w18 S => ?_
 refine l_al (cs := #[ni 0, ni 0]) S Z84 rfl fun g19 w20 S => ?_
 refine l_nil ?_
 refine n_seq ?_
 refine e_seq ?_
 refine e_seq ?_
 refine e_reg ?_
 refine l_y (v := pa g17 0) S (y_fb FA27_0 rfl rfl) ?_
 refine l_y (v := .slice A8 s.clock.length c9) S (y_ld rfl (fun w S => ld_b1 (i := 0) S rfl rfl T23)) ?_
 refine l_y (v := ni n) S (y_mv rfl) ?_
 refine l_c (en_f (vs := [.slice A8 s.clock.length c9, ni n]) (CF 40 _) rfl rfl) (Wrong_calls _ _ _ _ (fm h3 S.le)) ?_
 rintro e w21 ⟨rfl, rfl⟩
 refine ckd ?_
 refine l_y (v := ni (wrongC s.clock n)) S (y_as rfl) ?_
 refine l_nil ?_
 refine n_seq ?_
 refine e_seq ?_
 refine e_reg ?_
 refine l_y (v := ni (wrongC s.clock n)) S (y_mv rfl) ?_
 by_cases hC : wrongC s.clock n = 0
 ·
  refine l_y (v := .bool false) S (y_neF rfl rfl hC) ?_
  refine l_nil ?_
  refine n_seq ?_
  refine e_cF rfl ?_
  refine e_skip ?_
  refine n_seq ?_
  refine e_seq ?_
  refine e_seq ?_
  refine e_reg ?_
  have hw := wrongC_ok hC
  refine l_y (v := pa g17 1) S (y_fb FA27_1 rfl rfl) ?_
  refine l_y (v := .slice A11 s.lives.length c12) S (y_ld rfl (fun w S => ld_b1 (i := 0) S rfl rfl T24)) ?_
  refine l_y (v := ni (s.lives.length : Int)) S (y_len U24 rfl rfl) ?_
  refine l_y (v := ni 0) S (y_mv rfl) ?_
  refine l_nil ?_
  refine n_seq ?_
  refine e_blk ?_
  refine e_trim [(1, ni n), (2, pa g17 0), (4, pa g19 0), (20, .slice A11 s.lives.length c12), (21, ni (s.lives.length : Int)), (22, ni (0 : Int))] ⟨⟨rfl, rfl⟩, ⟨rfl, rfl⟩, ⟨rfl, rfl⟩, ⟨rfl, rfl⟩, ⟨rfl, rfl⟩, ⟨ival (by first | rfl | omega), rfl⟩, trivial⟩ (fun junk => ?_)
  refine e_loop (fun (gh_ : Nat) ov w => match gh_ with | k => ∃ rd' junk, ov = [(1, ni n), (2, pa g17 0), (4, pa g19 0), (20, .slice A11 s.lives.length c12), (21, ni (s.lives.length : Int)), (22, ni (k : Int))] ++ junk ∧ St [] W rd rd' [(g17, 27, #[.slice A8 s.clock.length c9, .slice A11 s.lives.length c12, .slice A14 s.tallies.length c15]), (g19, 84, #[ni 0, ni 0])] [] w ∧ Rd.le rd rd' ∧ k ≤ s.lives.length ∧ wrongL s.clock n none s.lives 0 = wrongL s.clock n (prevO s.lives k) (s.lives.drop k) k) (fun gh_ => match gh_ with | k => s.lives.length - k) 0 ⟨_, junk, rfl, (S.rw' rfl rfl), (Rd.le_refl _), (by omega), rfl⟩ ?_
  rintro k ov25 w23 ⟨rd22, junk, rfl, S, L24, hk, hL⟩
  replace h3 := fm h3 L24
  replace h5 := fm h5 L24
  replace h7 := fm h7 L24
  refine e_seq ?_
  refine e_reg ?_
  by_cases h26 : (k : Int) < (s.lives.length : Int)
  ·
   refine l_y (v := .bool true) S (y_ltT rfl rfl h26) ?_
   refine l_nil ?_
   refine n_seq ?_
   refine e_seq ?_
   refine e_cT rfl ?_
   refine e_skip ?_
   refine n_seq ?_
   refine e_seq ?_
   refine e_blk ?_
   refine e_seq ?_
   refine e_reg ?_
   refine l_y (v := ni (k : Int)) S (y_mv rfl) ?_
   obtain ⟨z27, hz28⟩ : ∃ z, (s.lives)[k]? = some z := nth_of (by first | assumption | omega)
   obtain ⟨p29, vs30, E31, nn32, r33, Y34⟩ := y_ia U24 SZ104 h5 hz28
   clear nn32
   have r33e : vs30 = [.bool z27.set, ni z27.key, ni z27.item, ni z27.author, ni z27.seq] := r33; subst r33e; clear r33
   refine l_y (v := p29) S (Y34 rfl rfl (by first | rfl | omega)) ?_
   refine l_y (v := .agg #[.bool z27.set, ni z27.key, ni z27.item, ni z27.author, ni z27.seq]) S (y_ld rfl (fun w S => ld_pA (us := [.bool z27.set, ni z27.key, ni z27.item, ni z27.author, ni z27.seq]) S.le E31 T104 rfl rfl)) ?_
   refine l_al (cs := #[.bool false, ni 0, ni 0, ni 0, ni 0]) S Z104 rfl fun g35 w36 S => ?_
   refine l_y (v := ni (k : Int)) S (y_as rfl) ?_
   refine l_st (u := .agg #[.bool z27.set, ni z27.key, ni z27.item, ni z27.author, ni z27.seq]) (i := 2) (cs' := #[.bool z27.set, ni z27.key, ni z27.item, ni z27.author, ni z27.seq]) S rfl rfl rfl SZ104 rfl rfl rfl fun w37 S => ?_
   refine l_nil ?_
   refine n_seq ?_
   refine e_blk ?_
   refine e_seq ?_
   refine e_reg ?_
   refine l_y (v := pa g35 3) S (y_fb FA104_3 rfl rfl) ?_
   refine l_y (v := ni z27.author) S (y_ld rfl (fun w S => ld_b1 (i := 2) S rfl rfl T3)) ?_
   by_cases h38 : z27.author < 0
   ·
    refine l_y (v := .bool true) S (y_ltT rfl rfl h38) ?_
    refine l_y (v := .bool true) S (y_mv rfl) ?_
    refine l_s (d' := 31) rfl rfl ?_
    refine l_s (d' := 31) rfl rfl ?_
    refine l_s (d' := 31) rfl rfl ?_
    refine l_s (d' := 31) rfl rfl ?_
    refine l_y (v := .bool true) S (y_pT rfl rfl) ?_
    refine l_y (v := .bool true) S (y_mv rfl) ?_
    refine l_s (d' := 37) rfl rfl ?_
    refine l_s (d' := 37) rfl rfl ?_
    refine l_s (d' := 37) rfl rfl ?_
    refine l_y (v := .bool true) S (y_pT rfl rfl) ?_
    refine l_y (v := .bool true) S (y_mv rfl) ?_
    refine l_s (d' := 42) rfl rfl ?_
    refine l_s (d' := 42) rfl rfl ?_
    refine l_s (d' := 42) rfl rfl ?_
    refine l_y (v := .bool true) S (y_pT rfl rfl) ?_
    refine l_y (v := .bool true) S (y_mv rfl) ?_
    refine l_s (d' := 47) rfl rfl ?_
    refine l_s (d' := 47) rfl rfl ?_
    refine l_s (d' := 47) rfl rfl ?_
    refine l_y (v := .bool true) S (y_pT rfl rfl) ?_
    refine l_y (v := .bool true) S (y_mv rfl) ?_
    refine l_s (d' := 52) rfl rfl ?_
    refine l_s (d' := 52) rfl rfl ?_
    refine l_s (d' := 52) rfl rfl ?_
    refine l_y (v := .bool true) S (y_pT rfl rfl) ?_
    refine l_y (v := .bool true) S (y_mv rfl) ?_
    refine l_s (d' := 57) rfl rfl ?_
    refine l_s (d' := 57) rfl rfl ?_
    refine l_s (d' := 57) rfl rfl ?_
    refine l_y (v := .bool true) S (y_pT rfl rfl) ?_
    refine l_y (v := .bool true) S (y_as rfl) ?_
    refine l_nil ?_
    refine n_seq ?_
    refine e_cT rfl ?_
    refine e_seq ?_
    refine e_reg ?_
    refine l_y (v := ni (k : Int)) S (y_mv rfl) ?_
    refine l_y (v := .agg #[ni 3, ni (k : Int)]) S (y_bd (ps := [(0, ni 3), (1, ni (k : Int))]) rfl (fun _ => by kernel_rfl)) ?_
    refine l_st (u := .agg #[ni 3, ni (k : Int)]) (i := 1) (cs' := #[ni 3, ni (k : Int)]) S rfl rfl rfl SZ84 rfl rfl rfl fun w39 S => ?_
    refine l_nil ?_
    refine n_seq ?_
    refine e_ret ?_
    refine ret1 (v := .agg #[ni 3, ni (k : Int)]) rfl ⟨_, rfl, ld_bA (i := 1) (vs := [ni 3, ni (k : Int)]) S rfl T84 rfl rfl⟩ ?_
    refine ⟨rfault (wrongS_L hC (hL.trans ?_) (by simp)), S.below⟩
    rw [wrongL_step hz28]
    rw [if_pos (by omega)]
   refine l_y (v := .bool false) S (y_ltF rfl rfl h38) ?_
   refine l_y (v := .bool false) S (y_mv rfl) ?_
   refine l_g (d' := 31) (v := pa g35 3) S (y_fb FA104_3 rfl rfl) rfl rfl ?_
   refine l_g (d' := 31) (v := ni z27.author) S (y_ld rfl (fun w S => ld_b1 (i := 2) S rfl rfl T3)) rfl rfl ?_
   refine l_g (d' := 31) (v := ni n) S (y_mv rfl) rfl rfl ?_
   by_cases h40 : n ≤ z27.author
   ·
    refine l_g (d' := 31) (v := .bool true) S (y_geT rfl rfl h40) rfl rfl ?_
    refine l_y (v := .bool true) S (y_pF rfl rfl) ?_
    refine l_y (v := .bool true) S (y_mv rfl) ?_
    refine l_s (d' := 37) rfl rfl ?_
    refine l_s (d' := 37) rfl rfl ?_
    refine l_s (d' := 37) rfl rfl ?_
    refine l_y (v := .bool true) S (y_pT rfl rfl) ?_
    refine l_y (v := .bool true) S (y_mv rfl) ?_
    refine l_s (d' := 42) rfl rfl ?_
    refine l_s (d' := 42) rfl rfl ?_
    refine l_s (d' := 42) rfl rfl ?_
    refine l_y (v := .bool true) S (y_pT rfl rfl) ?_
    refine l_y (v := .bool true) S (y_mv rfl) ?_
    refine l_s (d' := 47) rfl rfl ?_
    refine l_s (d' := 47) rfl rfl ?_
    refine l_s (d' := 47) rfl rfl ?_
    refine l_y (v := .bool true) S (y_pT rfl rfl) ?_
    refine l_y (v := .bool true) S (y_mv rfl) ?_
    refine l_s (d' := 52) rfl rfl ?_
    refine l_s (d' := 52) rfl rfl ?_
    refine l_s (d' := 52) rfl rfl ?_
    refine l_y (v := .bool true) S (y_pT rfl rfl) ?_
    refine l_y (v := .bool true) S (y_mv rfl) ?_
    refine l_s (d' := 57) rfl rfl ?_
    refine l_s (d' := 57) rfl rfl ?_
    refine l_s (d' := 57) rfl rfl ?_
    refine l_y (v := .bool true) S (y_pT rfl rfl) ?_
    refine l_y (v := .bool true) S (y_as rfl) ?_
    refine l_nil ?_
    refine n_seq ?_
    refine e_cT rfl ?_
    refine e_seq ?_
    refine e_reg ?_
    refine l_y (v := ni (k : Int)) S (y_mv rfl) ?_
    refine l_y (v := .agg #[ni 3, ni (k : Int)]) S (y_bd (ps := [(0, ni 3), (1, ni (k : Int))]) rfl (fun _ => by kernel_rfl)) ?_
    refine l_st (u := .agg #[ni 3, ni (k : Int)]) (i := 1) (cs' := #[ni 3, ni (k : Int)]) S rfl rfl rfl SZ84 rfl rfl rfl fun w41 S => ?_
    refine l_nil ?_
    refine n_seq ?_
    refine e_ret ?_
    refine ret1 (v := .agg #[ni 3, ni (k : Int)]) rfl ⟨_, rfl, ld_bA (i := 1) (vs := [ni 3, ni (k : Int)]) S rfl T84 rfl rfl⟩ ?_
    refine ⟨rfault (wrongS_L hC (hL.trans ?_) (by simp)), S.below⟩
    rw [wrongL_step hz28]
    rw [if_pos (by omega)]
   refine l_g (d' := 31) (v := .bool false) S (y_geF rfl rfl h40) rfl rfl ?_
   refine l_y (v := .bool false) S (y_pF rfl rfl) ?_
   refine l_y (v := .bool false) S (y_mv rfl) ?_
   refine l_g (d' := 37) (v := pa g35 4) S (y_fb FA104_4 rfl rfl) rfl rfl ?_
   refine l_g (d' := 37) (v := ni z27.seq) S (y_ld rfl (fun w S => ld_b1 (i := 2) S rfl rfl T3)) rfl rfl ?_
   by_cases h42 : z27.seq < 1
   ·
    refine l_g (d' := 37) (v := .bool true) S (y_ltT rfl rfl h42) rfl rfl ?_
    refine l_y (v := .bool true) S (y_pF rfl rfl) ?_
    refine l_y (v := .bool true) S (y_mv rfl) ?_
    refine l_s (d' := 42) rfl rfl ?_
    refine l_s (d' := 42) rfl rfl ?_
    refine l_s (d' := 42) rfl rfl ?_
    refine l_y (v := .bool true) S (y_pT rfl rfl) ?_
    refine l_y (v := .bool true) S (y_mv rfl) ?_
    refine l_s (d' := 47) rfl rfl ?_
    refine l_s (d' := 47) rfl rfl ?_
    refine l_s (d' := 47) rfl rfl ?_
    refine l_y (v := .bool true) S (y_pT rfl rfl) ?_
    refine l_y (v := .bool true) S (y_mv rfl) ?_
    refine l_s (d' := 52) rfl rfl ?_
    refine l_s (d' := 52) rfl rfl ?_
    refine l_s (d' := 52) rfl rfl ?_
    refine l_y (v := .bool true) S (y_pT rfl rfl) ?_
    refine l_y (v := .bool true) S (y_mv rfl) ?_
    refine l_s (d' := 57) rfl rfl ?_
    refine l_s (d' := 57) rfl rfl ?_
    refine l_s (d' := 57) rfl rfl ?_
    refine l_y (v := .bool true) S (y_pT rfl rfl) ?_
    refine l_y (v := .bool true) S (y_as rfl) ?_
    refine l_nil ?_
    refine n_seq ?_
    refine e_cT rfl ?_
    refine e_seq ?_
    refine e_reg ?_
    refine l_y (v := ni (k : Int)) S (y_mv rfl) ?_
    refine l_y (v := .agg #[ni 3, ni (k : Int)]) S (y_bd (ps := [(0, ni 3), (1, ni (k : Int))]) rfl (fun _ => by kernel_rfl)) ?_
    refine l_st (u := .agg #[ni 3, ni (k : Int)]) (i := 1) (cs' := #[ni 3, ni (k : Int)]) S rfl rfl rfl SZ84 rfl rfl rfl fun w43 S => ?_
    refine l_nil ?_
    refine n_seq ?_
    refine e_ret ?_
    refine ret1 (v := .agg #[ni 3, ni (k : Int)]) rfl ⟨_, rfl, ld_bA (i := 1) (vs := [ni 3, ni (k : Int)]) S rfl T84 rfl rfl⟩ ?_
    refine ⟨rfault (wrongS_L hC (hL.trans ?_) (by simp)), S.below⟩
    rw [wrongL_step hz28]
    rw [if_pos (by omega)]
   refine l_g (d' := 37) (v := .bool false) S (y_ltF rfl rfl h42) rfl rfl ?_
   refine l_y (v := .bool false) S (y_pF rfl rfl) ?_
   refine l_y (v := .bool false) S (y_mv rfl) ?_
   refine l_g (d' := 42) (v := pa g35 1) S (y_fb FA104_1 rfl rfl) rfl rfl ?_
   refine l_g (d' := 42) (v := ni z27.key) S (y_ld rfl (fun w S => ld_b1 (i := 2) S rfl rfl T3)) rfl rfl ?_
   by_cases h44 : z27.key < 0
   ·
    refine l_g (d' := 42) (v := .bool true) S (y_ltT rfl rfl h44) rfl rfl ?_
    refine l_y (v := .bool true) S (y_pF rfl rfl) ?_
    refine l_y (v := .bool true) S (y_mv rfl) ?_
    refine l_s (d' := 47) rfl rfl ?_
    refine l_s (d' := 47) rfl rfl ?_
    refine l_s (d' := 47) rfl rfl ?_
    refine l_y (v := .bool true) S (y_pT rfl rfl) ?_
    refine l_y (v := .bool true) S (y_mv rfl) ?_
    refine l_s (d' := 52) rfl rfl ?_
    refine l_s (d' := 52) rfl rfl ?_
    refine l_s (d' := 52) rfl rfl ?_
    refine l_y (v := .bool true) S (y_pT rfl rfl) ?_
    refine l_y (v := .bool true) S (y_mv rfl) ?_
    refine l_s (d' := 57) rfl rfl ?_
    refine l_s (d' := 57) rfl rfl ?_
    refine l_s (d' := 57) rfl rfl ?_
    refine l_y (v := .bool true) S (y_pT rfl rfl) ?_
    refine l_y (v := .bool true) S (y_as rfl) ?_
    refine l_nil ?_
    refine n_seq ?_
    refine e_cT rfl ?_
    refine e_seq ?_
    refine e_reg ?_
    refine l_y (v := ni (k : Int)) S (y_mv rfl) ?_
    refine l_y (v := .agg #[ni 3, ni (k : Int)]) S (y_bd (ps := [(0, ni 3), (1, ni (k : Int))]) rfl (fun _ => by kernel_rfl)) ?_
    refine l_st (u := .agg #[ni 3, ni (k : Int)]) (i := 1) (cs' := #[ni 3, ni (k : Int)]) S rfl rfl rfl SZ84 rfl rfl rfl fun w45 S => ?_
    refine l_nil ?_
    refine n_seq ?_
    refine e_ret ?_
    refine ret1 (v := .agg #[ni 3, ni (k : Int)]) rfl ⟨_, rfl, ld_bA (i := 1) (vs := [ni 3, ni (k : Int)]) S rfl T84 rfl rfl⟩ ?_
    refine ⟨rfault (wrongS_L hC (hL.trans ?_) (by simp)), S.below⟩
    rw [wrongL_step hz28]
    rw [if_pos (by omega)]
   refine l_g (d' := 42) (v := .bool false) S (y_ltF rfl rfl h44) rfl rfl ?_
   refine l_y (v := .bool false) S (y_pF rfl rfl) ?_
   refine l_y (v := .bool false) S (y_mv rfl) ?_
   refine l_g (d' := 47) (v := pa g35 1) S (y_fb FA104_1 rfl rfl) rfl rfl ?_
   refine l_g (d' := 47) (v := ni z27.key) S (y_ld rfl (fun w S => ld_b1 (i := 2) S rfl rfl T3)) rfl rfl ?_
   by_cases h46 : 15 < z27.key
   ·
    refine l_g (d' := 47) (v := .bool true) S (y_gtT rfl rfl h46) rfl rfl ?_
    refine l_y (v := .bool true) S (y_pF rfl rfl) ?_
    refine l_y (v := .bool true) S (y_mv rfl) ?_
    refine l_s (d' := 52) rfl rfl ?_
    refine l_s (d' := 52) rfl rfl ?_
    refine l_s (d' := 52) rfl rfl ?_
    refine l_y (v := .bool true) S (y_pT rfl rfl) ?_
    refine l_y (v := .bool true) S (y_mv rfl) ?_
    refine l_s (d' := 57) rfl rfl ?_
    refine l_s (d' := 57) rfl rfl ?_
    refine l_s (d' := 57) rfl rfl ?_
    refine l_y (v := .bool true) S (y_pT rfl rfl) ?_
    refine l_y (v := .bool true) S (y_as rfl) ?_
    refine l_nil ?_
    refine n_seq ?_
    refine e_cT rfl ?_
    refine e_seq ?_
    refine e_reg ?_
    refine l_y (v := ni (k : Int)) S (y_mv rfl) ?_
    refine l_y (v := .agg #[ni 3, ni (k : Int)]) S (y_bd (ps := [(0, ni 3), (1, ni (k : Int))]) rfl (fun _ => by kernel_rfl)) ?_
    refine l_st (u := .agg #[ni 3, ni (k : Int)]) (i := 1) (cs' := #[ni 3, ni (k : Int)]) S rfl rfl rfl SZ84 rfl rfl rfl fun w47 S => ?_
    refine l_nil ?_
    refine n_seq ?_
    refine e_ret ?_
    refine ret1 (v := .agg #[ni 3, ni (k : Int)]) rfl ⟨_, rfl, ld_bA (i := 1) (vs := [ni 3, ni (k : Int)]) S rfl T84 rfl rfl⟩ ?_
    refine ⟨rfault (wrongS_L hC (hL.trans ?_) (by simp)), S.below⟩
    rw [wrongL_step hz28]
    rw [if_pos (by omega)]
   refine l_g (d' := 47) (v := .bool false) S (y_gtF rfl rfl h46) rfl rfl ?_
   refine l_y (v := .bool false) S (y_pF rfl rfl) ?_
   refine l_y (v := .bool false) S (y_mv rfl) ?_
   refine l_g (d' := 52) (v := pa g35 2) S (y_fb FA104_2 rfl rfl) rfl rfl ?_
   refine l_g (d' := 52) (v := ni z27.item) S (y_ld rfl (fun w S => ld_b1 (i := 2) S rfl rfl T3)) rfl rfl ?_
   by_cases h48 : z27.item < (-1000)
   ·
    refine l_g (d' := 52) (v := .bool true) S (y_ltT rfl rfl h48) rfl rfl ?_
    refine l_y (v := .bool true) S (y_pF rfl rfl) ?_
    refine l_y (v := .bool true) S (y_mv rfl) ?_
    refine l_s (d' := 57) rfl rfl ?_
    refine l_s (d' := 57) rfl rfl ?_
    refine l_s (d' := 57) rfl rfl ?_
    refine l_y (v := .bool true) S (y_pT rfl rfl) ?_
    refine l_y (v := .bool true) S (y_as rfl) ?_
    refine l_nil ?_
    refine n_seq ?_
    refine e_cT rfl ?_
    refine e_seq ?_
    refine e_reg ?_
    refine l_y (v := ni (k : Int)) S (y_mv rfl) ?_
    refine l_y (v := .agg #[ni 3, ni (k : Int)]) S (y_bd (ps := [(0, ni 3), (1, ni (k : Int))]) rfl (fun _ => by kernel_rfl)) ?_
    refine l_st (u := .agg #[ni 3, ni (k : Int)]) (i := 1) (cs' := #[ni 3, ni (k : Int)]) S rfl rfl rfl SZ84 rfl rfl rfl fun w49 S => ?_
    refine l_nil ?_
    refine n_seq ?_
    refine e_ret ?_
    refine ret1 (v := .agg #[ni 3, ni (k : Int)]) rfl ⟨_, rfl, ld_bA (i := 1) (vs := [ni 3, ni (k : Int)]) S rfl T84 rfl rfl⟩ ?_
    refine ⟨rfault (wrongS_L hC (hL.trans ?_) (by simp)), S.below⟩
    rw [wrongL_step hz28]
    rw [if_pos (by omega)]
   refine l_g (d' := 52) (v := .bool false) S (y_ltF rfl rfl h48) rfl rfl ?_
   refine l_y (v := .bool false) S (y_pF rfl rfl) ?_
   refine l_y (v := .bool false) S (y_mv rfl) ?_
   refine l_g (d' := 57) (v := pa g35 2) S (y_fb FA104_2 rfl rfl) rfl rfl ?_
   refine l_g (d' := 57) (v := ni z27.item) S (y_ld rfl (fun w S => ld_b1 (i := 2) S rfl rfl T3)) rfl rfl ?_
   by_cases h50 : 1000 < z27.item
   ·
    refine l_g (d' := 57) (v := .bool true) S (y_gtT rfl rfl h50) rfl rfl ?_
    refine l_y (v := .bool true) S (y_pF rfl rfl) ?_
    refine l_y (v := .bool true) S (y_as rfl) ?_
    refine l_nil ?_
    refine n_seq ?_
    refine e_cT rfl ?_
    refine e_seq ?_
    refine e_reg ?_
    refine l_y (v := ni (k : Int)) S (y_mv rfl) ?_
    refine l_y (v := .agg #[ni 3, ni (k : Int)]) S (y_bd (ps := [(0, ni 3), (1, ni (k : Int))]) rfl (fun _ => by kernel_rfl)) ?_
    refine l_st (u := .agg #[ni 3, ni (k : Int)]) (i := 1) (cs' := #[ni 3, ni (k : Int)]) S rfl rfl rfl SZ84 rfl rfl rfl fun w51 S => ?_
    refine l_nil ?_
    refine n_seq ?_
    refine e_ret ?_
    refine ret1 (v := .agg #[ni 3, ni (k : Int)]) rfl ⟨_, rfl, ld_bA (i := 1) (vs := [ni 3, ni (k : Int)]) S rfl T84 rfl rfl⟩ ?_
    refine ⟨rfault (wrongS_L hC (hL.trans ?_) (by simp)), S.below⟩
    rw [wrongL_step hz28]
    rw [if_pos (by omega)]
   refine l_g (d' := 57) (v := .bool false) S (y_gtF rfl rfl h50) rfl rfl ?_
   refine l_y (v := .bool false) S (y_pF rfl rfl) ?_
   refine l_y (v := .bool false) S (y_as rfl) ?_
   refine l_nil ?_
   refine n_seq ?_
   refine e_cF rfl ?_
   refine e_seq ?_
   refine e_q MX (by kernel_rfl) S.drew ?_
   refine q_y (v := pa g35 4) (y_fb FA104_4 rfl rfl) ?_
   refine q_y (v := ni z27.seq) (y_ld rfl (fun w S => ld_b1 (i := 2) S rfl rfl T3)) ?_
   refine q_y (v := pa g17 0) (y_fb FA27_0 rfl rfl) ?_
   refine q_y (v := .slice A8 s.clock.length c9) (y_ld rfl (fun w S => ld_b1 (i := 0) S rfl rfl T23)) ?_
   refine q_y (v := pa g35 3) (y_fb FA104_3 rfl rfl) ?_
   refine q_y (v := ni z27.author) (y_ld rfl (fun w S => ld_b1 (i := 2) S rfl rfl T3)) ?_
   obtain ⟨z52, hz53⟩ : ∃ z, (s.clock)[(z27.author).toNat]? = some z := nth_of (by first | assumption | omega)
   have ha := atI_nth hz53
   obtain ⟨p54, vs55, E56, nn57, r58, Y59⟩ := y_ia U23 SZ3 h3 hz53
   clear nn57
   have r58 : vs55 = [ni z52] := r58; subst r58
   refine q_y (v := p54) (Y59 rfl rfl (by first | rfl | omega)) ?_
   refine q_y (v := ni z52) (y_ld rfl (fun w S => ld_p1 S.le E56 rfl T3)) ?_
   by_cases h60 : z52 < z27.seq
   ·
    refine q_y (v := .bool true) (y_gtT rfl rfl h60) ?_
    refine q_y (v := .bool true) (y_as rfl) ?_
    refine q_nil fun w61 S => ?_
    refine n_seq ?_
    refine e_cT rfl ?_
    refine e_seq ?_
    refine e_reg ?_
    refine l_y (v := ni (k : Int)) S (y_mv rfl) ?_
    refine l_y (v := .agg #[ni 8, ni (k : Int)]) S (y_bd (ps := [(0, ni 8), (1, ni (k : Int))]) rfl (fun _ => by kernel_rfl)) ?_
    refine l_st (u := .agg #[ni 8, ni (k : Int)]) (i := 1) (cs' := #[ni 8, ni (k : Int)]) S rfl rfl rfl SZ84 rfl rfl rfl fun w62 S => ?_
    refine l_nil ?_
    refine n_seq ?_
    refine e_ret ?_
    refine ret1 (v := .agg #[ni 8, ni (k : Int)]) rfl ⟨_, rfl, ld_bA (i := 1) (vs := [ni 8, ni (k : Int)]) S rfl T84 rfl rfl⟩ ?_
    refine ⟨rfault (wrongS_L hC (hL.trans ?_) (by simp)), S.below⟩
    rw [wrongL_step hz28]
    rw [if_neg (by omega), if_pos (by omega)]
   refine q_y (v := .bool false) (y_gtF rfl rfl h60) ?_
   refine q_y (v := .bool false) (y_as rfl) ?_
   refine q_nil fun w63 S => ?_
   refine n_seq ?_
   refine e_cF rfl ?_
   refine e_seq ?_
   refine e_q MX (by kernel_rfl) S.drew ?_
   refine q_y (v := ni (k : Int)) (y_mv rfl) ?_
   by_cases h64 : 0 < (k : Int)
   ·
    refine q_y (v := .bool true) (y_gtT rfl rfl h64) ?_
    refine q_y (v := .bool true) (y_mv rfl) ?_
    refine q_g (d' := 79) (v := pa g17 1) (y_fb FA27_1 rfl rfl) rfl rfl ?_
    refine q_g (d' := 79) (v := .slice A11 s.lives.length c12) (y_ld rfl (fun w S => ld_b1 (i := 0) S rfl rfl T24)) rfl rfl ?_
    refine q_g (d' := 79) (v := ni (k : Int)) (y_mv rfl) rfl rfl ?_
    refine q_g (d' := 79) (v := ni ((k : Int) - 1)) (y_sub (r := (k : Int) - 1) rfl rfl (w64 (by omega) (by omega))) rfl rfl ?_
    obtain ⟨z65, hz66⟩ : ∃ z, (s.lives)[(k - 1)]? = some z := nth_of (by first | assumption | omega)
    obtain ⟨p67, vs68, E69, nn70, r71, Y72⟩ := y_ia U24 SZ104 h5 hz66
    clear nn70
    have r71e : vs68 = [.bool z65.set, ni z65.key, ni z65.item, ni z65.author, ni z65.seq] := r71; subst r71e; clear r71
    refine q_g (d' := 79) (v := p67) (Y72 rfl rfl (by first | rfl | omega)) rfl rfl ?_
    refine q_g (d' := 79) (v := .agg #[.bool z65.set, ni z65.key, ni z65.item, ni z65.author, ni z65.seq]) (y_ld rfl (fun w S => ld_pA (us := [.bool z65.set, ni z65.key, ni z65.item, ni z65.author, ni z65.seq]) S.le E69 T104 rfl rfl)) rfl rfl ?_
    refine q_g (d' := 79) (v := .agg #[.bool z27.set, ni z27.key, ni z27.item, ni z27.author, ni z27.seq]) (y_ld rfl (fun w S => ld_bA (vs := [.bool z27.set, ni z27.key, ni z27.item, ni z27.author, ni z27.seq]) (i := 2) S rfl T104 rfl rfl)) rfl rfl ?_
    refine q_cg (d' := 79) (v := ni (ordL z65 z27)) (en_f (vs := [.agg #[.bool z65.set, ni z65.key, ni z65.item, ni z65.author, ni z65.seq], .agg #[.bool z27.set, ni z27.key, ni z27.item, ni z27.author, ni z27.seq]]) (CF 86 _) rfl rfl) rfl rfl (fun w S => (Order_c _ _ S.le _ _ _ _ (⟨_, rfl, rfl⟩ : AggR LiveR rd22 _ z65) (⟨_, rfl, rfl⟩ : AggR LiveR rd22 _ z27)).mono (by rintro e w' ⟨rfl, k⟩; exact ⟨rfl, (S.callq k)⟩)) ?_
    by_cases h73 : 0 ≤ ordL z65 z27
    ·
     refine q_g (d' := 79) (v := .bool true) (y_geT rfl rfl h73) rfl rfl ?_
     refine q_y (v := .bool true) (y_pT rfl rfl) ?_
     refine q_y (v := .bool true) (y_as rfl) ?_
     refine q_nil fun w74 S => ?_
     refine n_seq ?_
     refine e_cT rfl ?_
     refine e_seq ?_
     refine e_reg ?_
     refine l_y (v := ni (k : Int)) S (y_mv rfl) ?_
     refine l_y (v := .agg #[ni 2, ni (k : Int)]) S (y_bd (ps := [(0, ni 2), (1, ni (k : Int))]) rfl (fun _ => by kernel_rfl)) ?_
     refine l_st (u := .agg #[ni 2, ni (k : Int)]) (i := 1) (cs' := #[ni 2, ni (k : Int)]) S rfl rfl rfl SZ84 rfl rfl rfl fun w75 S => ?_
     refine l_nil ?_
     refine n_seq ?_
     refine e_ret ?_
     refine ret1 (v := .agg #[ni 2, ni (k : Int)]) rfl ⟨_, rfl, ld_bA (i := 1) (vs := [ni 2, ni (k : Int)]) S rfl T84 rfl rfl⟩ ?_
     refine ⟨rfault (wrongS_L hC (hL.trans ?_) (by simp)), S.below⟩
     rw [wrongL_step hz28]
     rw [if_neg (by omega), if_neg (by omega), prevO_pos (by omega) hz66, if_pos (decide_eq_true (by omega))]
    refine q_g (d' := 79) (v := .bool false) (y_geF rfl rfl h73) rfl rfl ?_
    refine q_y (v := .bool false) (y_pT rfl rfl) ?_
    refine q_y (v := .bool false) (y_as rfl) ?_
    refine q_nil fun w76 S => ?_
    refine n_seq ?_
    refine e_cF rfl ?_
    refine e_skip ?_
    refine n_blk ?_
    refine n_blk ?_
    refine n_seq ?_
    refine e_reg ?_
    refine l_y (v := ni ((k : Int) + 1)) S (y_add (r := (k : Int) + 1) rfl rfl (w64 (by omega) (by omega))) ?_
    refine l_y (v := ni ((k : Int) + 1)) S (y_mv rfl) ?_
    refine l_nil ?_
    refine n_lp ⟨(k + 1), _, fr_keep (m := [(1, ni n), (2, pa g17 0), (4, pa g19 0), (20, .slice A11 s.lives.length c12), (21, ni (s.lives.length : Int)), (22, ni ((k + 1 : Nat) : Int))]) ⟨⟨rfl, rfl⟩, ⟨rfl, rfl⟩, ⟨rfl, rfl⟩, ⟨rfl, rfl⟩, ⟨rfl, rfl⟩, ⟨ival (by first | rfl | omega), rfl⟩, trivial⟩, ⟨_, _, rfl, (S.tk 2 0 rfl rfl), (Rd.le_trans L24 (Rd.le_refl rd22)), (by omega), (by rw [hL, wrongL_step hz28, if_neg (by omega), if_neg (by omega), prevO_pos (by omega) hz66, if_neg (by simp; omega), prevO_succ, hz28])⟩, ?_⟩
    show _ < _; dsimp only; omega
   refine q_y (v := .bool false) (y_gtF rfl rfl h64) ?_
   refine q_y (v := .bool false) (y_mv rfl) ?_
   refine q_s (d' := 79) rfl rfl ?_
   refine q_s (d' := 79) rfl rfl ?_
   refine q_s (d' := 79) rfl rfl ?_
   refine q_s (d' := 79) rfl rfl ?_
   refine q_s (d' := 79) rfl rfl ?_
   refine q_s (d' := 79) rfl rfl ?_
   refine q_s (d' := 79) rfl rfl ?_
   refine q_s (d' := 79) rfl rfl ?_
   refine q_s (d' := 79) rfl rfl ?_
   refine q_y (v := .bool false) (y_pF rfl rfl) ?_
   refine q_y (v := .bool false) (y_as rfl) ?_
   refine q_nil fun w77 S => ?_
   refine n_seq ?_
   refine e_cF rfl ?_
   refine e_skip ?_
   refine n_blk ?_
   refine n_blk ?_
   refine n_seq ?_
   refine e_reg ?_
   refine l_y (v := ni ((k : Int) + 1)) S (y_add (r := (k : Int) + 1) rfl rfl (w64 (by omega) (by omega))) ?_
   refine l_y (v := ni ((k : Int) + 1)) S (y_mv rfl) ?_
   refine l_nil ?_
   refine n_lp ⟨(k + 1), _, fr_keep (m := [(1, ni n), (2, pa g17 0), (4, pa g19 0), (20, .slice A11 s.lives.length c12), (21, ni (s.lives.length : Int)), (22, ni ((k + 1 : Nat) : Int))]) ⟨⟨rfl, rfl⟩, ⟨rfl, rfl⟩, ⟨rfl, rfl⟩, ⟨rfl, rfl⟩, ⟨rfl, rfl⟩, ⟨ival (by first | rfl | omega), rfl⟩, trivial⟩, ⟨_, _, rfl, (S.tk 2 0 rfl rfl), (Rd.le_trans L24 (Rd.le_refl rd22)), (by omega), (by rw [hL, wrongL_step hz28, if_neg (by omega), if_neg (by omega), show prevO s.lives k = none by unfold prevO; rw [if_pos (by omega)], if_neg (by simp), prevO_succ, hz28])⟩, ?_⟩
   show _ < _; dsimp only; omega
  refine l_y (v := .bool false) S (y_ltF rfl rfl h26) ?_
  refine l_nil ?_
  refine n_seq ?_
  refine e_seq ?_
  refine e_cF rfl ?_
  refine e_exit ?_
  refine x_seq ?_
  refine x_lp ?_
  refine x_hit ?_
  refine n_seq ?_
  refine e_seq ?_
  refine e_seq ?_
  refine e_reg ?_
  refine l_y (v := pa g17 2) S (y_fb FA27_2 rfl rfl) ?_
  refine l_y (v := .slice A14 s.tallies.length c15) S (y_ld rfl (fun w S => ld_b1 (i := 0) S rfl rfl T25)) ?_
  refine l_y (v := ni (s.tallies.length : Int)) S (y_len U25 rfl rfl) ?_
  refine l_y (v := ni 0) S (y_mv rfl) ?_
  refine l_nil ?_
  refine n_seq ?_
  refine e_blk ?_
  have hL0 : (wrongL s.clock n none s.lives 0).1 = 0 := by rw [hL, wrongL_end (by omega)]
  clear hL
  refine e_trim [(1, ni n), (2, pa g17 0), (4, pa g19 0), (94, .slice A14 s.tallies.length c15), (95, ni (s.tallies.length : Int)), (96, ni (0 : Int))] ⟨⟨rfl, rfl⟩, ⟨rfl, rfl⟩, ⟨rfl, rfl⟩, ⟨rfl, rfl⟩, ⟨rfl, rfl⟩, ⟨ival (by first | rfl | omega), rfl⟩, trivial⟩ (fun junk => ?_)
  refine e_loop (fun (gh_ : Nat) ov w => match gh_ with | k => ∃ rd' junk, ov = [(1, ni n), (2, pa g17 0), (4, pa g19 0), (94, .slice A14 s.tallies.length c15), (95, ni (s.tallies.length : Int)), (96, ni (k : Int))] ++ junk ∧ St [] W rd rd' [(g17, 27, #[.slice A8 s.clock.length c9, .slice A11 s.lives.length c12, .slice A14 s.tallies.length c15]), (g19, 84, #[ni 0, ni 0])] [] w ∧ Rd.le rd22 rd' ∧ k ≤ s.tallies.length ∧ wrongT s.clock n none s.tallies 0 = wrongT s.clock n (prevO s.tallies k) (s.tallies.drop k) k) (fun gh_ => match gh_ with | k => s.tallies.length - k) 0 ⟨_, junk, rfl, (S.rw' rfl rfl), (Rd.le_refl _), (by omega), rfl⟩ ?_
  rintro k ov81 w79 ⟨rd78, junk, rfl, S, L80, hk, hT⟩
  replace h3 := fm h3 L80
  replace h5 := fm h5 L80
  replace h7 := fm h7 L80
  refine e_seq ?_
  refine e_reg ?_
  by_cases h82 : (k : Int) < (s.tallies.length : Int)
  ·
   refine l_y (v := .bool true) S (y_ltT rfl rfl h82) ?_
   refine l_nil ?_
   refine n_seq ?_
   refine e_seq ?_
   refine e_cT rfl ?_
   refine e_skip ?_
   refine n_seq ?_
   refine e_seq ?_
   refine e_blk ?_
   refine e_seq ?_
   refine e_reg ?_
   refine l_y (v := ni (k : Int)) S (y_mv rfl) ?_
   obtain ⟨z83, hz84⟩ : ∃ z, (s.tallies)[k]? = some z := nth_of (by first | assumption | omega)
   obtain ⟨p85, vs86, E87, nn88, r89, Y90⟩ := y_ia U25 SZ106 h7 hz84
   clear nn88
   have r89e : vs86 = [ni z83.key, ni z83.author, ni z83.sum] := r89; subst r89e; clear r89
   refine l_y (v := p85) S (Y90 rfl rfl (by first | rfl | omega)) ?_
   refine l_y (v := .agg #[ni z83.key, ni z83.author, ni z83.sum]) S (y_ld rfl (fun w S => ld_pA (us := [ni z83.key, ni z83.author, ni z83.sum]) S.le E87 T106 rfl rfl)) ?_
   refine l_al (cs := #[ni 0, ni 0, ni 0]) S Z106 rfl fun g91 w92 S => ?_
   refine l_y (v := ni (k : Int)) S (y_as rfl) ?_
   refine l_st (u := .agg #[ni z83.key, ni z83.author, ni z83.sum]) (i := 2) (cs' := #[ni z83.key, ni z83.author, ni z83.sum]) S rfl rfl rfl SZ106 rfl rfl rfl fun w93 S => ?_
   refine l_nil ?_
   refine n_seq ?_
   refine e_seq ?_
   refine e_reg ?_
   refine l_y (v := ni 0) S (y_as rfl) ?_
   refine l_nil ?_
   refine n_seq ?_
   refine e_seq ?_
   refine e_seq ?_
   refine e_reg ?_
   refine l_y (v := pa g91 1) S (y_fb FA106_1 rfl rfl) ?_
   refine l_y (v := ni z83.author) S (y_ld rfl (fun w S => ld_b1 (i := 2) S rfl rfl T3)) ?_
   by_cases h94 : 0 ≤ z83.author
   ·
    refine l_y (v := .bool true) S (y_geT rfl rfl h94) ?_
    refine l_y (v := .bool true) S (y_mv rfl) ?_
    refine l_g (d' := 104) (v := pa g91 1) S (y_fb FA106_1 rfl rfl) rfl rfl ?_
    refine l_g (d' := 104) (v := ni z83.author) S (y_ld rfl (fun w S => ld_b1 (i := 2) S rfl rfl T3)) rfl rfl ?_
    refine l_g (d' := 104) (v := ni n) S (y_mv rfl) rfl rfl ?_
    by_cases h95 : z83.author < n
    ·
     refine l_g (d' := 104) (v := .bool true) S (y_ltT rfl rfl h95) rfl rfl ?_
     refine l_y (v := .bool true) S (y_pT rfl rfl) ?_
     refine l_nil ?_
     refine n_seq ?_
     refine e_cT rfl ?_
     refine e_reg ?_
     refine l_y (v := pa g17 0) S (y_fb FA27_0 rfl rfl) ?_
     refine l_y (v := .slice A8 s.clock.length c9) S (y_ld rfl (fun w S => ld_b1 (i := 0) S rfl rfl T23)) ?_
     refine l_y (v := pa g91 1) S (y_fb FA106_1 rfl rfl) ?_
     refine l_y (v := ni z83.author) S (y_ld rfl (fun w S => ld_b1 (i := 2) S rfl rfl T3)) ?_
     obtain ⟨z96, hz97⟩ : ∃ z, (s.clock)[(z83.author).toNat]? = some z := nth_of (by first | assumption | omega)
     have ha := atI_nth hz97; have hb := hw.2.2.2 _ (List.mem_of_getElem? hz97)
     obtain ⟨p98, vs99, E100, nn101, r102, Y103⟩ := y_ia U23 SZ3 h3 hz97
     clear nn101
     have r102 : vs99 = [ni z96] := r102; subst r102
     refine l_y (v := p98) S (Y103 rfl rfl (by first | rfl | omega)) ?_
     refine l_y (v := ni z96) S (y_ld rfl (fun w S => ld_p1 S.le E100 rfl T3)) ?_
     refine l_y (v := ni (1000 * z96)) S (y_mul (r := 1000 * z96) rfl rfl (w64 (by omega) (by omega))) ?_
     refine l_y (v := ni (1000 * z96)) S (y_as rfl) ?_
     refine l_nil ?_
     refine n_seq ?_
     refine e_blk ?_
     refine e_seq ?_
     refine e_reg ?_
     refine l_y (v := pa g91 1) S (y_fb FA106_1 rfl rfl) ?_
     refine l_y (v := ni z83.author) S (y_ld rfl (fun w S => ld_b1 (i := 2) S rfl rfl T3)) ?_
     by_cases h104 : z83.author < 0
     ·
      refine l_y (v := .bool true) S (y_ltT rfl rfl h104) ?_
      refine l_y (v := .bool true) S (y_mv rfl) ?_
      refine l_s (d' := 121) rfl rfl ?_
      refine l_s (d' := 121) rfl rfl ?_
      refine l_s (d' := 121) rfl rfl ?_
      refine l_s (d' := 121) rfl rfl ?_
      refine l_y (v := .bool true) S (y_pT rfl rfl) ?_
      refine l_y (v := .bool true) S (y_mv rfl) ?_
      refine l_s (d' := 127) rfl rfl ?_
      refine l_s (d' := 127) rfl rfl ?_
      refine l_s (d' := 127) rfl rfl ?_
      refine l_y (v := .bool true) S (y_pT rfl rfl) ?_
      refine l_y (v := .bool true) S (y_mv rfl) ?_
      refine l_s (d' := 132) rfl rfl ?_
      refine l_s (d' := 132) rfl rfl ?_
      refine l_s (d' := 132) rfl rfl ?_
      refine l_y (v := .bool true) S (y_pT rfl rfl) ?_
      refine l_y (v := .bool true) S (y_mv rfl) ?_
      refine l_s (d' := 137) rfl rfl ?_
      refine l_s (d' := 137) rfl rfl ?_
      refine l_s (d' := 137) rfl rfl ?_
      refine l_s (d' := 137) rfl rfl ?_
      refine l_s (d' := 137) rfl rfl ?_
      refine l_y (v := .bool true) S (y_pT rfl rfl) ?_
      refine l_y (v := .bool true) S (y_mv rfl) ?_
      refine l_s (d' := 144) rfl rfl ?_
      refine l_s (d' := 144) rfl rfl ?_
      refine l_s (d' := 144) rfl rfl ?_
      refine l_s (d' := 144) rfl rfl ?_
      refine l_y (v := .bool true) S (y_pT rfl rfl) ?_
      refine l_y (v := .bool true) S (y_mv rfl) ?_
      refine l_s (d' := 150) rfl rfl ?_
      refine l_s (d' := 150) rfl rfl ?_
      refine l_s (d' := 150) rfl rfl ?_
      refine l_y (v := .bool true) S (y_pT rfl rfl) ?_
      refine l_y (v := .bool true) S (y_as rfl) ?_
      refine l_nil ?_
      refine n_seq ?_
      refine e_cT rfl ?_
      refine e_seq ?_
      refine e_reg ?_
      refine l_y (v := ni (k : Int)) S (y_mv rfl) ?_
      refine l_y (v := .agg #[ni 3, ni (k : Int)]) S (y_bd (ps := [(0, ni 3), (1, ni (k : Int))]) rfl (fun _ => by kernel_rfl)) ?_
      refine l_st (u := .agg #[ni 3, ni (k : Int)]) (i := 1) (cs' := #[ni 3, ni (k : Int)]) S rfl rfl rfl SZ84 rfl rfl rfl fun w105 S => ?_
      refine l_nil ?_
      refine n_seq ?_
      refine e_ret ?_
      refine ret1 (v := .agg #[ni 3, ni (k : Int)]) rfl ⟨_, rfl, ld_bA (i := 1) (vs := [ni 3, ni (k : Int)]) S rfl T84 rfl rfl⟩ ?_
      refine ⟨rfault (wrongS_T hC hL0 (hT.trans ?_)), S.below⟩
      rw [wrongT_step hz84]
      rw [if_pos (by unfold mostT; first | (split <;> omega) | omega)]
     refine l_y (v := .bool false) S (y_ltF rfl rfl h104) ?_
     refine l_y (v := .bool false) S (y_mv rfl) ?_
     refine l_g (d' := 121) (v := pa g91 1) S (y_fb FA106_1 rfl rfl) rfl rfl ?_
     refine l_g (d' := 121) (v := ni z83.author) S (y_ld rfl (fun w S => ld_b1 (i := 2) S rfl rfl T3)) rfl rfl ?_
     refine l_g (d' := 121) (v := ni n) S (y_mv rfl) rfl rfl ?_
     by_cases h106 : n ≤ z83.author
     ·
      refine l_g (d' := 121) (v := .bool true) S (y_geT rfl rfl h106) rfl rfl ?_
      refine l_y (v := .bool true) S (y_pF rfl rfl) ?_
      refine l_y (v := .bool true) S (y_mv rfl) ?_
      refine l_s (d' := 127) rfl rfl ?_
      refine l_s (d' := 127) rfl rfl ?_
      refine l_s (d' := 127) rfl rfl ?_
      refine l_y (v := .bool true) S (y_pT rfl rfl) ?_
      refine l_y (v := .bool true) S (y_mv rfl) ?_
      refine l_s (d' := 132) rfl rfl ?_
      refine l_s (d' := 132) rfl rfl ?_
      refine l_s (d' := 132) rfl rfl ?_
      refine l_y (v := .bool true) S (y_pT rfl rfl) ?_
      refine l_y (v := .bool true) S (y_mv rfl) ?_
      refine l_s (d' := 137) rfl rfl ?_
      refine l_s (d' := 137) rfl rfl ?_
      refine l_s (d' := 137) rfl rfl ?_
      refine l_s (d' := 137) rfl rfl ?_
      refine l_s (d' := 137) rfl rfl ?_
      refine l_y (v := .bool true) S (y_pT rfl rfl) ?_
      refine l_y (v := .bool true) S (y_mv rfl) ?_
      refine l_s (d' := 144) rfl rfl ?_
      refine l_s (d' := 144) rfl rfl ?_
      refine l_s (d' := 144) rfl rfl ?_
      refine l_s (d' := 144) rfl rfl ?_
      refine l_y (v := .bool true) S (y_pT rfl rfl) ?_
      refine l_y (v := .bool true) S (y_mv rfl) ?_
      refine l_s (d' := 150) rfl rfl ?_
      refine l_s (d' := 150) rfl rfl ?_
      refine l_s (d' := 150) rfl rfl ?_
      refine l_y (v := .bool true) S (y_pT rfl rfl) ?_
      refine l_y (v := .bool true) S (y_as rfl) ?_
      refine l_nil ?_
      refine n_seq ?_
      refine e_cT rfl ?_
      refine e_seq ?_
      refine e_reg ?_
      refine l_y (v := ni (k : Int)) S (y_mv rfl) ?_
      refine l_y (v := .agg #[ni 3, ni (k : Int)]) S (y_bd (ps := [(0, ni 3), (1, ni (k : Int))]) rfl (fun _ => by kernel_rfl)) ?_
      refine l_st (u := .agg #[ni 3, ni (k : Int)]) (i := 1) (cs' := #[ni 3, ni (k : Int)]) S rfl rfl rfl SZ84 rfl rfl rfl fun w107 S => ?_
      refine l_nil ?_
      refine n_seq ?_
      refine e_ret ?_
      refine ret1 (v := .agg #[ni 3, ni (k : Int)]) rfl ⟨_, rfl, ld_bA (i := 1) (vs := [ni 3, ni (k : Int)]) S rfl T84 rfl rfl⟩ ?_
      refine ⟨rfault (wrongS_T hC hL0 (hT.trans ?_)), S.below⟩
      rw [wrongT_step hz84]
      rw [if_pos (by unfold mostT; first | (split <;> omega) | omega)]
     refine l_g (d' := 121) (v := .bool false) S (y_geF rfl rfl h106) rfl rfl ?_
     refine l_y (v := .bool false) S (y_pF rfl rfl) ?_
     refine l_y (v := .bool false) S (y_mv rfl) ?_
     refine l_g (d' := 127) (v := pa g91 0) S (y_fb FA106_0 rfl rfl) rfl rfl ?_
     refine l_g (d' := 127) (v := ni z83.key) S (y_ld rfl (fun w S => ld_b1 (i := 2) S rfl rfl T3)) rfl rfl ?_
     by_cases h108 : z83.key < 0
     ·
      refine l_g (d' := 127) (v := .bool true) S (y_ltT rfl rfl h108) rfl rfl ?_
      refine l_y (v := .bool true) S (y_pF rfl rfl) ?_
      refine l_y (v := .bool true) S (y_mv rfl) ?_
      refine l_s (d' := 132) rfl rfl ?_
      refine l_s (d' := 132) rfl rfl ?_
      refine l_s (d' := 132) rfl rfl ?_
      refine l_y (v := .bool true) S (y_pT rfl rfl) ?_
      refine l_y (v := .bool true) S (y_mv rfl) ?_
      refine l_s (d' := 137) rfl rfl ?_
      refine l_s (d' := 137) rfl rfl ?_
      refine l_s (d' := 137) rfl rfl ?_
      refine l_s (d' := 137) rfl rfl ?_
      refine l_s (d' := 137) rfl rfl ?_
      refine l_y (v := .bool true) S (y_pT rfl rfl) ?_
      refine l_y (v := .bool true) S (y_mv rfl) ?_
      refine l_s (d' := 144) rfl rfl ?_
      refine l_s (d' := 144) rfl rfl ?_
      refine l_s (d' := 144) rfl rfl ?_
      refine l_s (d' := 144) rfl rfl ?_
      refine l_y (v := .bool true) S (y_pT rfl rfl) ?_
      refine l_y (v := .bool true) S (y_mv rfl) ?_
      refine l_s (d' := 150) rfl rfl ?_
      refine l_s (d' := 150) rfl rfl ?_
      refine l_s (d' := 150) rfl rfl ?_
      refine l_y (v := .bool true) S (y_pT rfl rfl) ?_
      refine l_y (v := .bool true) S (y_as rfl) ?_
      refine l_nil ?_
      refine n_seq ?_
      refine e_cT rfl ?_
      refine e_seq ?_
      refine e_reg ?_
      refine l_y (v := ni (k : Int)) S (y_mv rfl) ?_
      refine l_y (v := .agg #[ni 3, ni (k : Int)]) S (y_bd (ps := [(0, ni 3), (1, ni (k : Int))]) rfl (fun _ => by kernel_rfl)) ?_
      refine l_st (u := .agg #[ni 3, ni (k : Int)]) (i := 1) (cs' := #[ni 3, ni (k : Int)]) S rfl rfl rfl SZ84 rfl rfl rfl fun w109 S => ?_
      refine l_nil ?_
      refine n_seq ?_
      refine e_ret ?_
      refine ret1 (v := .agg #[ni 3, ni (k : Int)]) rfl ⟨_, rfl, ld_bA (i := 1) (vs := [ni 3, ni (k : Int)]) S rfl T84 rfl rfl⟩ ?_
      refine ⟨rfault (wrongS_T hC hL0 (hT.trans ?_)), S.below⟩
      rw [wrongT_step hz84]
      rw [if_pos (by unfold mostT; first | (split <;> omega) | omega)]
     refine l_g (d' := 127) (v := .bool false) S (y_ltF rfl rfl h108) rfl rfl ?_
     refine l_y (v := .bool false) S (y_pF rfl rfl) ?_
     refine l_y (v := .bool false) S (y_mv rfl) ?_
     refine l_g (d' := 132) (v := pa g91 0) S (y_fb FA106_0 rfl rfl) rfl rfl ?_
     refine l_g (d' := 132) (v := ni z83.key) S (y_ld rfl (fun w S => ld_b1 (i := 2) S rfl rfl T3)) rfl rfl ?_
     by_cases h110 : 15 < z83.key
     ·
      refine l_g (d' := 132) (v := .bool true) S (y_gtT rfl rfl h110) rfl rfl ?_
      refine l_y (v := .bool true) S (y_pF rfl rfl) ?_
      refine l_y (v := .bool true) S (y_mv rfl) ?_
      refine l_s (d' := 137) rfl rfl ?_
      refine l_s (d' := 137) rfl rfl ?_
      refine l_s (d' := 137) rfl rfl ?_
      refine l_s (d' := 137) rfl rfl ?_
      refine l_s (d' := 137) rfl rfl ?_
      refine l_y (v := .bool true) S (y_pT rfl rfl) ?_
      refine l_y (v := .bool true) S (y_mv rfl) ?_
      refine l_s (d' := 144) rfl rfl ?_
      refine l_s (d' := 144) rfl rfl ?_
      refine l_s (d' := 144) rfl rfl ?_
      refine l_s (d' := 144) rfl rfl ?_
      refine l_y (v := .bool true) S (y_pT rfl rfl) ?_
      refine l_y (v := .bool true) S (y_mv rfl) ?_
      refine l_s (d' := 150) rfl rfl ?_
      refine l_s (d' := 150) rfl rfl ?_
      refine l_s (d' := 150) rfl rfl ?_
      refine l_y (v := .bool true) S (y_pT rfl rfl) ?_
      refine l_y (v := .bool true) S (y_as rfl) ?_
      refine l_nil ?_
      refine n_seq ?_
      refine e_cT rfl ?_
      refine e_seq ?_
      refine e_reg ?_
      refine l_y (v := ni (k : Int)) S (y_mv rfl) ?_
      refine l_y (v := .agg #[ni 3, ni (k : Int)]) S (y_bd (ps := [(0, ni 3), (1, ni (k : Int))]) rfl (fun _ => by kernel_rfl)) ?_
      refine l_st (u := .agg #[ni 3, ni (k : Int)]) (i := 1) (cs' := #[ni 3, ni (k : Int)]) S rfl rfl rfl SZ84 rfl rfl rfl fun w111 S => ?_
      refine l_nil ?_
      refine n_seq ?_
      refine e_ret ?_
      refine ret1 (v := .agg #[ni 3, ni (k : Int)]) rfl ⟨_, rfl, ld_bA (i := 1) (vs := [ni 3, ni (k : Int)]) S rfl T84 rfl rfl⟩ ?_
      refine ⟨rfault (wrongS_T hC hL0 (hT.trans ?_)), S.below⟩
      rw [wrongT_step hz84]
      rw [if_pos (by unfold mostT; first | (split <;> omega) | omega)]
     refine l_g (d' := 132) (v := .bool false) S (y_gtF rfl rfl h110) rfl rfl ?_
     refine l_y (v := .bool false) S (y_pF rfl rfl) ?_
     refine l_y (v := .bool false) S (y_mv rfl) ?_
     refine l_g (d' := 137) (v := pa g91 2) S (y_fb FA106_2 rfl rfl) rfl rfl ?_
     refine l_g (d' := 137) (v := ni z83.sum) S (y_ld rfl (fun w S => ld_b1 (i := 2) S rfl rfl T3)) rfl rfl ?_
     refine l_g (d' := 137) (v := ni (1000 * z96)) S (y_mv rfl) rfl rfl ?_
     refine l_g (d' := 137) (v := ni (-(1000 * z96))) S (y_neg (r := -(1000 * z96)) rfl (by rw [Int.zero_sub]; exact w64 (by omega) (by omega))) rfl rfl ?_
     by_cases h112 : z83.sum < -(1000 * z96)
     ·
      refine l_g (d' := 137) (v := .bool true) S (y_ltT rfl rfl h112) rfl rfl ?_
      refine l_y (v := .bool true) S (y_pF rfl rfl) ?_
      refine l_y (v := .bool true) S (y_mv rfl) ?_
      refine l_s (d' := 144) rfl rfl ?_
      refine l_s (d' := 144) rfl rfl ?_
      refine l_s (d' := 144) rfl rfl ?_
      refine l_s (d' := 144) rfl rfl ?_
      refine l_y (v := .bool true) S (y_pT rfl rfl) ?_
      refine l_y (v := .bool true) S (y_mv rfl) ?_
      refine l_s (d' := 150) rfl rfl ?_
      refine l_s (d' := 150) rfl rfl ?_
      refine l_s (d' := 150) rfl rfl ?_
      refine l_y (v := .bool true) S (y_pT rfl rfl) ?_
      refine l_y (v := .bool true) S (y_as rfl) ?_
      refine l_nil ?_
      refine n_seq ?_
      refine e_cT rfl ?_
      refine e_seq ?_
      refine e_reg ?_
      refine l_y (v := ni (k : Int)) S (y_mv rfl) ?_
      refine l_y (v := .agg #[ni 3, ni (k : Int)]) S (y_bd (ps := [(0, ni 3), (1, ni (k : Int))]) rfl (fun _ => by kernel_rfl)) ?_
      refine l_st (u := .agg #[ni 3, ni (k : Int)]) (i := 1) (cs' := #[ni 3, ni (k : Int)]) S rfl rfl rfl SZ84 rfl rfl rfl fun w113 S => ?_
      refine l_nil ?_
      refine n_seq ?_
      refine e_ret ?_
      refine ret1 (v := .agg #[ni 3, ni (k : Int)]) rfl ⟨_, rfl, ld_bA (i := 1) (vs := [ni 3, ni (k : Int)]) S rfl T84 rfl rfl⟩ ?_
      refine ⟨rfault (wrongS_T hC hL0 (hT.trans ?_)), S.below⟩
      rw [wrongT_step hz84]
      rw [if_pos (by unfold mostT; first | (split <;> omega) | omega)]
     refine l_g (d' := 137) (v := .bool false) S (y_ltF rfl rfl h112) rfl rfl ?_
     refine l_y (v := .bool false) S (y_pF rfl rfl) ?_
     refine l_y (v := .bool false) S (y_mv rfl) ?_
     refine l_g (d' := 144) (v := pa g91 2) S (y_fb FA106_2 rfl rfl) rfl rfl ?_
     refine l_g (d' := 144) (v := ni z83.sum) S (y_ld rfl (fun w S => ld_b1 (i := 2) S rfl rfl T3)) rfl rfl ?_
     refine l_g (d' := 144) (v := ni (1000 * z96)) S (y_mv rfl) rfl rfl ?_
     by_cases h114 : 1000 * z96 < z83.sum
     ·
      refine l_g (d' := 144) (v := .bool true) S (y_gtT rfl rfl h114) rfl rfl ?_
      refine l_y (v := .bool true) S (y_pF rfl rfl) ?_
      refine l_y (v := .bool true) S (y_mv rfl) ?_
      refine l_s (d' := 150) rfl rfl ?_
      refine l_s (d' := 150) rfl rfl ?_
      refine l_s (d' := 150) rfl rfl ?_
      refine l_y (v := .bool true) S (y_pT rfl rfl) ?_
      refine l_y (v := .bool true) S (y_as rfl) ?_
      refine l_nil ?_
      refine n_seq ?_
      refine e_cT rfl ?_
      refine e_seq ?_
      refine e_reg ?_
      refine l_y (v := ni (k : Int)) S (y_mv rfl) ?_
      refine l_y (v := .agg #[ni 3, ni (k : Int)]) S (y_bd (ps := [(0, ni 3), (1, ni (k : Int))]) rfl (fun _ => by kernel_rfl)) ?_
      refine l_st (u := .agg #[ni 3, ni (k : Int)]) (i := 1) (cs' := #[ni 3, ni (k : Int)]) S rfl rfl rfl SZ84 rfl rfl rfl fun w115 S => ?_
      refine l_nil ?_
      refine n_seq ?_
      refine e_ret ?_
      refine ret1 (v := .agg #[ni 3, ni (k : Int)]) rfl ⟨_, rfl, ld_bA (i := 1) (vs := [ni 3, ni (k : Int)]) S rfl T84 rfl rfl⟩ ?_
      refine ⟨rfault (wrongS_T hC hL0 (hT.trans ?_)), S.below⟩
      rw [wrongT_step hz84]
      rw [if_pos (by unfold mostT; first | (split <;> omega) | omega)]
     refine l_g (d' := 144) (v := .bool false) S (y_gtF rfl rfl h114) rfl rfl ?_
     refine l_y (v := .bool false) S (y_pF rfl rfl) ?_
     refine l_y (v := .bool false) S (y_mv rfl) ?_
     refine l_g (d' := 150) (v := pa g91 2) S (y_fb FA106_2 rfl rfl) rfl rfl ?_
     refine l_g (d' := 150) (v := ni z83.sum) S (y_ld rfl (fun w S => ld_b1 (i := 2) S rfl rfl T3)) rfl rfl ?_
     by_cases h116 : z83.sum = 0
     ·
      refine l_g (d' := 150) (v := .bool true) S (y_eqT rfl rfl h116) rfl rfl ?_
      refine l_y (v := .bool true) S (y_pF rfl rfl) ?_
      refine l_y (v := .bool true) S (y_as rfl) ?_
      refine l_nil ?_
      refine n_seq ?_
      refine e_cT rfl ?_
      refine e_seq ?_
      refine e_reg ?_
      refine l_y (v := ni (k : Int)) S (y_mv rfl) ?_
      refine l_y (v := .agg #[ni 3, ni (k : Int)]) S (y_bd (ps := [(0, ni 3), (1, ni (k : Int))]) rfl (fun _ => by kernel_rfl)) ?_
      refine l_st (u := .agg #[ni 3, ni (k : Int)]) (i := 1) (cs' := #[ni 3, ni (k : Int)]) S rfl rfl rfl SZ84 rfl rfl rfl fun w117 S => ?_
      refine l_nil ?_
      refine n_seq ?_
      refine e_ret ?_
      refine ret1 (v := .agg #[ni 3, ni (k : Int)]) rfl ⟨_, rfl, ld_bA (i := 1) (vs := [ni 3, ni (k : Int)]) S rfl T84 rfl rfl⟩ ?_
      refine ⟨rfault (wrongS_T hC hL0 (hT.trans ?_)), S.below⟩
      rw [wrongT_step hz84]
      rw [if_pos (by unfold mostT; first | (split <;> omega) | omega)]
     refine l_g (d' := 150) (v := .bool false) S (y_eqF rfl rfl h116) rfl rfl ?_
     refine l_y (v := .bool false) S (y_pF rfl rfl) ?_
     refine l_y (v := .bool false) S (y_as rfl) ?_
     refine l_nil ?_
     refine n_seq ?_
     refine e_cF rfl ?_
     refine e_seq ?_
     refine e_q MX (by kernel_rfl) S.drew ?_
     refine q_y (v := ni (k : Int)) (y_mv rfl) ?_
     by_cases h118 : 0 < (k : Int)
     ·
      refine q_y (v := .bool true) (y_gtT rfl rfl h118) ?_
      refine q_y (v := .bool true) (y_mv rfl) ?_
      refine q_g (d' := 160) (v := pa g17 2) (y_fb FA27_2 rfl rfl) rfl rfl ?_
      refine q_g (d' := 160) (v := .slice A14 s.tallies.length c15) (y_ld rfl (fun w S => ld_b1 (i := 0) S rfl rfl T25)) rfl rfl ?_
      refine q_g (d' := 160) (v := ni (k : Int)) (y_mv rfl) rfl rfl ?_
      refine q_g (d' := 160) (v := ni ((k : Int) - 1)) (y_sub (r := (k : Int) - 1) rfl rfl (w64 (by omega) (by omega))) rfl rfl ?_
      obtain ⟨z119, hz120⟩ : ∃ z, (s.tallies)[(k - 1)]? = some z := nth_of (by first | assumption | omega)
      obtain ⟨p121, vs122, E123, nn124, r125, Y126⟩ := y_ia U25 SZ106 h7 hz120
      clear nn124
      have r125e : vs122 = [ni z119.key, ni z119.author, ni z119.sum] := r125; subst r125e; clear r125
      refine q_g (d' := 160) (v := p121) (Y126 rfl rfl (by first | rfl | omega)) rfl rfl ?_
      refine q_g (d' := 160) (v := .agg #[ni z119.key, ni z119.author, ni z119.sum]) (y_ld rfl (fun w S => ld_pA (us := [ni z119.key, ni z119.author, ni z119.sum]) S.le E123 T106 rfl rfl)) rfl rfl ?_
      refine q_g (d' := 160) (v := .agg #[ni z83.key, ni z83.author, ni z83.sum]) (y_ld rfl (fun w S => ld_bA (vs := [ni z83.key, ni z83.author, ni z83.sum]) (i := 2) S rfl T106 rfl rfl)) rfl rfl ?_
      refine q_cg (d' := 160) (v := ni (ordT z119 z83)) (en_f (vs := [.agg #[ni z119.key, ni z119.author, ni z119.sum], .agg #[ni z83.key, ni z83.author, ni z83.sum]]) (CF 87 _) rfl rfl) rfl rfl (fun w S => (Tally_c _ _ S.le _ _ _ _ (⟨_, rfl, rfl⟩ : AggR TallyR rd78 _ z119) (⟨_, rfl, rfl⟩ : AggR TallyR rd78 _ z83)).mono (by rintro e w' ⟨rfl, k⟩; exact ⟨rfl, (S.callq k)⟩)) ?_
      by_cases h127 : 0 ≤ ordT z119 z83
      ·
       refine q_g (d' := 160) (v := .bool true) (y_geT rfl rfl h127) rfl rfl ?_
       refine q_y (v := .bool true) (y_pT rfl rfl) ?_
       refine q_y (v := .bool true) (y_as rfl) ?_
       refine q_nil fun w128 S => ?_
       refine n_seq ?_
       refine e_cT rfl ?_
       refine e_seq ?_
       refine e_reg ?_
       refine l_y (v := ni (k : Int)) S (y_mv rfl) ?_
       refine l_y (v := .agg #[ni 2, ni (k : Int)]) S (y_bd (ps := [(0, ni 2), (1, ni (k : Int))]) rfl (fun _ => by kernel_rfl)) ?_
       refine l_st (u := .agg #[ni 2, ni (k : Int)]) (i := 1) (cs' := #[ni 2, ni (k : Int)]) S rfl rfl rfl SZ84 rfl rfl rfl fun w129 S => ?_
       refine l_nil ?_
       refine n_seq ?_
       refine e_ret ?_
       refine ret1 (v := .agg #[ni 2, ni (k : Int)]) rfl ⟨_, rfl, ld_bA (i := 1) (vs := [ni 2, ni (k : Int)]) S rfl T84 rfl rfl⟩ ?_
       refine ⟨rfault (wrongS_T hC hL0 (hT.trans ?_)), S.below⟩
       rw [wrongT_step hz84]
       rw [if_neg (by unfold mostT; first | (split <;> omega) | omega), prevO_pos (by omega) hz120, if_pos (decide_eq_true (by omega))]
      refine q_g (d' := 160) (v := .bool false) (y_geF rfl rfl h127) rfl rfl ?_
      refine q_y (v := .bool false) (y_pT rfl rfl) ?_
      refine q_y (v := .bool false) (y_as rfl) ?_
      refine q_nil fun w130 S => ?_
      refine n_seq ?_
      refine e_cF rfl ?_
      refine e_skip ?_
      refine n_blk ?_
      refine n_blk ?_
      refine n_seq ?_
      refine e_reg ?_
      refine l_y (v := ni ((k : Int) + 1)) S (y_add (r := (k : Int) + 1) rfl rfl (w64 (by omega) (by omega))) ?_
      refine l_y (v := ni ((k : Int) + 1)) S (y_mv rfl) ?_
      refine l_nil ?_
      refine n_lp ⟨(k + 1), _, fr_keep (m := [(1, ni n), (2, pa g17 0), (4, pa g19 0), (94, .slice A14 s.tallies.length c15), (95, ni (s.tallies.length : Int)), (96, ni ((k + 1 : Nat) : Int))]) ⟨⟨rfl, rfl⟩, ⟨rfl, rfl⟩, ⟨rfl, rfl⟩, ⟨rfl, rfl⟩, ⟨rfl, rfl⟩, ⟨ival (by first | rfl | omega), rfl⟩, trivial⟩, ⟨_, _, rfl, (S.tk 2 0 rfl rfl), (Rd.le_trans L80 (Rd.le_refl rd78)), (by omega), (by rw [hT, wrongT_step hz84, if_neg (by unfold mostT; first | (split <;> omega) | omega), prevO_pos (by omega) hz120, if_neg (by simp; omega), prevO_succ, hz84])⟩, ?_⟩
      show _ < _; dsimp only; omega
     refine q_y (v := .bool false) (y_gtF rfl rfl h118) ?_
     refine q_y (v := .bool false) (y_mv rfl) ?_
     refine q_s (d' := 160) rfl rfl ?_
     refine q_s (d' := 160) rfl rfl ?_
     refine q_s (d' := 160) rfl rfl ?_
     refine q_s (d' := 160) rfl rfl ?_
     refine q_s (d' := 160) rfl rfl ?_
     refine q_s (d' := 160) rfl rfl ?_
     refine q_s (d' := 160) rfl rfl ?_
     refine q_s (d' := 160) rfl rfl ?_
     refine q_s (d' := 160) rfl rfl ?_
     refine q_y (v := .bool false) (y_pF rfl rfl) ?_
     refine q_y (v := .bool false) (y_as rfl) ?_
     refine q_nil fun w131 S => ?_
     refine n_seq ?_
     refine e_cF rfl ?_
     refine e_skip ?_
     refine n_blk ?_
     refine n_blk ?_
     refine n_seq ?_
     refine e_reg ?_
     refine l_y (v := ni ((k : Int) + 1)) S (y_add (r := (k : Int) + 1) rfl rfl (w64 (by omega) (by omega))) ?_
     refine l_y (v := ni ((k : Int) + 1)) S (y_mv rfl) ?_
     refine l_nil ?_
     refine n_lp ⟨(k + 1), _, fr_keep (m := [(1, ni n), (2, pa g17 0), (4, pa g19 0), (94, .slice A14 s.tallies.length c15), (95, ni (s.tallies.length : Int)), (96, ni ((k + 1 : Nat) : Int))]) ⟨⟨rfl, rfl⟩, ⟨rfl, rfl⟩, ⟨rfl, rfl⟩, ⟨rfl, rfl⟩, ⟨rfl, rfl⟩, ⟨ival (by first | rfl | omega), rfl⟩, trivial⟩, ⟨_, _, rfl, (S.tk 2 0 rfl rfl), (Rd.le_trans L80 (Rd.le_refl rd78)), (by omega), (by rw [hT, wrongT_step hz84, if_neg (by unfold mostT; first | (split <;> omega) | omega), show prevO s.tallies k = none by unfold prevO; rw [if_pos (by omega)], if_neg (by simp), prevO_succ, hz84])⟩, ?_⟩
     show _ < _; dsimp only; omega
    refine l_g (d' := 104) (v := .bool false) S (y_ltF rfl rfl h95) rfl rfl ?_
    refine l_y (v := .bool false) S (y_pT rfl rfl) ?_
    refine l_nil ?_
    refine n_seq ?_
    refine e_cF rfl ?_
    refine e_skip ?_
    refine n_seq ?_
    refine e_blk ?_
    refine e_seq ?_
    refine e_reg ?_
    refine l_y (v := pa g91 1) S (y_fb FA106_1 rfl rfl) ?_
    refine l_y (v := ni z83.author) S (y_ld rfl (fun w S => ld_b1 (i := 2) S rfl rfl T3)) ?_
    by_cases h132 : z83.author < 0
    ·
     refine l_y (v := .bool true) S (y_ltT rfl rfl h132) ?_
     refine l_y (v := .bool true) S (y_mv rfl) ?_
     refine l_s (d' := 121) rfl rfl ?_
     refine l_s (d' := 121) rfl rfl ?_
     refine l_s (d' := 121) rfl rfl ?_
     refine l_s (d' := 121) rfl rfl ?_
     refine l_y (v := .bool true) S (y_pT rfl rfl) ?_
     refine l_y (v := .bool true) S (y_mv rfl) ?_
     refine l_s (d' := 127) rfl rfl ?_
     refine l_s (d' := 127) rfl rfl ?_
     refine l_s (d' := 127) rfl rfl ?_
     refine l_y (v := .bool true) S (y_pT rfl rfl) ?_
     refine l_y (v := .bool true) S (y_mv rfl) ?_
     refine l_s (d' := 132) rfl rfl ?_
     refine l_s (d' := 132) rfl rfl ?_
     refine l_s (d' := 132) rfl rfl ?_
     refine l_y (v := .bool true) S (y_pT rfl rfl) ?_
     refine l_y (v := .bool true) S (y_mv rfl) ?_
     refine l_s (d' := 137) rfl rfl ?_
     refine l_s (d' := 137) rfl rfl ?_
     refine l_s (d' := 137) rfl rfl ?_
     refine l_s (d' := 137) rfl rfl ?_
     refine l_s (d' := 137) rfl rfl ?_
     refine l_y (v := .bool true) S (y_pT rfl rfl) ?_
     refine l_y (v := .bool true) S (y_mv rfl) ?_
     refine l_s (d' := 144) rfl rfl ?_
     refine l_s (d' := 144) rfl rfl ?_
     refine l_s (d' := 144) rfl rfl ?_
     refine l_s (d' := 144) rfl rfl ?_
     refine l_y (v := .bool true) S (y_pT rfl rfl) ?_
     refine l_y (v := .bool true) S (y_mv rfl) ?_
     refine l_s (d' := 150) rfl rfl ?_
     refine l_s (d' := 150) rfl rfl ?_
     refine l_s (d' := 150) rfl rfl ?_
     refine l_y (v := .bool true) S (y_pT rfl rfl) ?_
     refine l_y (v := .bool true) S (y_as rfl) ?_
     refine l_nil ?_
     refine n_seq ?_
     refine e_cT rfl ?_
     refine e_seq ?_
     refine e_reg ?_
     refine l_y (v := ni (k : Int)) S (y_mv rfl) ?_
     refine l_y (v := .agg #[ni 3, ni (k : Int)]) S (y_bd (ps := [(0, ni 3), (1, ni (k : Int))]) rfl (fun _ => by kernel_rfl)) ?_
     refine l_st (u := .agg #[ni 3, ni (k : Int)]) (i := 1) (cs' := #[ni 3, ni (k : Int)]) S rfl rfl rfl SZ84 rfl rfl rfl fun w133 S => ?_
     refine l_nil ?_
     refine n_seq ?_
     refine e_ret ?_
     refine ret1 (v := .agg #[ni 3, ni (k : Int)]) rfl ⟨_, rfl, ld_bA (i := 1) (vs := [ni 3, ni (k : Int)]) S rfl T84 rfl rfl⟩ ?_
     refine ⟨rfault (wrongS_T hC hL0 (hT.trans ?_)), S.below⟩
     rw [wrongT_step hz84]
     rw [if_pos (by unfold mostT; first | (split <;> omega) | omega)]
    refine l_y (v := .bool false) S (y_ltF rfl rfl h132) ?_
    refine l_y (v := .bool false) S (y_mv rfl) ?_
    refine l_g (d' := 121) (v := pa g91 1) S (y_fb FA106_1 rfl rfl) rfl rfl ?_
    refine l_g (d' := 121) (v := ni z83.author) S (y_ld rfl (fun w S => ld_b1 (i := 2) S rfl rfl T3)) rfl rfl ?_
    refine l_g (d' := 121) (v := ni n) S (y_mv rfl) rfl rfl ?_
    by_cases h134 : n ≤ z83.author
    ·
     refine l_g (d' := 121) (v := .bool true) S (y_geT rfl rfl h134) rfl rfl ?_
     refine l_y (v := .bool true) S (y_pF rfl rfl) ?_
     refine l_y (v := .bool true) S (y_mv rfl) ?_
     refine l_s (d' := 127) rfl rfl ?_
     refine l_s (d' := 127) rfl rfl ?_
     refine l_s (d' := 127) rfl rfl ?_
     refine l_y (v := .bool true) S (y_pT rfl rfl) ?_
     refine l_y (v := .bool true) S (y_mv rfl) ?_
     refine l_s (d' := 132) rfl rfl ?_
     refine l_s (d' := 132) rfl rfl ?_
     refine l_s (d' := 132) rfl rfl ?_
     refine l_y (v := .bool true) S (y_pT rfl rfl) ?_
     refine l_y (v := .bool true) S (y_mv rfl) ?_
     refine l_s (d' := 137) rfl rfl ?_
     refine l_s (d' := 137) rfl rfl ?_
     refine l_s (d' := 137) rfl rfl ?_
     refine l_s (d' := 137) rfl rfl ?_
     refine l_s (d' := 137) rfl rfl ?_
     refine l_y (v := .bool true) S (y_pT rfl rfl) ?_
     refine l_y (v := .bool true) S (y_mv rfl) ?_
     refine l_s (d' := 144) rfl rfl ?_
     refine l_s (d' := 144) rfl rfl ?_
     refine l_s (d' := 144) rfl rfl ?_
     refine l_s (d' := 144) rfl rfl ?_
     refine l_y (v := .bool true) S (y_pT rfl rfl) ?_
     refine l_y (v := .bool true) S (y_mv rfl) ?_
     refine l_s (d' := 150) rfl rfl ?_
     refine l_s (d' := 150) rfl rfl ?_
     refine l_s (d' := 150) rfl rfl ?_
     refine l_y (v := .bool true) S (y_pT rfl rfl) ?_
     refine l_y (v := .bool true) S (y_as rfl) ?_
     refine l_nil ?_
     refine n_seq ?_
     refine e_cT rfl ?_
     refine e_seq ?_
     refine e_reg ?_
     refine l_y (v := ni (k : Int)) S (y_mv rfl) ?_
     refine l_y (v := .agg #[ni 3, ni (k : Int)]) S (y_bd (ps := [(0, ni 3), (1, ni (k : Int))]) rfl (fun _ => by kernel_rfl)) ?_
     refine l_st (u := .agg #[ni 3, ni (k : Int)]) (i := 1) (cs' := #[ni 3, ni (k : Int)]) S rfl rfl rfl SZ84 rfl rfl rfl fun w135 S => ?_
     refine l_nil ?_
     refine n_seq ?_
     refine e_ret ?_
     refine ret1 (v := .agg #[ni 3, ni (k : Int)]) rfl ⟨_, rfl, ld_bA (i := 1) (vs := [ni 3, ni (k : Int)]) S rfl T84 rfl rfl⟩ ?_
     refine ⟨rfault (wrongS_T hC hL0 (hT.trans ?_)), S.below⟩
     rw [wrongT_step hz84]
     rw [if_pos (by unfold mostT; first | (split <;> omega) | omega)]
    refine l_g (d' := 121) (v := .bool false) S (y_geF rfl rfl h134) rfl rfl ?_
    refine l_y (v := .bool false) S (y_pF rfl rfl) ?_
    refine l_y (v := .bool false) S (y_mv rfl) ?_
    refine l_g (d' := 127) (v := pa g91 0) S (y_fb FA106_0 rfl rfl) rfl rfl ?_
    refine l_g (d' := 127) (v := ni z83.key) S (y_ld rfl (fun w S => ld_b1 (i := 2) S rfl rfl T3)) rfl rfl ?_
    by_cases h136 : z83.key < 0
    ·
     refine l_g (d' := 127) (v := .bool true) S (y_ltT rfl rfl h136) rfl rfl ?_
     refine l_y (v := .bool true) S (y_pF rfl rfl) ?_
     refine l_y (v := .bool true) S (y_mv rfl) ?_
     refine l_s (d' := 132) rfl rfl ?_
     refine l_s (d' := 132) rfl rfl ?_
     refine l_s (d' := 132) rfl rfl ?_
     refine l_y (v := .bool true) S (y_pT rfl rfl) ?_
     refine l_y (v := .bool true) S (y_mv rfl) ?_
     refine l_s (d' := 137) rfl rfl ?_
     refine l_s (d' := 137) rfl rfl ?_
     refine l_s (d' := 137) rfl rfl ?_
     refine l_s (d' := 137) rfl rfl ?_
     refine l_s (d' := 137) rfl rfl ?_
     refine l_y (v := .bool true) S (y_pT rfl rfl) ?_
     refine l_y (v := .bool true) S (y_mv rfl) ?_
     refine l_s (d' := 144) rfl rfl ?_
     refine l_s (d' := 144) rfl rfl ?_
     refine l_s (d' := 144) rfl rfl ?_
     refine l_s (d' := 144) rfl rfl ?_
     refine l_y (v := .bool true) S (y_pT rfl rfl) ?_
     refine l_y (v := .bool true) S (y_mv rfl) ?_
     refine l_s (d' := 150) rfl rfl ?_
     refine l_s (d' := 150) rfl rfl ?_
     refine l_s (d' := 150) rfl rfl ?_
     refine l_y (v := .bool true) S (y_pT rfl rfl) ?_
     refine l_y (v := .bool true) S (y_as rfl) ?_
     refine l_nil ?_
     refine n_seq ?_
     refine e_cT rfl ?_
     refine e_seq ?_
     refine e_reg ?_
     refine l_y (v := ni (k : Int)) S (y_mv rfl) ?_
     refine l_y (v := .agg #[ni 3, ni (k : Int)]) S (y_bd (ps := [(0, ni 3), (1, ni (k : Int))]) rfl (fun _ => by kernel_rfl)) ?_
     refine l_st (u := .agg #[ni 3, ni (k : Int)]) (i := 1) (cs' := #[ni 3, ni (k : Int)]) S rfl rfl rfl SZ84 rfl rfl rfl fun w137 S => ?_
     refine l_nil ?_
     refine n_seq ?_
     refine e_ret ?_
     refine ret1 (v := .agg #[ni 3, ni (k : Int)]) rfl ⟨_, rfl, ld_bA (i := 1) (vs := [ni 3, ni (k : Int)]) S rfl T84 rfl rfl⟩ ?_
     refine ⟨rfault (wrongS_T hC hL0 (hT.trans ?_)), S.below⟩
     rw [wrongT_step hz84]
     rw [if_pos (by unfold mostT; first | (split <;> omega) | omega)]
    refine l_g (d' := 127) (v := .bool false) S (y_ltF rfl rfl h136) rfl rfl ?_
    refine l_y (v := .bool false) S (y_pF rfl rfl) ?_
    refine l_y (v := .bool false) S (y_mv rfl) ?_
    refine l_g (d' := 132) (v := pa g91 0) S (y_fb FA106_0 rfl rfl) rfl rfl ?_
    refine l_g (d' := 132) (v := ni z83.key) S (y_ld rfl (fun w S => ld_b1 (i := 2) S rfl rfl T3)) rfl rfl ?_
    by_cases h138 : 15 < z83.key
    ·
     refine l_g (d' := 132) (v := .bool true) S (y_gtT rfl rfl h138) rfl rfl ?_
     refine l_y (v := .bool true) S (y_pF rfl rfl) ?_
     refine l_y (v := .bool true) S (y_mv rfl) ?_
     refine l_s (d' := 137) rfl rfl ?_
     refine l_s (d' := 137) rfl rfl ?_
     refine l_s (d' := 137) rfl rfl ?_
     refine l_s (d' := 137) rfl rfl ?_
     refine l_s (d' := 137) rfl rfl ?_
     refine l_y (v := .bool true) S (y_pT rfl rfl) ?_
     refine l_y (v := .bool true) S (y_mv rfl) ?_
     refine l_s (d' := 144) rfl rfl ?_
     refine l_s (d' := 144) rfl rfl ?_
     refine l_s (d' := 144) rfl rfl ?_
     refine l_s (d' := 144) rfl rfl ?_
     refine l_y (v := .bool true) S (y_pT rfl rfl) ?_
     refine l_y (v := .bool true) S (y_mv rfl) ?_
     refine l_s (d' := 150) rfl rfl ?_
     refine l_s (d' := 150) rfl rfl ?_
     refine l_s (d' := 150) rfl rfl ?_
     refine l_y (v := .bool true) S (y_pT rfl rfl) ?_
     refine l_y (v := .bool true) S (y_as rfl) ?_
     refine l_nil ?_
     refine n_seq ?_
     refine e_cT rfl ?_
     refine e_seq ?_
     refine e_reg ?_
     refine l_y (v := ni (k : Int)) S (y_mv rfl) ?_
     refine l_y (v := .agg #[ni 3, ni (k : Int)]) S (y_bd (ps := [(0, ni 3), (1, ni (k : Int))]) rfl (fun _ => by kernel_rfl)) ?_
     refine l_st (u := .agg #[ni 3, ni (k : Int)]) (i := 1) (cs' := #[ni 3, ni (k : Int)]) S rfl rfl rfl SZ84 rfl rfl rfl fun w139 S => ?_
     refine l_nil ?_
     refine n_seq ?_
     refine e_ret ?_
     refine ret1 (v := .agg #[ni 3, ni (k : Int)]) rfl ⟨_, rfl, ld_bA (i := 1) (vs := [ni 3, ni (k : Int)]) S rfl T84 rfl rfl⟩ ?_
     refine ⟨rfault (wrongS_T hC hL0 (hT.trans ?_)), S.below⟩
     rw [wrongT_step hz84]
     rw [if_pos (by unfold mostT; first | (split <;> omega) | omega)]
    refine l_g (d' := 132) (v := .bool false) S (y_gtF rfl rfl h138) rfl rfl ?_
    refine l_y (v := .bool false) S (y_pF rfl rfl) ?_
    refine l_y (v := .bool false) S (y_mv rfl) ?_
    refine l_g (d' := 137) (v := pa g91 2) S (y_fb FA106_2 rfl rfl) rfl rfl ?_
    refine l_g (d' := 137) (v := ni z83.sum) S (y_ld rfl (fun w S => ld_b1 (i := 2) S rfl rfl T3)) rfl rfl ?_
    refine l_g (d' := 137) (v := ni 0) S (y_mv rfl) rfl rfl ?_
    refine l_g (d' := 137) (v := ni (-0)) S (y_neg (r := (-0)) rfl (rfl)) rfl rfl ?_
    by_cases h140 : z83.sum < (-0)
    ·
     refine l_g (d' := 137) (v := .bool true) S (y_ltT rfl rfl h140) rfl rfl ?_
     refine l_y (v := .bool true) S (y_pF rfl rfl) ?_
     refine l_y (v := .bool true) S (y_mv rfl) ?_
     refine l_s (d' := 144) rfl rfl ?_
     refine l_s (d' := 144) rfl rfl ?_
     refine l_s (d' := 144) rfl rfl ?_
     refine l_s (d' := 144) rfl rfl ?_
     refine l_y (v := .bool true) S (y_pT rfl rfl) ?_
     refine l_y (v := .bool true) S (y_mv rfl) ?_
     refine l_s (d' := 150) rfl rfl ?_
     refine l_s (d' := 150) rfl rfl ?_
     refine l_s (d' := 150) rfl rfl ?_
     refine l_y (v := .bool true) S (y_pT rfl rfl) ?_
     refine l_y (v := .bool true) S (y_as rfl) ?_
     refine l_nil ?_
     refine n_seq ?_
     refine e_cT rfl ?_
     refine e_seq ?_
     refine e_reg ?_
     refine l_y (v := ni (k : Int)) S (y_mv rfl) ?_
     refine l_y (v := .agg #[ni 3, ni (k : Int)]) S (y_bd (ps := [(0, ni 3), (1, ni (k : Int))]) rfl (fun _ => by kernel_rfl)) ?_
     refine l_st (u := .agg #[ni 3, ni (k : Int)]) (i := 1) (cs' := #[ni 3, ni (k : Int)]) S rfl rfl rfl SZ84 rfl rfl rfl fun w141 S => ?_
     refine l_nil ?_
     refine n_seq ?_
     refine e_ret ?_
     refine ret1 (v := .agg #[ni 3, ni (k : Int)]) rfl ⟨_, rfl, ld_bA (i := 1) (vs := [ni 3, ni (k : Int)]) S rfl T84 rfl rfl⟩ ?_
     refine ⟨rfault (wrongS_T hC hL0 (hT.trans ?_)), S.below⟩
     rw [wrongT_step hz84]
     rw [if_pos (by unfold mostT; first | (split <;> omega) | omega)]
    refine l_g (d' := 137) (v := .bool false) S (y_ltF rfl rfl h140) rfl rfl ?_
    refine l_y (v := .bool false) S (y_pF rfl rfl) ?_
    refine l_y (v := .bool false) S (y_mv rfl) ?_
    refine l_g (d' := 144) (v := pa g91 2) S (y_fb FA106_2 rfl rfl) rfl rfl ?_
    refine l_g (d' := 144) (v := ni z83.sum) S (y_ld rfl (fun w S => ld_b1 (i := 2) S rfl rfl T3)) rfl rfl ?_
    refine l_g (d' := 144) (v := ni 0) S (y_mv rfl) rfl rfl ?_
    by_cases h142 : 0 < z83.sum
    ·
     refine l_g (d' := 144) (v := .bool true) S (y_gtT rfl rfl h142) rfl rfl ?_
     refine l_y (v := .bool true) S (y_pF rfl rfl) ?_
     refine l_y (v := .bool true) S (y_mv rfl) ?_
     refine l_s (d' := 150) rfl rfl ?_
     refine l_s (d' := 150) rfl rfl ?_
     refine l_s (d' := 150) rfl rfl ?_
     refine l_y (v := .bool true) S (y_pT rfl rfl) ?_
     refine l_y (v := .bool true) S (y_as rfl) ?_
     refine l_nil ?_
     refine n_seq ?_
     refine e_cT rfl ?_
     refine e_seq ?_
     refine e_reg ?_
     refine l_y (v := ni (k : Int)) S (y_mv rfl) ?_
     refine l_y (v := .agg #[ni 3, ni (k : Int)]) S (y_bd (ps := [(0, ni 3), (1, ni (k : Int))]) rfl (fun _ => by kernel_rfl)) ?_
     refine l_st (u := .agg #[ni 3, ni (k : Int)]) (i := 1) (cs' := #[ni 3, ni (k : Int)]) S rfl rfl rfl SZ84 rfl rfl rfl fun w143 S => ?_
     refine l_nil ?_
     refine n_seq ?_
     refine e_ret ?_
     refine ret1 (v := .agg #[ni 3, ni (k : Int)]) rfl ⟨_, rfl, ld_bA (i := 1) (vs := [ni 3, ni (k : Int)]) S rfl T84 rfl rfl⟩ ?_
     refine ⟨rfault (wrongS_T hC hL0 (hT.trans ?_)), S.below⟩
     rw [wrongT_step hz84]
     rw [if_pos (by unfold mostT; first | (split <;> omega) | omega)]
    refine l_g (d' := 144) (v := .bool false) S (y_gtF rfl rfl h142) rfl rfl ?_
    refine l_y (v := .bool false) S (y_pF rfl rfl) ?_
    refine l_y (v := .bool false) S (y_mv rfl) ?_
    refine l_g (d' := 150) (v := pa g91 2) S (y_fb FA106_2 rfl rfl) rfl rfl ?_
    refine l_g (d' := 150) (v := ni z83.sum) S (y_ld rfl (fun w S => ld_b1 (i := 2) S rfl rfl T3)) rfl rfl ?_
    by_cases h144 : z83.sum = 0
    ·
     refine l_g (d' := 150) (v := .bool true) S (y_eqT rfl rfl h144) rfl rfl ?_
     refine l_y (v := .bool true) S (y_pF rfl rfl) ?_
     refine l_y (v := .bool true) S (y_as rfl) ?_
     refine l_nil ?_
     refine n_seq ?_
     refine e_cT rfl ?_
     refine e_seq ?_
     refine e_reg ?_
     refine l_y (v := ni (k : Int)) S (y_mv rfl) ?_
     refine l_y (v := .agg #[ni 3, ni (k : Int)]) S (y_bd (ps := [(0, ni 3), (1, ni (k : Int))]) rfl (fun _ => by kernel_rfl)) ?_
     refine l_st (u := .agg #[ni 3, ni (k : Int)]) (i := 1) (cs' := #[ni 3, ni (k : Int)]) S rfl rfl rfl SZ84 rfl rfl rfl fun w145 S => ?_
     refine l_nil ?_
     refine n_seq ?_
     refine e_ret ?_
     refine ret1 (v := .agg #[ni 3, ni (k : Int)]) rfl ⟨_, rfl, ld_bA (i := 1) (vs := [ni 3, ni (k : Int)]) S rfl T84 rfl rfl⟩ ?_
     refine ⟨rfault (wrongS_T hC hL0 (hT.trans ?_)), S.below⟩
     rw [wrongT_step hz84]
     rw [if_pos (by unfold mostT; first | (split <;> omega) | omega)]
    refine l_g (d' := 150) (v := .bool false) S (y_eqF rfl rfl h144) rfl rfl ?_
    refine l_y (v := .bool false) S (y_pF rfl rfl) ?_
    refine l_y (v := .bool false) S (y_as rfl) ?_
    refine l_nil ?_
    refine n_seq ?_
    refine e_cF rfl ?_
    refine e_seq ?_
    refine e_q MX (by kernel_rfl) S.drew ?_
    refine q_y (v := ni (k : Int)) (y_mv rfl) ?_
    by_cases h146 : 0 < (k : Int)
    ·
     refine q_y (v := .bool true) (y_gtT rfl rfl h146) ?_
     refine q_y (v := .bool true) (y_mv rfl) ?_
     refine q_g (d' := 160) (v := pa g17 2) (y_fb FA27_2 rfl rfl) rfl rfl ?_
     refine q_g (d' := 160) (v := .slice A14 s.tallies.length c15) (y_ld rfl (fun w S => ld_b1 (i := 0) S rfl rfl T25)) rfl rfl ?_
     refine q_g (d' := 160) (v := ni (k : Int)) (y_mv rfl) rfl rfl ?_
     refine q_g (d' := 160) (v := ni ((k : Int) - 1)) (y_sub (r := (k : Int) - 1) rfl rfl (w64 (by omega) (by omega))) rfl rfl ?_
     obtain ⟨z147, hz148⟩ : ∃ z, (s.tallies)[(k - 1)]? = some z := nth_of (by first | assumption | omega)
     obtain ⟨p149, vs150, E151, nn152, r153, Y154⟩ := y_ia U25 SZ106 h7 hz148
     clear nn152
     have r153e : vs150 = [ni z147.key, ni z147.author, ni z147.sum] := r153; subst r153e; clear r153
     refine q_g (d' := 160) (v := p149) (Y154 rfl rfl (by first | rfl | omega)) rfl rfl ?_
     refine q_g (d' := 160) (v := .agg #[ni z147.key, ni z147.author, ni z147.sum]) (y_ld rfl (fun w S => ld_pA (us := [ni z147.key, ni z147.author, ni z147.sum]) S.le E151 T106 rfl rfl)) rfl rfl ?_
     refine q_g (d' := 160) (v := .agg #[ni z83.key, ni z83.author, ni z83.sum]) (y_ld rfl (fun w S => ld_bA (vs := [ni z83.key, ni z83.author, ni z83.sum]) (i := 2) S rfl T106 rfl rfl)) rfl rfl ?_
     refine q_cg (d' := 160) (v := ni (ordT z147 z83)) (en_f (vs := [.agg #[ni z147.key, ni z147.author, ni z147.sum], .agg #[ni z83.key, ni z83.author, ni z83.sum]]) (CF 87 _) rfl rfl) rfl rfl (fun w S => (Tally_c _ _ S.le _ _ _ _ (⟨_, rfl, rfl⟩ : AggR TallyR rd78 _ z147) (⟨_, rfl, rfl⟩ : AggR TallyR rd78 _ z83)).mono (by rintro e w' ⟨rfl, k⟩; exact ⟨rfl, (S.callq k)⟩)) ?_
     by_cases h155 : 0 ≤ ordT z147 z83
     ·
      refine q_g (d' := 160) (v := .bool true) (y_geT rfl rfl h155) rfl rfl ?_
      refine q_y (v := .bool true) (y_pT rfl rfl) ?_
      refine q_y (v := .bool true) (y_as rfl) ?_
      refine q_nil fun w156 S => ?_
      refine n_seq ?_
      refine e_cT rfl ?_
      refine e_seq ?_
      refine e_reg ?_
      refine l_y (v := ni (k : Int)) S (y_mv rfl) ?_
      refine l_y (v := .agg #[ni 2, ni (k : Int)]) S (y_bd (ps := [(0, ni 2), (1, ni (k : Int))]) rfl (fun _ => by kernel_rfl)) ?_
      refine l_st (u := .agg #[ni 2, ni (k : Int)]) (i := 1) (cs' := #[ni 2, ni (k : Int)]) S rfl rfl rfl SZ84 rfl rfl rfl fun w157 S => ?_
      refine l_nil ?_
      refine n_seq ?_
      refine e_ret ?_
      refine ret1 (v := .agg #[ni 2, ni (k : Int)]) rfl ⟨_, rfl, ld_bA (i := 1) (vs := [ni 2, ni (k : Int)]) S rfl T84 rfl rfl⟩ ?_
      refine ⟨rfault (wrongS_T hC hL0 (hT.trans ?_)), S.below⟩
      rw [wrongT_step hz84]
      rw [if_neg (by unfold mostT; first | (split <;> omega) | omega), prevO_pos (by omega) hz148, if_pos (decide_eq_true (by omega))]
     refine q_g (d' := 160) (v := .bool false) (y_geF rfl rfl h155) rfl rfl ?_
     refine q_y (v := .bool false) (y_pT rfl rfl) ?_
     refine q_y (v := .bool false) (y_as rfl) ?_
     refine q_nil fun w158 S => ?_
     refine n_seq ?_
     refine e_cF rfl ?_
     refine e_skip ?_
     refine n_blk ?_
     refine n_blk ?_
     refine n_seq ?_
     refine e_reg ?_
     refine l_y (v := ni ((k : Int) + 1)) S (y_add (r := (k : Int) + 1) rfl rfl (w64 (by omega) (by omega))) ?_
     refine l_y (v := ni ((k : Int) + 1)) S (y_mv rfl) ?_
     refine l_nil ?_
     refine n_lp ⟨(k + 1), _, fr_keep (m := [(1, ni n), (2, pa g17 0), (4, pa g19 0), (94, .slice A14 s.tallies.length c15), (95, ni (s.tallies.length : Int)), (96, ni ((k + 1 : Nat) : Int))]) ⟨⟨rfl, rfl⟩, ⟨rfl, rfl⟩, ⟨rfl, rfl⟩, ⟨rfl, rfl⟩, ⟨rfl, rfl⟩, ⟨ival (by first | rfl | omega), rfl⟩, trivial⟩, ⟨_, _, rfl, (S.tk 2 0 rfl rfl), (Rd.le_trans L80 (Rd.le_refl rd78)), (by omega), (by rw [hT, wrongT_step hz84, if_neg (by unfold mostT; first | (split <;> omega) | omega), prevO_pos (by omega) hz148, if_neg (by simp; omega), prevO_succ, hz84])⟩, ?_⟩
     show _ < _; dsimp only; omega
    refine q_y (v := .bool false) (y_gtF rfl rfl h146) ?_
    refine q_y (v := .bool false) (y_mv rfl) ?_
    refine q_s (d' := 160) rfl rfl ?_
    refine q_s (d' := 160) rfl rfl ?_
    refine q_s (d' := 160) rfl rfl ?_
    refine q_s (d' := 160) rfl rfl ?_
    refine q_s (d' := 160) rfl rfl ?_
    refine q_s (d' := 160) rfl rfl ?_
    refine q_s (d' := 160) rfl rfl ?_
    refine q_s (d' := 160) rfl rfl ?_
    refine q_s (d' := 160) rfl rfl ?_
    refine q_y (v := .bool false) (y_pF rfl rfl) ?_
    refine q_y (v := .bool false) (y_as rfl) ?_
    refine q_nil fun w159 S => ?_
    refine n_seq ?_
    refine e_cF rfl ?_
    refine e_skip ?_
    refine n_blk ?_
    refine n_blk ?_
    refine n_seq ?_
    refine e_reg ?_
    refine l_y (v := ni ((k : Int) + 1)) S (y_add (r := (k : Int) + 1) rfl rfl (w64 (by omega) (by omega))) ?_
    refine l_y (v := ni ((k : Int) + 1)) S (y_mv rfl) ?_
    refine l_nil ?_
    refine n_lp ⟨(k + 1), _, fr_keep (m := [(1, ni n), (2, pa g17 0), (4, pa g19 0), (94, .slice A14 s.tallies.length c15), (95, ni (s.tallies.length : Int)), (96, ni ((k + 1 : Nat) : Int))]) ⟨⟨rfl, rfl⟩, ⟨rfl, rfl⟩, ⟨rfl, rfl⟩, ⟨rfl, rfl⟩, ⟨rfl, rfl⟩, ⟨ival (by first | rfl | omega), rfl⟩, trivial⟩, ⟨_, _, rfl, (S.tk 2 0 rfl rfl), (Rd.le_trans L80 (Rd.le_refl rd78)), (by omega), (by rw [hT, wrongT_step hz84, if_neg (by unfold mostT; first | (split <;> omega) | omega), show prevO s.tallies k = none by unfold prevO; rw [if_pos (by omega)], if_neg (by simp), prevO_succ, hz84])⟩, ?_⟩
    show _ < _; dsimp only; omega
   refine l_y (v := .bool false) S (y_geF rfl rfl h94) ?_
   refine l_y (v := .bool false) S (y_mv rfl) ?_
   refine l_s (d' := 104) rfl rfl ?_
   refine l_s (d' := 104) rfl rfl ?_
   refine l_s (d' := 104) rfl rfl ?_
   refine l_s (d' := 104) rfl rfl ?_
   refine l_y (v := .bool false) S (y_pF rfl rfl) ?_
   refine l_nil ?_
   refine n_seq ?_
   refine e_cF rfl ?_
   refine e_skip ?_
   refine n_seq ?_
   refine e_blk ?_
   refine e_seq ?_
   refine e_reg ?_
   refine l_y (v := pa g91 1) S (y_fb FA106_1 rfl rfl) ?_
   refine l_y (v := ni z83.author) S (y_ld rfl (fun w S => ld_b1 (i := 2) S rfl rfl T3)) ?_
   by_cases h160 : z83.author < 0
   ·
    refine l_y (v := .bool true) S (y_ltT rfl rfl h160) ?_
    refine l_y (v := .bool true) S (y_mv rfl) ?_
    refine l_s (d' := 121) rfl rfl ?_
    refine l_s (d' := 121) rfl rfl ?_
    refine l_s (d' := 121) rfl rfl ?_
    refine l_s (d' := 121) rfl rfl ?_
    refine l_y (v := .bool true) S (y_pT rfl rfl) ?_
    refine l_y (v := .bool true) S (y_mv rfl) ?_
    refine l_s (d' := 127) rfl rfl ?_
    refine l_s (d' := 127) rfl rfl ?_
    refine l_s (d' := 127) rfl rfl ?_
    refine l_y (v := .bool true) S (y_pT rfl rfl) ?_
    refine l_y (v := .bool true) S (y_mv rfl) ?_
    refine l_s (d' := 132) rfl rfl ?_
    refine l_s (d' := 132) rfl rfl ?_
    refine l_s (d' := 132) rfl rfl ?_
    refine l_y (v := .bool true) S (y_pT rfl rfl) ?_
    refine l_y (v := .bool true) S (y_mv rfl) ?_
    refine l_s (d' := 137) rfl rfl ?_
    refine l_s (d' := 137) rfl rfl ?_
    refine l_s (d' := 137) rfl rfl ?_
    refine l_s (d' := 137) rfl rfl ?_
    refine l_s (d' := 137) rfl rfl ?_
    refine l_y (v := .bool true) S (y_pT rfl rfl) ?_
    refine l_y (v := .bool true) S (y_mv rfl) ?_
    refine l_s (d' := 144) rfl rfl ?_
    refine l_s (d' := 144) rfl rfl ?_
    refine l_s (d' := 144) rfl rfl ?_
    refine l_s (d' := 144) rfl rfl ?_
    refine l_y (v := .bool true) S (y_pT rfl rfl) ?_
    refine l_y (v := .bool true) S (y_mv rfl) ?_
    refine l_s (d' := 150) rfl rfl ?_
    refine l_s (d' := 150) rfl rfl ?_
    refine l_s (d' := 150) rfl rfl ?_
    refine l_y (v := .bool true) S (y_pT rfl rfl) ?_
    refine l_y (v := .bool true) S (y_as rfl) ?_
    refine l_nil ?_
    refine n_seq ?_
    refine e_cT rfl ?_
    refine e_seq ?_
    refine e_reg ?_
    refine l_y (v := ni (k : Int)) S (y_mv rfl) ?_
    refine l_y (v := .agg #[ni 3, ni (k : Int)]) S (y_bd (ps := [(0, ni 3), (1, ni (k : Int))]) rfl (fun _ => by kernel_rfl)) ?_
    refine l_st (u := .agg #[ni 3, ni (k : Int)]) (i := 1) (cs' := #[ni 3, ni (k : Int)]) S rfl rfl rfl SZ84 rfl rfl rfl fun w161 S => ?_
    refine l_nil ?_
    refine n_seq ?_
    refine e_ret ?_
    refine ret1 (v := .agg #[ni 3, ni (k : Int)]) rfl ⟨_, rfl, ld_bA (i := 1) (vs := [ni 3, ni (k : Int)]) S rfl T84 rfl rfl⟩ ?_
    refine ⟨rfault (wrongS_T hC hL0 (hT.trans ?_)), S.below⟩
    rw [wrongT_step hz84]
    rw [if_pos (by unfold mostT; first | (split <;> omega) | omega)]
   refine l_y (v := .bool false) S (y_ltF rfl rfl h160) ?_
   refine l_y (v := .bool false) S (y_mv rfl) ?_
   refine l_g (d' := 121) (v := pa g91 1) S (y_fb FA106_1 rfl rfl) rfl rfl ?_
   refine l_g (d' := 121) (v := ni z83.author) S (y_ld rfl (fun w S => ld_b1 (i := 2) S rfl rfl T3)) rfl rfl ?_
   refine l_g (d' := 121) (v := ni n) S (y_mv rfl) rfl rfl ?_
   by_cases h162 : n ≤ z83.author
   ·
    refine l_g (d' := 121) (v := .bool true) S (y_geT rfl rfl h162) rfl rfl ?_
    refine l_y (v := .bool true) S (y_pF rfl rfl) ?_
    refine l_y (v := .bool true) S (y_mv rfl) ?_
    refine l_s (d' := 127) rfl rfl ?_
    refine l_s (d' := 127) rfl rfl ?_
    refine l_s (d' := 127) rfl rfl ?_
    refine l_y (v := .bool true) S (y_pT rfl rfl) ?_
    refine l_y (v := .bool true) S (y_mv rfl) ?_
    refine l_s (d' := 132) rfl rfl ?_
    refine l_s (d' := 132) rfl rfl ?_
    refine l_s (d' := 132) rfl rfl ?_
    refine l_y (v := .bool true) S (y_pT rfl rfl) ?_
    refine l_y (v := .bool true) S (y_mv rfl) ?_
    refine l_s (d' := 137) rfl rfl ?_
    refine l_s (d' := 137) rfl rfl ?_
    refine l_s (d' := 137) rfl rfl ?_
    refine l_s (d' := 137) rfl rfl ?_
    refine l_s (d' := 137) rfl rfl ?_
    refine l_y (v := .bool true) S (y_pT rfl rfl) ?_
    refine l_y (v := .bool true) S (y_mv rfl) ?_
    refine l_s (d' := 144) rfl rfl ?_
    refine l_s (d' := 144) rfl rfl ?_
    refine l_s (d' := 144) rfl rfl ?_
    refine l_s (d' := 144) rfl rfl ?_
    refine l_y (v := .bool true) S (y_pT rfl rfl) ?_
    refine l_y (v := .bool true) S (y_mv rfl) ?_
    refine l_s (d' := 150) rfl rfl ?_
    refine l_s (d' := 150) rfl rfl ?_
    refine l_s (d' := 150) rfl rfl ?_
    refine l_y (v := .bool true) S (y_pT rfl rfl) ?_
    refine l_y (v := .bool true) S (y_as rfl) ?_
    refine l_nil ?_
    refine n_seq ?_
    refine e_cT rfl ?_
    refine e_seq ?_
    refine e_reg ?_
    refine l_y (v := ni (k : Int)) S (y_mv rfl) ?_
    refine l_y (v := .agg #[ni 3, ni (k : Int)]) S (y_bd (ps := [(0, ni 3), (1, ni (k : Int))]) rfl (fun _ => by kernel_rfl)) ?_
    refine l_st (u := .agg #[ni 3, ni (k : Int)]) (i := 1) (cs' := #[ni 3, ni (k : Int)]) S rfl rfl rfl SZ84 rfl rfl rfl fun w163 S => ?_
    refine l_nil ?_
    refine n_seq ?_
    refine e_ret ?_
    refine ret1 (v := .agg #[ni 3, ni (k : Int)]) rfl ⟨_, rfl, ld_bA (i := 1) (vs := [ni 3, ni (k : Int)]) S rfl T84 rfl rfl⟩ ?_
    refine ⟨rfault (wrongS_T hC hL0 (hT.trans ?_)), S.below⟩
    rw [wrongT_step hz84]
    rw [if_pos (by unfold mostT; first | (split <;> omega) | omega)]
   refine l_g (d' := 121) (v := .bool false) S (y_geF rfl rfl h162) rfl rfl ?_
   refine l_y (v := .bool false) S (y_pF rfl rfl) ?_
   refine l_y (v := .bool false) S (y_mv rfl) ?_
   refine l_g (d' := 127) (v := pa g91 0) S (y_fb FA106_0 rfl rfl) rfl rfl ?_
   refine l_g (d' := 127) (v := ni z83.key) S (y_ld rfl (fun w S => ld_b1 (i := 2) S rfl rfl T3)) rfl rfl ?_
   by_cases h164 : z83.key < 0
   ·
    refine l_g (d' := 127) (v := .bool true) S (y_ltT rfl rfl h164) rfl rfl ?_
    refine l_y (v := .bool true) S (y_pF rfl rfl) ?_
    refine l_y (v := .bool true) S (y_mv rfl) ?_
    refine l_s (d' := 132) rfl rfl ?_
    refine l_s (d' := 132) rfl rfl ?_
    refine l_s (d' := 132) rfl rfl ?_
    refine l_y (v := .bool true) S (y_pT rfl rfl) ?_
    refine l_y (v := .bool true) S (y_mv rfl) ?_
    refine l_s (d' := 137) rfl rfl ?_
    refine l_s (d' := 137) rfl rfl ?_
    refine l_s (d' := 137) rfl rfl ?_
    refine l_s (d' := 137) rfl rfl ?_
    refine l_s (d' := 137) rfl rfl ?_
    refine l_y (v := .bool true) S (y_pT rfl rfl) ?_
    refine l_y (v := .bool true) S (y_mv rfl) ?_
    refine l_s (d' := 144) rfl rfl ?_
    refine l_s (d' := 144) rfl rfl ?_
    refine l_s (d' := 144) rfl rfl ?_
    refine l_s (d' := 144) rfl rfl ?_
    refine l_y (v := .bool true) S (y_pT rfl rfl) ?_
    refine l_y (v := .bool true) S (y_mv rfl) ?_
    refine l_s (d' := 150) rfl rfl ?_
    refine l_s (d' := 150) rfl rfl ?_
    refine l_s (d' := 150) rfl rfl ?_
    refine l_y (v := .bool true) S (y_pT rfl rfl) ?_
    refine l_y (v := .bool true) S (y_as rfl) ?_
    refine l_nil ?_
    refine n_seq ?_
    refine e_cT rfl ?_
    refine e_seq ?_
    refine e_reg ?_
    refine l_y (v := ni (k : Int)) S (y_mv rfl) ?_
    refine l_y (v := .agg #[ni 3, ni (k : Int)]) S (y_bd (ps := [(0, ni 3), (1, ni (k : Int))]) rfl (fun _ => by kernel_rfl)) ?_
    refine l_st (u := .agg #[ni 3, ni (k : Int)]) (i := 1) (cs' := #[ni 3, ni (k : Int)]) S rfl rfl rfl SZ84 rfl rfl rfl fun w165 S => ?_
    refine l_nil ?_
    refine n_seq ?_
    refine e_ret ?_
    refine ret1 (v := .agg #[ni 3, ni (k : Int)]) rfl ⟨_, rfl, ld_bA (i := 1) (vs := [ni 3, ni (k : Int)]) S rfl T84 rfl rfl⟩ ?_
    refine ⟨rfault (wrongS_T hC hL0 (hT.trans ?_)), S.below⟩
    rw [wrongT_step hz84]
    rw [if_pos (by unfold mostT; first | (split <;> omega) | omega)]
   refine l_g (d' := 127) (v := .bool false) S (y_ltF rfl rfl h164) rfl rfl ?_
   refine l_y (v := .bool false) S (y_pF rfl rfl) ?_
   refine l_y (v := .bool false) S (y_mv rfl) ?_
   refine l_g (d' := 132) (v := pa g91 0) S (y_fb FA106_0 rfl rfl) rfl rfl ?_
   refine l_g (d' := 132) (v := ni z83.key) S (y_ld rfl (fun w S => ld_b1 (i := 2) S rfl rfl T3)) rfl rfl ?_
   by_cases h166 : 15 < z83.key
   ·
    refine l_g (d' := 132) (v := .bool true) S (y_gtT rfl rfl h166) rfl rfl ?_
    refine l_y (v := .bool true) S (y_pF rfl rfl) ?_
    refine l_y (v := .bool true) S (y_mv rfl) ?_
    refine l_s (d' := 137) rfl rfl ?_
    refine l_s (d' := 137) rfl rfl ?_
    refine l_s (d' := 137) rfl rfl ?_
    refine l_s (d' := 137) rfl rfl ?_
    refine l_s (d' := 137) rfl rfl ?_
    refine l_y (v := .bool true) S (y_pT rfl rfl) ?_
    refine l_y (v := .bool true) S (y_mv rfl) ?_
    refine l_s (d' := 144) rfl rfl ?_
    refine l_s (d' := 144) rfl rfl ?_
    refine l_s (d' := 144) rfl rfl ?_
    refine l_s (d' := 144) rfl rfl ?_
    refine l_y (v := .bool true) S (y_pT rfl rfl) ?_
    refine l_y (v := .bool true) S (y_mv rfl) ?_
    refine l_s (d' := 150) rfl rfl ?_
    refine l_s (d' := 150) rfl rfl ?_
    refine l_s (d' := 150) rfl rfl ?_
    refine l_y (v := .bool true) S (y_pT rfl rfl) ?_
    refine l_y (v := .bool true) S (y_as rfl) ?_
    refine l_nil ?_
    refine n_seq ?_
    refine e_cT rfl ?_
    refine e_seq ?_
    refine e_reg ?_
    refine l_y (v := ni (k : Int)) S (y_mv rfl) ?_
    refine l_y (v := .agg #[ni 3, ni (k : Int)]) S (y_bd (ps := [(0, ni 3), (1, ni (k : Int))]) rfl (fun _ => by kernel_rfl)) ?_
    refine l_st (u := .agg #[ni 3, ni (k : Int)]) (i := 1) (cs' := #[ni 3, ni (k : Int)]) S rfl rfl rfl SZ84 rfl rfl rfl fun w167 S => ?_
    refine l_nil ?_
    refine n_seq ?_
    refine e_ret ?_
    refine ret1 (v := .agg #[ni 3, ni (k : Int)]) rfl ⟨_, rfl, ld_bA (i := 1) (vs := [ni 3, ni (k : Int)]) S rfl T84 rfl rfl⟩ ?_
    refine ⟨rfault (wrongS_T hC hL0 (hT.trans ?_)), S.below⟩
    rw [wrongT_step hz84]
    rw [if_pos (by unfold mostT; first | (split <;> omega) | omega)]
   refine l_g (d' := 132) (v := .bool false) S (y_gtF rfl rfl h166) rfl rfl ?_
   refine l_y (v := .bool false) S (y_pF rfl rfl) ?_
   refine l_y (v := .bool false) S (y_mv rfl) ?_
   refine l_g (d' := 137) (v := pa g91 2) S (y_fb FA106_2 rfl rfl) rfl rfl ?_
   refine l_g (d' := 137) (v := ni z83.sum) S (y_ld rfl (fun w S => ld_b1 (i := 2) S rfl rfl T3)) rfl rfl ?_
   refine l_g (d' := 137) (v := ni 0) S (y_mv rfl) rfl rfl ?_
   refine l_g (d' := 137) (v := ni (-0)) S (y_neg (r := (-0)) rfl (rfl)) rfl rfl ?_
   by_cases h168 : z83.sum < (-0)
   ·
    refine l_g (d' := 137) (v := .bool true) S (y_ltT rfl rfl h168) rfl rfl ?_
    refine l_y (v := .bool true) S (y_pF rfl rfl) ?_
    refine l_y (v := .bool true) S (y_mv rfl) ?_
    refine l_s (d' := 144) rfl rfl ?_
    refine l_s (d' := 144) rfl rfl ?_
    refine l_s (d' := 144) rfl rfl ?_
    refine l_s (d' := 144) rfl rfl ?_
    refine l_y (v := .bool true) S (y_pT rfl rfl) ?_
    refine l_y (v := .bool true) S (y_mv rfl) ?_
    refine l_s (d' := 150) rfl rfl ?_
    refine l_s (d' := 150) rfl rfl ?_
    refine l_s (d' := 150) rfl rfl ?_
    refine l_y (v := .bool true) S (y_pT rfl rfl) ?_
    refine l_y (v := .bool true) S (y_as rfl) ?_
    refine l_nil ?_
    refine n_seq ?_
    refine e_cT rfl ?_
    refine e_seq ?_
    refine e_reg ?_
    refine l_y (v := ni (k : Int)) S (y_mv rfl) ?_
    refine l_y (v := .agg #[ni 3, ni (k : Int)]) S (y_bd (ps := [(0, ni 3), (1, ni (k : Int))]) rfl (fun _ => by kernel_rfl)) ?_
    refine l_st (u := .agg #[ni 3, ni (k : Int)]) (i := 1) (cs' := #[ni 3, ni (k : Int)]) S rfl rfl rfl SZ84 rfl rfl rfl fun w169 S => ?_
    refine l_nil ?_
    refine n_seq ?_
    refine e_ret ?_
    refine ret1 (v := .agg #[ni 3, ni (k : Int)]) rfl ⟨_, rfl, ld_bA (i := 1) (vs := [ni 3, ni (k : Int)]) S rfl T84 rfl rfl⟩ ?_
    refine ⟨rfault (wrongS_T hC hL0 (hT.trans ?_)), S.below⟩
    rw [wrongT_step hz84]
    rw [if_pos (by unfold mostT; first | (split <;> omega) | omega)]
   refine l_g (d' := 137) (v := .bool false) S (y_ltF rfl rfl h168) rfl rfl ?_
   refine l_y (v := .bool false) S (y_pF rfl rfl) ?_
   refine l_y (v := .bool false) S (y_mv rfl) ?_
   refine l_g (d' := 144) (v := pa g91 2) S (y_fb FA106_2 rfl rfl) rfl rfl ?_
   refine l_g (d' := 144) (v := ni z83.sum) S (y_ld rfl (fun w S => ld_b1 (i := 2) S rfl rfl T3)) rfl rfl ?_
   refine l_g (d' := 144) (v := ni 0) S (y_mv rfl) rfl rfl ?_
   by_cases h170 : 0 < z83.sum
   ·
    refine l_g (d' := 144) (v := .bool true) S (y_gtT rfl rfl h170) rfl rfl ?_
    refine l_y (v := .bool true) S (y_pF rfl rfl) ?_
    refine l_y (v := .bool true) S (y_mv rfl) ?_
    refine l_s (d' := 150) rfl rfl ?_
    refine l_s (d' := 150) rfl rfl ?_
    refine l_s (d' := 150) rfl rfl ?_
    refine l_y (v := .bool true) S (y_pT rfl rfl) ?_
    refine l_y (v := .bool true) S (y_as rfl) ?_
    refine l_nil ?_
    refine n_seq ?_
    refine e_cT rfl ?_
    refine e_seq ?_
    refine e_reg ?_
    refine l_y (v := ni (k : Int)) S (y_mv rfl) ?_
    refine l_y (v := .agg #[ni 3, ni (k : Int)]) S (y_bd (ps := [(0, ni 3), (1, ni (k : Int))]) rfl (fun _ => by kernel_rfl)) ?_
    refine l_st (u := .agg #[ni 3, ni (k : Int)]) (i := 1) (cs' := #[ni 3, ni (k : Int)]) S rfl rfl rfl SZ84 rfl rfl rfl fun w171 S => ?_
    refine l_nil ?_
    refine n_seq ?_
    refine e_ret ?_
    refine ret1 (v := .agg #[ni 3, ni (k : Int)]) rfl ⟨_, rfl, ld_bA (i := 1) (vs := [ni 3, ni (k : Int)]) S rfl T84 rfl rfl⟩ ?_
    refine ⟨rfault (wrongS_T hC hL0 (hT.trans ?_)), S.below⟩
    rw [wrongT_step hz84]
    rw [if_pos (by unfold mostT; first | (split <;> omega) | omega)]
   refine l_g (d' := 144) (v := .bool false) S (y_gtF rfl rfl h170) rfl rfl ?_
   refine l_y (v := .bool false) S (y_pF rfl rfl) ?_
   refine l_y (v := .bool false) S (y_mv rfl) ?_
   refine l_g (d' := 150) (v := pa g91 2) S (y_fb FA106_2 rfl rfl) rfl rfl ?_
   refine l_g (d' := 150) (v := ni z83.sum) S (y_ld rfl (fun w S => ld_b1 (i := 2) S rfl rfl T3)) rfl rfl ?_
   by_cases h172 : z83.sum = 0
   ·
    refine l_g (d' := 150) (v := .bool true) S (y_eqT rfl rfl h172) rfl rfl ?_
    refine l_y (v := .bool true) S (y_pF rfl rfl) ?_
    refine l_y (v := .bool true) S (y_as rfl) ?_
    refine l_nil ?_
    refine n_seq ?_
    refine e_cT rfl ?_
    refine e_seq ?_
    refine e_reg ?_
    refine l_y (v := ni (k : Int)) S (y_mv rfl) ?_
    refine l_y (v := .agg #[ni 3, ni (k : Int)]) S (y_bd (ps := [(0, ni 3), (1, ni (k : Int))]) rfl (fun _ => by kernel_rfl)) ?_
    refine l_st (u := .agg #[ni 3, ni (k : Int)]) (i := 1) (cs' := #[ni 3, ni (k : Int)]) S rfl rfl rfl SZ84 rfl rfl rfl fun w173 S => ?_
    refine l_nil ?_
    refine n_seq ?_
    refine e_ret ?_
    refine ret1 (v := .agg #[ni 3, ni (k : Int)]) rfl ⟨_, rfl, ld_bA (i := 1) (vs := [ni 3, ni (k : Int)]) S rfl T84 rfl rfl⟩ ?_
    refine ⟨rfault (wrongS_T hC hL0 (hT.trans ?_)), S.below⟩
    rw [wrongT_step hz84]
    rw [if_pos (by unfold mostT; first | (split <;> omega) | omega)]
   refine l_g (d' := 150) (v := .bool false) S (y_eqF rfl rfl h172) rfl rfl ?_
   refine l_y (v := .bool false) S (y_pF rfl rfl) ?_
   refine l_y (v := .bool false) S (y_as rfl) ?_
   refine l_nil ?_
   refine n_seq ?_
   refine e_cF rfl ?_
   refine e_seq ?_
   refine e_q MX (by kernel_rfl) S.drew ?_
   refine q_y (v := ni (k : Int)) (y_mv rfl) ?_
   by_cases h174 : 0 < (k : Int)
   ·
    refine q_y (v := .bool true) (y_gtT rfl rfl h174) ?_
    refine q_y (v := .bool true) (y_mv rfl) ?_
    refine q_g (d' := 160) (v := pa g17 2) (y_fb FA27_2 rfl rfl) rfl rfl ?_
    refine q_g (d' := 160) (v := .slice A14 s.tallies.length c15) (y_ld rfl (fun w S => ld_b1 (i := 0) S rfl rfl T25)) rfl rfl ?_
    refine q_g (d' := 160) (v := ni (k : Int)) (y_mv rfl) rfl rfl ?_
    refine q_g (d' := 160) (v := ni ((k : Int) - 1)) (y_sub (r := (k : Int) - 1) rfl rfl (w64 (by omega) (by omega))) rfl rfl ?_
    obtain ⟨z175, hz176⟩ : ∃ z, (s.tallies)[(k - 1)]? = some z := nth_of (by first | assumption | omega)
    obtain ⟨p177, vs178, E179, nn180, r181, Y182⟩ := y_ia U25 SZ106 h7 hz176
    clear nn180
    have r181e : vs178 = [ni z175.key, ni z175.author, ni z175.sum] := r181; subst r181e; clear r181
    refine q_g (d' := 160) (v := p177) (Y182 rfl rfl (by first | rfl | omega)) rfl rfl ?_
    refine q_g (d' := 160) (v := .agg #[ni z175.key, ni z175.author, ni z175.sum]) (y_ld rfl (fun w S => ld_pA (us := [ni z175.key, ni z175.author, ni z175.sum]) S.le E179 T106 rfl rfl)) rfl rfl ?_
    refine q_g (d' := 160) (v := .agg #[ni z83.key, ni z83.author, ni z83.sum]) (y_ld rfl (fun w S => ld_bA (vs := [ni z83.key, ni z83.author, ni z83.sum]) (i := 2) S rfl T106 rfl rfl)) rfl rfl ?_
    refine q_cg (d' := 160) (v := ni (ordT z175 z83)) (en_f (vs := [.agg #[ni z175.key, ni z175.author, ni z175.sum], .agg #[ni z83.key, ni z83.author, ni z83.sum]]) (CF 87 _) rfl rfl) rfl rfl (fun w S => (Tally_c _ _ S.le _ _ _ _ (⟨_, rfl, rfl⟩ : AggR TallyR rd78 _ z175) (⟨_, rfl, rfl⟩ : AggR TallyR rd78 _ z83)).mono (by rintro e w' ⟨rfl, k⟩; exact ⟨rfl, (S.callq k)⟩)) ?_
    by_cases h183 : 0 ≤ ordT z175 z83
    ·
     refine q_g (d' := 160) (v := .bool true) (y_geT rfl rfl h183) rfl rfl ?_
     refine q_y (v := .bool true) (y_pT rfl rfl) ?_
     refine q_y (v := .bool true) (y_as rfl) ?_
     refine q_nil fun w184 S => ?_
     refine n_seq ?_
     refine e_cT rfl ?_
     refine e_seq ?_
     refine e_reg ?_
     refine l_y (v := ni (k : Int)) S (y_mv rfl) ?_
     refine l_y (v := .agg #[ni 2, ni (k : Int)]) S (y_bd (ps := [(0, ni 2), (1, ni (k : Int))]) rfl (fun _ => by kernel_rfl)) ?_
     refine l_st (u := .agg #[ni 2, ni (k : Int)]) (i := 1) (cs' := #[ni 2, ni (k : Int)]) S rfl rfl rfl SZ84 rfl rfl rfl fun w185 S => ?_
     refine l_nil ?_
     refine n_seq ?_
     refine e_ret ?_
     refine ret1 (v := .agg #[ni 2, ni (k : Int)]) rfl ⟨_, rfl, ld_bA (i := 1) (vs := [ni 2, ni (k : Int)]) S rfl T84 rfl rfl⟩ ?_
     refine ⟨rfault (wrongS_T hC hL0 (hT.trans ?_)), S.below⟩
     rw [wrongT_step hz84]
     rw [if_neg (by unfold mostT; first | (split <;> omega) | omega), prevO_pos (by omega) hz176, if_pos (decide_eq_true (by omega))]
    refine q_g (d' := 160) (v := .bool false) (y_geF rfl rfl h183) rfl rfl ?_
    refine q_y (v := .bool false) (y_pT rfl rfl) ?_
    refine q_y (v := .bool false) (y_as rfl) ?_
    refine q_nil fun w186 S => ?_
    refine n_seq ?_
    refine e_cF rfl ?_
    refine e_skip ?_
    refine n_blk ?_
    refine n_blk ?_
    refine n_seq ?_
    refine e_reg ?_
    refine l_y (v := ni ((k : Int) + 1)) S (y_add (r := (k : Int) + 1) rfl rfl (w64 (by omega) (by omega))) ?_
    refine l_y (v := ni ((k : Int) + 1)) S (y_mv rfl) ?_
    refine l_nil ?_
    refine n_lp ⟨(k + 1), _, fr_keep (m := [(1, ni n), (2, pa g17 0), (4, pa g19 0), (94, .slice A14 s.tallies.length c15), (95, ni (s.tallies.length : Int)), (96, ni ((k + 1 : Nat) : Int))]) ⟨⟨rfl, rfl⟩, ⟨rfl, rfl⟩, ⟨rfl, rfl⟩, ⟨rfl, rfl⟩, ⟨rfl, rfl⟩, ⟨ival (by first | rfl | omega), rfl⟩, trivial⟩, ⟨_, _, rfl, (S.tk 2 0 rfl rfl), (Rd.le_trans L80 (Rd.le_refl rd78)), (by omega), (by rw [hT, wrongT_step hz84, if_neg (by unfold mostT; first | (split <;> omega) | omega), prevO_pos (by omega) hz176, if_neg (by simp; omega), prevO_succ, hz84])⟩, ?_⟩
    show _ < _; dsimp only; omega
   refine q_y (v := .bool false) (y_gtF rfl rfl h174) ?_
   refine q_y (v := .bool false) (y_mv rfl) ?_
   refine q_s (d' := 160) rfl rfl ?_
   refine q_s (d' := 160) rfl rfl ?_
   refine q_s (d' := 160) rfl rfl ?_
   refine q_s (d' := 160) rfl rfl ?_
   refine q_s (d' := 160) rfl rfl ?_
   refine q_s (d' := 160) rfl rfl ?_
   refine q_s (d' := 160) rfl rfl ?_
   refine q_s (d' := 160) rfl rfl ?_
   refine q_s (d' := 160) rfl rfl ?_
   refine q_y (v := .bool false) (y_pF rfl rfl) ?_
   refine q_y (v := .bool false) (y_as rfl) ?_
   refine q_nil fun w187 S => ?_
   refine n_seq ?_
   refine e_cF rfl ?_
   refine e_skip ?_
   refine n_blk ?_
   refine n_blk ?_
   refine n_seq ?_
   refine e_reg ?_
   refine l_y (v := ni ((k : Int) + 1)) S (y_add (r := (k : Int) + 1) rfl rfl (w64 (by omega) (by omega))) ?_
   refine l_y (v := ni ((k : Int) + 1)) S (y_mv rfl) ?_
   refine l_nil ?_
   refine n_lp ⟨(k + 1), _, fr_keep (m := [(1, ni n), (2, pa g17 0), (4, pa g19 0), (94, .slice A14 s.tallies.length c15), (95, ni (s.tallies.length : Int)), (96, ni ((k + 1 : Nat) : Int))]) ⟨⟨rfl, rfl⟩, ⟨rfl, rfl⟩, ⟨rfl, rfl⟩, ⟨rfl, rfl⟩, ⟨rfl, rfl⟩, ⟨ival (by first | rfl | omega), rfl⟩, trivial⟩, ⟨_, _, rfl, (S.tk 2 0 rfl rfl), (Rd.le_trans L80 (Rd.le_refl rd78)), (by omega), (by rw [hT, wrongT_step hz84, if_neg (by unfold mostT; first | (split <;> omega) | omega), show prevO s.tallies k = none by unfold prevO; rw [if_pos (by omega)], if_neg (by simp), prevO_succ, hz84])⟩, ?_⟩
   show _ < _; dsimp only; omega
  refine l_y (v := .bool false) S (y_ltF rfl rfl h82) ?_
  refine l_nil ?_
  refine n_seq ?_
  refine e_seq ?_
  refine e_cF rfl ?_
  refine e_exit ?_
  refine x_seq ?_
  refine x_lp ?_
  refine x_hit ?_
  refine n_seq ?_
  refine e_seq ?_
  refine e_reg ?_
  refine l_y (v := .agg #[ni 0, ni 0]) S (y_bd (ps := []) rfl (fun _ => by kernel_rfl)) ?_
  refine l_st (u := .agg #[ni 0, ni 0]) (i := 1) (cs' := #[ni 0, ni 0]) S rfl rfl rfl SZ84 rfl rfl rfl fun w188 S => ?_
  refine l_nil ?_
  refine n_seq ?_
  refine e_ret ?_
  refine ret1 (v := .agg #[ni 0, ni 0]) rfl ⟨_, rfl, ld_bA (i := 1) (vs := [ni 0, ni 0]) S rfl T84 rfl rfl⟩ ?_
  exact ⟨rfault (wrongS_T hC hL0 (hT.trans (wrongT_end (by omega)))), S.below⟩
 refine l_y (v := .bool true) S (y_neT rfl rfl hC) ?_
 refine l_nil ?_
 refine n_seq ?_
 refine e_cT rfl ?_
 refine e_seq ?_
 refine e_reg ?_
 refine l_y (v := ni (wrongC s.clock n)) S (y_mv rfl) ?_
 refine l_y (v := .agg #[ni (wrongC s.clock n), ni 0]) S (y_bd (ps := [(0, ni (wrongC s.clock n))]) rfl (fun _ => by kernel_rfl)) ?_
 refine l_st (u := .agg #[ni (wrongC s.clock n), ni 0]) (i := 1) (cs' := #[ni (wrongC s.clock n), ni 0]) S rfl rfl rfl SZ84 rfl rfl rfl fun w189 S => ?_
 refine l_nil ?_
 refine n_seq ?_
 refine e_ret ?_
 refine ret1 (v := .agg #[ni (wrongC s.clock n), ni 0]) rfl ⟨_, rfl, ld_bA (i := 1) (vs := [ni (wrongC s.clock n), ni 0]) S rfl T84 rfl rfl⟩ ?_
 exact ⟨rfault (wrongS_C hC), S.below⟩
end Go.Proofs.YtkjknlnhffmkkacGreat
