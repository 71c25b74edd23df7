/- pruneref4.Same. -/
import Derived.Test.YtkjknlnhffmkkacGreatQEqs
import Derived.Test.YtkjknlnhffmkkacGreatQEg
import Derived.Test.YtkjknlnhffmkkacGreatQClock3
namespace Go.Proofs.YtkjknlnhffmkkacGreat
open Go.RowKit
set_option linter.unusedVariables false
def sameS (a b : State) : Bool := decide (a = b)
theorem same_fin {a b : State} (hC : sameL a.clock b.clock = true) (hL : a.lives = b.lives) (hT : a.tallies = b.tallies) : a = b := by
  obtain ⟨c, l, t⟩ := a
  obtain ⟨c', l', t'⟩ := b
  have : c = c' := of_decide_eq_true hC
  dsimp only at hL hT
  rw [this, hL, hT]
set_option maxRecDepth 100000 in
set_option maxHeartbeats 4000000 in
theorem SSame_c (rd : Rd) (W : World) (hle : Rd.le rd (wrd W)) (v v2 : Value) (a b : State) (h : AggR StateR rd v a) (h2 : AggR StateR rd v2 b) :
    Calls Tryz.prog 30 #[v, v2] W (fun e w' => e = .returned (.bool (sameS a b)) ∧ Below W.heap.size W w') := by
 obtain ⟨vs1, he, h⟩ := h; subst he
 obtain ⟨sv2, sv4, sv6, he, h3, h5, h7⟩ := h; subst he
 obtain ⟨A8, c9, rfl, m10, m10'⟩ := h3.val
 obtain ⟨A11, c12, rfl, m13, m13'⟩ := h5.val
 obtain ⟨A14, c15, rfl, m16, m16'⟩ := h7.val
 obtain ⟨vs17, h2e, h2⟩ := h2; subst h2e
 obtain ⟨sv18, sv20, sv22, h2e, h19, h21, h23⟩ := h2; subst h2e
 obtain ⟨A24, c25, rfl, m26, m26'⟩ := h19.val
 obtain ⟨A27, c28, rfl, m29, m29'⟩ := h21.val
 obtain ⟨A30, c31, rfl, m32, m32'⟩ := h23.val
 have hmx : maxLen = 9223372036854775807 := rfl
 have S : St [] W rd rd [] [] W := St.start hle
 refine e_enter (args := [.agg #[.slice A8 a.clock.length c9, .slice A11 a.lives.length c12, .slice A14 a.tallies.length c15], .agg #[.slice A24 b.clock.length c25, .slice A27 b.lives.length c28, .slice A30 b.tallies.length c31]]) 67 Tryz.func30 rfl rfl rfl ?_
 refine e_seq ?_
 refine e_reg ?_
 refine l_bx (u := .agg #[.slice A8 a.clock.length c9, .slice A11 a.lives.length c12, .slice A14 a.tallies.length c15]) (cs := #[.slice A8 a.clock.length c9, .slice A11 a.lives.length c12, .slice A14 a.tallies.length c15]) S rfl rfl fun g33 w34 S => ?_
 refine l_bx (u := .agg #[.slice A24 b.clock.length c25, .slice A27 b.lives.length c28, .slice A30 b.tallies.length c31]) (cs := #[.slice A24 b.clock.length c25, .slice A27 b.lives.length c28, .slice A30 b.tallies.length c31]) S rfl rfl fun g35 w36 S => ?_
 refine l_y (v := .bool false) S (y_as rfl) ?_
 refine l_nil ?_
 refine n_seq ?_
 refine e_seq ?_
 refine e_seq ?_
 refine e_reg ?_
 refine l_y (v := pa g33 0) S (y_fb FA27_0 rfl rfl) ?_
 refine l_y (v := .slice A8 a.clock.length c9) S (y_ld rfl (fun w S => ld_b1 (i := 0) S rfl rfl T23)) ?_
 refine l_y (v := pa g35 0) S (y_fb FA27_0 rfl rfl) ?_
 refine l_y (v := .slice A24 b.clock.length c25) S (y_ld rfl (fun w S => ld_b1 (i := 1) S rfl rfl T23)) ?_
 refine l_c (en_f (vs := [.slice A8 a.clock.length c9, .slice A24 b.clock.length c25]) (CF 16 _) rfl rfl) (Same_calls _ _ _ _ _ (fm h3 S.le) (fm h19 S.le)) ?_
 rintro e w37 ⟨rfl, k⟩
 have S := S.callq k; clear k
 cases hC : sameL a.clock b.clock
 ·
  refine ckd ?_
  refine l_y (v := .bool true) S (y_not rfl rfl) ?_
  refine l_y (v := .bool true) S (y_mv rfl) ?_
  refine l_s (d' := 13) rfl rfl ?_
  refine l_s (d' := 13) rfl rfl ?_
  refine l_s (d' := 13) rfl rfl ?_
  refine l_s (d' := 13) rfl rfl ?_
  refine l_s (d' := 13) rfl rfl ?_
  refine l_s (d' := 13) rfl rfl ?_
  refine l_s (d' := 13) rfl rfl ?_
  refine l_y (v := .bool true) S (y_pT rfl rfl) ?_
  refine l_y (v := .bool true) S (y_mv rfl) ?_
  refine l_s (d' := 22) rfl rfl ?_
  refine l_s (d' := 22) rfl rfl ?_
  refine l_s (d' := 22) rfl rfl ?_
  refine l_s (d' := 22) rfl rfl ?_
  refine l_s (d' := 22) rfl rfl ?_
  refine l_s (d' := 22) rfl rfl ?_
  refine l_s (d' := 22) rfl rfl ?_
  refine l_y (v := .bool true) S (y_pT rfl rfl) ?_
  refine l_nil ?_
  refine n_seq ?_
  refine e_cT rfl ?_
  refine e_seq ?_
  refine e_reg ?_
  refine l_y (v := .bool false) S (y_as rfl) ?_
  refine l_nil ?_
  refine n_seq ?_
  refine e_ret ?_
  refine ret1 (v := .bool false) rfl rfl ?_
  exact ⟨rbool (decide_eq_false (by rintro rfl; first | exact hl1 rfl | exact hl2 rfl | simp_all [sameL])).symm, S.below⟩
 refine ckd ?_
 refine l_y (v := .bool false) S (y_not rfl rfl) ?_
 refine l_y (v := .bool false) S (y_mv rfl) ?_
 refine l_g (d' := 13) (v := pa g33 1) S (y_fb FA27_1 rfl rfl) rfl rfl ?_
 refine l_g (d' := 13) (v := .slice A11 a.lives.length c12) S (y_ld rfl (fun w S => ld_b1 (i := 0) S rfl rfl T24)) rfl rfl ?_
 refine l_g (d' := 13) (v := ni (a.lives.length : Int)) S (y_len U24 rfl rfl) rfl rfl ?_
 refine l_g (d' := 13) (v := pa g35 1) S (y_fb FA27_1 rfl rfl) rfl rfl ?_
 refine l_g (d' := 13) (v := .slice A27 b.lives.length c28) S (y_ld rfl (fun w S => ld_b1 (i := 1) S rfl rfl T24)) rfl rfl ?_
 refine l_g (d' := 13) (v := ni (b.lives.length : Int)) S (y_len U24 rfl rfl) rfl rfl ?_
 by_cases hl1 : (a.lives.length : Int) = (b.lives.length : Int)
 ·
  refine l_g (d' := 13) (v := .bool false) S (y_neF rfl rfl hl1) rfl rfl ?_
  refine l_y (v := .bool false) S (y_pF rfl rfl) ?_
  refine l_y (v := .bool false) S (y_mv rfl) ?_
  refine l_g (d' := 22) (v := pa g33 2) S (y_fb FA27_2 rfl rfl) rfl rfl ?_
  refine l_g (d' := 22) (v := .slice A14 a.tallies.length c15) S (y_ld rfl (fun w S => ld_b1 (i := 0) S rfl rfl T25)) rfl rfl ?_
  refine l_g (d' := 22) (v := ni (a.tallies.length : Int)) S (y_len U25 rfl rfl) rfl rfl ?_
  refine l_g (d' := 22) (v := pa g35 2) S (y_fb FA27_2 rfl rfl) rfl rfl ?_
  refine l_g (d' := 22) (v := .slice A30 b.tallies.length c31) S (y_ld rfl (fun w S => ld_b1 (i := 1) S rfl rfl T25)) rfl rfl ?_
  refine l_g (d' := 22) (v := ni (b.tallies.length : Int)) S (y_len U25 rfl rfl) rfl rfl ?_
  by_cases hl2 : (a.tallies.length : Int) = (b.tallies.length : Int)
  ·
   refine l_g (d' := 22) (v := .bool false) S (y_neF rfl rfl hl2) rfl rfl ?_
   refine l_y (v := .bool false) S (y_pF rfl rfl) ?_
   refine l_nil ?_
   refine n_seq ?_
   refine e_cF rfl ?_
   refine e_skip ?_
   refine n_seq ?_
   refine e_seq ?_
   refine e_seq ?_
   refine e_reg ?_
   refine l_y (v := pa g33 1) S (y_fb FA27_1 rfl rfl) ?_
   refine l_y (v := .slice A11 a.lives.length c12) S (y_ld rfl (fun w S => ld_b1 (i := 0) S rfl rfl T24)) ?_
   refine l_y (v := ni (a.lives.length : Int)) S (y_len U24 rfl rfl) ?_
   refine l_y (v := ni 0) S (y_mv rfl) ?_
   refine l_nil ?_
   refine n_seq ?_
   refine e_blk ?_
   refine e_trim [(2, pa g33 0), (3, pa g35 0), (33, ni (a.lives.length : Int)), (34, ni (0 : Int))] ⟨⟨rfl, rfl⟩, ⟨rfl, rfl⟩, ⟨rfl, rfl⟩, ⟨ival (by first | rfl | omega), rfl⟩, trivial⟩ (fun junk => ?_)
   refine e_loop (fun (gh_ : Nat) ov w => match gh_ with | k => ∃ rd' junk, ov = [(2, pa g33 0), (3, pa g35 0), (33, ni (a.lives.length : Int)), (34, ni (k : Int))] ++ junk ∧ St [] W rd rd' [(g33, 27, #[.slice A8 a.clock.length c9, .slice A11 a.lives.length c12, .slice A14 a.tallies.length c15]), (g35, 27, #[.slice A24 b.clock.length c25, .slice A27 b.lives.length c28, .slice A30 b.tallies.length c31])] [] w ∧ Rd.le rd rd' ∧ k ≤ a.lives.length ∧ a.lives.take k = b.lives.take k) (fun gh_ => match gh_ with | k => a.lives.length - k) 0 ⟨_, junk, rfl, (S.rw' rfl rfl), (Rd.le_refl _), (by omega), rfl⟩ ?_
   rintro k ov41 w39 ⟨rd38, junk, rfl, S, L40, hk, hE0⟩
   replace h3 := fm h3 L40
   replace h5 := fm h5 L40
   replace h7 := fm h7 L40
   replace h19 := fm h19 L40
   replace h21 := fm h21 L40
   replace h23 := fm h23 L40
   refine e_seq ?_
   refine e_reg ?_
   by_cases h42 : (k : Int) < (a.lives.length : Int)
   ·
    refine l_y (v := .bool true) S (y_ltT rfl rfl h42) ?_
    refine l_nil ?_
    refine n_seq ?_
    refine e_seq ?_
    refine e_cT rfl ?_
    refine e_skip ?_
    refine n_seq ?_
    refine e_seq ?_
    refine e_blk ?_
    refine e_seq ?_
    refine e_reg ?_
    refine l_y (v := ni (k : Int)) S (y_mv rfl) ?_
    refine l_y (v := ni (k : Int)) S (y_as rfl) ?_
    refine l_nil ?_
    refine n_seq ?_
    refine e_seq ?_
    refine e_q MX (by kernel_rfl) S.drew ?_
    refine q_y (v := pa g33 1) (y_fb FA27_1 rfl rfl) ?_
    refine q_y (v := .slice A11 a.lives.length c12) (y_ld rfl (fun w S => ld_b1 (i := 0) S rfl rfl T24)) ?_
    refine q_y (v := ni (k : Int)) (y_mv rfl) ?_
    obtain ⟨z43, hz44⟩ : ∃ z, (a.lives)[k]? = some z := nth_of (by first | assumption | omega)
    obtain ⟨p45, vs46, E47, nn48, r49, Y50⟩ := y_ia U24 SZ104 h5 hz44
    clear nn48
    have r49e : vs46 = [.bool z43.set, ni z43.key, ni z43.item, ni z43.author, ni z43.seq] := r49; subst r49e; clear r49
    refine q_y (v := p45) (Y50 rfl rfl (by first | rfl | omega)) ?_
    refine q_y (v := .agg #[.bool z43.set, ni z43.key, ni z43.item, ni z43.author, ni z43.seq]) (y_ld rfl (fun w S => ld_pA (us := [.bool z43.set, ni z43.key, ni z43.item, ni z43.author, ni z43.seq]) S.le E47 T104 rfl rfl)) ?_
    refine q_y (v := pa g35 1) (y_fb FA27_1 rfl rfl) ?_
    refine q_y (v := .slice A27 b.lives.length c28) (y_ld rfl (fun w S => ld_b1 (i := 1) S rfl rfl T24)) ?_
    refine q_y (v := ni (k : Int)) (y_mv rfl) ?_
    obtain ⟨z51, hz52⟩ : ∃ z, (b.lives)[k]? = some z := nth_of (by first | assumption | omega)
    obtain ⟨p53, vs54, E55, nn56, r57, Y58⟩ := y_ia U24 SZ104 h21 hz52
    clear nn56
    have r57e : vs54 = [.bool z51.set, ni z51.key, ni z51.item, ni z51.author, ni z51.seq] := r57; subst r57e; clear r57
    refine q_y (v := p53) (Y58 rfl rfl (by first | rfl | omega)) ?_
    refine q_y (v := .agg #[.bool z51.set, ni z51.key, ni z51.item, ni z51.author, ni z51.seq]) (y_ld rfl (fun w S => ld_pA (us := [.bool z51.set, ni z51.key, ni z51.item, ni z51.author, ni z51.seq]) S.le E55 T104 rfl rfl)) ?_
    by_cases hne0 : z43 = z51
    ·
     refine q_y (v := .bool false) (y_eqa (fun _ _ _ => by kernel_rfl) (fun w => Live_neF w hne0) rfl rfl) ?_
     refine q_nil fun w59 S => ?_
     refine n_seq ?_
     refine e_cF rfl ?_
     refine e_skip ?_
     refine n_blk ?_
     refine n_seq ?_
     refine e_reg ?_
     refine l_y (v := ni ((k : Int) + 1)) S (y_add (r := (k : Int) + 1) rfl rfl (w64 (by omega) (by omega))) ?_
     refine l_y (v := ni ((k : Int) + 1)) S (y_mv rfl) ?_
     refine l_nil ?_
     refine n_lp ⟨(k + 1), _, fr_keep (m := [(2, pa g33 0), (3, pa g35 0), (33, ni (a.lives.length : Int)), (34, ni ((k + 1 : Nat) : Int))]) ⟨⟨rfl, rfl⟩, ⟨rfl, rfl⟩, ⟨rfl, rfl⟩, ⟨ival (by first | rfl | omega), rfl⟩, trivial⟩, ⟨_, _, rfl, (S.tk 2 0 rfl rfl), (Rd.le_trans L40 (Rd.le_refl rd38)), (by omega), (by rw [take_snoc hz44, take_snoc hz52, hE0, hne0])⟩, ?_⟩
     show _ < _; dsimp only; omega
    refine q_y (v := .bool true) (y_eqa (fun _ _ _ => by kernel_rfl) (fun w => Live_neT w hne0) rfl rfl) ?_
    refine q_nil fun w60 S => ?_
    refine n_seq ?_
    refine e_cT rfl ?_
    refine e_seq ?_
    refine e_reg ?_
    refine l_y (v := .bool false) S (y_as rfl) ?_
    refine l_nil ?_
    refine n_seq ?_
    refine e_ret ?_
    refine ret1 (v := .bool false) rfl rfl ?_
    exact ⟨rbool (decide_eq_false (by rintro rfl; first | exact hl1 rfl | exact hl2 rfl | simp_all [sameL])).symm, S.below⟩
   refine l_y (v := .bool false) S (y_ltF rfl rfl h42) ?_
   refine l_nil ?_
   refine n_seq ?_
   refine e_seq ?_
   refine e_cF rfl ?_
   refine e_exit ?_
   refine x_seq ?_
   refine x_lp ?_
   refine x_hit ?_
   refine n_seq ?_
   refine e_seq ?_
   refine e_seq ?_
   refine e_reg ?_
   refine l_y (v := pa g33 2) S (y_fb FA27_2 rfl rfl) ?_
   refine l_y (v := .slice A14 a.tallies.length c15) S (y_ld rfl (fun w S => ld_b1 (i := 0) S rfl rfl T25)) ?_
   refine l_y (v := ni (a.tallies.length : Int)) S (y_len U25 rfl rfl) ?_
   refine l_y (v := ni 0) S (y_mv rfl) ?_
   refine l_nil ?_
   refine n_seq ?_
   refine e_blk ?_
   have hL : a.lives = b.lives := by rwa [List.take_of_length_le (by omega), List.take_of_length_le (by omega)] at hE0
   refine e_trim [(2, pa g33 0), (3, pa g35 0), (51, ni (a.tallies.length : Int)), (52, ni (0 : Int))] ⟨⟨rfl, rfl⟩, ⟨rfl, rfl⟩, ⟨rfl, rfl⟩, ⟨ival (by first | rfl | omega), rfl⟩, trivial⟩ (fun junk => ?_)
   refine e_loop (fun (gh_ : Nat) ov w => match gh_ with | k => ∃ rd' junk, ov = [(2, pa g33 0), (3, pa g35 0), (51, ni (a.tallies.length : Int)), (52, ni (k : Int))] ++ junk ∧ St [] W rd rd' [(g33, 27, #[.slice A8 a.clock.length c9, .slice A11 a.lives.length c12, .slice A14 a.tallies.length c15]), (g35, 27, #[.slice A24 b.clock.length c25, .slice A27 b.lives.length c28, .slice A30 b.tallies.length c31])] [] w ∧ Rd.le rd38 rd' ∧ k ≤ a.tallies.length ∧ a.tallies.take k = b.tallies.take k) (fun gh_ => match gh_ with | k => a.tallies.length - k) 0 ⟨_, junk, rfl, (S.rw' rfl rfl), (Rd.le_refl _), (by omega), rfl⟩ ?_
   rintro k ov64 w62 ⟨rd61, junk, rfl, S, L63, hk, hE1⟩
   replace h3 := fm h3 L63
   replace h5 := fm h5 L63
   replace h7 := fm h7 L63
   replace h19 := fm h19 L63
   replace h21 := fm h21 L63
   replace h23 := fm h23 L63
   refine e_seq ?_
   refine e_reg ?_
   by_cases h65 : (k : Int) < (a.tallies.length : Int)
   ·
    refine l_y (v := .bool true) S (y_ltT rfl rfl h65) ?_
    refine l_nil ?_
    refine n_seq ?_
    refine e_seq ?_
    refine e_cT rfl ?_
    refine e_skip ?_
    refine n_seq ?_
    refine e_seq ?_
    refine e_blk ?_
    refine e_seq ?_
    refine e_reg ?_
    refine l_y (v := ni (k : Int)) S (y_mv rfl) ?_
    refine l_y (v := ni (k : Int)) S (y_as rfl) ?_
    refine l_nil ?_
    refine n_seq ?_
    refine e_seq ?_
    refine e_q MX (by kernel_rfl) S.drew ?_
    refine q_y (v := pa g33 2) (y_fb FA27_2 rfl rfl) ?_
    refine q_y (v := .slice A14 a.tallies.length c15) (y_ld rfl (fun w S => ld_b1 (i := 0) S rfl rfl T25)) ?_
    refine q_y (v := ni (k : Int)) (y_mv rfl) ?_
    obtain ⟨z66, hz67⟩ : ∃ z, (a.tallies)[k]? = some z := nth_of (by first | assumption | omega)
    obtain ⟨p68, vs69, E70, nn71, r72, Y73⟩ := y_ia U25 SZ106 h7 hz67
    clear nn71
    have r72e : vs69 = [ni z66.key, ni z66.author, ni z66.sum] := r72; subst r72e; clear r72
    refine q_y (v := p68) (Y73 rfl rfl (by first | rfl | omega)) ?_
    refine q_y (v := .agg #[ni z66.key, ni z66.author, ni z66.sum]) (y_ld rfl (fun w S => ld_pA (us := [ni z66.key, ni z66.author, ni z66.sum]) S.le E70 T106 rfl rfl)) ?_
    refine q_y (v := pa g35 2) (y_fb FA27_2 rfl rfl) ?_
    refine q_y (v := .slice A30 b.tallies.length c31) (y_ld rfl (fun w S => ld_b1 (i := 1) S rfl rfl T25)) ?_
    refine q_y (v := ni (k : Int)) (y_mv rfl) ?_
    obtain ⟨z74, hz75⟩ : ∃ z, (b.tallies)[k]? = some z := nth_of (by first | assumption | omega)
    obtain ⟨p76, vs77, E78, nn79, r80, Y81⟩ := y_ia U25 SZ106 h23 hz75
    clear nn79
    have r80e : vs77 = [ni z74.key, ni z74.author, ni z74.sum] := r80; subst r80e; clear r80
    refine q_y (v := p76) (Y81 rfl rfl (by first | rfl | omega)) ?_
    refine q_y (v := .agg #[ni z74.key, ni z74.author, ni z74.sum]) (y_ld rfl (fun w S => ld_pA (us := [ni z74.key, ni z74.author, ni z74.sum]) S.le E78 T106 rfl rfl)) ?_
    by_cases hne1 : z66 = z74
    ·
     refine q_y (v := .bool false) (y_eqa (fun _ _ _ => by kernel_rfl) (fun w => Tally_neF w hne1) rfl rfl) ?_
     refine q_nil fun w82 S => ?_
     refine n_seq ?_
     refine e_cF rfl ?_
     refine e_skip ?_
     refine n_blk ?_
     refine n_seq ?_
     refine e_reg ?_
     refine l_y (v := ni ((k : Int) + 1)) S (y_add (r := (k : Int) + 1) rfl rfl (w64 (by omega) (by omega))) ?_
     refine l_y (v := ni ((k : Int) + 1)) S (y_mv rfl) ?_
     refine l_nil ?_
     refine n_lp ⟨(k + 1), _, fr_keep (m := [(2, pa g33 0), (3, pa g35 0), (51, ni (a.tallies.length : Int)), (52, ni ((k + 1 : Nat) : Int))]) ⟨⟨rfl, rfl⟩, ⟨rfl, rfl⟩, ⟨rfl, rfl⟩, ⟨ival (by first | rfl | omega), rfl⟩, trivial⟩, ⟨_, _, rfl, (S.tk 2 0 rfl rfl), (Rd.le_trans L63 (Rd.le_refl rd61)), (by omega), (by rw [take_snoc hz67, take_snoc hz75, hE1, hne1])⟩, ?_⟩
     show _ < _; dsimp only; omega
    refine q_y (v := .bool true) (y_eqa (fun _ _ _ => by kernel_rfl) (fun w => Tally_neT w hne1) rfl rfl) ?_
    refine q_nil fun w83 S => ?_
    refine n_seq ?_
    refine e_cT rfl ?_
    refine e_seq ?_
    refine e_reg ?_
    refine l_y (v := .bool false) S (y_as rfl) ?_
    refine l_nil ?_
    refine n_seq ?_
    refine e_ret ?_
    refine ret1 (v := .bool false) rfl rfl ?_
    exact ⟨rbool (decide_eq_false (by rintro rfl; first | exact hl1 rfl | exact hl2 rfl | simp_all [sameL])).symm, S.below⟩
   refine l_y (v := .bool false) S (y_ltF rfl rfl h65) ?_
   refine l_nil ?_
   refine n_seq ?_
   refine e_seq ?_
   refine e_cF rfl ?_
   refine e_exit ?_
   refine x_seq ?_
   refine x_lp ?_
   refine x_hit ?_
   refine n_seq ?_
   refine e_seq ?_
   refine e_reg ?_
   refine l_y (v := .bool true) S (y_as rfl) ?_
   refine l_nil ?_
   refine n_seq ?_
   refine e_ret ?_
   refine ret1 (v := .bool true) rfl rfl ?_
   exact ⟨rbool (decide_eq_true (same_fin hC hL (by rwa [List.take_of_length_le (by omega), List.take_of_length_le (by omega)] at hE1))).symm, S.below⟩
  refine l_g (d' := 22) (v := .bool true) S (y_neT rfl rfl hl2) rfl rfl ?_
  refine l_y (v := .bool true) S (y_pF rfl rfl) ?_
  refine l_nil ?_
  refine n_seq ?_
  refine e_cT rfl ?_
  refine e_seq ?_
  refine e_reg ?_
  refine l_y (v := .bool false) S (y_as rfl) ?_
  refine l_nil ?_
  refine n_seq ?_
  refine e_ret ?_
  refine ret1 (v := .bool false) rfl rfl ?_
  exact ⟨rbool (decide_eq_false (by rintro rfl; first | exact hl1 rfl | exact hl2 rfl | simp_all [sameL])).symm, S.below⟩
 refine l_g (d' := 13) (v := .bool true) S (y_neT rfl rfl hl1) rfl rfl ?_
 refine l_y (v := .bool true) S (y_pF rfl rfl) ?_
 refine l_y (v := .bool true) S (y_mv rfl) ?_
 refine l_s (d' := 22) rfl rfl ?_
 refine l_s (d' := 22) rfl rfl ?_
 refine l_s (d' := 22) rfl rfl ?_
 refine l_s (d' := 22) rfl rfl ?_
 refine l_s (d' := 22) rfl rfl ?_
 refine l_s (d' := 22) rfl rfl ?_
 refine l_s (d' := 22) rfl rfl ?_
 refine l_y (v := .bool true) S (y_pT rfl rfl) ?_
 refine l_nil ?_
 refine n_seq ?_
 refine e_cT rfl ?_
 refine e_seq ?_
 refine e_reg ?_
 refine l_y (v := .bool false) S (y_as rfl) ?_
 refine l_nil ?_
 refine n_seq ?_
 refine e_ret ?_
 refine ret1 (v := .bool false) rfl rfl ?_
 exact ⟨rbool (decide_eq_false (by rintro rfl; first | exact hl1 rfl | exact hl2 rfl | simp_all [sameL])).symm, S.below⟩
end Go.Proofs.YtkjknlnhffmkkacGreat
