/- node.Wrong. -/
import Derived.Test.YtkjknlnhffmkkacGreatQNodeR
import Derived.Test.YtkjknlnhffmkkacGreatQAdapt
import Derived.Test.YtkjknlnhffmkkacGreatQSt2
import Derived.Test.YtkjknlnhffmkkacGreatQLog
import Derived.Test.YtkjknlnhffmkkacGreatQEg
namespace Go.Proofs.YtkjknlnhffmkkacGreat
open Go.RowKit
set_option linter.unusedVariables false
theorem eq_next {a b : List Int} {k : Nat} {x : Int} (h : a.take k = b.take k) (hx : a[k]? = some x) (hy : b[k]? = some x) : a.take (k + 1) = b.take (k + 1) := by rw [take_snoc hx, take_snoc hy, h]
theorem eq_all {a b : List Int} {k : Nat} (h : a.take k = b.take k) (h1 : a.length ≤ k) (h2 : b.length ≤ k) : a = b := by rwa [List.take_of_length_le h1, List.take_of_length_le h2] at h
theorem eq_not {a b : List Int} {k : Nat} {x y : Int} (hx : a[k]? = some x) (hy : b[k]? = some y) (h : ¬ x = y) : ¬ a = b := fun e => by rw [e, hy] at hx; injection hx with hx; exact h hx.symm
theorem wrongK_step {d : Node} {n : Int} {k : Nat} {l : List (List Int)} {z : List Int} (hz : l[k]? = some z) : wrongK d n k (l.drop k) = if wrongC z n ≠ 0 then wrongC z n else if ((k : Int) = d.self ∧ z ≠ d.state.clock) ∨ seesC d.state.clock z = false then 7 else wrongK d n (k + 1) (l.drop (k + 1)) := by
  obtain ⟨hk, e⟩ := List.getElem?_eq_some_iff.1 hz
  rw [List.drop_eq_getElem_cons hk, e]; rfl
section
variable {d : Node}
theorem wN1 (h : ¬ (wrongS d.state (d.state.clock.length : Int)).1 = 0) : wrongN d = (wrongS d.state (d.state.clock.length : Int)).1 := by unfold wrongN nOf lenI; rw [if_pos h]
theorem wN2 (h : (wrongS d.state (d.state.clock.length : Int)).1 = 0) (h2 : d.self < 0 ∨ (d.state.clock.length : Int) ≤ d.self) : wrongN d = 3 := by unfold wrongN nOf lenI; rw [if_neg (fun k => k h), if_pos h2]
theorem wN3 (h : (wrongS d.state (d.state.clock.length : Int)).1 = 0) (h2 : ¬ (d.self < 0 ∨ (d.state.clock.length : Int) ≤ d.self)) (h3 : ¬ (clockL d.base d.log (d.state.clock.length : Int)).2.1 = 0) : wrongN d = (clockL d.base d.log (d.state.clock.length : Int)).2.1 := by unfold wrongN nOf lenI; rw [if_neg (fun k => k h), if_neg h2, if_pos h3]
theorem wN4 (h : (wrongS d.state (d.state.clock.length : Int)).1 = 0) (h2 : ¬ (d.self < 0 ∨ (d.state.clock.length : Int) ≤ d.self)) (h3 : (clockL d.base d.log (d.state.clock.length : Int)).2.1 = 0) (h4 : ¬ (clockL d.base d.log (d.state.clock.length : Int)).1 = d.state.clock ∨ ¬ (d.known.length : Int) = (d.state.clock.length : Int)) : wrongN d = 7 := by unfold wrongN nOf lenI; rw [if_neg (fun k => k h), if_neg h2, if_neg (fun k => k h3), if_pos h4]
theorem wN5 (h : (wrongS d.state (d.state.clock.length : Int)).1 = 0) (h2 : ¬ (d.self < 0 ∨ (d.state.clock.length : Int) ≤ d.self)) (h3 : (clockL d.base d.log (d.state.clock.length : Int)).2.1 = 0) (h4 : (clockL d.base d.log (d.state.clock.length : Int)).1 = d.state.clock) (h5 : (d.known.length : Int) = (d.state.clock.length : Int)) : wrongN d = wrongK d (d.state.clock.length : Int) 0 d.known := by unfold wrongN nOf lenI; rw [if_neg (fun k => k h), if_neg h2, if_neg (fun k => k h3), if_neg (by rintro (q | q); exact q h4; exact q h5)]
end
set_option maxRecDepth 100000 in
theorem EqualC_c (rd : Rd) (W : World) (hle : Rd.le rd (wrd W)) (v u : Value) (a b : List Int) (h : SliceR 1 IntR rd v a) (h2 : SliceR 1 IntR rd u b) :
    Calls Tryz.prog 50 #[v, u] W (fun e w' => e = .returned (.bool (decide (a = b))) ∧ Below W.heap.size W w') := by
 obtain ⟨A1, c2, rfl, m3, m3'⟩ := h.val
 obtain ⟨A4, c5, rfl, m6, m6'⟩ := h2.val
 have hmx : maxLen = 9223372036854775807 := rfl
 have S : St [] W rd rd [] [] W := St.start hle
 refine e_enter (args := [.slice A1 a.length c2, .slice A4 b.length c5]) 26 Tryz.func50 rfl rfl rfl ?_
 refine e_seq ?_
 refine e_reg ?_
 refine l_y (v := .bool false) S (y_as rfl) ?_
 refine l_nil ?_
 refine n_seq ?_
 refine e_seq ?_
 refine e_seq ?_
 refine e_reg ?_
 refine l_y (v := .slice A1 a.length c2) S (y_mv rfl) ?_
 refine l_y (v := ni (a.length : Int)) S (y_len U23 rfl rfl) ?_
 refine l_y (v := .slice A4 b.length c5) S (y_mv rfl) ?_
 refine l_y (v := ni (b.length : Int)) S (y_len U23 rfl rfl) ?_
 by_cases hl : (a.length : Int) = (b.length : Int)
 ·
  refine l_y (v := .bool false) S (y_neF rfl rfl hl) ?_
  refine l_nil ?_
  refine n_seq ?_
  refine e_cF rfl ?_
  refine e_skip ?_
  refine n_seq ?_
  refine e_seq ?_
  refine e_seq ?_
  refine e_reg ?_
  refine l_y (v := .slice A1 a.length c2) S (y_mv rfl) ?_
  refine l_y (v := ni (a.length : Int)) S (y_len U23 rfl rfl) ?_
  refine l_y (v := ni 0) S (y_mv rfl) ?_
  refine l_nil ?_
  refine n_seq ?_
  refine e_blk ?_
  refine e_trim [(0, .slice A1 a.length c2), (1, .slice A4 b.length c5), (12, ni (a.length : Int)), (13, ni (0 : Int))] ⟨⟨rfl, rfl⟩, ⟨rfl, rfl⟩, ⟨rfl, rfl⟩, ⟨ival (by first | rfl | omega), rfl⟩, trivial⟩ (fun junk => ?_)
  refine e_loop (fun (gh_ : Nat) ov w => match gh_ with | k => ∃ rd' junk, ov = [(0, .slice A1 a.length c2), (1, .slice A4 b.length c5), (12, ni (a.length : Int)), (13, ni (k : Int))] ++ junk ∧ St [] W rd rd' [] [] w ∧ Rd.le rd rd' ∧ k ≤ a.length ∧ a.take k = b.take k) (fun gh_ => match gh_ with | k => a.length - k) 0 ⟨_, junk, rfl, (S.rw' rfl rfl), (Rd.le_refl _), (by omega), rfl⟩ ?_
  rintro k ov10 w8 ⟨rd7, junk, rfl, S, L9, hk, hb⟩
  replace h := fm h L9
  replace h2 := fm h2 L9
  refine e_seq ?_
  refine e_reg ?_
  by_cases h11 : (k : Int) < (a.length : Int)
  ·
   refine l_y (v := .bool true) S (y_ltT rfl rfl h11) ?_
   refine l_nil ?_
   refine n_seq ?_
   refine e_seq ?_
   refine e_cT rfl ?_
   refine e_skip ?_
   refine n_seq ?_
   refine e_seq ?_
   refine e_blk ?_
   refine e_seq ?_
   refine e_reg ?_
   refine l_y (v := ni (k : Int)) S (y_mv rfl) ?_
   refine l_y (v := ni (k : Int)) S (y_as rfl) ?_
   refine l_nil ?_
   refine n_seq ?_
   refine e_seq ?_
   refine e_q MX (by kernel_rfl) S.drew ?_
   refine q_y (v := .slice A1 a.length c2) (y_mv rfl) ?_
   refine q_y (v := ni (k : Int)) (y_mv rfl) ?_
   obtain ⟨z12, hz13⟩ : ∃ z, (a)[k]? = some z := nth_of (by first | assumption | omega)
   obtain ⟨p14, vs15, E16, nn17, r18, Y19⟩ := y_ia U23 SZ3 h hz13
   clear nn17
   have r18 : vs15 = [ni z12] := r18; subst r18
   refine q_y (v := p14) (Y19 rfl rfl (by first | rfl | omega)) ?_
   refine q_y (v := ni z12) (y_ld rfl (fun w S => ld_p1 S.le E16 rfl T3)) ?_
   refine q_y (v := .slice A4 b.length c5) (y_mv rfl) ?_
   refine q_y (v := ni (k : Int)) (y_mv rfl) ?_
   obtain ⟨z20, hz21⟩ : ∃ z, (b)[k]? = some z := nth_of (by first | assumption | omega)
   obtain ⟨p22, vs23, E24, nn25, r26, Y27⟩ := y_ia U23 SZ3 h2 hz21
   clear nn25
   have r26 : vs23 = [ni z20] := r26; subst r26
   refine q_y (v := p22) (Y27 rfl rfl (by first | rfl | omega)) ?_
   refine q_y (v := ni z20) (y_ld rfl (fun w S => ld_p1 S.le E24 rfl T3)) ?_
   by_cases hxy : z12 = z20
   ·
    refine q_y (v := .bool false) (y_neF rfl rfl hxy) ?_
    refine q_nil fun w28 S => ?_
    refine n_seq ?_
    refine e_cF rfl ?_
    refine e_skip ?_
    refine n_blk ?_
    refine n_seq ?_
    refine e_reg ?_
    refine l_y (v := ni ((k : Int) + 1)) S (y_add (r := (k : Int) + 1) rfl rfl (w64 (by omega) (by omega))) ?_
    refine l_y (v := ni ((k : Int) + 1)) S (y_mv rfl) ?_
    refine l_nil ?_
    refine n_lp ⟨(k + 1), _, fr_keep (m := [(0, .slice A1 a.length c2), (1, .slice A4 b.length c5), (12, ni (a.length : Int)), (13, ni ((k + 1 : Nat) : Int))]) ⟨⟨rfl, rfl⟩, ⟨rfl, rfl⟩, ⟨rfl, rfl⟩, ⟨ival (by first | rfl | omega), rfl⟩, trivial⟩, ⟨_, _, rfl, (S.tk 0 0 rfl rfl), (Rd.le_trans L9 (Rd.le_refl rd7)), (by omega), (eq_next hb hz13 (hxy ▸ hz21))⟩, ?_⟩
    show _ < _; dsimp only; omega
   refine q_y (v := .bool true) (y_neT rfl rfl hxy) ?_
   refine q_nil fun w29 S => ?_
   refine n_seq ?_
   refine e_cT rfl ?_
   refine e_seq ?_
   refine e_reg ?_
   refine l_y (v := .bool false) S (y_as rfl) ?_
   refine l_nil ?_
   refine n_seq ?_
   refine e_ret ?_
   refine ret1 (v := .bool false) rfl rfl ?_
   exact ⟨rbool (decide_eq_false (eq_not hz13 hz21 hxy)).symm, S.below⟩
  refine l_y (v := .bool false) S (y_ltF rfl rfl h11) ?_
  refine l_nil ?_
  refine n_seq ?_
  refine e_seq ?_
  refine e_cF rfl ?_
  refine e_exit ?_
  refine x_seq ?_
  refine x_lp ?_
  refine x_hit ?_
  refine n_seq ?_
  refine e_seq ?_
  refine e_reg ?_
  refine l_y (v := .bool true) S (y_as rfl) ?_
  refine l_nil ?_
  refine n_seq ?_
  refine e_ret ?_
  refine ret1 (v := .bool true) rfl rfl ?_
  exact ⟨rbool (decide_eq_true (eq_all hb (by omega) (by omega))).symm, S.below⟩
 refine l_y (v := .bool true) S (y_neT rfl rfl hl) ?_
 refine l_nil ?_
 refine n_seq ?_
 refine e_cT rfl ?_
 refine e_seq ?_
 refine e_reg ?_
 refine l_y (v := .bool false) S (y_as rfl) ?_
 refine l_nil ?_
 refine n_seq ?_
 refine e_ret ?_
 refine ret1 (v := .bool false) rfl rfl ?_
 exact ⟨rbool (decide_eq_false (fun e => hl (by rw [e]))).symm, S.below⟩

set_option maxRecDepth 100000 in
set_option maxHeartbeats 8000000 in
theorem NWrong_c (rd : Rd) (W : World) (hle : Rd.le rd (wrd W)) (v : Value) (d : Node) (h : AggR NodeR rd v d) :
    Calls Tryz.prog 19 #[v] W (fun e w' => e = .returned (.int .i64 (wrongN d)) ∧ Below W.heap.size W w') := by
 obtain ⟨vs1, he, h⟩ := h; subst he
 obtain ⟨sv2, sv4, sv6, sv8, sv10, sv12, he, h3, h5, h7, h9, h11, h13⟩ := h; subst he
 obtain ⟨A14, c15, rfl, m16, m16'⟩ := h3.val
 obtain ⟨A17, c18, rfl, m19, m19'⟩ := h5.val
 obtain ⟨A20, c21, rfl, m22, m22'⟩ := h7.val
 obtain ⟨A23, c24, rfl, m25, m25'⟩ := h9.val
 obtain ⟨A26, c27, rfl, m28, m28'⟩ := h11.val
 obtain ⟨A29, c30, rfl, m31, m31'⟩ := h13.val
 have hmx : maxLen = 9223372036854775807 := rfl
 have S : St [] W rd rd [] [] W := St.start hle
 refine e_enter (args := [.agg #[ni d.self, .slice A14 d.state.clock.length c15, .slice A17 d.state.lives.length c18, .slice A20 d.state.tallies.length c21, .slice A23 d.base.length c24, .slice A26 d.log.length c27, .slice A29 d.known.length c30]]) 94 Tryz.func19 rfl rfl rfl ?_
 refine e_seq ?_
 refine e_reg ?_
 refine l_bx (u := .agg #[ni d.self, .slice A14 d.state.clock.length c15, .slice A17 d.state.lives.length c18, .slice A20 d.state.tallies.length c21, .slice A23 d.base.length c24, .slice A26 d.log.length c27, .slice A29 d.known.length c30]) (cs := #[ni d.self, .slice A14 d.state.clock.length c15, .slice A17 d.state.lives.length c18, .slice A20 d.state.tallies.length c21, .slice A23 d.base.length c24, .slice A26 d.log.length c27, .slice A29 d.known.length c30]) S rfl rfl fun g32 w33 S => ?_
 refine l_y (v := ni 0) S (y_as rfl) ?_
 refine l_nil ?_
 refine n_seq ?_
 refine e_seq ?_
 refine e_reg ?_
 refine l_y (v := pa g32 1) S (y_fb FA31_1 rfl rfl) ?_
 refine l_y (v := pa g32 1) S (y_fb FA27_0 rfl rfl) ?_
 refine l_y (v := .slice A14 d.state.clock.length c15) S (y_ld rfl (fun w S => ld_b1 (i := 0) S rfl rfl T23)) ?_
 refine l_y (v := ni (d.state.clock.length : Int)) S (y_len U23 rfl rfl) ?_
 refine l_y (v := ni (d.state.clock.length : Int)) S (y_as rfl) ?_
 refine l_nil ?_
 refine n_seq ?_
 refine e_seq ?_
 refine e_seq ?_
 refine e_reg ?_
 refine l_y (v := pa g32 1) S (y_fb FA31_1 rfl rfl) ?_
 refine l_y (v := .agg #[.slice A14 d.state.clock.length c15, .slice A17 d.state.lives.length c18, .slice A20 d.state.tallies.length c21]) S (y_ld rfl (fun w S => ld_bA (vs := [.slice A14 d.state.clock.length c15, .slice A17 d.state.lives.length c18, .slice A20 d.state.tallies.length c21]) (i := 0) S rfl T27 rfl rfl)) ?_
 refine l_y (v := ni (d.state.clock.length : Int)) S (y_mv rfl) ?_
 refine l_c (en_f (vs := [.agg #[.slice A14 d.state.clock.length c15, .slice A17 d.state.lives.length c18, .slice A20 d.state.tallies.length c21], ni (d.state.clock.length : Int)]) (CF 48 _) rfl rfl) (SWrong_c _ _ S.le _ d.state (d.state.clock.length : Int) (⟨_, rfl, ⟨_, _, _, rfl, h3, h5, h7⟩⟩ : AggR StateR rd _ d.state)) ?_
 rintro e w34 ⟨rfl, k⟩
 have S := S.callq k; clear k
 refine ckd ?_
 refine l_al (cs := #[ni 0, ni 0]) S Z84 rfl fun g35 w36 S => ?_
 refine l_st (u := .agg #[ni ((wrongS d.state (d.state.clock.length : Int)).1), ni ((wrongS d.state (d.state.clock.length : Int)).2)]) (i := 1) (cs' := #[ni ((wrongS d.state (d.state.clock.length : Int)).1), ni ((wrongS d.state (d.state.clock.length : Int)).2)]) S rfl rfl rfl SZ84 rfl rfl rfl fun w37 S => ?_
 refine l_nil ?_
 refine n_seq ?_
 refine e_seq ?_
 refine e_reg ?_
 refine l_y (v := pa g35 0) S (y_fb FA84_0 rfl rfl) ?_
 refine l_y (v := ni ((wrongS d.state (d.state.clock.length : Int)).1)) S (y_ld rfl (fun w S => ld_b1 (i := 1) S rfl rfl T35)) ?_
 by_cases hS : (wrongS d.state (d.state.clock.length : Int)).1 = 0
 ·
  refine l_y (v := .bool false) S (y_neF rfl rfl hS) ?_
  refine l_nil ?_
  refine n_seq ?_
  refine e_cF rfl ?_
  refine e_skip ?_
  refine n_seq ?_
  refine e_seq ?_
  refine e_seq ?_
  refine e_reg ?_
  refine l_y (v := pa g32 0) S (y_fb FA31_0 rfl rfl) ?_
  refine l_y (v := ni d.self) S (y_ld rfl (fun w S => ld_b1 (i := 0) S rfl rfl T3)) ?_
  by_cases hz : d.self < 0
  ·
   refine l_y (v := .bool true) S (y_ltT rfl rfl hz) ?_
   refine l_y (v := .bool true) S (y_mv rfl) ?_
   refine l_s (d' := 26) rfl rfl ?_
   refine l_s (d' := 26) rfl rfl ?_
   refine l_s (d' := 26) rfl rfl ?_
   refine l_s (d' := 26) rfl rfl ?_
   refine l_y (v := .bool true) S (y_pT rfl rfl) ?_
   refine l_nil ?_
   refine n_seq ?_
   refine e_cT rfl ?_
   refine e_seq ?_
   refine e_reg ?_
   refine l_y (v := ni 3) S (y_as rfl) ?_
   refine l_nil ?_
   refine n_seq ?_
   refine e_ret ?_
   refine ret1 (v := ni 3) rfl rfl ?_
   exact ⟨rint (wN2 hS (by omega)).symm, S.below⟩
  refine l_y (v := .bool false) S (y_ltF rfl rfl hz) ?_
  refine l_y (v := .bool false) S (y_mv rfl) ?_
  refine l_g (d' := 26) (v := pa g32 0) S (y_fb FA31_0 rfl rfl) rfl rfl ?_
  refine l_g (d' := 26) (v := ni d.self) S (y_ld rfl (fun w S => ld_b1 (i := 0) S rfl rfl T3)) rfl rfl ?_
  refine l_g (d' := 26) (v := ni (d.state.clock.length : Int)) S (y_mv rfl) rfl rfl ?_
  by_cases hz1 : (d.state.clock.length : Int) ≤ d.self
  ·
   refine l_g (d' := 26) (v := .bool true) S (y_geT rfl rfl hz1) rfl rfl ?_
   refine l_y (v := .bool true) S (y_pF rfl rfl) ?_
   refine l_nil ?_
   refine n_seq ?_
   refine e_cT rfl ?_
   refine e_seq ?_
   refine e_reg ?_
   refine l_y (v := ni 3) S (y_as rfl) ?_
   refine l_nil ?_
   refine n_seq ?_
   refine e_ret ?_
   refine ret1 (v := ni 3) rfl rfl ?_
   exact ⟨rint (wN2 hS (by omega)).symm, S.below⟩
  refine l_g (d' := 26) (v := .bool false) S (y_geF rfl rfl hz1) rfl rfl ?_
  refine l_y (v := .bool false) S (y_pF rfl rfl) ?_
  refine l_nil ?_
  refine n_seq ?_
  refine e_cF rfl ?_
  refine e_skip ?_
  refine n_seq ?_
  refine e_seq ?_
  refine e_reg ?_
  refine l_y (v := pa g32 4) S (y_fb FA31_2 rfl rfl) ?_
  refine l_y (v := .slice A23 d.base.length c24) S (y_ld rfl (fun w S => ld_b1 (i := 0) S rfl rfl T23)) ?_
  refine l_y (v := pa g32 5) S (y_fb FA31_3 rfl rfl) ?_
  refine l_y (v := .slice A26 d.log.length c27) S (y_ld rfl (fun w S => ld_b1 (i := 0) S rfl rfl T28)) ?_
  refine l_y (v := ni (d.state.clock.length : Int)) S (y_mv rfl) ?_
  refine l_c (en_f (vs := [.slice A23 d.base.length c24, .slice A26 d.log.length c27, ni (d.state.clock.length : Int)]) (CF 49 _) rfl rfl) (Clock_calls _ _ _ _ _ _ (fm h9 S.le) (fm h11 S.le)) ?_
  rintro e w40 ⟨r38, rfl, h39, k⟩
  obtain ⟨rd41, S, L42, N43, X44⟩ := S.call' k; clear k
  replace h3 := fm h3 L42
  replace h5 := fm h5 L42
  replace h7 := fm h7 L42
  replace h9 := fm h9 L42
  replace h11 := fm h11 L42
  replace h13 := fm h13 L42
  have h39 := fm h39 N43
  obtain ⟨A45, c46, rfl, m47, m47'⟩ := h39.val
  refine ckd ?_
  refine l_y (v := .tuple #[.slice A45 (((clockL d.base d.log (d.state.clock.length : Int)).1).length) c46, .agg #[ni ((clockL d.base d.log (d.state.clock.length : Int)).2.1), ni ((clockL d.base d.log (d.state.clock.length : Int)).2.2)]]) S (y_mv rfl) ?_
  refine l_y (v := .slice A45 (((clockL d.base d.log (d.state.clock.length : Int)).1).length) c46) S (y_ex rfl rfl) ?_
  refine l_y (v := .agg #[ni ((clockL d.base d.log (d.state.clock.length : Int)).2.1), ni ((clockL d.base d.log (d.state.clock.length : Int)).2.2)]) S (y_ex rfl rfl) ?_
  refine l_al (cs := #[ni 0, ni 0]) S Z84 rfl fun g48 w49 S => ?_
  refine l_y (v := .slice A45 (((clockL d.base d.log (d.state.clock.length : Int)).1).length) c46) S (y_as rfl) ?_
  refine l_st (u := .agg #[ni ((clockL d.base d.log (d.state.clock.length : Int)).2.1), ni ((clockL d.base d.log (d.state.clock.length : Int)).2.2)]) (i := 2) (cs' := #[ni ((clockL d.base d.log (d.state.clock.length : Int)).2.1), ni ((clockL d.base d.log (d.state.clock.length : Int)).2.2)]) S rfl rfl rfl SZ84 rfl rfl rfl fun w50 S => ?_
  refine l_nil ?_
  refine n_seq ?_
  refine e_seq ?_
  refine e_seq ?_
  refine e_reg ?_
  refine l_y (v := pa g48 0) S (y_fb FA84_0 rfl rfl) ?_
  refine l_y (v := ni ((clockL d.base d.log (d.state.clock.length : Int)).2.1)) S (y_ld rfl (fun w S => ld_b1 (i := 2) S rfl rfl T35)) ?_
  by_cases hC : (clockL d.base d.log (d.state.clock.length : Int)).2.1 = 0
  ·
   refine l_y (v := .bool false) S (y_neF rfl rfl hC) ?_
   refine l_nil ?_
   refine n_seq ?_
   refine e_cF rfl ?_
   refine e_skip ?_
   refine n_seq ?_
   refine e_seq ?_
   refine e_seq ?_
   refine e_reg ?_
   refine l_y (v := .slice A45 (((clockL d.base d.log (d.state.clock.length : Int)).1).length) c46) S (y_mv rfl) ?_
   refine l_y (v := pa g32 1) S (y_fb FA31_1 rfl rfl) ?_
   refine l_y (v := pa g32 1) S (y_fb FA27_0 rfl rfl) ?_
   refine l_y (v := .slice A14 d.state.clock.length c15) S (y_ld rfl (fun w S => ld_b1 (i := 0) S rfl rfl T23)) ?_
   refine l_c (en_f (vs := [.slice A45 (((clockL d.base d.log (d.state.clock.length : Int)).1).length) c46, .slice A14 d.state.clock.length c15]) (CF 50 _) rfl rfl) (EqualC_c _ _ S.le _ _ ((clockL d.base d.log (d.state.clock.length : Int)).1) d.state.clock h39 h3) ?_
   rintro e w51 ⟨rfl, k⟩
   have S := S.callq k; clear k
   cases hE : decide ((clockL d.base d.log (d.state.clock.length : Int)).1 = d.state.clock)
   ·
    refine ckd ?_
    refine l_y (v := .bool true) S (y_not rfl rfl) ?_
    refine l_y (v := .bool true) S (y_mv rfl) ?_
    refine l_s (d' := 52) rfl rfl ?_
    refine l_s (d' := 52) rfl rfl ?_
    refine l_s (d' := 52) rfl rfl ?_
    refine l_s (d' := 52) rfl rfl ?_
    refine l_s (d' := 52) rfl rfl ?_
    refine l_y (v := .bool true) S (y_pT rfl rfl) ?_
    refine l_nil ?_
    refine n_seq ?_
    refine e_cT rfl ?_
    refine e_seq ?_
    refine e_reg ?_
    refine l_y (v := ni 7) S (y_as rfl) ?_
    refine l_nil ?_
    refine n_seq ?_
    refine e_ret ?_
    refine ret1 (v := ni 7) rfl rfl ?_
    exact ⟨rint (wN4 hS (by omega) hC (.inl (of_decide_eq_false hE))).symm, S.below⟩
   refine ckd ?_
   refine l_y (v := .bool false) S (y_not rfl rfl) ?_
   refine l_y (v := .bool false) S (y_mv rfl) ?_
   refine l_g (d' := 52) (v := pa g32 6) S (y_fb FA31_4 rfl rfl) rfl rfl ?_
   refine l_g (d' := 52) (v := .slice A29 d.known.length c30) S (y_ld rfl (fun w S => ld_b1 (i := 0) S rfl rfl T29)) rfl rfl ?_
   refine l_g (d' := 52) (v := ni (d.known.length : Int)) S (y_len U29 rfl rfl) rfl rfl ?_
   refine l_g (d' := 52) (v := ni (d.state.clock.length : Int)) S (y_mv rfl) rfl rfl ?_
   by_cases hkn : (d.known.length : Int) = (d.state.clock.length : Int)
   ·
    refine l_g (d' := 52) (v := .bool false) S (y_neF rfl rfl hkn) rfl rfl ?_
    refine l_y (v := .bool false) S (y_pF rfl rfl) ?_
    refine l_nil ?_
    refine n_seq ?_
    refine e_cF rfl ?_
    refine e_skip ?_
    refine n_seq ?_
    refine e_seq ?_
    refine e_seq ?_
    refine e_reg ?_
    refine l_y (v := pa g32 6) S (y_fb FA31_4 rfl rfl) ?_
    refine l_y (v := .slice A29 d.known.length c30) S (y_ld rfl (fun w S => ld_b1 (i := 0) S rfl rfl T29)) ?_
    refine l_y (v := ni (d.known.length : Int)) S (y_len U29 rfl rfl) ?_
    refine l_y (v := ni 0) S (y_mv rfl) ?_
    refine l_nil ?_
    refine n_seq ?_
    refine e_blk ?_
    refine e_trim [(1, pa g32 0), (3, ni (d.state.clock.length : Int)), (60, .slice A29 d.known.length c30), (61, ni (d.known.length : Int)), (62, ni (0 : Int))] ⟨⟨rfl, rfl⟩, ⟨rfl, rfl⟩, ⟨rfl, rfl⟩, ⟨rfl, rfl⟩, ⟨ival (by first | rfl | omega), rfl⟩, trivial⟩ (fun junk => ?_)
    refine e_loop (fun (gh_ : Nat) ov w => match gh_ with | k => ∃ rd' junk, ov = [(1, pa g32 0), (3, ni (d.state.clock.length : Int)), (60, .slice A29 d.known.length c30), (61, ni (d.known.length : Int)), (62, ni (k : Int))] ++ junk ∧ St [] W rd rd' [(g32, 31, #[ni d.self, .slice A14 d.state.clock.length c15, .slice A17 d.state.lives.length c18, .slice A20 d.state.tallies.length c21, .slice A23 d.base.length c24, .slice A26 d.log.length c27, .slice A29 d.known.length c30]), (g35, 84, #[ni ((wrongS d.state (d.state.clock.length : Int)).1), ni ((wrongS d.state (d.state.clock.length : Int)).2)]), (g48, 84, #[ni ((clockL d.base d.log (d.state.clock.length : Int)).2.1), ni ((clockL d.base d.log (d.state.clock.length : Int)).2.2)])] [] w ∧ Rd.le rd41 rd' ∧ k ≤ d.known.length ∧ wrongK d (d.state.clock.length : Int) 0 d.known = wrongK d (d.state.clock.length : Int) k (d.known.drop k)) (fun gh_ => match gh_ with | k => d.known.length - k) 0 ⟨_, junk, rfl, (S.rw' rfl rfl), (Rd.le_refl _), (by omega), rfl⟩ ?_
    rintro k ov55 w53 ⟨rd52, junk, rfl, S, L54, hk, hw⟩
    replace h3 := fm h3 L54
    replace h5 := fm h5 L54
    replace h7 := fm h7 L54
    replace h9 := fm h9 L54
    replace h11 := fm h11 L54
    replace h13 := fm h13 L54
    refine e_seq ?_
    refine e_reg ?_
    by_cases h56 : (k : Int) < (d.known.length : Int)
    ·
     refine l_y (v := .bool true) S (y_ltT rfl rfl h56) ?_
     refine l_nil ?_
     refine n_seq ?_
     refine e_seq ?_
     refine e_cT rfl ?_
     refine e_skip ?_
     refine n_seq ?_
     refine e_seq ?_
     refine e_blk ?_
     refine e_seq ?_
     refine e_reg ?_
     refine l_y (v := ni (k : Int)) S (y_mv rfl) ?_
     obtain ⟨z57, hz58⟩ : ∃ z, (d.known)[k]? = some z := nth_of (by first | assumption | omega)
     obtain ⟨p59, vs60, E61, nn62, r63, Y64⟩ := y_ia U29 SZ23 h13 hz58
     clear nn62
     obtain ⟨sv65, r63e, r63⟩ := r63; subst r63e
     obtain ⟨A66, c67, rfl, m68, m68'⟩ := r63.val
     refine l_y (v := p59) S (Y64 rfl rfl (by first | rfl | omega)) ?_
     refine l_y (v := .slice A66 z57.length c67) S (y_ld rfl (fun w S => ld_p1 S.le E61 rfl T23)) ?_
     refine l_y (v := ni (k : Int)) S (y_as rfl) ?_
     refine l_y (v := .slice A66 z57.length c67) S (y_as rfl) ?_
     refine l_nil ?_
     refine n_seq ?_
     refine e_seq ?_
     refine e_seq ?_
     refine e_reg ?_
     refine l_y (v := .slice A66 z57.length c67) S (y_mv rfl) ?_
     refine l_y (v := ni (d.state.clock.length : Int)) S (y_mv rfl) ?_
     refine l_c (en_f (vs := [.slice A66 z57.length c67, ni (d.state.clock.length : Int)]) (CF 40 _) rfl rfl) (Wrong_calls _ _ _ _ (fm r63 S.le)) ?_
     rintro e w69 ⟨rfl, rfl⟩
     refine ckd ?_
     refine l_y (v := ni (wrongC z57 (d.state.clock.length : Int))) S (y_as rfl) ?_
     refine l_nil ?_
     refine n_seq ?_
     refine e_seq ?_
     refine e_reg ?_
     refine l_y (v := ni (wrongC z57 (d.state.clock.length : Int))) S (y_mv rfl) ?_
     by_cases hK : wrongC z57 (d.state.clock.length : Int) = 0
     ·
      refine l_y (v := .bool false) S (y_neF rfl rfl hK) ?_
      refine l_nil ?_
      refine n_seq ?_
      refine e_cF rfl ?_
      refine e_skip ?_
      refine n_seq ?_
      refine e_seq ?_
      refine e_reg ?_
      refine l_y (v := ni (k : Int)) S (y_mv rfl) ?_
      refine l_y (v := pa g32 0) S (y_fb FA31_0 rfl rfl) ?_
      refine l_y (v := ni d.self) S (y_ld rfl (fun w S => ld_b1 (i := 0) S rfl rfl T3)) ?_
      by_cases hs : (k : Int) = d.self
      ·
       refine l_y (v := .bool true) S (y_eqT rfl rfl hs) ?_
       refine l_y (v := .bool true) S (y_mv rfl) ?_
       refine l_g (d' := 77) (v := .slice A66 z57.length c67) S (y_mv rfl) rfl rfl ?_
       refine l_g (d' := 77) (v := pa g32 1) S (y_fb FA31_1 rfl rfl) rfl rfl ?_
       refine l_g (d' := 77) (v := pa g32 1) S (y_fb FA27_0 rfl rfl) rfl rfl ?_
       refine l_g (d' := 77) (v := .slice A14 d.state.clock.length c15) S (y_ld rfl (fun w S => ld_b1 (i := 0) S rfl rfl T23)) rfl rfl ?_
       refine l_cg (d' := 77) (en_f (vs := [.slice A66 z57.length c67, .slice A14 d.state.clock.length c15]) (CF 50 _) rfl rfl) rfl rfl (EqualC_c _ _ S.le _ _ z57 d.state.clock r63 h3) ?_
       rintro e w70 ⟨rfl, k⟩
       have S := S.callq k; clear k
       cases hQ : decide (z57 = d.state.clock)
       ·
        refine ckd ?_
        refine l_g (d' := 77) (v := .bool true) S (y_not rfl rfl) rfl rfl ?_
        refine l_y (v := .bool true) S (y_pT rfl rfl) ?_
        refine l_y (v := .bool true) S (y_mv rfl) ?_
        refine l_s (d' := 85) rfl rfl ?_
        refine l_s (d' := 85) rfl rfl ?_
        refine l_s (d' := 85) rfl rfl ?_
        refine l_s (d' := 85) rfl rfl ?_
        refine l_s (d' := 85) rfl rfl ?_
        refine l_s (d' := 85) rfl rfl ?_
        refine l_y (v := .bool true) S (y_pT rfl rfl) ?_
        refine l_nil ?_
        refine n_seq ?_
        refine e_cT rfl ?_
        refine e_seq ?_
        refine e_reg ?_
        refine l_y (v := ni 7) S (y_as rfl) ?_
        refine l_nil ?_
        refine n_seq ?_
        refine e_ret ?_
        refine ret1 (v := ni 7) rfl rfl ?_
        exact ⟨rint ((wN5 hS (by omega) hC (of_decide_eq_true hE) hkn).trans (by rw [hw, wrongK_step hz58, if_neg (fun q => q hK), if_pos (.inl ⟨hs, of_decide_eq_false hQ⟩)])).symm, S.below⟩
       refine ckd ?_
       refine l_g (d' := 77) (v := .bool false) S (y_not rfl rfl) rfl rfl ?_
       refine l_y (v := .bool false) S (y_pT rfl rfl) ?_
       refine l_y (v := .bool false) S (y_mv rfl) ?_
       have hw6 := wrongC_ok hK
       have hs6 := (wrongS_iff.1 hS).clock_len
       refine l_g (d' := 85) (v := pa g32 1) S (y_fb FA31_1 rfl rfl) rfl rfl ?_
       refine l_g (d' := 85) (v := pa g32 1) S (y_fb FA27_0 rfl rfl) rfl rfl ?_
       refine l_g (d' := 85) (v := .slice A14 d.state.clock.length c15) S (y_ld rfl (fun w S => ld_b1 (i := 0) S rfl rfl T23)) rfl rfl ?_
       refine l_g (d' := 85) (v := .slice A66 z57.length c67) S (y_mv rfl) rfl rfl ?_
       refine l_cg (d' := 85) (en_f (vs := [.slice A14 d.state.clock.length c15, .slice A66 z57.length c67]) (CF 29 _) rfl rfl) rfl rfl (Sees_calls _ _ _ _ _ (fm h3 S.le) (fm r63 S.le) (by omega)) ?_
       rintro e w71 ⟨rfl, k⟩
       have S := S.callq k; clear k
       cases hV : seesC d.state.clock z57
       ·
        refine ckd ?_
        refine l_g (d' := 85) (v := .bool true) S (y_not rfl rfl) rfl rfl ?_
        refine l_y (v := .bool true) S (y_pF rfl rfl) ?_
        refine l_nil ?_
        refine n_seq ?_
        refine e_cT rfl ?_
        refine e_seq ?_
        refine e_reg ?_
        refine l_y (v := ni 7) S (y_as rfl) ?_
        refine l_nil ?_
        refine n_seq ?_
        refine e_ret ?_
        refine ret1 (v := ni 7) rfl rfl ?_
        exact ⟨rint ((wN5 hS (by omega) hC (of_decide_eq_true hE) hkn).trans (by rw [hw, wrongK_step hz58, if_neg (fun q => q hK), if_pos (.inr hV)])).symm, S.below⟩
       refine ckd ?_
       refine l_g (d' := 85) (v := .bool false) S (y_not rfl rfl) rfl rfl ?_
       refine l_y (v := .bool false) S (y_pF rfl rfl) ?_
       refine l_nil ?_
       refine n_seq ?_
       refine e_cF rfl ?_
       refine e_skip ?_
       refine n_blk ?_
       refine n_seq ?_
       refine e_reg ?_
       refine l_y (v := ni ((k : Int) + 1)) S (y_add (r := (k : Int) + 1) rfl rfl (w64 (by omega) (by omega))) ?_
       refine l_y (v := ni ((k : Int) + 1)) S (y_mv rfl) ?_
       refine l_nil ?_
       refine n_lp ⟨(k + 1), _, fr_keep (m := [(1, pa g32 0), (3, ni (d.state.clock.length : Int)), (60, .slice A29 d.known.length c30), (61, ni (d.known.length : Int)), (62, ni ((k + 1 : Nat) : Int))]) ⟨⟨rfl, rfl⟩, ⟨rfl, rfl⟩, ⟨rfl, rfl⟩, ⟨rfl, rfl⟩, ⟨ival (by first | rfl | omega), rfl⟩, trivial⟩, ⟨_, _, rfl, (S.tk 3 0 rfl rfl), (Rd.le_trans L54 (Rd.le_refl rd52)), (by omega), (by rw [hw, wrongK_step hz58, if_neg (fun q => q hK), if_neg (by rintro (⟨q1, q2⟩ | q) <;> first | exact hs q1 | exact q2 (of_decide_eq_true hQ) | (rw [hV] at q; cases q))])⟩, ?_⟩
       show _ < _; dsimp only; omega
      refine l_y (v := .bool false) S (y_eqF rfl rfl hs) ?_
      refine l_y (v := .bool false) S (y_mv rfl) ?_
      refine l_s (d' := 77) rfl rfl ?_
      refine l_s (d' := 77) rfl rfl ?_
      refine l_s (d' := 77) rfl rfl ?_
      refine l_s (d' := 77) rfl rfl ?_
      refine l_s (d' := 77) rfl rfl ?_
      refine l_s (d' := 77) rfl rfl ?_
      refine l_y (v := .bool false) S (y_pF rfl rfl) ?_
      refine l_y (v := .bool false) S (y_mv rfl) ?_
      have hw6 := wrongC_ok hK
      have hs6 := (wrongS_iff.1 hS).clock_len
      refine l_g (d' := 85) (v := pa g32 1) S (y_fb FA31_1 rfl rfl) rfl rfl ?_
      refine l_g (d' := 85) (v := pa g32 1) S (y_fb FA27_0 rfl rfl) rfl rfl ?_
      refine l_g (d' := 85) (v := .slice A14 d.state.clock.length c15) S (y_ld rfl (fun w S => ld_b1 (i := 0) S rfl rfl T23)) rfl rfl ?_
      refine l_g (d' := 85) (v := .slice A66 z57.length c67) S (y_mv rfl) rfl rfl ?_
      refine l_cg (d' := 85) (en_f (vs := [.slice A14 d.state.clock.length c15, .slice A66 z57.length c67]) (CF 29 _) rfl rfl) rfl rfl (Sees_calls _ _ _ _ _ (fm h3 S.le) (fm r63 S.le) (by omega)) ?_
      rintro e w72 ⟨rfl, k⟩
      have S := S.callq k; clear k
      cases hV : seesC d.state.clock z57
      ·
       refine ckd ?_
       refine l_g (d' := 85) (v := .bool true) S (y_not rfl rfl) rfl rfl ?_
       refine l_y (v := .bool true) S (y_pF rfl rfl) ?_
       refine l_nil ?_
       refine n_seq ?_
       refine e_cT rfl ?_
       refine e_seq ?_
       refine e_reg ?_
       refine l_y (v := ni 7) S (y_as rfl) ?_
       refine l_nil ?_
       refine n_seq ?_
       refine e_ret ?_
       refine ret1 (v := ni 7) rfl rfl ?_
       exact ⟨rint ((wN5 hS (by omega) hC (of_decide_eq_true hE) hkn).trans (by rw [hw, wrongK_step hz58, if_neg (fun q => q hK), if_pos (.inr hV)])).symm, S.below⟩
      refine ckd ?_
      refine l_g (d' := 85) (v := .bool false) S (y_not rfl rfl) rfl rfl ?_
      refine l_y (v := .bool false) S (y_pF rfl rfl) ?_
      refine l_nil ?_
      refine n_seq ?_
      refine e_cF rfl ?_
      refine e_skip ?_
      refine n_blk ?_
      refine n_seq ?_
      refine e_reg ?_
      refine l_y (v := ni ((k : Int) + 1)) S (y_add (r := (k : Int) + 1) rfl rfl (w64 (by omega) (by omega))) ?_
      refine l_y (v := ni ((k : Int) + 1)) S (y_mv rfl) ?_
      refine l_nil ?_
      refine n_lp ⟨(k + 1), _, fr_keep (m := [(1, pa g32 0), (3, ni (d.state.clock.length : Int)), (60, .slice A29 d.known.length c30), (61, ni (d.known.length : Int)), (62, ni ((k + 1 : Nat) : Int))]) ⟨⟨rfl, rfl⟩, ⟨rfl, rfl⟩, ⟨rfl, rfl⟩, ⟨rfl, rfl⟩, ⟨ival (by first | rfl | omega), rfl⟩, trivial⟩, ⟨_, _, rfl, (S.tk 3 0 rfl rfl), (Rd.le_trans L54 (Rd.le_refl rd52)), (by omega), (by rw [hw, wrongK_step hz58, if_neg (fun q => q hK), if_neg (by rintro (⟨q1, q2⟩ | q) <;> first | exact hs q1 | exact q2 (of_decide_eq_true hQ) | (rw [hV] at q; cases q))])⟩, ?_⟩
      show _ < _; dsimp only; omega
     refine l_y (v := .bool true) S (y_neT rfl rfl hK) ?_
     refine l_nil ?_
     refine n_seq ?_
     refine e_cT rfl ?_
     refine e_seq ?_
     refine e_reg ?_
     refine l_y (v := ni (wrongC z57 (d.state.clock.length : Int))) S (y_mv rfl) ?_
     refine l_y (v := ni (wrongC z57 (d.state.clock.length : Int))) S (y_as rfl) ?_
     refine l_nil ?_
     refine n_seq ?_
     refine e_ret ?_
     refine ret1 (v := ni (wrongC z57 (d.state.clock.length : Int))) rfl rfl ?_
     exact ⟨rint ((wN5 hS (by omega) hC (of_decide_eq_true hE) hkn).trans (by rw [hw, wrongK_step hz58, if_pos hK])).symm, S.below⟩
    refine l_y (v := .bool false) S (y_ltF rfl rfl h56) ?_
    refine l_nil ?_
    refine n_seq ?_
    refine e_seq ?_
    refine e_cF rfl ?_
    refine e_exit ?_
    refine x_seq ?_
    refine x_lp ?_
    refine x_hit ?_
    refine n_seq ?_
    refine e_seq ?_
    refine e_reg ?_
    refine l_y (v := ni 0) S (y_as rfl) ?_
    refine l_nil ?_
    refine n_seq ?_
    refine e_ret ?_
    refine ret1 (v := ni 0) rfl rfl ?_
    exact ⟨rint ((wN5 hS (by omega) hC (of_decide_eq_true hE) hkn).trans (hw.trans (by rw [List.drop_eq_nil_of_le (by omega)]; rfl))).symm, S.below⟩
   refine l_g (d' := 52) (v := .bool true) S (y_neT rfl rfl hkn) rfl rfl ?_
   refine l_y (v := .bool true) S (y_pF rfl rfl) ?_
   refine l_nil ?_
   refine n_seq ?_
   refine e_cT rfl ?_
   refine e_seq ?_
   refine e_reg ?_
   refine l_y (v := ni 7) S (y_as rfl) ?_
   refine l_nil ?_
   refine n_seq ?_
   refine e_ret ?_
   refine ret1 (v := ni 7) rfl rfl ?_
   exact ⟨rint (wN4 hS (by omega) hC (.inr hkn)).symm, S.below⟩
  refine l_y (v := .bool true) S (y_neT rfl rfl hC) ?_
  refine l_nil ?_
  refine n_seq ?_
  refine e_cT rfl ?_
  refine e_seq ?_
  refine e_reg ?_
  refine l_y (v := pa g48 0) S (y_fb FA84_0 rfl rfl) ?_
  refine l_y (v := ni ((clockL d.base d.log (d.state.clock.length : Int)).2.1)) S (y_ld rfl (fun w S => ld_b1 (i := 2) S rfl rfl T35)) ?_
  refine l_y (v := ni ((clockL d.base d.log (d.state.clock.length : Int)).2.1)) S (y_as rfl) ?_
  refine l_nil ?_
  refine n_seq ?_
  refine e_ret ?_
  refine ret1 (v := ni ((clockL d.base d.log (d.state.clock.length : Int)).2.1)) rfl rfl ?_
  exact ⟨rint (wN3 hS (by omega) hC).symm, S.below⟩
 refine l_y (v := .bool true) S (y_neT rfl rfl hS) ?_
 refine l_nil ?_
 refine n_seq ?_
 refine e_cT rfl ?_
 refine e_seq ?_
 refine e_reg ?_
 refine l_y (v := pa g35 0) S (y_fb FA84_0 rfl rfl) ?_
 refine l_y (v := ni ((wrongS d.state (d.state.clock.length : Int)).1)) S (y_ld rfl (fun w S => ld_b1 (i := 1) S rfl rfl T35)) ?_
 refine l_y (v := ni ((wrongS d.state (d.state.clock.length : Int)).1)) S (y_as rfl) ?_
 refine l_nil ?_
 refine n_seq ?_
 refine e_ret ?_
 refine ret1 (v := ni ((wrongS d.state (d.state.clock.length : Int)).1)) rfl rfl ?_
 exact ⟨rint (wN1 hS).symm, S.below⟩
end Go.Proofs.YtkjknlnhffmkkacGreat
