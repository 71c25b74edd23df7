/- What is wrong with an update: the program's answer and the reference's. -/
import Derived.Test.YtkjknlnhffmkkacGreatQClock3
import Derived.Test.YtkjknlnhffmkkacGreatQPl
import Derived.Test.YtkjknlnhffmkkacGreatQTy
namespace Go.Proofs.YtkjknlnhffmkkacGreat
open Go.RowKit
set_option linter.unusedVariables false
theorem atI_nth {l : List Int} {k : Nat} {z : Int} (h : l[k]? = some z) : atI l k = z := by
  unfold atI; rw [List.getD, h]; rfl
set_option maxRecDepth 100000 in
set_option maxHeartbeats 4000000 in
theorem UWrong_calls (v : Value) (u : Upd) (n : Int) (W : World) (h : AggR UpdR (wrd W) v u) :
    Calls Tryz.prog 82 #[v, (.int .i64 n)] W (fun e w' => e = .returned (.int .i64 (wrongU u n)) ∧ Below W.heap.size W w') := by
 obtain ⟨vs1, he, h⟩ := h; subst he
 obtain ⟨sv2, he, h3⟩ := h; subst he
 obtain ⟨A4, c5, rfl, m6, m6'⟩ := h3.val
 have hmx : maxLen = 9223372036854775807 := rfl
 have S : St [] W (wrd W) (wrd W) [] [] W := St.start (Rd.le_refl _)
 refine e_enter (args := [.agg #[ni u.author, .slice A4 u.seen.length c5, ni u.kind, ni u.key, ni u.item], ni n]) 69 Tryz.func82 rfl rfl rfl ?_
 refine e_seq ?_
 refine e_reg ?_
 refine l_bx (u := .agg #[ni u.author, .slice A4 u.seen.length c5, ni u.kind, ni u.key, ni u.item]) (cs := #[ni u.author, .slice A4 u.seen.length c5, ni u.kind, ni u.key, ni u.item]) S rfl rfl fun g7 w8 S => ?_
 refine l_y (v := ni 0) S (y_as rfl) ?_
 refine l_nil ?_
 refine n_seq ?_
 refine e_seq ?_
 refine e_seq ?_
 refine e_reg ?_
 refine l_y (v := pa g7 1) S (y_fb FA42_1 rfl rfl) ?_
 refine l_y (v := .slice A4 u.seen.length c5) S (y_ld rfl (fun w S => ld_b1 (i := 0) S rfl rfl T23)) ?_
 refine l_y (v := ni n) S (y_mv rfl) ?_
 refine l_c (en_f (vs := [.slice A4 u.seen.length c5, ni n]) (CF 40 _) rfl rfl) (Wrong_calls _ _ _ _ (fm h3 S.le)) ?_
 rintro e w9 ⟨rfl, rfl⟩
 refine ckd ?_
 refine l_y (v := ni (wrongC u.seen n)) S (y_as rfl) ?_
 refine l_nil ?_
 refine n_seq ?_
 refine e_seq ?_
 refine e_reg ?_
 refine l_y (v := ni (wrongC u.seen n)) S (y_mv rfl) ?_
 by_cases hC : wrongC u.seen n = 0
 ·
  refine l_y (v := .bool false) S (y_neF rfl rfl hC) ?_
  refine l_nil ?_
  refine n_seq ?_
  refine e_cF rfl ?_
  refine e_skip ?_
  refine n_seq ?_
  refine e_seq ?_
  refine e_blk ?_
  refine e_seq ?_
  refine e_reg ?_
  refine l_y (v := pa g7 0) S (y_fb FA42_0 rfl rfl) ?_
  refine l_y (v := ni u.author) S (y_ld rfl (fun w S => ld_b1 (i := 0) S rfl rfl T3)) ?_
  by_cases h10 : u.author < 0
  ·
   refine l_y (v := .bool true) S (y_ltT rfl rfl h10) ?_
   refine l_y (v := .bool true) S (y_mv rfl) ?_
   refine l_s (d' := 17) rfl rfl ?_
   refine l_s (d' := 17) rfl rfl ?_
   refine l_s (d' := 17) rfl rfl ?_
   refine l_s (d' := 17) rfl rfl ?_
   refine l_y (v := .bool true) S (y_pT rfl rfl) ?_
   refine l_y (v := .bool true) S (y_mv rfl) ?_
   refine l_s (d' := 23) rfl rfl ?_
   refine l_s (d' := 23) rfl rfl ?_
   refine l_s (d' := 23) rfl rfl ?_
   refine l_s (d' := 23) rfl rfl ?_
   refine l_s (d' := 23) rfl rfl ?_
   refine l_s (d' := 23) rfl rfl ?_
   refine l_s (d' := 23) rfl rfl ?_
   refine l_y (v := .bool true) S (y_pT rfl rfl) ?_
   refine l_y (v := .bool true) S (y_as rfl) ?_
   refine l_nil ?_
   refine n_seq ?_
   refine e_cT rfl ?_
   refine e_seq ?_
   refine e_reg ?_
   refine l_y (v := ni 3) S (y_as rfl) ?_
   refine l_nil ?_
   refine n_seq ?_
   refine e_ret ?_
   refine ret1 (v := ni 3) rfl rfl ?_
   refine ⟨rint ?_, S.below⟩
   (unfold wrongU; repeat' split) <;> omega
  refine l_y (v := .bool false) S (y_ltF rfl rfl h10) ?_
  refine l_y (v := .bool false) S (y_mv rfl) ?_
  refine l_g (d' := 17) (v := pa g7 0) S (y_fb FA42_0 rfl rfl) rfl rfl ?_
  refine l_g (d' := 17) (v := ni u.author) S (y_ld rfl (fun w S => ld_b1 (i := 0) S rfl rfl T3)) rfl rfl ?_
  refine l_g (d' := 17) (v := ni n) S (y_mv rfl) rfl rfl ?_
  by_cases h11 : n ≤ u.author
  ·
   refine l_g (d' := 17) (v := .bool true) S (y_geT rfl rfl h11) rfl rfl ?_
   refine l_y (v := .bool true) S (y_pF rfl rfl) ?_
   refine l_y (v := .bool true) S (y_mv rfl) ?_
   refine l_s (d' := 23) rfl rfl ?_
   refine l_s (d' := 23) rfl rfl ?_
   refine l_s (d' := 23) rfl rfl ?_
   refine l_s (d' := 23) rfl rfl ?_
   refine l_s (d' := 23) rfl rfl ?_
   refine l_s (d' := 23) rfl rfl ?_
   refine l_s (d' := 23) rfl rfl ?_
   refine l_y (v := .bool true) S (y_pT rfl rfl) ?_
   refine l_y (v := .bool true) S (y_as rfl) ?_
   refine l_nil ?_
   refine n_seq ?_
   refine e_cT rfl ?_
   refine e_seq ?_
   refine e_reg ?_
   refine l_y (v := ni 3) S (y_as rfl) ?_
   refine l_nil ?_
   refine n_seq ?_
   refine e_ret ?_
   refine ret1 (v := ni 3) rfl rfl ?_
   refine ⟨rint ?_, S.below⟩
   (unfold wrongU; repeat' split) <;> omega
  refine l_g (d' := 17) (v := .bool false) S (y_geF rfl rfl h11) rfl rfl ?_
  refine l_y (v := .bool false) S (y_pF rfl rfl) ?_
  refine l_y (v := .bool false) S (y_mv rfl) ?_
  refine l_g (d' := 23) (v := pa g7 1) S (y_fb FA42_1 rfl rfl) rfl rfl ?_
  refine l_g (d' := 23) (v := .slice A4 u.seen.length c5) S (y_ld rfl (fun w S => ld_b1 (i := 0) S rfl rfl T23)) rfl rfl ?_
  refine l_g (d' := 23) (v := pa g7 0) S (y_fb FA42_0 rfl rfl) rfl rfl ?_
  refine l_g (d' := 23) (v := ni u.author) S (y_ld rfl (fun w S => ld_b1 (i := 0) S rfl rfl T3)) rfl rfl ?_
  have hw := wrongC_ok hC
  obtain ⟨z12, hz13⟩ : ∃ z, (u.seen)[u.author.toNat]? = some z := nth_of (by first | assumption | omega)
  have ha := atI_nth hz13; have hb := hw.2.2.2 _ (List.mem_of_getElem? hz13)
  obtain ⟨p14, vs15, E16, nn17, r18, Y19⟩ := y_ia U23 SZ3 h3 hz13
  clear nn17
  have r18 : vs15 = [ni z12] := r18; subst r18
  refine l_g (d' := 23) (v := p14) S (Y19 rfl rfl (by first | rfl | omega)) rfl rfl ?_
  refine l_g (d' := 23) (v := ni z12) S (y_ld rfl (fun w S => ld_p1 S.le E16 rfl T3)) rfl rfl ?_
  by_cases h20 : z12 = 1000
  ·
   refine l_g (d' := 23) (v := .bool true) S (y_eqT rfl rfl h20) rfl rfl ?_
   refine l_y (v := .bool true) S (y_pF rfl rfl) ?_
   refine l_y (v := .bool true) S (y_as rfl) ?_
   refine l_nil ?_
   refine n_seq ?_
   refine e_cT rfl ?_
   refine e_seq ?_
   refine e_reg ?_
   refine l_y (v := ni 3) S (y_as rfl) ?_
   refine l_nil ?_
   refine n_seq ?_
   refine e_ret ?_
   refine ret1 (v := ni 3) rfl rfl ?_
   refine ⟨rint ?_, S.below⟩
   (unfold wrongU; repeat' split) <;> omega
  refine l_g (d' := 23) (v := .bool false) S (y_eqF rfl rfl h20) rfl rfl ?_
  refine l_y (v := .bool false) S (y_pF rfl rfl) ?_
  refine l_y (v := .bool false) S (y_as rfl) ?_
  refine l_nil ?_
  refine n_seq ?_
  refine e_cF rfl ?_
  refine e_seq ?_
  refine e_reg ?_
  refine l_y (v := pa g7 2) S (y_fb FA42_2 rfl rfl) ?_
  refine l_y (v := ni u.kind) S (y_ld rfl (fun w S => ld_b1 (i := 0) S rfl rfl T3)) ?_
  by_cases h21 : u.kind < 1
  ·
   refine l_y (v := .bool true) S (y_ltT rfl rfl h21) ?_
   refine l_y (v := .bool true) S (y_mv rfl) ?_
   refine l_s (d' := 36) rfl rfl ?_
   refine l_s (d' := 36) rfl rfl ?_
   refine l_s (d' := 36) rfl rfl ?_
   refine l_y (v := .bool true) S (y_pT rfl rfl) ?_
   refine l_y (v := .bool true) S (y_as rfl) ?_
   refine l_nil ?_
   refine n_seq ?_
   refine e_cT rfl ?_
   refine e_seq ?_
   refine e_reg ?_
   refine l_y (v := ni 1) S (y_as rfl) ?_
   refine l_nil ?_
   refine n_seq ?_
   refine e_ret ?_
   refine ret1 (v := ni 1) rfl rfl ?_
   refine ⟨rint ?_, S.below⟩
   (unfold wrongU; repeat' split) <;> omega
  refine l_y (v := .bool false) S (y_ltF rfl rfl h21) ?_
  refine l_y (v := .bool false) S (y_mv rfl) ?_
  refine l_g (d' := 36) (v := pa g7 2) S (y_fb FA42_2 rfl rfl) rfl rfl ?_
  refine l_g (d' := 36) (v := ni u.kind) S (y_ld rfl (fun w S => ld_b1 (i := 0) S rfl rfl T3)) rfl rfl ?_
  by_cases h22 : 5 < u.kind
  ·
   refine l_g (d' := 36) (v := .bool true) S (y_gtT rfl rfl h22) rfl rfl ?_
   refine l_y (v := .bool true) S (y_pF rfl rfl) ?_
   refine l_y (v := .bool true) S (y_as rfl) ?_
   refine l_nil ?_
   refine n_seq ?_
   refine e_cT rfl ?_
   refine e_seq ?_
   refine e_reg ?_
   refine l_y (v := ni 1) S (y_as rfl) ?_
   refine l_nil ?_
   refine n_seq ?_
   refine e_ret ?_
   refine ret1 (v := ni 1) rfl rfl ?_
   refine ⟨rint ?_, S.below⟩
   (unfold wrongU; repeat' split) <;> omega
  refine l_g (d' := 36) (v := .bool false) S (y_gtF rfl rfl h22) rfl rfl ?_
  refine l_y (v := .bool false) S (y_pF rfl rfl) ?_
  refine l_y (v := .bool false) S (y_as rfl) ?_
  refine l_nil ?_
  refine n_seq ?_
  refine e_cF rfl ?_
  refine e_seq ?_
  refine e_reg ?_
  refine l_y (v := pa g7 3) S (y_fb FA42_3 rfl rfl) ?_
  refine l_y (v := ni u.key) S (y_ld rfl (fun w S => ld_b1 (i := 0) S rfl rfl T3)) ?_
  by_cases h23 : u.key < 0
  ·
   refine l_y (v := .bool true) S (y_ltT rfl rfl h23) ?_
   refine l_y (v := .bool true) S (y_mv rfl) ?_
   refine l_s (d' := 45) rfl rfl ?_
   refine l_s (d' := 45) rfl rfl ?_
   refine l_s (d' := 45) rfl rfl ?_
   refine l_y (v := .bool true) S (y_pT rfl rfl) ?_
   refine l_y (v := .bool true) S (y_mv rfl) ?_
   refine l_s (d' := 50) rfl rfl ?_
   refine l_s (d' := 50) rfl rfl ?_
   refine l_s (d' := 50) rfl rfl ?_
   refine l_y (v := .bool true) S (y_pT rfl rfl) ?_
   refine l_y (v := .bool true) S (y_mv rfl) ?_
   refine l_s (d' := 55) rfl rfl ?_
   refine l_s (d' := 55) rfl rfl ?_
   refine l_s (d' := 55) rfl rfl ?_
   refine l_y (v := .bool true) S (y_pT rfl rfl) ?_
   refine l_y (v := .bool true) S (y_as rfl) ?_
   refine l_nil ?_
   refine n_seq ?_
   refine e_cT rfl ?_
   refine e_seq ?_
   refine e_reg ?_
   refine l_y (v := ni 3) S (y_as rfl) ?_
   refine l_nil ?_
   refine n_seq ?_
   refine e_ret ?_
   refine ret1 (v := ni 3) rfl rfl ?_
   refine ⟨rint ?_, S.below⟩
   (unfold wrongU; repeat' split) <;> omega
  refine l_y (v := .bool false) S (y_ltF rfl rfl h23) ?_
  refine l_y (v := .bool false) S (y_mv rfl) ?_
  refine l_g (d' := 45) (v := pa g7 3) S (y_fb FA42_3 rfl rfl) rfl rfl ?_
  refine l_g (d' := 45) (v := ni u.key) S (y_ld rfl (fun w S => ld_b1 (i := 0) S rfl rfl T3)) rfl rfl ?_
  by_cases h24 : 15 < u.key
  ·
   refine l_g (d' := 45) (v := .bool true) S (y_gtT rfl rfl h24) rfl rfl ?_
   refine l_y (v := .bool true) S (y_pF rfl rfl) ?_
   refine l_y (v := .bool true) S (y_mv rfl) ?_
   refine l_s (d' := 50) rfl rfl ?_
   refine l_s (d' := 50) rfl rfl ?_
   refine l_s (d' := 50) rfl rfl ?_
   refine l_y (v := .bool true) S (y_pT rfl rfl) ?_
   refine l_y (v := .bool true) S (y_mv rfl) ?_
   refine l_s (d' := 55) rfl rfl ?_
   refine l_s (d' := 55) rfl rfl ?_
   refine l_s (d' := 55) rfl rfl ?_
   refine l_y (v := .bool true) S (y_pT rfl rfl) ?_
   refine l_y (v := .bool true) S (y_as rfl) ?_
   refine l_nil ?_
   refine n_seq ?_
   refine e_cT rfl ?_
   refine e_seq ?_
   refine e_reg ?_
   refine l_y (v := ni 3) S (y_as rfl) ?_
   refine l_nil ?_
   refine n_seq ?_
   refine e_ret ?_
   refine ret1 (v := ni 3) rfl rfl ?_
   refine ⟨rint ?_, S.below⟩
   (unfold wrongU; repeat' split) <;> omega
  refine l_g (d' := 45) (v := .bool false) S (y_gtF rfl rfl h24) rfl rfl ?_
  refine l_y (v := .bool false) S (y_pF rfl rfl) ?_
  refine l_y (v := .bool false) S (y_mv rfl) ?_
  refine l_g (d' := 50) (v := pa g7 4) S (y_fb FA42_4 rfl rfl) rfl rfl ?_
  refine l_g (d' := 50) (v := ni u.item) S (y_ld rfl (fun w S => ld_b1 (i := 0) S rfl rfl T3)) rfl rfl ?_
  by_cases h25 : u.item < (-1000)
  ·
   refine l_g (d' := 50) (v := .bool true) S (y_ltT rfl rfl h25) rfl rfl ?_
   refine l_y (v := .bool true) S (y_pF rfl rfl) ?_
   refine l_y (v := .bool true) S (y_mv rfl) ?_
   refine l_s (d' := 55) rfl rfl ?_
   refine l_s (d' := 55) rfl rfl ?_
   refine l_s (d' := 55) rfl rfl ?_
   refine l_y (v := .bool true) S (y_pT rfl rfl) ?_
   refine l_y (v := .bool true) S (y_as rfl) ?_
   refine l_nil ?_
   refine n_seq ?_
   refine e_cT rfl ?_
   refine e_seq ?_
   refine e_reg ?_
   refine l_y (v := ni 3) S (y_as rfl) ?_
   refine l_nil ?_
   refine n_seq ?_
   refine e_ret ?_
   refine ret1 (v := ni 3) rfl rfl ?_
   refine ⟨rint ?_, S.below⟩
   (unfold wrongU; repeat' split) <;> omega
  refine l_g (d' := 50) (v := .bool false) S (y_ltF rfl rfl h25) rfl rfl ?_
  refine l_y (v := .bool false) S (y_pF rfl rfl) ?_
  refine l_y (v := .bool false) S (y_mv rfl) ?_
  refine l_g (d' := 55) (v := pa g7 4) S (y_fb FA42_4 rfl rfl) rfl rfl ?_
  refine l_g (d' := 55) (v := ni u.item) S (y_ld rfl (fun w S => ld_b1 (i := 0) S rfl rfl T3)) rfl rfl ?_
  by_cases h26 : 1000 < u.item
  ·
   refine l_g (d' := 55) (v := .bool true) S (y_gtT rfl rfl h26) rfl rfl ?_
   refine l_y (v := .bool true) S (y_pF rfl rfl) ?_
   refine l_y (v := .bool true) S (y_as rfl) ?_
   refine l_nil ?_
   refine n_seq ?_
   refine e_cT rfl ?_
   refine e_seq ?_
   refine e_reg ?_
   refine l_y (v := ni 3) S (y_as rfl) ?_
   refine l_nil ?_
   refine n_seq ?_
   refine e_ret ?_
   refine ret1 (v := ni 3) rfl rfl ?_
   refine ⟨rint ?_, S.below⟩
   (unfold wrongU; repeat' split) <;> omega
  refine l_g (d' := 55) (v := .bool false) S (y_gtF rfl rfl h26) rfl rfl ?_
  refine l_y (v := .bool false) S (y_pF rfl rfl) ?_
  refine l_y (v := .bool false) S (y_as rfl) ?_
  refine l_nil ?_
  refine n_seq ?_
  refine e_cF rfl ?_
  refine e_seq ?_
  refine e_reg ?_
  refine l_y (v := pa g7 2) S (y_fb FA42_2 rfl rfl) ?_
  refine l_y (v := ni u.kind) S (y_ld rfl (fun w S => ld_b1 (i := 0) S rfl rfl T3)) ?_
  by_cases h27 : u.kind = 2
  ·
   refine l_y (v := .bool true) S (y_eqT rfl rfl h27) ?_
   refine l_y (v := .bool true) S (y_mv rfl) ?_
   refine l_g (d' := 64) (v := pa g7 4) S (y_fb FA42_4 rfl rfl) rfl rfl ?_
   refine l_g (d' := 64) (v := ni u.item) S (y_ld rfl (fun w S => ld_b1 (i := 0) S rfl rfl T3)) rfl rfl ?_
   by_cases h28 : u.item = 0
   ·
    refine l_g (d' := 64) (v := .bool false) S (y_neF rfl rfl h28) rfl rfl ?_
    refine l_y (v := .bool false) S (y_pT rfl rfl) ?_
    refine l_y (v := .bool false) S (y_as rfl) ?_
    refine l_nil ?_
    refine n_seq ?_
    refine e_cF rfl ?_
    refine e_skip ?_
    refine n_blk ?_
    refine n_seq ?_
    refine e_seq ?_
    refine e_reg ?_
    refine l_y (v := ni 0) S (y_as rfl) ?_
    refine l_nil ?_
    refine n_seq ?_
    refine e_ret ?_
    refine ret1 (v := ni 0) rfl rfl ?_
    refine ⟨rint ?_, S.below⟩
    (unfold wrongU; repeat' split) <;> omega
   refine l_g (d' := 64) (v := .bool true) S (y_neT rfl rfl h28) rfl rfl ?_
   refine l_y (v := .bool true) S (y_pT rfl rfl) ?_
   refine l_y (v := .bool true) S (y_as rfl) ?_
   refine l_nil ?_
   refine n_seq ?_
   refine e_cT rfl ?_
   refine e_seq ?_
   refine e_reg ?_
   refine l_y (v := ni 2) S (y_as rfl) ?_
   refine l_nil ?_
   refine n_seq ?_
   refine e_ret ?_
   refine ret1 (v := ni 2) rfl rfl ?_
   refine ⟨rint ?_, S.below⟩
   (unfold wrongU; repeat' split) <;> omega
  refine l_y (v := .bool false) S (y_eqF rfl rfl h27) ?_
  refine l_y (v := .bool false) S (y_mv rfl) ?_
  refine l_s (d' := 64) rfl rfl ?_
  refine l_s (d' := 64) rfl rfl ?_
  refine l_s (d' := 64) rfl rfl ?_
  refine l_y (v := .bool false) S (y_pF rfl rfl) ?_
  refine l_y (v := .bool false) S (y_as rfl) ?_
  refine l_nil ?_
  refine n_seq ?_
  refine e_cF rfl ?_
  refine e_skip ?_
  refine n_blk ?_
  refine n_seq ?_
  refine e_seq ?_
  refine e_reg ?_
  refine l_y (v := ni 0) S (y_as rfl) ?_
  refine l_nil ?_
  refine n_seq ?_
  refine e_ret ?_
  refine ret1 (v := ni 0) rfl rfl ?_
  refine ⟨rint ?_, S.below⟩
  (unfold wrongU; repeat' split) <;> omega
 refine l_y (v := .bool true) S (y_neT rfl rfl hC) ?_
 refine l_nil ?_
 refine n_seq ?_
 refine e_cT rfl ?_
 refine e_seq ?_
 refine e_reg ?_
 refine l_y (v := ni (wrongC u.seen n)) S (y_mv rfl) ?_
 refine l_y (v := ni (wrongC u.seen n)) S (y_as rfl) ?_
 refine l_nil ?_
 refine n_seq ?_
 refine e_ret ?_
 refine ret1 (v := ni (wrongC u.seen n)) rfl rfl ?_
 refine ⟨rint ?_, S.below⟩
 (unfold wrongU; repeat' split) <;> omega
end Go.Proofs.YtkjknlnhffmkkacGreat
