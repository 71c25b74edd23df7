/- The library's comparisons, and the orders of what stays and of tallies: with the count of draws. -/
import Derived.Test.YtkjknlnhffmkkabQPl
import Derived.Test.YtkjknlnhffmkkabQEngW
import Derived.Test.YtkjknlnhffmkkabQTy
namespace Go.Proofs.Ytkjknlnhffmkkab.D
open Go.RowKit
set_option linter.unusedVariables false
set_option maxRecDepth 100000 in
theorem isNaN_c (rd : Rd) (W : World) (hle : Rd.le rd (wrd W)) (a : Int) :
    Calls Try.prog 100 #[(.int .i64 a)] W (fun e w' => e = .returned (.bool false) ∧ Below W.heap.size W w') := by
 have hmx : maxLen = 9223372036854775807 := rfl
 have S : St [] W rd rd [] [] W := St.start hle
 refine e_enter (args := [.int .i64 a]) 6 Try.func100 rfl rfl rfl ?_
 refine e_seq ?_
 refine e_reg ?_
 refine l_y (v := .bool false) S (y_as rfl) ?_
 refine l_nil ?_
 refine n_seq ?_
 refine e_seq ?_
 refine e_reg ?_
 refine l_y (v := .int .i64 a) S (y_mv rfl) ?_
 refine l_y (v := .int .i64 a) S (y_mv rfl) ?_
 have h1 : a = a := rfl
 refine l_y (v := .bool false) S (y_neF rfl rfl h1) ?_
 refine l_y (v := .bool false) S (y_as rfl) ?_
 refine l_nil ?_
 refine n_seq ?_
 refine e_ret ?_
 refine ret1 (v := .bool false) rfl rfl ?_
 exact ⟨rfl, S.below⟩

set_option maxRecDepth 100000 in
theorem Compare_c (rd : Rd) (W : World) (hle : Rd.le rd (wrd W)) (a b : Int) :
    Calls Try.prog 81 #[(.int .i64 a), (.int .i64 b)] W (fun e w' => e = .returned (.int .i64 (cmpI a b)) ∧ Below W.heap.size W w') := by
 have hmx : maxLen = 9223372036854775807 := rfl
 have S : St [] W rd rd [] [] W := St.start hle
 refine e_enter (args := [.int .i64 a, .int .i64 b]) 20 Try.func81 rfl rfl rfl ?_
 refine e_seq ?_
 refine e_reg ?_
 refine l_y (v := .int .i64 0) S (y_as rfl) ?_
 refine l_nil ?_
 refine n_seq ?_
 refine e_seq ?_
 refine e_reg ?_
 refine l_y (v := .int .i64 a) S (y_mv rfl) ?_
 refine l_c (en_f (vs := [.int .i64 a]) (CF 100 _) rfl rfl) (isNaN_c _ _ S.le _) ?_
 rintro e w1 ⟨rfl, k⟩
 have S := S.callq k; clear k
 refine ckd ?_
 refine l_y (v := .bool false) S (y_as rfl) ?_
 refine l_nil ?_
 refine n_seq ?_
 refine e_seq ?_
 refine e_reg ?_
 refine l_y (v := .int .i64 b) S (y_mv rfl) ?_
 refine l_c (en_f (vs := [.int .i64 b]) (CF 100 _) rfl rfl) (isNaN_c _ _ S.le _) ?_
 rintro e w2 ⟨rfl, k⟩
 have S := S.callq k; clear k
 refine ckd ?_
 refine l_y (v := .bool false) S (y_as rfl) ?_
 refine l_nil ?_
 refine n_seq ?_
 refine e_seq ?_
 refine e_seq ?_
 refine e_reg ?_
 refine l_y (v := .bool false) S (y_mv rfl) ?_
 refine l_nil ?_
 refine n_seq ?_
 refine e_cF rfl ?_
 refine e_skip ?_
 refine n_seq ?_
 refine e_seq ?_
 refine e_seq ?_
 refine e_reg ?_
 refine l_y (v := .bool false) S (y_mv rfl) ?_
 refine l_nil ?_
 refine n_seq ?_
 refine e_cF rfl ?_
 refine e_skip ?_
 refine n_seq ?_
 refine e_seq ?_
 refine e_seq ?_
 refine e_reg ?_
 refine l_y (v := .int .i64 a) S (y_mv rfl) ?_
 refine l_y (v := .int .i64 b) S (y_mv rfl) ?_
 by_cases h3 : a < b
 · -- h3 yes
  refine l_y (v := .bool true) S (y_ltT rfl rfl h3) ?_
  refine l_nil ?_
  refine n_seq ?_
  refine e_cT rfl ?_
  refine e_seq ?_
  refine e_reg ?_
  refine l_y (v := .int .i64 (-1)) S (y_as rfl) ?_
  refine l_nil ?_
  refine n_seq ?_
  refine e_ret ?_
  refine ret1 (v := .int .i64 (-1)) rfl rfl ?_
  exact ⟨rint (by unfold cmpI; first | (rw [if_pos (by omega)]) | (rw [if_neg (by omega), if_pos (by omega)]) | (rw [if_neg (by omega), if_neg (by omega)])), S.below⟩
 · -- h3 no
  refine l_y (v := .bool false) S (y_ltF rfl rfl h3) ?_
  refine l_nil ?_
  refine n_seq ?_
  refine e_cF rfl ?_
  refine e_skip ?_
  refine n_seq ?_
  refine e_seq ?_
  refine e_seq ?_
  refine e_reg ?_
  refine l_y (v := .int .i64 a) S (y_mv rfl) ?_
  refine l_y (v := .int .i64 b) S (y_mv rfl) ?_
  by_cases h4 : b < a
  · -- h4 yes
   refine l_y (v := .bool true) S (y_gtT rfl rfl h4) ?_
   refine l_nil ?_
   refine n_seq ?_
   refine e_cT rfl ?_
   refine e_seq ?_
   refine e_reg ?_
   refine l_y (v := .int .i64 1) S (y_as rfl) ?_
   refine l_nil ?_
   refine n_seq ?_
   refine e_ret ?_
   refine ret1 (v := .int .i64 1) rfl rfl ?_
   exact ⟨rint (by unfold cmpI; first | (rw [if_pos (by omega)]) | (rw [if_neg (by omega), if_pos (by omega)]) | (rw [if_neg (by omega), if_neg (by omega)])), S.below⟩
  · -- h4 no
   refine l_y (v := .bool false) S (y_gtF rfl rfl h4) ?_
   refine l_nil ?_
   refine n_seq ?_
   refine e_cF rfl ?_
   refine e_skip ?_
   refine n_seq ?_
   refine e_seq ?_
   refine e_reg ?_
   refine l_y (v := .int .i64 0) S (y_as rfl) ?_
   refine l_nil ?_
   refine n_seq ?_
   refine e_ret ?_
   refine ret1 (v := .int .i64 0) rfl rfl ?_
   exact ⟨rint (by unfold cmpI; first | (rw [if_pos (by omega)]) | (rw [if_neg (by omega), if_pos (by omega)]) | (rw [if_neg (by omega), if_neg (by omega)])), S.below⟩

set_option maxRecDepth 100000 in
theorem Or_c (rd : Rd) (W : World) (hle : Rd.le rd (wrd W)) (v : Value) (l : List Int) (h : IntsR rd v l) :
    Calls Try.prog 80 #[v] W (fun e w' => e = .returned (.int .i64 (orI l)) ∧ Below W.heap.size W w') := by
 obtain ⟨A1, c2, rfl, m3, m3'⟩ := h.val
 have hmx : maxLen = 9223372036854775807 := rfl
 unfold maxLen at m3'
 have S : St [] W rd rd [] [] W := St.start hle
 refine e_enter (args := [.slice A1 l.length c2]) 18 Try.func80 rfl rfl rfl ?_
 refine e_seq ?_
 refine e_reg ?_
 refine l_y (v := .int .i64 0) S (y_as rfl) ?_
 refine l_nil ?_
 refine n_seq ?_
 refine e_seq ?_
 refine e_reg ?_
 refine l_y (v := .int .i64 0) S (y_as rfl) ?_
 refine l_nil ?_
 refine n_seq ?_
 refine e_seq ?_
 refine e_seq ?_
 refine e_reg ?_
 refine l_y (v := .slice A1 l.length c2) S (y_mv rfl) ?_
 refine l_y (v := .int .i64 (l.length : Int)) S (y_len U22 rfl rfl) ?_
 refine l_y (v := .int .i64 0) S (y_mv rfl) ?_
 refine l_nil ?_
 refine n_seq ?_
 refine e_blk ?_
 refine e_trim [(3, .int .i64 0), (6, .slice A1 l.length c2), (7, .int .i64 (l.length : Int)), (8, .int .i64 (0 : Int))] ⟨⟨rfl, rfl⟩, ⟨rfl, rfl⟩, ⟨rfl, rfl⟩, ⟨ival (by first | rfl | omega), rfl⟩, trivial⟩ (fun junk => ?_)
 refine e_loop (fun (gh_ : Nat) ov w => match gh_ with | k => ∃ rd' junk, ov = [(3, .int .i64 0), (6, .slice A1 l.length c2), (7, .int .i64 (l.length : Int)), (8, .int .i64 (k : Int))] ++ junk ∧ St [] W rd rd' [] [] w ∧ Rd.le rd rd' ∧ k ≤ l.length ∧ orI l = orI (l.drop k)) (fun gh_ => match gh_ with | k => l.length - k) 0 ⟨_, junk, rfl, (S.rw' rfl rfl), (Rd.le_refl _), (by omega), rfl⟩ ?_
 rintro k ov7 w5 ⟨rd4, junk, rfl, S, L6, hk, hq⟩
 replace h := fm h L6
 refine e_seq ?_
 refine e_reg ?_
 by_cases h8 : (k : Int) < (l.length : Int)
 · -- h8 yes
  refine l_y (v := .bool true) S (y_ltT rfl rfl h8) ?_
  refine l_nil ?_
  refine n_seq ?_
  refine e_seq ?_
  refine e_cT rfl ?_
  refine e_skip ?_
  refine n_seq ?_
  refine e_seq ?_
  refine e_blk ?_
  refine e_seq ?_
  refine e_reg ?_
  obtain ⟨z9, hz10⟩ : ∃ z, (l)[k]? = some z := nth_of (by first | assumption | omega)
  obtain ⟨p11, vs12, E13, nn14, r15, Y16⟩ := y_ia U22 SZ3 h hz10
  clear nn14
  have r15 : vs12 = [.int .i64 z9] := r15; subst r15
  refine l_y (v := p11) S (Y16 rfl rfl (by first | rfl | omega)) ?_
  refine l_y (v := .int .i64 z9) S (y_ld rfl (fun w S => ld_p1 S.le E13 rfl T3)) ?_
  refine l_y (v := .int .i64 z9) S (y_as rfl) ?_
  refine l_nil ?_
  refine n_seq ?_
  refine e_seq ?_
  refine e_reg ?_
  refine l_y (v := .int .i64 z9) S (y_mv rfl) ?_
  refine l_y (v := .int .i64 0) S (y_mv rfl) ?_
  by_cases hz : z9 = 0
  · -- hz yes
   refine l_y (v := .bool false) S (y_neF rfl rfl hz) ?_
   refine l_nil ?_
   refine n_seq ?_
   refine e_cF rfl ?_
   refine e_skip ?_
   refine n_blk ?_
   refine n_seq ?_
   refine e_reg ?_
   refine l_y (v := .int .i64 ((k : Int) + 1)) S (y_add (r := (k : Int) + 1) rfl rfl (w64 (by omega) (by omega))) ?_
   refine l_y (v := .int .i64 ((k : Int) + 1)) S (y_mv rfl) ?_
   refine l_nil ?_
   refine n_lp ⟨(k + 1), _, fr_keep (m := [(3, .int .i64 0), (6, .slice A1 l.length c2), (7, .int .i64 (l.length : Int)), (8, .int .i64 ((k + 1 : Nat) : Int))]) ⟨⟨rfl, rfl⟩, ⟨rfl, rfl⟩, ⟨rfl, rfl⟩, ⟨ival (by first | rfl | omega), rfl⟩, trivial⟩, ⟨_, _, rfl, (S.tk 0 0 rfl rfl), (Rd.le_trans L6 (Rd.le_refl rd4)), (by omega), (by rw [hq, orI_drop hz10, if_pos hz])⟩, ?_⟩
   show _ < _; dsimp only; omega
  · -- hz no
   refine l_y (v := .bool true) S (y_neT rfl rfl hz) ?_
   refine l_nil ?_
   refine n_seq ?_
   refine e_cT rfl ?_
   refine e_seq ?_
   refine e_reg ?_
   refine l_y (v := .int .i64 z9) S (y_mv rfl) ?_
   refine l_y (v := .int .i64 z9) S (y_as rfl) ?_
   refine l_nil ?_
   refine n_seq ?_
   refine e_ret ?_
   refine ret1 (v := .int .i64 z9) rfl rfl ?_
   refine ⟨rint ?_, S.below⟩
   rw [hq, orI_drop hz10, if_neg hz]
 · -- h8 no
  refine l_y (v := .bool false) S (y_ltF rfl rfl h8) ?_
  refine l_nil ?_
  refine n_seq ?_
  refine e_seq ?_
  refine e_cF rfl ?_
  refine e_exit ?_
  refine x_seq ?_
  refine x_lp ?_
  refine x_hit ?_
  refine n_seq ?_
  refine e_seq ?_
  refine e_reg ?_
  refine l_y (v := .int .i64 0) S (y_mv rfl) ?_
  refine l_y (v := .int .i64 0) S (y_as rfl) ?_
  refine l_nil ?_
  refine n_seq ?_
  refine e_ret ?_
  refine ret1 (v := .int .i64 0) rfl rfl ?_
  refine ⟨rint ?_, S.below⟩
  rw [hq, List.drop_eq_nil_of_le (by omega)]; rfl

set_option maxRecDepth 100000 in
theorem Order_c (rd : Rd) (W : World) (hle : Rd.le rd (wrd W)) (v u : Value) (a b : Live) (h1 : AggR LiveR rd v a) (h2 : AggR LiveR rd u b) :
    Calls Try.prog 41 #[v, u] W (fun e w' => e = .returned (.int .i64 (ordL a b)) ∧ Below W.heap.size W w') := by
 obtain ⟨vs1, h1e, h1⟩ := h1; subst h1e
 have h1e : vs1 = [.bool a.set, .int .i64 a.key, .int .i64 a.item, .int .i64 a.author, .int .i64 a.seq] := h1; subst h1e; clear h1
 obtain ⟨vs2, h2e, h2⟩ := h2; subst h2e
 have h2e : vs2 = [.bool b.set, .int .i64 b.key, .int .i64 b.item, .int .i64 b.author, .int .i64 b.seq] := h2; subst h2e; clear h2
 have hmx : maxLen = 9223372036854775807 := rfl
 have S : St [] W rd rd [] [] W := St.start hle
 refine e_enter (args := [.agg #[.bool a.set, .int .i64 a.key, .int .i64 a.item, .int .i64 a.author, .int .i64 a.seq], .agg #[.bool b.set, .int .i64 b.key, .int .i64 b.item, .int .i64 b.author, .int .i64 b.seq]]) 45 Try.func41 rfl rfl rfl ?_
 refine e_seq ?_
 refine e_reg ?_
 refine l_bx (u := .agg #[.bool a.set, .int .i64 a.key, .int .i64 a.item, .int .i64 a.author, .int .i64 a.seq]) (cs := #[.bool a.set, .int .i64 a.key, .int .i64 a.item, .int .i64 a.author, .int .i64 a.seq]) S rfl rfl fun g3 w4 S => ?_
 refine l_bx (u := .agg #[.bool b.set, .int .i64 b.key, .int .i64 b.item, .int .i64 b.author, .int .i64 b.seq]) (cs := #[.bool b.set, .int .i64 b.key, .int .i64 b.item, .int .i64 b.author, .int .i64 b.seq]) S rfl rfl fun g5 w6 S => ?_
 refine l_y (v := .int .i64 0) S (y_as rfl) ?_
 refine l_nil ?_
 refine n_seq ?_
 refine e_seq ?_
 refine e_reg ?_
 refine l_y (v := .int .i64 0) S (y_as rfl) ?_
 refine l_nil ?_
 refine n_seq ?_
 refine e_seq ?_
 refine e_blk ?_
 refine e_seq ?_
 refine e_reg ?_
 refine l_y (v := .pointer (some ⟨g5, 0, none⟩)) S (y_fb FA62_0 rfl rfl) ?_
 rcases Bool.eq_false_or_eq_true b.set with b7 | b7
 · -- b7 True
  refine l_y (v := .bool true) S (y_bv (y_ld rfl (fun w S => ld_b1 (i := 1) S rfl rfl T4)) b7) ?_
  refine l_y (v := .bool true) S (y_mv rfl) ?_
  refine l_g (d' := 9) (v := .pointer (some ⟨g3, 0, none⟩)) S (y_fb FA62_0 rfl rfl) rfl rfl ?_
  rcases Bool.eq_false_or_eq_true a.set with b8 | b8
  · -- b8 True
   refine l_g (d' := 9) (v := .bool true) S (y_bv (y_ld rfl (fun w S => ld_b1 (i := 0) S rfl rfl T4)) b8) rfl rfl ?_
   refine l_g (d' := 9) (v := .bool false) S (y_not rfl rfl) rfl rfl ?_
   refine l_y (v := .bool false) S (y_pT rfl rfl) ?_
   refine l_y (v := .bool false) S (y_as rfl) ?_
   refine l_nil ?_
   refine n_seq ?_
   refine e_cF rfl ?_
   refine e_seq ?_
   refine e_reg ?_
   refine l_y (v := .pointer (some ⟨g3, 0, none⟩)) S (y_fb FA62_0 rfl rfl) ?_
   refine l_y (v := .bool true) S (y_bv (y_ld rfl (fun w S => ld_b1 (i := 0) S rfl rfl T4)) b8) ?_
   refine l_y (v := .bool true) S (y_mv rfl) ?_
   refine l_g (d' := 17) (v := .pointer (some ⟨g5, 0, none⟩)) S (y_fb FA62_0 rfl rfl) rfl rfl ?_
   refine l_g (d' := 17) (v := .bool true) S (y_bv (y_ld rfl (fun w S => ld_b1 (i := 1) S rfl rfl T4)) b7) rfl rfl ?_
   refine l_g (d' := 17) (v := .bool false) S (y_not rfl rfl) rfl rfl ?_
   refine l_y (v := .bool false) S (y_pT rfl rfl) ?_
   refine l_y (v := .bool false) S (y_as rfl) ?_
   refine l_nil ?_
   refine n_seq ?_
   refine e_cF rfl ?_
   refine e_skip ?_
   refine n_blk ?_
   refine n_seq ?_
   refine e_seq ?_
   refine e_a (fun w => St [] W rd rd [(g3, 62, #[.bool a.set, .int .i64 a.key, .int .i64 a.item, .int .i64 a.author, .int .i64 a.seq]), (g5, 62, #[.bool b.set, .int .i64 b.key, .int .i64 b.item, .int .i64 b.author, .int .i64 b.seq])] [] w) MX rfl ?_
   have S := S.drew; have sup9 := S.sup
   have SC : St [] W rd rd [(g3, 62, #[.bool a.set, .int .i64 a.key, .int .i64 a.item, .int .i64 a.author, .int .i64 a.seq]), (g5, 62, #[.bool b.set, .int .i64 b.key, .int .i64 b.item, .int .i64 b.author, .int .i64 b.seq])] [] _ := (S.tk 2 0 rfl rfl).rw' rfl rfl
   refine a_take (v := .int .i64 0) 0 rfl rfl (by kernel_rfl) (by kernel_rfl) (by kernel_rfl) SC rfl (y_mv rfl) ?_
   refine a_take (v := .pointer (some ⟨g3, 1, none⟩)) 1 rfl rfl (by kernel_rfl) (by kernel_rfl) (by kernel_rfl) SC rfl (y_fb FA62_1 rfl rfl) ?_
   refine a_take (v := .int .i64 a.key) 2 rfl rfl (by kernel_rfl) (by kernel_rfl) (by kernel_rfl) SC rfl (y_ld rfl (fun w S => ld_b1 (i := 0) S rfl rfl T3)) ?_
   refine a_take (v := .pointer (some ⟨g5, 1, none⟩)) 3 rfl rfl (by kernel_rfl) (by kernel_rfl) (by kernel_rfl) SC rfl (y_fb FA62_1 rfl rfl) ?_
   refine a_take (v := .int .i64 b.key) 4 rfl rfl (by kernel_rfl) (by kernel_rfl) (by kernel_rfl) SC rfl (y_ld rfl (fun w S => ld_b1 (i := 1) S rfl rfl T3)) ?_
   refine a_take (v := .pointer (some ⟨g3, 2, none⟩)) 6 rfl rfl (by kernel_rfl) (by kernel_rfl) (by kernel_rfl) SC rfl (y_fb FA62_2 rfl rfl) ?_
   refine a_take (v := .int .i64 a.item) 7 rfl rfl (by kernel_rfl) (by kernel_rfl) (by kernel_rfl) SC rfl (y_ld rfl (fun w S => ld_b1 (i := 0) S rfl rfl T3)) ?_
   refine a_take (v := .pointer (some ⟨g5, 2, none⟩)) 8 rfl rfl (by kernel_rfl) (by kernel_rfl) (by kernel_rfl) SC rfl (y_fb FA62_2 rfl rfl) ?_
   refine a_take (v := .int .i64 b.item) 9 rfl rfl (by kernel_rfl) (by kernel_rfl) (by kernel_rfl) SC rfl (y_ld rfl (fun w S => ld_b1 (i := 1) S rfl rfl T3)) ?_
   refine a_take (v := .pointer (some ⟨g3, 3, none⟩)) 11 rfl rfl (by kernel_rfl) (by kernel_rfl) (by kernel_rfl) SC rfl (y_fb FA62_3 rfl rfl) ?_
   refine a_take (v := .int .i64 a.author) 12 rfl rfl (by kernel_rfl) (by kernel_rfl) (by kernel_rfl) SC rfl (y_ld rfl (fun w S => ld_b1 (i := 0) S rfl rfl T3)) ?_
   refine a_take (v := .pointer (some ⟨g5, 3, none⟩)) 13 rfl rfl (by kernel_rfl) (by kernel_rfl) (by kernel_rfl) SC rfl (y_fb FA62_3 rfl rfl) ?_
   refine a_take (v := .int .i64 b.author) 14 rfl rfl (by kernel_rfl) (by kernel_rfl) (by kernel_rfl) SC rfl (y_ld rfl (fun w S => ld_b1 (i := 1) S rfl rfl T3)) ?_
   refine a_take (v := .pointer (some ⟨g3, 4, none⟩)) 16 rfl rfl (by kernel_rfl) (by kernel_rfl) (by kernel_rfl) SC rfl (y_fb FA62_4 rfl rfl) ?_
   refine a_take (v := .int .i64 a.seq) 17 rfl rfl (by kernel_rfl) (by kernel_rfl) (by kernel_rfl) SC rfl (y_ld rfl (fun w S => ld_b1 (i := 0) S rfl rfl T3)) ?_
   refine a_take (v := .pointer (some ⟨g5, 4, none⟩)) 18 rfl rfl (by kernel_rfl) (by kernel_rfl) (by kernel_rfl) SC rfl (y_fb FA62_4 rfl rfl) ?_
   refine a_take (v := .int .i64 b.seq) 19 rfl rfl (by kernel_rfl) (by kernel_rfl) (by kernel_rfl) SC rfl (y_ld rfl (fun w S => ld_b1 (i := 1) S rfl rfl T3)) ?_
   refine a_all (rs := [5]) (by kernel_rfl) rfl ?_
   refine aa_cons rfl ?_ ?_
   · -- operation 5
    refine l_c (en_f (vs := [.int .i64 a.key, .int .i64 b.key]) (CF 81 _) rfl rfl) (Compare_c _ _ S.le _ _) ?_
    rintro e w10 ⟨rfl, k⟩
    have S := S.callq k; clear k
    refine ckd ?_
    refine l_nil ?_
    have SC : St [] W rd rd [(g3, 62, #[.bool a.set, .int .i64 a.key, .int .i64 a.item, .int .i64 a.author, .int .i64 a.seq]), (g5, 62, #[.bool b.set, .int .i64 b.key, .int .i64 b.item, .int .i64 b.author, .int .i64 b.seq])] [] _ := (S.tk 2 0 rfl rfl).rw' rfl rfl
    refine n_lp (ak SC ?_)
    refine a_all (rs := [10]) (by kernel_rfl) rfl ?_
    refine aa_cons rfl ?_ ?_
    · -- operation 10
     refine l_c (en_f (vs := [.int .i64 a.item, .int .i64 b.item]) (CF 81 _) rfl rfl) (Compare_c _ _ S.le _ _) ?_
     rintro e w11 ⟨rfl, k⟩
     have S := S.callq k; clear k
     refine ckd ?_
     refine l_nil ?_
     have SC : St [] W rd rd [(g3, 62, #[.bool a.set, .int .i64 a.key, .int .i64 a.item, .int .i64 a.author, .int .i64 a.seq]), (g5, 62, #[.bool b.set, .int .i64 b.key, .int .i64 b.item, .int .i64 b.author, .int .i64 b.seq])] [] _ := (S.tk 2 0 rfl rfl).rw' rfl rfl
     refine n_lp (ak SC ?_)
     refine a_all (rs := [15]) (by kernel_rfl) rfl ?_
     refine aa_cons rfl ?_ ?_
     · -- operation 15
      refine l_c (en_f (vs := [.int .i64 a.author, .int .i64 b.author]) (CF 81 _) rfl rfl) (Compare_c _ _ S.le _ _) ?_
      rintro e w12 ⟨rfl, k⟩
      have S := S.callq k; clear k
      refine ckd ?_
      refine l_nil ?_
      have SC : St [] W rd rd [(g3, 62, #[.bool a.set, .int .i64 a.key, .int .i64 a.item, .int .i64 a.author, .int .i64 a.seq]), (g5, 62, #[.bool b.set, .int .i64 b.key, .int .i64 b.item, .int .i64 b.author, .int .i64 b.seq])] [] _ := (S.tk 2 0 rfl rfl).rw' rfl rfl
      refine n_lp (ak SC ?_)
      refine a_all (rs := [20]) (by kernel_rfl) rfl ?_
      refine aa_cons rfl ?_ ?_
      · -- operation 20
       refine l_c (en_f (vs := [.int .i64 a.seq, .int .i64 b.seq]) (CF 81 _) rfl rfl) (Compare_c _ _ S.le _ _) ?_
       rintro e w13 ⟨rfl, k⟩
       have S := S.callq k; clear k
       refine ckd ?_
       refine l_nil ?_
       have SC : St [] W rd rd [(g3, 62, #[.bool a.set, .int .i64 a.key, .int .i64 a.item, .int .i64 a.author, .int .i64 a.seq]), (g5, 62, #[.bool b.set, .int .i64 b.key, .int .i64 b.item, .int .i64 b.author, .int .i64 b.seq])] [] _ := (S.tk 2 0 rfl rfl).rw' rfl rfl
       refine n_lp (ak SC ?_)
       refine a_all (rs := [21]) (by kernel_rfl) rfl ?_
       refine aa_cons rfl ?_ ?_
       · -- operation 21
        refine l_bs (ps := [(0, .int .i64 0), (1, .int .i64 (cmpI a.key b.key)), (2, .int .i64 (cmpI a.item b.item)), (3, .int .i64 (cmpI a.author b.author)), (4, .int .i64 (cmpI a.seq b.seq))]) (cs := #[.int .i64 0, .int .i64 (cmpI a.key b.key), .int .i64 (cmpI a.item b.item), .int .i64 (cmpI a.author b.author), .int .i64 (cmpI a.seq b.seq)]) S U22 SZ3 Z3 rfl rfl rfl (by kernel_rfl) fun g14 w15 S => ?_
        obtain ⟨rd16, S, L17, Fz18⟩ := S.frz' (i := 2) rfl rfl
        have F19 := Fz18 (size := 1) (R := IntR) (xs := ([0, cmpI a.key b.key, cmpI a.item b.item, cmpI a.author b.author, cmpI a.seq b.seq] : List Int)) (n := 5) (c := 5) rfl (Nat.le_refl _) (by simp [maxLen]) (rowInts _ ([0, cmpI a.key b.key, cmpI a.item b.item, cmpI a.author b.author, cmpI a.seq b.seq] : List Int)); clear Fz18
        refine l_nil ?_
        have SC : St [] W rd rd [(g3, 62, #[.bool a.set, .int .i64 a.key, .int .i64 a.item, .int .i64 a.author, .int .i64 a.seq]), (g5, 62, #[.bool b.set, .int .i64 b.key, .int .i64 b.item, .int .i64 b.author, .int .i64 b.seq])] [] _ := ((S.tk 2 0 rfl rfl).weak sup9 L17).rw' rfl rfl
        refine n_lp (ak SC ?_)
        refine a_all (rs := [22]) (by kernel_rfl) rfl ?_
        refine aa_cons rfl ?_ ?_
        · -- operation 22
         refine l_c (en_f (vs := [.slice (some ⟨g14, 0, none⟩) 5 5]) (CF 80 _) rfl rfl) (Or_c _ _ S.le _ _ F19) ?_
         rintro e w20 ⟨rfl, k⟩
         have S := S.callq k; clear k
         refine ckd ?_
         refine l_nil ?_
         have SC : St [] W rd rd [(g3, 62, #[.bool a.set, .int .i64 a.key, .int .i64 a.item, .int .i64 a.author, .int .i64 a.seq]), (g5, 62, #[.bool b.set, .int .i64 b.key, .int .i64 b.item, .int .i64 b.author, .int .i64 b.seq])] [] _ := ((S.tk 2 0 rfl rfl).weak sup9 L17).rw' rfl rfl
         refine n_lp (ak SC ?_)
         refine a_take (v := .int .i64 (orI ([0, cmpI a.key b.key, cmpI a.item b.item, cmpI a.author b.author, cmpI a.seq b.seq] : List Int))) 23 rfl rfl (by kernel_rfl) (by kernel_rfl) (by kernel_rfl) SC rfl (y_as rfl) ?_
         refine a_done (by kernel_rfl) ?_
         clear SC
         refine n_seq ?_
         refine e_trim [(4, .int .i64 (orI ([0, cmpI a.key b.key, cmpI a.item b.item, cmpI a.author b.author, cmpI a.seq b.seq] : List Int)))] ⟨⟨rfl, rfl⟩, trivial⟩ (fun junk => ?_)
         refine e_ret ?_
         refine ret1 (v := .int .i64 (orI ([0, cmpI a.key b.key, cmpI a.item b.item, cmpI a.author b.author, cmpI a.seq b.seq] : List Int))) rfl rfl ?_
         refine ⟨rint ?_, S.below⟩
         unfold ordL; simp [b7, b8]
        exact aa_nil
       exact aa_nil
      exact aa_nil
     exact aa_nil
    exact aa_nil
   exact aa_nil
  · -- b8 False
   refine l_g (d' := 9) (v := .bool false) S (y_bv (y_ld rfl (fun w S => ld_b1 (i := 0) S rfl rfl T4)) b8) rfl rfl ?_
   refine l_g (d' := 9) (v := .bool true) S (y_not rfl rfl) rfl rfl ?_
   refine l_y (v := .bool true) S (y_pT rfl rfl) ?_
   refine l_y (v := .bool true) S (y_as rfl) ?_
   refine l_nil ?_
   refine n_seq ?_
   refine e_cT rfl ?_
   refine e_reg ?_
   refine l_y (v := .int .i64 (-1)) S (y_as rfl) ?_
   refine l_nil ?_
   refine n_blk ?_
   refine n_seq ?_
   refine e_seq ?_
   refine e_a (fun w => St [] W rd rd [(g3, 62, #[.bool a.set, .int .i64 a.key, .int .i64 a.item, .int .i64 a.author, .int .i64 a.seq]), (g5, 62, #[.bool b.set, .int .i64 b.key, .int .i64 b.item, .int .i64 b.author, .int .i64 b.seq])] [] w) MX rfl ?_
   have S := S.drew; have sup21 := S.sup
   have SC : St [] W rd rd [(g3, 62, #[.bool a.set, .int .i64 a.key, .int .i64 a.item, .int .i64 a.author, .int .i64 a.seq]), (g5, 62, #[.bool b.set, .int .i64 b.key, .int .i64 b.item, .int .i64 b.author, .int .i64 b.seq])] [] _ := (S.tk 2 0 rfl rfl).rw' rfl rfl
   refine a_take (v := .int .i64 (-1)) 0 rfl rfl (by kernel_rfl) (by kernel_rfl) (by kernel_rfl) SC rfl (y_mv rfl) ?_
   refine a_take (v := .pointer (some ⟨g3, 1, none⟩)) 1 rfl rfl (by kernel_rfl) (by kernel_rfl) (by kernel_rfl) SC rfl (y_fb FA62_1 rfl rfl) ?_
   refine a_take (v := .int .i64 a.key) 2 rfl rfl (by kernel_rfl) (by kernel_rfl) (by kernel_rfl) SC rfl (y_ld rfl (fun w S => ld_b1 (i := 0) S rfl rfl T3)) ?_
   refine a_take (v := .pointer (some ⟨g5, 1, none⟩)) 3 rfl rfl (by kernel_rfl) (by kernel_rfl) (by kernel_rfl) SC rfl (y_fb FA62_1 rfl rfl) ?_
   refine a_take (v := .int .i64 b.key) 4 rfl rfl (by kernel_rfl) (by kernel_rfl) (by kernel_rfl) SC rfl (y_ld rfl (fun w S => ld_b1 (i := 1) S rfl rfl T3)) ?_
   refine a_take (v := .pointer (some ⟨g3, 2, none⟩)) 6 rfl rfl (by kernel_rfl) (by kernel_rfl) (by kernel_rfl) SC rfl (y_fb FA62_2 rfl rfl) ?_
   refine a_take (v := .int .i64 a.item) 7 rfl rfl (by kernel_rfl) (by kernel_rfl) (by kernel_rfl) SC rfl (y_ld rfl (fun w S => ld_b1 (i := 0) S rfl rfl T3)) ?_
   refine a_take (v := .pointer (some ⟨g5, 2, none⟩)) 8 rfl rfl (by kernel_rfl) (by kernel_rfl) (by kernel_rfl) SC rfl (y_fb FA62_2 rfl rfl) ?_
   refine a_take (v := .int .i64 b.item) 9 rfl rfl (by kernel_rfl) (by kernel_rfl) (by kernel_rfl) SC rfl (y_ld rfl (fun w S => ld_b1 (i := 1) S rfl rfl T3)) ?_
   refine a_take (v := .pointer (some ⟨g3, 3, none⟩)) 11 rfl rfl (by kernel_rfl) (by kernel_rfl) (by kernel_rfl) SC rfl (y_fb FA62_3 rfl rfl) ?_
   refine a_take (v := .int .i64 a.author) 12 rfl rfl (by kernel_rfl) (by kernel_rfl) (by kernel_rfl) SC rfl (y_ld rfl (fun w S => ld_b1 (i := 0) S rfl rfl T3)) ?_
   refine a_take (v := .pointer (some ⟨g5, 3, none⟩)) 13 rfl rfl (by kernel_rfl) (by kernel_rfl) (by kernel_rfl) SC rfl (y_fb FA62_3 rfl rfl) ?_
   refine a_take (v := .int .i64 b.author) 14 rfl rfl (by kernel_rfl) (by kernel_rfl) (by kernel_rfl) SC rfl (y_ld rfl (fun w S => ld_b1 (i := 1) S rfl rfl T3)) ?_
   refine a_take (v := .pointer (some ⟨g3, 4, none⟩)) 16 rfl rfl (by kernel_rfl) (by kernel_rfl) (by kernel_rfl) SC rfl (y_fb FA62_4 rfl rfl) ?_
   refine a_take (v := .int .i64 a.seq) 17 rfl rfl (by kernel_rfl) (by kernel_rfl) (by kernel_rfl) SC rfl (y_ld rfl (fun w S => ld_b1 (i := 0) S rfl rfl T3)) ?_
   refine a_take (v := .pointer (some ⟨g5, 4, none⟩)) 18 rfl rfl (by kernel_rfl) (by kernel_rfl) (by kernel_rfl) SC rfl (y_fb FA62_4 rfl rfl) ?_
   refine a_take (v := .int .i64 b.seq) 19 rfl rfl (by kernel_rfl) (by kernel_rfl) (by kernel_rfl) SC rfl (y_ld rfl (fun w S => ld_b1 (i := 1) S rfl rfl T3)) ?_
   refine a_all (rs := [5]) (by kernel_rfl) rfl ?_
   refine aa_cons rfl ?_ ?_
   · -- operation 5
    refine l_c (en_f (vs := [.int .i64 a.key, .int .i64 b.key]) (CF 81 _) rfl rfl) (Compare_c _ _ S.le _ _) ?_
    rintro e w22 ⟨rfl, k⟩
    have S := S.callq k; clear k
    refine ckd ?_
    refine l_nil ?_
    have SC : St [] W rd rd [(g3, 62, #[.bool a.set, .int .i64 a.key, .int .i64 a.item, .int .i64 a.author, .int .i64 a.seq]), (g5, 62, #[.bool b.set, .int .i64 b.key, .int .i64 b.item, .int .i64 b.author, .int .i64 b.seq])] [] _ := (S.tk 2 0 rfl rfl).rw' rfl rfl
    refine n_lp (ak SC ?_)
    refine a_all (rs := [10]) (by kernel_rfl) rfl ?_
    refine aa_cons rfl ?_ ?_
    · -- operation 10
     refine l_c (en_f (vs := [.int .i64 a.item, .int .i64 b.item]) (CF 81 _) rfl rfl) (Compare_c _ _ S.le _ _) ?_
     rintro e w23 ⟨rfl, k⟩
     have S := S.callq k; clear k
     refine ckd ?_
     refine l_nil ?_
     have SC : St [] W rd rd [(g3, 62, #[.bool a.set, .int .i64 a.key, .int .i64 a.item, .int .i64 a.author, .int .i64 a.seq]), (g5, 62, #[.bool b.set, .int .i64 b.key, .int .i64 b.item, .int .i64 b.author, .int .i64 b.seq])] [] _ := (S.tk 2 0 rfl rfl).rw' rfl rfl
     refine n_lp (ak SC ?_)
     refine a_all (rs := [15]) (by kernel_rfl) rfl ?_
     refine aa_cons rfl ?_ ?_
     · -- operation 15
      refine l_c (en_f (vs := [.int .i64 a.author, .int .i64 b.author]) (CF 81 _) rfl rfl) (Compare_c _ _ S.le _ _) ?_
      rintro e w24 ⟨rfl, k⟩
      have S := S.callq k; clear k
      refine ckd ?_
      refine l_nil ?_
      have SC : St [] W rd rd [(g3, 62, #[.bool a.set, .int .i64 a.key, .int .i64 a.item, .int .i64 a.author, .int .i64 a.seq]), (g5, 62, #[.bool b.set, .int .i64 b.key, .int .i64 b.item, .int .i64 b.author, .int .i64 b.seq])] [] _ := (S.tk 2 0 rfl rfl).rw' rfl rfl
      refine n_lp (ak SC ?_)
      refine a_all (rs := [20]) (by kernel_rfl) rfl ?_
      refine aa_cons rfl ?_ ?_
      · -- operation 20
       refine l_c (en_f (vs := [.int .i64 a.seq, .int .i64 b.seq]) (CF 81 _) rfl rfl) (Compare_c _ _ S.le _ _) ?_
       rintro e w25 ⟨rfl, k⟩
       have S := S.callq k; clear k
       refine ckd ?_
       refine l_nil ?_
       have SC : St [] W rd rd [(g3, 62, #[.bool a.set, .int .i64 a.key, .int .i64 a.item, .int .i64 a.author, .int .i64 a.seq]), (g5, 62, #[.bool b.set, .int .i64 b.key, .int .i64 b.item, .int .i64 b.author, .int .i64 b.seq])] [] _ := (S.tk 2 0 rfl rfl).rw' rfl rfl
       refine n_lp (ak SC ?_)
       refine a_all (rs := [21]) (by kernel_rfl) rfl ?_
       refine aa_cons rfl ?_ ?_
       · -- operation 21
        refine l_bs (ps := [(0, .int .i64 (-1)), (1, .int .i64 (cmpI a.key b.key)), (2, .int .i64 (cmpI a.item b.item)), (3, .int .i64 (cmpI a.author b.author)), (4, .int .i64 (cmpI a.seq b.seq))]) (cs := #[.int .i64 (-1), .int .i64 (cmpI a.key b.key), .int .i64 (cmpI a.item b.item), .int .i64 (cmpI a.author b.author), .int .i64 (cmpI a.seq b.seq)]) S U22 SZ3 Z3 rfl rfl rfl (by kernel_rfl) fun g26 w27 S => ?_
        obtain ⟨rd28, S, L29, Fz30⟩ := S.frz' (i := 2) rfl rfl
        have F31 := Fz30 (size := 1) (R := IntR) (xs := ([(-1), cmpI a.key b.key, cmpI a.item b.item, cmpI a.author b.author, cmpI a.seq b.seq] : List Int)) (n := 5) (c := 5) rfl (Nat.le_refl _) (by simp [maxLen]) (rowInts _ ([(-1), cmpI a.key b.key, cmpI a.item b.item, cmpI a.author b.author, cmpI a.seq b.seq] : List Int)); clear Fz30
        refine l_nil ?_
        have SC : St [] W rd rd [(g3, 62, #[.bool a.set, .int .i64 a.key, .int .i64 a.item, .int .i64 a.author, .int .i64 a.seq]), (g5, 62, #[.bool b.set, .int .i64 b.key, .int .i64 b.item, .int .i64 b.author, .int .i64 b.seq])] [] _ := ((S.tk 2 0 rfl rfl).weak sup21 L29).rw' rfl rfl
        refine n_lp (ak SC ?_)
        refine a_all (rs := [22]) (by kernel_rfl) rfl ?_
        refine aa_cons rfl ?_ ?_
        · -- operation 22
         refine l_c (en_f (vs := [.slice (some ⟨g26, 0, none⟩) 5 5]) (CF 80 _) rfl rfl) (Or_c _ _ S.le _ _ F31) ?_
         rintro e w32 ⟨rfl, k⟩
         have S := S.callq k; clear k
         refine ckd ?_
         refine l_nil ?_
         have SC : St [] W rd rd [(g3, 62, #[.bool a.set, .int .i64 a.key, .int .i64 a.item, .int .i64 a.author, .int .i64 a.seq]), (g5, 62, #[.bool b.set, .int .i64 b.key, .int .i64 b.item, .int .i64 b.author, .int .i64 b.seq])] [] _ := ((S.tk 2 0 rfl rfl).weak sup21 L29).rw' rfl rfl
         refine n_lp (ak SC ?_)
         refine a_take (v := .int .i64 (orI ([(-1), cmpI a.key b.key, cmpI a.item b.item, cmpI a.author b.author, cmpI a.seq b.seq] : List Int))) 23 rfl rfl (by kernel_rfl) (by kernel_rfl) (by kernel_rfl) SC rfl (y_as rfl) ?_
         refine a_done (by kernel_rfl) ?_
         clear SC
         refine n_seq ?_
         refine e_trim [(4, .int .i64 (orI ([(-1), cmpI a.key b.key, cmpI a.item b.item, cmpI a.author b.author, cmpI a.seq b.seq] : List Int)))] ⟨⟨rfl, rfl⟩, trivial⟩ (fun junk => ?_)
         refine e_ret ?_
         refine ret1 (v := .int .i64 (orI ([(-1), cmpI a.key b.key, cmpI a.item b.item, cmpI a.author b.author, cmpI a.seq b.seq] : List Int))) rfl rfl ?_
         refine ⟨rint ?_, S.below⟩
         unfold ordL; simp [b7, b8]
        exact aa_nil
       exact aa_nil
      exact aa_nil
     exact aa_nil
    exact aa_nil
   exact aa_nil
 · -- b7 False
  refine l_y (v := .bool false) S (y_bv (y_ld rfl (fun w S => ld_b1 (i := 1) S rfl rfl T4)) b7) ?_
  refine l_y (v := .bool false) S (y_mv rfl) ?_
  refine l_s (d' := 9) rfl rfl ?_
  refine l_s (d' := 9) rfl rfl ?_
  refine l_s (d' := 9) rfl rfl ?_
  refine l_y (v := .bool false) S (y_pF rfl rfl) ?_
  refine l_y (v := .bool false) S (y_as rfl) ?_
  refine l_nil ?_
  refine n_seq ?_
  refine e_cF rfl ?_
  refine e_seq ?_
  refine e_reg ?_
  refine l_y (v := .pointer (some ⟨g3, 0, none⟩)) S (y_fb FA62_0 rfl rfl) ?_
  rcases Bool.eq_false_or_eq_true a.set with b33 | b33
  · -- b33 True
   refine l_y (v := .bool true) S (y_bv (y_ld rfl (fun w S => ld_b1 (i := 0) S rfl rfl T4)) b33) ?_
   refine l_y (v := .bool true) S (y_mv rfl) ?_
   refine l_g (d' := 17) (v := .pointer (some ⟨g5, 0, none⟩)) S (y_fb FA62_0 rfl rfl) rfl rfl ?_
   refine l_g (d' := 17) (v := .bool false) S (y_bv (y_ld rfl (fun w S => ld_b1 (i := 1) S rfl rfl T4)) b7) rfl rfl ?_
   refine l_g (d' := 17) (v := .bool true) S (y_not rfl rfl) rfl rfl ?_
   refine l_y (v := .bool true) S (y_pT rfl rfl) ?_
   refine l_y (v := .bool true) S (y_as rfl) ?_
   refine l_nil ?_
   refine n_seq ?_
   refine e_cT rfl ?_
   refine e_reg ?_
   refine l_y (v := .int .i64 1) S (y_as rfl) ?_
   refine l_nil ?_
   refine n_blk ?_
   refine n_seq ?_
   refine e_seq ?_
   refine e_a (fun w => St [] W rd rd [(g3, 62, #[.bool a.set, .int .i64 a.key, .int .i64 a.item, .int .i64 a.author, .int .i64 a.seq]), (g5, 62, #[.bool b.set, .int .i64 b.key, .int .i64 b.item, .int .i64 b.author, .int .i64 b.seq])] [] w) MX rfl ?_
   have S := S.drew; have sup34 := S.sup
   have SC : St [] W rd rd [(g3, 62, #[.bool a.set, .int .i64 a.key, .int .i64 a.item, .int .i64 a.author, .int .i64 a.seq]), (g5, 62, #[.bool b.set, .int .i64 b.key, .int .i64 b.item, .int .i64 b.author, .int .i64 b.seq])] [] _ := (S.tk 2 0 rfl rfl).rw' rfl rfl
   refine a_take (v := .int .i64 1) 0 rfl rfl (by kernel_rfl) (by kernel_rfl) (by kernel_rfl) SC rfl (y_mv rfl) ?_
   refine a_take (v := .pointer (some ⟨g3, 1, none⟩)) 1 rfl rfl (by kernel_rfl) (by kernel_rfl) (by kernel_rfl) SC rfl (y_fb FA62_1 rfl rfl) ?_
   refine a_take (v := .int .i64 a.key) 2 rfl rfl (by kernel_rfl) (by kernel_rfl) (by kernel_rfl) SC rfl (y_ld rfl (fun w S => ld_b1 (i := 0) S rfl rfl T3)) ?_
   refine a_take (v := .pointer (some ⟨g5, 1, none⟩)) 3 rfl rfl (by kernel_rfl) (by kernel_rfl) (by kernel_rfl) SC rfl (y_fb FA62_1 rfl rfl) ?_
   refine a_take (v := .int .i64 b.key) 4 rfl rfl (by kernel_rfl) (by kernel_rfl) (by kernel_rfl) SC rfl (y_ld rfl (fun w S => ld_b1 (i := 1) S rfl rfl T3)) ?_
   refine a_take (v := .pointer (some ⟨g3, 2, none⟩)) 6 rfl rfl (by kernel_rfl) (by kernel_rfl) (by kernel_rfl) SC rfl (y_fb FA62_2 rfl rfl) ?_
   refine a_take (v := .int .i64 a.item) 7 rfl rfl (by kernel_rfl) (by kernel_rfl) (by kernel_rfl) SC rfl (y_ld rfl (fun w S => ld_b1 (i := 0) S rfl rfl T3)) ?_
   refine a_take (v := .pointer (some ⟨g5, 2, none⟩)) 8 rfl rfl (by kernel_rfl) (by kernel_rfl) (by kernel_rfl) SC rfl (y_fb FA62_2 rfl rfl) ?_
   refine a_take (v := .int .i64 b.item) 9 rfl rfl (by kernel_rfl) (by kernel_rfl) (by kernel_rfl) SC rfl (y_ld rfl (fun w S => ld_b1 (i := 1) S rfl rfl T3)) ?_
   refine a_take (v := .pointer (some ⟨g3, 3, none⟩)) 11 rfl rfl (by kernel_rfl) (by kernel_rfl) (by kernel_rfl) SC rfl (y_fb FA62_3 rfl rfl) ?_
   refine a_take (v := .int .i64 a.author) 12 rfl rfl (by kernel_rfl) (by kernel_rfl) (by kernel_rfl) SC rfl (y_ld rfl (fun w S => ld_b1 (i := 0) S rfl rfl T3)) ?_
   refine a_take (v := .pointer (some ⟨g5, 3, none⟩)) 13 rfl rfl (by kernel_rfl) (by kernel_rfl) (by kernel_rfl) SC rfl (y_fb FA62_3 rfl rfl) ?_
   refine a_take (v := .int .i64 b.author) 14 rfl rfl (by kernel_rfl) (by kernel_rfl) (by kernel_rfl) SC rfl (y_ld rfl (fun w S => ld_b1 (i := 1) S rfl rfl T3)) ?_
   refine a_take (v := .pointer (some ⟨g3, 4, none⟩)) 16 rfl rfl (by kernel_rfl) (by kernel_rfl) (by kernel_rfl) SC rfl (y_fb FA62_4 rfl rfl) ?_
   refine a_take (v := .int .i64 a.seq) 17 rfl rfl (by kernel_rfl) (by kernel_rfl) (by kernel_rfl) SC rfl (y_ld rfl (fun w S => ld_b1 (i := 0) S rfl rfl T3)) ?_
   refine a_take (v := .pointer (some ⟨g5, 4, none⟩)) 18 rfl rfl (by kernel_rfl) (by kernel_rfl) (by kernel_rfl) SC rfl (y_fb FA62_4 rfl rfl) ?_
   refine a_take (v := .int .i64 b.seq) 19 rfl rfl (by kernel_rfl) (by kernel_rfl) (by kernel_rfl) SC rfl (y_ld rfl (fun w S => ld_b1 (i := 1) S rfl rfl T3)) ?_
   refine a_all (rs := [5]) (by kernel_rfl) rfl ?_
   refine aa_cons rfl ?_ ?_
   · -- operation 5
    refine l_c (en_f (vs := [.int .i64 a.key, .int .i64 b.key]) (CF 81 _) rfl rfl) (Compare_c _ _ S.le _ _) ?_
    rintro e w35 ⟨rfl, k⟩
    have S := S.callq k; clear k
    refine ckd ?_
    refine l_nil ?_
    have SC : St [] W rd rd [(g3, 62, #[.bool a.set, .int .i64 a.key, .int .i64 a.item, .int .i64 a.author, .int .i64 a.seq]), (g5, 62, #[.bool b.set, .int .i64 b.key, .int .i64 b.item, .int .i64 b.author, .int .i64 b.seq])] [] _ := (S.tk 2 0 rfl rfl).rw' rfl rfl
    refine n_lp (ak SC ?_)
    refine a_all (rs := [10]) (by kernel_rfl) rfl ?_
    refine aa_cons rfl ?_ ?_
    · -- operation 10
     refine l_c (en_f (vs := [.int .i64 a.item, .int .i64 b.item]) (CF 81 _) rfl rfl) (Compare_c _ _ S.le _ _) ?_
     rintro e w36 ⟨rfl, k⟩
     have S := S.callq k; clear k
     refine ckd ?_
     refine l_nil ?_
     have SC : St [] W rd rd [(g3, 62, #[.bool a.set, .int .i64 a.key, .int .i64 a.item, .int .i64 a.author, .int .i64 a.seq]), (g5, 62, #[.bool b.set, .int .i64 b.key, .int .i64 b.item, .int .i64 b.author, .int .i64 b.seq])] [] _ := (S.tk 2 0 rfl rfl).rw' rfl rfl
     refine n_lp (ak SC ?_)
     refine a_all (rs := [15]) (by kernel_rfl) rfl ?_
     refine aa_cons rfl ?_ ?_
     · -- operation 15
      refine l_c (en_f (vs := [.int .i64 a.author, .int .i64 b.author]) (CF 81 _) rfl rfl) (Compare_c _ _ S.le _ _) ?_
      rintro e w37 ⟨rfl, k⟩
      have S := S.callq k; clear k
      refine ckd ?_
      refine l_nil ?_
      have SC : St [] W rd rd [(g3, 62, #[.bool a.set, .int .i64 a.key, .int .i64 a.item, .int .i64 a.author, .int .i64 a.seq]), (g5, 62, #[.bool b.set, .int .i64 b.key, .int .i64 b.item, .int .i64 b.author, .int .i64 b.seq])] [] _ := (S.tk 2 0 rfl rfl).rw' rfl rfl
      refine n_lp (ak SC ?_)
      refine a_all (rs := [20]) (by kernel_rfl) rfl ?_
      refine aa_cons rfl ?_ ?_
      · -- operation 20
       refine l_c (en_f (vs := [.int .i64 a.seq, .int .i64 b.seq]) (CF 81 _) rfl rfl) (Compare_c _ _ S.le _ _) ?_
       rintro e w38 ⟨rfl, k⟩
       have S := S.callq k; clear k
       refine ckd ?_
       refine l_nil ?_
       have SC : St [] W rd rd [(g3, 62, #[.bool a.set, .int .i64 a.key, .int .i64 a.item, .int .i64 a.author, .int .i64 a.seq]), (g5, 62, #[.bool b.set, .int .i64 b.key, .int .i64 b.item, .int .i64 b.author, .int .i64 b.seq])] [] _ := (S.tk 2 0 rfl rfl).rw' rfl rfl
       refine n_lp (ak SC ?_)
       refine a_all (rs := [21]) (by kernel_rfl) rfl ?_
       refine aa_cons rfl ?_ ?_
       · -- operation 21
        refine l_bs (ps := [(0, .int .i64 1), (1, .int .i64 (cmpI a.key b.key)), (2, .int .i64 (cmpI a.item b.item)), (3, .int .i64 (cmpI a.author b.author)), (4, .int .i64 (cmpI a.seq b.seq))]) (cs := #[.int .i64 1, .int .i64 (cmpI a.key b.key), .int .i64 (cmpI a.item b.item), .int .i64 (cmpI a.author b.author), .int .i64 (cmpI a.seq b.seq)]) S U22 SZ3 Z3 rfl rfl rfl (by kernel_rfl) fun g39 w40 S => ?_
        obtain ⟨rd41, S, L42, Fz43⟩ := S.frz' (i := 2) rfl rfl
        have F44 := Fz43 (size := 1) (R := IntR) (xs := ([1, cmpI a.key b.key, cmpI a.item b.item, cmpI a.author b.author, cmpI a.seq b.seq] : List Int)) (n := 5) (c := 5) rfl (Nat.le_refl _) (by simp [maxLen]) (rowInts _ ([1, cmpI a.key b.key, cmpI a.item b.item, cmpI a.author b.author, cmpI a.seq b.seq] : List Int)); clear Fz43
        refine l_nil ?_
        have SC : St [] W rd rd [(g3, 62, #[.bool a.set, .int .i64 a.key, .int .i64 a.item, .int .i64 a.author, .int .i64 a.seq]), (g5, 62, #[.bool b.set, .int .i64 b.key, .int .i64 b.item, .int .i64 b.author, .int .i64 b.seq])] [] _ := ((S.tk 2 0 rfl rfl).weak sup34 L42).rw' rfl rfl
        refine n_lp (ak SC ?_)
        refine a_all (rs := [22]) (by kernel_rfl) rfl ?_
        refine aa_cons rfl ?_ ?_
        · -- operation 22
         refine l_c (en_f (vs := [.slice (some ⟨g39, 0, none⟩) 5 5]) (CF 80 _) rfl rfl) (Or_c _ _ S.le _ _ F44) ?_
         rintro e w45 ⟨rfl, k⟩
         have S := S.callq k; clear k
         refine ckd ?_
         refine l_nil ?_
         have SC : St [] W rd rd [(g3, 62, #[.bool a.set, .int .i64 a.key, .int .i64 a.item, .int .i64 a.author, .int .i64 a.seq]), (g5, 62, #[.bool b.set, .int .i64 b.key, .int .i64 b.item, .int .i64 b.author, .int .i64 b.seq])] [] _ := ((S.tk 2 0 rfl rfl).weak sup34 L42).rw' rfl rfl
         refine n_lp (ak SC ?_)
         refine a_take (v := .int .i64 (orI ([1, cmpI a.key b.key, cmpI a.item b.item, cmpI a.author b.author, cmpI a.seq b.seq] : List Int))) 23 rfl rfl (by kernel_rfl) (by kernel_rfl) (by kernel_rfl) SC rfl (y_as rfl) ?_
         refine a_done (by kernel_rfl) ?_
         clear SC
         refine n_seq ?_
         refine e_trim [(4, .int .i64 (orI ([1, cmpI a.key b.key, cmpI a.item b.item, cmpI a.author b.author, cmpI a.seq b.seq] : List Int)))] ⟨⟨rfl, rfl⟩, trivial⟩ (fun junk => ?_)
         refine e_ret ?_
         refine ret1 (v := .int .i64 (orI ([1, cmpI a.key b.key, cmpI a.item b.item, cmpI a.author b.author, cmpI a.seq b.seq] : List Int))) rfl rfl ?_
         refine ⟨rint ?_, S.below⟩
         unfold ordL; simp [b7, b33]
        exact aa_nil
       exact aa_nil
      exact aa_nil
     exact aa_nil
    exact aa_nil
   exact aa_nil
  · -- b33 False
   refine l_y (v := .bool false) S (y_bv (y_ld rfl (fun w S => ld_b1 (i := 0) S rfl rfl T4)) b33) ?_
   refine l_y (v := .bool false) S (y_mv rfl) ?_
   refine l_s (d' := 17) rfl rfl ?_
   refine l_s (d' := 17) rfl rfl ?_
   refine l_s (d' := 17) rfl rfl ?_
   refine l_y (v := .bool false) S (y_pF rfl rfl) ?_
   refine l_y (v := .bool false) S (y_as rfl) ?_
   refine l_nil ?_
   refine n_seq ?_
   refine e_cF rfl ?_
   refine e_skip ?_
   refine n_blk ?_
   refine n_seq ?_
   refine e_seq ?_
   refine e_a (fun w => St [] W rd rd [(g3, 62, #[.bool a.set, .int .i64 a.key, .int .i64 a.item, .int .i64 a.author, .int .i64 a.seq]), (g5, 62, #[.bool b.set, .int .i64 b.key, .int .i64 b.item, .int .i64 b.author, .int .i64 b.seq])] [] w) MX rfl ?_
   have S := S.drew; have sup46 := S.sup
   have SC : St [] W rd rd [(g3, 62, #[.bool a.set, .int .i64 a.key, .int .i64 a.item, .int .i64 a.author, .int .i64 a.seq]), (g5, 62, #[.bool b.set, .int .i64 b.key, .int .i64 b.item, .int .i64 b.author, .int .i64 b.seq])] [] _ := (S.tk 2 0 rfl rfl).rw' rfl rfl
   refine a_take (v := .int .i64 0) 0 rfl rfl (by kernel_rfl) (by kernel_rfl) (by kernel_rfl) SC rfl (y_mv rfl) ?_
   refine a_take (v := .pointer (some ⟨g3, 1, none⟩)) 1 rfl rfl (by kernel_rfl) (by kernel_rfl) (by kernel_rfl) SC rfl (y_fb FA62_1 rfl rfl) ?_
   refine a_take (v := .int .i64 a.key) 2 rfl rfl (by kernel_rfl) (by kernel_rfl) (by kernel_rfl) SC rfl (y_ld rfl (fun w S => ld_b1 (i := 0) S rfl rfl T3)) ?_
   refine a_take (v := .pointer (some ⟨g5, 1, none⟩)) 3 rfl rfl (by kernel_rfl) (by kernel_rfl) (by kernel_rfl) SC rfl (y_fb FA62_1 rfl rfl) ?_
   refine a_take (v := .int .i64 b.key) 4 rfl rfl (by kernel_rfl) (by kernel_rfl) (by kernel_rfl) SC rfl (y_ld rfl (fun w S => ld_b1 (i := 1) S rfl rfl T3)) ?_
   refine a_take (v := .pointer (some ⟨g3, 2, none⟩)) 6 rfl rfl (by kernel_rfl) (by kernel_rfl) (by kernel_rfl) SC rfl (y_fb FA62_2 rfl rfl) ?_
   refine a_take (v := .int .i64 a.item) 7 rfl rfl (by kernel_rfl) (by kernel_rfl) (by kernel_rfl) SC rfl (y_ld rfl (fun w S => ld_b1 (i := 0) S rfl rfl T3)) ?_
   refine a_take (v := .pointer (some ⟨g5, 2, none⟩)) 8 rfl rfl (by kernel_rfl) (by kernel_rfl) (by kernel_rfl) SC rfl (y_fb FA62_2 rfl rfl) ?_
   refine a_take (v := .int .i64 b.item) 9 rfl rfl (by kernel_rfl) (by kernel_rfl) (by kernel_rfl) SC rfl (y_ld rfl (fun w S => ld_b1 (i := 1) S rfl rfl T3)) ?_
   refine a_take (v := .pointer (some ⟨g3, 3, none⟩)) 11 rfl rfl (by kernel_rfl) (by kernel_rfl) (by kernel_rfl) SC rfl (y_fb FA62_3 rfl rfl) ?_
   refine a_take (v := .int .i64 a.author) 12 rfl rfl (by kernel_rfl) (by kernel_rfl) (by kernel_rfl) SC rfl (y_ld rfl (fun w S => ld_b1 (i := 0) S rfl rfl T3)) ?_
   refine a_take (v := .pointer (some ⟨g5, 3, none⟩)) 13 rfl rfl (by kernel_rfl) (by kernel_rfl) (by kernel_rfl) SC rfl (y_fb FA62_3 rfl rfl) ?_
   refine a_take (v := .int .i64 b.author) 14 rfl rfl (by kernel_rfl) (by kernel_rfl) (by kernel_rfl) SC rfl (y_ld rfl (fun w S => ld_b1 (i := 1) S rfl rfl T3)) ?_
   refine a_take (v := .pointer (some ⟨g3, 4, none⟩)) 16 rfl rfl (by kernel_rfl) (by kernel_rfl) (by kernel_rfl) SC rfl (y_fb FA62_4 rfl rfl) ?_
   refine a_take (v := .int .i64 a.seq) 17 rfl rfl (by kernel_rfl) (by kernel_rfl) (by kernel_rfl) SC rfl (y_ld rfl (fun w S => ld_b1 (i := 0) S rfl rfl T3)) ?_
   refine a_take (v := .pointer (some ⟨g5, 4, none⟩)) 18 rfl rfl (by kernel_rfl) (by kernel_rfl) (by kernel_rfl) SC rfl (y_fb FA62_4 rfl rfl) ?_
   refine a_take (v := .int .i64 b.seq) 19 rfl rfl (by kernel_rfl) (by kernel_rfl) (by kernel_rfl) SC rfl (y_ld rfl (fun w S => ld_b1 (i := 1) S rfl rfl T3)) ?_
   refine a_all (rs := [5]) (by kernel_rfl) rfl ?_
   refine aa_cons rfl ?_ ?_
   · -- operation 5
    refine l_c (en_f (vs := [.int .i64 a.key, .int .i64 b.key]) (CF 81 _) rfl rfl) (Compare_c _ _ S.le _ _) ?_
    rintro e w47 ⟨rfl, k⟩
    have S := S.callq k; clear k
    refine ckd ?_
    refine l_nil ?_
    have SC : St [] W rd rd [(g3, 62, #[.bool a.set, .int .i64 a.key, .int .i64 a.item, .int .i64 a.author, .int .i64 a.seq]), (g5, 62, #[.bool b.set, .int .i64 b.key, .int .i64 b.item, .int .i64 b.author, .int .i64 b.seq])] [] _ := (S.tk 2 0 rfl rfl).rw' rfl rfl
    refine n_lp (ak SC ?_)
    refine a_all (rs := [10]) (by kernel_rfl) rfl ?_
    refine aa_cons rfl ?_ ?_
    · -- operation 10
     refine l_c (en_f (vs := [.int .i64 a.item, .int .i64 b.item]) (CF 81 _) rfl rfl) (Compare_c _ _ S.le _ _) ?_
     rintro e w48 ⟨rfl, k⟩
     have S := S.callq k; clear k
     refine ckd ?_
     refine l_nil ?_
     have SC : St [] W rd rd [(g3, 62, #[.bool a.set, .int .i64 a.key, .int .i64 a.item, .int .i64 a.author, .int .i64 a.seq]), (g5, 62, #[.bool b.set, .int .i64 b.key, .int .i64 b.item, .int .i64 b.author, .int .i64 b.seq])] [] _ := (S.tk 2 0 rfl rfl).rw' rfl rfl
     refine n_lp (ak SC ?_)
     refine a_all (rs := [15]) (by kernel_rfl) rfl ?_
     refine aa_cons rfl ?_ ?_
     · -- operation 15
      refine l_c (en_f (vs := [.int .i64 a.author, .int .i64 b.author]) (CF 81 _) rfl rfl) (Compare_c _ _ S.le _ _) ?_
      rintro e w49 ⟨rfl, k⟩
      have S := S.callq k; clear k
      refine ckd ?_
      refine l_nil ?_
      have SC : St [] W rd rd [(g3, 62, #[.bool a.set, .int .i64 a.key, .int .i64 a.item, .int .i64 a.author, .int .i64 a.seq]), (g5, 62, #[.bool b.set, .int .i64 b.key, .int .i64 b.item, .int .i64 b.author, .int .i64 b.seq])] [] _ := (S.tk 2 0 rfl rfl).rw' rfl rfl
      refine n_lp (ak SC ?_)
      refine a_all (rs := [20]) (by kernel_rfl) rfl ?_
      refine aa_cons rfl ?_ ?_
      · -- operation 20
       refine l_c (en_f (vs := [.int .i64 a.seq, .int .i64 b.seq]) (CF 81 _) rfl rfl) (Compare_c _ _ S.le _ _) ?_
       rintro e w50 ⟨rfl, k⟩
       have S := S.callq k; clear k
       refine ckd ?_
       refine l_nil ?_
       have SC : St [] W rd rd [(g3, 62, #[.bool a.set, .int .i64 a.key, .int .i64 a.item, .int .i64 a.author, .int .i64 a.seq]), (g5, 62, #[.bool b.set, .int .i64 b.key, .int .i64 b.item, .int .i64 b.author, .int .i64 b.seq])] [] _ := (S.tk 2 0 rfl rfl).rw' rfl rfl
       refine n_lp (ak SC ?_)
       refine a_all (rs := [21]) (by kernel_rfl) rfl ?_
       refine aa_cons rfl ?_ ?_
       · -- operation 21
        refine l_bs (ps := [(0, .int .i64 0), (1, .int .i64 (cmpI a.key b.key)), (2, .int .i64 (cmpI a.item b.item)), (3, .int .i64 (cmpI a.author b.author)), (4, .int .i64 (cmpI a.seq b.seq))]) (cs := #[.int .i64 0, .int .i64 (cmpI a.key b.key), .int .i64 (cmpI a.item b.item), .int .i64 (cmpI a.author b.author), .int .i64 (cmpI a.seq b.seq)]) S U22 SZ3 Z3 rfl rfl rfl (by kernel_rfl) fun g51 w52 S => ?_
        obtain ⟨rd53, S, L54, Fz55⟩ := S.frz' (i := 2) rfl rfl
        have F56 := Fz55 (size := 1) (R := IntR) (xs := ([0, cmpI a.key b.key, cmpI a.item b.item, cmpI a.author b.author, cmpI a.seq b.seq] : List Int)) (n := 5) (c := 5) rfl (Nat.le_refl _) (by simp [maxLen]) (rowInts _ ([0, cmpI a.key b.key, cmpI a.item b.item, cmpI a.author b.author, cmpI a.seq b.seq] : List Int)); clear Fz55
        refine l_nil ?_
        have SC : St [] W rd rd [(g3, 62, #[.bool a.set, .int .i64 a.key, .int .i64 a.item, .int .i64 a.author, .int .i64 a.seq]), (g5, 62, #[.bool b.set, .int .i64 b.key, .int .i64 b.item, .int .i64 b.author, .int .i64 b.seq])] [] _ := ((S.tk 2 0 rfl rfl).weak sup46 L54).rw' rfl rfl
        refine n_lp (ak SC ?_)
        refine a_all (rs := [22]) (by kernel_rfl) rfl ?_
        refine aa_cons rfl ?_ ?_
        · -- operation 22
         refine l_c (en_f (vs := [.slice (some ⟨g51, 0, none⟩) 5 5]) (CF 80 _) rfl rfl) (Or_c _ _ S.le _ _ F56) ?_
         rintro e w57 ⟨rfl, k⟩
         have S := S.callq k; clear k
         refine ckd ?_
         refine l_nil ?_
         have SC : St [] W rd rd [(g3, 62, #[.bool a.set, .int .i64 a.key, .int .i64 a.item, .int .i64 a.author, .int .i64 a.seq]), (g5, 62, #[.bool b.set, .int .i64 b.key, .int .i64 b.item, .int .i64 b.author, .int .i64 b.seq])] [] _ := ((S.tk 2 0 rfl rfl).weak sup46 L54).rw' rfl rfl
         refine n_lp (ak SC ?_)
         refine a_take (v := .int .i64 (orI ([0, cmpI a.key b.key, cmpI a.item b.item, cmpI a.author b.author, cmpI a.seq b.seq] : List Int))) 23 rfl rfl (by kernel_rfl) (by kernel_rfl) (by kernel_rfl) SC rfl (y_as rfl) ?_
         refine a_done (by kernel_rfl) ?_
         clear SC
         refine n_seq ?_
         refine e_trim [(4, .int .i64 (orI ([0, cmpI a.key b.key, cmpI a.item b.item, cmpI a.author b.author, cmpI a.seq b.seq] : List Int)))] ⟨⟨rfl, rfl⟩, trivial⟩ (fun junk => ?_)
         refine e_ret ?_
         refine ret1 (v := .int .i64 (orI ([0, cmpI a.key b.key, cmpI a.item b.item, cmpI a.author b.author, cmpI a.seq b.seq] : List Int))) rfl rfl ?_
         refine ⟨rint ?_, S.below⟩
         unfold ordL; simp [b7, b33]
        exact aa_nil
       exact aa_nil
      exact aa_nil
     exact aa_nil
    exact aa_nil
   exact aa_nil

set_option maxRecDepth 100000 in
theorem Tally_c (rd : Rd) (W : World) (hle : Rd.le rd (wrd W)) (v u : Value) (a b : Tally) (h1 : AggR TallyR rd v a) (h2 : AggR TallyR rd u b) :
    Calls Try.prog 42 #[v, u] W (fun e w' => e = .returned (.int .i64 (ordT a b)) ∧ Below W.heap.size W w') := by
 obtain ⟨vs1, h1e, h1⟩ := h1; subst h1e
 have h1e : vs1 = [.int .i64 a.key, .int .i64 a.author, .int .i64 a.sum] := h1; subst h1e; clear h1
 obtain ⟨vs2, h2e, h2⟩ := h2; subst h2e
 have h2e : vs2 = [.int .i64 b.key, .int .i64 b.author, .int .i64 b.sum] := h2; subst h2e; clear h2
 have hmx : maxLen = 9223372036854775807 := rfl
 have S : St [] W rd rd [] [] W := St.start hle
 refine e_enter (args := [.agg #[.int .i64 a.key, .int .i64 a.author, .int .i64 a.sum], .agg #[.int .i64 b.key, .int .i64 b.author, .int .i64 b.sum]]) 17 Try.func42 rfl rfl rfl ?_
 refine e_seq ?_
 refine e_reg ?_
 refine l_bx (u := .agg #[.int .i64 a.key, .int .i64 a.author, .int .i64 a.sum]) (cs := #[.int .i64 a.key, .int .i64 a.author, .int .i64 a.sum]) S rfl rfl fun g3 w4 S => ?_
 refine l_bx (u := .agg #[.int .i64 b.key, .int .i64 b.author, .int .i64 b.sum]) (cs := #[.int .i64 b.key, .int .i64 b.author, .int .i64 b.sum]) S rfl rfl fun g5 w6 S => ?_
 refine l_y (v := .int .i64 0) S (y_as rfl) ?_
 refine l_nil ?_
 refine n_seq ?_
 refine e_seq ?_
 refine e_a (fun w => St [] W rd rd [(g3, 82, #[.int .i64 a.key, .int .i64 a.author, .int .i64 a.sum]), (g5, 82, #[.int .i64 b.key, .int .i64 b.author, .int .i64 b.sum])] [] w) MX rfl ?_
 have S := S.drew; have sup7 := S.sup
 have SC : St [] W rd rd [(g3, 82, #[.int .i64 a.key, .int .i64 a.author, .int .i64 a.sum]), (g5, 82, #[.int .i64 b.key, .int .i64 b.author, .int .i64 b.sum])] [] _ := (S.tk 2 0 rfl rfl).rw' rfl rfl
 refine a_take (v := .pointer (some ⟨g3, 0, none⟩)) 0 rfl rfl (by kernel_rfl) (by kernel_rfl) (by kernel_rfl) SC rfl (y_fb FA82_0 rfl rfl) ?_
 refine a_take (v := .int .i64 a.key) 1 rfl rfl (by kernel_rfl) (by kernel_rfl) (by kernel_rfl) SC rfl (y_ld rfl (fun w S => ld_b1 (i := 0) S rfl rfl T3)) ?_
 refine a_take (v := .pointer (some ⟨g5, 0, none⟩)) 2 rfl rfl (by kernel_rfl) (by kernel_rfl) (by kernel_rfl) SC rfl (y_fb FA82_0 rfl rfl) ?_
 refine a_take (v := .int .i64 b.key) 3 rfl rfl (by kernel_rfl) (by kernel_rfl) (by kernel_rfl) SC rfl (y_ld rfl (fun w S => ld_b1 (i := 1) S rfl rfl T3)) ?_
 refine a_take (v := .pointer (some ⟨g3, 1, none⟩)) 5 rfl rfl (by kernel_rfl) (by kernel_rfl) (by kernel_rfl) SC rfl (y_fb FA82_1 rfl rfl) ?_
 refine a_take (v := .int .i64 a.author) 6 rfl rfl (by kernel_rfl) (by kernel_rfl) (by kernel_rfl) SC rfl (y_ld rfl (fun w S => ld_b1 (i := 0) S rfl rfl T3)) ?_
 refine a_take (v := .pointer (some ⟨g5, 1, none⟩)) 7 rfl rfl (by kernel_rfl) (by kernel_rfl) (by kernel_rfl) SC rfl (y_fb FA82_1 rfl rfl) ?_
 refine a_take (v := .int .i64 b.author) 8 rfl rfl (by kernel_rfl) (by kernel_rfl) (by kernel_rfl) SC rfl (y_ld rfl (fun w S => ld_b1 (i := 1) S rfl rfl T3)) ?_
 refine a_all (rs := [4]) (by kernel_rfl) rfl ?_
 refine aa_cons rfl ?_ ?_
 · -- operation 4
  refine l_c (en_f (vs := [.int .i64 a.key, .int .i64 b.key]) (CF 81 _) rfl rfl) (Compare_c _ _ S.le _ _) ?_
  rintro e w8 ⟨rfl, k⟩
  have S := S.callq k; clear k
  refine ckd ?_
  refine l_nil ?_
  have SC : St [] W rd rd [(g3, 82, #[.int .i64 a.key, .int .i64 a.author, .int .i64 a.sum]), (g5, 82, #[.int .i64 b.key, .int .i64 b.author, .int .i64 b.sum])] [] _ := (S.tk 2 0 rfl rfl).rw' rfl rfl
  refine n_lp (ak SC ?_)
  refine a_all (rs := [9]) (by kernel_rfl) rfl ?_
  refine aa_cons rfl ?_ ?_
  · -- operation 9
   refine l_c (en_f (vs := [.int .i64 a.author, .int .i64 b.author]) (CF 81 _) rfl rfl) (Compare_c _ _ S.le _ _) ?_
   rintro e w9 ⟨rfl, k⟩
   have S := S.callq k; clear k
   refine ckd ?_
   refine l_nil ?_
   have SC : St [] W rd rd [(g3, 82, #[.int .i64 a.key, .int .i64 a.author, .int .i64 a.sum]), (g5, 82, #[.int .i64 b.key, .int .i64 b.author, .int .i64 b.sum])] [] _ := (S.tk 2 0 rfl rfl).rw' rfl rfl
   refine n_lp (ak SC ?_)
   refine a_all (rs := [10]) (by kernel_rfl) rfl ?_
   refine aa_cons rfl ?_ ?_
   · -- operation 10
    refine l_bs (ps := [(0, .int .i64 (cmpI a.key b.key)), (1, .int .i64 (cmpI a.author b.author))]) (cs := #[.int .i64 (cmpI a.key b.key), .int .i64 (cmpI a.author b.author)]) S U22 SZ3 Z3 rfl rfl rfl (by kernel_rfl) fun g10 w11 S => ?_
    obtain ⟨rd12, S, L13, Fz14⟩ := S.frz' (i := 2) rfl rfl
    have F15 := Fz14 (size := 1) (R := IntR) (xs := ([cmpI a.key b.key, cmpI a.author b.author] : List Int)) (n := 2) (c := 2) rfl (Nat.le_refl _) (by simp [maxLen]) (rowInts _ ([cmpI a.key b.key, cmpI a.author b.author] : List Int)); clear Fz14
    refine l_nil ?_
    have SC : St [] W rd rd [(g3, 82, #[.int .i64 a.key, .int .i64 a.author, .int .i64 a.sum]), (g5, 82, #[.int .i64 b.key, .int .i64 b.author, .int .i64 b.sum])] [] _ := ((S.tk 2 0 rfl rfl).weak sup7 L13).rw' rfl rfl
    refine n_lp (ak SC ?_)
    refine a_all (rs := [11]) (by kernel_rfl) rfl ?_
    refine aa_cons rfl ?_ ?_
    · -- operation 11
     refine l_c (en_f (vs := [.slice (some ⟨g10, 0, none⟩) 2 2]) (CF 80 _) rfl rfl) (Or_c _ _ S.le _ _ F15) ?_
     rintro e w16 ⟨rfl, k⟩
     have S := S.callq k; clear k
     refine ckd ?_
     refine l_nil ?_
     have SC : St [] W rd rd [(g3, 82, #[.int .i64 a.key, .int .i64 a.author, .int .i64 a.sum]), (g5, 82, #[.int .i64 b.key, .int .i64 b.author, .int .i64 b.sum])] [] _ := ((S.tk 2 0 rfl rfl).weak sup7 L13).rw' rfl rfl
     refine n_lp (ak SC ?_)
     refine a_take (v := .int .i64 (orI ([cmpI a.key b.key, cmpI a.author b.author] : List Int))) 12 rfl rfl (by kernel_rfl) (by kernel_rfl) (by kernel_rfl) SC rfl (y_as rfl) ?_
     refine a_done (by kernel_rfl) ?_
     clear SC
     refine n_seq ?_
     refine e_ret ?_
     refine ret1 (v := .int .i64 (orI ([cmpI a.key b.key, cmpI a.author b.author] : List Int))) rfl rfl ?_
     exact ⟨rfl, S.below⟩
    exact aa_nil
   exact aa_nil
  exact aa_nil
 exact aa_nil
end Go.Proofs.Ytkjknlnhffmkkab.D
