/- pruneref4.SameView. -/
import Derived.Test.YtkjknlnhffmkkabEqs
import Derived.Test.YtkjknlnhffmkkabEngE
import Derived.Test.YtkjknlnhffmkkabClock3
namespace Go.Proofs.Ytkjknlnhffmkkab
open Go.RowKit
set_option linter.unusedVariables false
def sameC (a b : List Cell) : Bool := decide (a = b)
def sameV (a b : View) : Bool := decide (a = b)
theorem cell_eq {a b : Cell} (h : a.key = b.key) (k : sameL a.items b.items = true) : a = b := by
  obtain ⟨x, l⟩ := a
  obtain ⟨y, m⟩ := b
  have : l = m := of_decide_eq_true k
  dsimp only at h
  rw [h, this]
theorem view_eq {a b : View} (h1 : sameC a.regs b.regs = true) (h2 : sameC a.sets b.sets = true) (h3 : a.counters = b.counters) : a = b := by
  obtain ⟨x, y, z⟩ := a
  obtain ⟨x', y', z'⟩ := b
  have e1 : x = x' := of_decide_eq_true h1
  have e2 : y = y' := of_decide_eq_true h2
  dsimp only at h3
  rw [e1, e2, h3]
set_option maxRecDepth 100000 in
set_option maxHeartbeats 4000000 in
theorem SameCells_c (rd : Rd) (W : World) (hle : Rd.le rd (wrd W)) (v v2 : Value) (a b : List Cell) (h : SliceR 2 CellR rd v a) (h2 : SliceR 2 CellR rd v2 b) :
    Calls Try.prog 54 #[v, v2] W (fun e w' => e = .returned (.bool (sameC a b)) ∧ Below W.heap.size W w') := by
 obtain ⟨A1, c2, rfl, m3, m3'⟩ := h.val
 obtain ⟨A4, c5, rfl, m6, m6'⟩ := h2.val
 have hmx : maxLen = 9223372036854775807 := rfl
 have S : St [] W rd rd [] [] W := St.start hle
 refine e_enter (args := [.slice A1 a.length c2, .slice A4 b.length c5]) 42 Try.func54 rfl rfl rfl ?_
 refine e_seq ?_
 refine e_reg ?_
 refine l_y (v := .bool false) S (y_as rfl) ?_
 refine l_nil ?_
 refine n_seq ?_
 refine e_seq ?_
 refine e_seq ?_
 refine e_reg ?_
 refine l_y (v := .slice A1 a.length c2) S (y_mv rfl) ?_
 refine l_y (v := .int .i64 (a.length : Int)) S (y_len U41 rfl rfl) ?_
 refine l_y (v := .slice A4 b.length c5) S (y_mv rfl) ?_
 refine l_y (v := .int .i64 (b.length : Int)) S (y_len U41 rfl rfl) ?_
 by_cases hl : (a.length : Int) = (b.length : Int)
 · -- hl yes
  refine l_y (v := .bool false) S (y_neF rfl rfl hl) ?_
  refine l_nil ?_
  refine n_seq ?_
  refine e_cF rfl ?_
  refine e_skip ?_
  refine n_seq ?_
  refine e_seq ?_
  refine e_seq ?_
  refine e_reg ?_
  refine l_y (v := .slice A1 a.length c2) S (y_mv rfl) ?_
  refine l_y (v := .int .i64 (a.length : Int)) S (y_len U41 rfl rfl) ?_
  refine l_y (v := .int .i64 0) S (y_mv rfl) ?_
  refine l_nil ?_
  refine n_seq ?_
  refine e_blk ?_
  refine e_trim [(0, .slice A1 a.length c2), (1, .slice A4 b.length c5), (12, .int .i64 (a.length : Int)), (13, .int .i64 (0 : Int))] ⟨⟨rfl, rfl⟩, ⟨rfl, rfl⟩, ⟨rfl, rfl⟩, ⟨ival (by first | rfl | omega), rfl⟩, trivial⟩ (fun junk => ?_)
  refine e_loop (fun (gh_ : Nat) ov w => match gh_ with | k => ∃ rd' junk, ov = [(0, .slice A1 a.length c2), (1, .slice A4 b.length c5), (12, .int .i64 (a.length : Int)), (13, .int .i64 (k : Int))] ++ junk ∧ St [] W rd rd' [] [] w ∧ Rd.le rd rd' ∧ k ≤ a.length ∧ a.take k = b.take k) (fun gh_ => match gh_ with | k => a.length - k) 0 ⟨_, junk, rfl, (S.rw' rfl rfl), (Rd.le_refl _), (by omega), rfl⟩ ?_
  rintro k ov10 w8 ⟨rd7, junk, rfl, S, L9, hk, hE⟩
  replace h := fm h L9
  replace h2 := fm h2 L9
  refine e_seq ?_
  refine e_reg ?_
  by_cases h11 : (k : Int) < (a.length : Int)
  · -- h11 yes
   refine l_y (v := .bool true) S (y_ltT rfl rfl h11) ?_
   refine l_nil ?_
   refine n_seq ?_
   refine e_seq ?_
   refine e_cT rfl ?_
   refine e_skip ?_
   refine n_seq ?_
   refine e_seq ?_
   refine e_blk ?_
   refine e_seq ?_
   refine e_reg ?_
   refine l_y (v := .int .i64 (k : Int)) S (y_mv rfl) ?_
   refine l_y (v := .int .i64 (k : Int)) S (y_as rfl) ?_
   refine l_nil ?_
   refine n_seq ?_
   refine e_seq ?_
   refine e_q MX (by kernel_rfl) S.drew ?_
   -- draws
   refine q_y (v := .slice A1 a.length c2) (y_mv rfl) ?_
   refine q_y (v := .int .i64 (k : Int)) (y_mv rfl) ?_
   obtain ⟨z12, hz13⟩ : ∃ z, (a)[k]? = some z := nth_of (by first | assumption | omega)
   obtain ⟨p14, vs15, E16, nn17, r18, Y19⟩ := y_ia U41 SZ55 h hz13
   clear nn17
   obtain ⟨sv20, r18e, h21⟩ := r18; subst r18e
   obtain ⟨A22, c23, rfl, m24, m24'⟩ := h21.val
   refine q_y (v := p14) (Y19 rfl rfl (by first | rfl | omega)) ?_
   obtain ⟨p25, Ep25, Yp25⟩ := y_fp (us := [.int .i64 z12.key, .slice A22 z12.items.length c23]) FA55_0 E16 rfl
   refine q_y (v := p25) (Yp25 rfl) ?_
   refine q_y (v := .int .i64 z12.key) (y_ld rfl (fun w S => ld_p1 S.le Ep25 rfl T3)) ?_
   refine q_y (v := .slice A4 b.length c5) (y_mv rfl) ?_
   refine q_y (v := .int .i64 (k : Int)) (y_mv rfl) ?_
   obtain ⟨z26, hz27⟩ : ∃ z, (b)[k]? = some z := nth_of (by first | assumption | omega)
   obtain ⟨p28, vs29, E30, nn31, r32, Y33⟩ := y_ia U41 SZ55 h2 hz27
   clear nn31
   obtain ⟨sv34, r32e, h35⟩ := r32; subst r32e
   obtain ⟨A36, c37, rfl, m38, m38'⟩ := h35.val
   refine q_y (v := p28) (Y33 rfl rfl (by first | rfl | omega)) ?_
   obtain ⟨p39, Ep39, Yp39⟩ := y_fp (us := [.int .i64 z26.key, .slice A36 z26.items.length c37]) FA55_0 E30 rfl
   refine q_y (v := p39) (Yp39 rfl) ?_
   refine q_y (v := .int .i64 z26.key) (y_ld rfl (fun w S => ld_p1 S.le Ep39 rfl T3)) ?_
   by_cases hk_ : z12.key = z26.key
   · -- hk_ yes
    refine q_y (v := .bool false) (y_neF rfl rfl hk_) ?_
    refine q_y (v := .bool false) (y_mv rfl) ?_
    refine q_g (d' := 27) (v := .slice A1 a.length c2) (y_mv rfl) rfl rfl ?_
    refine q_g (d' := 27) (v := .int .i64 (k : Int)) (y_mv rfl) rfl rfl ?_
    obtain ⟨p42, vs43, E44, nn45, r46, Y47⟩ := y_ia U41 SZ55 h hz13
    clear nn45
    obtain ⟨sv48, r46e, h49⟩ := r46; subst r46e
    obtain ⟨A50, c51, rfl, m52, m52'⟩ := h49.val
    refine q_g (d' := 27) (v := p42) (Y47 rfl rfl (by first | rfl | omega)) rfl rfl ?_
    obtain ⟨p53, Ep53, Yp53⟩ := y_fp (us := [.slice A50 z12.items.length c51]) FA55_1 E44 rfl
    refine q_g (d' := 27) (v := p53) (Yp53 rfl) rfl rfl ?_
    refine q_g (d' := 27) (v := .slice A50 z12.items.length c51) (y_ld rfl (fun w S => ld_p1 S.le Ep53 rfl T22)) rfl rfl ?_
    refine q_g (d' := 27) (v := .slice A4 b.length c5) (y_mv rfl) rfl rfl ?_
    refine q_g (d' := 27) (v := .int .i64 (k : Int)) (y_mv rfl) rfl rfl ?_
    obtain ⟨p56, vs57, E58, nn59, r60, Y61⟩ := y_ia U41 SZ55 h2 hz27
    clear nn59
    obtain ⟨sv62, r60e, h63⟩ := r60; subst r60e
    obtain ⟨A64, c65, rfl, m66, m66'⟩ := h63.val
    refine q_g (d' := 27) (v := p56) (Y61 rfl rfl (by first | rfl | omega)) rfl rfl ?_
    obtain ⟨p67, Ep67, Yp67⟩ := y_fp (us := [.slice A64 z26.items.length c65]) FA55_1 E58 rfl
    refine q_g (d' := 27) (v := p67) (Yp67 rfl) rfl rfl ?_
    refine q_g (d' := 27) (v := .slice A64 z26.items.length c65) (y_ld rfl (fun w S => ld_p1 S.le Ep67 rfl T22)) rfl rfl ?_
    cases hs_ : sameL z12.items z26.items
    · -- hs_ False
     refine q_cg (d' := 27) (v := .bool false) (en_f (vs := [.slice A50 z12.items.length c51, .slice A64 z26.items.length c65]) (CF 24 _) rfl rfl) rfl rfl (fun w S => (Same_calls _ _ _ _ _ (fm h49 S.le) (fm h63 S.le)).mono (by rintro e w' ⟨rfl, k⟩; exact ⟨rbool (by assumption), (S.callq k)⟩)) ?_
     refine q_g (d' := 27) (v := .bool true) (y_not rfl rfl) rfl rfl ?_
     refine q_y (v := .bool true) (y_pF rfl rfl) ?_
     refine q_nil fun w68 S => ?_
     refine n_seq ?_
     refine e_trim [(0, .slice A1 a.length c2), (1, .slice A4 b.length c5), (12, .int .i64 (a.length : Int)), (13, .int .i64 (k : Int)), (14, .bool true), (15, .int .i64 (k : Int)), (5, .int .i64 (k : Int)), (16, .slice A1 a.length c2), (17, .int .i64 (k : Int)), (18, p14), (19, p25), (20, .int .i64 z12.key), (21, .slice A4 b.length c5), (22, .int .i64 (k : Int)), (23, p28), (24, p39), (25, .int .i64 z26.key), (26, .bool false), (27, .bool false), (28, .slice A1 a.length c2), (29, .int .i64 (k : Int)), (30, p42), (31, p53), (32, .slice A50 z12.items.length c51), (33, .slice A4 b.length c5), (34, .int .i64 (k : Int)), (35, p56), (36, p67), (37, .slice A64 z26.items.length c65), (38, .bool false), (39, .bool true), (40, .bool true)] ⟨⟨rfl, rfl⟩, ⟨rfl, rfl⟩, ⟨rfl, rfl⟩, ⟨rfl, rfl⟩, ⟨rfl, rfl⟩, ⟨rfl, rfl⟩, ⟨rfl, rfl⟩, ⟨rfl, rfl⟩, ⟨rfl, rfl⟩, ⟨rfl, rfl⟩, ⟨rfl, rfl⟩, ⟨rfl, rfl⟩, ⟨rfl, rfl⟩, ⟨rfl, rfl⟩, ⟨rfl, rfl⟩, ⟨rfl, rfl⟩, ⟨rfl, rfl⟩, ⟨rfl, rfl⟩, ⟨rfl, rfl⟩, ⟨rfl, rfl⟩, ⟨rfl, rfl⟩, ⟨rfl, rfl⟩, ⟨rfl, rfl⟩, ⟨rfl, rfl⟩, ⟨rfl, rfl⟩, ⟨rfl, rfl⟩, ⟨rfl, rfl⟩, ⟨rfl, rfl⟩, ⟨rfl, rfl⟩, ⟨rfl, rfl⟩, ⟨rfl, rfl⟩, ⟨rfl, rfl⟩, trivial⟩ (fun junk => ?_)
     refine e_cT rfl ?_
     refine e_seq ?_
     refine e_reg ?_
     refine l_y (v := .bool false) S (y_as rfl) ?_
     refine l_nil ?_
     refine n_seq ?_
     refine e_ret ?_
     refine ret1 (v := .bool false) rfl rfl ?_
     exact ⟨rbool (decide_eq_false (by rintro rfl; first | exact hl rfl | simp_all [sameL])).symm, S.below⟩
    · -- hs_ True
     refine q_cg (d' := 27) (v := .bool true) (en_f (vs := [.slice A50 z12.items.length c51, .slice A64 z26.items.length c65]) (CF 24 _) rfl rfl) rfl rfl (fun w S => (Same_calls _ _ _ _ _ (fm h49 S.le) (fm h63 S.le)).mono (by rintro e w' ⟨rfl, k⟩; exact ⟨rbool (by assumption), (S.callq k)⟩)) ?_
     refine q_g (d' := 27) (v := .bool false) (y_not rfl rfl) rfl rfl ?_
     refine q_y (v := .bool false) (y_pF rfl rfl) ?_
     refine q_nil fun w69 S => ?_
     refine n_seq ?_
     refine e_trim [(0, .slice A1 a.length c2), (1, .slice A4 b.length c5), (12, .int .i64 (a.length : Int)), (13, .int .i64 (k : Int)), (14, .bool true), (15, .int .i64 (k : Int)), (5, .int .i64 (k : Int)), (16, .slice A1 a.length c2), (17, .int .i64 (k : Int)), (18, p14), (19, p25), (20, .int .i64 z12.key), (21, .slice A4 b.length c5), (22, .int .i64 (k : Int)), (23, p28), (24, p39), (25, .int .i64 z26.key), (26, .bool false), (27, .bool false), (28, .slice A1 a.length c2), (29, .int .i64 (k : Int)), (30, p42), (31, p53), (32, .slice A50 z12.items.length c51), (33, .slice A4 b.length c5), (34, .int .i64 (k : Int)), (35, p56), (36, p67), (37, .slice A64 z26.items.length c65), (38, .bool true), (39, .bool false), (40, .bool false)] ⟨⟨rfl, rfl⟩, ⟨rfl, rfl⟩, ⟨rfl, rfl⟩, ⟨rfl, rfl⟩, ⟨rfl, rfl⟩, ⟨rfl, rfl⟩, ⟨rfl, rfl⟩, ⟨rfl, rfl⟩, ⟨rfl, rfl⟩, ⟨rfl, rfl⟩, ⟨rfl, rfl⟩, ⟨rfl, rfl⟩, ⟨rfl, rfl⟩, ⟨rfl, rfl⟩, ⟨rfl, rfl⟩, ⟨rfl, rfl⟩, ⟨rfl, rfl⟩, ⟨rfl, rfl⟩, ⟨rfl, rfl⟩, ⟨rfl, rfl⟩, ⟨rfl, rfl⟩, ⟨rfl, rfl⟩, ⟨rfl, rfl⟩, ⟨rfl, rfl⟩, ⟨rfl, rfl⟩, ⟨rfl, rfl⟩, ⟨rfl, rfl⟩, ⟨rfl, rfl⟩, ⟨rfl, rfl⟩, ⟨rfl, rfl⟩, ⟨rfl, rfl⟩, ⟨rfl, rfl⟩, trivial⟩ (fun junk => ?_)
     refine e_cF rfl ?_
     refine e_skip ?_
     refine n_blk ?_
     refine n_seq ?_
     refine e_reg ?_
     refine l_y (v := .int .i64 ((k : Int) + 1)) S (y_add (r := (k : Int) + 1) rfl rfl (w64 (by omega) (by omega))) ?_
     refine l_y (v := .int .i64 ((k : Int) + 1)) S (y_mv rfl) ?_
     refine l_nil ?_
     refine n_lp ⟨(k + 1), _, fr_keep (m := [(0, .slice A1 a.length c2), (1, .slice A4 b.length c5), (12, .int .i64 (a.length : Int)), (13, .int .i64 ((k + 1 : Nat) : Int))]) ⟨⟨rfl, rfl⟩, ⟨rfl, rfl⟩, ⟨rfl, rfl⟩, ⟨ival (by first | rfl | omega), rfl⟩, trivial⟩, ⟨_, _, rfl, (S.tk 0 0 rfl rfl), (Rd.le_trans L9 (Rd.le_refl rd7)), (by omega), (by rw [take_snoc hz13, take_snoc hz27, hE, cell_eq hk_ hs_])⟩, ?_⟩
     show _ < _; dsimp only; omega
   · -- hk_ no
    refine q_y (v := .bool true) (y_neT rfl rfl hk_) ?_
    refine q_y (v := .bool true) (y_mv rfl) ?_
    refine q_s (d' := 27) rfl rfl ?_
    refine q_s (d' := 27) rfl rfl ?_
    refine q_s (d' := 27) rfl rfl ?_
    refine q_s (d' := 27) rfl rfl ?_
    refine q_s (d' := 27) rfl rfl ?_
    refine q_s (d' := 27) rfl rfl ?_
    refine q_s (d' := 27) rfl rfl ?_
    refine q_s (d' := 27) rfl rfl ?_
    refine q_s (d' := 27) rfl rfl ?_
    refine q_s (d' := 27) rfl rfl ?_
    refine q_s (d' := 27) rfl rfl ?_
    refine q_s (d' := 27) rfl rfl ?_
    refine q_y (v := .bool true) (y_pT rfl rfl) ?_
    refine q_nil fun w70 S => ?_
    refine n_seq ?_
    refine e_trim [(0, .slice A1 a.length c2), (1, .slice A4 b.length c5), (12, .int .i64 (a.length : Int)), (13, .int .i64 (k : Int)), (14, .bool true), (15, .int .i64 (k : Int)), (5, .int .i64 (k : Int)), (16, .slice A1 a.length c2), (17, .int .i64 (k : Int)), (18, p14), (19, p25), (20, .int .i64 z12.key), (21, .slice A4 b.length c5), (22, .int .i64 (k : Int)), (23, p28), (24, p39), (25, .int .i64 z26.key), (26, .bool true), (27, .bool true), (28, undef), (29, undef), (30, undef), (31, undef), (32, undef), (33, undef), (34, undef), (35, undef), (36, undef), (37, undef), (38, undef), (39, undef), (40, .bool true)] ⟨⟨rfl, rfl⟩, ⟨rfl, rfl⟩, ⟨rfl, rfl⟩, ⟨rfl, rfl⟩, ⟨rfl, rfl⟩, ⟨rfl, rfl⟩, ⟨rfl, rfl⟩, ⟨rfl, rfl⟩, ⟨rfl, rfl⟩, ⟨rfl, rfl⟩, ⟨rfl, rfl⟩, ⟨rfl, rfl⟩, ⟨rfl, rfl⟩, ⟨rfl, rfl⟩, ⟨rfl, rfl⟩, ⟨rfl, rfl⟩, ⟨rfl, rfl⟩, ⟨rfl, rfl⟩, ⟨rfl, rfl⟩, ⟨rfl, rfl⟩, ⟨rfl, rfl⟩, ⟨rfl, rfl⟩, ⟨rfl, rfl⟩, ⟨rfl, rfl⟩, ⟨rfl, rfl⟩, ⟨rfl, rfl⟩, ⟨rfl, rfl⟩, ⟨rfl, rfl⟩, ⟨rfl, rfl⟩, ⟨rfl, rfl⟩, ⟨rfl, rfl⟩, ⟨rfl, rfl⟩, trivial⟩ (fun junk => ?_)
    refine e_cT rfl ?_
    refine e_seq ?_
    refine e_reg ?_
    refine l_y (v := .bool false) S (y_as rfl) ?_
    refine l_nil ?_
    refine n_seq ?_
    refine e_ret ?_
    refine ret1 (v := .bool false) rfl rfl ?_
    exact ⟨rbool (decide_eq_false (by rintro rfl; first | exact hl rfl | simp_all [sameL])).symm, S.below⟩
  · -- h11 no
   refine l_y (v := .bool false) S (y_ltF rfl rfl h11) ?_
   refine l_nil ?_
   refine n_seq ?_
   refine e_seq ?_
   refine e_cF rfl ?_
   refine e_exit ?_
   refine x_seq ?_
   refine x_lp ?_
   refine x_hit ?_
   refine n_seq ?_
   refine e_seq ?_
   refine e_reg ?_
   refine l_y (v := .bool true) S (y_as rfl) ?_
   refine l_nil ?_
   refine n_seq ?_
   refine e_ret ?_
   refine ret1 (v := .bool true) rfl rfl ?_
   exact ⟨rbool (decide_eq_true (by rwa [List.take_of_length_le (by omega), List.take_of_length_le (by omega)] at hE)).symm, S.below⟩
 · -- hl no
  refine l_y (v := .bool true) S (y_neT rfl rfl hl) ?_
  refine l_nil ?_
  refine n_seq ?_
  refine e_cT rfl ?_
  refine e_seq ?_
  refine e_reg ?_
  refine l_y (v := .bool false) S (y_as rfl) ?_
  refine l_nil ?_
  refine n_seq ?_
  refine e_ret ?_
  refine ret1 (v := .bool false) rfl rfl ?_
  exact ⟨rbool (decide_eq_false (by rintro rfl; first | exact hl rfl | simp_all [sameL])).symm, S.below⟩

set_option maxRecDepth 100000 in
set_option maxHeartbeats 4000000 in
theorem SameView_c (rd : Rd) (W : World) (hle : Rd.le rd (wrd W)) (v v2 : Value) (a b : View) (h : AggR ViewR rd v a) (h2 : AggR ViewR rd v2 b) :
    Calls Try.prog 22 #[v, v2] W (fun e w' => e = .returned (.bool (sameV a b)) ∧ Below W.heap.size W w') := by
 obtain ⟨vs1, he, h⟩ := h; subst he
 obtain ⟨sv2, sv4, sv6, he, h3, h5, h7⟩ := h; subst he
 obtain ⟨A8, c9, rfl, m10, m10'⟩ := h3.val
 obtain ⟨A11, c12, rfl, m13, m13'⟩ := h5.val
 obtain ⟨A14, c15, rfl, m16, m16'⟩ := h7.val
 obtain ⟨vs17, h2e, h2⟩ := h2; subst h2e
 obtain ⟨sv18, sv20, sv22, h2e, h19, h21, h23⟩ := h2; subst h2e
 obtain ⟨A24, c25, rfl, m26, m26'⟩ := h19.val
 obtain ⟨A27, c28, rfl, m29, m29'⟩ := h21.val
 obtain ⟨A30, c31, rfl, m32, m32'⟩ := h23.val
 have hmx : maxLen = 9223372036854775807 := rfl
 have S : St [] W rd rd [] [] W := St.start hle
 refine e_enter (args := [.agg #[.slice A8 a.regs.length c9, .slice A11 a.sets.length c12, .slice A14 a.counters.length c15], .agg #[.slice A24 b.regs.length c25, .slice A27 b.sets.length c28, .slice A30 b.counters.length c31]]) 47 Try.func22 rfl rfl rfl ?_
 refine e_seq ?_
 refine e_reg ?_
 refine l_bx (u := .agg #[.slice A8 a.regs.length c9, .slice A11 a.sets.length c12, .slice A14 a.counters.length c15]) (cs := #[.slice A8 a.regs.length c9, .slice A11 a.sets.length c12, .slice A14 a.counters.length c15]) S rfl rfl fun g33 w34 S => ?_
 refine l_bx (u := .agg #[.slice A24 b.regs.length c25, .slice A27 b.sets.length c28, .slice A30 b.counters.length c31]) (cs := #[.slice A24 b.regs.length c25, .slice A27 b.sets.length c28, .slice A30 b.counters.length c31]) S rfl rfl fun g35 w36 S => ?_
 refine l_y (v := .bool false) S (y_as rfl) ?_
 refine l_nil ?_
 refine n_seq ?_
 refine e_seq ?_
 refine e_seq ?_
 refine e_reg ?_
 refine l_y (v := .pointer (some ⟨g33, 0, none⟩)) S (y_fb FA44_0 rfl rfl) ?_
 refine l_y (v := .slice A8 a.regs.length c9) S (y_ld rfl (fun w S => ld_b1 (i := 0) S rfl rfl T41)) ?_
 refine l_y (v := .pointer (some ⟨g35, 0, none⟩)) S (y_fb FA44_0 rfl rfl) ?_
 refine l_y (v := .slice A24 b.regs.length c25) S (y_ld rfl (fun w S => ld_b1 (i := 1) S rfl rfl T41)) ?_
 refine l_c (en_f (vs := [.slice A8 a.regs.length c9, .slice A24 b.regs.length c25]) (CF 54 _) rfl rfl) (SameCells_c _ _ S.le _ _ a.regs b.regs h3 h19) ?_
 rintro e w37 ⟨rfl, k⟩
 have S := S.callq k; clear k
 cases hR : sameC a.regs b.regs
 · -- hR False
  refine ckd ?_
  refine l_y (v := .bool true) S (y_not rfl rfl) ?_
  refine l_y (v := .bool true) S (y_mv rfl) ?_
  refine l_s (d' := 12) rfl rfl ?_
  refine l_s (d' := 12) rfl rfl ?_
  refine l_s (d' := 12) rfl rfl ?_
  refine l_s (d' := 12) rfl rfl ?_
  refine l_s (d' := 12) rfl rfl ?_
  refine l_s (d' := 12) rfl rfl ?_
  refine l_y (v := .bool true) S (y_pT rfl rfl) ?_
  refine l_y (v := .bool true) S (y_mv rfl) ?_
  refine l_s (d' := 20) rfl rfl ?_
  refine l_s (d' := 20) rfl rfl ?_
  refine l_s (d' := 20) rfl rfl ?_
  refine l_s (d' := 20) rfl rfl ?_
  refine l_s (d' := 20) rfl rfl ?_
  refine l_s (d' := 20) rfl rfl ?_
  refine l_s (d' := 20) rfl rfl ?_
  refine l_y (v := .bool true) S (y_pT rfl rfl) ?_
  refine l_nil ?_
  refine n_seq ?_
  refine e_trim [(2, .pointer (some ⟨g33, 0, none⟩)), (3, .pointer (some ⟨g35, 0, none⟩)), (4, .bool false), (28, .bool true)] ⟨⟨rfl, rfl⟩, ⟨rfl, rfl⟩, ⟨rfl, rfl⟩, ⟨rfl, rfl⟩, trivial⟩ (fun junk => ?_)
  refine e_cT rfl ?_
  refine e_seq ?_
  refine e_reg ?_
  refine l_y (v := .bool false) S (y_as rfl) ?_
  refine l_nil ?_
  refine n_seq ?_
  refine e_ret ?_
  refine ret1 (v := .bool false) rfl rfl ?_
  exact ⟨rbool (decide_eq_false (by rintro rfl; first | exact hl rfl | simp_all [sameC])).symm, S.below⟩
 · -- hR True
  refine ckd ?_
  refine l_y (v := .bool false) S (y_not rfl rfl) ?_
  refine l_y (v := .bool false) S (y_mv rfl) ?_
  refine l_g (d' := 12) (v := .pointer (some ⟨g33, 1, none⟩)) S (y_fb FA44_1 rfl rfl) rfl rfl ?_
  refine l_g (d' := 12) (v := .slice A11 a.sets.length c12) S (y_ld rfl (fun w S => ld_b1 (i := 0) S rfl rfl T41)) rfl rfl ?_
  refine l_g (d' := 12) (v := .pointer (some ⟨g35, 1, none⟩)) S (y_fb FA44_1 rfl rfl) rfl rfl ?_
  refine l_g (d' := 12) (v := .slice A27 b.sets.length c28) S (y_ld rfl (fun w S => ld_b1 (i := 1) S rfl rfl T41)) rfl rfl ?_
  refine l_cg (d' := 12) (en_f (vs := [.slice A11 a.sets.length c12, .slice A27 b.sets.length c28]) (CF 54 _) rfl rfl) rfl rfl (SameCells_c _ _ S.le _ _ a.sets b.sets h5 h21) ?_
  rintro e w38 ⟨rfl, k⟩
  have S := S.callq k; clear k
  cases hS : sameC a.sets b.sets
  · -- hS False
   refine ckd ?_
   refine l_g (d' := 12) (v := .bool true) S (y_not rfl rfl) rfl rfl ?_
   refine l_y (v := .bool true) S (y_pF rfl rfl) ?_
   refine l_y (v := .bool true) S (y_mv rfl) ?_
   refine l_s (d' := 20) rfl rfl ?_
   refine l_s (d' := 20) rfl rfl ?_
   refine l_s (d' := 20) rfl rfl ?_
   refine l_s (d' := 20) rfl rfl ?_
   refine l_s (d' := 20) rfl rfl ?_
   refine l_s (d' := 20) rfl rfl ?_
   refine l_s (d' := 20) rfl rfl ?_
   refine l_y (v := .bool true) S (y_pT rfl rfl) ?_
   refine l_nil ?_
   refine n_seq ?_
   refine e_trim [(2, .pointer (some ⟨g33, 0, none⟩)), (3, .pointer (some ⟨g35, 0, none⟩)), (4, .bool false), (28, .bool true)] ⟨⟨rfl, rfl⟩, ⟨rfl, rfl⟩, ⟨rfl, rfl⟩, ⟨rfl, rfl⟩, trivial⟩ (fun junk => ?_)
   refine e_cT rfl ?_
   refine e_seq ?_
   refine e_reg ?_
   refine l_y (v := .bool false) S (y_as rfl) ?_
   refine l_nil ?_
   refine n_seq ?_
   refine e_ret ?_
   refine ret1 (v := .bool false) rfl rfl ?_
   exact ⟨rbool (decide_eq_false (by rintro rfl; first | exact hl rfl | simp_all [sameC])).symm, S.below⟩
  · -- hS True
   refine ckd ?_
   refine l_g (d' := 12) (v := .bool false) S (y_not rfl rfl) rfl rfl ?_
   refine l_y (v := .bool false) S (y_pF rfl rfl) ?_
   refine l_y (v := .bool false) S (y_mv rfl) ?_
   refine l_g (d' := 20) (v := .pointer (some ⟨g33, 2, none⟩)) S (y_fb FA44_2 rfl rfl) rfl rfl ?_
   refine l_g (d' := 20) (v := .slice A14 a.counters.length c15) S (y_ld rfl (fun w S => ld_b1 (i := 0) S rfl rfl T42)) rfl rfl ?_
   refine l_g (d' := 20) (v := .int .i64 (a.counters.length : Int)) S (y_len U42 rfl rfl) rfl rfl ?_
   refine l_g (d' := 20) (v := .pointer (some ⟨g35, 2, none⟩)) S (y_fb FA44_2 rfl rfl) rfl rfl ?_
   refine l_g (d' := 20) (v := .slice A30 b.counters.length c31) S (y_ld rfl (fun w S => ld_b1 (i := 1) S rfl rfl T42)) rfl rfl ?_
   refine l_g (d' := 20) (v := .int .i64 (b.counters.length : Int)) S (y_len U42 rfl rfl) rfl rfl ?_
   by_cases hl : (a.counters.length : Int) = (b.counters.length : Int)
   · -- hl yes
    refine l_g (d' := 20) (v := .bool false) S (y_neF rfl rfl hl) rfl rfl ?_
    refine l_y (v := .bool false) S (y_pF rfl rfl) ?_
    refine l_nil ?_
    refine n_seq ?_
    refine e_trim [(2, .pointer (some ⟨g33, 0, none⟩)), (3, .pointer (some ⟨g35, 0, none⟩)), (4, .bool false), (28, .bool false)] ⟨⟨rfl, rfl⟩, ⟨rfl, rfl⟩, ⟨rfl, rfl⟩, ⟨rfl, rfl⟩, trivial⟩ (fun junk => ?_)
    refine e_cF rfl ?_
    refine e_skip ?_
    refine n_seq ?_
    refine e_seq ?_
    refine e_seq ?_
    refine e_reg ?_
    refine l_y (v := .pointer (some ⟨g33, 2, none⟩)) S (y_fb FA44_2 rfl rfl) ?_
    refine l_y (v := .slice A14 a.counters.length c15) S (y_ld rfl (fun w S => ld_b1 (i := 0) S rfl rfl T42)) ?_
    refine l_y (v := .int .i64 (a.counters.length : Int)) S (y_len U42 rfl rfl) ?_
    refine l_y (v := .int .i64 0) S (y_mv rfl) ?_
    refine l_nil ?_
    refine n_seq ?_
    refine e_blk ?_
    refine e_trim [(2, .pointer (some ⟨g33, 0, none⟩)), (3, .pointer (some ⟨g35, 0, none⟩)), (31, .int .i64 (a.counters.length : Int)), (32, .int .i64 (0 : Int))] ⟨⟨rfl, rfl⟩, ⟨rfl, rfl⟩, ⟨rfl, rfl⟩, ⟨ival (by first | rfl | omega), rfl⟩, trivial⟩ (fun junk => ?_)
    refine e_loop (fun (gh_ : Nat) ov w => match gh_ with | k => ∃ rd' junk, ov = [(2, .pointer (some ⟨g33, 0, none⟩)), (3, .pointer (some ⟨g35, 0, none⟩)), (31, .int .i64 (a.counters.length : Int)), (32, .int .i64 (k : Int))] ++ junk ∧ St [] W rd rd' [(g33, 44, #[.slice A8 a.regs.length c9, .slice A11 a.sets.length c12, .slice A14 a.counters.length c15]), (g35, 44, #[.slice A24 b.regs.length c25, .slice A27 b.sets.length c28, .slice A30 b.counters.length c31])] [] w ∧ Rd.le rd rd' ∧ k ≤ a.counters.length ∧ a.counters.take k = b.counters.take k) (fun gh_ => match gh_ with | k => a.counters.length - k) 0 ⟨_, junk, rfl, (S.rw' rfl rfl), (Rd.le_refl _), (by omega), rfl⟩ ?_
    rintro k ov42 w40 ⟨rd39, junk, rfl, S, L41, hk, hE⟩
    replace h3 := fm h3 L41
    replace h5 := fm h5 L41
    replace h7 := fm h7 L41
    replace h19 := fm h19 L41
    replace h21 := fm h21 L41
    replace h23 := fm h23 L41
    refine e_seq ?_
    refine e_reg ?_
    by_cases h43 : (k : Int) < (a.counters.length : Int)
    · -- h43 yes
     refine l_y (v := .bool true) S (y_ltT rfl rfl h43) ?_
     refine l_nil ?_
     refine n_seq ?_
     refine e_seq ?_
     refine e_cT rfl ?_
     refine e_skip ?_
     refine n_seq ?_
     refine e_seq ?_
     refine e_blk ?_
     refine e_seq ?_
     refine e_reg ?_
     refine l_y (v := .int .i64 (k : Int)) S (y_mv rfl) ?_
     refine l_y (v := .int .i64 (k : Int)) S (y_as rfl) ?_
     refine l_nil ?_
     refine n_seq ?_
     refine e_seq ?_
     refine e_q MX (by kernel_rfl) S.drew ?_
     -- draws
     refine q_y (v := .pointer (some ⟨g33, 2, none⟩)) (y_fb FA44_2 rfl rfl) ?_
     refine q_y (v := .slice A14 a.counters.length c15) (y_ld rfl (fun w S => ld_b1 (i := 0) S rfl rfl T42)) ?_
     refine q_y (v := .int .i64 (k : Int)) (y_mv rfl) ?_
     obtain ⟨z44, hz45⟩ : ∃ z, (a.counters)[k]? = some z := nth_of (by first | assumption | omega)
     obtain ⟨p46, vs47, E48, nn49, r50, Y51⟩ := y_ia U42 SZ57 h7 hz45
     clear nn49
     have r50e : vs47 = [.int .i64 z44.key, .int .i64 z44.sum] := r50; subst r50e; clear r50
     refine q_y (v := p46) (Y51 rfl rfl (by first | rfl | omega)) ?_
     refine q_y (v := .agg #[.int .i64 z44.key, .int .i64 z44.sum]) (y_ld rfl (fun w S => ld_pA (us := [.int .i64 z44.key, .int .i64 z44.sum]) S.le E48 T57 rfl rfl)) ?_
     refine q_y (v := .pointer (some ⟨g35, 2, none⟩)) (y_fb FA44_2 rfl rfl) ?_
     refine q_y (v := .slice A30 b.counters.length c31) (y_ld rfl (fun w S => ld_b1 (i := 1) S rfl rfl T42)) ?_
     refine q_y (v := .int .i64 (k : Int)) (y_mv rfl) ?_
     obtain ⟨z52, hz53⟩ : ∃ z, (b.counters)[k]? = some z := nth_of (by first | assumption | omega)
     obtain ⟨p54, vs55, E56, nn57, r58, Y59⟩ := y_ia U42 SZ57 h23 hz53
     clear nn57
     have r58e : vs55 = [.int .i64 z52.key, .int .i64 z52.sum] := r58; subst r58e; clear r58
     refine q_y (v := p54) (Y59 rfl rfl (by first | rfl | omega)) ?_
     refine q_y (v := .agg #[.int .i64 z52.key, .int .i64 z52.sum]) (y_ld rfl (fun w S => ld_pA (us := [.int .i64 z52.key, .int .i64 z52.sum]) S.le E56 T57 rfl rfl)) ?_
     by_cases hne : z44 = z52
     · -- hne yes
      refine q_y (v := .bool false) (y_eqa (fun _ _ _ => by kernel_rfl) (fun w => Pair_neF w hne) rfl rfl) ?_
      refine q_nil fun w60 S => ?_
      refine n_seq ?_
      refine e_cF rfl ?_
      refine e_skip ?_
      refine n_blk ?_
      refine n_seq ?_
      refine e_reg ?_
      refine l_y (v := .int .i64 ((k : Int) + 1)) S (y_add (r := (k : Int) + 1) rfl rfl (w64 (by omega) (by omega))) ?_
      refine l_y (v := .int .i64 ((k : Int) + 1)) S (y_mv rfl) ?_
      refine l_nil ?_
      refine n_lp ⟨(k + 1), _, fr_keep (m := [(2, .pointer (some ⟨g33, 0, none⟩)), (3, .pointer (some ⟨g35, 0, none⟩)), (31, .int .i64 (a.counters.length : Int)), (32, .int .i64 ((k + 1 : Nat) : Int))]) ⟨⟨rfl, rfl⟩, ⟨rfl, rfl⟩, ⟨rfl, rfl⟩, ⟨ival (by first | rfl | omega), rfl⟩, trivial⟩, ⟨_, _, rfl, (S.tk 2 0 rfl rfl), (Rd.le_trans L41 (Rd.le_refl rd39)), (by omega), (by rw [take_snoc hz45, take_snoc hz53, hE, hne])⟩, ?_⟩
      show _ < _; dsimp only; omega
     · -- hne no
      refine q_y (v := .bool true) (y_eqa (fun _ _ _ => by kernel_rfl) (fun w => Pair_neT w hne) rfl rfl) ?_
      refine q_nil fun w61 S => ?_
      refine n_seq ?_
      refine e_cT rfl ?_
      refine e_seq ?_
      refine e_reg ?_
      refine l_y (v := .bool false) S (y_as rfl) ?_
      refine l_nil ?_
      refine n_seq ?_
      refine e_ret ?_
      refine ret1 (v := .bool false) rfl rfl ?_
      exact ⟨rbool (decide_eq_false (by rintro rfl; first | exact hl rfl | simp_all [sameC])).symm, S.below⟩
    · -- h43 no
     refine l_y (v := .bool false) S (y_ltF rfl rfl h43) ?_
     refine l_nil ?_
     refine n_seq ?_
     refine e_seq ?_
     refine e_cF rfl ?_
     refine e_exit ?_
     refine x_seq ?_
     refine x_lp ?_
     refine x_hit ?_
     refine n_seq ?_
     refine e_seq ?_
     refine e_reg ?_
     refine l_y (v := .bool true) S (y_as rfl) ?_
     refine l_nil ?_
     refine n_seq ?_
     refine e_ret ?_
     refine ret1 (v := .bool true) rfl rfl ?_
     exact ⟨rbool (decide_eq_true (view_eq hR hS (by rwa [List.take_of_length_le (by omega), List.take_of_length_le (by omega)] at hE))).symm, S.below⟩
   · -- hl no
    refine l_g (d' := 20) (v := .bool true) S (y_neT rfl rfl hl) rfl rfl ?_
    refine l_y (v := .bool true) S (y_pF rfl rfl) ?_
    refine l_nil ?_
    refine n_seq ?_
    refine e_trim [(2, .pointer (some ⟨g33, 0, none⟩)), (3, .pointer (some ⟨g35, 0, none⟩)), (4, .bool false), (28, .bool true)] ⟨⟨rfl, rfl⟩, ⟨rfl, rfl⟩, ⟨rfl, rfl⟩, ⟨rfl, rfl⟩, trivial⟩ (fun junk => ?_)
    refine e_cT rfl ?_
    refine e_seq ?_
    refine e_reg ?_
    refine l_y (v := .bool false) S (y_as rfl) ?_
    refine l_nil ?_
    refine n_seq ?_
    refine e_ret ?_
    refine ret1 (v := .bool false) rfl rfl ?_
    exact ⟨rbool (decide_eq_false (by rintro rfl; first | exact hl rfl | simp_all [sameC])).symm, S.below⟩
end Go.Proofs.Ytkjknlnhffmkkab
