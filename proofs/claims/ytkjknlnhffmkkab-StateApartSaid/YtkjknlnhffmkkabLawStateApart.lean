/- StateApart: two updates that have not seen each other come either way. For every input; no condition. -/
import Derived.Test.YtkjknlnhffmkkabAlive4
import Derived.Test.YtkjknlnhffmkkabClose4
namespace Go.Proofs.Ytkjknlnhffmkkab
open Go.ChangeShapes Go.WideShapes Go.ChangeAt Go.RowKit
set_option linter.unusedVariables false
set_option maxRecDepth 100000 in
set_option maxHeartbeats 8000000 in
theorem StateApart_calls (W : World) (v1 : Value) (s : State) (qa : AggR StateR (wrd W) v1 s) (b1 : StateBd s) (v2 : Value) (a : Upd) (qb : AggR UpdR (wrd W) v2 a) (b2 : UpdBd1 a) (v3 : Value) (b : Upd) (qc : AggR UpdR (wrd W) v3 b) (b3 : UpdBd1 b) :
    Calls Try.prog 3 #[v1, v2, v3] W (fun e w' => e = .returned (.bool true) ∧ Below W.heap.size W w') := by
 obtain ⟨vs1, qae, qa⟩ := qa; subst qae
 obtain ⟨sv2, sv4, sv6, qae, h3, h5, h7⟩ := qa; subst qae
 obtain ⟨A8, c9, rfl, m10, m10'⟩ := h3.val
 obtain ⟨A11, c12, rfl, m13, m13'⟩ := h5.val
 obtain ⟨A14, c15, rfl, m16, m16'⟩ := h7.val
 obtain ⟨vs17, qbe, qb⟩ := qb; subst qbe
 obtain ⟨sv18, qbe, h19⟩ := qb; subst qbe
 obtain ⟨A20, c21, rfl, m22, m22'⟩ := h19.val
 obtain ⟨vs23, qce, qc⟩ := qc; subst qce
 obtain ⟨sv24, qce, h25⟩ := qc; subst qce
 obtain ⟨A26, c27, rfl, m28, m28'⟩ := h25.val
 have hmx : maxLen = 9223372036854775807 := rfl
 have S : St [] W (wrd W) (wrd W) [] [] W := St.start (Rd.le_refl _)
 refine e_enter (args := [.agg #[.slice A8 s.clock.length c9, .slice A11 s.lives.length c12, .slice A14 s.tallies.length c15], .agg #[.int .i64 a.author, .slice A20 a.seen.length c21, .int .i64 a.kind, .int .i64 a.key, .int .i64 a.item], .agg #[.int .i64 b.author, .slice A26 b.seen.length c27, .int .i64 b.kind, .int .i64 b.key, .int .i64 b.item]]) 47 Try.func3 rfl rfl rfl ?_
 refine e_seq ?_
 refine e_reg ?_
 refine l_bx (u := .agg #[.slice A8 s.clock.length c9, .slice A11 s.lives.length c12, .slice A14 s.tallies.length c15]) (cs := #[.slice A8 s.clock.length c9, .slice A11 s.lives.length c12, .slice A14 s.tallies.length c15]) S rfl rfl fun g29 w30 S => ?_
 refine l_bx (u := .agg #[.int .i64 a.author, .slice A20 a.seen.length c21, .int .i64 a.kind, .int .i64 a.key, .int .i64 a.item]) (cs := #[.int .i64 a.author, .slice A20 a.seen.length c21, .int .i64 a.kind, .int .i64 a.key, .int .i64 a.item]) S rfl rfl fun g31 w32 S => ?_
 refine l_bx (u := .agg #[.int .i64 b.author, .slice A26 b.seen.length c27, .int .i64 b.kind, .int .i64 b.key, .int .i64 b.item]) (cs := #[.int .i64 b.author, .slice A26 b.seen.length c27, .int .i64 b.kind, .int .i64 b.key, .int .i64 b.item]) S rfl rfl fun g33 w34 S => ?_
 refine l_y (v := .bool false) S (y_as rfl) ?_
 refine l_nil ?_
 refine n_seq ?_
 refine e_seq ?_
 refine e_seq ?_
 refine e_reg ?_
 refine l_c (en_f (vs := []) (CF 13 _) rfl rfl) (alive4_c _ _ S.le) ?_
 rintro e w35 ⟨rfl, k⟩
 have S := S.callq k; clear k
 refine ckd ?_
 refine l_y (v := .bool false) S (y_not rfl rfl) ?_
 refine l_nil ?_
 refine n_seq ?_
 refine e_cF rfl ?_
 refine e_skip ?_
 refine n_seq ?_
 refine e_seq ?_
 refine e_seq ?_
 refine e_reg ?_
 refine l_y (v := .pointer (some ⟨g31, 0, none⟩)) S (y_fb FA29_0 rfl rfl) ?_
 refine l_y (v := .int .i64 a.author) S (y_ld rfl (fun w S => ld_b1 (i := 1) S rfl rfl T3)) ?_
 refine l_y (v := .pointer (some ⟨g33, 0, none⟩)) S (y_fb FA29_0 rfl rfl) ?_
 refine l_y (v := .int .i64 b.author) S (y_ld rfl (fun w S => ld_b1 (i := 2) S rfl rfl T3)) ?_
 by_cases h36 : a.author = b.author
 · -- h36 yes
  refine l_y (v := .bool true) S (y_eqT rfl rfl h36) ?_
  refine l_nil ?_
  refine n_seq ?_
  refine e_cT rfl ?_
  refine e_seq ?_
  refine e_reg ?_
  refine l_y (v := .bool true) S (y_as rfl) ?_
  refine l_nil ?_
  refine n_seq ?_
  refine e_ret ?_
  refine ret1 (v := .bool true) rfl rfl ?_
  exact ⟨rfl, S.below⟩
 · -- h36 no
  refine l_y (v := .bool false) S (y_eqF rfl rfl h36) ?_
  refine l_nil ?_
  refine n_seq ?_
  refine e_cF rfl ?_
  refine e_skip ?_
  refine n_seq ?_
  refine e_seq ?_
  refine e_reg ?_
  refine l_y (v := .agg #[.slice A8 s.clock.length c9, .slice A11 s.lives.length c12, .slice A14 s.tallies.length c15]) S (y_ld rfl (fun w S => ld_bA (vs := [.slice A8 s.clock.length c9, .slice A11 s.lives.length c12, .slice A14 s.tallies.length c15]) (i := 0) S rfl T27 rfl rfl)) ?_
  refine l_y (v := .agg #[.int .i64 a.author, .slice A20 a.seen.length c21, .int .i64 a.kind, .int .i64 a.key, .int .i64 a.item]) S (y_ld rfl (fun w S => ld_bA (vs := [.int .i64 a.author, .slice A20 a.seen.length c21, .int .i64 a.kind, .int .i64 a.key, .int .i64 a.item]) (i := 1) S rfl T29 rfl rfl)) ?_
  refine l_y (v := .agg #[.int .i64 b.author, .slice A26 b.seen.length c27, .int .i64 b.kind, .int .i64 b.key, .int .i64 b.item]) S (y_ld rfl (fun w S => ld_bA (vs := [.int .i64 b.author, .slice A26 b.seen.length c27, .int .i64 b.kind, .int .i64 b.key, .int .i64 b.item]) (i := 2) S rfl T29 rfl rfl)) ?_
  refine l_bs (ps := [(0, .agg #[.int .i64 a.author, .slice A20 a.seen.length c21, .int .i64 a.kind, .int .i64 a.key, .int .i64 a.item]), (1, .agg #[.int .i64 b.author, .slice A26 b.seen.length c27, .int .i64 b.kind, .int .i64 b.key, .int .i64 b.item])]) (cs := #[.int .i64 a.author, .slice A20 a.seen.length c21, .int .i64 a.kind, .int .i64 a.key, .int .i64 a.item, .int .i64 b.author, .slice A26 b.seen.length c27, .int .i64 b.kind, .int .i64 b.key, .int .i64 b.item]) S U36 SZ29 Z29 rfl rfl rfl (by kernel_rfl) fun g37 w38 S => ?_
  obtain ⟨rd39, S, L40, Fz41⟩ := S.frz' (i := 3) rfl rfl
  replace h3 := fm h3 L40
  replace h5 := fm h5 L40
  replace h7 := fm h7 L40
  replace h19 := fm h19 L40
  replace h25 := fm h25 L40
  have F42 := Fz41 (size := 5) (R := UpdR) (xs := ([a, b] : List Upd)) (n := 2) (c := 2) rfl (Nat.le_refl _) (by simp [maxLen]) ⟨[.int .i64 a.author, .slice A20 a.seen.length c21, .int .i64 a.kind, .int .i64 a.key, .int .i64 a.item], _, rfl, rfl, ⟨_, rfl, h19⟩, ⟨[.int .i64 b.author, .slice A26 b.seen.length c27, .int .i64 b.kind, .int .i64 b.key, .int .i64 b.item], _, rfl, rfl, ⟨_, rfl, h25⟩, rfl⟩⟩; clear Fz41
  refine l_c (en_f (vs := [.agg #[.slice A8 s.clock.length c9, .slice A11 s.lives.length c12, .slice A14 s.tallies.length c15], .slice (some ⟨g37, 0, none⟩) 2 2]) (CF 14 _) rfl rfl) (SPlay_c _ _ S.le _ _ s ([a, b] : List Upd) (⟨_, rfl, ⟨_, _, _, rfl, h3, h5, h7⟩⟩ : AggR StateR rd39 _ s) F42) ?_
  rintro e w43 ⟨v48, rfl, h49, k⟩
  obtain ⟨rd44, S, L45, N46, X47⟩ := S.call' k; clear k
  replace h3 := fm h3 L45
  replace h5 := fm h5 L45
  replace h7 := fm h7 L45
  replace h19 := fm h19 L45
  replace h25 := fm h25 L45
  replace F42 := fm F42 L45
  replace h49 := am h49 X47
  obtain ⟨cs50, h49v, h49⟩ := h49; subst h49v
  obtain ⟨sv51, sv53, sv55, h49e, h52, h54, h56⟩ := h49; subst h49e
  obtain ⟨A57, c58, rfl, m59, m59'⟩ := h52.val
  obtain ⟨A60, c61, rfl, m62, m62'⟩ := h54.val
  obtain ⟨A63, c64, rfl, m65, m65'⟩ := h56.val
  refine ckd ?_
  refine l_y (v := .tuple #[.agg #[.slice A57 (((PlayS s ([a, b] : List Upd)).1.clock).length) c58, .slice A60 (((PlayS s ([a, b] : List Upd)).1.lives).length) c61, .slice A63 (((PlayS s ([a, b] : List Upd)).1.tallies).length) c64], .agg #[.int .i64 ((PlayS s ([a, b] : List Upd)).2.1), .int .i64 ((PlayS s ([a, b] : List Upd)).2.2)]]) S (y_mv rfl) ?_
  refine l_y (v := .agg #[.slice A57 (((PlayS s ([a, b] : List Upd)).1.clock).length) c58, .slice A60 (((PlayS s ([a, b] : List Upd)).1.lives).length) c61, .slice A63 (((PlayS s ([a, b] : List Upd)).1.tallies).length) c64]) S (y_ex rfl rfl) ?_
  refine l_y (v := .agg #[.int .i64 ((PlayS s ([a, b] : List Upd)).2.1), .int .i64 ((PlayS s ([a, b] : List Upd)).2.2)]) S (y_ex rfl rfl) ?_
  refine l_al (cs := #[.slice none 0 0, .slice none 0 0, .slice none 0 0]) S Z27 rfl fun g66 w67 S => ?_
  refine l_al (cs := #[.int .i64 0, .int .i64 0]) S Z33 rfl fun g68 w69 S => ?_
  refine l_st (u := .agg #[.slice A57 (((PlayS s ([a, b] : List Upd)).1.clock).length) c58, .slice A60 (((PlayS s ([a, b] : List Upd)).1.lives).length) c61, .slice A63 (((PlayS s ([a, b] : List Upd)).1.tallies).length) c64]) (i := 3) (cs' := #[.slice A57 (((PlayS s ([a, b] : List Upd)).1.clock).length) c58, .slice A60 (((PlayS s ([a, b] : List Upd)).1.lives).length) c61, .slice A63 (((PlayS s ([a, b] : List Upd)).1.tallies).length) c64]) S rfl rfl rfl SZ27 rfl rfl rfl fun w70 S => ?_
  refine l_st (u := .agg #[.int .i64 ((PlayS s ([a, b] : List Upd)).2.1), .int .i64 ((PlayS s ([a, b] : List Upd)).2.2)]) (i := 4) (cs' := #[.int .i64 ((PlayS s ([a, b] : List Upd)).2.1), .int .i64 ((PlayS s ([a, b] : List Upd)).2.2)]) S rfl rfl rfl SZ33 rfl rfl rfl fun w71 S => ?_
  refine l_nil ?_
  refine n_seq ?_
  refine e_seq ?_
  refine e_reg ?_
  refine l_y (v := .agg #[.slice A8 s.clock.length c9, .slice A11 s.lives.length c12, .slice A14 s.tallies.length c15]) S (y_ld rfl (fun w S => ld_bA (vs := [.slice A8 s.clock.length c9, .slice A11 s.lives.length c12, .slice A14 s.tallies.length c15]) (i := 0) S rfl T27 rfl rfl)) ?_
  refine l_y (v := .agg #[.int .i64 b.author, .slice A26 b.seen.length c27, .int .i64 b.kind, .int .i64 b.key, .int .i64 b.item]) S (y_ld rfl (fun w S => ld_bA (vs := [.int .i64 b.author, .slice A26 b.seen.length c27, .int .i64 b.kind, .int .i64 b.key, .int .i64 b.item]) (i := 2) S rfl T29 rfl rfl)) ?_
  refine l_y (v := .agg #[.int .i64 a.author, .slice A20 a.seen.length c21, .int .i64 a.kind, .int .i64 a.key, .int .i64 a.item]) S (y_ld rfl (fun w S => ld_bA (vs := [.int .i64 a.author, .slice A20 a.seen.length c21, .int .i64 a.kind, .int .i64 a.key, .int .i64 a.item]) (i := 1) S rfl T29 rfl rfl)) ?_
  refine l_bs (ps := [(0, .agg #[.int .i64 b.author, .slice A26 b.seen.length c27, .int .i64 b.kind, .int .i64 b.key, .int .i64 b.item]), (1, .agg #[.int .i64 a.author, .slice A20 a.seen.length c21, .int .i64 a.kind, .int .i64 a.key, .int .i64 a.item])]) (cs := #[.int .i64 b.author, .slice A26 b.seen.length c27, .int .i64 b.kind, .int .i64 b.key, .int .i64 b.item, .int .i64 a.author, .slice A20 a.seen.length c21, .int .i64 a.kind, .int .i64 a.key, .int .i64 a.item]) S U36 SZ29 Z29 rfl rfl rfl (by kernel_rfl) fun g72 w73 S => ?_
  obtain ⟨rd74, S, L75, Fz76⟩ := S.frz' (i := 5) rfl rfl
  replace h3 := fm h3 L75
  replace h5 := fm h5 L75
  replace h7 := fm h7 L75
  replace h19 := fm h19 L75
  replace h25 := fm h25 L75
  replace F42 := fm F42 L75
  replace h52 := fm h52 L75
  replace h54 := fm h54 L75
  replace h56 := fm h56 L75
  have F77 := Fz76 (size := 5) (R := UpdR) (xs := ([b, a] : List Upd)) (n := 2) (c := 2) rfl (Nat.le_refl _) (by simp [maxLen]) ⟨[.int .i64 b.author, .slice A26 b.seen.length c27, .int .i64 b.kind, .int .i64 b.key, .int .i64 b.item], _, rfl, rfl, ⟨_, rfl, h25⟩, ⟨[.int .i64 a.author, .slice A20 a.seen.length c21, .int .i64 a.kind, .int .i64 a.key, .int .i64 a.item], _, rfl, rfl, ⟨_, rfl, h19⟩, rfl⟩⟩; clear Fz76
  refine l_c (en_f (vs := [.agg #[.slice A8 s.clock.length c9, .slice A11 s.lives.length c12, .slice A14 s.tallies.length c15], .slice (some ⟨g72, 0, none⟩) 2 2]) (CF 14 _) rfl rfl) (SPlay_c _ _ S.le _ _ s ([b, a] : List Upd) (⟨_, rfl, ⟨_, _, _, rfl, h3, h5, h7⟩⟩ : AggR StateR rd74 _ s) F77) ?_
  rintro e w78 ⟨v83, rfl, h84, k⟩
  obtain ⟨rd79, S, L80, N81, X82⟩ := S.call' k; clear k
  replace h3 := fm h3 L80
  replace h5 := fm h5 L80
  replace h7 := fm h7 L80
  replace h19 := fm h19 L80
  replace h25 := fm h25 L80
  replace F42 := fm F42 L80
  replace h52 := fm h52 L80
  replace h54 := fm h54 L80
  replace h56 := fm h56 L80
  replace F77 := fm F77 L80
  replace h84 := am h84 X82
  obtain ⟨cs85, h84v, h84⟩ := h84; subst h84v
  obtain ⟨sv86, sv88, sv90, h84e, h87, h89, h91⟩ := h84; subst h84e
  obtain ⟨A92, c93, rfl, m94, m94'⟩ := h87.val
  obtain ⟨A95, c96, rfl, m97, m97'⟩ := h89.val
  obtain ⟨A98, c99, rfl, m100, m100'⟩ := h91.val
  refine ckd ?_
  refine l_y (v := .tuple #[.agg #[.slice A92 (((PlayS s ([b, a] : List Upd)).1.clock).length) c93, .slice A95 (((PlayS s ([b, a] : List Upd)).1.lives).length) c96, .slice A98 (((PlayS s ([b, a] : List Upd)).1.tallies).length) c99], .agg #[.int .i64 ((PlayS s ([b, a] : List Upd)).2.1), .int .i64 ((PlayS s ([b, a] : List Upd)).2.2)]]) S (y_mv rfl) ?_
  refine l_y (v := .agg #[.slice A92 (((PlayS s ([b, a] : List Upd)).1.clock).length) c93, .slice A95 (((PlayS s ([b, a] : List Upd)).1.lives).length) c96, .slice A98 (((PlayS s ([b, a] : List Upd)).1.tallies).length) c99]) S (y_ex rfl rfl) ?_
  refine l_y (v := .agg #[.int .i64 ((PlayS s ([b, a] : List Upd)).2.1), .int .i64 ((PlayS s ([b, a] : List Upd)).2.2)]) S (y_ex rfl rfl) ?_
  refine l_al (cs := #[.slice none 0 0, .slice none 0 0, .slice none 0 0]) S Z27 rfl fun g101 w102 S => ?_
  refine l_al (cs := #[.int .i64 0, .int .i64 0]) S Z33 rfl fun g103 w104 S => ?_
  refine l_st (u := .agg #[.slice A92 (((PlayS s ([b, a] : List Upd)).1.clock).length) c93, .slice A95 (((PlayS s ([b, a] : List Upd)).1.lives).length) c96, .slice A98 (((PlayS s ([b, a] : List Upd)).1.tallies).length) c99]) (i := 5) (cs' := #[.slice A92 (((PlayS s ([b, a] : List Upd)).1.clock).length) c93, .slice A95 (((PlayS s ([b, a] : List Upd)).1.lives).length) c96, .slice A98 (((PlayS s ([b, a] : List Upd)).1.tallies).length) c99]) S rfl rfl rfl SZ27 rfl rfl rfl fun w105 S => ?_
  refine l_st (u := .agg #[.int .i64 ((PlayS s ([b, a] : List Upd)).2.1), .int .i64 ((PlayS s ([b, a] : List Upd)).2.2)]) (i := 6) (cs' := #[.int .i64 ((PlayS s ([b, a] : List Upd)).2.1), .int .i64 ((PlayS s ([b, a] : List Upd)).2.2)]) S rfl rfl rfl SZ33 rfl rfl rfl fun w106 S => ?_
  refine l_nil ?_
  refine n_seq ?_
  refine e_trim [(6, .bool false), (7, .pointer (some ⟨g66, 0, none⟩)), (8, .pointer (some ⟨g68, 0, none⟩)), (9, .pointer (some ⟨g101, 0, none⟩)), (10, .pointer (some ⟨g103, 0, none⟩))] ⟨⟨rfl, rfl⟩, ⟨rfl, rfl⟩, ⟨rfl, rfl⟩, ⟨rfl, rfl⟩, ⟨rfl, rfl⟩, trivial⟩ (fun junk => ?_)
  refine e_seq ?_
  refine e_reg ?_
  refine l_y (v := .pointer (some ⟨g68, 0, none⟩)) S (y_fb FA33_0 rfl rfl) ?_
  refine l_y (v := .int .i64 ((PlayS s ([a, b] : List Upd)).2.1)) S (y_ld rfl (fun w S => ld_b1 (i := 4) S rfl rfl T31)) ?_
  by_cases hF : (PlayS s ([a, b] : List Upd)).2.1 = 0
  · -- hF yes
   refine l_y (v := .bool false) S (y_neF rfl rfl hF) ?_
   refine l_y (v := .bool false) S (y_mv rfl) ?_
   refine l_g (d' := 37) (v := .pointer (some ⟨g103, 0, none⟩)) S (y_fb FA33_0 rfl rfl) rfl rfl ?_
   refine l_g (d' := 37) (v := .int .i64 ((PlayS s ([b, a] : List Upd)).2.1)) S (y_ld rfl (fun w S => ld_b1 (i := 6) S rfl rfl T31)) rfl rfl ?_
   by_cases hG : (PlayS s ([b, a] : List Upd)).2.1 = 0
   · -- hG yes
    refine l_g (d' := 37) (v := .bool false) S (y_neF rfl rfl hG) rfl rfl ?_
    refine l_y (v := .bool false) S (y_pF rfl rfl) ?_
    refine l_y (v := .bool false) S (y_mv rfl) ?_
    refine l_g (d' := 42) (v := .agg #[.slice A57 (((PlayS s ([a, b] : List Upd)).1.clock).length) c58, .slice A60 (((PlayS s ([a, b] : List Upd)).1.lives).length) c61, .slice A63 (((PlayS s ([a, b] : List Upd)).1.tallies).length) c64]) S (y_ld rfl (fun w S => ld_bA (vs := [.slice A57 (((PlayS s ([a, b] : List Upd)).1.clock).length) c58, .slice A60 (((PlayS s ([a, b] : List Upd)).1.lives).length) c61, .slice A63 (((PlayS s ([a, b] : List Upd)).1.tallies).length) c64]) (i := 3) S rfl T27 rfl rfl)) rfl rfl ?_
    refine l_g (d' := 42) (v := .agg #[.slice A92 (((PlayS s ([b, a] : List Upd)).1.clock).length) c93, .slice A95 (((PlayS s ([b, a] : List Upd)).1.lives).length) c96, .slice A98 (((PlayS s ([b, a] : List Upd)).1.tallies).length) c99]) S (y_ld rfl (fun w S => ld_bA (vs := [.slice A92 (((PlayS s ([b, a] : List Upd)).1.clock).length) c93, .slice A95 (((PlayS s ([b, a] : List Upd)).1.lives).length) c96, .slice A98 (((PlayS s ([b, a] : List Upd)).1.tallies).length) c99]) (i := 5) S rfl T27 rfl rfl)) rfl rfl ?_
    refine l_cg (d' := 42) (en_f (vs := [.agg #[.slice A57 (((PlayS s ([a, b] : List Upd)).1.clock).length) c58, .slice A60 (((PlayS s ([a, b] : List Upd)).1.lives).length) c61, .slice A63 (((PlayS s ([a, b] : List Upd)).1.tallies).length) c64], .agg #[.slice A92 (((PlayS s ([b, a] : List Upd)).1.clock).length) c93, .slice A95 (((PlayS s ([b, a] : List Upd)).1.lives).length) c96, .slice A98 (((PlayS s ([b, a] : List Upd)).1.tallies).length) c99]]) (CF 15 _) rfl rfl) rfl rfl (SSame_c _ _ S.le _ _ ((PlayS s ([a, b] : List Upd)).1) ((PlayS s ([b, a] : List Upd)).1) (⟨_, rfl, ⟨_, _, _, rfl, h52, h54, h56⟩⟩ : AggR StateR rd79 _ ((PlayS s ([a, b] : List Upd)).1)) (⟨_, rfl, ⟨_, _, _, rfl, h87, h89, h91⟩⟩ : AggR StateR rd79 _ ((PlayS s ([b, a] : List Upd)).1))) ?_
    rintro e w107 ⟨rfl, k⟩
    have S := S.callq k; clear k
    cases hS : sameS ((PlayS s ([a, b] : List Upd)).1) ((PlayS s ([b, a] : List Upd)).1)
    · -- hS False
     refine ckd ?_
     refine l_y (v := .bool false) S (y_pF rfl rfl) ?_
     refine l_y (v := .bool false) S (y_as rfl) ?_
     refine l_nil ?_
     refine n_seq ?_
     refine e_ret ?_
     refine ret1 (v := .bool false) rfl rfl ?_
     exact absurd hS (by rw [apart_p hF hG]; simp [sameS])
    · -- hS True
     refine ckd ?_
     refine l_y (v := .bool true) S (y_pF rfl rfl) ?_
     refine l_y (v := .bool true) S (y_as rfl) ?_
     refine l_nil ?_
     refine n_seq ?_
     refine e_ret ?_
     refine ret1 (v := .bool true) rfl rfl ?_
     exact ⟨rfl, S.below⟩
   · -- hG no
    refine l_g (d' := 37) (v := .bool true) S (y_neT rfl rfl hG) rfl rfl ?_
    refine l_y (v := .bool true) S (y_pF rfl rfl) ?_
    refine l_y (v := .bool true) S (y_mv rfl) ?_
    refine l_s (d' := 42) rfl rfl ?_
    refine l_s (d' := 42) rfl rfl ?_
    refine l_s (d' := 42) rfl rfl ?_
    refine l_y (v := .bool true) S (y_pT rfl rfl) ?_
    refine l_y (v := .bool true) S (y_as rfl) ?_
    refine l_nil ?_
    refine n_seq ?_
    refine e_ret ?_
    refine ret1 (v := .bool true) rfl rfl ?_
    exact ⟨rfl, S.below⟩
  · -- hF no
   refine l_y (v := .bool true) S (y_neT rfl rfl hF) ?_
   refine l_y (v := .bool true) S (y_mv rfl) ?_
   refine l_s (d' := 37) rfl rfl ?_
   refine l_s (d' := 37) rfl rfl ?_
   refine l_s (d' := 37) rfl rfl ?_
   refine l_y (v := .bool true) S (y_pT rfl rfl) ?_
   refine l_y (v := .bool true) S (y_mv rfl) ?_
   refine l_s (d' := 42) rfl rfl ?_
   refine l_s (d' := 42) rfl rfl ?_
   refine l_s (d' := 42) rfl rfl ?_
   refine l_y (v := .bool true) S (y_pT rfl rfl) ?_
   refine l_y (v := .bool true) S (y_as rfl) ?_
   refine l_nil ?_
   refine n_seq ?_
   refine e_ret ?_
   refine ret1 (v := .bool true) rfl rfl ?_
   exact ⟨rfl, S.below⟩
set_option maxRecDepth 100000 in
theorem StateApart_lifted (os : Os) (started : os.Started) (H : Type) (enc : TypeId × Value → H) :
    ReturnsInHanded {} Try.checked os 3 .any (Rows.stateApartSpec.pre6 enc Try.prog Try.f3 Rows.stateApartRow.domain false) (Rows.stateApartSpec.post enc Try.prog Try.f3 false true false false) := by
  refine returnsInHanded_of_change_sized (C := Try.checked) own_ started (by kernel_rfl) Try.func3
    (ChangeSpec.witness6 (enc := enc) (C := Try.checked) false ⟨#[], #[.agg #[.slice none 0 0, .slice none 0 0, .slice none 0 0], .agg #[.int .i64 0, .slice none 0 0, .int .i64 0, .int .i64 0, .int .i64 0], .agg #[.int .i64 0, .slice none 0 0, .int .i64 0, .int .i64 0, .int .i64 0]], []⟩ 8 (by kernel_rfl) (by kernel_rfl) (by kernel_rfl) (by kernel_rfl)) ?_
  intro W base args ds gs before hval0 hW _ hsz0 _
  have hval : ∀ (j : Nat) t v, Try.f3.params[j]? = some t → args[j]? = some v → Value.okWide Try.prog W .any base t v := hval0
  have hsz : (DataW.weightsEach Try.prog (Try.f3.params.toList ++ Rows.stateApartSpec.plain.varTypes Try.prog) (ds ++ gs)).all (· ≤ reachBytes) = true := hsz0
  have hW' := hW
  obtain ⟨p, q, hA0, hV, rfl, _, _⟩ := hW
  obtain ⟨rfl, rfl⟩ := trodVars_none hV
  have hA : DataW.TrodAll enc Try.prog W 0 (fun _ => true) true Try.f3.params.toList args.toList ds p := hA0
  rw [Try.params3] at hA hval hsz
  obtain ⟨v1, vs1, d1, ds1, p1, q1, e1, rfl, rfl, t1, r1⟩ := trodAll_cons hA
  obtain ⟨v2, vs2, d2, ds2, p2, q2, rfl, rfl, rfl, t2, r2⟩ := trodAll_cons r1
  obtain ⟨v3, vs3, d3, ds3, p3, q3, rfl, rfl, rfl, t3, r3⟩ := trodAll_cons r2
  obtain ⟨rfl, rfl, rfl⟩ := trodAll_nil r3
  obtain rfl : args = #[v1, v2, v3] := by cases args; simp_all
  obtain ⟨z1, hsz⟩ := weights_each hsz
  obtain ⟨z2, hsz⟩ := weights_each hsz
  obtain ⟨z3, hsz⟩ := weights_each hsz
  obtain ⟨a1, ha1, hb1⟩ := arg_agg Try.underlying27 op_state (hval 0 _ v1 rfl rfl) t1 z1
  obtain ⟨a2, ha2, hb2⟩ := arg_agg Try.underlying29 op_upd (hval 1 _ v2 rfl rfl) t2 z2
  obtain ⟨a3, ha3, hb3⟩ := arg_agg Try.underlying29 op_upd (hval 2 _ v3 rfl rfl) t3 z3
  refine (StateApart_calls W v1 a1 ha1 hb1 v2 a2 ha2 hb2 v3 a3 ha3 hb3).mono fun e W' ⟨he, hbl⟩ => ?_
  subst he
  exact ⟨_, rfl, close_law laidOut (by kernel_rfl) rfl (fun gs h => by subst h; rfl) rfl (tb := 4) Try.underlying4 hW' hbl⟩

theorem StateApart_holds : Rows.StateApartSaid :=
  OpenClaim.holds_of_wide 3 Try.f3 rfl rfl rfl rfl rfl rfl rfl ⟨rfl, rfl, rfl, rfl, rfl⟩ rfl rfl rfl rfl rfl (by kernel_rfl) Try.func3 (by kernel_rfl)
    (of_decide_eq_true (by kernel_rfl)) (by unfold Func.isWrapper; first | (rw [if_pos (by decide +kernel)]; kernel_rfl) | (rw [if_neg (by decide +kernel)]; exact ⟨rfl, rfl⟩))
    (fun os started H enc _ => StateApart_lifted os started H enc)
#print axioms StateApart_holds
end Go.Proofs.Ytkjknlnhffmkkab
