/- StateKeeps: what was not seen stays. For every input; no condition. -/
import Derived.Test.YtkjknlnhffmkkabAlive4
import Derived.Test.YtkjknlnhffmkkabClose4
namespace Go.Proofs.Ytkjknlnhffmkkab
open Go.ChangeShapes Go.WideShapes Go.ChangeAt Go.RowKit
set_option linter.unusedVariables false
theorem not_next {α : Type} {l : List α} {k : Nat} {x z : α} (h : ∀ y ∈ l.take k, ¬ y = x) (hz : l[k]? = some z) (hne : ¬ z = x) : ∀ y ∈ l.take (k + 1), ¬ y = x := by
  rw [take_snoc hz]
  intro y hy
  rcases List.mem_append.1 hy with hy | hy
  · exact h y hy
  · rw [List.mem_singleton.1 hy]; exact hne
set_option maxRecDepth 100000 in
set_option maxHeartbeats 8000000 in
theorem StateKeeps_calls (W : World) (v1 : Value) (s : State) (qa : AggR StateR (wrd W) v1 s) (b1 : StateBd s) (v2 : Value) (l : Live) (qb : AggR LiveR (wrd W) v2 l) (b2 : True) (v3 : Value) (u : Upd) (qc : AggR UpdR (wrd W) v3 u) (b3 : UpdBd1 u) :
    Calls Try.prog 7 #[v1, v2, v3] W (fun e w' => e = .returned (.bool true) ∧ Below W.heap.size W w') := by
 obtain ⟨vs1, qae, qa⟩ := qa; subst qae
 obtain ⟨sv2, sv4, sv6, qae, h3, h5, h7⟩ := qa; subst qae
 obtain ⟨A8, c9, rfl, m10, m10'⟩ := h3.val
 obtain ⟨A11, c12, rfl, m13, m13'⟩ := h5.val
 obtain ⟨A14, c15, rfl, m16, m16'⟩ := h7.val
 obtain ⟨vs17, qbe, qb⟩ := qb; subst qbe
 have qbe : vs17 = [.bool l.set, .int .i64 l.key, .int .i64 l.item, .int .i64 l.author, .int .i64 l.seq] := qb; subst qbe; clear qb
 obtain ⟨vs18, qce, qc⟩ := qc; subst qce
 obtain ⟨sv19, qce, h20⟩ := qc; subst qce
 obtain ⟨A21, c22, rfl, m23, m23'⟩ := h20.val
 have hmx : maxLen = 9223372036854775807 := rfl
 have S : St [] W (wrd W) (wrd W) [] [] W := St.start (Rd.le_refl _)
 refine e_enter (args := [.agg #[.slice A8 s.clock.length c9, .slice A11 s.lives.length c12, .slice A14 s.tallies.length c15], .agg #[.bool l.set, .int .i64 l.key, .int .i64 l.item, .int .i64 l.author, .int .i64 l.seq], .agg #[.int .i64 u.author, .slice A21 u.seen.length c22, .int .i64 u.kind, .int .i64 u.key, .int .i64 u.item]]) 62 Try.func7 rfl rfl rfl ?_
 refine e_seq ?_
 refine e_reg ?_
 refine l_bx (u := .agg #[.slice A8 s.clock.length c9, .slice A11 s.lives.length c12, .slice A14 s.tallies.length c15]) (cs := #[.slice A8 s.clock.length c9, .slice A11 s.lives.length c12, .slice A14 s.tallies.length c15]) S rfl rfl fun g24 w25 S => ?_
 refine l_bx (u := .agg #[.bool l.set, .int .i64 l.key, .int .i64 l.item, .int .i64 l.author, .int .i64 l.seq]) (cs := #[.bool l.set, .int .i64 l.key, .int .i64 l.item, .int .i64 l.author, .int .i64 l.seq]) S rfl rfl fun g26 w27 S => ?_
 refine l_bx (u := .agg #[.int .i64 u.author, .slice A21 u.seen.length c22, .int .i64 u.kind, .int .i64 u.key, .int .i64 u.item]) (cs := #[.int .i64 u.author, .slice A21 u.seen.length c22, .int .i64 u.kind, .int .i64 u.key, .int .i64 u.item]) S rfl rfl fun g28 w29 S => ?_
 refine l_y (v := .bool false) S (y_as rfl) ?_
 refine l_nil ?_
 refine n_seq ?_
 refine e_seq ?_
 refine e_seq ?_
 refine e_reg ?_
 refine l_c (en_f (vs := []) (CF 13 _) rfl rfl) (alive4_c _ _ S.le) ?_
 rintro e w30 ⟨rfl, k⟩
 have S := S.callq k; clear k
 refine ckd ?_
 refine l_y (v := .bool false) S (y_not rfl rfl) ?_
 refine l_nil ?_
 refine n_seq ?_
 refine e_cF rfl ?_
 refine e_skip ?_
 refine n_seq ?_
 refine e_seq ?_
 refine e_reg ?_
 refine l_y (v := .bool false) S (y_as rfl) ?_
 refine l_nil ?_
 refine n_seq ?_
 refine e_seq ?_
 refine e_seq ?_
 refine e_reg ?_
 refine l_y (v := .pointer (some ⟨g24, 1, none⟩)) S (y_fb FA27_1 rfl rfl) ?_
 refine l_y (v := .slice A11 s.lives.length c12) S (y_ld rfl (fun w S => ld_b1 (i := 0) S rfl rfl T24)) ?_
 refine l_y (v := .int .i64 (s.lives.length : Int)) S (y_len U24 rfl rfl) ?_
 refine l_y (v := .int .i64 0) S (y_mv rfl) ?_
 refine l_nil ?_
 refine n_seq ?_
 refine e_blk ?_
 refine e_trim [(3, .pointer (some ⟨g24, 0, none⟩)), (4, .pointer (some ⟨g26, 0, none⟩)), (5, .pointer (some ⟨g28, 0, none⟩)), (6, .bool false), (17, .slice A11 s.lives.length c12), (18, .int .i64 (s.lives.length : Int)), (19, .int .i64 (0 : Int)), (7, .bool false)] ⟨⟨rfl, rfl⟩, ⟨rfl, rfl⟩, ⟨rfl, rfl⟩, ⟨rfl, rfl⟩, ⟨rfl, rfl⟩, ⟨rfl, rfl⟩, ⟨ival (by first | rfl | omega), rfl⟩, ⟨rfl, rfl⟩, trivial⟩ (fun junk => ?_)
 refine e_loop (fun (gh_ : Nat × Bool) ov w => match gh_ with | (k, b) => ∃ rd' junk, ov = [(3, .pointer (some ⟨g24, 0, none⟩)), (4, .pointer (some ⟨g26, 0, none⟩)), (5, .pointer (some ⟨g28, 0, none⟩)), (6, .bool false), (17, .slice A11 s.lives.length c12), (18, .int .i64 (s.lives.length : Int)), (19, .int .i64 (k : Int)), (7, .bool b)] ++ junk ∧ St [] W (wrd W) rd' [(g24, 27, #[.slice A8 s.clock.length c9, .slice A11 s.lives.length c12, .slice A14 s.tallies.length c15]), (g26, 62, #[.bool l.set, .int .i64 l.key, .int .i64 l.item, .int .i64 l.author, .int .i64 l.seq]), (g28, 29, #[.int .i64 u.author, .slice A21 u.seen.length c22, .int .i64 u.kind, .int .i64 u.key, .int .i64 u.item])] [] w ∧ Rd.le (wrd W) rd' ∧ k ≤ s.lives.length ∧ (b = true → l ∈ s.lives)) (fun gh_ => match gh_ with | (k, b) => s.lives.length - k) (0, false) ⟨_, junk, rfl, (S.rw' rfl rfl), (Rd.le_refl _), (by omega), (fun h => Bool.noConfusion h)⟩ ?_
 rintro ⟨k, b⟩ ov34 w32 ⟨rd31, junk, rfl, S, L33, hk, hth⟩
 replace h3 := fm h3 L33
 replace h5 := fm h5 L33
 replace h7 := fm h7 L33
 replace h20 := fm h20 L33
 refine e_seq ?_
 refine e_reg ?_
 by_cases h35 : (k : Int) < (s.lives.length : Int)
 · -- h35 yes
  refine l_y (v := .bool true) S (y_ltT rfl rfl h35) ?_
  refine l_nil ?_
  refine n_seq ?_
  refine e_seq ?_
  refine e_cT rfl ?_
  refine e_skip ?_
  refine n_seq ?_
  refine e_seq ?_
  refine e_blk ?_
  refine e_seq ?_
  refine e_reg ?_
  obtain ⟨z36, hz37⟩ : ∃ z, (s.lives)[k]? = some z := nth_of (by first | assumption | omega)
  obtain ⟨p38, vs39, E40, nn41, r42, Y43⟩ := y_ia U24 SZ62 h5 hz37
  clear nn41
  have r42e : vs39 = [.bool z36.set, .int .i64 z36.key, .int .i64 z36.item, .int .i64 z36.author, .int .i64 z36.seq] := r42; subst r42e; clear r42
  refine l_y (v := p38) S (Y43 rfl rfl (by first | rfl | omega)) ?_
  refine l_y (v := .agg #[.bool z36.set, .int .i64 z36.key, .int .i64 z36.item, .int .i64 z36.author, .int .i64 z36.seq]) S (y_ld rfl (fun w S => ld_pA (us := [.bool z36.set, .int .i64 z36.key, .int .i64 z36.item, .int .i64 z36.author, .int .i64 z36.seq]) S.le E40 T62 rfl rfl)) ?_
  refine l_al (cs := #[.bool false, .int .i64 0, .int .i64 0, .int .i64 0, .int .i64 0]) S Z62 rfl fun g44 w45 S => ?_
  refine l_st (u := .agg #[.bool z36.set, .int .i64 z36.key, .int .i64 z36.item, .int .i64 z36.author, .int .i64 z36.seq]) (i := 3) (cs' := #[.bool z36.set, .int .i64 z36.key, .int .i64 z36.item, .int .i64 z36.author, .int .i64 z36.seq]) S rfl rfl rfl SZ62 rfl rfl rfl fun w46 S => ?_
  refine l_nil ?_
  refine n_seq ?_
  refine e_reg ?_
  cases b
  · -- there False
   refine l_y (v := .bool false) S (y_mv rfl) ?_
   refine l_y (v := .bool false) S (y_mv rfl) ?_
   refine l_g (d' := 24) (v := .agg #[.bool z36.set, .int .i64 z36.key, .int .i64 z36.item, .int .i64 z36.author, .int .i64 z36.seq]) S (y_ld rfl (fun w S => ld_bA (vs := [.bool z36.set, .int .i64 z36.key, .int .i64 z36.item, .int .i64 z36.author, .int .i64 z36.seq]) (i := 3) S rfl T62 rfl rfl)) rfl rfl ?_
   refine l_g (d' := 24) (v := .agg #[.bool l.set, .int .i64 l.key, .int .i64 l.item, .int .i64 l.author, .int .i64 l.seq]) S (y_ld rfl (fun w S => ld_bA (vs := [.bool l.set, .int .i64 l.key, .int .i64 l.item, .int .i64 l.author, .int .i64 l.seq]) (i := 1) S rfl T62 rfl rfl)) rfl rfl ?_
   by_cases hzl : z36 = l
   · -- hzl yes
    refine l_g (d' := 24) (v := .bool true) S (y_eqa (fun _ _ _ => by kernel_rfl) (fun w => Live_eqT w hzl) rfl rfl) rfl rfl ?_
    refine l_y (v := .bool true) S (y_pF rfl rfl) ?_
    refine l_y (v := .bool true) S (y_as rfl) ?_
    refine l_nil ?_
    refine n_blk ?_
    refine n_seq ?_
    refine e_reg ?_
    refine l_y (v := .int .i64 ((k : Int) + 1)) S (y_add (r := (k : Int) + 1) rfl rfl (w64 (by omega) (by omega))) ?_
    refine l_y (v := .int .i64 ((k : Int) + 1)) S (y_mv rfl) ?_
    refine l_nil ?_
    refine n_lp ⟨(k + 1, true), _, fr_keep (m := [(3, .pointer (some ⟨g24, 0, none⟩)), (4, .pointer (some ⟨g26, 0, none⟩)), (5, .pointer (some ⟨g28, 0, none⟩)), (6, .bool false), (17, .slice A11 s.lives.length c12), (18, .int .i64 (s.lives.length : Int)), (19, .int .i64 ((k + 1 : Nat) : Int)), (7, .bool true)]) ⟨⟨rfl, rfl⟩, ⟨rfl, rfl⟩, ⟨rfl, rfl⟩, ⟨rfl, rfl⟩, ⟨rfl, rfl⟩, ⟨rfl, rfl⟩, ⟨ival (by first | rfl | omega), rfl⟩, ⟨rfl, rfl⟩, trivial⟩, ⟨_, _, rfl, (S.tk 3 0 rfl rfl), (Rd.le_trans L33 (Rd.le_refl rd31)), (by omega), (by first | exact fun _ => hth rfl | exact fun _ => hzl ▸ List.mem_of_getElem? hz37)⟩, ?_⟩
    show _ < _; dsimp only; omega
   · -- hzl no
    refine l_g (d' := 24) (v := .bool false) S (y_eqa (fun _ _ _ => by kernel_rfl) (fun w => Live_eqF w hzl) rfl rfl) rfl rfl ?_
    refine l_y (v := .bool false) S (y_pF rfl rfl) ?_
    refine l_y (v := .bool false) S (y_as rfl) ?_
    refine l_nil ?_
    refine n_blk ?_
    refine n_seq ?_
    refine e_reg ?_
    refine l_y (v := .int .i64 ((k : Int) + 1)) S (y_add (r := (k : Int) + 1) rfl rfl (w64 (by omega) (by omega))) ?_
    refine l_y (v := .int .i64 ((k : Int) + 1)) S (y_mv rfl) ?_
    refine l_nil ?_
    refine n_lp ⟨(k + 1, false), _, fr_keep (m := [(3, .pointer (some ⟨g24, 0, none⟩)), (4, .pointer (some ⟨g26, 0, none⟩)), (5, .pointer (some ⟨g28, 0, none⟩)), (6, .bool false), (17, .slice A11 s.lives.length c12), (18, .int .i64 (s.lives.length : Int)), (19, .int .i64 ((k + 1 : Nat) : Int)), (7, .bool false)]) ⟨⟨rfl, rfl⟩, ⟨rfl, rfl⟩, ⟨rfl, rfl⟩, ⟨rfl, rfl⟩, ⟨rfl, rfl⟩, ⟨rfl, rfl⟩, ⟨ival (by first | rfl | omega), rfl⟩, ⟨rfl, rfl⟩, trivial⟩, ⟨_, _, rfl, (S.tk 3 0 rfl rfl), (Rd.le_trans L33 (Rd.le_refl rd31)), (by omega), (fun h => Bool.noConfusion h)⟩, ?_⟩
    show _ < _; dsimp only; omega
  · -- there True
   refine l_y (v := .bool true) S (y_mv rfl) ?_
   refine l_y (v := .bool true) S (y_mv rfl) ?_
   refine l_s (d' := 24) rfl rfl ?_
   refine l_s (d' := 24) rfl rfl ?_
   refine l_s (d' := 24) rfl rfl ?_
   refine l_y (v := .bool true) S (y_pT rfl rfl) ?_
   refine l_y (v := .bool true) S (y_as rfl) ?_
   refine l_nil ?_
   refine n_blk ?_
   refine n_seq ?_
   refine e_reg ?_
   refine l_y (v := .int .i64 ((k : Int) + 1)) S (y_add (r := (k : Int) + 1) rfl rfl (w64 (by omega) (by omega))) ?_
   refine l_y (v := .int .i64 ((k : Int) + 1)) S (y_mv rfl) ?_
   refine l_nil ?_
   refine n_lp ⟨(k + 1, true), _, fr_keep (m := [(3, .pointer (some ⟨g24, 0, none⟩)), (4, .pointer (some ⟨g26, 0, none⟩)), (5, .pointer (some ⟨g28, 0, none⟩)), (6, .bool false), (17, .slice A11 s.lives.length c12), (18, .int .i64 (s.lives.length : Int)), (19, .int .i64 ((k + 1 : Nat) : Int)), (7, .bool true)]) ⟨⟨rfl, rfl⟩, ⟨rfl, rfl⟩, ⟨rfl, rfl⟩, ⟨rfl, rfl⟩, ⟨rfl, rfl⟩, ⟨rfl, rfl⟩, ⟨ival (by first | rfl | omega), rfl⟩, ⟨rfl, rfl⟩, trivial⟩, ⟨_, _, rfl, (S.tk 3 0 rfl rfl), (Rd.le_trans L33 (Rd.le_refl rd31)), (by omega), (by first | exact fun _ => hth rfl | exact fun _ => hzl ▸ List.mem_of_getElem? hz37)⟩, ?_⟩
   show _ < _; dsimp only; omega
 · -- h35 no
  refine l_y (v := .bool false) S (y_ltF rfl rfl h35) ?_
  refine l_nil ?_
  refine n_seq ?_
  refine e_seq ?_
  refine e_cF rfl ?_
  refine e_exit ?_
  refine x_seq ?_
  refine x_lp ?_
  refine x_hit ?_
  refine n_seq ?_
  refine e_seq ?_
  refine e_reg ?_
  refine l_y (v := .agg #[.slice A8 s.clock.length c9, .slice A11 s.lives.length c12, .slice A14 s.tallies.length c15]) S (y_ld rfl (fun w S => ld_bA (vs := [.slice A8 s.clock.length c9, .slice A11 s.lives.length c12, .slice A14 s.tallies.length c15]) (i := 0) S rfl T27 rfl rfl)) ?_
  refine l_y (v := .agg #[.int .i64 u.author, .slice A21 u.seen.length c22, .int .i64 u.kind, .int .i64 u.key, .int .i64 u.item]) S (y_ld rfl (fun w S => ld_bA (vs := [.int .i64 u.author, .slice A21 u.seen.length c22, .int .i64 u.kind, .int .i64 u.key, .int .i64 u.item]) (i := 2) S rfl T29 rfl rfl)) ?_
  refine l_c (en_f (vs := [.agg #[.slice A8 s.clock.length c9, .slice A11 s.lives.length c12, .slice A14 s.tallies.length c15], .agg #[.int .i64 u.author, .slice A21 u.seen.length c22, .int .i64 u.kind, .int .i64 u.key, .int .i64 u.item]]) (CF 23 _) rfl rfl) (SApply_c _ _ S.le _ _ s u (⟨_, rfl, ⟨_, _, _, rfl, h3, h5, h7⟩⟩ : AggR StateR rd31 _ s) (⟨_, rfl, ⟨_, rfl, h20⟩⟩ : AggR UpdR rd31 _ u)) ?_
  rintro e w47 ⟨v52, rfl, h53, k⟩
  obtain ⟨rd48, S, L49, N50, X51⟩ := S.call' k; clear k
  replace h3 := fm h3 L49
  replace h5 := fm h5 L49
  replace h7 := fm h7 L49
  replace h20 := fm h20 L49
  replace h53 := am h53 X51
  obtain ⟨cs54, h53v, h53⟩ := h53; subst h53v
  obtain ⟨sv55, sv57, sv59, h53e, h56, h58, h60⟩ := h53; subst h53e
  obtain ⟨A61, c62, rfl, m63, m63'⟩ := h56.val
  obtain ⟨A64, c65, rfl, m66, m66'⟩ := h58.val
  obtain ⟨A67, c68, rfl, m69, m69'⟩ := h60.val
  refine ckd ?_
  refine l_y (v := .tuple #[.agg #[.slice A61 (((ApplyS s u).1.clock).length) c62, .slice A64 (((ApplyS s u).1.lives).length) c65, .slice A67 (((ApplyS s u).1.tallies).length) c68], .int .i64 ((ApplyS s u).2)]) S (y_mv rfl) ?_
  refine l_y (v := .agg #[.slice A61 (((ApplyS s u).1.clock).length) c62, .slice A64 (((ApplyS s u).1.lives).length) c65, .slice A67 (((ApplyS s u).1.tallies).length) c68]) S (y_ex rfl rfl) ?_
  refine l_y (v := .int .i64 ((ApplyS s u).2)) S (y_ex rfl rfl) ?_
  refine l_al (cs := #[.slice none 0 0, .slice none 0 0, .slice none 0 0]) S Z27 rfl fun g70 w71 S => ?_
  refine l_st (u := .agg #[.slice A61 (((ApplyS s u).1.clock).length) c62, .slice A64 (((ApplyS s u).1.lives).length) c65, .slice A67 (((ApplyS s u).1.tallies).length) c68]) (i := 3) (cs' := #[.slice A61 (((ApplyS s u).1.clock).length) c62, .slice A64 (((ApplyS s u).1.lives).length) c65, .slice A67 (((ApplyS s u).1.tallies).length) c68]) S rfl rfl rfl SZ27 rfl rfl rfl fun w72 S => ?_
  refine l_y (v := .int .i64 ((ApplyS s u).2)) S (y_as rfl) ?_
  refine l_nil ?_
  refine n_seq ?_
  refine e_seq ?_
  refine e_seq ?_
  refine e_reg ?_
  cases b
  · -- there False
   refine l_y (v := .int .i64 ((ApplyS s u).2)) S (y_mv rfl) ?_
   by_cases hA : (ApplyS s u).2 = 0
   · -- hA yes
    refine l_y (v := .bool false) S (y_neF rfl rfl hA) ?_
    refine l_y (v := .bool false) S (y_mv rfl) ?_
    refine l_g (d' := 38) (v := .bool false) S (y_mv rfl) rfl rfl ?_
    refine l_g (d' := 38) (v := .bool true) S (y_not rfl rfl) rfl rfl ?_
    refine l_y (v := .bool true) S (y_pF rfl rfl) ?_
    refine l_y (v := .bool true) S (y_mv rfl) ?_
    refine l_s (d' := 42) rfl rfl ?_
    refine l_s (d' := 42) rfl rfl ?_
    refine l_s (d' := 42) rfl rfl ?_
    refine l_s (d' := 42) rfl rfl ?_
    refine l_s (d' := 42) rfl rfl ?_
    refine l_s (d' := 42) rfl rfl ?_
    refine l_s (d' := 42) rfl rfl ?_
    refine l_y (v := .bool true) S (y_pT rfl rfl) ?_
    refine l_nil ?_
    refine n_seq ?_
    refine e_trim [(4, .pointer (some ⟨g26, 0, none⟩)), (6, .bool false), (10, .pointer (some ⟨g70, 0, none⟩)), (50, .bool true)] ⟨⟨rfl, rfl⟩, ⟨rfl, rfl⟩, ⟨rfl, rfl⟩, ⟨rfl, rfl⟩, trivial⟩ (fun junk => ?_)
    refine e_cT rfl ?_
    refine e_seq ?_
    refine e_reg ?_
    refine l_y (v := .bool true) S (y_as rfl) ?_
    refine l_nil ?_
    refine n_seq ?_
    refine e_ret ?_
    refine ret1 (v := .bool true) rfl rfl ?_
    exact ⟨rfl, S.below⟩
   · -- hA no
    refine l_y (v := .bool true) S (y_neT rfl rfl hA) ?_
    refine l_y (v := .bool true) S (y_mv rfl) ?_
    refine l_s (d' := 38) rfl rfl ?_
    refine l_s (d' := 38) rfl rfl ?_
    refine l_y (v := .bool true) S (y_pT rfl rfl) ?_
    refine l_y (v := .bool true) S (y_mv rfl) ?_
    refine l_s (d' := 42) rfl rfl ?_
    refine l_s (d' := 42) rfl rfl ?_
    refine l_s (d' := 42) rfl rfl ?_
    refine l_s (d' := 42) rfl rfl ?_
    refine l_s (d' := 42) rfl rfl ?_
    refine l_s (d' := 42) rfl rfl ?_
    refine l_s (d' := 42) rfl rfl ?_
    refine l_y (v := .bool true) S (y_pT rfl rfl) ?_
    refine l_nil ?_
    refine n_seq ?_
    refine e_trim [(4, .pointer (some ⟨g26, 0, none⟩)), (6, .bool false), (10, .pointer (some ⟨g70, 0, none⟩)), (50, .bool true)] ⟨⟨rfl, rfl⟩, ⟨rfl, rfl⟩, ⟨rfl, rfl⟩, ⟨rfl, rfl⟩, trivial⟩ (fun junk => ?_)
    refine e_cT rfl ?_
    refine e_seq ?_
    refine e_reg ?_
    refine l_y (v := .bool true) S (y_as rfl) ?_
    refine l_nil ?_
    refine n_seq ?_
    refine e_ret ?_
    refine ret1 (v := .bool true) rfl rfl ?_
    exact ⟨rfl, S.below⟩
  · -- there True
   refine l_y (v := .int .i64 ((ApplyS s u).2)) S (y_mv rfl) ?_
   by_cases hA : (ApplyS s u).2 = 0
   · -- hA yes
    refine l_y (v := .bool false) S (y_neF rfl rfl hA) ?_
    refine l_y (v := .bool false) S (y_mv rfl) ?_
    refine l_g (d' := 38) (v := .bool true) S (y_mv rfl) rfl rfl ?_
    refine l_g (d' := 38) (v := .bool false) S (y_not rfl rfl) rfl rfl ?_
    refine l_y (v := .bool false) S (y_pF rfl rfl) ?_
    refine l_y (v := .bool false) S (y_mv rfl) ?_
    refine l_g (d' := 42) (v := .pointer (some ⟨g28, 1, none⟩)) S (y_fb FA29_1 rfl rfl) rfl rfl ?_
    refine l_g (d' := 42) (v := .slice A21 u.seen.length c22) S (y_ld rfl (fun w S => ld_b1 (i := 2) S rfl rfl T23)) rfl rfl ?_
    refine l_g (d' := 42) (v := .pointer (some ⟨g26, 3, none⟩)) S (y_fb FA62_3 rfl rfl) rfl rfl ?_
    refine l_g (d' := 42) (v := .int .i64 l.author) S (y_ld rfl (fun w S => ld_b1 (i := 1) S rfl rfl T3)) rfl rfl ?_
    refine l_g (d' := 42) (v := .pointer (some ⟨g26, 4, none⟩)) S (y_fb FA62_4 rfl rfl) rfl rfl ?_
    refine l_g (d' := 42) (v := .int .i64 l.seq) S (y_ld rfl (fun w S => ld_b1 (i := 1) S rfl rfl T3)) rfl rfl ?_
    refine l_cg (d' := 42) (en_f (vs := [.slice A21 u.seen.length c22, .int .i64 l.author, .int .i64 l.seq]) (CF 29 _) rfl rfl) rfl rfl (Has_calls _ _ _ _ _ (fm h20 S.le)) ?_
    rintro e w73 ⟨rfl, rfl⟩
    cases hH : hasC u.seen l.author l.seq
    · -- hH False
     refine ckd ?_
     refine l_y (v := .bool false) S (y_pF rfl rfl) ?_
     refine l_nil ?_
     refine n_seq ?_
     refine e_trim [(4, .pointer (some ⟨g26, 0, none⟩)), (6, .bool false), (10, .pointer (some ⟨g70, 0, none⟩)), (50, .bool false)] ⟨⟨rfl, rfl⟩, ⟨rfl, rfl⟩, ⟨rfl, rfl⟩, ⟨rfl, rfl⟩, trivial⟩ (fun junk => ?_)
     refine e_cF rfl ?_
     refine e_skip ?_
     refine n_seq ?_
     refine e_seq ?_
     refine e_seq ?_
     refine e_reg ?_
     refine l_y (v := .pointer (some ⟨g70, 1, none⟩)) S (y_fb FA27_1 rfl rfl) ?_
     refine l_y (v := .slice A64 (((ApplyS s u).1.lives).length) c65) S (y_ld rfl (fun w S => ld_b1 (i := 3) S rfl rfl T24)) ?_
     refine l_y (v := .int .i64 (((ApplyS s u).1.lives).length : Int)) S (y_len U24 rfl rfl) ?_
     refine l_y (v := .int .i64 0) S (y_mv rfl) ?_
     refine l_nil ?_
     refine n_seq ?_
     refine e_blk ?_
     refine e_trim [(4, .pointer (some ⟨g26, 0, none⟩)), (52, .slice A64 (((ApplyS s u).1.lives).length) c65), (53, .int .i64 (((ApplyS s u).1.lives).length : Int)), (54, .int .i64 (0 : Int))] ⟨⟨rfl, rfl⟩, ⟨rfl, rfl⟩, ⟨rfl, rfl⟩, ⟨ival (by first | rfl | omega), rfl⟩, trivial⟩ (fun junk => ?_)
     refine e_loop (fun (gh_ : Nat) ov w => match gh_ with | k => ∃ rd' junk, ov = [(4, .pointer (some ⟨g26, 0, none⟩)), (52, .slice A64 (((ApplyS s u).1.lives).length) c65), (53, .int .i64 (((ApplyS s u).1.lives).length : Int)), (54, .int .i64 (k : Int))] ++ junk ∧ St [] W (wrd W) rd' [(g24, 27, #[.slice A8 s.clock.length c9, .slice A11 s.lives.length c12, .slice A14 s.tallies.length c15]), (g26, 62, #[.bool l.set, .int .i64 l.key, .int .i64 l.item, .int .i64 l.author, .int .i64 l.seq]), (g28, 29, #[.int .i64 u.author, .slice A21 u.seen.length c22, .int .i64 u.kind, .int .i64 u.key, .int .i64 u.item]), (g70, 27, #[.slice A61 (((ApplyS s u).1.clock).length) c62, .slice A64 (((ApplyS s u).1.lives).length) c65, .slice A67 (((ApplyS s u).1.tallies).length) c68])] [] w ∧ Rd.le rd48 rd' ∧ k ≤ (ApplyS s u).1.lives.length ∧ (∀ y ∈ (ApplyS s u).1.lives.take k, ¬ y = l)) (fun gh_ => match gh_ with | k => (ApplyS s u).1.lives.length - k) 0 ⟨_, junk, rfl, (S.rw' rfl rfl), (Rd.le_refl _), (by omega), (by simp)⟩ ?_
     rintro k ov77 w75 ⟨rd74, junk, rfl, S, L76, hk, hno⟩
     replace h3 := fm h3 L76
     replace h5 := fm h5 L76
     replace h7 := fm h7 L76
     replace h20 := fm h20 L76
     replace h56 := fm h56 L76
     replace h58 := fm h58 L76
     replace h60 := fm h60 L76
     refine e_seq ?_
     refine e_reg ?_
     by_cases h78 : (k : Int) < (((ApplyS s u).1.lives).length : Int)
     · -- h78 yes
      refine l_y (v := .bool true) S (y_ltT rfl rfl h78) ?_
      refine l_nil ?_
      refine n_seq ?_
      refine e_seq ?_
      refine e_cT rfl ?_
      refine e_skip ?_
      refine n_seq ?_
      refine e_seq ?_
      refine e_blk ?_
      refine e_seq ?_
      refine e_reg ?_
      obtain ⟨z79, hz80⟩ : ∃ z, ((ApplyS s u).1.lives)[k]? = some z := nth_of (by first | assumption | omega)
      obtain ⟨p81, vs82, E83, nn84, r85, Y86⟩ := y_ia U24 SZ62 h58 hz80
      clear nn84
      have r85e : vs82 = [.bool z79.set, .int .i64 z79.key, .int .i64 z79.item, .int .i64 z79.author, .int .i64 z79.seq] := r85; subst r85e; clear r85
      refine l_y (v := p81) S (Y86 rfl rfl (by first | rfl | omega)) ?_
      refine l_y (v := .agg #[.bool z79.set, .int .i64 z79.key, .int .i64 z79.item, .int .i64 z79.author, .int .i64 z79.seq]) S (y_ld rfl (fun w S => ld_pA (us := [.bool z79.set, .int .i64 z79.key, .int .i64 z79.item, .int .i64 z79.author, .int .i64 z79.seq]) S.le E83 T62 rfl rfl)) ?_
      refine l_al (cs := #[.bool false, .int .i64 0, .int .i64 0, .int .i64 0, .int .i64 0]) S Z62 rfl fun g87 w88 S => ?_
      refine l_st (u := .agg #[.bool z79.set, .int .i64 z79.key, .int .i64 z79.item, .int .i64 z79.author, .int .i64 z79.seq]) (i := 4) (cs' := #[.bool z79.set, .int .i64 z79.key, .int .i64 z79.item, .int .i64 z79.author, .int .i64 z79.seq]) S rfl rfl rfl SZ62 rfl rfl rfl fun w89 S => ?_
      refine l_nil ?_
      refine n_seq ?_
      refine e_seq ?_
      refine e_reg ?_
      refine l_y (v := .agg #[.bool z79.set, .int .i64 z79.key, .int .i64 z79.item, .int .i64 z79.author, .int .i64 z79.seq]) S (y_ld rfl (fun w S => ld_bA (vs := [.bool z79.set, .int .i64 z79.key, .int .i64 z79.item, .int .i64 z79.author, .int .i64 z79.seq]) (i := 4) S rfl T62 rfl rfl)) ?_
      refine l_y (v := .agg #[.bool l.set, .int .i64 l.key, .int .i64 l.item, .int .i64 l.author, .int .i64 l.seq]) S (y_ld rfl (fun w S => ld_bA (vs := [.bool l.set, .int .i64 l.key, .int .i64 l.item, .int .i64 l.author, .int .i64 l.seq]) (i := 1) S rfl T62 rfl rfl)) ?_
      by_cases hne : z79 = l
      · -- hne yes
       refine l_y (v := .bool true) S (y_eqa (fun _ _ _ => by kernel_rfl) (fun w => Live_eqT w hne) rfl rfl) ?_
       refine l_nil ?_
       refine n_seq ?_
       refine e_cT rfl ?_
       refine e_seq ?_
       refine e_reg ?_
       refine l_y (v := .bool true) S (y_as rfl) ?_
       refine l_nil ?_
       refine n_seq ?_
       refine e_ret ?_
       refine ret1 (v := .bool true) rfl rfl ?_
       exact ⟨rfl, S.below⟩
      · -- hne no
       refine l_y (v := .bool false) S (y_eqa (fun _ _ _ => by kernel_rfl) (fun w => Live_eqF w hne) rfl rfl) ?_
       refine l_nil ?_
       refine n_seq ?_
       refine e_cF rfl ?_
       refine e_skip ?_
       refine n_blk ?_
       refine n_seq ?_
       refine e_reg ?_
       refine l_y (v := .int .i64 ((k : Int) + 1)) S (y_add (r := (k : Int) + 1) rfl rfl (w64 (by omega) (by omega))) ?_
       refine l_y (v := .int .i64 ((k : Int) + 1)) S (y_mv rfl) ?_
       refine l_nil ?_
       refine n_lp ⟨(k + 1), _, fr_keep (m := [(4, .pointer (some ⟨g26, 0, none⟩)), (52, .slice A64 (((ApplyS s u).1.lives).length) c65), (53, .int .i64 (((ApplyS s u).1.lives).length : Int)), (54, .int .i64 ((k + 1 : Nat) : Int))]) ⟨⟨rfl, rfl⟩, ⟨rfl, rfl⟩, ⟨rfl, rfl⟩, ⟨ival (by first | rfl | omega), rfl⟩, trivial⟩, ⟨_, _, rfl, (S.tk 4 0 rfl rfl), (Rd.le_trans L76 (Rd.le_refl rd74)), (by omega), (not_next hno hz80 hne)⟩, ?_⟩
       show _ < _; dsimp only; omega
     · -- h78 no
      refine l_y (v := .bool false) S (y_ltF rfl rfl h78) ?_
      refine l_nil ?_
      refine n_seq ?_
      refine e_seq ?_
      refine e_cF rfl ?_
      refine e_exit ?_
      refine x_seq ?_
      refine x_lp ?_
      refine x_hit ?_
      refine n_seq ?_
      refine e_seq ?_
      refine e_reg ?_
      refine l_y (v := .bool false) S (y_as rfl) ?_
      refine l_nil ?_
      refine n_seq ?_
      refine e_ret ?_
      refine ret1 (v := .bool false) rfl rfl ?_
      exact absurd rfl (hno l (by rw [List.take_of_length_le (by omega)]; exact keeps_p hA (hth rfl) hH))
    · -- hH True
     refine ckd ?_
     refine l_y (v := .bool true) S (y_pF rfl rfl) ?_
     refine l_nil ?_
     refine n_seq ?_
     refine e_trim [(4, .pointer (some ⟨g26, 0, none⟩)), (6, .bool false), (10, .pointer (some ⟨g70, 0, none⟩)), (50, .bool true)] ⟨⟨rfl, rfl⟩, ⟨rfl, rfl⟩, ⟨rfl, rfl⟩, ⟨rfl, rfl⟩, trivial⟩ (fun junk => ?_)
     refine e_cT rfl ?_
     refine e_seq ?_
     refine e_reg ?_
     refine l_y (v := .bool true) S (y_as rfl) ?_
     refine l_nil ?_
     refine n_seq ?_
     refine e_ret ?_
     refine ret1 (v := .bool true) rfl rfl ?_
     exact ⟨rfl, S.below⟩
   · -- hA no
    refine l_y (v := .bool true) S (y_neT rfl rfl hA) ?_
    refine l_y (v := .bool true) S (y_mv rfl) ?_
    refine l_s (d' := 38) rfl rfl ?_
    refine l_s (d' := 38) rfl rfl ?_
    refine l_y (v := .bool true) S (y_pT rfl rfl) ?_
    refine l_y (v := .bool true) S (y_mv rfl) ?_
    refine l_s (d' := 42) rfl rfl ?_
    refine l_s (d' := 42) rfl rfl ?_
    refine l_s (d' := 42) rfl rfl ?_
    refine l_s (d' := 42) rfl rfl ?_
    refine l_s (d' := 42) rfl rfl ?_
    refine l_s (d' := 42) rfl rfl ?_
    refine l_s (d' := 42) rfl rfl ?_
    refine l_y (v := .bool true) S (y_pT rfl rfl) ?_
    refine l_nil ?_
    refine n_seq ?_
    refine e_trim [(4, .pointer (some ⟨g26, 0, none⟩)), (6, .bool false), (10, .pointer (some ⟨g70, 0, none⟩)), (50, .bool true)] ⟨⟨rfl, rfl⟩, ⟨rfl, rfl⟩, ⟨rfl, rfl⟩, ⟨rfl, rfl⟩, trivial⟩ (fun junk => ?_)
    refine e_cT rfl ?_
    refine e_seq ?_
    refine e_reg ?_
    refine l_y (v := .bool true) S (y_as rfl) ?_
    refine l_nil ?_
    refine n_seq ?_
    refine e_ret ?_
    refine ret1 (v := .bool true) rfl rfl ?_
    exact ⟨rfl, S.below⟩
set_option maxRecDepth 100000 in
theorem StateKeeps_lifted (os : Os) (started : os.Started) (H : Type) (enc : TypeId × Value → H) :
    ReturnsInHanded {} Try.checked os 7 .any (Rows.stateKeepsSpec.pre6 enc Try.prog Try.f7 Rows.stateKeepsRow.domain false) (Rows.stateKeepsSpec.post enc Try.prog Try.f7 false true false false) := by
  refine returnsInHanded_of_change_sized (C := Try.checked) own_ started (by kernel_rfl) Try.func7
    (ChangeSpec.witness6 (enc := enc) (C := Try.checked) false ⟨#[], #[.agg #[.slice none 0 0, .slice none 0 0, .slice none 0 0], .agg #[.bool false, .int .i64 0, .int .i64 0, .int .i64 0, .int .i64 0], .agg #[.int .i64 0, .slice none 0 0, .int .i64 0, .int .i64 0, .int .i64 0]], []⟩ 8 (by kernel_rfl) (by kernel_rfl) (by kernel_rfl) (by kernel_rfl)) ?_
  intro W base args ds gs before hval0 hW _ hsz0 _
  have hval : ∀ (j : Nat) t v, Try.f7.params[j]? = some t → args[j]? = some v → Value.okWide Try.prog W .any base t v := hval0
  have hsz : (DataW.weightsEach Try.prog (Try.f7.params.toList ++ Rows.stateKeepsSpec.plain.varTypes Try.prog) (ds ++ gs)).all (· ≤ reachBytes) = true := hsz0
  have hW' := hW
  obtain ⟨p, q, hA0, hV, rfl, _, _⟩ := hW
  obtain ⟨rfl, rfl⟩ := trodVars_none hV
  have hA : DataW.TrodAll enc Try.prog W 0 (fun _ => true) true Try.f7.params.toList args.toList ds p := hA0
  rw [Try.params7] at hA hval hsz
  obtain ⟨v1, vs1, d1, ds1, p1, q1, e1, rfl, rfl, t1, r1⟩ := trodAll_cons hA
  obtain ⟨v2, vs2, d2, ds2, p2, q2, rfl, rfl, rfl, t2, r2⟩ := trodAll_cons r1
  obtain ⟨v3, vs3, d3, ds3, p3, q3, rfl, rfl, rfl, t3, r3⟩ := trodAll_cons r2
  obtain ⟨rfl, rfl, rfl⟩ := trodAll_nil r3
  obtain rfl : args = #[v1, v2, v3] := by cases args; simp_all
  obtain ⟨z1, hsz⟩ := weights_each hsz
  obtain ⟨z2, hsz⟩ := weights_each hsz
  obtain ⟨z3, hsz⟩ := weights_each hsz
  obtain ⟨a1, ha1, hb1⟩ := arg_agg Try.underlying27 op_state (hval 0 _ v1 rfl rfl) t1 z1
  obtain ⟨a2, ha2, hb2⟩ := arg_agg Try.underlying62 op_live (hval 1 _ v2 rfl rfl) t2 z2
  obtain ⟨a3, ha3, hb3⟩ := arg_agg Try.underlying29 op_upd (hval 2 _ v3 rfl rfl) t3 z3
  refine (StateKeeps_calls W v1 a1 ha1 hb1 v2 a2 ha2 hb2 v3 a3 ha3 hb3).mono fun e W' ⟨he, hbl⟩ => ?_
  subst he
  exact ⟨_, rfl, close_law laidOut (by kernel_rfl) rfl (fun gs h => by subst h; rfl) rfl (tb := 4) Try.underlying4 hW' hbl⟩

theorem StateKeeps_holds : Rows.StateKeepsSaid :=
  OpenClaim.holds_of_wide 7 Try.f7 rfl rfl rfl rfl rfl rfl rfl ⟨rfl, rfl, rfl, rfl, rfl⟩ rfl rfl rfl rfl rfl (by kernel_rfl) Try.func7 (by kernel_rfl)
    (of_decide_eq_true (by kernel_rfl)) (by unfold Func.isWrapper; first | (rw [if_pos (by decide +kernel)]; kernel_rfl) | (rw [if_neg (by decide +kernel)]; exact ⟨rfl, rfl⟩))
    (fun os started H enc _ => StateKeeps_lifted os started H enc)
#print axioms StateKeeps_holds
end Go.Proofs.Ytkjknlnhffmkkab
