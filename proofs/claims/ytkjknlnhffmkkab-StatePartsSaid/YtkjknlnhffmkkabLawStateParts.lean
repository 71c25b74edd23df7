/- StateParts: one by one as all at once. For every input; no condition. -/
import Derived.Test.YtkjknlnhffmkkabAlive4
import Derived.Test.YtkjknlnhffmkkabTick
import Derived.Test.YtkjknlnhffmkkabClose4
namespace Go.Proofs.Ytkjknlnhffmkkab
open Go.ChangeShapes Go.WideShapes Go.ChangeAt Go.RowKit
set_option linter.unusedVariables false
theorem parts_len {s : State} {l : List Upd} {k : Nat} {u : Upd} (h : (PlayS s l).2.1 = 0) (hk : l[k]? = some u) : (playS s (l.take k)).clock.length ≤ 6 := by
  obtain ⟨h1, h2, h3, e⟩ := PlayS_ok h
  exact (play_step h1 h2 hk).1.clock_len
set_option maxRecDepth 100000 in
set_option maxHeartbeats 8000000 in
theorem StateParts_calls (W : World) (v1 : Value) (s : State) (qa : AggR StateR (wrd W) v1 s) (b1 : StateBd s) (v2 : Value) (l : List Upd) (qb : UpdsR (wrd W) v2 l) (b2 : UpdsBd l) :
    Calls Try.prog 5 #[v1, v2] W (fun e w' => e = .returned (.bool true) ∧ Below W.heap.size W w') := by
 obtain ⟨vs1, qae, qa⟩ := qa; subst qae
 obtain ⟨sv2, sv4, sv6, qae, h3, h5, h7⟩ := qa; subst qae
 obtain ⟨A8, c9, rfl, m10, m10'⟩ := h3.val
 obtain ⟨A11, c12, rfl, m13, m13'⟩ := h5.val
 obtain ⟨A14, c15, rfl, m16, m16'⟩ := h7.val
 obtain ⟨A17, c18, rfl, m19, m19'⟩ := qb.val
 have hmx : maxLen = 9223372036854775807 := rfl
 have S : St [] W (wrd W) (wrd W) [] [] W := St.start (Rd.le_refl _)
 refine e_enter (args := [.agg #[.slice A8 s.clock.length c9, .slice A11 s.lives.length c12, .slice A14 s.tallies.length c15], .slice A17 l.length c18]) 63 Try.func5 rfl rfl rfl ?_
 refine e_seq ?_
 refine e_reg ?_
 refine l_bx (u := .agg #[.slice A8 s.clock.length c9, .slice A11 s.lives.length c12, .slice A14 s.tallies.length c15]) (cs := #[.slice A8 s.clock.length c9, .slice A11 s.lives.length c12, .slice A14 s.tallies.length c15]) S rfl rfl fun g20 w21 S => ?_
 refine l_y (v := .bool false) S (y_as rfl) ?_
 refine l_nil ?_
 refine n_seq ?_
 refine e_seq ?_
 refine e_seq ?_
 refine e_reg ?_
 refine l_c (en_f (vs := []) (CF 13 _) rfl rfl) (alive4_c _ _ S.le) ?_
 rintro e w22 ⟨rfl, k⟩
 have S := S.callq k; clear k
 refine ckd ?_
 refine l_y (v := .bool false) S (y_not rfl rfl) ?_
 refine l_nil ?_
 refine n_seq ?_
 refine e_cF rfl ?_
 refine e_skip ?_
 refine n_seq ?_
 refine e_seq ?_
 refine e_reg ?_
 refine l_y (v := .agg #[.slice A8 s.clock.length c9, .slice A11 s.lives.length c12, .slice A14 s.tallies.length c15]) S (y_ld rfl (fun w S => ld_bA (vs := [.slice A8 s.clock.length c9, .slice A11 s.lives.length c12, .slice A14 s.tallies.length c15]) (i := 0) S rfl T27 rfl rfl)) ?_
 refine l_y (v := .slice A17 l.length c18) S (y_mv rfl) ?_
 refine l_c (en_f (vs := [.agg #[.slice A8 s.clock.length c9, .slice A11 s.lives.length c12, .slice A14 s.tallies.length c15], .slice A17 l.length c18]) (CF 14 _) rfl rfl) (SPlay_c _ _ S.le _ _ s l (⟨_, rfl, ⟨_, _, _, rfl, h3, h5, h7⟩⟩ : AggR StateR (wrd W) _ s) qb) ?_
 rintro e w23 ⟨v28, rfl, h29, k⟩
 obtain ⟨rd24, S, L25, N26, X27⟩ := S.call' k; clear k
 replace h3 := fm h3 L25
 replace h5 := fm h5 L25
 replace h7 := fm h7 L25
 replace qb := fm qb L25
 replace h29 := am h29 X27
 obtain ⟨cs30, h29v, h29⟩ := h29; subst h29v
 obtain ⟨sv31, sv33, sv35, h29e, h32, h34, h36⟩ := h29; subst h29e
 obtain ⟨A37, c38, rfl, m39, m39'⟩ := h32.val
 obtain ⟨A40, c41, rfl, m42, m42'⟩ := h34.val
 obtain ⟨A43, c44, rfl, m45, m45'⟩ := h36.val
 refine ckd ?_
 refine l_y (v := .tuple #[.agg #[.slice A37 (((PlayS s l).1.clock).length) c38, .slice A40 (((PlayS s l).1.lives).length) c41, .slice A43 (((PlayS s l).1.tallies).length) c44], .agg #[.int .i64 ((PlayS s l).2.1), .int .i64 ((PlayS s l).2.2)]]) S (y_mv rfl) ?_
 refine l_y (v := .agg #[.slice A37 (((PlayS s l).1.clock).length) c38, .slice A40 (((PlayS s l).1.lives).length) c41, .slice A43 (((PlayS s l).1.tallies).length) c44]) S (y_ex rfl rfl) ?_
 refine l_y (v := .agg #[.int .i64 ((PlayS s l).2.1), .int .i64 ((PlayS s l).2.2)]) S (y_ex rfl rfl) ?_
 refine l_al (cs := #[.slice none 0 0, .slice none 0 0, .slice none 0 0]) S Z27 rfl fun g46 w47 S => ?_
 refine l_al (cs := #[.int .i64 0, .int .i64 0]) S Z33 rfl fun g48 w49 S => ?_
 refine l_st (u := .agg #[.slice A37 (((PlayS s l).1.clock).length) c38, .slice A40 (((PlayS s l).1.lives).length) c41, .slice A43 (((PlayS s l).1.tallies).length) c44]) (i := 1) (cs' := #[.slice A37 (((PlayS s l).1.clock).length) c38, .slice A40 (((PlayS s l).1.lives).length) c41, .slice A43 (((PlayS s l).1.tallies).length) c44]) S rfl rfl rfl SZ27 rfl rfl rfl fun w50 S => ?_
 refine l_st (u := .agg #[.int .i64 ((PlayS s l).2.1), .int .i64 ((PlayS s l).2.2)]) (i := 2) (cs' := #[.int .i64 ((PlayS s l).2.1), .int .i64 ((PlayS s l).2.2)]) S rfl rfl rfl SZ33 rfl rfl rfl fun w51 S => ?_
 refine l_nil ?_
 refine n_seq ?_
 refine e_seq ?_
 refine e_seq ?_
 refine e_reg ?_
 refine l_y (v := .pointer (some ⟨g48, 0, none⟩)) S (y_fb FA33_0 rfl rfl) ?_
 refine l_y (v := .int .i64 ((PlayS s l).2.1)) S (y_ld rfl (fun w S => ld_b1 (i := 2) S rfl rfl T31)) ?_
 by_cases hP : (PlayS s l).2.1 = 0
 · -- hP yes
  refine l_y (v := .bool false) S (y_neF rfl rfl hP) ?_
  refine l_nil ?_
  refine n_seq ?_
  refine e_cF rfl ?_
  refine e_skip ?_
  refine n_seq ?_
  refine e_seq ?_
  refine e_reg ?_
  refine l_y (v := .agg #[.slice A8 s.clock.length c9, .slice A11 s.lives.length c12, .slice A14 s.tallies.length c15]) S (y_ld rfl (fun w S => ld_bA (vs := [.slice A8 s.clock.length c9, .slice A11 s.lives.length c12, .slice A14 s.tallies.length c15]) (i := 0) S rfl T27 rfl rfl)) ?_
  refine l_al (cs := #[.slice none 0 0, .slice none 0 0, .slice none 0 0]) S Z27 rfl fun g52 w53 S => ?_
  refine l_st (u := .agg #[.slice A8 s.clock.length c9, .slice A11 s.lives.length c12, .slice A14 s.tallies.length c15]) (i := 3) (cs' := #[.slice A8 s.clock.length c9, .slice A11 s.lives.length c12, .slice A14 s.tallies.length c15]) S rfl rfl rfl SZ27 rfl rfl rfl fun w54 S => ?_
  refine l_nil ?_
  refine n_seq ?_
  refine e_seq ?_
  refine e_seq ?_
  refine e_reg ?_
  refine l_y (v := .slice A17 l.length c18) S (y_mv rfl) ?_
  refine l_y (v := .int .i64 (l.length : Int)) S (y_len U36 rfl rfl) ?_
  refine l_y (v := .int .i64 0) S (y_mv rfl) ?_
  refine l_nil ?_
  refine n_seq ?_
  refine e_blk ?_
  refine e_trim [(2, .pointer (some ⟨g20, 0, none⟩)), (5, .pointer (some ⟨g46, 0, none⟩)), (7, .pointer (some ⟨g52, 0, none⟩)), (24, .slice A17 l.length c18), (25, .int .i64 (l.length : Int)), (26, .int .i64 (0 : Int))] ⟨⟨rfl, rfl⟩, ⟨rfl, rfl⟩, ⟨rfl, rfl⟩, ⟨rfl, rfl⟩, ⟨rfl, rfl⟩, ⟨ival (by first | rfl | omega), rfl⟩, trivial⟩ (fun junk => ?_)
  refine e_loop (fun (gh_ : Nat × (Option Addr) × Nat × (Option Addr) × Nat × (Option Addr) × Nat) ov w => match gh_ with | (k, A0, c0, A1, c1, A2, c2) => ∃ rd' junk, ov = [(2, .pointer (some ⟨g20, 0, none⟩)), (5, .pointer (some ⟨g46, 0, none⟩)), (7, .pointer (some ⟨g52, 0, none⟩)), (24, .slice A17 l.length c18), (25, .int .i64 (l.length : Int)), (26, .int .i64 (k : Int))] ++ junk ∧ St [] W (wrd W) rd' [(g20, 27, #[.slice A8 s.clock.length c9, .slice A11 s.lives.length c12, .slice A14 s.tallies.length c15]), (g46, 27, #[.slice A37 (((PlayS s l).1.clock).length) c38, .slice A40 (((PlayS s l).1.lives).length) c41, .slice A43 (((PlayS s l).1.tallies).length) c44]), (g48, 33, #[.int .i64 ((PlayS s l).2.1), .int .i64 ((PlayS s l).2.2)]), (g52, 27, #[.slice A0 ((playS s (l.take k)).clock.length) c0, .slice A1 ((playS s (l.take k)).lives.length) c1, .slice A2 ((playS s (l.take k)).tallies.length) c2])] [] w ∧ Rd.le rd24 rd' ∧ SliceR 1 IntR rd' (.slice A0 (playS s (l.take k)).clock.length c0) (playS s (l.take k)).clock ∧ SliceR 5 LiveR rd' (.slice A1 (playS s (l.take k)).lives.length c1) (playS s (l.take k)).lives ∧ SliceR 3 TallyR rd' (.slice A2 (playS s (l.take k)).tallies.length c2) (playS s (l.take k)).tallies ∧ k ≤ l.length) (fun gh_ => match gh_ with | (k, A0, c0, A1, c1, A2, c2) => l.length - k) (0, A8, c9, A11, c12, A14, c15) ⟨_, junk, rfl, (S.rw' rfl rfl), (Rd.le_refl _), h3, h5, h7, (by omega)⟩ ?_
  rintro ⟨k, A0, c0, A1, c1, A2, c2⟩ ov58 w56 ⟨rd55, junk, rfl, S, L57, f0, f1, f2, hk⟩
  replace h3 := fm h3 L57
  replace h5 := fm h5 L57
  replace h7 := fm h7 L57
  replace qb := fm qb L57
  replace h32 := fm h32 L57
  replace h34 := fm h34 L57
  replace h36 := fm h36 L57
  refine e_seq ?_
  refine e_reg ?_
  by_cases h59 : (k : Int) < (l.length : Int)
  · -- h59 yes
   refine l_y (v := .bool true) S (y_ltT rfl rfl h59) ?_
   refine l_nil ?_
   refine n_seq ?_
   refine e_seq ?_
   refine e_cT rfl ?_
   refine e_skip ?_
   refine n_seq ?_
   refine e_seq ?_
   refine e_blk ?_
   refine e_seq ?_
   refine e_reg ?_
   obtain ⟨z60, hz61⟩ : ∃ z, (l)[k]? = some z := nth_of (by first | assumption | omega)
   have hz_ := hz61
   obtain ⟨p62, vs63, E64, nn65, r66, Y67⟩ := y_ia U36 SZ29 qb hz61
   clear nn65
   obtain ⟨sv68, r66e, h69⟩ := r66; subst r66e
   obtain ⟨A70, c71, rfl, m72, m72'⟩ := h69.val
   refine l_y (v := p62) S (Y67 rfl rfl (by first | rfl | omega)) ?_
   refine l_y (v := .agg #[.int .i64 z60.author, .slice A70 z60.seen.length c71, .int .i64 z60.kind, .int .i64 z60.key, .int .i64 z60.item]) S (y_ld rfl (fun w S => ld_pA (us := [.int .i64 z60.author, .slice A70 z60.seen.length c71, .int .i64 z60.kind, .int .i64 z60.key, .int .i64 z60.item]) S.le E64 T29 rfl rfl)) ?_
   refine l_al (cs := #[.int .i64 0, .slice none 0 0, .int .i64 0, .int .i64 0, .int .i64 0]) S Z29 rfl fun g73 w74 S => ?_
   refine l_st (u := .agg #[.int .i64 z60.author, .slice A70 z60.seen.length c71, .int .i64 z60.kind, .int .i64 z60.key, .int .i64 z60.item]) (i := 4) (cs' := #[.int .i64 z60.author, .slice A70 z60.seen.length c71, .int .i64 z60.kind, .int .i64 z60.key, .int .i64 z60.item]) S rfl rfl rfl SZ29 rfl rfl rfl fun w75 S => ?_
   refine l_nil ?_
   refine n_seq ?_
   refine e_seq ?_
   refine e_reg ?_
   refine l_y (v := .agg #[.slice A0 ((playS s (l.take k)).clock.length) c0, .slice A1 ((playS s (l.take k)).lives.length) c1, .slice A2 ((playS s (l.take k)).tallies.length) c2]) S (y_ld rfl (fun w S => ld_bA (vs := [.slice A0 ((playS s (l.take k)).clock.length) c0, .slice A1 ((playS s (l.take k)).lives.length) c1, .slice A2 ((playS s (l.take k)).tallies.length) c2]) (i := 3) S rfl T27 rfl rfl)) ?_
   refine l_y (v := .agg #[.int .i64 z60.author, .slice A70 z60.seen.length c71, .int .i64 z60.kind, .int .i64 z60.key, .int .i64 z60.item]) S (y_ld rfl (fun w S => ld_bA (vs := [.int .i64 z60.author, .slice A70 z60.seen.length c71, .int .i64 z60.kind, .int .i64 z60.key, .int .i64 z60.item]) (i := 4) S rfl T29 rfl rfl)) ?_
   refine l_c (en_f (vs := [.agg #[.slice A0 ((playS s (l.take k)).clock.length) c0, .slice A1 ((playS s (l.take k)).lives.length) c1, .slice A2 ((playS s (l.take k)).tallies.length) c2], .agg #[.int .i64 z60.author, .slice A70 z60.seen.length c71, .int .i64 z60.kind, .int .i64 z60.key, .int .i64 z60.item]]) (CF 23 _) rfl rfl) (SApply_c _ _ S.le _ _ (playS s (l.take k)) z60 (⟨_, rfl, ⟨_, _, _, rfl, f0, f1, f2⟩⟩ : AggR StateR rd55 _ (playS s (l.take k))) (⟨_, rfl, ⟨_, rfl, h69⟩⟩ : AggR UpdR rd55 _ z60)) ?_
   rintro e w76 ⟨v81, rfl, h82, k⟩
   obtain ⟨rd77, S, L78, N79, X80⟩ := S.call' k; clear k
   replace h3 := fm h3 L78
   replace h5 := fm h5 L78
   replace h7 := fm h7 L78
   replace qb := fm qb L78
   replace h32 := fm h32 L78
   replace h34 := fm h34 L78
   replace h36 := fm h36 L78
   replace f0 := fm f0 L78
   replace f1 := fm f1 L78
   replace f2 := fm f2 L78
   replace h69 := fm h69 L78
   replace E64 := PtrC.mono E64 L78
   replace h82 := am h82 X80
   obtain ⟨cs83, h82v, h82⟩ := h82; subst h82v
   obtain ⟨sv84, sv86, sv88, h82e, h85, h87, h89⟩ := h82; subst h82e
   obtain ⟨A90, c91, rfl, m92, m92'⟩ := h85.val
   obtain ⟨A93, c94, rfl, m95, m95'⟩ := h87.val
   obtain ⟨A96, c97, rfl, m98, m98'⟩ := h89.val
   refine ckd ?_
   refine l_y (v := .tuple #[.agg #[.slice A90 (((ApplyS (playS s (l.take k)) z60).1.clock).length) c91, .slice A93 (((ApplyS (playS s (l.take k)) z60).1.lives).length) c94, .slice A96 (((ApplyS (playS s (l.take k)) z60).1.tallies).length) c97], .int .i64 ((ApplyS (playS s (l.take k)) z60).2)]) S (y_mv rfl) ?_
   refine l_y (v := .agg #[.slice A90 (((ApplyS (playS s (l.take k)) z60).1.clock).length) c91, .slice A93 (((ApplyS (playS s (l.take k)) z60).1.lives).length) c94, .slice A96 (((ApplyS (playS s (l.take k)) z60).1.tallies).length) c97]) S (y_ex rfl rfl) ?_
   refine l_y (v := .int .i64 ((ApplyS (playS s (l.take k)) z60).2)) S (y_ex rfl rfl) ?_
   refine l_al (cs := #[.slice none 0 0, .slice none 0 0, .slice none 0 0]) S Z27 rfl fun g99 w100 S => ?_
   refine l_st (u := .agg #[.slice A90 (((ApplyS (playS s (l.take k)) z60).1.clock).length) c91, .slice A93 (((ApplyS (playS s (l.take k)) z60).1.lives).length) c94, .slice A96 (((ApplyS (playS s (l.take k)) z60).1.tallies).length) c97]) (i := 5) (cs' := #[.slice A90 (((ApplyS (playS s (l.take k)) z60).1.clock).length) c91, .slice A93 (((ApplyS (playS s (l.take k)) z60).1.lives).length) c94, .slice A96 (((ApplyS (playS s (l.take k)) z60).1.tallies).length) c97]) S rfl rfl rfl SZ27 rfl rfl rfl fun w101 S => ?_
   refine l_y (v := .int .i64 ((ApplyS (playS s (l.take k)) z60).2)) S (y_as rfl) ?_
   refine l_nil ?_
   refine n_seq ?_
   refine e_seq ?_
   refine e_seq ?_
   refine e_a (fun w => St [] W (wrd W) rd77 [(g20, 27, #[.slice A8 s.clock.length c9, .slice A11 s.lives.length c12, .slice A14 s.tallies.length c15]), (g46, 27, #[.slice A37 (((PlayS s l).1.clock).length) c38, .slice A40 (((PlayS s l).1.lives).length) c41, .slice A43 (((PlayS s l).1.tallies).length) c44]), (g48, 33, #[.int .i64 ((PlayS s l).2.1), .int .i64 ((PlayS s l).2.2)]), (g52, 27, #[.slice A0 ((playS s (l.take k)).clock.length) c0, .slice A1 ((playS s (l.take k)).lives.length) c1, .slice A2 ((playS s (l.take k)).tallies.length) c2]), (g73, 29, #[.int .i64 z60.author, .slice A70 z60.seen.length c71, .int .i64 z60.kind, .int .i64 z60.key, .int .i64 z60.item]), (g99, 27, #[.slice A90 (((ApplyS (playS s (l.take k)) z60).1.clock).length) c91, .slice A93 (((ApplyS (playS s (l.take k)) z60).1.lives).length) c94, .slice A96 (((ApplyS (playS s (l.take k)) z60).1.tallies).length) c97])] [] w) MX rfl ?_
   have S := S.drew; have sup102 := S.sup
   have SC : St [] W (wrd W) rd77 [(g20, 27, #[.slice A8 s.clock.length c9, .slice A11 s.lives.length c12, .slice A14 s.tallies.length c15]), (g46, 27, #[.slice A37 (((PlayS s l).1.clock).length) c38, .slice A40 (((PlayS s l).1.lives).length) c41, .slice A43 (((PlayS s l).1.tallies).length) c44]), (g48, 33, #[.int .i64 ((PlayS s l).2.1), .int .i64 ((PlayS s l).2.2)]), (g52, 27, #[.slice A0 ((playS s (l.take k)).clock.length) c0, .slice A1 ((playS s (l.take k)).lives.length) c1, .slice A2 ((playS s (l.take k)).tallies.length) c2]), (g73, 29, #[.int .i64 z60.author, .slice A70 z60.seen.length c71, .int .i64 z60.kind, .int .i64 z60.key, .int .i64 z60.item]), (g99, 27, #[.slice A90 (((ApplyS (playS s (l.take k)) z60).1.clock).length) c91, .slice A93 (((ApplyS (playS s (l.take k)) z60).1.lives).length) c94, .slice A96 (((ApplyS (playS s (l.take k)) z60).1.tallies).length) c97])] [] _ := (S.tk 6 0 rfl rfl).rw' rfl rfl
   refine a_take (v := .int .i64 ((ApplyS (playS s (l.take k)) z60).2)) 0 rfl rfl (by kernel_rfl) (by kernel_rfl) (by kernel_rfl) SC rfl (y_mv rfl) ?_
   have h103 : (ApplyS (playS s (l.take k)) z60).2 = 0 := by rw [(parts_p hP hz_).1]
   refine a_take (v := .bool false) 1 rfl rfl (by kernel_rfl) (by kernel_rfl) (by kernel_rfl) SC rfl (y_neF rfl rfl h103) ?_
   refine a_take (v := .bool false) 2 rfl rfl (by kernel_rfl) (by kernel_rfl) (by kernel_rfl) SC rfl (y_mv rfl) ?_
   refine a_takeg (d' := 38) (v := .agg #[.slice A90 (((ApplyS (playS s (l.take k)) z60).1.clock).length) c91, .slice A93 (((ApplyS (playS s (l.take k)) z60).1.lives).length) c94, .slice A96 (((ApplyS (playS s (l.take k)) z60).1.tallies).length) c97]) 3 rfl rfl (by kernel_rfl) (by kernel_rfl) (by kernel_rfl) SC rfl rfl rfl (y_ld rfl (fun w S => ld_bA (vs := [.slice A90 (((ApplyS (playS s (l.take k)) z60).1.clock).length) c91, .slice A93 (((ApplyS (playS s (l.take k)) z60).1.lives).length) c94, .slice A96 (((ApplyS (playS s (l.take k)) z60).1.tallies).length) c97]) (i := 5) S rfl T27 rfl rfl)) ?_
   refine a_takeg (d' := 38) (v := .pointer (some ⟨g20, 0, none⟩)) 4 rfl rfl (by kernel_rfl) (by kernel_rfl) (by kernel_rfl) SC rfl rfl rfl (y_fb FA27_0 rfl rfl) ?_
   refine a_takeg (d' := 38) (v := .slice A8 s.clock.length c9) 5 rfl rfl (by kernel_rfl) (by kernel_rfl) (by kernel_rfl) SC rfl rfl rfl (y_ld rfl (fun w S => ld_b1 (i := 0) S rfl rfl T23)) ?_
   refine a_takeg (d' := 38) (v := .int .i64 (s.clock.length : Int)) 6 rfl rfl (by kernel_rfl) (by kernel_rfl) (by kernel_rfl) SC rfl rfl rfl (y_len U23 rfl rfl) ?_
   refine a_all (rs := [7]) (by kernel_rfl) rfl ?_
   refine aa_cons rfl ?_ ?_
   · -- operation 7
    refine l_cg (d' := 38) (en_f (vs := [.agg #[.slice A90 (((ApplyS (playS s (l.take k)) z60).1.clock).length) c91, .slice A93 (((ApplyS (playS s (l.take k)) z60).1.lives).length) c94, .slice A96 (((ApplyS (playS s (l.take k)) z60).1.tallies).length) c97], .int .i64 (s.clock.length : Int)]) (CF 16 _) rfl rfl) rfl rfl (SWrong_c _ _ S.le _ ((ApplyS (playS s (l.take k)) z60).1) (s.clock.length : Int) (⟨_, rfl, ⟨_, _, _, rfl, h85, h87, h89⟩⟩ : AggR StateR rd77 _ ((ApplyS (playS s (l.take k)) z60).1))) ?_
    rintro e w104 ⟨rfl, k⟩
    have S := S.callq k; clear k
    refine ckd ?_
    refine l_nil ?_
    have SC : St [] W (wrd W) rd77 [(g20, 27, #[.slice A8 s.clock.length c9, .slice A11 s.lives.length c12, .slice A14 s.tallies.length c15]), (g46, 27, #[.slice A37 (((PlayS s l).1.clock).length) c38, .slice A40 (((PlayS s l).1.lives).length) c41, .slice A43 (((PlayS s l).1.tallies).length) c44]), (g48, 33, #[.int .i64 ((PlayS s l).2.1), .int .i64 ((PlayS s l).2.2)]), (g52, 27, #[.slice A0 ((playS s (l.take k)).clock.length) c0, .slice A1 ((playS s (l.take k)).lives.length) c1, .slice A2 ((playS s (l.take k)).tallies.length) c2]), (g73, 29, #[.int .i64 z60.author, .slice A70 z60.seen.length c71, .int .i64 z60.kind, .int .i64 z60.key, .int .i64 z60.item]), (g99, 27, #[.slice A90 (((ApplyS (playS s (l.take k)) z60).1.clock).length) c91, .slice A93 (((ApplyS (playS s (l.take k)) z60).1.lives).length) c94, .slice A96 (((ApplyS (playS s (l.take k)) z60).1.tallies).length) c97])] [] _ := (S.tk 6 0 rfl rfl).rw' rfl rfl
    refine n_lp (ak SC ?_)
    refine a_takeg (d' := 38) (v := .int .i64 ((wrongS ((ApplyS (playS s (l.take k)) z60).1) (s.clock.length : Int)).1)) 8 rfl rfl (by kernel_rfl) (by kernel_rfl) (by kernel_rfl) SC rfl rfl rfl (y_fd rfl (fun _ => by kernel_rfl)) ?_
    have h105 : (wrongS ((ApplyS (playS s (l.take k)) z60).1) (s.clock.length : Int)).1 = 0 := by rw [(parts_p hP hz_).1]; exact (parts_p hP hz_).2.1
    refine a_takeg (d' := 38) (v := .bool false) 9 rfl rfl (by kernel_rfl) (by kernel_rfl) (by kernel_rfl) SC rfl rfl rfl (y_neF rfl rfl h105) ?_
    refine a_take (v := .bool false) 10 rfl rfl (by kernel_rfl) (by kernel_rfl) (by kernel_rfl) SC rfl (y_pF rfl rfl) ?_
    refine a_take (v := .bool false) 11 rfl rfl (by kernel_rfl) (by kernel_rfl) (by kernel_rfl) SC rfl (y_mv rfl) ?_
    refine a_takeg (d' := 47) (v := .pointer (some ⟨g99, 0, none⟩)) 12 rfl rfl (by kernel_rfl) (by kernel_rfl) (by kernel_rfl) SC rfl rfl rfl (y_fb FA27_0 rfl rfl) ?_
    refine a_takeg (d' := 47) (v := .slice A90 (((ApplyS (playS s (l.take k)) z60).1.clock).length) c91) 13 rfl rfl (by kernel_rfl) (by kernel_rfl) (by kernel_rfl) SC rfl rfl rfl (y_ld rfl (fun w S => ld_b1 (i := 5) S rfl rfl T23)) ?_
    refine a_takeg (d' := 47) (v := .pointer (some ⟨g52, 0, none⟩)) 14 rfl rfl (by kernel_rfl) (by kernel_rfl) (by kernel_rfl) SC rfl rfl rfl (y_fb FA27_0 rfl rfl) ?_
    refine a_takeg (d' := 47) (v := .slice A0 ((playS s (l.take k)).clock.length) c0) 15 rfl rfl (by kernel_rfl) (by kernel_rfl) (by kernel_rfl) SC rfl rfl rfl (y_ld rfl (fun w S => ld_b1 (i := 3) S rfl rfl T23)) ?_
    refine a_takeg (d' := 47) (v := .pointer (some ⟨g73, 0, none⟩)) 16 rfl rfl (by kernel_rfl) (by kernel_rfl) (by kernel_rfl) SC rfl rfl rfl (y_fb FA29_0 rfl rfl) ?_
    refine a_takeg (d' := 47) (v := .int .i64 z60.author) 17 rfl rfl (by kernel_rfl) (by kernel_rfl) (by kernel_rfl) SC rfl rfl rfl (y_ld rfl (fun w S => ld_b1 (i := 4) S rfl rfl T3)) ?_
    refine a_all (rs := [18]) (by kernel_rfl) rfl ?_
    refine aa_cons rfl ?_ ?_
    · -- operation 18
     refine l_cg (d' := 47) (en_f (vs := [.slice A0 ((playS s (l.take k)).clock.length) c0, .int .i64 z60.author]) (CF 25 _) rfl rfl) rfl rfl (Tick_m _ _ S.le _ ((playS s (l.take k)).clock) z60.author f0 (by have := (parts_len hP hz_); omega)) ?_
     rintro e w106 ⟨v111, rfl, h112, k⟩
     obtain ⟨rd107, S, L108, N109, X110⟩ := S.call' k; clear k
     replace h3 := fm h3 L108
     replace h5 := fm h5 L108
     replace h7 := fm h7 L108
     replace qb := fm qb L108
     replace h32 := fm h32 L108
     replace h34 := fm h34 L108
     replace h36 := fm h36 L108
     replace f0 := fm f0 L108
     replace f1 := fm f1 L108
     replace f2 := fm f2 L108
     replace h69 := fm h69 L108
     replace E64 := PtrC.mono E64 L108
     replace h85 := fm h85 L108
     replace h87 := fm h87 L108
     replace h89 := fm h89 L108
     replace h112 := fm h112 X110
     obtain ⟨A113, c114, rfl, m115, m115'⟩ := h112.val
     refine ckd ?_
     refine l_nil ?_
     have SC : St [] W (wrd W) rd77 [(g20, 27, #[.slice A8 s.clock.length c9, .slice A11 s.lives.length c12, .slice A14 s.tallies.length c15]), (g46, 27, #[.slice A37 (((PlayS s l).1.clock).length) c38, .slice A40 (((PlayS s l).1.lives).length) c41, .slice A43 (((PlayS s l).1.tallies).length) c44]), (g48, 33, #[.int .i64 ((PlayS s l).2.1), .int .i64 ((PlayS s l).2.2)]), (g52, 27, #[.slice A0 ((playS s (l.take k)).clock.length) c0, .slice A1 ((playS s (l.take k)).lives.length) c1, .slice A2 ((playS s (l.take k)).tallies.length) c2]), (g73, 29, #[.int .i64 z60.author, .slice A70 z60.seen.length c71, .int .i64 z60.kind, .int .i64 z60.key, .int .i64 z60.item]), (g99, 27, #[.slice A90 (((ApplyS (playS s (l.take k)) z60).1.clock).length) c91, .slice A93 (((ApplyS (playS s (l.take k)) z60).1.lives).length) c94, .slice A96 (((ApplyS (playS s (l.take k)) z60).1.tallies).length) c97])] [] _ := ((S.tk 6 0 rfl rfl).weak sup102 L108).rw' rfl rfl
     refine n_lp (ak SC ?_)
     refine a_all (rs := [19]) (by kernel_rfl) rfl ?_
     refine aa_cons rfl ?_ ?_
     · -- operation 19
      refine l_cg (d' := 47) (en_f (vs := [.slice A90 (((ApplyS (playS s (l.take k)) z60).1.clock).length) c91, .slice A113 ((tickC ((playS s (l.take k)).clock) z60.author).length) c114]) (CF 24 _) rfl rfl) rfl rfl (Same_calls _ _ _ _ _ (fm h85 S.le) (fm h112 S.le)) ?_
      rintro e w116 ⟨rfl, k⟩
      have S := S.callq k; clear k
      have b117 : sameL ((ApplyS (playS s (l.take k)) z60).1.clock) (tickC ((playS s (l.take k)).clock) z60.author) = true := by rw [(parts_p hP hz_).1]; simp [sameL, (parts_p hP hz_).2.2]
      rw [b117]
      refine ckd ?_
      refine l_nil ?_
      have SC : St [] W (wrd W) rd77 [(g20, 27, #[.slice A8 s.clock.length c9, .slice A11 s.lives.length c12, .slice A14 s.tallies.length c15]), (g46, 27, #[.slice A37 (((PlayS s l).1.clock).length) c38, .slice A40 (((PlayS s l).1.lives).length) c41, .slice A43 (((PlayS s l).1.tallies).length) c44]), (g48, 33, #[.int .i64 ((PlayS s l).2.1), .int .i64 ((PlayS s l).2.2)]), (g52, 27, #[.slice A0 ((playS s (l.take k)).clock.length) c0, .slice A1 ((playS s (l.take k)).lives.length) c1, .slice A2 ((playS s (l.take k)).tallies.length) c2]), (g73, 29, #[.int .i64 z60.author, .slice A70 z60.seen.length c71, .int .i64 z60.kind, .int .i64 z60.key, .int .i64 z60.item]), (g99, 27, #[.slice A90 (((ApplyS (playS s (l.take k)) z60).1.clock).length) c91, .slice A93 (((ApplyS (playS s (l.take k)) z60).1.lives).length) c94, .slice A96 (((ApplyS (playS s (l.take k)) z60).1.tallies).length) c97])] [] _ := ((S.tk 6 0 rfl rfl).weak sup102 L108).rw' rfl rfl
      refine n_lp (ak SC ?_)
      refine a_takeg (d' := 47) (v := .bool false) 20 rfl rfl (by kernel_rfl) (by kernel_rfl) (by kernel_rfl) SC rfl rfl rfl (y_not rfl rfl) ?_
      refine a_take (v := .bool false) 21 rfl rfl (by kernel_rfl) (by kernel_rfl) (by kernel_rfl) SC rfl (y_pF rfl rfl) ?_
      refine a_done (by kernel_rfl) ?_
      clear SC
      refine n_seq ?_
      refine e_trim [(2, .pointer (some ⟨g20, 0, none⟩)), (5, .pointer (some ⟨g46, 0, none⟩)), (7, .pointer (some ⟨g52, 0, none⟩)), (24, .slice A17 l.length c18), (25, .int .i64 (l.length : Int)), (26, .int .i64 (k : Int)), (27, .bool true), (28, p62), (29, .agg #[.int .i64 z60.author, .slice A70 z60.seen.length c71, .int .i64 z60.kind, .int .i64 z60.key, .int .i64 z60.item]), (9, .pointer (some ⟨g73, 0, none⟩)), (31, .agg #[.slice A0 ((playS s (l.take k)).clock.length) c0, .slice A1 ((playS s (l.take k)).lives.length) c1, .slice A2 ((playS s (l.take k)).tallies.length) c2]), (32, .agg #[.int .i64 z60.author, .slice A70 z60.seen.length c71, .int .i64 z60.kind, .int .i64 z60.key, .int .i64 z60.item]), (33, .tuple #[.agg #[.slice A90 (((ApplyS (playS s (l.take k)) z60).1.clock).length) c91, .slice A93 (((ApplyS (playS s (l.take k)) z60).1.lives).length) c94, .slice A96 (((ApplyS (playS s (l.take k)) z60).1.tallies).length) c97], .int .i64 ((ApplyS (playS s (l.take k)) z60).2)]), (30, .tuple #[.agg #[.slice A90 (((ApplyS (playS s (l.take k)) z60).1.clock).length) c91, .slice A93 (((ApplyS (playS s (l.take k)) z60).1.lives).length) c94, .slice A96 (((ApplyS (playS s (l.take k)) z60).1.tallies).length) c97], .int .i64 ((ApplyS (playS s (l.take k)) z60).2)]), (34, .agg #[.slice A90 (((ApplyS (playS s (l.take k)) z60).1.clock).length) c91, .slice A93 (((ApplyS (playS s (l.take k)) z60).1.lives).length) c94, .slice A96 (((ApplyS (playS s (l.take k)) z60).1.tallies).length) c97]), (35, .int .i64 ((ApplyS (playS s (l.take k)) z60).2)), (10, .pointer (some ⟨g99, 0, none⟩)), (11, .int .i64 ((ApplyS (playS s (l.take k)) z60).2)), (36, .int .i64 ((ApplyS (playS s (l.take k)) z60).2)), (37, .bool false), (38, .bool false), (39, .agg #[.slice A90 (((ApplyS (playS s (l.take k)) z60).1.clock).length) c91, .slice A93 (((ApplyS (playS s (l.take k)) z60).1.lives).length) c94, .slice A96 (((ApplyS (playS s (l.take k)) z60).1.tallies).length) c97]), (40, .pointer (some ⟨g20, 0, none⟩)), (41, .slice A8 s.clock.length c9), (42, .int .i64 (s.clock.length : Int)), (43, .agg #[.int .i64 ((wrongS ((ApplyS (playS s (l.take k)) z60).1) (s.clock.length : Int)).1), .int .i64 ((wrongS ((ApplyS (playS s (l.take k)) z60).1) (s.clock.length : Int)).2)]), (44, .int .i64 ((wrongS ((ApplyS (playS s (l.take k)) z60).1) (s.clock.length : Int)).1)), (45, .bool false), (46, .bool false), (47, .bool false), (48, .pointer (some ⟨g99, 0, none⟩)), (49, .slice A90 (((ApplyS (playS s (l.take k)) z60).1.clock).length) c91), (50, .pointer (some ⟨g52, 0, none⟩)), (51, .slice A0 ((playS s (l.take k)).clock.length) c0), (52, .pointer (some ⟨g73, 0, none⟩)), (53, .int .i64 z60.author), (54, .slice A113 ((tickC ((playS s (l.take k)).clock) z60.author).length) c114), (55, .bool true), (56, .bool false), (57, .bool false)] ⟨⟨rfl, rfl⟩, ⟨rfl, rfl⟩, ⟨rfl, rfl⟩, ⟨rfl, rfl⟩, ⟨rfl, rfl⟩, ⟨rfl, rfl⟩, ⟨rfl, rfl⟩, ⟨rfl, rfl⟩, ⟨rfl, rfl⟩, ⟨rfl, rfl⟩, ⟨rfl, rfl⟩, ⟨rfl, rfl⟩, ⟨rfl, rfl⟩, ⟨rfl, rfl⟩, ⟨rfl, rfl⟩, ⟨rfl, rfl⟩, ⟨rfl, rfl⟩, ⟨rfl, rfl⟩, ⟨rfl, rfl⟩, ⟨rfl, rfl⟩, ⟨rfl, rfl⟩, ⟨rfl, rfl⟩, ⟨rfl, rfl⟩, ⟨rfl, rfl⟩, ⟨rfl, rfl⟩, ⟨rfl, rfl⟩, ⟨rfl, rfl⟩, ⟨rfl, rfl⟩, ⟨rfl, rfl⟩, ⟨rfl, rfl⟩, ⟨rfl, rfl⟩, ⟨rfl, rfl⟩, ⟨rfl, rfl⟩, ⟨rfl, rfl⟩, ⟨rfl, rfl⟩, ⟨rfl, rfl⟩, ⟨rfl, rfl⟩, ⟨rfl, rfl⟩, ⟨rfl, rfl⟩, ⟨rfl, rfl⟩, trivial⟩ (fun junk => ?_)
      refine e_cF rfl ?_
      refine e_skip ?_
      refine n_seq ?_
      refine e_reg ?_
      refine l_y (v := .agg #[.slice A90 (((ApplyS (playS s (l.take k)) z60).1.clock).length) c91, .slice A93 (((ApplyS (playS s (l.take k)) z60).1.lives).length) c94, .slice A96 (((ApplyS (playS s (l.take k)) z60).1.tallies).length) c97]) S (y_ld rfl (fun w S => ld_bA (vs := [.slice A90 (((ApplyS (playS s (l.take k)) z60).1.clock).length) c91, .slice A93 (((ApplyS (playS s (l.take k)) z60).1.lives).length) c94, .slice A96 (((ApplyS (playS s (l.take k)) z60).1.tallies).length) c97]) (i := 5) S rfl T27 rfl rfl)) ?_
      refine l_st (u := .agg #[.slice A90 (((ApplyS (playS s (l.take k)) z60).1.clock).length) c91, .slice A93 (((ApplyS (playS s (l.take k)) z60).1.lives).length) c94, .slice A96 (((ApplyS (playS s (l.take k)) z60).1.tallies).length) c97]) (i := 3) (cs' := #[.slice A90 (((ApplyS (playS s (l.take k)) z60).1.clock).length) c91, .slice A93 (((ApplyS (playS s (l.take k)) z60).1.lives).length) c94, .slice A96 (((ApplyS (playS s (l.take k)) z60).1.tallies).length) c97]) S rfl rfl rfl SZ27 rfl rfl rfl fun w118 S => ?_
      refine l_nil ?_
      refine n_blk ?_
      refine n_seq ?_
      refine e_reg ?_
      refine l_y (v := .int .i64 ((k : Int) + 1)) S (y_add (r := (k : Int) + 1) rfl rfl (w64 (by omega) (by omega))) ?_
      refine l_y (v := .int .i64 ((k : Int) + 1)) S (y_mv rfl) ?_
      refine l_nil ?_
      have ep : (ApplyS (playS s (l.take k)) z60).1 = playS s (l.take (k + 1)) := by rw [(parts_p hP hz61).1]
      rw [ep] at S h85 h87 h89
      refine n_lp ⟨(k + 1, A90, c91, A93, c94, A96, c97), _, fr_keep (m := [(2, .pointer (some ⟨g20, 0, none⟩)), (5, .pointer (some ⟨g46, 0, none⟩)), (7, .pointer (some ⟨g52, 0, none⟩)), (24, .slice A17 l.length c18), (25, .int .i64 (l.length : Int)), (26, .int .i64 ((k + 1 : Nat) : Int))]) ⟨⟨rfl, rfl⟩, ⟨rfl, rfl⟩, ⟨rfl, rfl⟩, ⟨rfl, rfl⟩, ⟨rfl, rfl⟩, ⟨ival (by first | rfl | omega), rfl⟩, trivial⟩, ⟨_, _, rfl, (S.tk 4 0 rfl rfl), (Rd.le_trans L57 (Rd.le_trans (Rd.le_trans (Rd.le_refl rd55) L78) L108)), h85, h87, h89, (by omega)⟩, ?_⟩
      show _ < _; dsimp only; omega
     exact aa_nil
    exact aa_nil
   exact aa_nil
  · -- h59 no
   refine l_y (v := .bool false) S (y_ltF rfl rfl h59) ?_
   refine l_nil ?_
   refine n_seq ?_
   refine e_seq ?_
   refine e_cF rfl ?_
   refine e_exit ?_
   refine x_seq ?_
   refine x_lp ?_
   refine x_hit ?_
   refine n_seq ?_
   refine e_seq ?_
   refine e_reg ?_
   refine l_y (v := .agg #[.slice A0 ((playS s (l.take k)).clock.length) c0, .slice A1 ((playS s (l.take k)).lives.length) c1, .slice A2 ((playS s (l.take k)).tallies.length) c2]) S (y_ld rfl (fun w S => ld_bA (vs := [.slice A0 ((playS s (l.take k)).clock.length) c0, .slice A1 ((playS s (l.take k)).lives.length) c1, .slice A2 ((playS s (l.take k)).tallies.length) c2]) (i := 3) S rfl T27 rfl rfl)) ?_
   refine l_y (v := .agg #[.slice A37 (((PlayS s l).1.clock).length) c38, .slice A40 (((PlayS s l).1.lives).length) c41, .slice A43 (((PlayS s l).1.tallies).length) c44]) S (y_ld rfl (fun w S => ld_bA (vs := [.slice A37 (((PlayS s l).1.clock).length) c38, .slice A40 (((PlayS s l).1.lives).length) c41, .slice A43 (((PlayS s l).1.tallies).length) c44]) (i := 1) S rfl T27 rfl rfl)) ?_
   refine l_c (en_f (vs := [.agg #[.slice A0 ((playS s (l.take k)).clock.length) c0, .slice A1 ((playS s (l.take k)).lives.length) c1, .slice A2 ((playS s (l.take k)).tallies.length) c2], .agg #[.slice A37 (((PlayS s l).1.clock).length) c38, .slice A40 (((PlayS s l).1.lives).length) c41, .slice A43 (((PlayS s l).1.tallies).length) c44]]) (CF 15 _) rfl rfl) (SSame_c _ _ S.le _ _ (playS s (l.take k)) ((PlayS s l).1) (⟨_, rfl, ⟨_, _, _, rfl, f0, f1, f2⟩⟩ : AggR StateR rd55 _ (playS s (l.take k))) (⟨_, rfl, ⟨_, _, _, rfl, h32, h34, h36⟩⟩ : AggR StateR rd55 _ ((PlayS s l).1))) ?_
   rintro e w119 ⟨rfl, k⟩
   have S := S.callq k; clear k
   cases hS : sameS (playS s (l.take k)) ((PlayS s l).1)
   · -- hS False
    refine ckd ?_
    refine l_y (v := .bool false) S (y_as rfl) ?_
    refine l_nil ?_
    refine n_seq ?_
    refine e_ret ?_
    refine ret1 (v := .bool false) rfl rfl ?_
    exact absurd hS (by rw [show k = l.length by omega, parts_end hP]; simp [sameS])
   · -- hS True
    refine ckd ?_
    refine l_y (v := .bool true) S (y_as rfl) ?_
    refine l_nil ?_
    refine n_seq ?_
    refine e_ret ?_
    refine ret1 (v := .bool true) rfl rfl ?_
    exact ⟨rfl, S.below⟩
 · -- hP no
  refine l_y (v := .bool true) S (y_neT rfl rfl hP) ?_
  refine l_nil ?_
  refine n_seq ?_
  refine e_cT rfl ?_
  refine e_seq ?_
  refine e_reg ?_
  refine l_y (v := .bool true) S (y_as rfl) ?_
  refine l_nil ?_
  refine n_seq ?_
  refine e_ret ?_
  refine ret1 (v := .bool true) rfl rfl ?_
  exact ⟨rfl, S.below⟩
set_option maxRecDepth 100000 in
theorem StateParts_lifted (os : Os) (started : os.Started) (H : Type) (enc : TypeId × Value → H) :
    ReturnsInHanded {} Try.checked os 5 .any (Rows.statePartsSpec.pre6 enc Try.prog Try.f5 Rows.statePartsRow.domain false) (Rows.statePartsSpec.post enc Try.prog Try.f5 false true false false) := by
  refine returnsInHanded_of_change_sized (C := Try.checked) own_ started (by kernel_rfl) Try.func5
    (ChangeSpec.witness6 (enc := enc) (C := Try.checked) false ⟨#[], #[.agg #[.slice none 0 0, .slice none 0 0, .slice none 0 0], .slice none 0 0], []⟩ 8 (by kernel_rfl) (by kernel_rfl) (by kernel_rfl) (by kernel_rfl)) ?_
  intro W base args ds gs before hval0 hW _ hsz0 _
  have hval : ∀ (j : Nat) t v, Try.f5.params[j]? = some t → args[j]? = some v → Value.okWide Try.prog W .any base t v := hval0
  have hsz : (DataW.weightsEach Try.prog (Try.f5.params.toList ++ Rows.statePartsSpec.plain.varTypes Try.prog) (ds ++ gs)).all (· ≤ reachBytes) = true := hsz0
  have hW' := hW
  obtain ⟨p, q, hA0, hV, rfl, _, _⟩ := hW
  obtain ⟨rfl, rfl⟩ := trodVars_none hV
  have hA : DataW.TrodAll enc Try.prog W 0 (fun _ => true) true Try.f5.params.toList args.toList ds p := hA0
  rw [Try.params5] at hA hval hsz
  obtain ⟨v1, vs1, d1, ds1, p1, q1, e1, rfl, rfl, t1, r1⟩ := trodAll_cons hA
  obtain ⟨v2, vs2, d2, ds2, p2, q2, rfl, rfl, rfl, t2, r2⟩ := trodAll_cons r1
  obtain ⟨rfl, rfl, rfl⟩ := trodAll_nil r2
  obtain rfl : args = #[v1, v2] := by cases args; simp_all
  obtain ⟨z1, hsz⟩ := weights_each hsz
  obtain ⟨z2, hsz⟩ := weights_each hsz
  obtain ⟨a1, ha1, hb1⟩ := arg_agg Try.underlying27 op_state (hval 0 _ v1 rfl rfl) t1 z1
  obtain ⟨a2, ha2, hb2⟩ := arg_slice Try.underlying36 op_upds (hval 1 _ v2 rfl rfl) t2 z2
  refine (StateParts_calls W v1 a1 ha1 hb1 v2 a2 ha2 hb2).mono fun e W' ⟨he, hbl⟩ => ?_
  subst he
  exact ⟨_, rfl, close_law laidOut (by kernel_rfl) rfl (fun gs h => by subst h; rfl) rfl (tb := 4) Try.underlying4 hW' hbl⟩

theorem StateParts_holds : Rows.StatePartsSaid :=
  OpenClaim.holds_of_wide 5 Try.f5 rfl rfl rfl rfl rfl rfl rfl ⟨rfl, rfl, rfl, rfl, rfl⟩ rfl rfl rfl rfl rfl (by kernel_rfl) Try.func5 (by kernel_rfl)
    (of_decide_eq_true (by kernel_rfl)) (by unfold Func.isWrapper; first | (rw [if_pos (by decide +kernel)]; kernel_rfl) | (rw [if_neg (by decide +kernel)]; exact ⟨rfl, rfl⟩))
    (fun os started H enc _ => StateParts_lifted os started H enc)
#print axioms StateParts_holds
end Go.Proofs.Ytkjknlnhffmkkab
