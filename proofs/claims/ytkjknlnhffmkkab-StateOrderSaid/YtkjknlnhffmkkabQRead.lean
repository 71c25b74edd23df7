/- state.Read. -/
import Derived.Test.YtkjknlnhffmkkabQCells
import Derived.Test.YtkjknlnhffmkkabQSt2
namespace Go.Proofs.Ytkjknlnhffmkkab
open Go.RowKit
set_option linter.unusedVariables false
/-- counters on the way -/
def CntsI (rd : Rd) (cs : List Pair) (nO : Nat) (xsO : List Value) (k : Nat) : Prop := (cs = [] ∧ nO = 0 ∧ xsO = []) ∨ ∃ F xsF key sum, cs = F ++ [⟨key, sum⟩] ∧ nO = F.length + 1 ∧ xsO = xsF ++ [.int .i64 key, .int .i64 sum] ∧ RowR 2 PairR rd xsF F ∧ -(1000000 * (k : Int)) ≤ sum ∧ sum ≤ 1000000 * (k : Int)
theorem CntsI.mono {rd rd' : Rd} {cs : List Pair} {nO k : Nat} {xsO : List Value} (h : CntsI rd cs nO xsO k) (q : Rd.le rd rd') : CntsI rd' cs nO xsO k := by
  rcases h with h | ⟨F, xsF, key, sum, a, b, c, d, e⟩
  · exact .inl h
  · exact .inr ⟨F, xsF, key, sum, a, b, c, rm d q, e⟩
theorem tally_bd {s : State} {n : Int} (h : (wrongS s n).1 = 0) {z : Tally} (hz : z ∈ s.tallies) : -1000000 ≤ z.sum ∧ z.sum ≤ 1000000 := by
  have r := wrongS_iff.1 h
  have q := r.t z hz
  have := q.s0; have := q.s1; have := atI_bd r.c z.author.toNat
  omega
set_option maxRecDepth 100000 in
set_option maxHeartbeats 16000000 in
theorem SRead_c (rd : Rd) (W : World) (hle : Rd.le rd (wrd W)) (v : Value) (s : State) (h : AggR StateR rd v s) :
    Calls Try.prog 20 #[v] W (fun e w' => ∃ v', e = .returned (.tuple #[v', .agg #[.int .i64 (ReadS s).2.1, .int .i64 (ReadS s).2.2]]) ∧ AggR ViewR (ext rd W w') v' (ReadS s).1 ∧ Below W.heap.size W w') := by
 obtain ⟨vs1, he, h⟩ := h; subst he
 obtain ⟨sv2, sv4, sv6, he, h3, h5, h7⟩ := h; subst he
 obtain ⟨A8, c9, rfl, m10, m10'⟩ := h3.val
 obtain ⟨A11, c12, rfl, m13, m13'⟩ := h5.val
 obtain ⟨A14, c15, rfl, m16, m16'⟩ := h7.val
 have hmx : maxLen = 9223372036854775807 := rfl
 have S : St [] W rd rd [] [] W := St.start hle
 refine e_enter (args := [.agg #[.slice A8 s.clock.length c9, .slice A11 s.lives.length c12, .slice A14 s.tallies.length c15]]) 74 Try.func20 rfl rfl rfl ?_
 refine e_seq ?_
 refine e_reg ?_
 refine l_bx (u := .agg #[.slice A8 s.clock.length c9, .slice A11 s.lives.length c12, .slice A14 s.tallies.length c15]) (cs := #[.slice A8 s.clock.length c9, .slice A11 s.lives.length c12, .slice A14 s.tallies.length c15]) S rfl rfl fun g17 w18 S => ?_
 refine l_al (cs := #[.slice none 0 0, .slice none 0 0, .slice none 0 0]) S Z44 rfl fun g19 w20 S => ?_
 refine l_al (cs := #[.int .i64 0, .int .i64 0]) S Z33 rfl fun g21 w22 S => ?_
 refine l_nil ?_
 refine n_seq ?_
 refine e_seq ?_
 refine e_seq ?_
 refine e_reg ?_
 refine l_y (v := .agg #[.slice A8 s.clock.length c9, .slice A11 s.lives.length c12, .slice A14 s.tallies.length c15]) S (y_ld rfl (fun w S => ld_bA (vs := [.slice A8 s.clock.length c9, .slice A11 s.lives.length c12, .slice A14 s.tallies.length c15]) (i := 0) S rfl T27 rfl rfl)) ?_
 refine l_y (v := .pointer (some ⟨g17, 0, none⟩)) S (y_fb FA27_0 rfl rfl) ?_
 refine l_y (v := .slice A8 s.clock.length c9) S (y_ld rfl (fun w S => ld_b1 (i := 0) S rfl rfl T23)) ?_
 refine l_y (v := .int .i64 (s.clock.length : Int)) S (y_len U23 rfl rfl) ?_
 refine l_c (en_f (vs := [.agg #[.slice A8 s.clock.length c9, .slice A11 s.lives.length c12, .slice A14 s.tallies.length c15], .int .i64 (s.clock.length : Int)]) (CF 16 _) rfl rfl) (SWrong_c _ _ S.le _ s (s.clock.length : Int) (⟨_, rfl, ⟨_, _, _, rfl, h3, h5, h7⟩⟩ : AggR StateR rd _ s)) ?_
 rintro e w23 ⟨rfl, k⟩
 have S := S.callq k; clear k
 refine ckd ?_
 refine l_al (cs := #[.int .i64 0, .int .i64 0]) S Z33 rfl fun g24 w25 S => ?_
 refine l_st (u := .agg #[.int .i64 ((wrongS s (s.clock.length : Int)).1), .int .i64 ((wrongS s (s.clock.length : Int)).2)]) (i := 3) (cs' := #[.int .i64 ((wrongS s (s.clock.length : Int)).1), .int .i64 ((wrongS s (s.clock.length : Int)).2)]) S rfl rfl rfl SZ33 rfl rfl rfl fun w26 S => ?_
 refine l_nil ?_
 refine n_seq ?_
 refine e_seq ?_
 refine e_reg ?_
 refine l_y (v := .pointer (some ⟨g24, 0, none⟩)) S (y_fb FA33_0 rfl rfl) ?_
 refine l_y (v := .int .i64 ((wrongS s (s.clock.length : Int)).1)) S (y_ld rfl (fun w S => ld_b1 (i := 3) S rfl rfl T31)) ?_
 by_cases hW : (wrongS s (s.clock.length : Int)).1 = 0
 · -- hW yes
  refine l_y (v := .bool false) S (y_neF rfl rfl hW) ?_
  refine l_nil ?_
  refine n_seq ?_
  refine e_cF rfl ?_
  refine e_skip ?_
  refine n_seq ?_
  refine e_seq ?_
  refine e_a (fun w => St [] W rd rd [(g17, 27, #[.slice A8 s.clock.length c9, .slice A11 s.lives.length c12, .slice A14 s.tallies.length c15]), (g19, 44, #[.slice none 0 0, .slice none 0 0, .slice none 0 0]), (g21, 33, #[.int .i64 0, .int .i64 0]), (g24, 33, #[.int .i64 ((wrongS s (s.clock.length : Int)).1), .int .i64 ((wrongS s (s.clock.length : Int)).2)])] [] w) MX rfl ?_
  have S := S.drew; have sup27 := S.sup
  have SC : St [] W rd rd [(g17, 27, #[.slice A8 s.clock.length c9, .slice A11 s.lives.length c12, .slice A14 s.tallies.length c15]), (g19, 44, #[.slice none 0 0, .slice none 0 0, .slice none 0 0]), (g21, 33, #[.int .i64 0, .int .i64 0]), (g24, 33, #[.int .i64 ((wrongS s (s.clock.length : Int)).1), .int .i64 ((wrongS s (s.clock.length : Int)).2)])] [] _ := (S.tk 4 0 rfl rfl).rw' rfl rfl
  refine a_take (v := .pointer (some ⟨g17, 1, none⟩)) 0 rfl rfl (by kernel_rfl) (by kernel_rfl) (by kernel_rfl) SC rfl (y_fb FA27_1 rfl rfl) ?_
  refine a_take (v := .slice A11 s.lives.length c12) 1 rfl rfl (by kernel_rfl) (by kernel_rfl) (by kernel_rfl) SC rfl (y_ld rfl (fun w S => ld_b1 (i := 0) S rfl rfl T24)) ?_
  refine a_take (v := .pointer (some ⟨g17, 1, none⟩)) 3 rfl rfl (by kernel_rfl) (by kernel_rfl) (by kernel_rfl) SC rfl (y_fb FA27_1 rfl rfl) ?_
  refine a_take (v := .slice A11 s.lives.length c12) 4 rfl rfl (by kernel_rfl) (by kernel_rfl) (by kernel_rfl) SC rfl (y_ld rfl (fun w S => ld_b1 (i := 0) S rfl rfl T24)) ?_
  refine a_all (rs := [2, 7]) (by kernel_rfl) rfl ?_
  refine aa_cons rfl ?_ ?_
  · -- operation 2
   refine l_c (en_f (vs := [.slice A11 s.lives.length c12, .bool false]) (CF 52 _) rfl rfl) (Cells_c _ _ S.le _ s.lives false h5 (wrongS_iff.1 hW).lives_len) ?_
   rintro e w28 ⟨v33, rfl, h34, k⟩
   obtain ⟨rd29, S, L30, N31, X32⟩ := S.call' k; clear k
   replace h3 := fm h3 L30
   replace h5 := fm h5 L30
   replace h7 := fm h7 L30
   replace h34 := fm h34 X32
   obtain ⟨A35, c36, rfl, m37, m37'⟩ := h34.val
   refine ckd ?_
   refine l_nil ?_
   have SC : St [] W rd rd [(g17, 27, #[.slice A8 s.clock.length c9, .slice A11 s.lives.length c12, .slice A14 s.tallies.length c15]), (g19, 44, #[.slice none 0 0, .slice none 0 0, .slice none 0 0]), (g21, 33, #[.int .i64 0, .int .i64 0]), (g24, 33, #[.int .i64 ((wrongS s (s.clock.length : Int)).1), .int .i64 ((wrongS s (s.clock.length : Int)).2)])] [] _ := ((S.tk 4 0 rfl rfl).weak sup27 L30).rw' rfl rfl
   refine n_lp (ak SC ?_)
   refine a_all (rs := [5, 7]) (by kernel_rfl) rfl ?_
   refine aa_cons rfl ?_ ?_
   · -- operation 5
    refine l_c (en_f (vs := [.slice A11 s.lives.length c12, .bool true]) (CF 52 _) rfl rfl) (Cells_c _ _ S.le _ s.lives true h5 (wrongS_iff.1 hW).lives_len) ?_
    rintro e w38 ⟨v43, rfl, h44, k⟩
    obtain ⟨rd39, S, L40, N41, X42⟩ := S.call' k; clear k
    replace h3 := fm h3 L40
    replace h5 := fm h5 L40
    replace h7 := fm h7 L40
    replace h34 := fm h34 L40
    replace h44 := fm h44 X42
    obtain ⟨A45, c46, rfl, m47, m47'⟩ := h44.val
    refine ckd ?_
    refine l_nil ?_
    have SC : St [] W rd rd [(g17, 27, #[.slice A8 s.clock.length c9, .slice A11 s.lives.length c12, .slice A14 s.tallies.length c15]), (g19, 44, #[.slice none 0 0, .slice none 0 0, .slice none 0 0]), (g21, 33, #[.int .i64 0, .int .i64 0]), (g24, 33, #[.int .i64 ((wrongS s (s.clock.length : Int)).1), .int .i64 ((wrongS s (s.clock.length : Int)).2)])] [] _ := ((S.tk 4 0 rfl rfl).weak sup27 (Rd.le_trans L30 L40)).rw' rfl rfl
    refine n_lp (ak SC ?_)
    refine a_take (v := .agg #[.slice A35 ((cellsL s.lives false).length) c36, .slice A45 ((cellsL s.lives true).length) c46, .slice none 0 0]) 6 rfl rfl (by kernel_rfl) (by kernel_rfl) (by kernel_rfl) SC rfl (y_bd (ps := [(0, .slice A35 ((cellsL s.lives false).length) c36), (1, .slice A45 ((cellsL s.lives true).length) c46)]) rfl (fun _ => by kernel_rfl)) ?_
    refine a_all (rs := [7]) (by kernel_rfl) rfl ?_
    refine aa_cons rfl ?_ ?_
    · -- operation 7
     refine l_al (cs := #[.slice none 0 0, .slice none 0 0, .slice none 0 0]) S Z44 rfl fun g48 w49 S => ?_
     refine l_nil ?_
     have SC : St [] W rd rd [(g17, 27, #[.slice A8 s.clock.length c9, .slice A11 s.lives.length c12, .slice A14 s.tallies.length c15]), (g19, 44, #[.slice none 0 0, .slice none 0 0, .slice none 0 0]), (g21, 33, #[.int .i64 0, .int .i64 0]), (g24, 33, #[.int .i64 ((wrongS s (s.clock.length : Int)).1), .int .i64 ((wrongS s (s.clock.length : Int)).2)])] [] _ := ((S.tk 4 0 rfl rfl).weak sup27 (Rd.le_trans L30 L40)).rw' rfl rfl
     refine n_lp (ak SC ?_)
     refine a_all (rs := [8]) (by kernel_rfl) rfl ?_
     refine aa_cons rfl ?_ ?_
     · -- operation 8
      refine l_st (u := .agg #[.slice A35 ((cellsL s.lives false).length) c36, .slice A45 ((cellsL s.lives true).length) c46, .slice none 0 0]) (i := 4) (cs' := #[.slice A35 ((cellsL s.lives false).length) c36, .slice A45 ((cellsL s.lives true).length) c46, .slice none 0 0]) S rfl rfl rfl SZ44 rfl rfl rfl fun w50 S => ?_
      refine l_nil ?_
      have SC : St [] W rd rd [(g17, 27, #[.slice A8 s.clock.length c9, .slice A11 s.lives.length c12, .slice A14 s.tallies.length c15]), (g19, 44, #[.slice none 0 0, .slice none 0 0, .slice none 0 0]), (g21, 33, #[.int .i64 0, .int .i64 0]), (g24, 33, #[.int .i64 ((wrongS s (s.clock.length : Int)).1), .int .i64 ((wrongS s (s.clock.length : Int)).2)])] [] _ := ((S.tk 4 0 rfl rfl).weak sup27 (Rd.le_trans L30 L40)).rw' rfl rfl
      refine n_lp (ak SC ?_)
      refine a_done (by kernel_rfl) ?_
      clear SC
      refine n_seq ?_
      refine e_seq ?_
      refine e_seq ?_
      refine e_reg ?_
      refine l_y (v := .pointer (some ⟨g17, 2, none⟩)) S (y_fb FA27_2 rfl rfl) ?_
      refine l_y (v := .slice A14 s.tallies.length c15) S (y_ld rfl (fun w S => ld_b1 (i := 0) S rfl rfl T25)) ?_
      refine l_y (v := .int .i64 (s.tallies.length : Int)) S (y_len U25 rfl rfl) ?_
      refine l_y (v := .int .i64 0) S (y_mv rfl) ?_
      refine l_nil ?_
      refine n_seq ?_
      refine e_trim [(2, .pointer (some ⟨g19, 0, none⟩)), (3, .pointer (some ⟨g21, 0, none⟩)), (5, .pointer (some ⟨g48, 0, none⟩)), (27, .slice A14 s.tallies.length c15), (28, .int .i64 (s.tallies.length : Int)), (29, .int .i64 0)] ⟨⟨rfl, rfl⟩, ⟨rfl, rfl⟩, ⟨rfl, rfl⟩, ⟨rfl, rfl⟩, ⟨rfl, rfl⟩, ⟨rfl, rfl⟩, trivial⟩ (fun junk => ?_)
      refine e_blk ?_
      have S := S.ownNil 57 2
      have hts := fun (z : Tally) (hz : z ∈ s.tallies) => tally_bd hW hz; have htl := (wrongS_iff.1 hW).tallies_len
      refine e_trim [(2, .pointer (some ⟨g19, 0, none⟩)), (3, .pointer (some ⟨g21, 0, none⟩)), (5, .pointer (some ⟨g48, 0, none⟩)), (27, .slice A14 s.tallies.length c15), (28, .int .i64 (s.tallies.length : Int)), (29, .int .i64 (0 : Int))] ⟨⟨rfl, rfl⟩, ⟨rfl, rfl⟩, ⟨rfl, rfl⟩, ⟨rfl, rfl⟩, ⟨rfl, rfl⟩, ⟨ival (by first | rfl | omega), rfl⟩, trivial⟩ (fun junk => ?_)
      refine e_loop (fun (gh_ : Nat × (Option Addr) × Nat × Nat × (List Value)) ov w => match gh_ with | (k, AO, nO, cO, xsO) => ∃ rd' junk, ov = [(2, .pointer (some ⟨g19, 0, none⟩)), (3, .pointer (some ⟨g21, 0, none⟩)), (5, .pointer (some ⟨g48, 0, none⟩)), (27, .slice A14 s.tallies.length c15), (28, .int .i64 (s.tallies.length : Int)), (29, .int .i64 (k : Int))] ++ junk ∧ St [] W rd rd' [(g17, 27, #[.slice A8 s.clock.length c9, .slice A11 s.lives.length c12, .slice A14 s.tallies.length c15]), (g19, 44, #[.slice none 0 0, .slice none 0 0, .slice none 0 0]), (g21, 33, #[.int .i64 0, .int .i64 0]), (g24, 33, #[.int .i64 ((wrongS s (s.clock.length : Int)).1), .int .i64 ((wrongS s (s.clock.length : Int)).2)]), (g48, 44, #[.slice A35 ((cellsL s.lives false).length) c36, .slice A45 ((cellsL s.lives true).length) c46, .slice AO nO cO])] [⟨57, 2, .slice AO nO cO, nO, xsO⟩] w ∧ Rd.le rd39 rd' ∧ CntsI rd' (cntsL (s.tallies.take k)) nO xsO k ∧ k ≤ s.tallies.length ∧ nO ≤ k) (fun gh_ => match gh_ with | (k, AO, nO, cO, xsO) => s.tallies.length - k) (0, none, 0, 0, []) ⟨_, junk, rfl, (S.rw' rfl rfl), (Rd.le_refl _), (.inl ⟨rfl, rfl, rfl⟩), (by omega), (by omega)⟩ ?_
      rintro ⟨k, AO, nO, cO, xsO⟩ ov54 w52 ⟨rd51, junk, rfl, S, L53, HC, hk, hno⟩
      replace h3 := fm h3 L53
      replace h5 := fm h5 L53
      replace h7 := fm h7 L53
      replace h34 := fm h34 L53
      replace h44 := fm h44 L53
      refine e_seq ?_
      refine e_reg ?_
      by_cases h55 : (k : Int) < (s.tallies.length : Int)
      · -- h55 yes
       refine l_y (v := .bool true) S (y_ltT rfl rfl h55) ?_
       refine l_nil ?_
       refine n_seq ?_
       refine e_seq ?_
       refine e_cT rfl ?_
       refine e_skip ?_
       refine n_seq ?_
       refine e_seq ?_
       refine e_blk ?_
       refine e_seq ?_
       refine e_reg ?_
       obtain ⟨z56, hz57⟩ : ∃ z, (s.tallies)[k]? = some z := nth_of (by first | assumption | omega)
       obtain ⟨p58, vs59, E60, nn61, r62, Y63⟩ := y_ia U25 SZ82 h7 hz57
       clear nn61
       have r62e : vs59 = [.int .i64 z56.key, .int .i64 z56.author, .int .i64 z56.sum] := r62; subst r62e; clear r62
       refine l_y (v := p58) S (Y63 rfl rfl (by first | rfl | omega)) ?_
       refine l_y (v := .agg #[.int .i64 z56.key, .int .i64 z56.author, .int .i64 z56.sum]) S (y_ld rfl (fun w S => ld_pA (us := [.int .i64 z56.key, .int .i64 z56.author, .int .i64 z56.sum]) S.le E60 T82 rfl rfl)) ?_
       refine l_al (cs := #[.int .i64 0, .int .i64 0, .int .i64 0]) S Z82 rfl fun g64 w65 S => ?_
       refine l_st (u := .agg #[.int .i64 z56.key, .int .i64 z56.author, .int .i64 z56.sum]) (i := 5) (cs' := #[.int .i64 z56.key, .int .i64 z56.author, .int .i64 z56.sum]) S rfl rfl rfl SZ82 rfl rfl rfl fun w66 S => ?_
       refine l_nil ?_
       refine n_seq ?_
       refine e_seq ?_
       refine e_reg ?_
       rcases HC with ⟨hcs, rfl, rfl⟩ | ⟨F, xsF, key, sum, hcs, rfl, rfl, hF, hs1, hs2⟩
       · -- none yet
        refine l_y (v := .pointer (some ⟨g48, 2, none⟩)) S (y_fb FA44_2 rfl rfl) ?_
        refine l_y (v := .slice AO 0 cO) S (y_ld rfl (fun w S => ld_b1 (i := 4) S rfl rfl T42)) ?_
        refine l_y (v := .int .i64 0) S (y_len U42 rfl rfl) ?_
        refine l_y (v := .int .i64 (-1)) S (y_sub (r := (-1)) rfl rfl (rfl)) ?_
        refine l_y (v := .int .i64 (-1)) S (y_as rfl) ?_
        refine l_nil ?_
        refine n_seq ?_
        refine e_seq ?_
        refine e_seq ?_
        refine e_q MX (by kernel_rfl) S.drew ?_
        -- draws
        refine q_y (v := .int .i64 (-1)) (y_mv rfl) ?_
        refine q_y (v := .bool true) (y_ltT rfl rfl (by decide)) ?_
        refine q_y (v := .bool true) (y_mv rfl) ?_
        refine q_s (d' := 39) rfl rfl ?_
        refine q_s (d' := 39) rfl rfl ?_
        refine q_s (d' := 39) rfl rfl ?_
        refine q_s (d' := 39) rfl rfl ?_
        refine q_s (d' := 39) rfl rfl ?_
        refine q_s (d' := 39) rfl rfl ?_
        refine q_s (d' := 39) rfl rfl ?_
        refine q_s (d' := 39) rfl rfl ?_
        refine q_s (d' := 39) rfl rfl ?_
        refine q_y (v := .bool true) (y_pT rfl rfl) ?_
        refine q_nil fun w67 S => ?_
        refine n_seq ?_
        refine e_cT rfl ?_
        refine e_seq ?_
        refine e_reg ?_
        refine l_y (v := .pointer (some ⟨g48, 2, none⟩)) S (y_fb FA44_2 rfl rfl) ?_
        refine l_y (v := .slice AO 0 cO) S (y_ld rfl (fun w S => ld_b1 (i := 4) S rfl rfl T42)) ?_
        refine l_y (v := .pointer (some ⟨g64, 0, none⟩)) S (y_fb FA82_0 rfl rfl) ?_
        refine l_y (v := .int .i64 z56.key) S (y_ld rfl (fun w S => ld_b1 (i := 5) S rfl rfl T3)) ?_
        refine l_y (v := .pointer (some ⟨g64, 2, none⟩)) S (y_fb FA82_2 rfl rfl) ?_
        refine l_y (v := .int .i64 z56.sum) S (y_ld rfl (fun w S => ld_b1 (i := 5) S rfl rfl T3)) ?_
        refine l_y (v := .agg #[.int .i64 z56.key, .int .i64 z56.sum]) S (y_bd (ps := [(0, .int .i64 z56.key), (1, .int .i64 z56.sum)]) rfl (fun _ => by kernel_rfl)) ?_
        refine l_bs (ps := [(0, .agg #[.int .i64 z56.key, .int .i64 z56.sum])]) (cs := #[.int .i64 z56.key, .int .i64 z56.sum]) S U42 SZ57 Z57 rfl rfl rfl (by kernel_rfl) fun g68 w69 S => ?_
        refine l_ap (e' := 0) (i := 0) (i' := 6) S K42 rfl rfl rfl rfl rfl rfl rfl (by simp only [maxLen]; omega) (by dsimp only; omega) fun v70 w71 S => ?_
        obtain ⟨A72, c73, m74e, m74, m74'⟩ : ∃ A c, v70 = .slice A (0 + 1) c ∧ (0 + 1) ≤ c ∧ c ≤ maxLen := own_len S (i := 0) rfl; subst m74e
        refine l_y (v := .pointer (some ⟨g48, 2, none⟩)) S (y_fb FA44_2 rfl rfl) ?_
        refine l_st (u := .slice A72 (0 + 1) c73) (i := 4) (cs' := #[.slice A35 ((cellsL s.lives false).length) c36, .slice A45 ((cellsL s.lives true).length) c46, .slice A72 (0 + 1) c73]) S rfl rfl rfl SZ42 rfl rfl rfl fun w75 S => ?_
        refine l_nil ?_
        refine n_seq ?_
        refine e_trim [(2, .pointer (some ⟨g19, 0, none⟩)), (3, .pointer (some ⟨g21, 0, none⟩)), (5, .pointer (some ⟨g48, 0, none⟩)), (27, .slice A14 s.tallies.length c15), (28, .int .i64 (s.tallies.length : Int)), (29, .int .i64 (k : Int)), (30, .bool true), (31, p58), (32, .agg #[.int .i64 z56.key, .int .i64 z56.author, .int .i64 z56.sum]), (7, .pointer (some ⟨g64, 0, none⟩)), (33, .pointer (some ⟨g48, 2, none⟩)), (34, .slice AO 0 cO), (35, .int .i64 0), (36, .int .i64 (-1)), (8, .int .i64 (-1)), (37, .int .i64 (-1)), (38, .bool true), (39, .bool true), (40, undef), (41, undef), (42, undef), (43, undef), (44, undef), (45, undef), (46, undef), (47, undef), (48, undef), (49, .bool true), (50, .pointer (some ⟨g48, 2, none⟩)), (51, .slice AO 0 cO), (52, .pointer (some ⟨g64, 0, none⟩)), (53, .int .i64 z56.key), (54, .pointer (some ⟨g64, 2, none⟩)), (55, .int .i64 z56.sum), (56, .agg #[.int .i64 z56.key, .int .i64 z56.sum]), (57, .slice (some ⟨g68, 0, none⟩) 1 1), (58, .slice A72 (0 + 1) c73), (59, .pointer (some ⟨g48, 2, none⟩))] ⟨⟨rfl, rfl⟩, ⟨rfl, rfl⟩, ⟨rfl, rfl⟩, ⟨rfl, rfl⟩, ⟨rfl, rfl⟩, ⟨rfl, rfl⟩, ⟨rfl, rfl⟩, ⟨rfl, rfl⟩, ⟨rfl, rfl⟩, ⟨rfl, rfl⟩, ⟨rfl, rfl⟩, ⟨rfl, rfl⟩, ⟨rfl, rfl⟩, ⟨rfl, rfl⟩, ⟨rfl, rfl⟩, ⟨rfl, rfl⟩, ⟨rfl, rfl⟩, ⟨rfl, rfl⟩, ⟨rfl, rfl⟩, ⟨rfl, rfl⟩, ⟨rfl, rfl⟩, ⟨rfl, rfl⟩, ⟨rfl, rfl⟩, ⟨rfl, rfl⟩, ⟨rfl, rfl⟩, ⟨rfl, rfl⟩, ⟨rfl, rfl⟩, ⟨rfl, rfl⟩, ⟨rfl, rfl⟩, ⟨rfl, rfl⟩, ⟨rfl, rfl⟩, ⟨rfl, rfl⟩, ⟨rfl, rfl⟩, ⟨rfl, rfl⟩, ⟨rfl, rfl⟩, ⟨rfl, rfl⟩, ⟨rfl, rfl⟩, ⟨rfl, rfl⟩, trivial⟩ (fun junk => ?_)
        refine e_exit ?_
        refine x_seq ?_
        refine x_hit ?_
        refine n_seq ?_
        refine e_reg ?_
        refine l_y (v := .int .i64 ((k : Int) + 1)) S (y_add (r := (k : Int) + 1) rfl rfl (w64 (by omega) (by omega))) ?_
        refine l_y (v := .int .i64 ((k : Int) + 1)) S (y_mv rfl) ?_
        refine l_nil ?_
        have htz := hts z56 (List.mem_of_getElem? hz57)
        refine n_lp ⟨(k + 1, A72, (0 + 1), c73, [] ++ [.int .i64 z56.key, .int .i64 z56.sum]), _, fr_keep (m := [(2, .pointer (some ⟨g19, 0, none⟩)), (3, .pointer (some ⟨g21, 0, none⟩)), (5, .pointer (some ⟨g48, 0, none⟩)), (27, .slice A14 s.tallies.length c15), (28, .int .i64 (s.tallies.length : Int)), (29, .int .i64 ((k + 1 : Nat) : Int))]) ⟨⟨rfl, rfl⟩, ⟨rfl, rfl⟩, ⟨rfl, rfl⟩, ⟨rfl, rfl⟩, ⟨rfl, rfl⟩, ⟨ival (by first | rfl | omega), rfl⟩, trivial⟩, ⟨_, _, rfl, (S.tk 5 1 rfl rfl), (Rd.le_trans L53 (Rd.le_refl rd51)), (.inr ⟨[], [], z56.key, z56.sum, by rw [cnts_take hz57, hcs, cnt_first]; rfl, rfl, rfl, rfl, by omega, by omega⟩), (by omega), (by first | omega | (simp; omega))⟩, ?_⟩
        show _ < _; dsimp only; omega
       · -- some
        have hxl := hF.len
        obtain ⟨gO, rfl⟩ := own_atA S (i := 0) rfl rfl (Nat.succ_ne_zero _)
        refine l_y (v := .pointer (some ⟨g48, 2, none⟩)) S (y_fb FA44_2 rfl rfl) ?_
        refine l_y (v := .slice (some ⟨gO, 0, none⟩) (F.length + 1) cO) S (y_ld rfl (fun w S => ld_b1 (i := 4) S rfl rfl T42)) ?_
        refine l_y (v := .int .i64 ((F.length + 1 : Nat) : Int)) S (y_len U42 rfl rfl) ?_
        refine l_y (v := .int .i64 (F.length : Int)) S (y_sub (r := (F.length : Int)) rfl rfl ((w64 (by omega) (by omega)).trans (by omega))) ?_
        refine l_y (v := .int .i64 (F.length : Int)) S (y_as rfl) ?_
        refine l_nil ?_
        refine n_seq ?_
        refine e_seq ?_
        refine e_seq ?_
        refine e_q MX (by kernel_rfl) S.drew ?_
        -- draws
        refine q_y (v := .int .i64 (F.length : Int)) (y_mv rfl) ?_
        have h76 : ¬ ((F.length : Int) < 0) := by omega
        refine q_y (v := .bool false) (y_ltF rfl rfl h76) ?_
        refine q_y (v := .bool false) (y_mv rfl) ?_
        refine q_g (d' := 39) (v := .pointer (some ⟨g48, 2, none⟩)) (y_fb FA44_2 rfl rfl) rfl rfl ?_
        refine q_g (d' := 39) (v := .slice (some ⟨gO, 0, none⟩) (F.length + 1) cO) (y_ld rfl (fun w S => ld_b1 (i := 4) S rfl rfl T42)) rfl rfl ?_
        refine q_g (d' := 39) (v := .int .i64 (F.length : Int)) (y_mv rfl) rfl rfl ?_
        refine q_g (d' := 39) (v := .pointer (some ⟨gO, F.length * 2, none⟩)) (y_ibs (k := F.length) U42 SZ57 (Nat.lt_succ_self _) (Nat.zero_add _) rfl rfl (by first | rfl | omega)) rfl rfl ?_
        refine q_g (d' := 39) (v := .pointer (some ⟨gO, F.length * 2 + 0, none⟩)) (y_iar (k := 0) U57 SZ3 (by decide) rfl rfl rfl rfl) rfl rfl ?_
        refine q_g (d' := 39) (v := .int .i64 key) (y_ld rfl (fun w S => ld_o1 (i := 0) S rfl rfl T3 (row_last0 hxl))) rfl rfl ?_
        refine q_g (d' := 39) (v := .pointer (some ⟨g64, 0, none⟩)) (y_fb FA82_0 rfl rfl) rfl rfl ?_
        refine q_g (d' := 39) (v := .int .i64 z56.key) (y_ld rfl (fun w S => ld_b1 (i := 5) S rfl rfl T3)) rfl rfl ?_
        by_cases hk2 : key = z56.key
        · -- hk2 yes
         refine q_g (d' := 39) (v := .bool false) (y_neF rfl rfl hk2) rfl rfl ?_
         refine q_y (v := .bool false) (y_pF rfl rfl) ?_
         refine q_nil fun w77 S => ?_
         refine n_seq ?_
         refine e_cF rfl ?_
         refine e_skip ?_
         refine n_seq ?_
         refine e_a (fun w => St [] W rd rd51 [(g17, 27, #[.slice A8 s.clock.length c9, .slice A11 s.lives.length c12, .slice A14 s.tallies.length c15]), (g19, 44, #[.slice none 0 0, .slice none 0 0, .slice none 0 0]), (g21, 33, #[.int .i64 0, .int .i64 0]), (g24, 33, #[.int .i64 ((wrongS s (s.clock.length : Int)).1), .int .i64 ((wrongS s (s.clock.length : Int)).2)]), (g48, 44, #[.slice A35 ((cellsL s.lives false).length) c36, .slice A45 ((cellsL s.lives true).length) c46, .slice (some ⟨gO, 0, none⟩) (F.length + 1) cO]), (g64, 82, #[.int .i64 z56.key, .int .i64 z56.author, .int .i64 z56.sum])] [] w) MX rfl ?_
         have S := S.drew; have sup78 := S.sup
         have SC : St [] W rd rd51 [(g17, 27, #[.slice A8 s.clock.length c9, .slice A11 s.lives.length c12, .slice A14 s.tallies.length c15]), (g19, 44, #[.slice none 0 0, .slice none 0 0, .slice none 0 0]), (g21, 33, #[.int .i64 0, .int .i64 0]), (g24, 33, #[.int .i64 ((wrongS s (s.clock.length : Int)).1), .int .i64 ((wrongS s (s.clock.length : Int)).2)]), (g48, 44, #[.slice A35 ((cellsL s.lives false).length) c36, .slice A45 ((cellsL s.lives true).length) c46, .slice (some ⟨gO, 0, none⟩) (F.length + 1) cO]), (g64, 82, #[.int .i64 z56.key, .int .i64 z56.author, .int .i64 z56.sum])] [] _ := (S.tk 6 0 rfl rfl).rw' rfl rfl
         refine a_take (v := .pointer (some ⟨g48, 2, none⟩)) 0 rfl rfl (by kernel_rfl) (by kernel_rfl) (by kernel_rfl) SC rfl (y_fb FA44_2 rfl rfl) ?_
         refine a_take (v := .slice (some ⟨gO, 0, none⟩) (F.length + 1) cO) 1 rfl rfl (by kernel_rfl) (by kernel_rfl) (by kernel_rfl) SC rfl (y_ld rfl (fun w S => ld_b1 (i := 4) S rfl rfl T42)) ?_
         refine a_take (v := .int .i64 (F.length : Int)) 2 rfl rfl (by kernel_rfl) (by kernel_rfl) (by kernel_rfl) SC rfl (y_mv rfl) ?_
         refine a_take (v := .pointer (some ⟨gO, F.length * 2, none⟩)) 3 rfl rfl (by kernel_rfl) (by kernel_rfl) (by kernel_rfl) SC rfl (y_ibs (k := F.length) U42 SZ57 (Nat.lt_succ_self _) (Nat.zero_add _) rfl rfl (by first | rfl | omega)) ?_
         refine a_take (v := .pointer (some ⟨gO, F.length * 2 + 1, none⟩)) 4 rfl rfl (by kernel_rfl) (by kernel_rfl) (by kernel_rfl) SC rfl (y_iar (k := 1) U57 SZ3 (by decide) rfl rfl rfl rfl) ?_
         refine a_take (v := .pointer (some ⟨g64, 2, none⟩)) 6 rfl rfl (by kernel_rfl) (by kernel_rfl) (by kernel_rfl) SC rfl (y_fb FA82_2 rfl rfl) ?_
         refine a_take (v := .int .i64 z56.sum) 7 rfl rfl (by kernel_rfl) (by kernel_rfl) (by kernel_rfl) SC rfl (y_ld rfl (fun w S => ld_b1 (i := 5) S rfl rfl T3)) ?_
         refine a_take (v := .pointer (some ⟨gO, F.length * 2, none⟩)) 9 rfl rfl (by kernel_rfl) (by kernel_rfl) (by kernel_rfl) SC rfl (y_ibs (k := F.length) U42 SZ57 (Nat.lt_succ_self _) (Nat.zero_add _) rfl rfl (by first | rfl | omega)) ?_
         refine a_all (rs := [5]) (by kernel_rfl) rfl ?_
         refine aa_cons rfl ?_ ?_
         · -- operation 5
          refine l_y (v := .int .i64 sum) S (y_ld rfl (fun w S => ld_o1 (i := 0) S rfl rfl T3 (row_last1 hxl))) ?_
          refine l_nil ?_
          have SC : St [] W rd rd51 [(g17, 27, #[.slice A8 s.clock.length c9, .slice A11 s.lives.length c12, .slice A14 s.tallies.length c15]), (g19, 44, #[.slice none 0 0, .slice none 0 0, .slice none 0 0]), (g21, 33, #[.int .i64 0, .int .i64 0]), (g24, 33, #[.int .i64 ((wrongS s (s.clock.length : Int)).1), .int .i64 ((wrongS s (s.clock.length : Int)).2)]), (g48, 44, #[.slice A35 ((cellsL s.lives false).length) c36, .slice A45 ((cellsL s.lives true).length) c46, .slice (some ⟨gO, 0, none⟩) (F.length + 1) cO]), (g64, 82, #[.int .i64 z56.key, .int .i64 z56.author, .int .i64 z56.sum])] [] _ := (S.tk 6 0 rfl rfl).rw' rfl rfl
          refine n_lp (ak SC ?_)
          refine a_take (v := .int .i64 (sum + z56.sum)) 8 rfl rfl (by kernel_rfl) (by kernel_rfl) (by kernel_rfl) SC rfl (y_add (r := sum + z56.sum) rfl rfl (w64 (by have := hts _ (List.mem_of_getElem? hz57); omega) (by have := hts _ (List.mem_of_getElem? hz57); omega))) ?_
          refine a_take (v := .pointer (some ⟨gO, F.length * 2 + 1, none⟩)) 10 rfl rfl (by kernel_rfl) (by kernel_rfl) (by kernel_rfl) SC rfl (y_iar (k := 1) U57 SZ3 (by decide) rfl rfl rfl rfl) ?_
          refine a_all (rs := [11]) (by kernel_rfl) rfl ?_
          refine aa_cons rfl ?_ ?_
          · -- operation 11
           refine l_so (u := .int .i64 (sum + z56.sum)) (i := 0) (xs' := (xsF ++ [.int .i64 key, .int .i64 (sum + z56.sum)])) S rfl rfl rfl rfl SZ3 (show _ + 1 ≤ List.length _ by simp; omega) rfl (row_set1 hxl) fun w79 S => ?_
           refine l_nil ?_
           have SC : St [] W rd rd51 [(g17, 27, #[.slice A8 s.clock.length c9, .slice A11 s.lives.length c12, .slice A14 s.tallies.length c15]), (g19, 44, #[.slice none 0 0, .slice none 0 0, .slice none 0 0]), (g21, 33, #[.int .i64 0, .int .i64 0]), (g24, 33, #[.int .i64 ((wrongS s (s.clock.length : Int)).1), .int .i64 ((wrongS s (s.clock.length : Int)).2)]), (g48, 44, #[.slice A35 ((cellsL s.lives false).length) c36, .slice A45 ((cellsL s.lives true).length) c46, .slice (some ⟨gO, 0, none⟩) (F.length + 1) cO]), (g64, 82, #[.int .i64 z56.key, .int .i64 z56.author, .int .i64 z56.sum])] [] _ := (S.tk 6 0 rfl rfl).rw' rfl rfl
           refine n_lp (ak SC ?_)
           refine a_done (by kernel_rfl) ?_
           clear SC
           refine n_blk ?_
           refine n_seq ?_
           refine e_trim [(2, .pointer (some ⟨g19, 0, none⟩)), (3, .pointer (some ⟨g21, 0, none⟩)), (5, .pointer (some ⟨g48, 0, none⟩)), (27, .slice A14 s.tallies.length c15), (28, .int .i64 (s.tallies.length : Int)), (29, .int .i64 (k : Int)), (30, .bool true), (31, p58), (32, .agg #[.int .i64 z56.key, .int .i64 z56.author, .int .i64 z56.sum]), (7, .pointer (some ⟨g64, 0, none⟩)), (33, .pointer (some ⟨g48, 2, none⟩)), (34, .slice (some ⟨gO, 0, none⟩) (F.length + 1) cO), (35, .int .i64 ((F.length + 1 : Nat) : Int)), (36, .int .i64 (F.length : Int)), (8, .int .i64 (F.length : Int)), (37, .int .i64 (F.length : Int)), (38, .bool false), (39, .bool false), (40, .pointer (some ⟨g48, 2, none⟩)), (41, .slice (some ⟨gO, 0, none⟩) (F.length + 1) cO), (42, .int .i64 (F.length : Int)), (43, .pointer (some ⟨gO, F.length * 2, none⟩)), (44, .pointer (some ⟨gO, F.length * 2 + 0, none⟩)), (45, .int .i64 key), (46, .pointer (some ⟨g64, 0, none⟩)), (47, .int .i64 z56.key), (48, .bool false), (49, .bool false), (60, .pointer (some ⟨g48, 2, none⟩)), (61, .slice (some ⟨gO, 0, none⟩) (F.length + 1) cO), (62, .int .i64 (F.length : Int)), (63, .pointer (some ⟨gO, F.length * 2, none⟩)), (64, .pointer (some ⟨gO, F.length * 2 + 1, none⟩)), (66, .pointer (some ⟨g64, 2, none⟩)), (67, .int .i64 z56.sum), (69, .pointer (some ⟨gO, F.length * 2, none⟩)), (65, .int .i64 sum), (68, .int .i64 (sum + z56.sum)), (70, .pointer (some ⟨gO, F.length * 2 + 1, none⟩))] ⟨⟨rfl, rfl⟩, ⟨rfl, rfl⟩, ⟨rfl, rfl⟩, ⟨rfl, rfl⟩, ⟨rfl, rfl⟩, ⟨rfl, rfl⟩, ⟨rfl, rfl⟩, ⟨rfl, rfl⟩, ⟨rfl, rfl⟩, ⟨rfl, rfl⟩, ⟨rfl, rfl⟩, ⟨rfl, rfl⟩, ⟨rfl, rfl⟩, ⟨rfl, rfl⟩, ⟨rfl, rfl⟩, ⟨rfl, rfl⟩, ⟨rfl, rfl⟩, ⟨rfl, rfl⟩, ⟨rfl, rfl⟩, ⟨rfl, rfl⟩, ⟨rfl, rfl⟩, ⟨rfl, rfl⟩, ⟨rfl, rfl⟩, ⟨rfl, rfl⟩, ⟨rfl, rfl⟩, ⟨rfl, rfl⟩, ⟨rfl, rfl⟩, ⟨rfl, rfl⟩, ⟨rfl, rfl⟩, ⟨rfl, rfl⟩, ⟨rfl, rfl⟩, ⟨rfl, rfl⟩, ⟨rfl, rfl⟩, ⟨rfl, rfl⟩, ⟨rfl, rfl⟩, ⟨rfl, rfl⟩, ⟨rfl, rfl⟩, ⟨rfl, rfl⟩, ⟨rfl, rfl⟩, trivial⟩ (fun junk => ?_)
           refine e_reg ?_
           refine l_y (v := .int .i64 ((k : Int) + 1)) S (y_add (r := (k : Int) + 1) rfl rfl (w64 (by omega) (by omega))) ?_
           refine l_y (v := .int .i64 ((k : Int) + 1)) S (y_mv rfl) ?_
           refine l_nil ?_
           have htz := hts z56 (List.mem_of_getElem? hz57)
           refine n_lp ⟨(k + 1, (some ⟨gO, 0, none⟩), (F.length + 1), cO, (xsF ++ [.int .i64 key, .int .i64 (sum + z56.sum)])), _, fr_keep (m := [(2, .pointer (some ⟨g19, 0, none⟩)), (3, .pointer (some ⟨g21, 0, none⟩)), (5, .pointer (some ⟨g48, 0, none⟩)), (27, .slice A14 s.tallies.length c15), (28, .int .i64 (s.tallies.length : Int)), (29, .int .i64 ((k + 1 : Nat) : Int))]) ⟨⟨rfl, rfl⟩, ⟨rfl, rfl⟩, ⟨rfl, rfl⟩, ⟨rfl, rfl⟩, ⟨rfl, rfl⟩, ⟨ival (by first | rfl | omega), rfl⟩, trivial⟩, ⟨_, _, rfl, (S.tk 5 1 rfl rfl), (Rd.le_trans L53 (Rd.le_refl rd51)), (.inr ⟨F, xsF, key, sum + z56.sum, by rw [cnts_take hz57, hcs, cnt_add hk2], rfl, rfl, hF, by omega, by omega⟩), (by omega), (by first | omega | (simp; omega))⟩, ?_⟩
           show _ < _; dsimp only; omega
          exact aa_nil
         exact aa_nil
        · -- hk2 no
         refine q_g (d' := 39) (v := .bool true) (y_neT rfl rfl hk2) rfl rfl ?_
         refine q_y (v := .bool true) (y_pF rfl rfl) ?_
         refine q_nil fun w80 S => ?_
         refine n_seq ?_
         refine e_cT rfl ?_
         refine e_seq ?_
         refine e_reg ?_
         refine l_y (v := .pointer (some ⟨g48, 2, none⟩)) S (y_fb FA44_2 rfl rfl) ?_
         refine l_y (v := .slice (some ⟨gO, 0, none⟩) (F.length + 1) cO) S (y_ld rfl (fun w S => ld_b1 (i := 4) S rfl rfl T42)) ?_
         refine l_y (v := .pointer (some ⟨g64, 0, none⟩)) S (y_fb FA82_0 rfl rfl) ?_
         refine l_y (v := .int .i64 z56.key) S (y_ld rfl (fun w S => ld_b1 (i := 5) S rfl rfl T3)) ?_
         refine l_y (v := .pointer (some ⟨g64, 2, none⟩)) S (y_fb FA82_2 rfl rfl) ?_
         refine l_y (v := .int .i64 z56.sum) S (y_ld rfl (fun w S => ld_b1 (i := 5) S rfl rfl T3)) ?_
         refine l_y (v := .agg #[.int .i64 z56.key, .int .i64 z56.sum]) S (y_bd (ps := [(0, .int .i64 z56.key), (1, .int .i64 z56.sum)]) rfl (fun _ => by kernel_rfl)) ?_
         refine l_bs (ps := [(0, .agg #[.int .i64 z56.key, .int .i64 z56.sum])]) (cs := #[.int .i64 z56.key, .int .i64 z56.sum]) S U42 SZ57 Z57 rfl rfl rfl (by kernel_rfl) fun g81 w82 S => ?_
         refine l_ap (e' := 0) (i := 0) (i' := 6) S K42 rfl rfl rfl rfl rfl rfl rfl (by simp only [maxLen]; omega) (by dsimp only; omega) fun v83 w84 S => ?_
         obtain ⟨A85, c86, m87e, m87, m87'⟩ : ∃ A c, v83 = .slice A (F.length + 1 + 1) c ∧ (F.length + 1 + 1) ≤ c ∧ c ≤ maxLen := own_len S (i := 0) rfl; subst m87e
         refine l_y (v := .pointer (some ⟨g48, 2, none⟩)) S (y_fb FA44_2 rfl rfl) ?_
         refine l_st (u := .slice A85 (F.length + 1 + 1) c86) (i := 4) (cs' := #[.slice A35 ((cellsL s.lives false).length) c36, .slice A45 ((cellsL s.lives true).length) c46, .slice A85 (F.length + 1 + 1) c86]) S rfl rfl rfl SZ42 rfl rfl rfl fun w88 S => ?_
         refine l_nil ?_
         refine n_seq ?_
         refine e_trim [(2, .pointer (some ⟨g19, 0, none⟩)), (3, .pointer (some ⟨g21, 0, none⟩)), (5, .pointer (some ⟨g48, 0, none⟩)), (27, .slice A14 s.tallies.length c15), (28, .int .i64 (s.tallies.length : Int)), (29, .int .i64 (k : Int)), (30, .bool true), (31, p58), (32, .agg #[.int .i64 z56.key, .int .i64 z56.author, .int .i64 z56.sum]), (7, .pointer (some ⟨g64, 0, none⟩)), (33, .pointer (some ⟨g48, 2, none⟩)), (34, .slice (some ⟨gO, 0, none⟩) (F.length + 1) cO), (35, .int .i64 ((F.length + 1 : Nat) : Int)), (36, .int .i64 (F.length : Int)), (8, .int .i64 (F.length : Int)), (37, .int .i64 (F.length : Int)), (38, .bool false), (39, .bool false), (40, .pointer (some ⟨g48, 2, none⟩)), (41, .slice (some ⟨gO, 0, none⟩) (F.length + 1) cO), (42, .int .i64 (F.length : Int)), (43, .pointer (some ⟨gO, F.length * 2, none⟩)), (44, .pointer (some ⟨gO, F.length * 2 + 0, none⟩)), (45, .int .i64 key), (46, .pointer (some ⟨g64, 0, none⟩)), (47, .int .i64 z56.key), (48, .bool true), (49, .bool true), (50, .pointer (some ⟨g48, 2, none⟩)), (51, .slice (some ⟨gO, 0, none⟩) (F.length + 1) cO), (52, .pointer (some ⟨g64, 0, none⟩)), (53, .int .i64 z56.key), (54, .pointer (some ⟨g64, 2, none⟩)), (55, .int .i64 z56.sum), (56, .agg #[.int .i64 z56.key, .int .i64 z56.sum]), (57, .slice (some ⟨g81, 0, none⟩) 1 1), (58, .slice A85 (F.length + 1 + 1) c86), (59, .pointer (some ⟨g48, 2, none⟩))] ⟨⟨rfl, rfl⟩, ⟨rfl, rfl⟩, ⟨rfl, rfl⟩, ⟨rfl, rfl⟩, ⟨rfl, rfl⟩, ⟨rfl, rfl⟩, ⟨rfl, rfl⟩, ⟨rfl, rfl⟩, ⟨rfl, rfl⟩, ⟨rfl, rfl⟩, ⟨rfl, rfl⟩, ⟨rfl, rfl⟩, ⟨rfl, rfl⟩, ⟨rfl, rfl⟩, ⟨rfl, rfl⟩, ⟨rfl, rfl⟩, ⟨rfl, rfl⟩, ⟨rfl, rfl⟩, ⟨rfl, rfl⟩, ⟨rfl, rfl⟩, ⟨rfl, rfl⟩, ⟨rfl, rfl⟩, ⟨rfl, rfl⟩, ⟨rfl, rfl⟩, ⟨rfl, rfl⟩, ⟨rfl, rfl⟩, ⟨rfl, rfl⟩, ⟨rfl, rfl⟩, ⟨rfl, rfl⟩, ⟨rfl, rfl⟩, ⟨rfl, rfl⟩, ⟨rfl, rfl⟩, ⟨rfl, rfl⟩, ⟨rfl, rfl⟩, ⟨rfl, rfl⟩, ⟨rfl, rfl⟩, ⟨rfl, rfl⟩, ⟨rfl, rfl⟩, trivial⟩ (fun junk => ?_)
         refine e_exit ?_
         refine x_seq ?_
         refine x_hit ?_
         refine n_seq ?_
         refine e_reg ?_
         refine l_y (v := .int .i64 ((k : Int) + 1)) S (y_add (r := (k : Int) + 1) rfl rfl (w64 (by omega) (by omega))) ?_
         refine l_y (v := .int .i64 ((k : Int) + 1)) S (y_mv rfl) ?_
         refine l_nil ?_
         have htz := hts z56 (List.mem_of_getElem? hz57)
         refine n_lp ⟨(k + 1, A85, (F.length + 1 + 1), c86, ((xsF ++ [.int .i64 key, .int .i64 sum]) ++ [.int .i64 z56.key, .int .i64 z56.sum])), _, fr_keep (m := [(2, .pointer (some ⟨g19, 0, none⟩)), (3, .pointer (some ⟨g21, 0, none⟩)), (5, .pointer (some ⟨g48, 0, none⟩)), (27, .slice A14 s.tallies.length c15), (28, .int .i64 (s.tallies.length : Int)), (29, .int .i64 ((k + 1 : Nat) : Int))]) ⟨⟨rfl, rfl⟩, ⟨rfl, rfl⟩, ⟨rfl, rfl⟩, ⟨rfl, rfl⟩, ⟨rfl, rfl⟩, ⟨ival (by first | rfl | omega), rfl⟩, trivial⟩, ⟨_, _, rfl, (S.tk 5 1 rfl rfl), (Rd.le_trans L53 (Rd.le_refl rd51)), (.inr ⟨F ++ [⟨key, sum⟩], xsF ++ [.int .i64 key, .int .i64 sum], z56.key, z56.sum, by rw [cnts_take hz57, hcs, cnt_new hk2], by simp, rfl, RowR.push (cs := [.int .i64 key, .int .i64 sum]) (x := (⟨key, sum⟩ : Pair)) hF rfl rfl, by omega, by omega⟩), (by omega), (by first | omega | (simp; omega))⟩, ?_⟩
         show _ < _; dsimp only; omega
      · -- h55 no
       refine l_y (v := .bool false) S (y_ltF rfl rfl h55) ?_
       refine l_nil ?_
       refine n_seq ?_
       refine e_seq ?_
       refine e_cF rfl ?_
       refine e_exit ?_
       refine x_seq ?_
       refine x_lp ?_
       refine x_hit ?_
       refine n_seq ?_
       refine e_seq ?_
       refine e_reg ?_
       rcases HC with ⟨hcs, rfl, rfl⟩ | ⟨F, xsF, key, sum, hcs, rfl, rfl, hF, hs1, hs2⟩
       · -- none yet
        have hrow : RowR 2 PairR rd51 [] ([] : List Pair) := rfl
        refine l_y (v := .agg #[.slice A35 ((cellsL s.lives false).length) c36, .slice A45 ((cellsL s.lives true).length) c46, .slice AO 0 cO]) S (y_ld rfl (fun w S => ld_bA (vs := [.slice A35 ((cellsL s.lives false).length) c36, .slice A45 ((cellsL s.lives true).length) c46, .slice AO 0 cO]) (i := 4) S rfl T44 rfl rfl)) ?_
        refine l_y (v := .agg #[.int .i64 0, .int .i64 0]) S (y_bd (ps := []) rfl (fun _ => by kernel_rfl)) ?_
        refine l_st (u := .agg #[.slice A35 ((cellsL s.lives false).length) c36, .slice A45 ((cellsL s.lives true).length) c46, .slice AO 0 cO]) (i := 1) (cs' := #[.slice A35 ((cellsL s.lives false).length) c36, .slice A45 ((cellsL s.lives true).length) c46, .slice AO 0 cO]) S rfl rfl rfl SZ44 rfl rfl rfl fun w89 S => ?_
        refine l_st (u := .agg #[.int .i64 0, .int .i64 0]) (i := 2) (cs' := #[.int .i64 0, .int .i64 0]) S rfl rfl rfl SZ33 rfl rfl rfl fun w90 S => ?_
        refine l_nil ?_
        refine n_seq ?_
        refine e_ret ?_
        refine ret2 (v := .agg #[.slice A35 ((cellsL s.lives false).length) c36, .slice A45 ((cellsL s.lives true).length) c46, .slice AO 0 cO]) (v' := .agg #[.int .i64 0, .int .i64 0]) rfl ⟨_, rfl, ld_bA (i := 1) (vs := [.slice A35 ((cellsL s.lives false).length) c36, .slice A45 ((cellsL s.lives true).length) c46, .slice AO 0 cO]) S rfl T44 rfl rfl⟩ ⟨_, rfl, ld_bA (i := 2) (vs := [.int .i64 0, .int .i64 0]) S rfl T33 rfl rfl⟩ ?_
        have ek : s.tallies.take k = s.tallies := List.take_of_length_le (by omega); rw [ek] at hcs
        rw [ReadS_2 hW]; unfold readS; rw [hcs]
        exact ⟨_, rfl, ⟨_, rfl, ⟨_, _, _, rfl, (fm h34 S.out), (fm h44 S.out), (S.rowOut (i := 0) rfl rfl (by first | rfl | (simp; done) | omega) rfl hrow)⟩⟩, S.below⟩
       · -- some
        have hxl := hF.len
        obtain ⟨gO, rfl⟩ := own_atA S (i := 0) rfl rfl (Nat.succ_ne_zero _)
        have hrow : RowR 2 PairR rd51 (xsF ++ [.int .i64 key, .int .i64 sum]) (F ++ [(⟨key, sum⟩ : Pair)]) := RowR.push (cs := [.int .i64 key, .int .i64 sum]) (x := (⟨key, sum⟩ : Pair)) hF rfl rfl
        refine l_y (v := .agg #[.slice A35 ((cellsL s.lives false).length) c36, .slice A45 ((cellsL s.lives true).length) c46, .slice (some ⟨gO, 0, none⟩) (F.length + 1) cO]) S (y_ld rfl (fun w S => ld_bA (vs := [.slice A35 ((cellsL s.lives false).length) c36, .slice A45 ((cellsL s.lives true).length) c46, .slice (some ⟨gO, 0, none⟩) (F.length + 1) cO]) (i := 4) S rfl T44 rfl rfl)) ?_
        refine l_y (v := .agg #[.int .i64 0, .int .i64 0]) S (y_bd (ps := []) rfl (fun _ => by kernel_rfl)) ?_
        refine l_st (u := .agg #[.slice A35 ((cellsL s.lives false).length) c36, .slice A45 ((cellsL s.lives true).length) c46, .slice (some ⟨gO, 0, none⟩) (F.length + 1) cO]) (i := 1) (cs' := #[.slice A35 ((cellsL s.lives false).length) c36, .slice A45 ((cellsL s.lives true).length) c46, .slice (some ⟨gO, 0, none⟩) (F.length + 1) cO]) S rfl rfl rfl SZ44 rfl rfl rfl fun w91 S => ?_
        refine l_st (u := .agg #[.int .i64 0, .int .i64 0]) (i := 2) (cs' := #[.int .i64 0, .int .i64 0]) S rfl rfl rfl SZ33 rfl rfl rfl fun w92 S => ?_
        refine l_nil ?_
        refine n_seq ?_
        refine e_ret ?_
        refine ret2 (v := .agg #[.slice A35 ((cellsL s.lives false).length) c36, .slice A45 ((cellsL s.lives true).length) c46, .slice (some ⟨gO, 0, none⟩) (F.length + 1) cO]) (v' := .agg #[.int .i64 0, .int .i64 0]) rfl ⟨_, rfl, ld_bA (i := 1) (vs := [.slice A35 ((cellsL s.lives false).length) c36, .slice A45 ((cellsL s.lives true).length) c46, .slice (some ⟨gO, 0, none⟩) (F.length + 1) cO]) S rfl T44 rfl rfl⟩ ⟨_, rfl, ld_bA (i := 2) (vs := [.int .i64 0, .int .i64 0]) S rfl T33 rfl rfl⟩ ?_
        have ek : s.tallies.take k = s.tallies := List.take_of_length_le (by omega); rw [ek] at hcs
        rw [ReadS_2 hW]; unfold readS; rw [hcs]
        exact ⟨_, rfl, ⟨_, rfl, ⟨_, _, _, rfl, (fm h34 S.out), (fm h44 S.out), (S.rowOut (i := 0) rfl rfl (by simp) rfl hrow)⟩⟩, S.below⟩
     exact aa_nil
    exact aa_nil
   refine aa_cons rfl ?_ ?_
   · -- operation 7
    refine l_al (cs := #[.slice none 0 0, .slice none 0 0, .slice none 0 0]) S Z44 rfl fun g93 w94 S => ?_
    refine l_nil ?_
    have SC : St [] W rd rd [(g17, 27, #[.slice A8 s.clock.length c9, .slice A11 s.lives.length c12, .slice A14 s.tallies.length c15]), (g19, 44, #[.slice none 0 0, .slice none 0 0, .slice none 0 0]), (g21, 33, #[.int .i64 0, .int .i64 0]), (g24, 33, #[.int .i64 ((wrongS s (s.clock.length : Int)).1), .int .i64 ((wrongS s (s.clock.length : Int)).2)])] [] _ := ((S.tk 4 0 rfl rfl).weak sup27 L30).rw' rfl rfl
    refine n_lp (ak SC ?_)
    refine a_all (rs := [5]) (by kernel_rfl) rfl ?_
    refine aa_cons rfl ?_ ?_
    · -- operation 5
     refine l_c (en_f (vs := [.slice A11 s.lives.length c12, .bool true]) (CF 52 _) rfl rfl) (Cells_c _ _ S.le _ s.lives true h5 (wrongS_iff.1 hW).lives_len) ?_
     rintro e w95 ⟨v100, rfl, h101, k⟩
     obtain ⟨rd96, S, L97, N98, X99⟩ := S.call' k; clear k
     replace h3 := fm h3 L97
     replace h5 := fm h5 L97
     replace h7 := fm h7 L97
     replace h34 := fm h34 L97
     replace h101 := fm h101 X99
     obtain ⟨A102, c103, rfl, m104, m104'⟩ := h101.val
     refine ckd ?_
     refine l_nil ?_
     have SC : St [] W rd rd [(g17, 27, #[.slice A8 s.clock.length c9, .slice A11 s.lives.length c12, .slice A14 s.tallies.length c15]), (g19, 44, #[.slice none 0 0, .slice none 0 0, .slice none 0 0]), (g21, 33, #[.int .i64 0, .int .i64 0]), (g24, 33, #[.int .i64 ((wrongS s (s.clock.length : Int)).1), .int .i64 ((wrongS s (s.clock.length : Int)).2)])] [] _ := ((S.tk 4 0 rfl rfl).weak sup27 (Rd.le_trans L30 L97)).rw' rfl rfl
     refine n_lp (ak SC ?_)
     refine a_take (v := .agg #[.slice A35 ((cellsL s.lives false).length) c36, .slice A102 ((cellsL s.lives true).length) c103, .slice none 0 0]) 6 rfl rfl (by kernel_rfl) (by kernel_rfl) (by kernel_rfl) SC rfl (y_bd (ps := [(0, .slice A35 ((cellsL s.lives false).length) c36), (1, .slice A102 ((cellsL s.lives true).length) c103)]) rfl (fun _ => by kernel_rfl)) ?_
     refine a_all (rs := [8]) (by kernel_rfl) rfl ?_
     refine aa_cons rfl ?_ ?_
     · -- operation 8
      refine l_st (u := .agg #[.slice A35 ((cellsL s.lives false).length) c36, .slice A102 ((cellsL s.lives true).length) c103, .slice none 0 0]) (i := 4) (cs' := #[.slice A35 ((cellsL s.lives false).length) c36, .slice A102 ((cellsL s.lives true).length) c103, .slice none 0 0]) S rfl rfl rfl SZ44 rfl rfl rfl fun w105 S => ?_
      refine l_nil ?_
      have SC : St [] W rd rd [(g17, 27, #[.slice A8 s.clock.length c9, .slice A11 s.lives.length c12, .slice A14 s.tallies.length c15]), (g19, 44, #[.slice none 0 0, .slice none 0 0, .slice none 0 0]), (g21, 33, #[.int .i64 0, .int .i64 0]), (g24, 33, #[.int .i64 ((wrongS s (s.clock.length : Int)).1), .int .i64 ((wrongS s (s.clock.length : Int)).2)])] [] _ := ((S.tk 4 0 rfl rfl).weak sup27 (Rd.le_trans L30 L97)).rw' rfl rfl
      refine n_lp (ak SC ?_)
      refine a_done (by kernel_rfl) ?_
      clear SC
      refine n_seq ?_
      refine e_seq ?_
      refine e_seq ?_
      refine e_reg ?_
      refine l_y (v := .pointer (some ⟨g17, 2, none⟩)) S (y_fb FA27_2 rfl rfl) ?_
      refine l_y (v := .slice A14 s.tallies.length c15) S (y_ld rfl (fun w S => ld_b1 (i := 0) S rfl rfl T25)) ?_
      refine l_y (v := .int .i64 (s.tallies.length : Int)) S (y_len U25 rfl rfl) ?_
      refine l_y (v := .int .i64 0) S (y_mv rfl) ?_
      refine l_nil ?_
      refine n_seq ?_
      refine e_trim [(2, .pointer (some ⟨g19, 0, none⟩)), (3, .pointer (some ⟨g21, 0, none⟩)), (5, .pointer (some ⟨g93, 0, none⟩)), (27, .slice A14 s.tallies.length c15), (28, .int .i64 (s.tallies.length : Int)), (29, .int .i64 0)] ⟨⟨rfl, rfl⟩, ⟨rfl, rfl⟩, ⟨rfl, rfl⟩, ⟨rfl, rfl⟩, ⟨rfl, rfl⟩, ⟨rfl, rfl⟩, trivial⟩ (fun junk => ?_)
      refine e_blk ?_
      have S := S.ownNil 57 2
      have hts := fun (z : Tally) (hz : z ∈ s.tallies) => tally_bd hW hz; have htl := (wrongS_iff.1 hW).tallies_len
      refine e_trim [(2, .pointer (some ⟨g19, 0, none⟩)), (3, .pointer (some ⟨g21, 0, none⟩)), (5, .pointer (some ⟨g93, 0, none⟩)), (27, .slice A14 s.tallies.length c15), (28, .int .i64 (s.tallies.length : Int)), (29, .int .i64 (0 : Int))] ⟨⟨rfl, rfl⟩, ⟨rfl, rfl⟩, ⟨rfl, rfl⟩, ⟨rfl, rfl⟩, ⟨rfl, rfl⟩, ⟨ival (by first | rfl | omega), rfl⟩, trivial⟩ (fun junk => ?_)
      refine e_loop (fun (gh_ : Nat × (Option Addr) × Nat × Nat × (List Value)) ov w => match gh_ with | (k, AO, nO, cO, xsO) => ∃ rd' junk, ov = [(2, .pointer (some ⟨g19, 0, none⟩)), (3, .pointer (some ⟨g21, 0, none⟩)), (5, .pointer (some ⟨g93, 0, none⟩)), (27, .slice A14 s.tallies.length c15), (28, .int .i64 (s.tallies.length : Int)), (29, .int .i64 (k : Int))] ++ junk ∧ St [] W rd rd' [(g17, 27, #[.slice A8 s.clock.length c9, .slice A11 s.lives.length c12, .slice A14 s.tallies.length c15]), (g19, 44, #[.slice none 0 0, .slice none 0 0, .slice none 0 0]), (g21, 33, #[.int .i64 0, .int .i64 0]), (g24, 33, #[.int .i64 ((wrongS s (s.clock.length : Int)).1), .int .i64 ((wrongS s (s.clock.length : Int)).2)]), (g93, 44, #[.slice A35 ((cellsL s.lives false).length) c36, .slice A102 ((cellsL s.lives true).length) c103, .slice AO nO cO])] [⟨57, 2, .slice AO nO cO, nO, xsO⟩] w ∧ Rd.le rd96 rd' ∧ CntsI rd' (cntsL (s.tallies.take k)) nO xsO k ∧ k ≤ s.tallies.length ∧ nO ≤ k) (fun gh_ => match gh_ with | (k, AO, nO, cO, xsO) => s.tallies.length - k) (0, none, 0, 0, []) ⟨_, junk, rfl, (S.rw' rfl rfl), (Rd.le_refl _), (.inl ⟨rfl, rfl, rfl⟩), (by omega), (by omega)⟩ ?_
      rintro ⟨k, AO, nO, cO, xsO⟩ ov109 w107 ⟨rd106, junk, rfl, S, L108, HC, hk, hno⟩
      replace h3 := fm h3 L108
      replace h5 := fm h5 L108
      replace h7 := fm h7 L108
      replace h34 := fm h34 L108
      replace h101 := fm h101 L108
      refine e_seq ?_
      refine e_reg ?_
      by_cases h110 : (k : Int) < (s.tallies.length : Int)
      · -- h110 yes
       refine l_y (v := .bool true) S (y_ltT rfl rfl h110) ?_
       refine l_nil ?_
       refine n_seq ?_
       refine e_seq ?_
       refine e_cT rfl ?_
       refine e_skip ?_
       refine n_seq ?_
       refine e_seq ?_
       refine e_blk ?_
       refine e_seq ?_
       refine e_reg ?_
       obtain ⟨z111, hz112⟩ : ∃ z, (s.tallies)[k]? = some z := nth_of (by first | assumption | omega)
       obtain ⟨p113, vs114, E115, nn116, r117, Y118⟩ := y_ia U25 SZ82 h7 hz112
       clear nn116
       have r117e : vs114 = [.int .i64 z111.key, .int .i64 z111.author, .int .i64 z111.sum] := r117; subst r117e; clear r117
       refine l_y (v := p113) S (Y118 rfl rfl (by first | rfl | omega)) ?_
       refine l_y (v := .agg #[.int .i64 z111.key, .int .i64 z111.author, .int .i64 z111.sum]) S (y_ld rfl (fun w S => ld_pA (us := [.int .i64 z111.key, .int .i64 z111.author, .int .i64 z111.sum]) S.le E115 T82 rfl rfl)) ?_
       refine l_al (cs := #[.int .i64 0, .int .i64 0, .int .i64 0]) S Z82 rfl fun g119 w120 S => ?_
       refine l_st (u := .agg #[.int .i64 z111.key, .int .i64 z111.author, .int .i64 z111.sum]) (i := 5) (cs' := #[.int .i64 z111.key, .int .i64 z111.author, .int .i64 z111.sum]) S rfl rfl rfl SZ82 rfl rfl rfl fun w121 S => ?_
       refine l_nil ?_
       refine n_seq ?_
       refine e_seq ?_
       refine e_reg ?_
       rcases HC with ⟨hcs, rfl, rfl⟩ | ⟨F, xsF, key, sum, hcs, rfl, rfl, hF, hs1, hs2⟩
       · -- none yet
        refine l_y (v := .pointer (some ⟨g93, 2, none⟩)) S (y_fb FA44_2 rfl rfl) ?_
        refine l_y (v := .slice AO 0 cO) S (y_ld rfl (fun w S => ld_b1 (i := 4) S rfl rfl T42)) ?_
        refine l_y (v := .int .i64 0) S (y_len U42 rfl rfl) ?_
        refine l_y (v := .int .i64 (-1)) S (y_sub (r := (-1)) rfl rfl (rfl)) ?_
        refine l_y (v := .int .i64 (-1)) S (y_as rfl) ?_
        refine l_nil ?_
        refine n_seq ?_
        refine e_seq ?_
        refine e_seq ?_
        refine e_q MX (by kernel_rfl) S.drew ?_
        -- draws
        refine q_y (v := .int .i64 (-1)) (y_mv rfl) ?_
        refine q_y (v := .bool true) (y_ltT rfl rfl (by decide)) ?_
        refine q_y (v := .bool true) (y_mv rfl) ?_
        refine q_s (d' := 39) rfl rfl ?_
        refine q_s (d' := 39) rfl rfl ?_
        refine q_s (d' := 39) rfl rfl ?_
        refine q_s (d' := 39) rfl rfl ?_
        refine q_s (d' := 39) rfl rfl ?_
        refine q_s (d' := 39) rfl rfl ?_
        refine q_s (d' := 39) rfl rfl ?_
        refine q_s (d' := 39) rfl rfl ?_
        refine q_s (d' := 39) rfl rfl ?_
        refine q_y (v := .bool true) (y_pT rfl rfl) ?_
        refine q_nil fun w122 S => ?_
        refine n_seq ?_
        refine e_cT rfl ?_
        refine e_seq ?_
        refine e_reg ?_
        refine l_y (v := .pointer (some ⟨g93, 2, none⟩)) S (y_fb FA44_2 rfl rfl) ?_
        refine l_y (v := .slice AO 0 cO) S (y_ld rfl (fun w S => ld_b1 (i := 4) S rfl rfl T42)) ?_
        refine l_y (v := .pointer (some ⟨g119, 0, none⟩)) S (y_fb FA82_0 rfl rfl) ?_
        refine l_y (v := .int .i64 z111.key) S (y_ld rfl (fun w S => ld_b1 (i := 5) S rfl rfl T3)) ?_
        refine l_y (v := .pointer (some ⟨g119, 2, none⟩)) S (y_fb FA82_2 rfl rfl) ?_
        refine l_y (v := .int .i64 z111.sum) S (y_ld rfl (fun w S => ld_b1 (i := 5) S rfl rfl T3)) ?_
        refine l_y (v := .agg #[.int .i64 z111.key, .int .i64 z111.sum]) S (y_bd (ps := [(0, .int .i64 z111.key), (1, .int .i64 z111.sum)]) rfl (fun _ => by kernel_rfl)) ?_
        refine l_bs (ps := [(0, .agg #[.int .i64 z111.key, .int .i64 z111.sum])]) (cs := #[.int .i64 z111.key, .int .i64 z111.sum]) S U42 SZ57 Z57 rfl rfl rfl (by kernel_rfl) fun g123 w124 S => ?_
        refine l_ap (e' := 0) (i := 0) (i' := 6) S K42 rfl rfl rfl rfl rfl rfl rfl (by simp only [maxLen]; omega) (by dsimp only; omega) fun v125 w126 S => ?_
        obtain ⟨A127, c128, m129e, m129, m129'⟩ : ∃ A c, v125 = .slice A (0 + 1) c ∧ (0 + 1) ≤ c ∧ c ≤ maxLen := own_len S (i := 0) rfl; subst m129e
        refine l_y (v := .pointer (some ⟨g93, 2, none⟩)) S (y_fb FA44_2 rfl rfl) ?_
        refine l_st (u := .slice A127 (0 + 1) c128) (i := 4) (cs' := #[.slice A35 ((cellsL s.lives false).length) c36, .slice A102 ((cellsL s.lives true).length) c103, .slice A127 (0 + 1) c128]) S rfl rfl rfl SZ42 rfl rfl rfl fun w130 S => ?_
        refine l_nil ?_
        refine n_seq ?_
        refine e_trim [(2, .pointer (some ⟨g19, 0, none⟩)), (3, .pointer (some ⟨g21, 0, none⟩)), (5, .pointer (some ⟨g93, 0, none⟩)), (27, .slice A14 s.tallies.length c15), (28, .int .i64 (s.tallies.length : Int)), (29, .int .i64 (k : Int)), (30, .bool true), (31, p113), (32, .agg #[.int .i64 z111.key, .int .i64 z111.author, .int .i64 z111.sum]), (7, .pointer (some ⟨g119, 0, none⟩)), (33, .pointer (some ⟨g93, 2, none⟩)), (34, .slice AO 0 cO), (35, .int .i64 0), (36, .int .i64 (-1)), (8, .int .i64 (-1)), (37, .int .i64 (-1)), (38, .bool true), (39, .bool true), (40, undef), (41, undef), (42, undef), (43, undef), (44, undef), (45, undef), (46, undef), (47, undef), (48, undef), (49, .bool true), (50, .pointer (some ⟨g93, 2, none⟩)), (51, .slice AO 0 cO), (52, .pointer (some ⟨g119, 0, none⟩)), (53, .int .i64 z111.key), (54, .pointer (some ⟨g119, 2, none⟩)), (55, .int .i64 z111.sum), (56, .agg #[.int .i64 z111.key, .int .i64 z111.sum]), (57, .slice (some ⟨g123, 0, none⟩) 1 1), (58, .slice A127 (0 + 1) c128), (59, .pointer (some ⟨g93, 2, none⟩))] ⟨⟨rfl, rfl⟩, ⟨rfl, rfl⟩, ⟨rfl, rfl⟩, ⟨rfl, rfl⟩, ⟨rfl, rfl⟩, ⟨rfl, rfl⟩, ⟨rfl, rfl⟩, ⟨rfl, rfl⟩, ⟨rfl, rfl⟩, ⟨rfl, rfl⟩, ⟨rfl, rfl⟩, ⟨rfl, rfl⟩, ⟨rfl, rfl⟩, ⟨rfl, rfl⟩, ⟨rfl, rfl⟩, ⟨rfl, rfl⟩, ⟨rfl, rfl⟩, ⟨rfl, rfl⟩, ⟨rfl, rfl⟩, ⟨rfl, rfl⟩, ⟨rfl, rfl⟩, ⟨rfl, rfl⟩, ⟨rfl, rfl⟩, ⟨rfl, rfl⟩, ⟨rfl, rfl⟩, ⟨rfl, rfl⟩, ⟨rfl, rfl⟩, ⟨rfl, rfl⟩, ⟨rfl, rfl⟩, ⟨rfl, rfl⟩, ⟨rfl, rfl⟩, ⟨rfl, rfl⟩, ⟨rfl, rfl⟩, ⟨rfl, rfl⟩, ⟨rfl, rfl⟩, ⟨rfl, rfl⟩, ⟨rfl, rfl⟩, ⟨rfl, rfl⟩, trivial⟩ (fun junk => ?_)
        refine e_exit ?_
        refine x_seq ?_
        refine x_hit ?_
        refine n_seq ?_
        refine e_reg ?_
        refine l_y (v := .int .i64 ((k : Int) + 1)) S (y_add (r := (k : Int) + 1) rfl rfl (w64 (by omega) (by omega))) ?_
        refine l_y (v := .int .i64 ((k : Int) + 1)) S (y_mv rfl) ?_
        refine l_nil ?_
        have htz := hts z111 (List.mem_of_getElem? hz112)
        refine n_lp ⟨(k + 1, A127, (0 + 1), c128, [] ++ [.int .i64 z111.key, .int .i64 z111.sum]), _, fr_keep (m := [(2, .pointer (some ⟨g19, 0, none⟩)), (3, .pointer (some ⟨g21, 0, none⟩)), (5, .pointer (some ⟨g93, 0, none⟩)), (27, .slice A14 s.tallies.length c15), (28, .int .i64 (s.tallies.length : Int)), (29, .int .i64 ((k + 1 : Nat) : Int))]) ⟨⟨rfl, rfl⟩, ⟨rfl, rfl⟩, ⟨rfl, rfl⟩, ⟨rfl, rfl⟩, ⟨rfl, rfl⟩, ⟨ival (by first | rfl | omega), rfl⟩, trivial⟩, ⟨_, _, rfl, (S.tk 5 1 rfl rfl), (Rd.le_trans L108 (Rd.le_refl rd106)), (.inr ⟨[], [], z111.key, z111.sum, by rw [cnts_take hz112, hcs, cnt_first]; rfl, rfl, rfl, rfl, by omega, by omega⟩), (by omega), (by first | omega | (simp; omega))⟩, ?_⟩
        show _ < _; dsimp only; omega
       · -- some
        have hxl := hF.len
        obtain ⟨gO, rfl⟩ := own_atA S (i := 0) rfl rfl (Nat.succ_ne_zero _)
        refine l_y (v := .pointer (some ⟨g93, 2, none⟩)) S (y_fb FA44_2 rfl rfl) ?_
        refine l_y (v := .slice (some ⟨gO, 0, none⟩) (F.length + 1) cO) S (y_ld rfl (fun w S => ld_b1 (i := 4) S rfl rfl T42)) ?_
        refine l_y (v := .int .i64 ((F.length + 1 : Nat) : Int)) S (y_len U42 rfl rfl) ?_
        refine l_y (v := .int .i64 (F.length : Int)) S (y_sub (r := (F.length : Int)) rfl rfl ((w64 (by omega) (by omega)).trans (by omega))) ?_
        refine l_y (v := .int .i64 (F.length : Int)) S (y_as rfl) ?_
        refine l_nil ?_
        refine n_seq ?_
        refine e_seq ?_
        refine e_seq ?_
        refine e_q MX (by kernel_rfl) S.drew ?_
        -- draws
        refine q_y (v := .int .i64 (F.length : Int)) (y_mv rfl) ?_
        have h131 : ¬ ((F.length : Int) < 0) := by omega
        refine q_y (v := .bool false) (y_ltF rfl rfl h131) ?_
        refine q_y (v := .bool false) (y_mv rfl) ?_
        refine q_g (d' := 39) (v := .pointer (some ⟨g93, 2, none⟩)) (y_fb FA44_2 rfl rfl) rfl rfl ?_
        refine q_g (d' := 39) (v := .slice (some ⟨gO, 0, none⟩) (F.length + 1) cO) (y_ld rfl (fun w S => ld_b1 (i := 4) S rfl rfl T42)) rfl rfl ?_
        refine q_g (d' := 39) (v := .int .i64 (F.length : Int)) (y_mv rfl) rfl rfl ?_
        refine q_g (d' := 39) (v := .pointer (some ⟨gO, F.length * 2, none⟩)) (y_ibs (k := F.length) U42 SZ57 (Nat.lt_succ_self _) (Nat.zero_add _) rfl rfl (by first | rfl | omega)) rfl rfl ?_
        refine q_g (d' := 39) (v := .pointer (some ⟨gO, F.length * 2 + 0, none⟩)) (y_iar (k := 0) U57 SZ3 (by decide) rfl rfl rfl rfl) rfl rfl ?_
        refine q_g (d' := 39) (v := .int .i64 key) (y_ld rfl (fun w S => ld_o1 (i := 0) S rfl rfl T3 (row_last0 hxl))) rfl rfl ?_
        refine q_g (d' := 39) (v := .pointer (some ⟨g119, 0, none⟩)) (y_fb FA82_0 rfl rfl) rfl rfl ?_
        refine q_g (d' := 39) (v := .int .i64 z111.key) (y_ld rfl (fun w S => ld_b1 (i := 5) S rfl rfl T3)) rfl rfl ?_
        by_cases hk2 : key = z111.key
        · -- hk2 yes
         refine q_g (d' := 39) (v := .bool false) (y_neF rfl rfl hk2) rfl rfl ?_
         refine q_y (v := .bool false) (y_pF rfl rfl) ?_
         refine q_nil fun w132 S => ?_
         refine n_seq ?_
         refine e_cF rfl ?_
         refine e_skip ?_
         refine n_seq ?_
         refine e_a (fun w => St [] W rd rd106 [(g17, 27, #[.slice A8 s.clock.length c9, .slice A11 s.lives.length c12, .slice A14 s.tallies.length c15]), (g19, 44, #[.slice none 0 0, .slice none 0 0, .slice none 0 0]), (g21, 33, #[.int .i64 0, .int .i64 0]), (g24, 33, #[.int .i64 ((wrongS s (s.clock.length : Int)).1), .int .i64 ((wrongS s (s.clock.length : Int)).2)]), (g93, 44, #[.slice A35 ((cellsL s.lives false).length) c36, .slice A102 ((cellsL s.lives true).length) c103, .slice (some ⟨gO, 0, none⟩) (F.length + 1) cO]), (g119, 82, #[.int .i64 z111.key, .int .i64 z111.author, .int .i64 z111.sum])] [] w) MX rfl ?_
         have S := S.drew; have sup133 := S.sup
         have SC : St [] W rd rd106 [(g17, 27, #[.slice A8 s.clock.length c9, .slice A11 s.lives.length c12, .slice A14 s.tallies.length c15]), (g19, 44, #[.slice none 0 0, .slice none 0 0, .slice none 0 0]), (g21, 33, #[.int .i64 0, .int .i64 0]), (g24, 33, #[.int .i64 ((wrongS s (s.clock.length : Int)).1), .int .i64 ((wrongS s (s.clock.length : Int)).2)]), (g93, 44, #[.slice A35 ((cellsL s.lives false).length) c36, .slice A102 ((cellsL s.lives true).length) c103, .slice (some ⟨gO, 0, none⟩) (F.length + 1) cO]), (g119, 82, #[.int .i64 z111.key, .int .i64 z111.author, .int .i64 z111.sum])] [] _ := (S.tk 6 0 rfl rfl).rw' rfl rfl
         refine a_take (v := .pointer (some ⟨g93, 2, none⟩)) 0 rfl rfl (by kernel_rfl) (by kernel_rfl) (by kernel_rfl) SC rfl (y_fb FA44_2 rfl rfl) ?_
         refine a_take (v := .slice (some ⟨gO, 0, none⟩) (F.length + 1) cO) 1 rfl rfl (by kernel_rfl) (by kernel_rfl) (by kernel_rfl) SC rfl (y_ld rfl (fun w S => ld_b1 (i := 4) S rfl rfl T42)) ?_
         refine a_take (v := .int .i64 (F.length : Int)) 2 rfl rfl (by kernel_rfl) (by kernel_rfl) (by kernel_rfl) SC rfl (y_mv rfl) ?_
         refine a_take (v := .pointer (some ⟨gO, F.length * 2, none⟩)) 3 rfl rfl (by kernel_rfl) (by kernel_rfl) (by kernel_rfl) SC rfl (y_ibs (k := F.length) U42 SZ57 (Nat.lt_succ_self _) (Nat.zero_add _) rfl rfl (by first | rfl | omega)) ?_
         refine a_take (v := .pointer (some ⟨gO, F.length * 2 + 1, none⟩)) 4 rfl rfl (by kernel_rfl) (by kernel_rfl) (by kernel_rfl) SC rfl (y_iar (k := 1) U57 SZ3 (by decide) rfl rfl rfl rfl) ?_
         refine a_take (v := .pointer (some ⟨g119, 2, none⟩)) 6 rfl rfl (by kernel_rfl) (by kernel_rfl) (by kernel_rfl) SC rfl (y_fb FA82_2 rfl rfl) ?_
         refine a_take (v := .int .i64 z111.sum) 7 rfl rfl (by kernel_rfl) (by kernel_rfl) (by kernel_rfl) SC rfl (y_ld rfl (fun w S => ld_b1 (i := 5) S rfl rfl T3)) ?_
         refine a_take (v := .pointer (some ⟨gO, F.length * 2, none⟩)) 9 rfl rfl (by kernel_rfl) (by kernel_rfl) (by kernel_rfl) SC rfl (y_ibs (k := F.length) U42 SZ57 (Nat.lt_succ_self _) (Nat.zero_add _) rfl rfl (by first | rfl | omega)) ?_
         refine a_all (rs := [5]) (by kernel_rfl) rfl ?_
         refine aa_cons rfl ?_ ?_
         · -- operation 5
          refine l_y (v := .int .i64 sum) S (y_ld rfl (fun w S => ld_o1 (i := 0) S rfl rfl T3 (row_last1 hxl))) ?_
          refine l_nil ?_
          have SC : St [] W rd rd106 [(g17, 27, #[.slice A8 s.clock.length c9, .slice A11 s.lives.length c12, .slice A14 s.tallies.length c15]), (g19, 44, #[.slice none 0 0, .slice none 0 0, .slice none 0 0]), (g21, 33, #[.int .i64 0, .int .i64 0]), (g24, 33, #[.int .i64 ((wrongS s (s.clock.length : Int)).1), .int .i64 ((wrongS s (s.clock.length : Int)).2)]), (g93, 44, #[.slice A35 ((cellsL s.lives false).length) c36, .slice A102 ((cellsL s.lives true).length) c103, .slice (some ⟨gO, 0, none⟩) (F.length + 1) cO]), (g119, 82, #[.int .i64 z111.key, .int .i64 z111.author, .int .i64 z111.sum])] [] _ := (S.tk 6 0 rfl rfl).rw' rfl rfl
          refine n_lp (ak SC ?_)
          refine a_take (v := .int .i64 (sum + z111.sum)) 8 rfl rfl (by kernel_rfl) (by kernel_rfl) (by kernel_rfl) SC rfl (y_add (r := sum + z111.sum) rfl rfl (w64 (by have := hts _ (List.mem_of_getElem? hz112); omega) (by have := hts _ (List.mem_of_getElem? hz112); omega))) ?_
          refine a_take (v := .pointer (some ⟨gO, F.length * 2 + 1, none⟩)) 10 rfl rfl (by kernel_rfl) (by kernel_rfl) (by kernel_rfl) SC rfl (y_iar (k := 1) U57 SZ3 (by decide) rfl rfl rfl rfl) ?_
          refine a_all (rs := [11]) (by kernel_rfl) rfl ?_
          refine aa_cons rfl ?_ ?_
          · -- operation 11
           refine l_so (u := .int .i64 (sum + z111.sum)) (i := 0) (xs' := (xsF ++ [.int .i64 key, .int .i64 (sum + z111.sum)])) S rfl rfl rfl rfl SZ3 (show _ + 1 ≤ List.length _ by simp; omega) rfl (row_set1 hxl) fun w134 S => ?_
           refine l_nil ?_
           have SC : St [] W rd rd106 [(g17, 27, #[.slice A8 s.clock.length c9, .slice A11 s.lives.length c12, .slice A14 s.tallies.length c15]), (g19, 44, #[.slice none 0 0, .slice none 0 0, .slice none 0 0]), (g21, 33, #[.int .i64 0, .int .i64 0]), (g24, 33, #[.int .i64 ((wrongS s (s.clock.length : Int)).1), .int .i64 ((wrongS s (s.clock.length : Int)).2)]), (g93, 44, #[.slice A35 ((cellsL s.lives false).length) c36, .slice A102 ((cellsL s.lives true).length) c103, .slice (some ⟨gO, 0, none⟩) (F.length + 1) cO]), (g119, 82, #[.int .i64 z111.key, .int .i64 z111.author, .int .i64 z111.sum])] [] _ := (S.tk 6 0 rfl rfl).rw' rfl rfl
           refine n_lp (ak SC ?_)
           refine a_done (by kernel_rfl) ?_
           clear SC
           refine n_blk ?_
           refine n_seq ?_
           refine e_trim [(2, .pointer (some ⟨g19, 0, none⟩)), (3, .pointer (some ⟨g21, 0, none⟩)), (5, .pointer (some ⟨g93, 0, none⟩)), (27, .slice A14 s.tallies.length c15), (28, .int .i64 (s.tallies.length : Int)), (29, .int .i64 (k : Int)), (30, .bool true), (31, p113), (32, .agg #[.int .i64 z111.key, .int .i64 z111.author, .int .i64 z111.sum]), (7, .pointer (some ⟨g119, 0, none⟩)), (33, .pointer (some ⟨g93, 2, none⟩)), (34, .slice (some ⟨gO, 0, none⟩) (F.length + 1) cO), (35, .int .i64 ((F.length + 1 : Nat) : Int)), (36, .int .i64 (F.length : Int)), (8, .int .i64 (F.length : Int)), (37, .int .i64 (F.length : Int)), (38, .bool false), (39, .bool false), (40, .pointer (some ⟨g93, 2, none⟩)), (41, .slice (some ⟨gO, 0, none⟩) (F.length + 1) cO), (42, .int .i64 (F.length : Int)), (43, .pointer (some ⟨gO, F.length * 2, none⟩)), (44, .pointer (some ⟨gO, F.length * 2 + 0, none⟩)), (45, .int .i64 key), (46, .pointer (some ⟨g119, 0, none⟩)), (47, .int .i64 z111.key), (48, .bool false), (49, .bool false), (60, .pointer (some ⟨g93, 2, none⟩)), (61, .slice (some ⟨gO, 0, none⟩) (F.length + 1) cO), (62, .int .i64 (F.length : Int)), (63, .pointer (some ⟨gO, F.length * 2, none⟩)), (64, .pointer (some ⟨gO, F.length * 2 + 1, none⟩)), (66, .pointer (some ⟨g119, 2, none⟩)), (67, .int .i64 z111.sum), (69, .pointer (some ⟨gO, F.length * 2, none⟩)), (65, .int .i64 sum), (68, .int .i64 (sum + z111.sum)), (70, .pointer (some ⟨gO, F.length * 2 + 1, none⟩))] ⟨⟨rfl, rfl⟩, ⟨rfl, rfl⟩, ⟨rfl, rfl⟩, ⟨rfl, rfl⟩, ⟨rfl, rfl⟩, ⟨rfl, rfl⟩, ⟨rfl, rfl⟩, ⟨rfl, rfl⟩, ⟨rfl, rfl⟩, ⟨rfl, rfl⟩, ⟨rfl, rfl⟩, ⟨rfl, rfl⟩, ⟨rfl, rfl⟩, ⟨rfl, rfl⟩, ⟨rfl, rfl⟩, ⟨rfl, rfl⟩, ⟨rfl, rfl⟩, ⟨rfl, rfl⟩, ⟨rfl, rfl⟩, ⟨rfl, rfl⟩, ⟨rfl, rfl⟩, ⟨rfl, rfl⟩, ⟨rfl, rfl⟩, ⟨rfl, rfl⟩, ⟨rfl, rfl⟩, ⟨rfl, rfl⟩, ⟨rfl, rfl⟩, ⟨rfl, rfl⟩, ⟨rfl, rfl⟩, ⟨rfl, rfl⟩, ⟨rfl, rfl⟩, ⟨rfl, rfl⟩, ⟨rfl, rfl⟩, ⟨rfl, rfl⟩, ⟨rfl, rfl⟩, ⟨rfl, rfl⟩, ⟨rfl, rfl⟩, ⟨rfl, rfl⟩, ⟨rfl, rfl⟩, trivial⟩ (fun junk => ?_)
           refine e_reg ?_
           refine l_y (v := .int .i64 ((k : Int) + 1)) S (y_add (r := (k : Int) + 1) rfl rfl (w64 (by omega) (by omega))) ?_
           refine l_y (v := .int .i64 ((k : Int) + 1)) S (y_mv rfl) ?_
           refine l_nil ?_
           have htz := hts z111 (List.mem_of_getElem? hz112)
           refine n_lp ⟨(k + 1, (some ⟨gO, 0, none⟩), (F.length + 1), cO, (xsF ++ [.int .i64 key, .int .i64 (sum + z111.sum)])), _, fr_keep (m := [(2, .pointer (some ⟨g19, 0, none⟩)), (3, .pointer (some ⟨g21, 0, none⟩)), (5, .pointer (some ⟨g93, 0, none⟩)), (27, .slice A14 s.tallies.length c15), (28, .int .i64 (s.tallies.length : Int)), (29, .int .i64 ((k + 1 : Nat) : Int))]) ⟨⟨rfl, rfl⟩, ⟨rfl, rfl⟩, ⟨rfl, rfl⟩, ⟨rfl, rfl⟩, ⟨rfl, rfl⟩, ⟨ival (by first | rfl | omega), rfl⟩, trivial⟩, ⟨_, _, rfl, (S.tk 5 1 rfl rfl), (Rd.le_trans L108 (Rd.le_refl rd106)), (.inr ⟨F, xsF, key, sum + z111.sum, by rw [cnts_take hz112, hcs, cnt_add hk2], rfl, rfl, hF, by omega, by omega⟩), (by omega), (by first | omega | (simp; omega))⟩, ?_⟩
           show _ < _; dsimp only; omega
          exact aa_nil
         exact aa_nil
        · -- hk2 no
         refine q_g (d' := 39) (v := .bool true) (y_neT rfl rfl hk2) rfl rfl ?_
         refine q_y (v := .bool true) (y_pF rfl rfl) ?_
         refine q_nil fun w135 S => ?_
         refine n_seq ?_
         refine e_cT rfl ?_
         refine e_seq ?_
         refine e_reg ?_
         refine l_y (v := .pointer (some ⟨g93, 2, none⟩)) S (y_fb FA44_2 rfl rfl) ?_
         refine l_y (v := .slice (some ⟨gO, 0, none⟩) (F.length + 1) cO) S (y_ld rfl (fun w S => ld_b1 (i := 4) S rfl rfl T42)) ?_
         refine l_y (v := .pointer (some ⟨g119, 0, none⟩)) S (y_fb FA82_0 rfl rfl) ?_
         refine l_y (v := .int .i64 z111.key) S (y_ld rfl (fun w S => ld_b1 (i := 5) S rfl rfl T3)) ?_
         refine l_y (v := .pointer (some ⟨g119, 2, none⟩)) S (y_fb FA82_2 rfl rfl) ?_
         refine l_y (v := .int .i64 z111.sum) S (y_ld rfl (fun w S => ld_b1 (i := 5) S rfl rfl T3)) ?_
         refine l_y (v := .agg #[.int .i64 z111.key, .int .i64 z111.sum]) S (y_bd (ps := [(0, .int .i64 z111.key), (1, .int .i64 z111.sum)]) rfl (fun _ => by kernel_rfl)) ?_
         refine l_bs (ps := [(0, .agg #[.int .i64 z111.key, .int .i64 z111.sum])]) (cs := #[.int .i64 z111.key, .int .i64 z111.sum]) S U42 SZ57 Z57 rfl rfl rfl (by kernel_rfl) fun g136 w137 S => ?_
         refine l_ap (e' := 0) (i := 0) (i' := 6) S K42 rfl rfl rfl rfl rfl rfl rfl (by simp only [maxLen]; omega) (by dsimp only; omega) fun v138 w139 S => ?_
         obtain ⟨A140, c141, m142e, m142, m142'⟩ : ∃ A c, v138 = .slice A (F.length + 1 + 1) c ∧ (F.length + 1 + 1) ≤ c ∧ c ≤ maxLen := own_len S (i := 0) rfl; subst m142e
         refine l_y (v := .pointer (some ⟨g93, 2, none⟩)) S (y_fb FA44_2 rfl rfl) ?_
         refine l_st (u := .slice A140 (F.length + 1 + 1) c141) (i := 4) (cs' := #[.slice A35 ((cellsL s.lives false).length) c36, .slice A102 ((cellsL s.lives true).length) c103, .slice A140 (F.length + 1 + 1) c141]) S rfl rfl rfl SZ42 rfl rfl rfl fun w143 S => ?_
         refine l_nil ?_
         refine n_seq ?_
         refine e_trim [(2, .pointer (some ⟨g19, 0, none⟩)), (3, .pointer (some ⟨g21, 0, none⟩)), (5, .pointer (some ⟨g93, 0, none⟩)), (27, .slice A14 s.tallies.length c15), (28, .int .i64 (s.tallies.length : Int)), (29, .int .i64 (k : Int)), (30, .bool true), (31, p113), (32, .agg #[.int .i64 z111.key, .int .i64 z111.author, .int .i64 z111.sum]), (7, .pointer (some ⟨g119, 0, none⟩)), (33, .pointer (some ⟨g93, 2, none⟩)), (34, .slice (some ⟨gO, 0, none⟩) (F.length + 1) cO), (35, .int .i64 ((F.length + 1 : Nat) : Int)), (36, .int .i64 (F.length : Int)), (8, .int .i64 (F.length : Int)), (37, .int .i64 (F.length : Int)), (38, .bool false), (39, .bool false), (40, .pointer (some ⟨g93, 2, none⟩)), (41, .slice (some ⟨gO, 0, none⟩) (F.length + 1) cO), (42, .int .i64 (F.length : Int)), (43, .pointer (some ⟨gO, F.length * 2, none⟩)), (44, .pointer (some ⟨gO, F.length * 2 + 0, none⟩)), (45, .int .i64 key), (46, .pointer (some ⟨g119, 0, none⟩)), (47, .int .i64 z111.key), (48, .bool true), (49, .bool true), (50, .pointer (some ⟨g93, 2, none⟩)), (51, .slice (some ⟨gO, 0, none⟩) (F.length + 1) cO), (52, .pointer (some ⟨g119, 0, none⟩)), (53, .int .i64 z111.key), (54, .pointer (some ⟨g119, 2, none⟩)), (55, .int .i64 z111.sum), (56, .agg #[.int .i64 z111.key, .int .i64 z111.sum]), (57, .slice (some ⟨g136, 0, none⟩) 1 1), (58, .slice A140 (F.length + 1 + 1) c141), (59, .pointer (some ⟨g93, 2, none⟩))] ⟨⟨rfl, rfl⟩, ⟨rfl, rfl⟩, ⟨rfl, rfl⟩, ⟨rfl, rfl⟩, ⟨rfl, rfl⟩, ⟨rfl, rfl⟩, ⟨rfl, rfl⟩, ⟨rfl, rfl⟩, ⟨rfl, rfl⟩, ⟨rfl, rfl⟩, ⟨rfl, rfl⟩, ⟨rfl, rfl⟩, ⟨rfl, rfl⟩, ⟨rfl, rfl⟩, ⟨rfl, rfl⟩, ⟨rfl, rfl⟩, ⟨rfl, rfl⟩, ⟨rfl, rfl⟩, ⟨rfl, rfl⟩, ⟨rfl, rfl⟩, ⟨rfl, rfl⟩, ⟨rfl, rfl⟩, ⟨rfl, rfl⟩, ⟨rfl, rfl⟩, ⟨rfl, rfl⟩, ⟨rfl, rfl⟩, ⟨rfl, rfl⟩, ⟨rfl, rfl⟩, ⟨rfl, rfl⟩, ⟨rfl, rfl⟩, ⟨rfl, rfl⟩, ⟨rfl, rfl⟩, ⟨rfl, rfl⟩, ⟨rfl, rfl⟩, ⟨rfl, rfl⟩, ⟨rfl, rfl⟩, ⟨rfl, rfl⟩, ⟨rfl, rfl⟩, trivial⟩ (fun junk => ?_)
         refine e_exit ?_
         refine x_seq ?_
         refine x_hit ?_
         refine n_seq ?_
         refine e_reg ?_
         refine l_y (v := .int .i64 ((k : Int) + 1)) S (y_add (r := (k : Int) + 1) rfl rfl (w64 (by omega) (by omega))) ?_
         refine l_y (v := .int .i64 ((k : Int) + 1)) S (y_mv rfl) ?_
         refine l_nil ?_
         have htz := hts z111 (List.mem_of_getElem? hz112)
         refine n_lp ⟨(k + 1, A140, (F.length + 1 + 1), c141, ((xsF ++ [.int .i64 key, .int .i64 sum]) ++ [.int .i64 z111.key, .int .i64 z111.sum])), _, fr_keep (m := [(2, .pointer (some ⟨g19, 0, none⟩)), (3, .pointer (some ⟨g21, 0, none⟩)), (5, .pointer (some ⟨g93, 0, none⟩)), (27, .slice A14 s.tallies.length c15), (28, .int .i64 (s.tallies.length : Int)), (29, .int .i64 ((k + 1 : Nat) : Int))]) ⟨⟨rfl, rfl⟩, ⟨rfl, rfl⟩, ⟨rfl, rfl⟩, ⟨rfl, rfl⟩, ⟨rfl, rfl⟩, ⟨ival (by first | rfl | omega), rfl⟩, trivial⟩, ⟨_, _, rfl, (S.tk 5 1 rfl rfl), (Rd.le_trans L108 (Rd.le_refl rd106)), (.inr ⟨F ++ [⟨key, sum⟩], xsF ++ [.int .i64 key, .int .i64 sum], z111.key, z111.sum, by rw [cnts_take hz112, hcs, cnt_new hk2], by simp, rfl, RowR.push (cs := [.int .i64 key, .int .i64 sum]) (x := (⟨key, sum⟩ : Pair)) hF rfl rfl, by omega, by omega⟩), (by omega), (by first | omega | (simp; omega))⟩, ?_⟩
         show _ < _; dsimp only; omega
      · -- h110 no
       refine l_y (v := .bool false) S (y_ltF rfl rfl h110) ?_
       refine l_nil ?_
       refine n_seq ?_
       refine e_seq ?_
       refine e_cF rfl ?_
       refine e_exit ?_
       refine x_seq ?_
       refine x_lp ?_
       refine x_hit ?_
       refine n_seq ?_
       refine e_seq ?_
       refine e_reg ?_
       rcases HC with ⟨hcs, rfl, rfl⟩ | ⟨F, xsF, key, sum, hcs, rfl, rfl, hF, hs1, hs2⟩
       · -- none yet
        have hrow : RowR 2 PairR rd106 [] ([] : List Pair) := rfl
        refine l_y (v := .agg #[.slice A35 ((cellsL s.lives false).length) c36, .slice A102 ((cellsL s.lives true).length) c103, .slice AO 0 cO]) S (y_ld rfl (fun w S => ld_bA (vs := [.slice A35 ((cellsL s.lives false).length) c36, .slice A102 ((cellsL s.lives true).length) c103, .slice AO 0 cO]) (i := 4) S rfl T44 rfl rfl)) ?_
        refine l_y (v := .agg #[.int .i64 0, .int .i64 0]) S (y_bd (ps := []) rfl (fun _ => by kernel_rfl)) ?_
        refine l_st (u := .agg #[.slice A35 ((cellsL s.lives false).length) c36, .slice A102 ((cellsL s.lives true).length) c103, .slice AO 0 cO]) (i := 1) (cs' := #[.slice A35 ((cellsL s.lives false).length) c36, .slice A102 ((cellsL s.lives true).length) c103, .slice AO 0 cO]) S rfl rfl rfl SZ44 rfl rfl rfl fun w144 S => ?_
        refine l_st (u := .agg #[.int .i64 0, .int .i64 0]) (i := 2) (cs' := #[.int .i64 0, .int .i64 0]) S rfl rfl rfl SZ33 rfl rfl rfl fun w145 S => ?_
        refine l_nil ?_
        refine n_seq ?_
        refine e_ret ?_
        refine ret2 (v := .agg #[.slice A35 ((cellsL s.lives false).length) c36, .slice A102 ((cellsL s.lives true).length) c103, .slice AO 0 cO]) (v' := .agg #[.int .i64 0, .int .i64 0]) rfl ⟨_, rfl, ld_bA (i := 1) (vs := [.slice A35 ((cellsL s.lives false).length) c36, .slice A102 ((cellsL s.lives true).length) c103, .slice AO 0 cO]) S rfl T44 rfl rfl⟩ ⟨_, rfl, ld_bA (i := 2) (vs := [.int .i64 0, .int .i64 0]) S rfl T33 rfl rfl⟩ ?_
        have ek : s.tallies.take k = s.tallies := List.take_of_length_le (by omega); rw [ek] at hcs
        rw [ReadS_2 hW]; unfold readS; rw [hcs]
        exact ⟨_, rfl, ⟨_, rfl, ⟨_, _, _, rfl, (fm h34 S.out), (fm h101 S.out), (S.rowOut (i := 0) rfl rfl (by first | rfl | (simp; done) | omega) rfl hrow)⟩⟩, S.below⟩
       · -- some
        have hxl := hF.len
        obtain ⟨gO, rfl⟩ := own_atA S (i := 0) rfl rfl (Nat.succ_ne_zero _)
        have hrow : RowR 2 PairR rd106 (xsF ++ [.int .i64 key, .int .i64 sum]) (F ++ [(⟨key, sum⟩ : Pair)]) := RowR.push (cs := [.int .i64 key, .int .i64 sum]) (x := (⟨key, sum⟩ : Pair)) hF rfl rfl
        refine l_y (v := .agg #[.slice A35 ((cellsL s.lives false).length) c36, .slice A102 ((cellsL s.lives true).length) c103, .slice (some ⟨gO, 0, none⟩) (F.length + 1) cO]) S (y_ld rfl (fun w S => ld_bA (vs := [.slice A35 ((cellsL s.lives false).length) c36, .slice A102 ((cellsL s.lives true).length) c103, .slice (some ⟨gO, 0, none⟩) (F.length + 1) cO]) (i := 4) S rfl T44 rfl rfl)) ?_
        refine l_y (v := .agg #[.int .i64 0, .int .i64 0]) S (y_bd (ps := []) rfl (fun _ => by kernel_rfl)) ?_
        refine l_st (u := .agg #[.slice A35 ((cellsL s.lives false).length) c36, .slice A102 ((cellsL s.lives true).length) c103, .slice (some ⟨gO, 0, none⟩) (F.length + 1) cO]) (i := 1) (cs' := #[.slice A35 ((cellsL s.lives false).length) c36, .slice A102 ((cellsL s.lives true).length) c103, .slice (some ⟨gO, 0, none⟩) (F.length + 1) cO]) S rfl rfl rfl SZ44 rfl rfl rfl fun w146 S => ?_
        refine l_st (u := .agg #[.int .i64 0, .int .i64 0]) (i := 2) (cs' := #[.int .i64 0, .int .i64 0]) S rfl rfl rfl SZ33 rfl rfl rfl fun w147 S => ?_
        refine l_nil ?_
        refine n_seq ?_
        refine e_ret ?_
        refine ret2 (v := .agg #[.slice A35 ((cellsL s.lives false).length) c36, .slice A102 ((cellsL s.lives true).length) c103, .slice (some ⟨gO, 0, none⟩) (F.length + 1) cO]) (v' := .agg #[.int .i64 0, .int .i64 0]) rfl ⟨_, rfl, ld_bA (i := 1) (vs := [.slice A35 ((cellsL s.lives false).length) c36, .slice A102 ((cellsL s.lives true).length) c103, .slice (some ⟨gO, 0, none⟩) (F.length + 1) cO]) S rfl T44 rfl rfl⟩ ⟨_, rfl, ld_bA (i := 2) (vs := [.int .i64 0, .int .i64 0]) S rfl T33 rfl rfl⟩ ?_
        have ek : s.tallies.take k = s.tallies := List.take_of_length_le (by omega); rw [ek] at hcs
        rw [ReadS_2 hW]; unfold readS; rw [hcs]
        exact ⟨_, rfl, ⟨_, rfl, ⟨_, _, _, rfl, (fm h34 S.out), (fm h101 S.out), (S.rowOut (i := 0) rfl rfl (by simp) rfl hrow)⟩⟩, S.below⟩
     exact aa_nil
    exact aa_nil
   exact aa_nil
  refine aa_cons rfl ?_ ?_
  · -- operation 7
   refine l_al (cs := #[.slice none 0 0, .slice none 0 0, .slice none 0 0]) S Z44 rfl fun g148 w149 S => ?_
   refine l_nil ?_
   have SC : St [] W rd rd [(g17, 27, #[.slice A8 s.clock.length c9, .slice A11 s.lives.length c12, .slice A14 s.tallies.length c15]), (g19, 44, #[.slice none 0 0, .slice none 0 0, .slice none 0 0]), (g21, 33, #[.int .i64 0, .int .i64 0]), (g24, 33, #[.int .i64 ((wrongS s (s.clock.length : Int)).1), .int .i64 ((wrongS s (s.clock.length : Int)).2)])] [] _ := (S.tk 4 0 rfl rfl).rw' rfl rfl
   refine n_lp (ak SC ?_)
   refine a_all (rs := [2]) (by kernel_rfl) rfl ?_
   refine aa_cons rfl ?_ ?_
   · -- operation 2
    refine l_c (en_f (vs := [.slice A11 s.lives.length c12, .bool false]) (CF 52 _) rfl rfl) (Cells_c _ _ S.le _ s.lives false h5 (wrongS_iff.1 hW).lives_len) ?_
    rintro e w150 ⟨v155, rfl, h156, k⟩
    obtain ⟨rd151, S, L152, N153, X154⟩ := S.call' k; clear k
    replace h3 := fm h3 L152
    replace h5 := fm h5 L152
    replace h7 := fm h7 L152
    replace h156 := fm h156 X154
    obtain ⟨A157, c158, rfl, m159, m159'⟩ := h156.val
    refine ckd ?_
    refine l_nil ?_
    have SC : St [] W rd rd [(g17, 27, #[.slice A8 s.clock.length c9, .slice A11 s.lives.length c12, .slice A14 s.tallies.length c15]), (g19, 44, #[.slice none 0 0, .slice none 0 0, .slice none 0 0]), (g21, 33, #[.int .i64 0, .int .i64 0]), (g24, 33, #[.int .i64 ((wrongS s (s.clock.length : Int)).1), .int .i64 ((wrongS s (s.clock.length : Int)).2)])] [] _ := ((S.tk 4 0 rfl rfl).weak sup27 L152).rw' rfl rfl
    refine n_lp (ak SC ?_)
    refine a_all (rs := [5]) (by kernel_rfl) rfl ?_
    refine aa_cons rfl ?_ ?_
    · -- operation 5
     refine l_c (en_f (vs := [.slice A11 s.lives.length c12, .bool true]) (CF 52 _) rfl rfl) (Cells_c _ _ S.le _ s.lives true h5 (wrongS_iff.1 hW).lives_len) ?_
     rintro e w160 ⟨v165, rfl, h166, k⟩
     obtain ⟨rd161, S, L162, N163, X164⟩ := S.call' k; clear k
     replace h3 := fm h3 L162
     replace h5 := fm h5 L162
     replace h7 := fm h7 L162
     replace h156 := fm h156 L162
     replace h166 := fm h166 X164
     obtain ⟨A167, c168, rfl, m169, m169'⟩ := h166.val
     refine ckd ?_
     refine l_nil ?_
     have SC : St [] W rd rd [(g17, 27, #[.slice A8 s.clock.length c9, .slice A11 s.lives.length c12, .slice A14 s.tallies.length c15]), (g19, 44, #[.slice none 0 0, .slice none 0 0, .slice none 0 0]), (g21, 33, #[.int .i64 0, .int .i64 0]), (g24, 33, #[.int .i64 ((wrongS s (s.clock.length : Int)).1), .int .i64 ((wrongS s (s.clock.length : Int)).2)])] [] _ := ((S.tk 4 0 rfl rfl).weak sup27 (Rd.le_trans L152 L162)).rw' rfl rfl
     refine n_lp (ak SC ?_)
     refine a_take (v := .agg #[.slice A157 ((cellsL s.lives false).length) c158, .slice A167 ((cellsL s.lives true).length) c168, .slice none 0 0]) 6 rfl rfl (by kernel_rfl) (by kernel_rfl) (by kernel_rfl) SC rfl (y_bd (ps := [(0, .slice A157 ((cellsL s.lives false).length) c158), (1, .slice A167 ((cellsL s.lives true).length) c168)]) rfl (fun _ => by kernel_rfl)) ?_
     refine a_all (rs := [8]) (by kernel_rfl) rfl ?_
     refine aa_cons rfl ?_ ?_
     · -- operation 8
      refine l_st (u := .agg #[.slice A157 ((cellsL s.lives false).length) c158, .slice A167 ((cellsL s.lives true).length) c168, .slice none 0 0]) (i := 4) (cs' := #[.slice A157 ((cellsL s.lives false).length) c158, .slice A167 ((cellsL s.lives true).length) c168, .slice none 0 0]) S rfl rfl rfl SZ44 rfl rfl rfl fun w170 S => ?_
      refine l_nil ?_
      have SC : St [] W rd rd [(g17, 27, #[.slice A8 s.clock.length c9, .slice A11 s.lives.length c12, .slice A14 s.tallies.length c15]), (g19, 44, #[.slice none 0 0, .slice none 0 0, .slice none 0 0]), (g21, 33, #[.int .i64 0, .int .i64 0]), (g24, 33, #[.int .i64 ((wrongS s (s.clock.length : Int)).1), .int .i64 ((wrongS s (s.clock.length : Int)).2)])] [] _ := ((S.tk 4 0 rfl rfl).weak sup27 (Rd.le_trans L152 L162)).rw' rfl rfl
      refine n_lp (ak SC ?_)
      refine a_done (by kernel_rfl) ?_
      clear SC
      refine n_seq ?_
      refine e_seq ?_
      refine e_seq ?_
      refine e_reg ?_
      refine l_y (v := .pointer (some ⟨g17, 2, none⟩)) S (y_fb FA27_2 rfl rfl) ?_
      refine l_y (v := .slice A14 s.tallies.length c15) S (y_ld rfl (fun w S => ld_b1 (i := 0) S rfl rfl T25)) ?_
      refine l_y (v := .int .i64 (s.tallies.length : Int)) S (y_len U25 rfl rfl) ?_
      refine l_y (v := .int .i64 0) S (y_mv rfl) ?_
      refine l_nil ?_
      refine n_seq ?_
      refine e_trim [(2, .pointer (some ⟨g19, 0, none⟩)), (3, .pointer (some ⟨g21, 0, none⟩)), (5, .pointer (some ⟨g148, 0, none⟩)), (27, .slice A14 s.tallies.length c15), (28, .int .i64 (s.tallies.length : Int)), (29, .int .i64 0)] ⟨⟨rfl, rfl⟩, ⟨rfl, rfl⟩, ⟨rfl, rfl⟩, ⟨rfl, rfl⟩, ⟨rfl, rfl⟩, ⟨rfl, rfl⟩, trivial⟩ (fun junk => ?_)
      refine e_blk ?_
      have S := S.ownNil 57 2
      have hts := fun (z : Tally) (hz : z ∈ s.tallies) => tally_bd hW hz; have htl := (wrongS_iff.1 hW).tallies_len
      refine e_trim [(2, .pointer (some ⟨g19, 0, none⟩)), (3, .pointer (some ⟨g21, 0, none⟩)), (5, .pointer (some ⟨g148, 0, none⟩)), (27, .slice A14 s.tallies.length c15), (28, .int .i64 (s.tallies.length : Int)), (29, .int .i64 (0 : Int))] ⟨⟨rfl, rfl⟩, ⟨rfl, rfl⟩, ⟨rfl, rfl⟩, ⟨rfl, rfl⟩, ⟨rfl, rfl⟩, ⟨ival (by first | rfl | omega), rfl⟩, trivial⟩ (fun junk => ?_)
      refine e_loop (fun (gh_ : Nat × (Option Addr) × Nat × Nat × (List Value)) ov w => match gh_ with | (k, AO, nO, cO, xsO) => ∃ rd' junk, ov = [(2, .pointer (some ⟨g19, 0, none⟩)), (3, .pointer (some ⟨g21, 0, none⟩)), (5, .pointer (some ⟨g148, 0, none⟩)), (27, .slice A14 s.tallies.length c15), (28, .int .i64 (s.tallies.length : Int)), (29, .int .i64 (k : Int))] ++ junk ∧ St [] W rd rd' [(g17, 27, #[.slice A8 s.clock.length c9, .slice A11 s.lives.length c12, .slice A14 s.tallies.length c15]), (g19, 44, #[.slice none 0 0, .slice none 0 0, .slice none 0 0]), (g21, 33, #[.int .i64 0, .int .i64 0]), (g24, 33, #[.int .i64 ((wrongS s (s.clock.length : Int)).1), .int .i64 ((wrongS s (s.clock.length : Int)).2)]), (g148, 44, #[.slice A157 ((cellsL s.lives false).length) c158, .slice A167 ((cellsL s.lives true).length) c168, .slice AO nO cO])] [⟨57, 2, .slice AO nO cO, nO, xsO⟩] w ∧ Rd.le rd161 rd' ∧ CntsI rd' (cntsL (s.tallies.take k)) nO xsO k ∧ k ≤ s.tallies.length ∧ nO ≤ k) (fun gh_ => match gh_ with | (k, AO, nO, cO, xsO) => s.tallies.length - k) (0, none, 0, 0, []) ⟨_, junk, rfl, (S.rw' rfl rfl), (Rd.le_refl _), (.inl ⟨rfl, rfl, rfl⟩), (by omega), (by omega)⟩ ?_
      rintro ⟨k, AO, nO, cO, xsO⟩ ov174 w172 ⟨rd171, junk, rfl, S, L173, HC, hk, hno⟩
      replace h3 := fm h3 L173
      replace h5 := fm h5 L173
      replace h7 := fm h7 L173
      replace h156 := fm h156 L173
      replace h166 := fm h166 L173
      refine e_seq ?_
      refine e_reg ?_
      by_cases h175 : (k : Int) < (s.tallies.length : Int)
      · -- h175 yes
       refine l_y (v := .bool true) S (y_ltT rfl rfl h175) ?_
       refine l_nil ?_
       refine n_seq ?_
       refine e_seq ?_
       refine e_cT rfl ?_
       refine e_skip ?_
       refine n_seq ?_
       refine e_seq ?_
       refine e_blk ?_
       refine e_seq ?_
       refine e_reg ?_
       obtain ⟨z176, hz177⟩ : ∃ z, (s.tallies)[k]? = some z := nth_of (by first | assumption | omega)
       obtain ⟨p178, vs179, E180, nn181, r182, Y183⟩ := y_ia U25 SZ82 h7 hz177
       clear nn181
       have r182e : vs179 = [.int .i64 z176.key, .int .i64 z176.author, .int .i64 z176.sum] := r182; subst r182e; clear r182
       refine l_y (v := p178) S (Y183 rfl rfl (by first | rfl | omega)) ?_
       refine l_y (v := .agg #[.int .i64 z176.key, .int .i64 z176.author, .int .i64 z176.sum]) S (y_ld rfl (fun w S => ld_pA (us := [.int .i64 z176.key, .int .i64 z176.author, .int .i64 z176.sum]) S.le E180 T82 rfl rfl)) ?_
       refine l_al (cs := #[.int .i64 0, .int .i64 0, .int .i64 0]) S Z82 rfl fun g184 w185 S => ?_
       refine l_st (u := .agg #[.int .i64 z176.key, .int .i64 z176.author, .int .i64 z176.sum]) (i := 5) (cs' := #[.int .i64 z176.key, .int .i64 z176.author, .int .i64 z176.sum]) S rfl rfl rfl SZ82 rfl rfl rfl fun w186 S => ?_
       refine l_nil ?_
       refine n_seq ?_
       refine e_seq ?_
       refine e_reg ?_
       rcases HC with ⟨hcs, rfl, rfl⟩ | ⟨F, xsF, key, sum, hcs, rfl, rfl, hF, hs1, hs2⟩
       · -- none yet
        refine l_y (v := .pointer (some ⟨g148, 2, none⟩)) S (y_fb FA44_2 rfl rfl) ?_
        refine l_y (v := .slice AO 0 cO) S (y_ld rfl (fun w S => ld_b1 (i := 4) S rfl rfl T42)) ?_
        refine l_y (v := .int .i64 0) S (y_len U42 rfl rfl) ?_
        refine l_y (v := .int .i64 (-1)) S (y_sub (r := (-1)) rfl rfl (rfl)) ?_
        refine l_y (v := .int .i64 (-1)) S (y_as rfl) ?_
        refine l_nil ?_
        refine n_seq ?_
        refine e_seq ?_
        refine e_seq ?_
        refine e_q MX (by kernel_rfl) S.drew ?_
        -- draws
        refine q_y (v := .int .i64 (-1)) (y_mv rfl) ?_
        refine q_y (v := .bool true) (y_ltT rfl rfl (by decide)) ?_
        refine q_y (v := .bool true) (y_mv rfl) ?_
        refine q_s (d' := 39) rfl rfl ?_
        refine q_s (d' := 39) rfl rfl ?_
        refine q_s (d' := 39) rfl rfl ?_
        refine q_s (d' := 39) rfl rfl ?_
        refine q_s (d' := 39) rfl rfl ?_
        refine q_s (d' := 39) rfl rfl ?_
        refine q_s (d' := 39) rfl rfl ?_
        refine q_s (d' := 39) rfl rfl ?_
        refine q_s (d' := 39) rfl rfl ?_
        refine q_y (v := .bool true) (y_pT rfl rfl) ?_
        refine q_nil fun w187 S => ?_
        refine n_seq ?_
        refine e_cT rfl ?_
        refine e_seq ?_
        refine e_reg ?_
        refine l_y (v := .pointer (some ⟨g148, 2, none⟩)) S (y_fb FA44_2 rfl rfl) ?_
        refine l_y (v := .slice AO 0 cO) S (y_ld rfl (fun w S => ld_b1 (i := 4) S rfl rfl T42)) ?_
        refine l_y (v := .pointer (some ⟨g184, 0, none⟩)) S (y_fb FA82_0 rfl rfl) ?_
        refine l_y (v := .int .i64 z176.key) S (y_ld rfl (fun w S => ld_b1 (i := 5) S rfl rfl T3)) ?_
        refine l_y (v := .pointer (some ⟨g184, 2, none⟩)) S (y_fb FA82_2 rfl rfl) ?_
        refine l_y (v := .int .i64 z176.sum) S (y_ld rfl (fun w S => ld_b1 (i := 5) S rfl rfl T3)) ?_
        refine l_y (v := .agg #[.int .i64 z176.key, .int .i64 z176.sum]) S (y_bd (ps := [(0, .int .i64 z176.key), (1, .int .i64 z176.sum)]) rfl (fun _ => by kernel_rfl)) ?_
        refine l_bs (ps := [(0, .agg #[.int .i64 z176.key, .int .i64 z176.sum])]) (cs := #[.int .i64 z176.key, .int .i64 z176.sum]) S U42 SZ57 Z57 rfl rfl rfl (by kernel_rfl) fun g188 w189 S => ?_
        refine l_ap (e' := 0) (i := 0) (i' := 6) S K42 rfl rfl rfl rfl rfl rfl rfl (by simp only [maxLen]; omega) (by dsimp only; omega) fun v190 w191 S => ?_
        obtain ⟨A192, c193, m194e, m194, m194'⟩ : ∃ A c, v190 = .slice A (0 + 1) c ∧ (0 + 1) ≤ c ∧ c ≤ maxLen := own_len S (i := 0) rfl; subst m194e
        refine l_y (v := .pointer (some ⟨g148, 2, none⟩)) S (y_fb FA44_2 rfl rfl) ?_
        refine l_st (u := .slice A192 (0 + 1) c193) (i := 4) (cs' := #[.slice A157 ((cellsL s.lives false).length) c158, .slice A167 ((cellsL s.lives true).length) c168, .slice A192 (0 + 1) c193]) S rfl rfl rfl SZ42 rfl rfl rfl fun w195 S => ?_
        refine l_nil ?_
        refine n_seq ?_
        refine e_trim [(2, .pointer (some ⟨g19, 0, none⟩)), (3, .pointer (some ⟨g21, 0, none⟩)), (5, .pointer (some ⟨g148, 0, none⟩)), (27, .slice A14 s.tallies.length c15), (28, .int .i64 (s.tallies.length : Int)), (29, .int .i64 (k : Int)), (30, .bool true), (31, p178), (32, .agg #[.int .i64 z176.key, .int .i64 z176.author, .int .i64 z176.sum]), (7, .pointer (some ⟨g184, 0, none⟩)), (33, .pointer (some ⟨g148, 2, none⟩)), (34, .slice AO 0 cO), (35, .int .i64 0), (36, .int .i64 (-1)), (8, .int .i64 (-1)), (37, .int .i64 (-1)), (38, .bool true), (39, .bool true), (40, undef), (41, undef), (42, undef), (43, undef), (44, undef), (45, undef), (46, undef), (47, undef), (48, undef), (49, .bool true), (50, .pointer (some ⟨g148, 2, none⟩)), (51, .slice AO 0 cO), (52, .pointer (some ⟨g184, 0, none⟩)), (53, .int .i64 z176.key), (54, .pointer (some ⟨g184, 2, none⟩)), (55, .int .i64 z176.sum), (56, .agg #[.int .i64 z176.key, .int .i64 z176.sum]), (57, .slice (some ⟨g188, 0, none⟩) 1 1), (58, .slice A192 (0 + 1) c193), (59, .pointer (some ⟨g148, 2, none⟩))] ⟨⟨rfl, rfl⟩, ⟨rfl, rfl⟩, ⟨rfl, rfl⟩, ⟨rfl, rfl⟩, ⟨rfl, rfl⟩, ⟨rfl, rfl⟩, ⟨rfl, rfl⟩, ⟨rfl, rfl⟩, ⟨rfl, rfl⟩, ⟨rfl, rfl⟩, ⟨rfl, rfl⟩, ⟨rfl, rfl⟩, ⟨rfl, rfl⟩, ⟨rfl, rfl⟩, ⟨rfl, rfl⟩, ⟨rfl, rfl⟩, ⟨rfl, rfl⟩, ⟨rfl, rfl⟩, ⟨rfl, rfl⟩, ⟨rfl, rfl⟩, ⟨rfl, rfl⟩, ⟨rfl, rfl⟩, ⟨rfl, rfl⟩, ⟨rfl, rfl⟩, ⟨rfl, rfl⟩, ⟨rfl, rfl⟩, ⟨rfl, rfl⟩, ⟨rfl, rfl⟩, ⟨rfl, rfl⟩, ⟨rfl, rfl⟩, ⟨rfl, rfl⟩, ⟨rfl, rfl⟩, ⟨rfl, rfl⟩, ⟨rfl, rfl⟩, ⟨rfl, rfl⟩, ⟨rfl, rfl⟩, ⟨rfl, rfl⟩, ⟨rfl, rfl⟩, trivial⟩ (fun junk => ?_)
        refine e_exit ?_
        refine x_seq ?_
        refine x_hit ?_
        refine n_seq ?_
        refine e_reg ?_
        refine l_y (v := .int .i64 ((k : Int) + 1)) S (y_add (r := (k : Int) + 1) rfl rfl (w64 (by omega) (by omega))) ?_
        refine l_y (v := .int .i64 ((k : Int) + 1)) S (y_mv rfl) ?_
        refine l_nil ?_
        have htz := hts z176 (List.mem_of_getElem? hz177)
        refine n_lp ⟨(k + 1, A192, (0 + 1), c193, [] ++ [.int .i64 z176.key, .int .i64 z176.sum]), _, fr_keep (m := [(2, .pointer (some ⟨g19, 0, none⟩)), (3, .pointer (some ⟨g21, 0, none⟩)), (5, .pointer (some ⟨g148, 0, none⟩)), (27, .slice A14 s.tallies.length c15), (28, .int .i64 (s.tallies.length : Int)), (29, .int .i64 ((k + 1 : Nat) : Int))]) ⟨⟨rfl, rfl⟩, ⟨rfl, rfl⟩, ⟨rfl, rfl⟩, ⟨rfl, rfl⟩, ⟨rfl, rfl⟩, ⟨ival (by first | rfl | omega), rfl⟩, trivial⟩, ⟨_, _, rfl, (S.tk 5 1 rfl rfl), (Rd.le_trans L173 (Rd.le_refl rd171)), (.inr ⟨[], [], z176.key, z176.sum, by rw [cnts_take hz177, hcs, cnt_first]; rfl, rfl, rfl, rfl, by omega, by omega⟩), (by omega), (by first | omega | (simp; omega))⟩, ?_⟩
        show _ < _; dsimp only; omega
       · -- some
        have hxl := hF.len
        obtain ⟨gO, rfl⟩ := own_atA S (i := 0) rfl rfl (Nat.succ_ne_zero _)
        refine l_y (v := .pointer (some ⟨g148, 2, none⟩)) S (y_fb FA44_2 rfl rfl) ?_
        refine l_y (v := .slice (some ⟨gO, 0, none⟩) (F.length + 1) cO) S (y_ld rfl (fun w S => ld_b1 (i := 4) S rfl rfl T42)) ?_
        refine l_y (v := .int .i64 ((F.length + 1 : Nat) : Int)) S (y_len U42 rfl rfl) ?_
        refine l_y (v := .int .i64 (F.length : Int)) S (y_sub (r := (F.length : Int)) rfl rfl ((w64 (by omega) (by omega)).trans (by omega))) ?_
        refine l_y (v := .int .i64 (F.length : Int)) S (y_as rfl) ?_
        refine l_nil ?_
        refine n_seq ?_
        refine e_seq ?_
        refine e_seq ?_
        refine e_q MX (by kernel_rfl) S.drew ?_
        -- draws
        refine q_y (v := .int .i64 (F.length : Int)) (y_mv rfl) ?_
        have h196 : ¬ ((F.length : Int) < 0) := by omega
        refine q_y (v := .bool false) (y_ltF rfl rfl h196) ?_
        refine q_y (v := .bool false) (y_mv rfl) ?_
        refine q_g (d' := 39) (v := .pointer (some ⟨g148, 2, none⟩)) (y_fb FA44_2 rfl rfl) rfl rfl ?_
        refine q_g (d' := 39) (v := .slice (some ⟨gO, 0, none⟩) (F.length + 1) cO) (y_ld rfl (fun w S => ld_b1 (i := 4) S rfl rfl T42)) rfl rfl ?_
        refine q_g (d' := 39) (v := .int .i64 (F.length : Int)) (y_mv rfl) rfl rfl ?_
        refine q_g (d' := 39) (v := .pointer (some ⟨gO, F.length * 2, none⟩)) (y_ibs (k := F.length) U42 SZ57 (Nat.lt_succ_self _) (Nat.zero_add _) rfl rfl (by first | rfl | omega)) rfl rfl ?_
        refine q_g (d' := 39) (v := .pointer (some ⟨gO, F.length * 2 + 0, none⟩)) (y_iar (k := 0) U57 SZ3 (by decide) rfl rfl rfl rfl) rfl rfl ?_
        refine q_g (d' := 39) (v := .int .i64 key) (y_ld rfl (fun w S => ld_o1 (i := 0) S rfl rfl T3 (row_last0 hxl))) rfl rfl ?_
        refine q_g (d' := 39) (v := .pointer (some ⟨g184, 0, none⟩)) (y_fb FA82_0 rfl rfl) rfl rfl ?_
        refine q_g (d' := 39) (v := .int .i64 z176.key) (y_ld rfl (fun w S => ld_b1 (i := 5) S rfl rfl T3)) rfl rfl ?_
        by_cases hk2 : key = z176.key
        · -- hk2 yes
         refine q_g (d' := 39) (v := .bool false) (y_neF rfl rfl hk2) rfl rfl ?_
         refine q_y (v := .bool false) (y_pF rfl rfl) ?_
         refine q_nil fun w197 S => ?_
         refine n_seq ?_
         refine e_cF rfl ?_
         refine e_skip ?_
         refine n_seq ?_
         refine e_a (fun w => St [] W rd rd171 [(g17, 27, #[.slice A8 s.clock.length c9, .slice A11 s.lives.length c12, .slice A14 s.tallies.length c15]), (g19, 44, #[.slice none 0 0, .slice none 0 0, .slice none 0 0]), (g21, 33, #[.int .i64 0, .int .i64 0]), (g24, 33, #[.int .i64 ((wrongS s (s.clock.length : Int)).1), .int .i64 ((wrongS s (s.clock.length : Int)).2)]), (g148, 44, #[.slice A157 ((cellsL s.lives false).length) c158, .slice A167 ((cellsL s.lives true).length) c168, .slice (some ⟨gO, 0, none⟩) (F.length + 1) cO]), (g184, 82, #[.int .i64 z176.key, .int .i64 z176.author, .int .i64 z176.sum])] [] w) MX rfl ?_
         have S := S.drew; have sup198 := S.sup
         have SC : St [] W rd rd171 [(g17, 27, #[.slice A8 s.clock.length c9, .slice A11 s.lives.length c12, .slice A14 s.tallies.length c15]), (g19, 44, #[.slice none 0 0, .slice none 0 0, .slice none 0 0]), (g21, 33, #[.int .i64 0, .int .i64 0]), (g24, 33, #[.int .i64 ((wrongS s (s.clock.length : Int)).1), .int .i64 ((wrongS s (s.clock.length : Int)).2)]), (g148, 44, #[.slice A157 ((cellsL s.lives false).length) c158, .slice A167 ((cellsL s.lives true).length) c168, .slice (some ⟨gO, 0, none⟩) (F.length + 1) cO]), (g184, 82, #[.int .i64 z176.key, .int .i64 z176.author, .int .i64 z176.sum])] [] _ := (S.tk 6 0 rfl rfl).rw' rfl rfl
         refine a_take (v := .pointer (some ⟨g148, 2, none⟩)) 0 rfl rfl (by kernel_rfl) (by kernel_rfl) (by kernel_rfl) SC rfl (y_fb FA44_2 rfl rfl) ?_
         refine a_take (v := .slice (some ⟨gO, 0, none⟩) (F.length + 1) cO) 1 rfl rfl (by kernel_rfl) (by kernel_rfl) (by kernel_rfl) SC rfl (y_ld rfl (fun w S => ld_b1 (i := 4) S rfl rfl T42)) ?_
         refine a_take (v := .int .i64 (F.length : Int)) 2 rfl rfl (by kernel_rfl) (by kernel_rfl) (by kernel_rfl) SC rfl (y_mv rfl) ?_
         refine a_take (v := .pointer (some ⟨gO, F.length * 2, none⟩)) 3 rfl rfl (by kernel_rfl) (by kernel_rfl) (by kernel_rfl) SC rfl (y_ibs (k := F.length) U42 SZ57 (Nat.lt_succ_self _) (Nat.zero_add _) rfl rfl (by first | rfl | omega)) ?_
         refine a_take (v := .pointer (some ⟨gO, F.length * 2 + 1, none⟩)) 4 rfl rfl (by kernel_rfl) (by kernel_rfl) (by kernel_rfl) SC rfl (y_iar (k := 1) U57 SZ3 (by decide) rfl rfl rfl rfl) ?_
         refine a_take (v := .pointer (some ⟨g184, 2, none⟩)) 6 rfl rfl (by kernel_rfl) (by kernel_rfl) (by kernel_rfl) SC rfl (y_fb FA82_2 rfl rfl) ?_
         refine a_take (v := .int .i64 z176.sum) 7 rfl rfl (by kernel_rfl) (by kernel_rfl) (by kernel_rfl) SC rfl (y_ld rfl (fun w S => ld_b1 (i := 5) S rfl rfl T3)) ?_
         refine a_take (v := .pointer (some ⟨gO, F.length * 2, none⟩)) 9 rfl rfl (by kernel_rfl) (by kernel_rfl) (by kernel_rfl) SC rfl (y_ibs (k := F.length) U42 SZ57 (Nat.lt_succ_self _) (Nat.zero_add _) rfl rfl (by first | rfl | omega)) ?_
         refine a_all (rs := [5]) (by kernel_rfl) rfl ?_
         refine aa_cons rfl ?_ ?_
         · -- operation 5
          refine l_y (v := .int .i64 sum) S (y_ld rfl (fun w S => ld_o1 (i := 0) S rfl rfl T3 (row_last1 hxl))) ?_
          refine l_nil ?_
          have SC : St [] W rd rd171 [(g17, 27, #[.slice A8 s.clock.length c9, .slice A11 s.lives.length c12, .slice A14 s.tallies.length c15]), (g19, 44, #[.slice none 0 0, .slice none 0 0, .slice none 0 0]), (g21, 33, #[.int .i64 0, .int .i64 0]), (g24, 33, #[.int .i64 ((wrongS s (s.clock.length : Int)).1), .int .i64 ((wrongS s (s.clock.length : Int)).2)]), (g148, 44, #[.slice A157 ((cellsL s.lives false).length) c158, .slice A167 ((cellsL s.lives true).length) c168, .slice (some ⟨gO, 0, none⟩) (F.length + 1) cO]), (g184, 82, #[.int .i64 z176.key, .int .i64 z176.author, .int .i64 z176.sum])] [] _ := (S.tk 6 0 rfl rfl).rw' rfl rfl
          refine n_lp (ak SC ?_)
          refine a_take (v := .int .i64 (sum + z176.sum)) 8 rfl rfl (by kernel_rfl) (by kernel_rfl) (by kernel_rfl) SC rfl (y_add (r := sum + z176.sum) rfl rfl (w64 (by have := hts _ (List.mem_of_getElem? hz177); omega) (by have := hts _ (List.mem_of_getElem? hz177); omega))) ?_
          refine a_take (v := .pointer (some ⟨gO, F.length * 2 + 1, none⟩)) 10 rfl rfl (by kernel_rfl) (by kernel_rfl) (by kernel_rfl) SC rfl (y_iar (k := 1) U57 SZ3 (by decide) rfl rfl rfl rfl) ?_
          refine a_all (rs := [11]) (by kernel_rfl) rfl ?_
          refine aa_cons rfl ?_ ?_
          · -- operation 11
           refine l_so (u := .int .i64 (sum + z176.sum)) (i := 0) (xs' := (xsF ++ [.int .i64 key, .int .i64 (sum + z176.sum)])) S rfl rfl rfl rfl SZ3 (show _ + 1 ≤ List.length _ by simp; omega) rfl (row_set1 hxl) fun w199 S => ?_
           refine l_nil ?_
           have SC : St [] W rd rd171 [(g17, 27, #[.slice A8 s.clock.length c9, .slice A11 s.lives.length c12, .slice A14 s.tallies.length c15]), (g19, 44, #[.slice none 0 0, .slice none 0 0, .slice none 0 0]), (g21, 33, #[.int .i64 0, .int .i64 0]), (g24, 33, #[.int .i64 ((wrongS s (s.clock.length : Int)).1), .int .i64 ((wrongS s (s.clock.length : Int)).2)]), (g148, 44, #[.slice A157 ((cellsL s.lives false).length) c158, .slice A167 ((cellsL s.lives true).length) c168, .slice (some ⟨gO, 0, none⟩) (F.length + 1) cO]), (g184, 82, #[.int .i64 z176.key, .int .i64 z176.author, .int .i64 z176.sum])] [] _ := (S.tk 6 0 rfl rfl).rw' rfl rfl
           refine n_lp (ak SC ?_)
           refine a_done (by kernel_rfl) ?_
           clear SC
           refine n_blk ?_
           refine n_seq ?_
           refine e_trim [(2, .pointer (some ⟨g19, 0, none⟩)), (3, .pointer (some ⟨g21, 0, none⟩)), (5, .pointer (some ⟨g148, 0, none⟩)), (27, .slice A14 s.tallies.length c15), (28, .int .i64 (s.tallies.length : Int)), (29, .int .i64 (k : Int)), (30, .bool true), (31, p178), (32, .agg #[.int .i64 z176.key, .int .i64 z176.author, .int .i64 z176.sum]), (7, .pointer (some ⟨g184, 0, none⟩)), (33, .pointer (some ⟨g148, 2, none⟩)), (34, .slice (some ⟨gO, 0, none⟩) (F.length + 1) cO), (35, .int .i64 ((F.length + 1 : Nat) : Int)), (36, .int .i64 (F.length : Int)), (8, .int .i64 (F.length : Int)), (37, .int .i64 (F.length : Int)), (38, .bool false), (39, .bool false), (40, .pointer (some ⟨g148, 2, none⟩)), (41, .slice (some ⟨gO, 0, none⟩) (F.length + 1) cO), (42, .int .i64 (F.length : Int)), (43, .pointer (some ⟨gO, F.length * 2, none⟩)), (44, .pointer (some ⟨gO, F.length * 2 + 0, none⟩)), (45, .int .i64 key), (46, .pointer (some ⟨g184, 0, none⟩)), (47, .int .i64 z176.key), (48, .bool false), (49, .bool false), (60, .pointer (some ⟨g148, 2, none⟩)), (61, .slice (some ⟨gO, 0, none⟩) (F.length + 1) cO), (62, .int .i64 (F.length : Int)), (63, .pointer (some ⟨gO, F.length * 2, none⟩)), (64, .pointer (some ⟨gO, F.length * 2 + 1, none⟩)), (66, .pointer (some ⟨g184, 2, none⟩)), (67, .int .i64 z176.sum), (69, .pointer (some ⟨gO, F.length * 2, none⟩)), (65, .int .i64 sum), (68, .int .i64 (sum + z176.sum)), (70, .pointer (some ⟨gO, F.length * 2 + 1, none⟩))] ⟨⟨rfl, rfl⟩, ⟨rfl, rfl⟩, ⟨rfl, rfl⟩, ⟨rfl, rfl⟩, ⟨rfl, rfl⟩, ⟨rfl, rfl⟩, ⟨rfl, rfl⟩, ⟨rfl, rfl⟩, ⟨rfl, rfl⟩, ⟨rfl, rfl⟩, ⟨rfl, rfl⟩, ⟨rfl, rfl⟩, ⟨rfl, rfl⟩, ⟨rfl, rfl⟩, ⟨rfl, rfl⟩, ⟨rfl, rfl⟩, ⟨rfl, rfl⟩, ⟨rfl, rfl⟩, ⟨rfl, rfl⟩, ⟨rfl, rfl⟩, ⟨rfl, rfl⟩, ⟨rfl, rfl⟩, ⟨rfl, rfl⟩, ⟨rfl, rfl⟩, ⟨rfl, rfl⟩, ⟨rfl, rfl⟩, ⟨rfl, rfl⟩, ⟨rfl, rfl⟩, ⟨rfl, rfl⟩, ⟨rfl, rfl⟩, ⟨rfl, rfl⟩, ⟨rfl, rfl⟩, ⟨rfl, rfl⟩, ⟨rfl, rfl⟩, ⟨rfl, rfl⟩, ⟨rfl, rfl⟩, ⟨rfl, rfl⟩, ⟨rfl, rfl⟩, ⟨rfl, rfl⟩, trivial⟩ (fun junk => ?_)
           refine e_reg ?_
           refine l_y (v := .int .i64 ((k : Int) + 1)) S (y_add (r := (k : Int) + 1) rfl rfl (w64 (by omega) (by omega))) ?_
           refine l_y (v := .int .i64 ((k : Int) + 1)) S (y_mv rfl) ?_
           refine l_nil ?_
           have htz := hts z176 (List.mem_of_getElem? hz177)
           refine n_lp ⟨(k + 1, (some ⟨gO, 0, none⟩), (F.length + 1), cO, (xsF ++ [.int .i64 key, .int .i64 (sum + z176.sum)])), _, fr_keep (m := [(2, .pointer (some ⟨g19, 0, none⟩)), (3, .pointer (some ⟨g21, 0, none⟩)), (5, .pointer (some ⟨g148, 0, none⟩)), (27, .slice A14 s.tallies.length c15), (28, .int .i64 (s.tallies.length : Int)), (29, .int .i64 ((k + 1 : Nat) : Int))]) ⟨⟨rfl, rfl⟩, ⟨rfl, rfl⟩, ⟨rfl, rfl⟩, ⟨rfl, rfl⟩, ⟨rfl, rfl⟩, ⟨ival (by first | rfl | omega), rfl⟩, trivial⟩, ⟨_, _, rfl, (S.tk 5 1 rfl rfl), (Rd.le_trans L173 (Rd.le_refl rd171)), (.inr ⟨F, xsF, key, sum + z176.sum, by rw [cnts_take hz177, hcs, cnt_add hk2], rfl, rfl, hF, by omega, by omega⟩), (by omega), (by first | omega | (simp; omega))⟩, ?_⟩
           show _ < _; dsimp only; omega
          exact aa_nil
         exact aa_nil
        · -- hk2 no
         refine q_g (d' := 39) (v := .bool true) (y_neT rfl rfl hk2) rfl rfl ?_
         refine q_y (v := .bool true) (y_pF rfl rfl) ?_
         refine q_nil fun w200 S => ?_
         refine n_seq ?_
         refine e_cT rfl ?_
         refine e_seq ?_
         refine e_reg ?_
         refine l_y (v := .pointer (some ⟨g148, 2, none⟩)) S (y_fb FA44_2 rfl rfl) ?_
         refine l_y (v := .slice (some ⟨gO, 0, none⟩) (F.length + 1) cO) S (y_ld rfl (fun w S => ld_b1 (i := 4) S rfl rfl T42)) ?_
         refine l_y (v := .pointer (some ⟨g184, 0, none⟩)) S (y_fb FA82_0 rfl rfl) ?_
         refine l_y (v := .int .i64 z176.key) S (y_ld rfl (fun w S => ld_b1 (i := 5) S rfl rfl T3)) ?_
         refine l_y (v := .pointer (some ⟨g184, 2, none⟩)) S (y_fb FA82_2 rfl rfl) ?_
         refine l_y (v := .int .i64 z176.sum) S (y_ld rfl (fun w S => ld_b1 (i := 5) S rfl rfl T3)) ?_
         refine l_y (v := .agg #[.int .i64 z176.key, .int .i64 z176.sum]) S (y_bd (ps := [(0, .int .i64 z176.key), (1, .int .i64 z176.sum)]) rfl (fun _ => by kernel_rfl)) ?_
         refine l_bs (ps := [(0, .agg #[.int .i64 z176.key, .int .i64 z176.sum])]) (cs := #[.int .i64 z176.key, .int .i64 z176.sum]) S U42 SZ57 Z57 rfl rfl rfl (by kernel_rfl) fun g201 w202 S => ?_
         refine l_ap (e' := 0) (i := 0) (i' := 6) S K42 rfl rfl rfl rfl rfl rfl rfl (by simp only [maxLen]; omega) (by dsimp only; omega) fun v203 w204 S => ?_
         obtain ⟨A205, c206, m207e, m207, m207'⟩ : ∃ A c, v203 = .slice A (F.length + 1 + 1) c ∧ (F.length + 1 + 1) ≤ c ∧ c ≤ maxLen := own_len S (i := 0) rfl; subst m207e
         refine l_y (v := .pointer (some ⟨g148, 2, none⟩)) S (y_fb FA44_2 rfl rfl) ?_
         refine l_st (u := .slice A205 (F.length + 1 + 1) c206) (i := 4) (cs' := #[.slice A157 ((cellsL s.lives false).length) c158, .slice A167 ((cellsL s.lives true).length) c168, .slice A205 (F.length + 1 + 1) c206]) S rfl rfl rfl SZ42 rfl rfl rfl fun w208 S => ?_
         refine l_nil ?_
         refine n_seq ?_
         refine e_trim [(2, .pointer (some ⟨g19, 0, none⟩)), (3, .pointer (some ⟨g21, 0, none⟩)), (5, .pointer (some ⟨g148, 0, none⟩)), (27, .slice A14 s.tallies.length c15), (28, .int .i64 (s.tallies.length : Int)), (29, .int .i64 (k : Int)), (30, .bool true), (31, p178), (32, .agg #[.int .i64 z176.key, .int .i64 z176.author, .int .i64 z176.sum]), (7, .pointer (some ⟨g184, 0, none⟩)), (33, .pointer (some ⟨g148, 2, none⟩)), (34, .slice (some ⟨gO, 0, none⟩) (F.length + 1) cO), (35, .int .i64 ((F.length + 1 : Nat) : Int)), (36, .int .i64 (F.length : Int)), (8, .int .i64 (F.length : Int)), (37, .int .i64 (F.length : Int)), (38, .bool false), (39, .bool false), (40, .pointer (some ⟨g148, 2, none⟩)), (41, .slice (some ⟨gO, 0, none⟩) (F.length + 1) cO), (42, .int .i64 (F.length : Int)), (43, .pointer (some ⟨gO, F.length * 2, none⟩)), (44, .pointer (some ⟨gO, F.length * 2 + 0, none⟩)), (45, .int .i64 key), (46, .pointer (some ⟨g184, 0, none⟩)), (47, .int .i64 z176.key), (48, .bool true), (49, .bool true), (50, .pointer (some ⟨g148, 2, none⟩)), (51, .slice (some ⟨gO, 0, none⟩) (F.length + 1) cO), (52, .pointer (some ⟨g184, 0, none⟩)), (53, .int .i64 z176.key), (54, .pointer (some ⟨g184, 2, none⟩)), (55, .int .i64 z176.sum), (56, .agg #[.int .i64 z176.key, .int .i64 z176.sum]), (57, .slice (some ⟨g201, 0, none⟩) 1 1), (58, .slice A205 (F.length + 1 + 1) c206), (59, .pointer (some ⟨g148, 2, none⟩))] ⟨⟨rfl, rfl⟩, ⟨rfl, rfl⟩, ⟨rfl, rfl⟩, ⟨rfl, rfl⟩, ⟨rfl, rfl⟩, ⟨rfl, rfl⟩, ⟨rfl, rfl⟩, ⟨rfl, rfl⟩, ⟨rfl, rfl⟩, ⟨rfl, rfl⟩, ⟨rfl, rfl⟩, ⟨rfl, rfl⟩, ⟨rfl, rfl⟩, ⟨rfl, rfl⟩, ⟨rfl, rfl⟩, ⟨rfl, rfl⟩, ⟨rfl, rfl⟩, ⟨rfl, rfl⟩, ⟨rfl, rfl⟩, ⟨rfl, rfl⟩, ⟨rfl, rfl⟩, ⟨rfl, rfl⟩, ⟨rfl, rfl⟩, ⟨rfl, rfl⟩, ⟨rfl, rfl⟩, ⟨rfl, rfl⟩, ⟨rfl, rfl⟩, ⟨rfl, rfl⟩, ⟨rfl, rfl⟩, ⟨rfl, rfl⟩, ⟨rfl, rfl⟩, ⟨rfl, rfl⟩, ⟨rfl, rfl⟩, ⟨rfl, rfl⟩, ⟨rfl, rfl⟩, ⟨rfl, rfl⟩, ⟨rfl, rfl⟩, ⟨rfl, rfl⟩, trivial⟩ (fun junk => ?_)
         refine e_exit ?_
         refine x_seq ?_
         refine x_hit ?_
         refine n_seq ?_
         refine e_reg ?_
         refine l_y (v := .int .i64 ((k : Int) + 1)) S (y_add (r := (k : Int) + 1) rfl rfl (w64 (by omega) (by omega))) ?_
         refine l_y (v := .int .i64 ((k : Int) + 1)) S (y_mv rfl) ?_
         refine l_nil ?_
         have htz := hts z176 (List.mem_of_getElem? hz177)
         refine n_lp ⟨(k + 1, A205, (F.length + 1 + 1), c206, ((xsF ++ [.int .i64 key, .int .i64 sum]) ++ [.int .i64 z176.key, .int .i64 z176.sum])), _, fr_keep (m := [(2, .pointer (some ⟨g19, 0, none⟩)), (3, .pointer (some ⟨g21, 0, none⟩)), (5, .pointer (some ⟨g148, 0, none⟩)), (27, .slice A14 s.tallies.length c15), (28, .int .i64 (s.tallies.length : Int)), (29, .int .i64 ((k + 1 : Nat) : Int))]) ⟨⟨rfl, rfl⟩, ⟨rfl, rfl⟩, ⟨rfl, rfl⟩, ⟨rfl, rfl⟩, ⟨rfl, rfl⟩, ⟨ival (by first | rfl | omega), rfl⟩, trivial⟩, ⟨_, _, rfl, (S.tk 5 1 rfl rfl), (Rd.le_trans L173 (Rd.le_refl rd171)), (.inr ⟨F ++ [⟨key, sum⟩], xsF ++ [.int .i64 key, .int .i64 sum], z176.key, z176.sum, by rw [cnts_take hz177, hcs, cnt_new hk2], by simp, rfl, RowR.push (cs := [.int .i64 key, .int .i64 sum]) (x := (⟨key, sum⟩ : Pair)) hF rfl rfl, by omega, by omega⟩), (by omega), (by first | omega | (simp; omega))⟩, ?_⟩
         show _ < _; dsimp only; omega
      · -- h175 no
       refine l_y (v := .bool false) S (y_ltF rfl rfl h175) ?_
       refine l_nil ?_
       refine n_seq ?_
       refine e_seq ?_
       refine e_cF rfl ?_
       refine e_exit ?_
       refine x_seq ?_
       refine x_lp ?_
       refine x_hit ?_
       refine n_seq ?_
       refine e_seq ?_
       refine e_reg ?_
       rcases HC with ⟨hcs, rfl, rfl⟩ | ⟨F, xsF, key, sum, hcs, rfl, rfl, hF, hs1, hs2⟩
       · -- none yet
        have hrow : RowR 2 PairR rd171 [] ([] : List Pair) := rfl
        refine l_y (v := .agg #[.slice A157 ((cellsL s.lives false).length) c158, .slice A167 ((cellsL s.lives true).length) c168, .slice AO 0 cO]) S (y_ld rfl (fun w S => ld_bA (vs := [.slice A157 ((cellsL s.lives false).length) c158, .slice A167 ((cellsL s.lives true).length) c168, .slice AO 0 cO]) (i := 4) S rfl T44 rfl rfl)) ?_
        refine l_y (v := .agg #[.int .i64 0, .int .i64 0]) S (y_bd (ps := []) rfl (fun _ => by kernel_rfl)) ?_
        refine l_st (u := .agg #[.slice A157 ((cellsL s.lives false).length) c158, .slice A167 ((cellsL s.lives true).length) c168, .slice AO 0 cO]) (i := 1) (cs' := #[.slice A157 ((cellsL s.lives false).length) c158, .slice A167 ((cellsL s.lives true).length) c168, .slice AO 0 cO]) S rfl rfl rfl SZ44 rfl rfl rfl fun w209 S => ?_
        refine l_st (u := .agg #[.int .i64 0, .int .i64 0]) (i := 2) (cs' := #[.int .i64 0, .int .i64 0]) S rfl rfl rfl SZ33 rfl rfl rfl fun w210 S => ?_
        refine l_nil ?_
        refine n_seq ?_
        refine e_ret ?_
        refine ret2 (v := .agg #[.slice A157 ((cellsL s.lives false).length) c158, .slice A167 ((cellsL s.lives true).length) c168, .slice AO 0 cO]) (v' := .agg #[.int .i64 0, .int .i64 0]) rfl ⟨_, rfl, ld_bA (i := 1) (vs := [.slice A157 ((cellsL s.lives false).length) c158, .slice A167 ((cellsL s.lives true).length) c168, .slice AO 0 cO]) S rfl T44 rfl rfl⟩ ⟨_, rfl, ld_bA (i := 2) (vs := [.int .i64 0, .int .i64 0]) S rfl T33 rfl rfl⟩ ?_
        have ek : s.tallies.take k = s.tallies := List.take_of_length_le (by omega); rw [ek] at hcs
        rw [ReadS_2 hW]; unfold readS; rw [hcs]
        exact ⟨_, rfl, ⟨_, rfl, ⟨_, _, _, rfl, (fm h156 S.out), (fm h166 S.out), (S.rowOut (i := 0) rfl rfl (by first | rfl | (simp; done) | omega) rfl hrow)⟩⟩, S.below⟩
       · -- some
        have hxl := hF.len
        obtain ⟨gO, rfl⟩ := own_atA S (i := 0) rfl rfl (Nat.succ_ne_zero _)
        have hrow : RowR 2 PairR rd171 (xsF ++ [.int .i64 key, .int .i64 sum]) (F ++ [(⟨key, sum⟩ : Pair)]) := RowR.push (cs := [.int .i64 key, .int .i64 sum]) (x := (⟨key, sum⟩ : Pair)) hF rfl rfl
        refine l_y (v := .agg #[.slice A157 ((cellsL s.lives false).length) c158, .slice A167 ((cellsL s.lives true).length) c168, .slice (some ⟨gO, 0, none⟩) (F.length + 1) cO]) S (y_ld rfl (fun w S => ld_bA (vs := [.slice A157 ((cellsL s.lives false).length) c158, .slice A167 ((cellsL s.lives true).length) c168, .slice (some ⟨gO, 0, none⟩) (F.length + 1) cO]) (i := 4) S rfl T44 rfl rfl)) ?_
        refine l_y (v := .agg #[.int .i64 0, .int .i64 0]) S (y_bd (ps := []) rfl (fun _ => by kernel_rfl)) ?_
        refine l_st (u := .agg #[.slice A157 ((cellsL s.lives false).length) c158, .slice A167 ((cellsL s.lives true).length) c168, .slice (some ⟨gO, 0, none⟩) (F.length + 1) cO]) (i := 1) (cs' := #[.slice A157 ((cellsL s.lives false).length) c158, .slice A167 ((cellsL s.lives true).length) c168, .slice (some ⟨gO, 0, none⟩) (F.length + 1) cO]) S rfl rfl rfl SZ44 rfl rfl rfl fun w211 S => ?_
        refine l_st (u := .agg #[.int .i64 0, .int .i64 0]) (i := 2) (cs' := #[.int .i64 0, .int .i64 0]) S rfl rfl rfl SZ33 rfl rfl rfl fun w212 S => ?_
        refine l_nil ?_
        refine n_seq ?_
        refine e_ret ?_
        refine ret2 (v := .agg #[.slice A157 ((cellsL s.lives false).length) c158, .slice A167 ((cellsL s.lives true).length) c168, .slice (some ⟨gO, 0, none⟩) (F.length + 1) cO]) (v' := .agg #[.int .i64 0, .int .i64 0]) rfl ⟨_, rfl, ld_bA (i := 1) (vs := [.slice A157 ((cellsL s.lives false).length) c158, .slice A167 ((cellsL s.lives true).length) c168, .slice (some ⟨gO, 0, none⟩) (F.length + 1) cO]) S rfl T44 rfl rfl⟩ ⟨_, rfl, ld_bA (i := 2) (vs := [.int .i64 0, .int .i64 0]) S rfl T33 rfl rfl⟩ ?_
        have ek : s.tallies.take k = s.tallies := List.take_of_length_le (by omega); rw [ek] at hcs
        rw [ReadS_2 hW]; unfold readS; rw [hcs]
        exact ⟨_, rfl, ⟨_, rfl, ⟨_, _, _, rfl, (fm h156 S.out), (fm h166 S.out), (S.rowOut (i := 0) rfl rfl (by simp) rfl hrow)⟩⟩, S.below⟩
     exact aa_nil
    exact aa_nil
   exact aa_nil
  exact aa_nil
 · -- hW no
  refine l_y (v := .bool true) S (y_neT rfl rfl hW) ?_
  refine l_nil ?_
  refine n_seq ?_
  refine e_cT rfl ?_
  refine e_seq ?_
  refine e_a (fun w => St [] W rd rd [(g17, 27, #[.slice A8 s.clock.length c9, .slice A11 s.lives.length c12, .slice A14 s.tallies.length c15]), (g24, 33, #[.int .i64 ((wrongS s (s.clock.length : Int)).1), .int .i64 ((wrongS s (s.clock.length : Int)).2)])] [] w) MX rfl ?_
  have S := S.drew; have sup213 := S.sup
  have SC : St [] W rd rd [(g17, 27, #[.slice A8 s.clock.length c9, .slice A11 s.lives.length c12, .slice A14 s.tallies.length c15]), (g24, 33, #[.int .i64 ((wrongS s (s.clock.length : Int)).1), .int .i64 ((wrongS s (s.clock.length : Int)).2)])] [] _ := (((S.tk 4 0 rfl rfl).del 2).del 1).rw' rfl rfl
  refine a_take (v := .agg #[.slice none 0 0, .slice none 0 0, .slice none 0 0]) 0 rfl rfl (by kernel_rfl) (by kernel_rfl) (by kernel_rfl) SC rfl (y_bd (ps := []) rfl (fun _ => by kernel_rfl)) ?_
  refine a_take (v := .agg #[.int .i64 ((wrongS s (s.clock.length : Int)).1), .int .i64 ((wrongS s (s.clock.length : Int)).2)]) 1 rfl rfl (by kernel_rfl) (by kernel_rfl) (by kernel_rfl) SC rfl (y_ld rfl (fun w S => ld_bA (vs := [.int .i64 ((wrongS s (s.clock.length : Int)).1), .int .i64 ((wrongS s (s.clock.length : Int)).2)]) (i := 1) S rfl T33 rfl rfl)) ?_
  refine a_all (rs := [2]) (by kernel_rfl) rfl ?_
  refine aa_cons rfl ?_ ?_
  · -- operation 2
   refine l_st (u := .agg #[.slice none 0 0, .slice none 0 0, .slice none 0 0]) (i := 1) (cs' := #[.slice none 0 0, .slice none 0 0, .slice none 0 0]) S rfl rfl rfl SZ44 rfl rfl rfl fun w214 S => ?_
   refine l_nil ?_
   have SC : St [] W rd rd [(g17, 27, #[.slice A8 s.clock.length c9, .slice A11 s.lives.length c12, .slice A14 s.tallies.length c15]), (g24, 33, #[.int .i64 ((wrongS s (s.clock.length : Int)).1), .int .i64 ((wrongS s (s.clock.length : Int)).2)])] [] _ := (((S.tk 4 0 rfl rfl).del 2).del 1).rw' rfl rfl
   refine n_lp (ak SC ?_)
   refine a_all (rs := [3]) (by kernel_rfl) rfl ?_
   refine aa_cons rfl ?_ ?_
   · -- operation 3
    refine l_st (u := .agg #[.int .i64 ((wrongS s (s.clock.length : Int)).1), .int .i64 ((wrongS s (s.clock.length : Int)).2)]) (i := 2) (cs' := #[.int .i64 ((wrongS s (s.clock.length : Int)).1), .int .i64 ((wrongS s (s.clock.length : Int)).2)]) S rfl rfl rfl SZ33 rfl rfl rfl fun w215 S => ?_
    refine l_nil ?_
    have SC : St [] W rd rd [(g17, 27, #[.slice A8 s.clock.length c9, .slice A11 s.lives.length c12, .slice A14 s.tallies.length c15]), (g24, 33, #[.int .i64 ((wrongS s (s.clock.length : Int)).1), .int .i64 ((wrongS s (s.clock.length : Int)).2)])] [] _ := (((S.tk 4 0 rfl rfl).del 2).del 1).rw' rfl rfl
    refine n_lp (ak SC ?_)
    refine a_done (by kernel_rfl) ?_
    clear SC
    refine n_seq ?_
    refine e_ret ?_
    refine ret2 (v := .agg #[.slice none 0 0, .slice none 0 0, .slice none 0 0]) (v' := .agg #[.int .i64 ((wrongS s (s.clock.length : Int)).1), .int .i64 ((wrongS s (s.clock.length : Int)).2)]) rfl ⟨_, rfl, ld_bA (i := 1) (vs := [.slice none 0 0, .slice none 0 0, .slice none 0 0]) S rfl T44 rfl rfl⟩ ⟨_, rfl, ld_bA (i := 2) (vs := [.int .i64 ((wrongS s (s.clock.length : Int)).1), .int .i64 ((wrongS s (s.clock.length : Int)).2)]) S rfl T33 rfl rfl⟩ ?_
    rw [ReadS_1 hW]
    exact ⟨_, rfl, ⟨_, rfl, ⟨_, _, _, rfl, (SliceR.nil_ _), (SliceR.nil_ _), (SliceR.nil_ _)⟩⟩, S.below⟩
   exact aa_nil
  exact aa_nil
end Go.Proofs.Ytkjknlnhffmkkab
