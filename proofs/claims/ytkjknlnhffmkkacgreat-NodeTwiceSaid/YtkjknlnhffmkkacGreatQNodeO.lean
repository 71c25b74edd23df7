/- node.own, node.Start. -/
import Derived.Test.YtkjknlnhffmkkacGreatQNodeW
import Derived.Test.YtkjknlnhffmkkacGreatQPlay
import Derived.Test.YtkjknlnhffmkkacGreatQEg
namespace Go.Proofs.YtkjknlnhffmkkacGreat
open Go.RowKit
set_option linter.unusedVariables false
theorem CloneC_m (rd : Rd) (W : World) (hle : Rd.le rd (wrd W)) (v : Value) (l : List Int) (h : SliceR 1 IntR rd v l) (hb : l.length * 8 ≤ 140737488355328) : Calls Tryz.prog 45 #[v] W fun e w' => ∃ v', e = .returned v' ∧ SliceR 1 IntR (ext rd W w') v' l ∧ Below W.heap.size W w' :=
  (CloneC_o rd W hle v l h hb).mono fun e w' ⟨v', xs, h1, h2, h3, k⟩ => ⟨v', h1, own_ext1 (h2.at (i := 0) rfl) h3 (le_ext hle), k⟩
theorem UOwn_m (rd : Rd) (W : World) (hle : Rd.le rd (wrd W)) (v : Value) (u : Upd) (h : AggR UpdR rd v u) (hb : u.seen.length * 8 ≤ 140737488355328) : Calls Tryz.prog 77 #[v] W fun e w' => ∃ v', e = .returned v' ∧ AggR UpdR (ext rd W w') v' u ∧ Below W.heap.size W w' :=
  (Own_calls v u rd W h hle hb).mono fun e w' ⟨r, h1, h2, k⟩ => ⟨r, h1, am h2 newer_ext, k⟩
set_option maxRecDepth 100000 in
set_option maxHeartbeats 8000000 in
theorem NOwn_c (rd : Rd) (W : World) (hle : Rd.le rd (wrd W)) (v : Value) (d : Node) (n : Int) (h : AggR NodeR rd v d) (hr : RightN d n) :
    Calls Tryz.prog 41 #[v] W (fun e w' => ∃ A1 c1 A2 c2 A3 c3 A4 c4 Al cl xl Ak ck xk rd', e = .returned (.agg #[.int .i64 d.self, .slice A1 d.state.clock.length c1, .slice A2 d.state.lives.length c2, .slice A3 d.state.tallies.length c3, .slice A4 d.base.length c4, .slice Al d.log.length cl, .slice Ak d.known.length ck]) ∧ St [] W rd rd' [] [⟨42, 5, .slice Al d.log.length cl, d.log.length, xl⟩, ⟨23, 1, .slice Ak d.known.length ck, d.known.length, xk⟩] w' ∧ SliceR 1 IntR rd' (.slice A1 d.state.clock.length c1) d.state.clock ∧ SliceR 5 LiveR rd' (.slice A2 d.state.lives.length c2) d.state.lives ∧ SliceR 3 TallyR rd' (.slice A3 d.state.tallies.length c3) d.state.tallies ∧ SliceR 1 IntR rd' (.slice A4 d.base.length c4) d.base ∧ RowR 5 UpdR rd' xl d.log ∧ RowR 1 (SlC 1 IntR) rd' xk d.known) := by
 obtain ⟨vs1, he, h⟩ := h; subst he
 obtain ⟨sv2, sv4, sv6, sv8, sv10, sv12, he, h3, h5, h7, h9, h11, h13⟩ := h; subst he
 obtain ⟨A14, c15, rfl, m16, m16'⟩ := h3.val
 obtain ⟨A17, c18, rfl, m19, m19'⟩ := h5.val
 obtain ⟨A20, c21, rfl, m22, m22'⟩ := h7.val
 obtain ⟨A23, c24, rfl, m25, m25'⟩ := h9.val
 obtain ⟨A26, c27, rfl, m28, m28'⟩ := h11.val
 obtain ⟨A29, c30, rfl, m31, m31'⟩ := h13.val
 have hmx : maxLen = 9223372036854775807 := rfl
 have hl6 := hr.len; have hl3 := hr.l; have hk6 := hr.k
 have S : St [] W rd rd [] [] W := St.start hle
 refine e_enter (args := [.agg #[ni d.self, .slice A14 d.state.clock.length c15, .slice A17 d.state.lives.length c18, .slice A20 d.state.tallies.length c21, .slice A23 d.base.length c24, .slice A26 d.log.length c27, .slice A29 d.known.length c30]]) 48 Tryz.func41 rfl rfl rfl ?_
 refine e_seq ?_
 refine e_reg ?_
 refine l_bx (u := .agg #[ni d.self, .slice A14 d.state.clock.length c15, .slice A17 d.state.lives.length c18, .slice A20 d.state.tallies.length c21, .slice A23 d.base.length c24, .slice A26 d.log.length c27, .slice A29 d.known.length c30]) (cs := #[ni d.self, .slice A14 d.state.clock.length c15, .slice A17 d.state.lives.length c18, .slice A20 d.state.tallies.length c21, .slice A23 d.base.length c24, .slice A26 d.log.length c27, .slice A29 d.known.length c30]) S rfl rfl fun g32 w33 S => ?_
 refine l_al (cs := #[ni 0, .slice none 0 0, .slice none 0 0, .slice none 0 0, .slice none 0 0, .slice none 0 0, .slice none 0 0]) S Z31 rfl fun g34 w35 S => ?_
 refine l_nil ?_
 refine n_seq ?_
 refine e_cut (J := fun ov w => ∃ (g3 : Nat), ∃ (A0 : Option Addr), ∃ (c0 : Nat), ∃ (A1 : Option Addr), ∃ (c1 : Nat), ∃ (A2 : Option Addr), ∃ (c2 : Nat), ∃ (A3 : Option Addr), ∃ (c3 : Nat), ∃ rd' junk, ov = [(1, pa g32 0), (2, pa g34 0), (3, pa g3 0)] ++ junk ∧ St [] W rd rd' [(g32, 31, #[ni d.self, .slice A14 d.state.clock.length c15, .slice A17 d.state.lives.length c18, .slice A20 d.state.tallies.length c21, .slice A23 d.base.length c24, .slice A26 d.log.length c27, .slice A29 d.known.length c30]), (g34, 31, #[ni 0, .slice none 0 0, .slice none 0 0, .slice none 0 0, .slice none 0 0, .slice none 0 0, .slice none 0 0]), (g3, 31, #[ni d.self, .slice A0 d.state.clock.length c0, .slice A1 d.state.lives.length c1, .slice A2 d.state.tallies.length c2, .slice A3 d.base.length c3, .slice none 0 0, .slice none 0 0])] [] w ∧ Rd.le rd rd' ∧ SliceR 1 IntR rd' (.slice A0 d.state.clock.length c0) d.state.clock ∧ SliceR 5 LiveR rd' (.slice A1 d.state.lives.length c1) d.state.lives ∧ SliceR 3 TallyR rd' (.slice A2 d.state.tallies.length c2) d.state.tallies ∧ SliceR 1 IntR rd' (.slice A3 d.base.length c3) d.base) ?_ ?_
 ·
  refine e_a (fun w => St [] W rd rd [(g32, 31, #[ni d.self, .slice A14 d.state.clock.length c15, .slice A17 d.state.lives.length c18, .slice A20 d.state.tallies.length c21, .slice A23 d.base.length c24, .slice A26 d.log.length c27, .slice A29 d.known.length c30]), (g34, 31, #[ni 0, .slice none 0 0, .slice none 0 0, .slice none 0 0, .slice none 0 0, .slice none 0 0, .slice none 0 0])] [] w) MX rfl ?_
  have S := S.drew; have sup36 := S.sup
  have SC := (S.tk 2 0 rfl rfl)
  refine a_tk (v := pa g32 0) 0 rfl rfl SC rfl (y_fb FA31_0 rfl rfl) ?_
  refine a_tk (v := ni d.self) 1 rfl rfl SC rfl (y_ld rfl (fun w S => ld_b1 (i := 0) S rfl rfl T3)) ?_
  refine a_tk (v := pa g32 1) 2 rfl rfl SC rfl (y_fb FA31_1 rfl rfl) ?_
  refine a_tk (v := .agg #[.slice A14 d.state.clock.length c15, .slice A17 d.state.lives.length c18, .slice A20 d.state.tallies.length c21]) 3 rfl rfl SC rfl (y_ld rfl (fun w S => ld_bA (vs := [.slice A14 d.state.clock.length c15, .slice A17 d.state.lives.length c18, .slice A20 d.state.tallies.length c21]) (i := 0) S rfl T27 rfl rfl)) ?_
  refine a_tk (v := pa g32 4) 5 rfl rfl SC rfl (y_fb FA31_2 rfl rfl) ?_
  refine a_tk (v := .slice A23 d.base.length c24) 6 rfl rfl SC rfl (y_ld rfl (fun w S => ld_b1 (i := 0) S rfl rfl T23)) ?_
  refine a_all (rs := [4, 9]) (by kernel_rfl) rfl ?_
  refine aa_cons rfl ?_ ?_
  ·
   refine l_c (en_f (vs := [.agg #[.slice A14 d.state.clock.length c15, .slice A17 d.state.lives.length c18, .slice A20 d.state.tallies.length c21]]) (CF 58 _) rfl rfl) (SOwn2_c _ _ S.le _ d.state (⟨_, rfl, ⟨_, _, _, rfl, h3, h5, h7⟩⟩ : AggR StateR rd _ d.state) hr.s.bd) ?_
   rintro e w37 ⟨v42, rfl, h43, k⟩
   obtain ⟨rd38, S, L39, N40, X41⟩ := S.call' k; clear k
   replace h3 := fm h3 L39
   replace h5 := fm h5 L39
   replace h7 := fm h7 L39
   replace h9 := fm h9 L39
   replace h11 := fm h11 L39
   replace h13 := fm h13 L39
   replace h43 := am h43 X41
   obtain ⟨cs44, h43v, h43⟩ := h43; subst h43v
   obtain ⟨sv45, sv47, sv49, h43e, h46, h48, h50⟩ := h43; subst h43e
   obtain ⟨A51, c52, rfl, m53, m53'⟩ := h46.val
   obtain ⟨A54, c55, rfl, m56, m56'⟩ := h48.val
   obtain ⟨A57, c58, rfl, m59, m59'⟩ := h50.val
   refine ckd ?_
   refine l_nil ?_
   have SC := ((S.tk 2 0 rfl rfl).weak sup36 L39)
   refine n_lp (ak SC ?_)
   refine a_all (rs := [7, 9]) (by kernel_rfl) rfl ?_
   refine aa_cons rfl ?_ ?_
   ·
    refine l_c (en_f (vs := [.slice A23 d.base.length c24]) (CF 45 _) rfl rfl) (CloneC_m _ _ S.le _ d.base h9 (by omega)) ?_
    rintro e w60 ⟨v65, rfl, h66, k⟩
    obtain ⟨rd61, S, L62, N63, X64⟩ := S.call' k; clear k
    replace h3 := fm h3 L62
    replace h5 := fm h5 L62
    replace h7 := fm h7 L62
    replace h9 := fm h9 L62
    replace h11 := fm h11 L62
    replace h13 := fm h13 L62
    replace h46 := fm h46 L62
    replace h48 := fm h48 L62
    replace h50 := fm h50 L62
    replace h66 := fm h66 X64
    obtain ⟨A67, c68, rfl, m69, m69'⟩ := h66.val
    refine ckd ?_
    refine l_nil ?_
    have SC := ((S.tk 2 0 rfl rfl).weak sup36 (Rd.le_trans L39 L62))
    refine n_lp (ak SC ?_)
    refine a_tk (v := .agg #[ni d.self, .slice A51 d.state.clock.length c52, .slice A54 d.state.lives.length c55, .slice A57 d.state.tallies.length c58, .slice A67 d.base.length c68, .slice none 0 0, .slice none 0 0]) 8 rfl rfl SC rfl (y_bd (ps := [(0, ni d.self), (1, .agg #[.slice A51 d.state.clock.length c52, .slice A54 d.state.lives.length c55, .slice A57 d.state.tallies.length c58]), (2, .slice A67 d.base.length c68)]) rfl (fun _ => by kernel_rfl)) ?_
    refine a_all (rs := [9]) (by kernel_rfl) rfl ?_
    refine aa_cons rfl ?_ ?_
    ·
     refine l_al (cs := #[ni 0, .slice none 0 0, .slice none 0 0, .slice none 0 0, .slice none 0 0, .slice none 0 0, .slice none 0 0]) S Z31 rfl fun g70 w71 S => ?_
     refine l_nil ?_
     have SC := ((S.tk 2 0 rfl rfl).weak sup36 (Rd.le_trans L39 L62))
     refine n_lp (ak SC ?_)
     refine a_all (rs := [10]) (by kernel_rfl) rfl ?_
     refine aa_cons rfl ?_ ?_
     ·
      refine l_st (u := .agg #[ni d.self, .slice A51 d.state.clock.length c52, .slice A54 d.state.lives.length c55, .slice A57 d.state.tallies.length c58, .slice A67 d.base.length c68, .slice none 0 0, .slice none 0 0]) (i := 2) (cs' := #[ni d.self, .slice A51 d.state.clock.length c52, .slice A54 d.state.lives.length c55, .slice A57 d.state.tallies.length c58, .slice A67 d.base.length c68, .slice none 0 0, .slice none 0 0]) S rfl rfl rfl SZ31 rfl rfl rfl fun w72 S => ?_
      refine l_nil ?_
      have SC := ((S.tk 2 0 rfl rfl).weak sup36 (Rd.le_trans L39 L62))
      refine n_lp (ak SC ?_)
      refine a_done (by kernel_rfl) ?_
      clear SC
      refine n_lp ⟨_, fr_keep (m := [(1, pa g32 0), (2, pa g34 0), (3, pa g70 0)]) ⟨⟨rfl, rfl⟩, ⟨rfl, rfl⟩, ⟨rfl, rfl⟩, trivial⟩, g70, A51, c52, A54, c55, A57, c58, A67, c68, _, _, rfl, (S.tk 3 0 rfl rfl).rw' rfl rfl, (Rd.le_trans (Rd.le_trans (Rd.le_refl rd) L39) L62), h46, h48, h50, h66⟩
     exact aa_nil
    exact aa_nil
   refine aa_cons rfl ?_ ?_
   ·
    refine l_al (cs := #[ni 0, .slice none 0 0, .slice none 0 0, .slice none 0 0, .slice none 0 0, .slice none 0 0, .slice none 0 0]) S Z31 rfl fun g73 w74 S => ?_
    refine l_nil ?_
    have SC := ((S.tk 2 0 rfl rfl).weak sup36 L39)
    refine n_lp (ak SC ?_)
    refine a_all (rs := [7]) (by kernel_rfl) rfl ?_
    refine aa_cons rfl ?_ ?_
    ·
     refine l_c (en_f (vs := [.slice A23 d.base.length c24]) (CF 45 _) rfl rfl) (CloneC_m _ _ S.le _ d.base h9 (by omega)) ?_
     rintro e w75 ⟨v80, rfl, h81, k⟩
     obtain ⟨rd76, S, L77, N78, X79⟩ := S.call' k; clear k
     replace h3 := fm h3 L77
     replace h5 := fm h5 L77
     replace h7 := fm h7 L77
     replace h9 := fm h9 L77
     replace h11 := fm h11 L77
     replace h13 := fm h13 L77
     replace h46 := fm h46 L77
     replace h48 := fm h48 L77
     replace h50 := fm h50 L77
     replace h81 := fm h81 X79
     obtain ⟨A82, c83, rfl, m84, m84'⟩ := h81.val
     refine ckd ?_
     refine l_nil ?_
     have SC := ((S.tk 2 0 rfl rfl).weak sup36 (Rd.le_trans L39 L77))
     refine n_lp (ak SC ?_)
     refine a_tk (v := .agg #[ni d.self, .slice A51 d.state.clock.length c52, .slice A54 d.state.lives.length c55, .slice A57 d.state.tallies.length c58, .slice A82 d.base.length c83, .slice none 0 0, .slice none 0 0]) 8 rfl rfl SC rfl (y_bd (ps := [(0, ni d.self), (1, .agg #[.slice A51 d.state.clock.length c52, .slice A54 d.state.lives.length c55, .slice A57 d.state.tallies.length c58]), (2, .slice A82 d.base.length c83)]) rfl (fun _ => by kernel_rfl)) ?_
     refine a_all (rs := [10]) (by kernel_rfl) rfl ?_
     refine aa_cons rfl ?_ ?_
     ·
      refine l_st (u := .agg #[ni d.self, .slice A51 d.state.clock.length c52, .slice A54 d.state.lives.length c55, .slice A57 d.state.tallies.length c58, .slice A82 d.base.length c83, .slice none 0 0, .slice none 0 0]) (i := 2) (cs' := #[ni d.self, .slice A51 d.state.clock.length c52, .slice A54 d.state.lives.length c55, .slice A57 d.state.tallies.length c58, .slice A82 d.base.length c83, .slice none 0 0, .slice none 0 0]) S rfl rfl rfl SZ31 rfl rfl rfl fun w85 S => ?_
      refine l_nil ?_
      have SC := ((S.tk 2 0 rfl rfl).weak sup36 (Rd.le_trans L39 L77))
      refine n_lp (ak SC ?_)
      refine a_done (by kernel_rfl) ?_
      clear SC
      refine n_lp ⟨_, fr_keep (m := [(1, pa g32 0), (2, pa g34 0), (3, pa g73 0)]) ⟨⟨rfl, rfl⟩, ⟨rfl, rfl⟩, ⟨rfl, rfl⟩, trivial⟩, g73, A51, c52, A54, c55, A57, c58, A82, c83, _, _, rfl, (S.tk 3 0 rfl rfl).rw' rfl rfl, (Rd.le_trans (Rd.le_trans (Rd.le_refl rd) L39) L77), h46, h48, h50, h81⟩
     exact aa_nil
    exact aa_nil
   exact aa_nil
  refine aa_cons rfl ?_ ?_
  ·
   refine l_al (cs := #[ni 0, .slice none 0 0, .slice none 0 0, .slice none 0 0, .slice none 0 0, .slice none 0 0, .slice none 0 0]) S Z31 rfl fun g86 w87 S => ?_
   refine l_nil ?_
   have SC := (S.tk 2 0 rfl rfl)
   refine n_lp (ak SC ?_)
   refine a_all (rs := [4]) (by kernel_rfl) rfl ?_
   refine aa_cons rfl ?_ ?_
   ·
    refine l_c (en_f (vs := [.agg #[.slice A14 d.state.clock.length c15, .slice A17 d.state.lives.length c18, .slice A20 d.state.tallies.length c21]]) (CF 58 _) rfl rfl) (SOwn2_c _ _ S.le _ d.state (⟨_, rfl, ⟨_, _, _, rfl, h3, h5, h7⟩⟩ : AggR StateR rd _ d.state) hr.s.bd) ?_
    rintro e w88 ⟨v93, rfl, h94, k⟩
    obtain ⟨rd89, S, L90, N91, X92⟩ := S.call' k; clear k
    replace h3 := fm h3 L90
    replace h5 := fm h5 L90
    replace h7 := fm h7 L90
    replace h9 := fm h9 L90
    replace h11 := fm h11 L90
    replace h13 := fm h13 L90
    replace h94 := am h94 X92
    obtain ⟨cs95, h94v, h94⟩ := h94; subst h94v
    obtain ⟨sv96, sv98, sv100, h94e, h97, h99, h101⟩ := h94; subst h94e
    obtain ⟨A102, c103, rfl, m104, m104'⟩ := h97.val
    obtain ⟨A105, c106, rfl, m107, m107'⟩ := h99.val
    obtain ⟨A108, c109, rfl, m110, m110'⟩ := h101.val
    refine ckd ?_
    refine l_nil ?_
    have SC := ((S.tk 2 0 rfl rfl).weak sup36 L90)
    refine n_lp (ak SC ?_)
    refine a_all (rs := [7]) (by kernel_rfl) rfl ?_
    refine aa_cons rfl ?_ ?_
    ·
     refine l_c (en_f (vs := [.slice A23 d.base.length c24]) (CF 45 _) rfl rfl) (CloneC_m _ _ S.le _ d.base h9 (by omega)) ?_
     rintro e w111 ⟨v116, rfl, h117, k⟩
     obtain ⟨rd112, S, L113, N114, X115⟩ := S.call' k; clear k
     replace h3 := fm h3 L113
     replace h5 := fm h5 L113
     replace h7 := fm h7 L113
     replace h9 := fm h9 L113
     replace h11 := fm h11 L113
     replace h13 := fm h13 L113
     replace h97 := fm h97 L113
     replace h99 := fm h99 L113
     replace h101 := fm h101 L113
     replace h117 := fm h117 X115
     obtain ⟨A118, c119, rfl, m120, m120'⟩ := h117.val
     refine ckd ?_
     refine l_nil ?_
     have SC := ((S.tk 2 0 rfl rfl).weak sup36 (Rd.le_trans L90 L113))
     refine n_lp (ak SC ?_)
     refine a_tk (v := .agg #[ni d.self, .slice A102 d.state.clock.length c103, .slice A105 d.state.lives.length c106, .slice A108 d.state.tallies.length c109, .slice A118 d.base.length c119, .slice none 0 0, .slice none 0 0]) 8 rfl rfl SC rfl (y_bd (ps := [(0, ni d.self), (1, .agg #[.slice A102 d.state.clock.length c103, .slice A105 d.state.lives.length c106, .slice A108 d.state.tallies.length c109]), (2, .slice A118 d.base.length c119)]) rfl (fun _ => by kernel_rfl)) ?_
     refine a_all (rs := [10]) (by kernel_rfl) rfl ?_
     refine aa_cons rfl ?_ ?_
     ·
      refine l_st (u := .agg #[ni d.self, .slice A102 d.state.clock.length c103, .slice A105 d.state.lives.length c106, .slice A108 d.state.tallies.length c109, .slice A118 d.base.length c119, .slice none 0 0, .slice none 0 0]) (i := 2) (cs' := #[ni d.self, .slice A102 d.state.clock.length c103, .slice A105 d.state.lives.length c106, .slice A108 d.state.tallies.length c109, .slice A118 d.base.length c119, .slice none 0 0, .slice none 0 0]) S rfl rfl rfl SZ31 rfl rfl rfl fun w121 S => ?_
      refine l_nil ?_
      have SC := ((S.tk 2 0 rfl rfl).weak sup36 (Rd.le_trans L90 L113))
      refine n_lp (ak SC ?_)
      refine a_done (by kernel_rfl) ?_
      clear SC
      refine n_lp ⟨_, fr_keep (m := [(1, pa g32 0), (2, pa g34 0), (3, pa g86 0)]) ⟨⟨rfl, rfl⟩, ⟨rfl, rfl⟩, ⟨rfl, rfl⟩, trivial⟩, g86, A102, c103, A105, c106, A108, c109, A118, c119, _, _, rfl, (S.tk 3 0 rfl rfl).rw' rfl rfl, (Rd.le_trans (Rd.le_trans (Rd.le_refl rd) L90) L113), h97, h99, h101, h117⟩
     exact aa_nil
    exact aa_nil
   exact aa_nil
  exact aa_nil
 rintro ov125 w124 ⟨g3, A0, c0, A1, c1, A2, c2, A3, c3, rd122, junk, rfl, S, L123, f1, f2, f3, f4⟩
 replace h3 := fm h3 L123
 replace h5 := fm h5 L123
 replace h7 := fm h7 L123
 replace h9 := fm h9 L123
 replace h11 := fm h11 L123
 replace h13 := fm h13 L123
 refine e_seq ?_
 refine e_seq ?_
 refine e_reg ?_
 refine l_y (v := pa g32 5) S (y_fb FA31_3 rfl rfl) ?_
 refine l_y (v := .slice A26 d.log.length c27) S (y_ld rfl (fun w S => ld_b1 (i := 0) S rfl rfl T28)) ?_
 refine l_y (v := ni (d.log.length : Int)) S (y_len U28 rfl rfl) ?_
 refine l_y (v := ni 0) S (y_mv rfl) ?_
 refine l_nil ?_
 refine n_seq ?_
 refine e_blk ?_
 have S := S.ownNil 42 5
 have O126 : RowR 5 UpdR rd122 [] [] := rfl
 refine e_trim [(1, pa g32 0), (2, pa g34 0), (3, pa g3 0), (18, .slice A26 d.log.length c27), (19, ni (d.log.length : Int)), (20, ni (0 : Int))] ⟨⟨rfl, rfl⟩, ⟨rfl, rfl⟩, ⟨rfl, rfl⟩, ⟨rfl, rfl⟩, ⟨rfl, rfl⟩, ⟨ival (by first | rfl | omega), rfl⟩, trivial⟩ (fun junk => ?_)
 refine e_loop (fun (gh_ : Nat × (List Upd) × (Option Addr) × Nat × Nat × (List Value)) ov w => match gh_ with | (k, o, AO, nO, cO, xsO) => ∃ rd' junk, ov = [(1, pa g32 0), (2, pa g34 0), (3, pa g3 0), (18, .slice A26 d.log.length c27), (19, ni (d.log.length : Int)), (20, ni (k : Int))] ++ junk ∧ St [] W rd rd' [(g32, 31, #[ni d.self, .slice A14 d.state.clock.length c15, .slice A17 d.state.lives.length c18, .slice A20 d.state.tallies.length c21, .slice A23 d.base.length c24, .slice A26 d.log.length c27, .slice A29 d.known.length c30]), (g34, 31, #[ni 0, .slice none 0 0, .slice none 0 0, .slice none 0 0, .slice none 0 0, .slice none 0 0, .slice none 0 0]), (g3, 31, #[ni d.self, .slice A0 d.state.clock.length c0, .slice A1 d.state.lives.length c1, .slice A2 d.state.tallies.length c2, .slice A3 d.base.length c3, .slice AO nO cO, .slice none 0 0])] [⟨42, 5, .slice AO nO cO, nO, xsO⟩] w ∧ Rd.le rd122 rd' ∧ (RowR 5 UpdR rd' xsO o ∧ nO = o.length) ∧ k ≤ (d.log).length ∧ o = d.log.take k) (fun gh_ => match gh_ with | (k, o, AO, nO, cO, xsO) => (d.log).length - k) (0, [], none, 0, 0, []) ⟨_, junk, rfl, (S.rw' rfl rfl), (Rd.le_refl _), ⟨O126, (by first | rfl | assumption | omega)⟩, (by omega), (by simp)⟩ ?_
 rintro ⟨k, o, AO, nO, cO, xsO⟩ ov130 w128 ⟨rd127, junk, rfl, S, L129, ⟨OO, on131⟩, hko, ho⟩
 replace h3 := fm h3 L129
 replace h5 := fm h5 L129
 replace h7 := fm h7 L129
 replace h9 := fm h9 L129
 replace h11 := fm h11 L129
 replace h13 := fm h13 L129
 replace f1 := fm f1 L129
 replace f2 := fm f2 L129
 replace f3 := fm f3 L129
 replace f4 := fm f4 L129
 have hbo : o.length ≤ 300 := by rw [ho]; exact Nat.le_trans (List.length_take_le' _ _) hr.l
 refine e_seq ?_
 refine e_reg ?_
 by_cases h132 : (k : Int) < (d.log.length : Int)
 ·
  refine l_y (v := .bool true) S (y_ltT rfl rfl h132) ?_
  refine l_nil ?_
  refine n_seq ?_
  refine e_seq ?_
  refine e_cT rfl ?_
  refine e_skip ?_
  refine n_seq ?_
  refine e_seq ?_
  refine e_blk ?_
  refine e_seq ?_
  refine e_reg ?_
  obtain ⟨z133, hz134⟩ : ∃ z, (d.log)[k]? = some z := nth_of (by first | assumption | omega)
  have hu6 := (fits_later hr.b hr.f (List.mem_of_getElem? hz134)).1.len
  obtain ⟨p135, vs136, E137, nn138, r139, Y140⟩ := y_ia U28 SZ42 h11 hz134
  clear nn138
  obtain ⟨sv141, r139e, h142⟩ := r139; subst r139e
  obtain ⟨A143, c144, rfl, m145, m145'⟩ := h142.val
  refine l_y (v := p135) S (Y140 rfl rfl (by first | rfl | omega)) ?_
  refine l_y (v := .agg #[ni z133.author, .slice A143 z133.seen.length c144, ni z133.kind, ni z133.key, ni z133.item]) S (y_ld rfl (fun w S => ld_pA (us := [ni z133.author, .slice A143 z133.seen.length c144, ni z133.kind, ni z133.key, ni z133.item]) S.le E137 T42 rfl rfl)) ?_
  refine l_al (cs := #[ni 0, .slice none 0 0, ni 0, ni 0, ni 0]) S Z42 rfl fun g146 w147 S => ?_
  refine l_st (u := .agg #[ni z133.author, .slice A143 z133.seen.length c144, ni z133.kind, ni z133.key, ni z133.item]) (i := 3) (cs' := #[ni z133.author, .slice A143 z133.seen.length c144, ni z133.kind, ni z133.key, ni z133.item]) S rfl rfl rfl SZ42 rfl rfl rfl fun w148 S => ?_
  refine l_nil ?_
  refine n_seq ?_
  refine e_a (fun w => St [] W rd rd127 [(g32, 31, #[ni d.self, .slice A14 d.state.clock.length c15, .slice A17 d.state.lives.length c18, .slice A20 d.state.tallies.length c21, .slice A23 d.base.length c24, .slice A26 d.log.length c27, .slice A29 d.known.length c30]), (g34, 31, #[ni 0, .slice none 0 0, .slice none 0 0, .slice none 0 0, .slice none 0 0, .slice none 0 0, .slice none 0 0]), (g146, 42, #[ni z133.author, .slice A143 z133.seen.length c144, ni z133.kind, ni z133.key, ni z133.item])] [] w) MX rfl ?_
  have S := S.drew; have sup149 := S.sup
  have SC := ((S.tk 4 0 rfl rfl).del 2)
  refine a_tk (v := pa g3 5) 0 rfl rfl SC rfl (y_fb FA31_3 rfl rfl) ?_
  refine a_tk (v := .agg #[ni z133.author, .slice A143 z133.seen.length c144, ni z133.kind, ni z133.key, ni z133.item]) 2 rfl rfl SC rfl (y_ld rfl (fun w S => ld_bA (vs := [ni z133.author, .slice A143 z133.seen.length c144, ni z133.kind, ni z133.key, ni z133.item]) (i := 2) S rfl T42 rfl rfl)) ?_
  refine a_all (rs := [1, 3]) (by kernel_rfl) rfl ?_
  refine aa_cons rfl ?_ ?_
  ·
   refine l_y (v := .slice AO nO cO) S (y_ld rfl (fun w S => ld_b1 (i := 2) S rfl rfl T28)) ?_
   refine l_nil ?_
   have SC := ((S.tk 4 0 rfl rfl).del 2)
   refine n_lp (ak SC ?_)
   refine a_all (rs := [3]) (by kernel_rfl) rfl ?_
   refine aa_cons rfl ?_ ?_
   ·
    refine l_c (en_f (vs := [.agg #[ni z133.author, .slice A143 z133.seen.length c144, ni z133.kind, ni z133.key, ni z133.item]]) (CF 77 _) rfl rfl) (UOwn_m _ _ S.le _ z133 (⟨_, rfl, ⟨_, rfl, h142⟩⟩ : AggR UpdR rd127 _ z133) (by omega)) ?_
    rintro e w150 ⟨v155, rfl, h156, k⟩
    obtain ⟨rd151, S, L152, N153, X154⟩ := S.call' k; clear k
    replace h3 := fm h3 L152
    replace h5 := fm h5 L152
    replace h7 := fm h7 L152
    replace h9 := fm h9 L152
    replace h11 := fm h11 L152
    replace h13 := fm h13 L152
    replace f1 := fm f1 L152
    replace f2 := fm f2 L152
    replace f3 := fm f3 L152
    replace f4 := fm f4 L152
    replace OO := rm OO L152
    replace h142 := fm h142 L152
    replace E137 := PtrC.mono E137 L152
    replace h156 := am h156 X154
    obtain ⟨cs157, h156v, h156⟩ := h156; subst h156v
    obtain ⟨sv158, h156e, h159⟩ := h156; subst h156e
    obtain ⟨A160, c161, rfl, m162, m162'⟩ := h159.val
    refine ckd ?_
    refine l_nil ?_
    have SC := (((S.tk 4 0 rfl rfl).del 2).weak sup149 L152)
    refine n_lp (ak SC ?_)
    refine a_all (rs := [4]) (by kernel_rfl) rfl ?_
    refine aa_cons rfl ?_ ?_
    ·
     refine l_bs (ps := [(0, .agg #[ni z133.author, .slice A160 z133.seen.length c161, ni z133.kind, ni z133.key, ni z133.item])]) (cs := #[ni z133.author, .slice A160 z133.seen.length c161, ni z133.kind, ni z133.key, ni z133.item]) S U28 SZ42 Z42 rfl rfl rfl (by kernel_rfl) fun g163 w164 S => ?_
     refine l_nil ?_
     have SC := (((S.tk 4 0 rfl rfl).del 2).weak sup149 L152)
     refine n_lp (ak SC ?_)
     refine a_all (rs := [5]) (by kernel_rfl) rfl ?_
     refine aa_cons rfl ?_ ?_
     ·
      refine l_ap (e' := 0) (i := 0) (i' := 4) S K28 rfl rfl rfl rfl rfl rfl rfl (by simp only [maxLen]; omega) (by first | omega | (dsimp only; omega)) fun v165 w166 S => ?_
      have OO := RowR.push (x := z133) (cs := [ni z133.author, .slice A160 z133.seen.length c161, ni z133.kind, ni z133.key, ni z133.item]) OO rfl ⟨_, rfl, h159⟩
      obtain ⟨A167, c168, m169e, m169, m169'⟩ : ∃ A c, v165 = .slice A (nO + 1) c ∧ (nO + 1) ≤ c ∧ c ≤ maxLen := own_len S (i := 0) rfl; subst m169e
      refine l_nil ?_
      have SC := (((S.tk 4 0 rfl rfl).del 2).weak sup149 L152)
      refine n_lp (ak SC ?_)
      refine a_tk (v := pa g3 5) 6 rfl rfl SC rfl (y_fb FA31_3 rfl rfl) ?_
      refine a_all (rs := [7]) (by kernel_rfl) rfl ?_
      refine aa_cons rfl ?_ ?_
      ·
       refine l_st (u := .slice A167 (nO + 1) c168) (i := 2) (cs' := #[ni d.self, .slice A0 d.state.clock.length c0, .slice A1 d.state.lives.length c1, .slice A2 d.state.tallies.length c2, .slice A3 d.base.length c3, .slice A167 (nO + 1) c168, .slice none 0 0]) S rfl rfl rfl SZ28 rfl rfl rfl fun w170 S => ?_
       refine l_nil ?_
       have SC := (((S.tk 4 0 rfl rfl).del 2).weak sup149 L152)
       refine n_lp (ak SC ?_)
       refine a_done (by kernel_rfl) ?_
       clear SC
       refine n_blk ?_
       refine n_seq ?_
       refine e_reg ?_
       refine l_y (v := ni ((k : Int) + 1)) S (y_add (r := (k : Int) + 1) rfl rfl (w64 (by omega) (by omega))) ?_
       refine l_y (v := ni ((k : Int) + 1)) S (y_mv rfl) ?_
       refine l_nil ?_
       refine n_lp ⟨(k + 1, o ++ [z133], A167, nO + 1, c168, (xsO ++ [ni z133.author, .slice A160 z133.seen.length c161, ni z133.kind, ni z133.key, ni z133.item])), _, fr_keep (m := [(1, pa g32 0), (2, pa g34 0), (3, pa g3 0), (18, .slice A26 d.log.length c27), (19, ni (d.log.length : Int)), (20, ni ((k + 1 : Nat) : Int))]) ⟨⟨rfl, rfl⟩, ⟨rfl, rfl⟩, ⟨rfl, rfl⟩, ⟨rfl, rfl⟩, ⟨rfl, rfl⟩, ⟨ival (by first | rfl | omega), rfl⟩, trivial⟩, ⟨_, _, rfl, (S.tk 3 1 rfl rfl), (Rd.le_trans L129 (Rd.le_trans (Rd.le_refl rd127) L152)), ⟨OO, (by simp; omega)⟩, (by omega), (by rw [take_snoc hz134, ho])⟩, ?_⟩
       show _ < _; dsimp only; omega
      exact aa_nil
     exact aa_nil
    exact aa_nil
   exact aa_nil
  refine aa_cons rfl ?_ ?_
  ·
   refine l_c (en_f (vs := [.agg #[ni z133.author, .slice A143 z133.seen.length c144, ni z133.kind, ni z133.key, ni z133.item]]) (CF 77 _) rfl rfl) (UOwn_m _ _ S.le _ z133 (⟨_, rfl, ⟨_, rfl, h142⟩⟩ : AggR UpdR rd127 _ z133) (by omega)) ?_
   rintro e w171 ⟨v176, rfl, h177, k⟩
   obtain ⟨rd172, S, L173, N174, X175⟩ := S.call' k; clear k
   replace h3 := fm h3 L173
   replace h5 := fm h5 L173
   replace h7 := fm h7 L173
   replace h9 := fm h9 L173
   replace h11 := fm h11 L173
   replace h13 := fm h13 L173
   replace f1 := fm f1 L173
   replace f2 := fm f2 L173
   replace f3 := fm f3 L173
   replace f4 := fm f4 L173
   replace OO := rm OO L173
   replace h142 := fm h142 L173
   replace E137 := PtrC.mono E137 L173
   replace h177 := am h177 X175
   obtain ⟨cs178, h177v, h177⟩ := h177; subst h177v
   obtain ⟨sv179, h177e, h180⟩ := h177; subst h177e
   obtain ⟨A181, c182, rfl, m183, m183'⟩ := h180.val
   refine ckd ?_
   refine l_nil ?_
   have SC := (((S.tk 4 0 rfl rfl).del 2).weak sup149 L173)
   refine n_lp (ak SC ?_)
   refine a_all (rs := [1, 4]) (by kernel_rfl) rfl ?_
   refine aa_cons rfl ?_ ?_
   ·
    refine l_y (v := .slice AO nO cO) S (y_ld rfl (fun w S => ld_b1 (i := 2) S rfl rfl T28)) ?_
    refine l_nil ?_
    have SC := (((S.tk 4 0 rfl rfl).del 2).weak sup149 L173)
    refine n_lp (ak SC ?_)
    refine a_all (rs := [4]) (by kernel_rfl) rfl ?_
    refine aa_cons rfl ?_ ?_
    ·
     refine l_bs (ps := [(0, .agg #[ni z133.author, .slice A181 z133.seen.length c182, ni z133.kind, ni z133.key, ni z133.item])]) (cs := #[ni z133.author, .slice A181 z133.seen.length c182, ni z133.kind, ni z133.key, ni z133.item]) S U28 SZ42 Z42 rfl rfl rfl (by kernel_rfl) fun g184 w185 S => ?_
     refine l_nil ?_
     have SC := (((S.tk 4 0 rfl rfl).del 2).weak sup149 L173)
     refine n_lp (ak SC ?_)
     refine a_all (rs := [5]) (by kernel_rfl) rfl ?_
     refine aa_cons rfl ?_ ?_
     ·
      refine l_ap (e' := 0) (i := 0) (i' := 4) S K28 rfl rfl rfl rfl rfl rfl rfl (by simp only [maxLen]; omega) (by first | omega | (dsimp only; omega)) fun v186 w187 S => ?_
      have OO := RowR.push (x := z133) (cs := [ni z133.author, .slice A181 z133.seen.length c182, ni z133.kind, ni z133.key, ni z133.item]) OO rfl ⟨_, rfl, h180⟩
      obtain ⟨A188, c189, m190e, m190, m190'⟩ : ∃ A c, v186 = .slice A (nO + 1) c ∧ (nO + 1) ≤ c ∧ c ≤ maxLen := own_len S (i := 0) rfl; subst m190e
      refine l_nil ?_
      have SC := (((S.tk 4 0 rfl rfl).del 2).weak sup149 L173)
      refine n_lp (ak SC ?_)
      refine a_tk (v := pa g3 5) 6 rfl rfl SC rfl (y_fb FA31_3 rfl rfl) ?_
      refine a_all (rs := [7]) (by kernel_rfl) rfl ?_
      refine aa_cons rfl ?_ ?_
      ·
       refine l_st (u := .slice A188 (nO + 1) c189) (i := 2) (cs' := #[ni d.self, .slice A0 d.state.clock.length c0, .slice A1 d.state.lives.length c1, .slice A2 d.state.tallies.length c2, .slice A3 d.base.length c3, .slice A188 (nO + 1) c189, .slice none 0 0]) S rfl rfl rfl SZ28 rfl rfl rfl fun w191 S => ?_
       refine l_nil ?_
       have SC := (((S.tk 4 0 rfl rfl).del 2).weak sup149 L173)
       refine n_lp (ak SC ?_)
       refine a_done (by kernel_rfl) ?_
       clear SC
       refine n_blk ?_
       refine n_seq ?_
       refine e_reg ?_
       refine l_y (v := ni ((k : Int) + 1)) S (y_add (r := (k : Int) + 1) rfl rfl (w64 (by omega) (by omega))) ?_
       refine l_y (v := ni ((k : Int) + 1)) S (y_mv rfl) ?_
       refine l_nil ?_
       refine n_lp ⟨(k + 1, o ++ [z133], A188, nO + 1, c189, (xsO ++ [ni z133.author, .slice A181 z133.seen.length c182, ni z133.kind, ni z133.key, ni z133.item])), _, fr_keep (m := [(1, pa g32 0), (2, pa g34 0), (3, pa g3 0), (18, .slice A26 d.log.length c27), (19, ni (d.log.length : Int)), (20, ni ((k + 1 : Nat) : Int))]) ⟨⟨rfl, rfl⟩, ⟨rfl, rfl⟩, ⟨rfl, rfl⟩, ⟨rfl, rfl⟩, ⟨rfl, rfl⟩, ⟨ival (by first | rfl | omega), rfl⟩, trivial⟩, ⟨_, _, rfl, (S.tk 3 1 rfl rfl), (Rd.le_trans L129 (Rd.le_trans (Rd.le_refl rd127) L173)), ⟨OO, (by simp; omega)⟩, (by omega), (by rw [take_snoc hz134, ho])⟩, ?_⟩
       show _ < _; dsimp only; omega
      exact aa_nil
     exact aa_nil
    exact aa_nil
   refine aa_cons rfl ?_ ?_
   ·
    refine l_bs (ps := [(0, .agg #[ni z133.author, .slice A181 z133.seen.length c182, ni z133.kind, ni z133.key, ni z133.item])]) (cs := #[ni z133.author, .slice A181 z133.seen.length c182, ni z133.kind, ni z133.key, ni z133.item]) S U28 SZ42 Z42 rfl rfl rfl (by kernel_rfl) fun g192 w193 S => ?_
    refine l_nil ?_
    have SC := (((S.tk 4 0 rfl rfl).del 2).weak sup149 L173)
    refine n_lp (ak SC ?_)
    refine a_all (rs := [1]) (by kernel_rfl) rfl ?_
    refine aa_cons rfl ?_ ?_
    ·
     refine l_y (v := .slice AO nO cO) S (y_ld rfl (fun w S => ld_b1 (i := 2) S rfl rfl T28)) ?_
     refine l_nil ?_
     have SC := (((S.tk 4 0 rfl rfl).del 2).weak sup149 L173)
     refine n_lp (ak SC ?_)
     refine a_all (rs := [5]) (by kernel_rfl) rfl ?_
     refine aa_cons rfl ?_ ?_
     ·
      refine l_ap (e' := 0) (i := 0) (i' := 4) S K28 rfl rfl rfl rfl rfl rfl rfl (by simp only [maxLen]; omega) (by first | omega | (dsimp only; omega)) fun v194 w195 S => ?_
      have OO := RowR.push (x := z133) (cs := [ni z133.author, .slice A181 z133.seen.length c182, ni z133.kind, ni z133.key, ni z133.item]) OO rfl ⟨_, rfl, h180⟩
      obtain ⟨A196, c197, m198e, m198, m198'⟩ : ∃ A c, v194 = .slice A (nO + 1) c ∧ (nO + 1) ≤ c ∧ c ≤ maxLen := own_len S (i := 0) rfl; subst m198e
      refine l_nil ?_
      have SC := (((S.tk 4 0 rfl rfl).del 2).weak sup149 L173)
      refine n_lp (ak SC ?_)
      refine a_tk (v := pa g3 5) 6 rfl rfl SC rfl (y_fb FA31_3 rfl rfl) ?_
      refine a_all (rs := [7]) (by kernel_rfl) rfl ?_
      refine aa_cons rfl ?_ ?_
      ·
       refine l_st (u := .slice A196 (nO + 1) c197) (i := 2) (cs' := #[ni d.self, .slice A0 d.state.clock.length c0, .slice A1 d.state.lives.length c1, .slice A2 d.state.tallies.length c2, .slice A3 d.base.length c3, .slice A196 (nO + 1) c197, .slice none 0 0]) S rfl rfl rfl SZ28 rfl rfl rfl fun w199 S => ?_
       refine l_nil ?_
       have SC := (((S.tk 4 0 rfl rfl).del 2).weak sup149 L173)
       refine n_lp (ak SC ?_)
       refine a_done (by kernel_rfl) ?_
       clear SC
       refine n_blk ?_
       refine n_seq ?_
       refine e_reg ?_
       refine l_y (v := ni ((k : Int) + 1)) S (y_add (r := (k : Int) + 1) rfl rfl (w64 (by omega) (by omega))) ?_
       refine l_y (v := ni ((k : Int) + 1)) S (y_mv rfl) ?_
       refine l_nil ?_
       refine n_lp ⟨(k + 1, o ++ [z133], A196, nO + 1, c197, (xsO ++ [ni z133.author, .slice A181 z133.seen.length c182, ni z133.kind, ni z133.key, ni z133.item])), _, fr_keep (m := [(1, pa g32 0), (2, pa g34 0), (3, pa g3 0), (18, .slice A26 d.log.length c27), (19, ni (d.log.length : Int)), (20, ni ((k + 1 : Nat) : Int))]) ⟨⟨rfl, rfl⟩, ⟨rfl, rfl⟩, ⟨rfl, rfl⟩, ⟨rfl, rfl⟩, ⟨rfl, rfl⟩, ⟨ival (by first | rfl | omega), rfl⟩, trivial⟩, ⟨_, _, rfl, (S.tk 3 1 rfl rfl), (Rd.le_trans L129 (Rd.le_trans (Rd.le_refl rd127) L173)), ⟨OO, (by simp; omega)⟩, (by omega), (by rw [take_snoc hz134, ho])⟩, ?_⟩
       show _ < _; dsimp only; omega
      exact aa_nil
     exact aa_nil
    exact aa_nil
   exact aa_nil
  exact aa_nil
 refine l_y (v := .bool false) S (y_ltF rfl rfl h132) ?_
 refine l_nil ?_
 refine n_seq ?_
 refine e_seq ?_
 refine e_cF rfl ?_
 refine e_exit ?_
 refine x_seq ?_
 refine x_lp ?_
 refine x_hit ?_
 refine n_seq ?_
 refine e_seq ?_
 refine e_seq ?_
 refine e_reg ?_
 refine l_y (v := pa g32 6) S (y_fb FA31_4 rfl rfl) ?_
 refine l_y (v := .slice A29 d.known.length c30) S (y_ld rfl (fun w S => ld_b1 (i := 0) S rfl rfl T29)) ?_
 refine l_y (v := ni (d.known.length : Int)) S (y_len U29 rfl rfl) ?_
 refine l_y (v := ni 0) S (y_mv rfl) ?_
 refine l_nil ?_
 refine n_seq ?_
 refine e_blk ?_
 have S := S.ownNil 23 1
 have O200 : RowR 1 (SlC 1 IntR) rd127 [] [] := rfl
 refine e_trim [(2, pa g34 0), (3, pa g3 0), (33, .slice A29 d.known.length c30), (34, ni (d.known.length : Int)), (35, ni (0 : Int))] ⟨⟨rfl, rfl⟩, ⟨rfl, rfl⟩, ⟨rfl, rfl⟩, ⟨rfl, rfl⟩, ⟨ival (by first | rfl | omega), rfl⟩, trivial⟩ (fun junk => ?_)
 refine e_loop (fun (gh_ : Nat × (List (List Int)) × (Option Addr) × Nat × Nat × (List Value)) ov w => match gh_ with | (m, p, AP, nP, cP, xsP) => ∃ rd' junk, ov = [(2, pa g34 0), (3, pa g3 0), (33, .slice A29 d.known.length c30), (34, ni (d.known.length : Int)), (35, ni (m : Int))] ++ junk ∧ St [] W rd rd' [(g32, 31, #[ni d.self, .slice A14 d.state.clock.length c15, .slice A17 d.state.lives.length c18, .slice A20 d.state.tallies.length c21, .slice A23 d.base.length c24, .slice A26 d.log.length c27, .slice A29 d.known.length c30]), (g34, 31, #[ni 0, .slice none 0 0, .slice none 0 0, .slice none 0 0, .slice none 0 0, .slice none 0 0, .slice none 0 0]), (g3, 31, #[ni d.self, .slice A0 d.state.clock.length c0, .slice A1 d.state.lives.length c1, .slice A2 d.state.tallies.length c2, .slice A3 d.base.length c3, .slice AO nO cO, .slice AP nP cP])] [⟨42, 5, .slice AO nO cO, nO, xsO⟩, ⟨23, 1, .slice AP nP cP, nP, xsP⟩] w ∧ Rd.le rd127 rd' ∧ (RowR 1 (SlC 1 IntR) rd' xsP p ∧ nP = p.length) ∧ m ≤ (d.known).length ∧ p = d.known.take m) (fun gh_ => match gh_ with | (m, p, AP, nP, cP, xsP) => (d.known).length - m) (0, [], none, 0, 0, []) ⟨_, junk, rfl, (S.rw' rfl rfl), (Rd.le_refl _), ⟨O200, (by first | rfl | assumption | omega)⟩, (by omega), (by simp)⟩ ?_
 rintro ⟨m, p, AP, nP, cP, xsP⟩ ov204 w202 ⟨rd201, junk, rfl, S, L203, ⟨OP, on205⟩, hkp, hp⟩
 replace h3 := fm h3 L203
 replace h5 := fm h5 L203
 replace h7 := fm h7 L203
 replace h9 := fm h9 L203
 replace h11 := fm h11 L203
 replace h13 := fm h13 L203
 replace f1 := fm f1 L203
 replace f2 := fm f2 L203
 replace f3 := fm f3 L203
 replace f4 := fm f4 L203
 replace OO := rm OO L203
 have hbp : p.length ≤ 6 := by rw [hp]; exact Nat.le_trans (List.length_take_le' _ _) (by have := hr.k; have := hr.len; omega)
 refine e_seq ?_
 refine e_reg ?_
 by_cases h206 : (m : Int) < (d.known.length : Int)
 ·
  refine l_y (v := .bool true) S (y_ltT rfl rfl h206) ?_
  refine l_nil ?_
  refine n_seq ?_
  refine e_seq ?_
  refine e_cT rfl ?_
  refine e_skip ?_
  refine n_seq ?_
  refine e_seq ?_
  refine e_blk ?_
  refine e_seq ?_
  refine e_reg ?_
  obtain ⟨z207, hz208⟩ : ∃ z, (d.known)[m]? = some z := nth_of (by first | assumption | omega)
  have hz6 := wrongC_ok (hr.ks _ (List.mem_of_getElem? hz208)).1
  obtain ⟨p209, vs210, E211, nn212, r213, Y214⟩ := y_ia U29 SZ23 h13 hz208
  clear nn212
  obtain ⟨sv215, r213e, r213⟩ := r213; subst r213e
  obtain ⟨A216, c217, rfl, m218, m218'⟩ := r213.val
  refine l_y (v := p209) S (Y214 rfl rfl (by first | rfl | omega)) ?_
  refine l_y (v := .slice A216 z207.length c217) S (y_ld rfl (fun w S => ld_p1 S.le E211 rfl T23)) ?_
  refine l_y (v := .slice A216 z207.length c217) S (y_as rfl) ?_
  refine l_nil ?_
  refine n_seq ?_
  refine e_a (fun w => St [] W rd rd201 [(g32, 31, #[ni d.self, .slice A14 d.state.clock.length c15, .slice A17 d.state.lives.length c18, .slice A20 d.state.tallies.length c21, .slice A23 d.base.length c24, .slice A26 d.log.length c27, .slice A29 d.known.length c30]), (g34, 31, #[ni 0, .slice none 0 0, .slice none 0 0, .slice none 0 0, .slice none 0 0, .slice none 0 0, .slice none 0 0])] [] w) MX rfl ?_
  have S := S.drew; have sup219 := S.sup
  have SC := ((S.tk 3 0 rfl rfl).del 2)
  refine a_tk (v := pa g3 6) 0 rfl rfl SC rfl (y_fb FA31_4 rfl rfl) ?_
  refine a_tk (v := .slice A216 z207.length c217) 2 rfl rfl SC rfl (y_mv rfl) ?_
  refine a_all (rs := [1, 3]) (by kernel_rfl) rfl ?_
  refine aa_cons rfl ?_ ?_
  ·
   refine l_y (v := .slice AP nP cP) S (y_ld rfl (fun w S => ld_b1 (i := 2) S rfl rfl T29)) ?_
   refine l_nil ?_
   have SC := ((S.tk 3 0 rfl rfl).del 2)
   refine n_lp (ak SC ?_)
   refine a_all (rs := [3]) (by kernel_rfl) rfl ?_
   refine aa_cons rfl ?_ ?_
   ·
    refine l_c (en_f (vs := [.slice A216 z207.length c217]) (CF 45 _) rfl rfl) (CloneC_m _ _ S.le _ z207 r213 (by omega)) ?_
    rintro e w220 ⟨v225, rfl, h226, k⟩
    obtain ⟨rd221, S, L222, N223, X224⟩ := S.call' k; clear k
    replace h3 := fm h3 L222
    replace h5 := fm h5 L222
    replace h7 := fm h7 L222
    replace h9 := fm h9 L222
    replace h11 := fm h11 L222
    replace h13 := fm h13 L222
    replace f1 := fm f1 L222
    replace f2 := fm f2 L222
    replace f3 := fm f3 L222
    replace f4 := fm f4 L222
    replace OO := rm OO L222
    replace OP := rm OP L222
    replace r213 := fm r213 L222
    replace E211 := PtrC.mono E211 L222
    replace h226 := fm h226 X224
    obtain ⟨A227, c228, rfl, m229, m229'⟩ := h226.val
    refine ckd ?_
    refine l_nil ?_
    have SC := (((S.tk 3 0 rfl rfl).del 2).weak sup219 L222)
    refine n_lp (ak SC ?_)
    refine a_all (rs := [4]) (by kernel_rfl) rfl ?_
    refine aa_cons rfl ?_ ?_
    ·
     refine l_bs (ps := [(0, .slice A227 z207.length c228)]) (cs := #[.slice A227 z207.length c228]) S U29 SZ23 Z23 rfl rfl rfl (by kernel_rfl) fun g230 w231 S => ?_
     refine l_nil ?_
     have SC := (((S.tk 3 0 rfl rfl).del 2).weak sup219 L222)
     refine n_lp (ak SC ?_)
     refine a_all (rs := [5]) (by kernel_rfl) rfl ?_
     refine aa_cons rfl ?_ ?_
     ·
      refine l_ap (e' := 0) (i := 1) (i' := 3) S K29 rfl rfl rfl rfl rfl rfl rfl (by simp only [maxLen]; omega) (by first | omega | (dsimp only; omega)) fun v232 w233 S => ?_
      have OP := RowR.push (x := z207) (cs := [.slice A227 z207.length c228]) OP rfl ⟨_, rfl, h226⟩
      obtain ⟨A234, c235, m236e, m236, m236'⟩ : ∃ A c, v232 = .slice A (nP + 1) c ∧ (nP + 1) ≤ c ∧ c ≤ maxLen := own_len S (i := 1) rfl; subst m236e
      refine l_nil ?_
      have SC := (((S.tk 3 0 rfl rfl).del 2).weak sup219 L222)
      refine n_lp (ak SC ?_)
      refine a_tk (v := pa g3 6) 6 rfl rfl SC rfl (y_fb FA31_4 rfl rfl) ?_
      refine a_all (rs := [7]) (by kernel_rfl) rfl ?_
      refine aa_cons rfl ?_ ?_
      ·
       refine l_st (u := .slice A234 (nP + 1) c235) (i := 2) (cs' := #[ni d.self, .slice A0 d.state.clock.length c0, .slice A1 d.state.lives.length c1, .slice A2 d.state.tallies.length c2, .slice A3 d.base.length c3, .slice AO nO cO, .slice A234 (nP + 1) c235]) S rfl rfl rfl SZ29 rfl rfl rfl fun w237 S => ?_
       refine l_nil ?_
       have SC := (((S.tk 3 0 rfl rfl).del 2).weak sup219 L222)
       refine n_lp (ak SC ?_)
       refine a_done (by kernel_rfl) ?_
       clear SC
       refine n_blk ?_
       refine n_seq ?_
       refine e_reg ?_
       refine l_y (v := ni ((m : Int) + 1)) S (y_add (r := (m : Int) + 1) rfl rfl (w64 (by omega) (by omega))) ?_
       refine l_y (v := ni ((m : Int) + 1)) S (y_mv rfl) ?_
       refine l_nil ?_
       refine n_lp ⟨(m + 1, p ++ [z207], A234, nP + 1, c235, (xsP ++ [.slice A227 z207.length c228])), _, fr_keep (m := [(2, pa g34 0), (3, pa g3 0), (33, .slice A29 d.known.length c30), (34, ni (d.known.length : Int)), (35, ni ((m + 1 : Nat) : Int))]) ⟨⟨rfl, rfl⟩, ⟨rfl, rfl⟩, ⟨rfl, rfl⟩, ⟨rfl, rfl⟩, ⟨ival (by first | rfl | omega), rfl⟩, trivial⟩, ⟨_, _, rfl, (S.tk 3 2 rfl rfl), (Rd.le_trans L203 (Rd.le_trans (Rd.le_refl rd201) L222)), ⟨OP, (by simp; omega)⟩, (by omega), (by rw [take_snoc hz208, hp])⟩, ?_⟩
       show _ < _; dsimp only; omega
      exact aa_nil
     exact aa_nil
    exact aa_nil
   exact aa_nil
  refine aa_cons rfl ?_ ?_
  ·
   refine l_c (en_f (vs := [.slice A216 z207.length c217]) (CF 45 _) rfl rfl) (CloneC_m _ _ S.le _ z207 r213 (by omega)) ?_
   rintro e w238 ⟨v243, rfl, h244, k⟩
   obtain ⟨rd239, S, L240, N241, X242⟩ := S.call' k; clear k
   replace h3 := fm h3 L240
   replace h5 := fm h5 L240
   replace h7 := fm h7 L240
   replace h9 := fm h9 L240
   replace h11 := fm h11 L240
   replace h13 := fm h13 L240
   replace f1 := fm f1 L240
   replace f2 := fm f2 L240
   replace f3 := fm f3 L240
   replace f4 := fm f4 L240
   replace OO := rm OO L240
   replace OP := rm OP L240
   replace r213 := fm r213 L240
   replace E211 := PtrC.mono E211 L240
   replace h244 := fm h244 X242
   obtain ⟨A245, c246, rfl, m247, m247'⟩ := h244.val
   refine ckd ?_
   refine l_nil ?_
   have SC := (((S.tk 3 0 rfl rfl).del 2).weak sup219 L240)
   refine n_lp (ak SC ?_)
   refine a_all (rs := [1, 4]) (by kernel_rfl) rfl ?_
   refine aa_cons rfl ?_ ?_
   ·
    refine l_y (v := .slice AP nP cP) S (y_ld rfl (fun w S => ld_b1 (i := 2) S rfl rfl T29)) ?_
    refine l_nil ?_
    have SC := (((S.tk 3 0 rfl rfl).del 2).weak sup219 L240)
    refine n_lp (ak SC ?_)
    refine a_all (rs := [4]) (by kernel_rfl) rfl ?_
    refine aa_cons rfl ?_ ?_
    ·
     refine l_bs (ps := [(0, .slice A245 z207.length c246)]) (cs := #[.slice A245 z207.length c246]) S U29 SZ23 Z23 rfl rfl rfl (by kernel_rfl) fun g248 w249 S => ?_
     refine l_nil ?_
     have SC := (((S.tk 3 0 rfl rfl).del 2).weak sup219 L240)
     refine n_lp (ak SC ?_)
     refine a_all (rs := [5]) (by kernel_rfl) rfl ?_
     refine aa_cons rfl ?_ ?_
     ·
      refine l_ap (e' := 0) (i := 1) (i' := 3) S K29 rfl rfl rfl rfl rfl rfl rfl (by simp only [maxLen]; omega) (by first | omega | (dsimp only; omega)) fun v250 w251 S => ?_
      have OP := RowR.push (x := z207) (cs := [.slice A245 z207.length c246]) OP rfl ⟨_, rfl, h244⟩
      obtain ⟨A252, c253, m254e, m254, m254'⟩ : ∃ A c, v250 = .slice A (nP + 1) c ∧ (nP + 1) ≤ c ∧ c ≤ maxLen := own_len S (i := 1) rfl; subst m254e
      refine l_nil ?_
      have SC := (((S.tk 3 0 rfl rfl).del 2).weak sup219 L240)
      refine n_lp (ak SC ?_)
      refine a_tk (v := pa g3 6) 6 rfl rfl SC rfl (y_fb FA31_4 rfl rfl) ?_
      refine a_all (rs := [7]) (by kernel_rfl) rfl ?_
      refine aa_cons rfl ?_ ?_
      ·
       refine l_st (u := .slice A252 (nP + 1) c253) (i := 2) (cs' := #[ni d.self, .slice A0 d.state.clock.length c0, .slice A1 d.state.lives.length c1, .slice A2 d.state.tallies.length c2, .slice A3 d.base.length c3, .slice AO nO cO, .slice A252 (nP + 1) c253]) S rfl rfl rfl SZ29 rfl rfl rfl fun w255 S => ?_
       refine l_nil ?_
       have SC := (((S.tk 3 0 rfl rfl).del 2).weak sup219 L240)
       refine n_lp (ak SC ?_)
       refine a_done (by kernel_rfl) ?_
       clear SC
       refine n_blk ?_
       refine n_seq ?_
       refine e_reg ?_
       refine l_y (v := ni ((m : Int) + 1)) S (y_add (r := (m : Int) + 1) rfl rfl (w64 (by omega) (by omega))) ?_
       refine l_y (v := ni ((m : Int) + 1)) S (y_mv rfl) ?_
       refine l_nil ?_
       refine n_lp ⟨(m + 1, p ++ [z207], A252, nP + 1, c253, (xsP ++ [.slice A245 z207.length c246])), _, fr_keep (m := [(2, pa g34 0), (3, pa g3 0), (33, .slice A29 d.known.length c30), (34, ni (d.known.length : Int)), (35, ni ((m + 1 : Nat) : Int))]) ⟨⟨rfl, rfl⟩, ⟨rfl, rfl⟩, ⟨rfl, rfl⟩, ⟨rfl, rfl⟩, ⟨ival (by first | rfl | omega), rfl⟩, trivial⟩, ⟨_, _, rfl, (S.tk 3 2 rfl rfl), (Rd.le_trans L203 (Rd.le_trans (Rd.le_refl rd201) L240)), ⟨OP, (by simp; omega)⟩, (by omega), (by rw [take_snoc hz208, hp])⟩, ?_⟩
       show _ < _; dsimp only; omega
      exact aa_nil
     exact aa_nil
    exact aa_nil
   refine aa_cons rfl ?_ ?_
   ·
    refine l_bs (ps := [(0, .slice A245 z207.length c246)]) (cs := #[.slice A245 z207.length c246]) S U29 SZ23 Z23 rfl rfl rfl (by kernel_rfl) fun g256 w257 S => ?_
    refine l_nil ?_
    have SC := (((S.tk 3 0 rfl rfl).del 2).weak sup219 L240)
    refine n_lp (ak SC ?_)
    refine a_all (rs := [1]) (by kernel_rfl) rfl ?_
    refine aa_cons rfl ?_ ?_
    ·
     refine l_y (v := .slice AP nP cP) S (y_ld rfl (fun w S => ld_b1 (i := 2) S rfl rfl T29)) ?_
     refine l_nil ?_
     have SC := (((S.tk 3 0 rfl rfl).del 2).weak sup219 L240)
     refine n_lp (ak SC ?_)
     refine a_all (rs := [5]) (by kernel_rfl) rfl ?_
     refine aa_cons rfl ?_ ?_
     ·
      refine l_ap (e' := 0) (i := 1) (i' := 3) S K29 rfl rfl rfl rfl rfl rfl rfl (by simp only [maxLen]; omega) (by first | omega | (dsimp only; omega)) fun v258 w259 S => ?_
      have OP := RowR.push (x := z207) (cs := [.slice A245 z207.length c246]) OP rfl ⟨_, rfl, h244⟩
      obtain ⟨A260, c261, m262e, m262, m262'⟩ : ∃ A c, v258 = .slice A (nP + 1) c ∧ (nP + 1) ≤ c ∧ c ≤ maxLen := own_len S (i := 1) rfl; subst m262e
      refine l_nil ?_
      have SC := (((S.tk 3 0 rfl rfl).del 2).weak sup219 L240)
      refine n_lp (ak SC ?_)
      refine a_tk (v := pa g3 6) 6 rfl rfl SC rfl (y_fb FA31_4 rfl rfl) ?_
      refine a_all (rs := [7]) (by kernel_rfl) rfl ?_
      refine aa_cons rfl ?_ ?_
      ·
       refine l_st (u := .slice A260 (nP + 1) c261) (i := 2) (cs' := #[ni d.self, .slice A0 d.state.clock.length c0, .slice A1 d.state.lives.length c1, .slice A2 d.state.tallies.length c2, .slice A3 d.base.length c3, .slice AO nO cO, .slice A260 (nP + 1) c261]) S rfl rfl rfl SZ29 rfl rfl rfl fun w263 S => ?_
       refine l_nil ?_
       have SC := (((S.tk 3 0 rfl rfl).del 2).weak sup219 L240)
       refine n_lp (ak SC ?_)
       refine a_done (by kernel_rfl) ?_
       clear SC
       refine n_blk ?_
       refine n_seq ?_
       refine e_reg ?_
       refine l_y (v := ni ((m : Int) + 1)) S (y_add (r := (m : Int) + 1) rfl rfl (w64 (by omega) (by omega))) ?_
       refine l_y (v := ni ((m : Int) + 1)) S (y_mv rfl) ?_
       refine l_nil ?_
       refine n_lp ⟨(m + 1, p ++ [z207], A260, nP + 1, c261, (xsP ++ [.slice A245 z207.length c246])), _, fr_keep (m := [(2, pa g34 0), (3, pa g3 0), (33, .slice A29 d.known.length c30), (34, ni (d.known.length : Int)), (35, ni ((m + 1 : Nat) : Int))]) ⟨⟨rfl, rfl⟩, ⟨rfl, rfl⟩, ⟨rfl, rfl⟩, ⟨rfl, rfl⟩, ⟨ival (by first | rfl | omega), rfl⟩, trivial⟩, ⟨_, _, rfl, (S.tk 3 2 rfl rfl), (Rd.le_trans L203 (Rd.le_trans (Rd.le_refl rd201) L240)), ⟨OP, (by simp; omega)⟩, (by omega), (by rw [take_snoc hz208, hp])⟩, ?_⟩
       show _ < _; dsimp only; omega
      exact aa_nil
     exact aa_nil
    exact aa_nil
   exact aa_nil
  exact aa_nil
 refine l_y (v := .bool false) S (y_ltF rfl rfl h206) ?_
 refine l_nil ?_
 refine n_seq ?_
 refine e_seq ?_
 refine e_cF rfl ?_
 refine e_exit ?_
 refine x_seq ?_
 refine x_lp ?_
 refine x_hit ?_
 refine n_seq ?_
 refine e_seq ?_
 refine e_reg ?_
 refine l_y (v := .agg #[ni d.self, .slice A0 d.state.clock.length c0, .slice A1 d.state.lives.length c1, .slice A2 d.state.tallies.length c2, .slice A3 d.base.length c3, .slice AO nO cO, .slice AP nP cP]) S (y_ld rfl (fun w S => ld_bA (vs := [ni d.self, .slice A0 d.state.clock.length c0, .slice A1 d.state.lives.length c1, .slice A2 d.state.tallies.length c2, .slice A3 d.base.length c3, .slice AO nO cO, .slice AP nP cP]) (i := 2) S rfl T31 rfl rfl)) ?_
 refine l_st (u := .agg #[ni d.self, .slice A0 d.state.clock.length c0, .slice A1 d.state.lives.length c1, .slice A2 d.state.tallies.length c2, .slice A3 d.base.length c3, .slice AO nO cO, .slice AP nP cP]) (i := 1) (cs' := #[ni d.self, .slice A0 d.state.clock.length c0, .slice A1 d.state.lives.length c1, .slice A2 d.state.tallies.length c2, .slice A3 d.base.length c3, .slice AO nO cO, .slice AP nP cP]) S rfl rfl rfl SZ31 rfl rfl rfl fun w264 S => ?_
 refine l_nil ?_
 refine n_seq ?_
 refine e_ret ?_
 refine ret1 (v := .agg #[ni d.self, .slice A0 d.state.clock.length c0, .slice A1 d.state.lives.length c1, .slice A2 d.state.tallies.length c2, .slice A3 d.base.length c3, .slice AO nO cO, .slice AP nP cP]) rfl ⟨_, rfl, ld_bA (i := 1) (vs := [ni d.self, .slice A0 d.state.clock.length c0, .slice A1 d.state.lives.length c1, .slice A2 d.state.tallies.length c2, .slice A3 d.base.length c3, .slice AO nO cO, .slice AP nP cP]) S rfl T31 rfl rfl⟩ ?_
 obtain rfl : o = d.log := by rw [ho, List.take_of_length_le (by omega)]
 obtain rfl : p = d.known := by rw [hp, List.take_of_length_le (by omega)]
 obtain rfl : nO = d.log.length := by omega
 obtain rfl : nP = d.known.length := by omega
 exact ⟨_, _, _, _, _, _, _, _, _, _, _, _, _, _, _, rfl, (S.tk 0 2 rfl rfl).rw' rfl rfl, f1, f2, f3, f4, OO, OP⟩

set_option maxRecDepth 100000 in
set_option maxHeartbeats 8000000 in
theorem NStart_c (rd : Rd) (W : World) (hle : Rd.le rd (wrd W)) (self n : Int) :
    Calls Tryz.prog 17 #[(.int .i64 self), (.int .i64 n)] W (fun e w' => ∃ v', e = .returned (.tuple #[v', .int .i64 (StartN self n).2]) ∧ AggR NodeR (ext rd W w') v' (StartN self n).1 ∧ Below W.heap.size W w') := by
 have hmx : maxLen = 9223372036854775807 := rfl
 have S : St [] W rd rd [] [] W := St.start hle
 refine e_enter (args := [ni self, ni n]) 40 Tryz.func17 rfl rfl rfl ?_
 refine e_seq ?_
 refine e_reg ?_
 refine l_al (cs := #[ni 0, .slice none 0 0, .slice none 0 0, .slice none 0 0, .slice none 0 0, .slice none 0 0, .slice none 0 0]) S Z31 rfl fun g1 w2 S => ?_
 refine l_y (v := ni 0) S (y_as rfl) ?_
 refine l_nil ?_
 refine n_seq ?_
 refine e_seq ?_
 refine e_seq ?_
 refine e_reg ?_
 refine l_y (v := ni n) S (y_mv rfl) ?_
 by_cases h3 : n < 1
 ·
  refine l_y (v := .bool true) S (y_ltT rfl rfl h3) ?_
  refine l_y (v := .bool true) S (y_mv rfl) ?_
  refine l_s (d' := 9) rfl rfl ?_
  refine l_s (d' := 9) rfl rfl ?_
  refine l_y (v := .bool true) S (y_pT rfl rfl) ?_
  refine l_nil ?_
  refine n_seq ?_
  refine e_cT rfl ?_
  refine e_seq ?_
  refine e_reg ?_
  refine l_y (v := .agg #[ni 0, .slice none 0 0, .slice none 0 0, .slice none 0 0, .slice none 0 0, .slice none 0 0, .slice none 0 0]) S (y_bd (ps := []) rfl (fun _ => by kernel_rfl)) ?_
  refine l_st (u := .agg #[ni 0, .slice none 0 0, .slice none 0 0, .slice none 0 0, .slice none 0 0, .slice none 0 0, .slice none 0 0]) (i := 0) (cs' := #[ni 0, .slice none 0 0, .slice none 0 0, .slice none 0 0, .slice none 0 0, .slice none 0 0, .slice none 0 0]) S rfl rfl rfl SZ31 rfl rfl rfl fun w4 S => ?_
  refine l_y (v := ni 5) S (y_as rfl) ?_
  refine l_nil ?_
  refine n_seq ?_
  refine e_ret ?_
  refine ret2 (v := .agg #[ni 0, .slice none 0 0, .slice none 0 0, .slice none 0 0, .slice none 0 0, .slice none 0 0, .slice none 0 0]) (v' := ni 5) rfl ⟨_, rfl, ld_bA (i := 0) (vs := [ni 0, .slice none 0 0, .slice none 0 0, .slice none 0 0, .slice none 0 0, .slice none 0 0, .slice none 0 0]) S rfl T31 rfl rfl⟩ rfl ?_
  have es : StartN self n = (zeroN, 5) := by unfold StartN; rw [if_pos (by omega)]
  rw [es]
  exact ⟨_, rfl, ⟨_, rfl, ⟨_, _, _, _, _, _, rfl, (SliceR.nil_ _), (SliceR.nil_ _), (SliceR.nil_ _), (SliceR.nil_ _), (SliceR.nil_ _), (SliceR.nil_ _)⟩⟩, S.below⟩
 refine l_y (v := .bool false) S (y_ltF rfl rfl h3) ?_
 refine l_y (v := .bool false) S (y_mv rfl) ?_
 refine l_g (d' := 9) (v := ni n) S (y_mv rfl) rfl rfl ?_
 by_cases h5 : 6 < n
 ·
  refine l_g (d' := 9) (v := .bool true) S (y_gtT rfl rfl h5) rfl rfl ?_
  refine l_y (v := .bool true) S (y_pF rfl rfl) ?_
  refine l_nil ?_
  refine n_seq ?_
  refine e_cT rfl ?_
  refine e_seq ?_
  refine e_reg ?_
  refine l_y (v := .agg #[ni 0, .slice none 0 0, .slice none 0 0, .slice none 0 0, .slice none 0 0, .slice none 0 0, .slice none 0 0]) S (y_bd (ps := []) rfl (fun _ => by kernel_rfl)) ?_
  refine l_st (u := .agg #[ni 0, .slice none 0 0, .slice none 0 0, .slice none 0 0, .slice none 0 0, .slice none 0 0, .slice none 0 0]) (i := 0) (cs' := #[ni 0, .slice none 0 0, .slice none 0 0, .slice none 0 0, .slice none 0 0, .slice none 0 0, .slice none 0 0]) S rfl rfl rfl SZ31 rfl rfl rfl fun w6 S => ?_
  refine l_y (v := ni 5) S (y_as rfl) ?_
  refine l_nil ?_
  refine n_seq ?_
  refine e_ret ?_
  refine ret2 (v := .agg #[ni 0, .slice none 0 0, .slice none 0 0, .slice none 0 0, .slice none 0 0, .slice none 0 0, .slice none 0 0]) (v' := ni 5) rfl ⟨_, rfl, ld_bA (i := 0) (vs := [ni 0, .slice none 0 0, .slice none 0 0, .slice none 0 0, .slice none 0 0, .slice none 0 0, .slice none 0 0]) S rfl T31 rfl rfl⟩ rfl ?_
  have es : StartN self n = (zeroN, 5) := by unfold StartN; rw [if_pos (by omega)]
  rw [es]
  exact ⟨_, rfl, ⟨_, rfl, ⟨_, _, _, _, _, _, rfl, (SliceR.nil_ _), (SliceR.nil_ _), (SliceR.nil_ _), (SliceR.nil_ _), (SliceR.nil_ _), (SliceR.nil_ _)⟩⟩, S.below⟩
 refine l_g (d' := 9) (v := .bool false) S (y_gtF rfl rfl h5) rfl rfl ?_
 refine l_y (v := .bool false) S (y_pF rfl rfl) ?_
 refine l_nil ?_
 refine n_seq ?_
 refine e_cF rfl ?_
 refine e_skip ?_
 refine n_seq ?_
 refine e_seq ?_
 refine e_seq ?_
 refine e_reg ?_
 refine l_y (v := ni self) S (y_mv rfl) ?_
 by_cases h7 : self < 0
 ·
  refine l_y (v := .bool true) S (y_ltT rfl rfl h7) ?_
  refine l_y (v := .bool true) S (y_mv rfl) ?_
  refine l_s (d' := 16) rfl rfl ?_
  refine l_s (d' := 16) rfl rfl ?_
  refine l_s (d' := 16) rfl rfl ?_
  refine l_y (v := .bool true) S (y_pT rfl rfl) ?_
  refine l_nil ?_
  refine n_seq ?_
  refine e_cT rfl ?_
  refine e_seq ?_
  refine e_reg ?_
  refine l_y (v := .agg #[ni 0, .slice none 0 0, .slice none 0 0, .slice none 0 0, .slice none 0 0, .slice none 0 0, .slice none 0 0]) S (y_bd (ps := []) rfl (fun _ => by kernel_rfl)) ?_
  refine l_st (u := .agg #[ni 0, .slice none 0 0, .slice none 0 0, .slice none 0 0, .slice none 0 0, .slice none 0 0, .slice none 0 0]) (i := 0) (cs' := #[ni 0, .slice none 0 0, .slice none 0 0, .slice none 0 0, .slice none 0 0, .slice none 0 0, .slice none 0 0]) S rfl rfl rfl SZ31 rfl rfl rfl fun w8 S => ?_
  refine l_y (v := ni 3) S (y_as rfl) ?_
  refine l_nil ?_
  refine n_seq ?_
  refine e_ret ?_
  refine ret2 (v := .agg #[ni 0, .slice none 0 0, .slice none 0 0, .slice none 0 0, .slice none 0 0, .slice none 0 0, .slice none 0 0]) (v' := ni 3) rfl ⟨_, rfl, ld_bA (i := 0) (vs := [ni 0, .slice none 0 0, .slice none 0 0, .slice none 0 0, .slice none 0 0, .slice none 0 0, .slice none 0 0]) S rfl T31 rfl rfl⟩ rfl ?_
  have es : StartN self n = (zeroN, 3) := by unfold StartN; rw [if_neg (by omega), if_pos (by omega)]
  rw [es]
  exact ⟨_, rfl, ⟨_, rfl, ⟨_, _, _, _, _, _, rfl, (SliceR.nil_ _), (SliceR.nil_ _), (SliceR.nil_ _), (SliceR.nil_ _), (SliceR.nil_ _), (SliceR.nil_ _)⟩⟩, S.below⟩
 refine l_y (v := .bool false) S (y_ltF rfl rfl h7) ?_
 refine l_y (v := .bool false) S (y_mv rfl) ?_
 refine l_g (d' := 16) (v := ni self) S (y_mv rfl) rfl rfl ?_
 refine l_g (d' := 16) (v := ni n) S (y_mv rfl) rfl rfl ?_
 by_cases h9 : n ≤ self
 ·
  refine l_g (d' := 16) (v := .bool true) S (y_geT rfl rfl h9) rfl rfl ?_
  refine l_y (v := .bool true) S (y_pF rfl rfl) ?_
  refine l_nil ?_
  refine n_seq ?_
  refine e_cT rfl ?_
  refine e_seq ?_
  refine e_reg ?_
  refine l_y (v := .agg #[ni 0, .slice none 0 0, .slice none 0 0, .slice none 0 0, .slice none 0 0, .slice none 0 0, .slice none 0 0]) S (y_bd (ps := []) rfl (fun _ => by kernel_rfl)) ?_
  refine l_st (u := .agg #[ni 0, .slice none 0 0, .slice none 0 0, .slice none 0 0, .slice none 0 0, .slice none 0 0, .slice none 0 0]) (i := 0) (cs' := #[ni 0, .slice none 0 0, .slice none 0 0, .slice none 0 0, .slice none 0 0, .slice none 0 0, .slice none 0 0]) S rfl rfl rfl SZ31 rfl rfl rfl fun w10 S => ?_
  refine l_y (v := ni 3) S (y_as rfl) ?_
  refine l_nil ?_
  refine n_seq ?_
  refine e_ret ?_
  refine ret2 (v := .agg #[ni 0, .slice none 0 0, .slice none 0 0, .slice none 0 0, .slice none 0 0, .slice none 0 0, .slice none 0 0]) (v' := ni 3) rfl ⟨_, rfl, ld_bA (i := 0) (vs := [ni 0, .slice none 0 0, .slice none 0 0, .slice none 0 0, .slice none 0 0, .slice none 0 0, .slice none 0 0]) S rfl T31 rfl rfl⟩ rfl ?_
  have es : StartN self n = (zeroN, 3) := by unfold StartN; rw [if_neg (by omega), if_pos (by omega)]
  rw [es]
  exact ⟨_, rfl, ⟨_, rfl, ⟨_, _, _, _, _, _, rfl, (SliceR.nil_ _), (SliceR.nil_ _), (SliceR.nil_ _), (SliceR.nil_ _), (SliceR.nil_ _), (SliceR.nil_ _)⟩⟩, S.below⟩
 refine l_g (d' := 16) (v := .bool false) S (y_geF rfl rfl h9) rfl rfl ?_
 refine l_y (v := .bool false) S (y_pF rfl rfl) ?_
 refine l_nil ?_
 refine n_seq ?_
 refine e_cF rfl ?_
 refine e_skip ?_
 refine n_seq ?_
 refine e_cut (J := fun ov w => ∃ (g3 : Nat), ∃ (A0 : Option Addr), ∃ (c0 : Nat), ∃ (A1 : Option Addr), ∃ (c1 : Nat), ∃ (A2 : Option Addr), ∃ (c2 : Nat), ∃ (A3 : Option Addr), ∃ (c3 : Nat), ∃ rd' junk, ov = [(1, ni n), (4, pa g1 0), (5, ni 0), (6, pa g3 0)] ++ junk ∧ St [] W rd rd' [(g1, 31, #[ni 0, .slice none 0 0, .slice none 0 0, .slice none 0 0, .slice none 0 0, .slice none 0 0, .slice none 0 0]), (g3, 31, #[ni self, .slice A0 ((startG n).clock.length) c0, .slice A1 ((startG n).lives.length) c1, .slice A2 ((startG n).tallies.length) c2, .slice A3 n.toNat c3, .slice none 0 0, .slice none 0 0])] [] w ∧ Rd.le rd rd' ∧ SliceR 1 IntR rd' (.slice A0 (startG n).clock.length c0) (startG n).clock ∧ SliceR 5 LiveR rd' (.slice A1 (startG n).lives.length c1) (startG n).lives ∧ SliceR 3 TallyR rd' (.slice A2 (startG n).tallies.length c2) (startG n).tallies ∧ SliceR 1 IntR rd' (.slice A3 n.toNat c3) (List.replicate n.toNat (0 : Int))) ?_ ?_
 ·
  refine e_a (fun w => St [] W rd rd [(g1, 31, #[ni 0, .slice none 0 0, .slice none 0 0, .slice none 0 0, .slice none 0 0, .slice none 0 0, .slice none 0 0])] [] w) MX rfl ?_
  have S := S.drew; have sup11 := S.sup
  have SC := (S.tk 1 0 rfl rfl)
  refine a_tk (v := ni self) 0 rfl rfl SC rfl (y_mv rfl) ?_
  refine a_tk (v := ni n) 1 rfl rfl SC rfl (y_mv rfl) ?_
  refine a_tk (v := ni n) 3 rfl rfl SC rfl (y_mv rfl) ?_
  refine a_all (rs := [2, 4, 6]) (by kernel_rfl) rfl ?_
  refine aa_cons rfl ?_ ?_
  ·
   refine l_c (en_f (vs := [ni n]) (CF 47 _) rfl rfl) (SStart_c _ _ S.le n) ?_
   rintro e w12 ⟨v17, rfl, h18, k⟩
   obtain ⟨rd13, S, L14, N15, X16⟩ := S.call' k; clear k
   replace h18 := am h18 X16
   obtain ⟨cs19, h18v, h18⟩ := h18; subst h18v
   obtain ⟨sv20, sv22, sv24, h18e, h21, h23, h25⟩ := h18; subst h18e
   obtain ⟨A26, c27, rfl, m28, m28'⟩ := h21.val
   obtain ⟨A29, c30, rfl, m31, m31'⟩ := h23.val
   obtain ⟨A32, c33, rfl, m34, m34'⟩ := h25.val
   refine ckd ?_
   refine l_nil ?_
   have SC := ((S.tk 1 0 rfl rfl).weak sup11 L14)
   refine n_lp (ak SC ?_)
   refine a_all (rs := [4, 6]) (by kernel_rfl) rfl ?_
   refine aa_cons rfl ?_ ?_
   ·
    refine l_ms (m := n.toNat) (size := 1) S K23 Z3 rfl rfl (by omega) (by omega) (by omega) (by simp only [maxLen]; omega) fun g35 w36 S => ?_
    have O37 : RowR 1 IntR rd13 ((madeCells (Value.int .i64 0).cells (n.toNat * 1)).toList) (List.replicate n.toNat (0 : Int)) := made_ints _
    obtain ⟨rd38, S, L39, F40⟩ := S.frzo' (i := 0) rfl rfl
    replace h21 := fm h21 L39
    replace h23 := fm h23 L39
    replace h25 := fm h25 L39
    replace O37 := rm O37 L39
    have F41 : SliceR 1 IntR rd38 (.slice (some ⟨g35, 0, none⟩) n.toNat n.toNat) (List.replicate n.toNat (0 : Int)) := F40 (by simp) O37; clear F40
    refine l_nil ?_
    have SC := ((S.tk 1 0 rfl rfl).weak sup11 (Rd.le_trans L14 L39))
    refine n_lp (ak SC ?_)
    refine a_tk (v := .agg #[ni self, .slice A26 (((startG n).clock).length) c27, .slice A29 (((startG n).lives).length) c30, .slice A32 (((startG n).tallies).length) c33, .slice (some ⟨g35, 0, none⟩) n.toNat n.toNat, .slice none 0 0, .slice none 0 0]) 5 rfl rfl SC rfl (y_bd (ps := [(0, ni self), (1, .agg #[.slice A26 (((startG n).clock).length) c27, .slice A29 (((startG n).lives).length) c30, .slice A32 (((startG n).tallies).length) c33]), (2, .slice (some ⟨g35, 0, none⟩) n.toNat n.toNat)]) rfl (fun _ => by kernel_rfl)) ?_
    refine a_all (rs := [6]) (by kernel_rfl) rfl ?_
    refine aa_cons rfl ?_ ?_
    ·
     refine l_al (cs := #[ni 0, .slice none 0 0, .slice none 0 0, .slice none 0 0, .slice none 0 0, .slice none 0 0, .slice none 0 0]) S Z31 rfl fun g42 w43 S => ?_
     refine l_nil ?_
     have SC := ((S.tk 1 0 rfl rfl).weak sup11 (Rd.le_trans L14 L39))
     refine n_lp (ak SC ?_)
     refine a_all (rs := [7]) (by kernel_rfl) rfl ?_
     refine aa_cons rfl ?_ ?_
     ·
      refine l_st (u := .agg #[ni self, .slice A26 (((startG n).clock).length) c27, .slice A29 (((startG n).lives).length) c30, .slice A32 (((startG n).tallies).length) c33, .slice (some ⟨g35, 0, none⟩) n.toNat n.toNat, .slice none 0 0, .slice none 0 0]) (i := 1) (cs' := #[ni self, .slice A26 (((startG n).clock).length) c27, .slice A29 (((startG n).lives).length) c30, .slice A32 (((startG n).tallies).length) c33, .slice (some ⟨g35, 0, none⟩) n.toNat n.toNat, .slice none 0 0, .slice none 0 0]) S rfl rfl rfl SZ31 rfl rfl rfl fun w44 S => ?_
      refine l_nil ?_
      have SC := ((S.tk 1 0 rfl rfl).weak sup11 (Rd.le_trans L14 L39))
      refine n_lp (ak SC ?_)
      refine a_done (by kernel_rfl) ?_
      clear SC
      refine n_lp ⟨_, fr_keep (m := [(1, ni n), (4, pa g1 0), (5, ni 0), (6, pa g42 0)]) ⟨⟨rfl, rfl⟩, ⟨rfl, rfl⟩, ⟨rfl, rfl⟩, ⟨rfl, rfl⟩, trivial⟩, g42, A26, c27, A29, c30, A32, c33, (some ⟨g35, 0, none⟩), n.toNat, _, _, rfl, (S.tk 2 0 rfl rfl).rw' rfl rfl, (Rd.le_trans (Rd.le_trans (Rd.le_refl rd) L14) L39), h21, h23, h25, F41⟩
     exact aa_nil
    exact aa_nil
   refine aa_cons rfl ?_ ?_
   ·
    refine l_al (cs := #[ni 0, .slice none 0 0, .slice none 0 0, .slice none 0 0, .slice none 0 0, .slice none 0 0, .slice none 0 0]) S Z31 rfl fun g45 w46 S => ?_
    refine l_nil ?_
    have SC := ((S.tk 1 0 rfl rfl).weak sup11 L14)
    refine n_lp (ak SC ?_)
    refine a_all (rs := [4]) (by kernel_rfl) rfl ?_
    refine aa_cons rfl ?_ ?_
    ·
     refine l_ms (m := n.toNat) (size := 1) S K23 Z3 rfl rfl (by omega) (by omega) (by omega) (by simp only [maxLen]; omega) fun g47 w48 S => ?_
     have O49 : RowR 1 IntR rd13 ((madeCells (Value.int .i64 0).cells (n.toNat * 1)).toList) (List.replicate n.toNat (0 : Int)) := made_ints _
     obtain ⟨rd50, S, L51, F52⟩ := S.frzo' (i := 0) rfl rfl
     replace h21 := fm h21 L51
     replace h23 := fm h23 L51
     replace h25 := fm h25 L51
     replace O49 := rm O49 L51
     have F53 : SliceR 1 IntR rd50 (.slice (some ⟨g47, 0, none⟩) n.toNat n.toNat) (List.replicate n.toNat (0 : Int)) := F52 (by simp) O49; clear F52
     refine l_nil ?_
     have SC := ((S.tk 1 0 rfl rfl).weak sup11 (Rd.le_trans L14 L51))
     refine n_lp (ak SC ?_)
     refine a_tk (v := .agg #[ni self, .slice A26 (((startG n).clock).length) c27, .slice A29 (((startG n).lives).length) c30, .slice A32 (((startG n).tallies).length) c33, .slice (some ⟨g47, 0, none⟩) n.toNat n.toNat, .slice none 0 0, .slice none 0 0]) 5 rfl rfl SC rfl (y_bd (ps := [(0, ni self), (1, .agg #[.slice A26 (((startG n).clock).length) c27, .slice A29 (((startG n).lives).length) c30, .slice A32 (((startG n).tallies).length) c33]), (2, .slice (some ⟨g47, 0, none⟩) n.toNat n.toNat)]) rfl (fun _ => by kernel_rfl)) ?_
     refine a_all (rs := [7]) (by kernel_rfl) rfl ?_
     refine aa_cons rfl ?_ ?_
     ·
      refine l_st (u := .agg #[ni self, .slice A26 (((startG n).clock).length) c27, .slice A29 (((startG n).lives).length) c30, .slice A32 (((startG n).tallies).length) c33, .slice (some ⟨g47, 0, none⟩) n.toNat n.toNat, .slice none 0 0, .slice none 0 0]) (i := 1) (cs' := #[ni self, .slice A26 (((startG n).clock).length) c27, .slice A29 (((startG n).lives).length) c30, .slice A32 (((startG n).tallies).length) c33, .slice (some ⟨g47, 0, none⟩) n.toNat n.toNat, .slice none 0 0, .slice none 0 0]) S rfl rfl rfl SZ31 rfl rfl rfl fun w54 S => ?_
      refine l_nil ?_
      have SC := ((S.tk 1 0 rfl rfl).weak sup11 (Rd.le_trans L14 L51))
      refine n_lp (ak SC ?_)
      refine a_done (by kernel_rfl) ?_
      clear SC
      refine n_lp ⟨_, fr_keep (m := [(1, ni n), (4, pa g1 0), (5, ni 0), (6, pa g45 0)]) ⟨⟨rfl, rfl⟩, ⟨rfl, rfl⟩, ⟨rfl, rfl⟩, ⟨rfl, rfl⟩, trivial⟩, g45, A26, c27, A29, c30, A32, c33, (some ⟨g47, 0, none⟩), n.toNat, _, _, rfl, (S.tk 2 0 rfl rfl).rw' rfl rfl, (Rd.le_trans (Rd.le_trans (Rd.le_refl rd) L14) L51), h21, h23, h25, F53⟩
     exact aa_nil
    exact aa_nil
   exact aa_nil
  refine aa_cons rfl ?_ ?_
  ·
   refine l_ms (m := n.toNat) (size := 1) S K23 Z3 rfl rfl (by omega) (by omega) (by omega) (by simp only [maxLen]; omega) fun g55 w56 S => ?_
   have O57 : RowR 1 IntR rd ((madeCells (Value.int .i64 0).cells (n.toNat * 1)).toList) (List.replicate n.toNat (0 : Int)) := made_ints _
   obtain ⟨rd58, S, L59, F60⟩ := S.frzo' (i := 0) rfl rfl
   replace O57 := rm O57 L59
   have F61 : SliceR 1 IntR rd58 (.slice (some ⟨g55, 0, none⟩) n.toNat n.toNat) (List.replicate n.toNat (0 : Int)) := F60 (by simp) O57; clear F60
   refine l_nil ?_
   have SC := ((S.tk 1 0 rfl rfl).weak sup11 L59)
   refine n_lp (ak SC ?_)
   refine a_all (rs := [2, 6]) (by kernel_rfl) rfl ?_
   refine aa_cons rfl ?_ ?_
   ·
    refine l_c (en_f (vs := [ni n]) (CF 47 _) rfl rfl) (SStart_c _ _ S.le n) ?_
    rintro e w62 ⟨v67, rfl, h68, k⟩
    obtain ⟨rd63, S, L64, N65, X66⟩ := S.call' k; clear k
    replace F61 := fm F61 L64
    replace h68 := am h68 X66
    obtain ⟨cs69, h68v, h68⟩ := h68; subst h68v
    obtain ⟨sv70, sv72, sv74, h68e, h71, h73, h75⟩ := h68; subst h68e
    obtain ⟨A76, c77, rfl, m78, m78'⟩ := h71.val
    obtain ⟨A79, c80, rfl, m81, m81'⟩ := h73.val
    obtain ⟨A82, c83, rfl, m84, m84'⟩ := h75.val
    refine ckd ?_
    refine l_nil ?_
    have SC := ((S.tk 1 0 rfl rfl).weak sup11 (Rd.le_trans L59 L64))
    refine n_lp (ak SC ?_)
    refine a_tk (v := .agg #[ni self, .slice A76 (((startG n).clock).length) c77, .slice A79 (((startG n).lives).length) c80, .slice A82 (((startG n).tallies).length) c83, .slice (some ⟨g55, 0, none⟩) n.toNat n.toNat, .slice none 0 0, .slice none 0 0]) 5 rfl rfl SC rfl (y_bd (ps := [(0, ni self), (1, .agg #[.slice A76 (((startG n).clock).length) c77, .slice A79 (((startG n).lives).length) c80, .slice A82 (((startG n).tallies).length) c83]), (2, .slice (some ⟨g55, 0, none⟩) n.toNat n.toNat)]) rfl (fun _ => by kernel_rfl)) ?_
    refine a_all (rs := [6]) (by kernel_rfl) rfl ?_
    refine aa_cons rfl ?_ ?_
    ·
     refine l_al (cs := #[ni 0, .slice none 0 0, .slice none 0 0, .slice none 0 0, .slice none 0 0, .slice none 0 0, .slice none 0 0]) S Z31 rfl fun g85 w86 S => ?_
     refine l_nil ?_
     have SC := ((S.tk 1 0 rfl rfl).weak sup11 (Rd.le_trans L59 L64))
     refine n_lp (ak SC ?_)
     refine a_all (rs := [7]) (by kernel_rfl) rfl ?_
     refine aa_cons rfl ?_ ?_
     ·
      refine l_st (u := .agg #[ni self, .slice A76 (((startG n).clock).length) c77, .slice A79 (((startG n).lives).length) c80, .slice A82 (((startG n).tallies).length) c83, .slice (some ⟨g55, 0, none⟩) n.toNat n.toNat, .slice none 0 0, .slice none 0 0]) (i := 1) (cs' := #[ni self, .slice A76 (((startG n).clock).length) c77, .slice A79 (((startG n).lives).length) c80, .slice A82 (((startG n).tallies).length) c83, .slice (some ⟨g55, 0, none⟩) n.toNat n.toNat, .slice none 0 0, .slice none 0 0]) S rfl rfl rfl SZ31 rfl rfl rfl fun w87 S => ?_
      refine l_nil ?_
      have SC := ((S.tk 1 0 rfl rfl).weak sup11 (Rd.le_trans L59 L64))
      refine n_lp (ak SC ?_)
      refine a_done (by kernel_rfl) ?_
      clear SC
      refine n_lp ⟨_, fr_keep (m := [(1, ni n), (4, pa g1 0), (5, ni 0), (6, pa g85 0)]) ⟨⟨rfl, rfl⟩, ⟨rfl, rfl⟩, ⟨rfl, rfl⟩, ⟨rfl, rfl⟩, trivial⟩, g85, A76, c77, A79, c80, A82, c83, (some ⟨g55, 0, none⟩), n.toNat, _, _, rfl, (S.tk 2 0 rfl rfl).rw' rfl rfl, (Rd.le_trans (Rd.le_trans (Rd.le_refl rd) L59) L64), h71, h73, h75, F61⟩
     exact aa_nil
    exact aa_nil
   refine aa_cons rfl ?_ ?_
   ·
    refine l_al (cs := #[ni 0, .slice none 0 0, .slice none 0 0, .slice none 0 0, .slice none 0 0, .slice none 0 0, .slice none 0 0]) S Z31 rfl fun g88 w89 S => ?_
    refine l_nil ?_
    have SC := ((S.tk 1 0 rfl rfl).weak sup11 L59)
    refine n_lp (ak SC ?_)
    refine a_all (rs := [2]) (by kernel_rfl) rfl ?_
    refine aa_cons rfl ?_ ?_
    ·
     refine l_c (en_f (vs := [ni n]) (CF 47 _) rfl rfl) (SStart_c _ _ S.le n) ?_
     rintro e w90 ⟨v95, rfl, h96, k⟩
     obtain ⟨rd91, S, L92, N93, X94⟩ := S.call' k; clear k
     replace F61 := fm F61 L92
     replace h96 := am h96 X94
     obtain ⟨cs97, h96v, h96⟩ := h96; subst h96v
     obtain ⟨sv98, sv100, sv102, h96e, h99, h101, h103⟩ := h96; subst h96e
     obtain ⟨A104, c105, rfl, m106, m106'⟩ := h99.val
     obtain ⟨A107, c108, rfl, m109, m109'⟩ := h101.val
     obtain ⟨A110, c111, rfl, m112, m112'⟩ := h103.val
     refine ckd ?_
     refine l_nil ?_
     have SC := ((S.tk 1 0 rfl rfl).weak sup11 (Rd.le_trans L59 L92))
     refine n_lp (ak SC ?_)
     refine a_tk (v := .agg #[ni self, .slice A104 (((startG n).clock).length) c105, .slice A107 (((startG n).lives).length) c108, .slice A110 (((startG n).tallies).length) c111, .slice (some ⟨g55, 0, none⟩) n.toNat n.toNat, .slice none 0 0, .slice none 0 0]) 5 rfl rfl SC rfl (y_bd (ps := [(0, ni self), (1, .agg #[.slice A104 (((startG n).clock).length) c105, .slice A107 (((startG n).lives).length) c108, .slice A110 (((startG n).tallies).length) c111]), (2, .slice (some ⟨g55, 0, none⟩) n.toNat n.toNat)]) rfl (fun _ => by kernel_rfl)) ?_
     refine a_all (rs := [7]) (by kernel_rfl) rfl ?_
     refine aa_cons rfl ?_ ?_
     ·
      refine l_st (u := .agg #[ni self, .slice A104 (((startG n).clock).length) c105, .slice A107 (((startG n).lives).length) c108, .slice A110 (((startG n).tallies).length) c111, .slice (some ⟨g55, 0, none⟩) n.toNat n.toNat, .slice none 0 0, .slice none 0 0]) (i := 1) (cs' := #[ni self, .slice A104 (((startG n).clock).length) c105, .slice A107 (((startG n).lives).length) c108, .slice A110 (((startG n).tallies).length) c111, .slice (some ⟨g55, 0, none⟩) n.toNat n.toNat, .slice none 0 0, .slice none 0 0]) S rfl rfl rfl SZ31 rfl rfl rfl fun w113 S => ?_
      refine l_nil ?_
      have SC := ((S.tk 1 0 rfl rfl).weak sup11 (Rd.le_trans L59 L92))
      refine n_lp (ak SC ?_)
      refine a_done (by kernel_rfl) ?_
      clear SC
      refine n_lp ⟨_, fr_keep (m := [(1, ni n), (4, pa g1 0), (5, ni 0), (6, pa g88 0)]) ⟨⟨rfl, rfl⟩, ⟨rfl, rfl⟩, ⟨rfl, rfl⟩, ⟨rfl, rfl⟩, trivial⟩, g88, A104, c105, A107, c108, A110, c111, (some ⟨g55, 0, none⟩), n.toNat, _, _, rfl, (S.tk 2 0 rfl rfl).rw' rfl rfl, (Rd.le_trans (Rd.le_trans (Rd.le_refl rd) L59) L92), h99, h101, h103, F61⟩
     exact aa_nil
    exact aa_nil
   exact aa_nil
  refine aa_cons rfl ?_ ?_
  ·
   refine l_al (cs := #[ni 0, .slice none 0 0, .slice none 0 0, .slice none 0 0, .slice none 0 0, .slice none 0 0, .slice none 0 0]) S Z31 rfl fun g114 w115 S => ?_
   refine l_nil ?_
   have SC := (S.tk 1 0 rfl rfl)
   refine n_lp (ak SC ?_)
   refine a_all (rs := [2, 4]) (by kernel_rfl) rfl ?_
   refine aa_cons rfl ?_ ?_
   ·
    refine l_c (en_f (vs := [ni n]) (CF 47 _) rfl rfl) (SStart_c _ _ S.le n) ?_
    rintro e w116 ⟨v121, rfl, h122, k⟩
    obtain ⟨rd117, S, L118, N119, X120⟩ := S.call' k; clear k
    replace h122 := am h122 X120
    obtain ⟨cs123, h122v, h122⟩ := h122; subst h122v
    obtain ⟨sv124, sv126, sv128, h122e, h125, h127, h129⟩ := h122; subst h122e
    obtain ⟨A130, c131, rfl, m132, m132'⟩ := h125.val
    obtain ⟨A133, c134, rfl, m135, m135'⟩ := h127.val
    obtain ⟨A136, c137, rfl, m138, m138'⟩ := h129.val
    refine ckd ?_
    refine l_nil ?_
    have SC := ((S.tk 1 0 rfl rfl).weak sup11 L118)
    refine n_lp (ak SC ?_)
    refine a_all (rs := [4]) (by kernel_rfl) rfl ?_
    refine aa_cons rfl ?_ ?_
    ·
     refine l_ms (m := n.toNat) (size := 1) S K23 Z3 rfl rfl (by omega) (by omega) (by omega) (by simp only [maxLen]; omega) fun g139 w140 S => ?_
     have O141 : RowR 1 IntR rd117 ((madeCells (Value.int .i64 0).cells (n.toNat * 1)).toList) (List.replicate n.toNat (0 : Int)) := made_ints _
     obtain ⟨rd142, S, L143, F144⟩ := S.frzo' (i := 0) rfl rfl
     replace h125 := fm h125 L143
     replace h127 := fm h127 L143
     replace h129 := fm h129 L143
     replace O141 := rm O141 L143
     have F145 : SliceR 1 IntR rd142 (.slice (some ⟨g139, 0, none⟩) n.toNat n.toNat) (List.replicate n.toNat (0 : Int)) := F144 (by simp) O141; clear F144
     refine l_nil ?_
     have SC := ((S.tk 1 0 rfl rfl).weak sup11 (Rd.le_trans L118 L143))
     refine n_lp (ak SC ?_)
     refine a_tk (v := .agg #[ni self, .slice A130 (((startG n).clock).length) c131, .slice A133 (((startG n).lives).length) c134, .slice A136 (((startG n).tallies).length) c137, .slice (some ⟨g139, 0, none⟩) n.toNat n.toNat, .slice none 0 0, .slice none 0 0]) 5 rfl rfl SC rfl (y_bd (ps := [(0, ni self), (1, .agg #[.slice A130 (((startG n).clock).length) c131, .slice A133 (((startG n).lives).length) c134, .slice A136 (((startG n).tallies).length) c137]), (2, .slice (some ⟨g139, 0, none⟩) n.toNat n.toNat)]) rfl (fun _ => by kernel_rfl)) ?_
     refine a_all (rs := [7]) (by kernel_rfl) rfl ?_
     refine aa_cons rfl ?_ ?_
     ·
      refine l_st (u := .agg #[ni self, .slice A130 (((startG n).clock).length) c131, .slice A133 (((startG n).lives).length) c134, .slice A136 (((startG n).tallies).length) c137, .slice (some ⟨g139, 0, none⟩) n.toNat n.toNat, .slice none 0 0, .slice none 0 0]) (i := 1) (cs' := #[ni self, .slice A130 (((startG n).clock).length) c131, .slice A133 (((startG n).lives).length) c134, .slice A136 (((startG n).tallies).length) c137, .slice (some ⟨g139, 0, none⟩) n.toNat n.toNat, .slice none 0 0, .slice none 0 0]) S rfl rfl rfl SZ31 rfl rfl rfl fun w146 S => ?_
      refine l_nil ?_
      have SC := ((S.tk 1 0 rfl rfl).weak sup11 (Rd.le_trans L118 L143))
      refine n_lp (ak SC ?_)
      refine a_done (by kernel_rfl) ?_
      clear SC
      refine n_lp ⟨_, fr_keep (m := [(1, ni n), (4, pa g1 0), (5, ni 0), (6, pa g114 0)]) ⟨⟨rfl, rfl⟩, ⟨rfl, rfl⟩, ⟨rfl, rfl⟩, ⟨rfl, rfl⟩, trivial⟩, g114, A130, c131, A133, c134, A136, c137, (some ⟨g139, 0, none⟩), n.toNat, _, _, rfl, (S.tk 2 0 rfl rfl).rw' rfl rfl, (Rd.le_trans (Rd.le_trans (Rd.le_refl rd) L118) L143), h125, h127, h129, F145⟩
     exact aa_nil
    exact aa_nil
   refine aa_cons rfl ?_ ?_
   ·
    refine l_ms (m := n.toNat) (size := 1) S K23 Z3 rfl rfl (by omega) (by omega) (by omega) (by simp only [maxLen]; omega) fun g147 w148 S => ?_
    have O149 : RowR 1 IntR rd ((madeCells (Value.int .i64 0).cells (n.toNat * 1)).toList) (List.replicate n.toNat (0 : Int)) := made_ints _
    obtain ⟨rd150, S, L151, F152⟩ := S.frzo' (i := 0) rfl rfl
    replace O149 := rm O149 L151
    have F153 : SliceR 1 IntR rd150 (.slice (some ⟨g147, 0, none⟩) n.toNat n.toNat) (List.replicate n.toNat (0 : Int)) := F152 (by simp) O149; clear F152
    refine l_nil ?_
    have SC := ((S.tk 1 0 rfl rfl).weak sup11 L151)
    refine n_lp (ak SC ?_)
    refine a_all (rs := [2]) (by kernel_rfl) rfl ?_
    refine aa_cons rfl ?_ ?_
    ·
     refine l_c (en_f (vs := [ni n]) (CF 47 _) rfl rfl) (SStart_c _ _ S.le n) ?_
     rintro e w154 ⟨v159, rfl, h160, k⟩
     obtain ⟨rd155, S, L156, N157, X158⟩ := S.call' k; clear k
     replace F153 := fm F153 L156
     replace h160 := am h160 X158
     obtain ⟨cs161, h160v, h160⟩ := h160; subst h160v
     obtain ⟨sv162, sv164, sv166, h160e, h163, h165, h167⟩ := h160; subst h160e
     obtain ⟨A168, c169, rfl, m170, m170'⟩ := h163.val
     obtain ⟨A171, c172, rfl, m173, m173'⟩ := h165.val
     obtain ⟨A174, c175, rfl, m176, m176'⟩ := h167.val
     refine ckd ?_
     refine l_nil ?_
     have SC := ((S.tk 1 0 rfl rfl).weak sup11 (Rd.le_trans L151 L156))
     refine n_lp (ak SC ?_)
     refine a_tk (v := .agg #[ni self, .slice A168 (((startG n).clock).length) c169, .slice A171 (((startG n).lives).length) c172, .slice A174 (((startG n).tallies).length) c175, .slice (some ⟨g147, 0, none⟩) n.toNat n.toNat, .slice none 0 0, .slice none 0 0]) 5 rfl rfl SC rfl (y_bd (ps := [(0, ni self), (1, .agg #[.slice A168 (((startG n).clock).length) c169, .slice A171 (((startG n).lives).length) c172, .slice A174 (((startG n).tallies).length) c175]), (2, .slice (some ⟨g147, 0, none⟩) n.toNat n.toNat)]) rfl (fun _ => by kernel_rfl)) ?_
     refine a_all (rs := [7]) (by kernel_rfl) rfl ?_
     refine aa_cons rfl ?_ ?_
     ·
      refine l_st (u := .agg #[ni self, .slice A168 (((startG n).clock).length) c169, .slice A171 (((startG n).lives).length) c172, .slice A174 (((startG n).tallies).length) c175, .slice (some ⟨g147, 0, none⟩) n.toNat n.toNat, .slice none 0 0, .slice none 0 0]) (i := 1) (cs' := #[ni self, .slice A168 (((startG n).clock).length) c169, .slice A171 (((startG n).lives).length) c172, .slice A174 (((startG n).tallies).length) c175, .slice (some ⟨g147, 0, none⟩) n.toNat n.toNat, .slice none 0 0, .slice none 0 0]) S rfl rfl rfl SZ31 rfl rfl rfl fun w177 S => ?_
      refine l_nil ?_
      have SC := ((S.tk 1 0 rfl rfl).weak sup11 (Rd.le_trans L151 L156))
      refine n_lp (ak SC ?_)
      refine a_done (by kernel_rfl) ?_
      clear SC
      refine n_lp ⟨_, fr_keep (m := [(1, ni n), (4, pa g1 0), (5, ni 0), (6, pa g114 0)]) ⟨⟨rfl, rfl⟩, ⟨rfl, rfl⟩, ⟨rfl, rfl⟩, ⟨rfl, rfl⟩, trivial⟩, g114, A168, c169, A171, c172, A174, c175, (some ⟨g147, 0, none⟩), n.toNat, _, _, rfl, (S.tk 2 0 rfl rfl).rw' rfl rfl, (Rd.le_trans (Rd.le_trans (Rd.le_refl rd) L151) L156), h163, h165, h167, F153⟩
     exact aa_nil
    exact aa_nil
   exact aa_nil
  exact aa_nil
 rintro ov181 w180 ⟨g3, A0, c0, A1, c1, A2, c2, A3, c3, rd178, junk, rfl, S, L179, f1, f2, f3, f4⟩
 refine e_seq ?_
 refine e_seq ?_
 refine e_reg ?_
 refine l_y (v := ni n) S (y_mv rfl) ?_
 refine l_y (v := ni 0) S (y_mv rfl) ?_
 refine l_nil ?_
 refine n_seq ?_
 refine e_blk ?_
 have S := S.ownNil 23 1
 have O182 : RowR 1 (SlC 1 IntR) rd178 [] [] := rfl
 refine e_trim [(1, ni n), (4, pa g1 0), (5, ni 0), (6, pa g3 0), (28, ni n), (29, ni (0 : Int))] ⟨⟨rfl, rfl⟩, ⟨rfl, rfl⟩, ⟨rfl, rfl⟩, ⟨rfl, rfl⟩, ⟨rfl, rfl⟩, ⟨ival (by first | rfl | omega), rfl⟩, trivial⟩ (fun junk => ?_)
 refine e_loop (fun (gh_ : Nat × (List (List Int)) × (Option Addr) × Nat × Nat × (List Value)) ov w => match gh_ with | (k, o, AO, nO, cO, xsO) => ∃ rd' junk, ov = [(1, ni n), (4, pa g1 0), (5, ni 0), (6, pa g3 0), (28, ni n), (29, ni (k : Int))] ++ junk ∧ St [] W rd rd' [(g1, 31, #[ni 0, .slice none 0 0, .slice none 0 0, .slice none 0 0, .slice none 0 0, .slice none 0 0, .slice none 0 0]), (g3, 31, #[ni self, .slice A0 ((startG n).clock.length) c0, .slice A1 ((startG n).lives.length) c1, .slice A2 ((startG n).tallies.length) c2, .slice A3 n.toNat c3, .slice none 0 0, .slice AO nO cO])] [⟨23, 1, .slice AO nO cO, nO, xsO⟩] w ∧ Rd.le rd178 rd' ∧ (RowR 1 (SlC 1 IntR) rd' xsO o ∧ nO = o.length) ∧ k ≤ n.toNat ∧ o = List.replicate k (List.replicate n.toNat (0 : Int))) (fun gh_ => match gh_ with | (k, o, AO, nO, cO, xsO) => n.toNat - k) (0, [], none, 0, 0, []) ⟨_, junk, rfl, (S.rw' rfl rfl), (Rd.le_refl _), ⟨O182, (by first | rfl | assumption | omega)⟩, (by omega), (by rfl)⟩ ?_
 rintro ⟨k, o, AO, nO, cO, xsO⟩ ov186 w184 ⟨rd183, junk, rfl, S, L185, ⟨OO, on187⟩, hko, ho⟩
 replace f1 := fm f1 L185
 replace f2 := fm f2 L185
 replace f3 := fm f3 L185
 replace f4 := fm f4 L185
 have hbo : o.length ≤ 6 := by rw [ho, List.length_replicate]; omega
 refine e_seq ?_
 refine e_reg ?_
 by_cases h188 : (k : Int) < n
 ·
  refine l_y (v := .bool true) S (y_ltT rfl rfl h188) ?_
  refine l_nil ?_
  refine n_seq ?_
  refine e_seq ?_
  refine e_cT rfl ?_
  refine e_skip ?_
  refine n_seq ?_
  refine e_seq ?_
  refine e_blk ?_
  refine e_a (fun w => St [] W rd rd183 [(g1, 31, #[ni 0, .slice none 0 0, .slice none 0 0, .slice none 0 0, .slice none 0 0, .slice none 0 0, .slice none 0 0])] [] w) MX rfl ?_
  have S := S.drew; have sup189 := S.sup
  have SC := ((S.tk 2 0 rfl rfl).del 1)
  refine a_tk (v := pa g3 6) 0 rfl rfl SC rfl (y_fb FA31_4 rfl rfl) ?_
  refine a_tk (v := ni n) 2 rfl rfl SC rfl (y_mv rfl) ?_
  refine a_all (rs := [1, 3]) (by kernel_rfl) rfl ?_
  refine aa_cons rfl ?_ ?_
  ·
   refine l_y (v := .slice AO nO cO) S (y_ld rfl (fun w S => ld_b1 (i := 1) S rfl rfl T29)) ?_
   refine l_nil ?_
   have SC := ((S.tk 2 0 rfl rfl).del 1)
   refine n_lp (ak SC ?_)
   refine a_all (rs := [3]) (by kernel_rfl) rfl ?_
   refine aa_cons rfl ?_ ?_
   ·
    refine l_ms (m := n.toNat) (size := 1) S K23 Z3 rfl rfl (by omega) (by omega) (by omega) (by simp only [maxLen]; omega) fun g190 w191 S => ?_
    have O192 : RowR 1 IntR rd183 ((madeCells (Value.int .i64 0).cells (n.toNat * 1)).toList) (List.replicate n.toNat (0 : Int)) := made_ints _
    obtain ⟨rd193, S, L194, F195⟩ := S.frzo' (i := 1) rfl rfl
    replace f1 := fm f1 L194
    replace f2 := fm f2 L194
    replace f3 := fm f3 L194
    replace f4 := fm f4 L194
    replace OO := rm OO L194
    replace O192 := rm O192 L194
    have F196 : SliceR 1 IntR rd193 (.slice (some ⟨g190, 0, none⟩) n.toNat n.toNat) (List.replicate n.toNat (0 : Int)) := F195 (by simp) O192; clear F195
    refine l_nil ?_
    have SC := (((S.tk 2 0 rfl rfl).del 1).weak sup189 L194)
    refine n_lp (ak SC ?_)
    refine a_all (rs := [4]) (by kernel_rfl) rfl ?_
    refine aa_cons rfl ?_ ?_
    ·
     refine l_bs (ps := [(0, .slice (some ⟨g190, 0, none⟩) n.toNat n.toNat)]) (cs := #[.slice (some ⟨g190, 0, none⟩) n.toNat n.toNat]) S U29 SZ23 Z23 rfl rfl rfl (by kernel_rfl) fun g197 w198 S => ?_
     refine l_nil ?_
     have SC := (((S.tk 2 0 rfl rfl).del 1).weak sup189 L194)
     refine n_lp (ak SC ?_)
     refine a_all (rs := [5]) (by kernel_rfl) rfl ?_
     refine aa_cons rfl ?_ ?_
     ·
      refine l_ap (e' := 0) (i := 0) (i' := 2) S K29 rfl rfl rfl rfl rfl rfl rfl (by simp only [maxLen]; omega) (by first | omega | (dsimp only; omega)) fun v199 w200 S => ?_
      have OO := RowR.push (x := List.replicate n.toNat (0 : Int)) (cs := [.slice (some ⟨g190, 0, none⟩) n.toNat n.toNat]) OO rfl ⟨_, rfl, F196⟩
      obtain ⟨A201, c202, m203e, m203, m203'⟩ : ∃ A c, v199 = .slice A (nO + 1) c ∧ (nO + 1) ≤ c ∧ c ≤ maxLen := own_len S (i := 0) rfl; subst m203e
      refine l_nil ?_
      have SC := (((S.tk 2 0 rfl rfl).del 1).weak sup189 L194)
      refine n_lp (ak SC ?_)
      refine a_tk (v := pa g3 6) 6 rfl rfl SC rfl (y_fb FA31_4 rfl rfl) ?_
      refine a_all (rs := [7]) (by kernel_rfl) rfl ?_
      refine aa_cons rfl ?_ ?_
      ·
       refine l_st (u := .slice A201 (nO + 1) c202) (i := 1) (cs' := #[ni self, .slice A0 ((startG n).clock.length) c0, .slice A1 ((startG n).lives.length) c1, .slice A2 ((startG n).tallies.length) c2, .slice A3 n.toNat c3, .slice none 0 0, .slice A201 (nO + 1) c202]) S rfl rfl rfl SZ29 rfl rfl rfl fun w204 S => ?_
       refine l_nil ?_
       have SC := (((S.tk 2 0 rfl rfl).del 1).weak sup189 L194)
       refine n_lp (ak SC ?_)
       refine a_done (by kernel_rfl) ?_
       clear SC
       refine n_blk ?_
       refine n_seq ?_
       refine e_reg ?_
       refine l_y (v := ni ((k : Int) + 1)) S (y_add (r := (k : Int) + 1) rfl rfl (w64 (by omega) (by omega))) ?_
       refine l_y (v := ni ((k : Int) + 1)) S (y_mv rfl) ?_
       refine l_nil ?_
       refine n_lp ⟨(k + 1, o ++ [List.replicate n.toNat (0 : Int)], A201, nO + 1, c202, (xsO ++ [.slice (some ⟨g190, 0, none⟩) n.toNat n.toNat])), _, fr_keep (m := [(1, ni n), (4, pa g1 0), (5, ni 0), (6, pa g3 0), (28, ni n), (29, ni ((k + 1 : Nat) : Int))]) ⟨⟨rfl, rfl⟩, ⟨rfl, rfl⟩, ⟨rfl, rfl⟩, ⟨rfl, rfl⟩, ⟨rfl, rfl⟩, ⟨ival (by first | rfl | omega), rfl⟩, trivial⟩, ⟨_, _, rfl, (S.tk 2 1 rfl rfl), (Rd.le_trans L185 (Rd.le_trans (Rd.le_refl rd183) L194)), ⟨OO, (by simp; omega)⟩, (by omega), (by rw [ho, List.replicate_succ'])⟩, ?_⟩
       show _ < _; dsimp only; omega
      exact aa_nil
     exact aa_nil
    exact aa_nil
   exact aa_nil
  refine aa_cons rfl ?_ ?_
  ·
   refine l_ms (m := n.toNat) (size := 1) S K23 Z3 rfl rfl (by omega) (by omega) (by omega) (by simp only [maxLen]; omega) fun g205 w206 S => ?_
   have O207 : RowR 1 IntR rd183 ((madeCells (Value.int .i64 0).cells (n.toNat * 1)).toList) (List.replicate n.toNat (0 : Int)) := made_ints _
   obtain ⟨rd208, S, L209, F210⟩ := S.frzo' (i := 1) rfl rfl
   replace f1 := fm f1 L209
   replace f2 := fm f2 L209
   replace f3 := fm f3 L209
   replace f4 := fm f4 L209
   replace OO := rm OO L209
   replace O207 := rm O207 L209
   have F211 : SliceR 1 IntR rd208 (.slice (some ⟨g205, 0, none⟩) n.toNat n.toNat) (List.replicate n.toNat (0 : Int)) := F210 (by simp) O207; clear F210
   refine l_nil ?_
   have SC := (((S.tk 2 0 rfl rfl).del 1).weak sup189 L209)
   refine n_lp (ak SC ?_)
   refine a_all (rs := [1, 4]) (by kernel_rfl) rfl ?_
   refine aa_cons rfl ?_ ?_
   ·
    refine l_y (v := .slice AO nO cO) S (y_ld rfl (fun w S => ld_b1 (i := 1) S rfl rfl T29)) ?_
    refine l_nil ?_
    have SC := (((S.tk 2 0 rfl rfl).del 1).weak sup189 L209)
    refine n_lp (ak SC ?_)
    refine a_all (rs := [4]) (by kernel_rfl) rfl ?_
    refine aa_cons rfl ?_ ?_
    ·
     refine l_bs (ps := [(0, .slice (some ⟨g205, 0, none⟩) n.toNat n.toNat)]) (cs := #[.slice (some ⟨g205, 0, none⟩) n.toNat n.toNat]) S U29 SZ23 Z23 rfl rfl rfl (by kernel_rfl) fun g212 w213 S => ?_
     refine l_nil ?_
     have SC := (((S.tk 2 0 rfl rfl).del 1).weak sup189 L209)
     refine n_lp (ak SC ?_)
     refine a_all (rs := [5]) (by kernel_rfl) rfl ?_
     refine aa_cons rfl ?_ ?_
     ·
      refine l_ap (e' := 0) (i := 0) (i' := 2) S K29 rfl rfl rfl rfl rfl rfl rfl (by simp only [maxLen]; omega) (by first | omega | (dsimp only; omega)) fun v214 w215 S => ?_
      have OO := RowR.push (x := List.replicate n.toNat (0 : Int)) (cs := [.slice (some ⟨g205, 0, none⟩) n.toNat n.toNat]) OO rfl ⟨_, rfl, F211⟩
      obtain ⟨A216, c217, m218e, m218, m218'⟩ : ∃ A c, v214 = .slice A (nO + 1) c ∧ (nO + 1) ≤ c ∧ c ≤ maxLen := own_len S (i := 0) rfl; subst m218e
      refine l_nil ?_
      have SC := (((S.tk 2 0 rfl rfl).del 1).weak sup189 L209)
      refine n_lp (ak SC ?_)
      refine a_tk (v := pa g3 6) 6 rfl rfl SC rfl (y_fb FA31_4 rfl rfl) ?_
      refine a_all (rs := [7]) (by kernel_rfl) rfl ?_
      refine aa_cons rfl ?_ ?_
      ·
       refine l_st (u := .slice A216 (nO + 1) c217) (i := 1) (cs' := #[ni self, .slice A0 ((startG n).clock.length) c0, .slice A1 ((startG n).lives.length) c1, .slice A2 ((startG n).tallies.length) c2, .slice A3 n.toNat c3, .slice none 0 0, .slice A216 (nO + 1) c217]) S rfl rfl rfl SZ29 rfl rfl rfl fun w219 S => ?_
       refine l_nil ?_
       have SC := (((S.tk 2 0 rfl rfl).del 1).weak sup189 L209)
       refine n_lp (ak SC ?_)
       refine a_done (by kernel_rfl) ?_
       clear SC
       refine n_blk ?_
       refine n_seq ?_
       refine e_reg ?_
       refine l_y (v := ni ((k : Int) + 1)) S (y_add (r := (k : Int) + 1) rfl rfl (w64 (by omega) (by omega))) ?_
       refine l_y (v := ni ((k : Int) + 1)) S (y_mv rfl) ?_
       refine l_nil ?_
       refine n_lp ⟨(k + 1, o ++ [List.replicate n.toNat (0 : Int)], A216, nO + 1, c217, (xsO ++ [.slice (some ⟨g205, 0, none⟩) n.toNat n.toNat])), _, fr_keep (m := [(1, ni n), (4, pa g1 0), (5, ni 0), (6, pa g3 0), (28, ni n), (29, ni ((k + 1 : Nat) : Int))]) ⟨⟨rfl, rfl⟩, ⟨rfl, rfl⟩, ⟨rfl, rfl⟩, ⟨rfl, rfl⟩, ⟨rfl, rfl⟩, ⟨ival (by first | rfl | omega), rfl⟩, trivial⟩, ⟨_, _, rfl, (S.tk 2 1 rfl rfl), (Rd.le_trans L185 (Rd.le_trans (Rd.le_refl rd183) L209)), ⟨OO, (by simp; omega)⟩, (by omega), (by rw [ho, List.replicate_succ'])⟩, ?_⟩
       show _ < _; dsimp only; omega
      exact aa_nil
     exact aa_nil
    exact aa_nil
   refine aa_cons rfl ?_ ?_
   ·
    refine l_bs (ps := [(0, .slice (some ⟨g205, 0, none⟩) n.toNat n.toNat)]) (cs := #[.slice (some ⟨g205, 0, none⟩) n.toNat n.toNat]) S U29 SZ23 Z23 rfl rfl rfl (by kernel_rfl) fun g220 w221 S => ?_
    refine l_nil ?_
    have SC := (((S.tk 2 0 rfl rfl).del 1).weak sup189 L209)
    refine n_lp (ak SC ?_)
    refine a_all (rs := [1]) (by kernel_rfl) rfl ?_
    refine aa_cons rfl ?_ ?_
    ·
     refine l_y (v := .slice AO nO cO) S (y_ld rfl (fun w S => ld_b1 (i := 1) S rfl rfl T29)) ?_
     refine l_nil ?_
     have SC := (((S.tk 2 0 rfl rfl).del 1).weak sup189 L209)
     refine n_lp (ak SC ?_)
     refine a_all (rs := [5]) (by kernel_rfl) rfl ?_
     refine aa_cons rfl ?_ ?_
     ·
      refine l_ap (e' := 0) (i := 0) (i' := 2) S K29 rfl rfl rfl rfl rfl rfl rfl (by simp only [maxLen]; omega) (by first | omega | (dsimp only; omega)) fun v222 w223 S => ?_
      have OO := RowR.push (x := List.replicate n.toNat (0 : Int)) (cs := [.slice (some ⟨g205, 0, none⟩) n.toNat n.toNat]) OO rfl ⟨_, rfl, F211⟩
      obtain ⟨A224, c225, m226e, m226, m226'⟩ : ∃ A c, v222 = .slice A (nO + 1) c ∧ (nO + 1) ≤ c ∧ c ≤ maxLen := own_len S (i := 0) rfl; subst m226e
      refine l_nil ?_
      have SC := (((S.tk 2 0 rfl rfl).del 1).weak sup189 L209)
      refine n_lp (ak SC ?_)
      refine a_tk (v := pa g3 6) 6 rfl rfl SC rfl (y_fb FA31_4 rfl rfl) ?_
      refine a_all (rs := [7]) (by kernel_rfl) rfl ?_
      refine aa_cons rfl ?_ ?_
      ·
       refine l_st (u := .slice A224 (nO + 1) c225) (i := 1) (cs' := #[ni self, .slice A0 ((startG n).clock.length) c0, .slice A1 ((startG n).lives.length) c1, .slice A2 ((startG n).tallies.length) c2, .slice A3 n.toNat c3, .slice none 0 0, .slice A224 (nO + 1) c225]) S rfl rfl rfl SZ29 rfl rfl rfl fun w227 S => ?_
       refine l_nil ?_
       have SC := (((S.tk 2 0 rfl rfl).del 1).weak sup189 L209)
       refine n_lp (ak SC ?_)
       refine a_done (by kernel_rfl) ?_
       clear SC
       refine n_blk ?_
       refine n_seq ?_
       refine e_reg ?_
       refine l_y (v := ni ((k : Int) + 1)) S (y_add (r := (k : Int) + 1) rfl rfl (w64 (by omega) (by omega))) ?_
       refine l_y (v := ni ((k : Int) + 1)) S (y_mv rfl) ?_
       refine l_nil ?_
       refine n_lp ⟨(k + 1, o ++ [List.replicate n.toNat (0 : Int)], A224, nO + 1, c225, (xsO ++ [.slice (some ⟨g205, 0, none⟩) n.toNat n.toNat])), _, fr_keep (m := [(1, ni n), (4, pa g1 0), (5, ni 0), (6, pa g3 0), (28, ni n), (29, ni ((k + 1 : Nat) : Int))]) ⟨⟨rfl, rfl⟩, ⟨rfl, rfl⟩, ⟨rfl, rfl⟩, ⟨rfl, rfl⟩, ⟨rfl, rfl⟩, ⟨ival (by first | rfl | omega), rfl⟩, trivial⟩, ⟨_, _, rfl, (S.tk 2 1 rfl rfl), (Rd.le_trans L185 (Rd.le_trans (Rd.le_refl rd183) L209)), ⟨OO, (by simp; omega)⟩, (by omega), (by rw [ho, List.replicate_succ'])⟩, ?_⟩
       show _ < _; dsimp only; omega
      exact aa_nil
     exact aa_nil
    exact aa_nil
   exact aa_nil
  exact aa_nil
 refine l_y (v := .bool false) S (y_ltF rfl rfl h188) ?_
 refine l_nil ?_
 refine n_seq ?_
 refine e_seq ?_
 refine e_cF rfl ?_
 refine e_exit ?_
 refine x_seq ?_
 refine x_lp ?_
 refine x_hit ?_
 refine n_seq ?_
 refine e_seq ?_
 refine e_reg ?_
 refine l_y (v := .agg #[ni self, .slice A0 ((startG n).clock.length) c0, .slice A1 ((startG n).lives.length) c1, .slice A2 ((startG n).tallies.length) c2, .slice A3 n.toNat c3, .slice none 0 0, .slice AO nO cO]) S (y_ld rfl (fun w S => ld_bA (vs := [ni self, .slice A0 ((startG n).clock.length) c0, .slice A1 ((startG n).lives.length) c1, .slice A2 ((startG n).tallies.length) c2, .slice A3 n.toNat c3, .slice none 0 0, .slice AO nO cO]) (i := 1) S rfl T31 rfl rfl)) ?_
 refine l_st (u := .agg #[ni self, .slice A0 ((startG n).clock.length) c0, .slice A1 ((startG n).lives.length) c1, .slice A2 ((startG n).tallies.length) c2, .slice A3 n.toNat c3, .slice none 0 0, .slice AO nO cO]) (i := 0) (cs' := #[ni self, .slice A0 ((startG n).clock.length) c0, .slice A1 ((startG n).lives.length) c1, .slice A2 ((startG n).tallies.length) c2, .slice A3 n.toNat c3, .slice none 0 0, .slice AO nO cO]) S rfl rfl rfl SZ31 rfl rfl rfl fun w228 S => ?_
 refine l_y (v := ni 0) S (y_as rfl) ?_
 refine l_nil ?_
 refine n_seq ?_
 refine e_ret ?_
 refine ret2 (v := .agg #[ni self, .slice A0 ((startG n).clock.length) c0, .slice A1 ((startG n).lives.length) c1, .slice A2 ((startG n).tallies.length) c2, .slice A3 n.toNat c3, .slice none 0 0, .slice AO nO cO]) (v' := ni 0) rfl ⟨_, rfl, ld_bA (i := 0) (vs := [ni self, .slice A0 ((startG n).clock.length) c0, .slice A1 ((startG n).lives.length) c1, .slice A2 ((startG n).tallies.length) c2, .slice A3 n.toNat c3, .slice none 0 0, .slice AO nO cO]) S rfl T31 rfl rfl⟩ rfl ?_
 obtain rfl : k = n.toNat := by omega
 have es : StartN self n = ((⟨self, (startG n), List.replicate n.toNat (0 : Int), [], o⟩ : Node), 0) := by unfold StartN startN; rw [if_neg (by omega), if_neg (by omega), ho]
 rw [es]
 exact ⟨_, rfl, ⟨_, rfl, ⟨_, _, _, _, _, _, rfl, (fm f1 S.out), (fm f2 S.out), (fm f3 S.out), (fm f4 S.out), (SliceR.nil_ _), (S.rowOut (i := 0) rfl rfl (by assumption) rfl OO)⟩⟩, S.below⟩
end Go.Proofs.YtkjknlnhffmkkacGreat
