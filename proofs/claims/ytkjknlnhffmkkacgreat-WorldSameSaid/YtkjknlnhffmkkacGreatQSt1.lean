/- States: Own, Wrong. -/
import Derived.Test.YtkjknlnhffmkkacGreatQCmp
import Derived.Test.YtkjknlnhffmkkacGreatQClone
namespace Go.Proofs.YtkjknlnhffmkkacGreat
open Go.RowKit
set_option linter.unusedVariables false
def StBd (s : State) : Prop := s.clock.length * 8 ≤ 140737488355328 ∧ s.lives.length * 40 ≤ 140737488355328 ∧ s.tallies.length * 24 ≤ 140737488355328
set_option maxRecDepth 100000 in
theorem SOwn_c (rd : Rd) (W : World) (hle : Rd.le rd (wrd W)) (v : Value) (s : State) (h : AggR StateR rd v s) (hb : StBd s) :
    Calls Tryz.prog 58 #[v] W (fun e w' => ∃ v1 v2 v3 x1 x2 x3, e = .returned (.agg #[v1, v2, v3]) ∧ OwnsL W.heap.size w' [⟨3, 1, v1, s.clock.length, x1⟩, ⟨104, 5, v2, s.lives.length, x2⟩, ⟨106, 3, v3, s.tallies.length, x3⟩] ∧ RowR 1 IntR rd x1 s.clock ∧ RowR 5 LiveR rd x2 s.lives ∧ RowR 3 TallyR rd x3 s.tallies ∧ Below W.heap.size W w') := by
 obtain ⟨vs1, he, h⟩ := h; subst he; obtain ⟨sv2, sv4, sv6, he, h3, h5, h7⟩ := h; subst he; obtain ⟨A8, c9, rfl, m10, m10'⟩ := h3.val; obtain ⟨A11, c12, rfl, m13, m13'⟩ := h5.val; obtain ⟨A14, c15, rfl, m16, m16'⟩ := h7.val; have hmx : maxLen = 9223372036854775807 := rfl; obtain ⟨hb1, hb2, hb3⟩ := hb; have S : St [] W rd rd [] [] W := St.start hle; refine e_enter (args := [.agg (kS s A8 c9 A11 c12 A14 c15)]) 13 Tryz.func58 rfl rfl rfl ?_; refine e_seq (e_reg (l_bx (u := .agg (kS s A8 c9 A11 c12 A14 c15)) (cs := (kS s A8 c9 A11 c12 A14 c15)) S rfl rfl fun g17 w18 S => l_al (cs := zc27) S Z27 rfl fun g19 w20 S => l_nil (n_seq (e_seq ?_)))); refine e_a (fun w => St [] W rd rd [(g17, 27, (kS s A8 c9 A11 c12 A14 c15))] [] w) MX rfl ?_; have S := S.drew; have sup21 := S.sup; have SC := ((S.tk 2 0 rfl rfl).del 1); refine tk (pa g17 0) 0 rfl rfl SC (y_fb FA27_0 rfl rfl) (tk (.slice A8 s.clock.length c9) 1 rfl rfl SC (yb1 0 T23) (tk (pa g17 1) 3 rfl rfl SC (y_fb FA27_1 rfl rfl) (tk (.slice A11 s.lives.length c12) 4 rfl rfl SC (yb1 0 T24) (tk (pa g17 2) 6 rfl rfl SC (y_fb FA27_2 rfl rfl) (tk (.slice A14 s.tallies.length c15) 7 rfl rfl SC (yb1 0 T25) ?_))))); refine a_all (rs := [2]) (by kernel_rfl) rfl ?_; refine aa_cons rfl ?_ ?_
 ·
  refine l_c (en_f (vs := [.slice A8 s.clock.length c9]) (CF 45 _) rfl rfl) (CloneC_o _ _ S.le _ _ h3 (by omega)) ?_; rintro e w22 ⟨v23, xs24, rfl, hO, O25, k⟩; have S := S.ownAddL k hO; clear k hO; obtain ⟨A26, c27, m28e, m28, m28'⟩ : ∃ A c, v23 = .slice A s.clock.length c ∧ s.clock.length ≤ c ∧ c ≤ maxLen := own_len S (i := 0) rfl; subst m28e; refine ckd (l_nil ?_); have SC := ((S.tk 2 0 rfl rfl).del 1); refine n_lp (ak SC ?_); refine a_all (rs := [5]) (by kernel_rfl) rfl ?_; refine aa_cons rfl ?_ ?_
  ·
   refine l_c (en_f (vs := [.slice A11 s.lives.length c12]) (CF 100 _) rfl rfl) (CloneL_o _ _ S.le _ _ h5 (by omega)) ?_; rintro e w29 ⟨v30, xs31, rfl, hO, O32, k⟩; have S := S.ownAddL k hO; clear k hO; obtain ⟨A33, c34, m35e, m35, m35'⟩ : ∃ A c, v30 = .slice A s.lives.length c ∧ s.lives.length ≤ c ∧ c ≤ maxLen := own_len S (i := 1) rfl; subst m35e; refine ckd (l_nil ?_); have SC := ((S.tk 2 0 rfl rfl).del 1); refine n_lp (ak SC ?_); refine a_all (rs := [8]) (by kernel_rfl) rfl ?_; refine aa_cons rfl ?_ ?_
   ·
    refine l_c (en_f (vs := [.slice A14 s.tallies.length c15]) (CF 101 _) rfl rfl) (CloneT_o _ _ S.le _ _ h7 (by omega)) ?_; rintro e w36 ⟨v37, xs38, rfl, hO, O39, k⟩; have S := S.ownAddL k hO; clear k hO; obtain ⟨A40, c41, m42e, m42, m42'⟩ : ∃ A c, v37 = .slice A s.tallies.length c ∧ s.tallies.length ≤ c ∧ c ≤ maxLen := own_len S (i := 2) rfl; subst m42e; refine ckd (l_nil ?_); have SC := ((S.tk 2 0 rfl rfl).del 1); refine n_lp (ak SC ?_); refine tk (.agg (kS s A26 c27 A33 c34 A40 c41)) 9 rfl rfl SC (y_bd (ps := [(0, .slice A26 s.clock.length c27), (1, .slice A33 s.lives.length c34), (2, .slice A40 s.tallies.length c41)]) rfl (fun _ => by kernel_rfl)) ?_; refine a_all (rs := [10]) (by kernel_rfl) rfl ?_; refine aa_cons rfl ?_ ?_
    ·
     refine l_st (u := .agg (kS s A26 c27 A33 c34 A40 c41)) (i := 1) (cs' := (kS s A26 c27 A33 c34 A40 c41)) S rfl rfl rfl SZ27 rfl rfl rfl fun w43 S => l_nil ?_
     have SC := ((S.tk 2 0 rfl rfl).del 1); refine n_lp (ak SC ?_); refine a_done (by kernel_rfl) ?_; clear SC; refine n_seq (e_ret ?_); refine ret1 (v := .agg (kS s A26 c27 A33 c34 A40 c41)) rfl ⟨_, rfl, ld_bA (i := 1) (vs := [.slice A26 s.clock.length c27, .slice A33 s.lives.length c34, .slice A40 s.tallies.length c41]) S rfl T27 rfl rfl⟩ ?_; exact ⟨_, _, _, _, _, _, rfl, S.ownsL, O25, O32, O39, S.below⟩
    exact aa_nil
   exact aa_nil
  exact aa_nil
 exact aa_nil
end Go.Proofs.YtkjknlnhffmkkacGreat
