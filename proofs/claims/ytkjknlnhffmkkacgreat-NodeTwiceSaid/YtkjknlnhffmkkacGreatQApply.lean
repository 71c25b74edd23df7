/- state.apply: a theorem for each kind of update. -/
import Derived.Test.YtkjknlnhffmkkacGreatQCount
import Derived.Test.YtkjknlnhffmkkacGreatQEnds
import Derived.Test.YtkjknlnhffmkkacGreatQSt1
import Derived.Test.YtkjknlnhffmkkacGreatQUpdate2
namespace Go.Proofs.YtkjknlnhffmkkacGreat
open Go.RowKit
set_option linter.unusedVariables false
theorem rowI_any {rd rd' : Rd} : ∀ {l : List Int} {xs : List Value}, RowR 1 IntR rd xs l → RowR 1 IntR rd' xs l
  | [], _, h => h
  | _ :: _, _, ⟨cs, rest, e, h1, h2, h3⟩ => ⟨cs, rest, e, h1, h2, rowI_any h3⟩
theorem row_insO {α : Type} {size : Nat} {R : CR α} {rd : Rd} {f : α → α → Int} {xs cs : List Value} {l : List α} {x : α} {i : Nat} (he : i = idxO (fun y => f y x) l) (hr : RowR size R rd xs l) (hi : i ≤ l.length) (hc : cs.length = size) (hx : R rd cs x) : RowR size R rd (xs.take (i * size) ++ cs ++ xs.drop (i * size)) (insO f l x) := by
  unfold insO; rw [← he]; exact RowR.ins hr hi hc hx
section
variable {s : State} {u : Upd}
theorem applyS_k1 (hk : u.kind = 1) : applyS s u = ⟨tickC s.clock u.author, insO ordL (s.lives.filter fun y => !endsC false u y) (newL false u (seqU u)), s.tallies⟩ := by unfold applyS; simp [hk]
theorem applyS_k2 (hk : u.kind = 2) : applyS s u = ⟨tickC s.clock u.author, s.lives.filter fun y => !endsC false u y, s.tallies⟩ := by unfold applyS; simp [hk]
theorem applyS_k3 (hk : u.kind = 3) : applyS s u = ⟨tickC s.clock u.author, insO ordL s.lives (newL true u (seqU u)), s.tallies⟩ := by unfold applyS; simp [hk]
theorem applyS_k4 (hk : u.kind = 4) : applyS s u = ⟨tickC s.clock u.author, s.lives.filter fun y => !endsC true u y, s.tallies⟩ := by unfold applyS; simp [hk]
theorem applyS_k5 (hk : u.kind = 5) : applyS s u = ⟨tickC s.clock u.author, s.lives, countL s.tallies ⟨u.key, u.author, u.item⟩⟩ := by unfold applyS; simp [hk]
end
theorem ap_fin {B : Nat} {W w : World} {rd rd' : Rd} {T1 T2 T3 : TypeId} {v1 v2 v3 : Value} {x1 x2 x3 : List Value} {c : List Int} {l : List Live} {t : List Tally} {s' : State} (he : (⟨c, l, t⟩ : State) = s') (hO : OwnsL B w [⟨T1, 1, v1, c.length, x1⟩, ⟨T2, 5, v2, l.length, x2⟩, ⟨T3, 3, v3, t.length, x3⟩]) (h1 : RowR 1 IntR rd' x1 c) (h2 : RowR 5 LiveR rd' x2 l) (h3 : RowR 3 TallyR rd' x3 t) (k : Below B W w) :
    ∃ v1' v2' v3' x1 x2 x3, Ending.returned (.agg #[v1, v2, v3]) = .returned (.agg #[v1', v2', v3']) ∧ OwnsL B w [⟨T1, 1, v1', s'.clock.length, x1⟩, ⟨T2, 5, v2', s'.lives.length, x2⟩, ⟨T3, 3, v3', s'.tallies.length, x3⟩] ∧ RowR 1 IntR rd x1 s'.clock ∧ RowR 5 LiveR rd x2 s'.lives ∧ RowR 3 TallyR rd x3 s'.tallies ∧ Below B W w := by
  subst he
  exact ⟨v1, v2, v3, x1, x2, x3, rfl, hO, rowI_any h1, rowL_any h2, rowT_any h3, k⟩
set_option maxRecDepth 100000 in
set_option maxHeartbeats 4000000 in
theorem Apply_k1 (rd : Rd) (W : World) (hle : Rd.le rd (wrd W)) (v v2 : Value) (s : State) (u : Upd) (h : AggR StateR rd v s) (h2 : AggR UpdR rd v2 u) (hk : u.kind = 1) (ha0 : 0 ≤ u.author) (ha1 : u.author < u.seen.length) (hsl : SortedL s.lives) (hst : SortedT s.tallies) (hsum : ∀ z ∈ s.tallies, -4611686018427387904 ≤ z.sum ∧ z.sum ≤ 4611686018427387903) (hit : -4611686018427387904 ≤ u.item ∧ u.item ≤ 4611686018427387903) (hb1 : s.clock.length * 8 ≤ 140737488355328) (hb2 : (s.lives.length + 1) * 40 ≤ 140737488355328) (hb3 : (s.tallies.length + 1) * 24 ≤ 140737488355328) :
    Calls Tryz.prog 96 #[v, v2] W (fun e w' => ∃ v1 v2 v3 x1 x2 x3, e = .returned (.agg #[v1, v2, v3]) ∧ OwnsL W.heap.size w' [⟨3, 1, v1, (applyS s u).clock.length, x1⟩, ⟨104, 5, v2, (applyS s u).lives.length, x2⟩, ⟨106, 3, v3, (applyS s u).tallies.length, x3⟩] ∧ RowR 1 IntR rd x1 (applyS s u).clock ∧ RowR 5 LiveR rd x2 (applyS s u).lives ∧ RowR 3 TallyR rd x3 (applyS s u).tallies ∧ Below W.heap.size W w') := by
 obtain ⟨vs1, he, h⟩ := h; subst he
 obtain ⟨sv2, sv4, sv6, he, h3, h5, h7⟩ := h; subst he
 obtain ⟨A8, c9, rfl, m10, m10'⟩ := h3.val
 obtain ⟨A11, c12, rfl, m13, m13'⟩ := h5.val
 obtain ⟨A14, c15, rfl, m16, m16'⟩ := h7.val
 obtain ⟨vs17, h2e, h2⟩ := h2; subst h2e
 obtain ⟨sv18, h2e, h19⟩ := h2; subst h2e
 obtain ⟨A20, c21, rfl, m22, m22'⟩ := h19.val
 have hmx : maxLen = 9223372036854775807 := rfl
 have hbd : StBd s := by (unfold StBd; omega)
 have hfl := List.length_filter_le (fun y => !endsC false u y) s.lives
 have S : St [] W rd rd [] [] W := St.start hle
 refine e_enter (args := [.agg #[.slice A8 s.clock.length c9, .slice A11 s.lives.length c12, .slice A14 s.tallies.length c15], .agg #[ni u.author, .slice A20 u.seen.length c21, ni u.kind, ni u.key, ni u.item]]) 82 Tryz.func96 rfl rfl rfl ?_
 refine e_seq ?_
 refine e_reg ?_
 refine l_bx (u := .agg #[.slice A8 s.clock.length c9, .slice A11 s.lives.length c12, .slice A14 s.tallies.length c15]) (cs := #[.slice A8 s.clock.length c9, .slice A11 s.lives.length c12, .slice A14 s.tallies.length c15]) S rfl rfl fun g23 w24 S => ?_
 refine l_bx (u := .agg #[ni u.author, .slice A20 u.seen.length c21, ni u.kind, ni u.key, ni u.item]) (cs := #[ni u.author, .slice A20 u.seen.length c21, ni u.kind, ni u.key, ni u.item]) S rfl rfl fun g25 w26 S => ?_
 refine l_al (cs := #[.slice none 0 0, .slice none 0 0, .slice none 0 0]) S Z27 rfl fun g27 w28 S => ?_
 refine l_nil ?_
 refine n_seq ?_
 refine e_seq ?_
 refine e_reg ?_
 refine l_y (v := .agg #[.slice A8 s.clock.length c9, .slice A11 s.lives.length c12, .slice A14 s.tallies.length c15]) S (y_ld rfl (fun w S => ld_bA (vs := [.slice A8 s.clock.length c9, .slice A11 s.lives.length c12, .slice A14 s.tallies.length c15]) (i := 0) S rfl T27 rfl rfl)) ?_
 refine l_c (en_f (vs := [.agg #[.slice A8 s.clock.length c9, .slice A11 s.lives.length c12, .slice A14 s.tallies.length c15]]) (CF 58 _) rfl rfl) (SOwn_c _ _ S.le _ _ (⟨_, rfl, ⟨_, _, _, rfl, h3, h5, h7⟩⟩ : AggR StateR rd _ s) hbd) ?_
 rintro e w29 ⟨v30, v31, v32, xs33, xs34, xs35, rfl, hO, O36, O37, O38, k⟩
 have S := S.ownAddL k hO; clear k hO
 obtain ⟨A39, c40, m41e, m41, m41'⟩ : ∃ A c, v30 = .slice A s.clock.length c ∧ s.clock.length ≤ c ∧ c ≤ maxLen := own_len S (i := 0) rfl; subst m41e
 obtain ⟨A42, c43, m44e, m44, m44'⟩ : ∃ A c, v31 = .slice A s.lives.length c ∧ s.lives.length ≤ c ∧ c ≤ maxLen := own_len S (i := 1) rfl; subst m44e
 obtain ⟨A45, c46, m47e, m47, m47'⟩ : ∃ A c, v32 = .slice A s.tallies.length c ∧ s.tallies.length ≤ c ∧ c ≤ maxLen := own_len S (i := 2) rfl; subst m47e
 refine ckd ?_
 refine l_al (cs := #[.slice none 0 0, .slice none 0 0, .slice none 0 0]) S Z27 rfl fun g48 w49 S => ?_
 refine l_st (u := .agg #[.slice A39 s.clock.length c40, .slice A42 s.lives.length c43, .slice A45 s.tallies.length c46]) (i := 3) (cs' := #[.slice A39 s.clock.length c40, .slice A42 s.lives.length c43, .slice A45 s.tallies.length c46]) S rfl rfl rfl SZ27 rfl rfl rfl fun w50 S => ?_
 refine l_nil ?_
 refine n_seq ?_
 refine e_seq ?_
 refine e_reg ?_
 refine l_y (v := pa g25 2) S (y_fb FA42_2 rfl rfl) ?_
 refine l_y (v := ni u.kind) S (y_ld rfl (fun w S => ld_b1 (i := 1) S rfl rfl T3)) ?_
 have h51 : ¬ (u.kind = 3) := by omega
 refine l_y (v := .bool false) S (y_eqF rfl rfl h51) ?_
 refine l_y (v := .bool false) S (y_mv rfl) ?_
 refine l_g (d' := 15) (v := pa g25 2) S (y_fb FA42_2 rfl rfl) rfl rfl ?_
 refine l_g (d' := 15) (v := ni u.kind) S (y_ld rfl (fun w S => ld_b1 (i := 1) S rfl rfl T3)) rfl rfl ?_
 have h52 : ¬ (u.kind = 4) := by omega
 refine l_g (d' := 15) (v := .bool false) S (y_eqF rfl rfl h52) rfl rfl ?_
 refine l_y (v := .bool false) S (y_pF rfl rfl) ?_
 refine l_al (cs := #[.bool false]) S Z4 rfl fun g53 w54 S => ?_
 refine l_st (u := .bool false) (i := 4) (cs' := #[.bool false]) S rfl rfl rfl SZ4 rfl rfl rfl fun w55 S => ?_
 refine l_nil ?_
 refine n_seq ?_
 refine e_seq ?_
 refine e_seq ?_
 refine e_reg ?_
 refine l_y (v := pa g25 2) S (y_fb FA42_2 rfl rfl) ?_
 refine l_y (v := ni u.kind) S (y_ld rfl (fun w S => ld_b1 (i := 1) S rfl rfl T3)) ?_
 have h56 : ¬ (u.kind = 5) := by omega
 refine l_y (v := .bool true) S (y_neT rfl rfl h56) ?_
 refine l_y (v := .bool true) S (y_mv rfl) ?_
 refine l_g (d' := 23) (v := pa g25 2) S (y_fb FA42_2 rfl rfl) rfl rfl ?_
 refine l_g (d' := 23) (v := ni u.kind) S (y_ld rfl (fun w S => ld_b1 (i := 1) S rfl rfl T3)) rfl rfl ?_
 have h57 : ¬ (u.kind = 3) := by omega
 refine l_g (d' := 23) (v := .bool true) S (y_neT rfl rfl h57) rfl rfl ?_
 refine l_y (v := .bool true) S (y_pT rfl rfl) ?_
 refine l_nil ?_
 refine n_seq ?_
 refine e_cT rfl ?_
 refine e_reg ?_
 refine l_y (v := pa g48 1) S (y_fb FA27_1 rfl rfl) ?_
 refine l_y (v := .slice A42 s.lives.length c43) S (y_ld rfl (fun w S => ld_b1 (i := 3) S rfl rfl T24)) ?_
 refine l_y (v := .func (.func 118) #[] #[pa g53 0, pa g25 0]) S (y_mf rfl rfl) ?_
 refine l_c (en_f (vs := [.slice A42 s.lives.length c43, .func (.func 118) #[] #[pa g53 0, pa g25 0]]) (CF 117 _) rfl rfl) (DelFL_o rd _ S.le _ _ _ s.lives (S.own _ (List.mem_of_getElem? (i := 1) rfl)).1 (fun g h => ((S.own _ (List.mem_of_getElem? (i := 1) rfl)).2 g h).2) O37 rfl 118 [pa g53 0, pa g25 0] (fun y => endsC false u y) (fun vs w => CF 118 vs (by kernel_rfl) w) (fun w y F => Ends_c (wrd w) w (Rd.le_refl _) _ _ _ _ y false u ⟨_, rfl, rfl⟩ ((S.muted (j := 1) rfl F).boxPtr (i := 4) rfl) ((S.muted (j := 1) rfl F).boxPtr (i := 1) rfl) (fm h19 (S.muted (j := 1) rfl F).le))) ?_
 rintro e w61 ⟨v58, xs59, rfl, hO, O60, hB, hF⟩
 have S := S.mut (j := 1) (q' := ⟨104, 5, v58, ((s.lives).filter fun y => !endsC false u y).length, xs59⟩) rfl hF (fun g h => by simpa using h) hO hB; clear hF hB hO
 obtain ⟨A62, c63, m64e, m64, m64'⟩ : ∃ A c, v58 = .slice A (((s.lives).filter fun y => !endsC false u y).length) c ∧ (((s.lives).filter fun y => !endsC false u y).length) ≤ c ∧ c ≤ maxLen := own_len S (i := 2) rfl; subst m64e
 refine ckd ?_
 refine l_y (v := pa g48 1) S (y_fb FA27_1 rfl rfl) ?_
 refine l_st (u := .slice A62 (((s.lives).filter fun y => !endsC false u y).length) c63) (i := 3) (cs' := #[.slice A39 s.clock.length c40, .slice A62 (((s.lives).filter fun y => !endsC false u y).length) c63, .slice A45 s.tallies.length c46]) S rfl rfl rfl SZ24 rfl rfl rfl fun w65 S => ?_
 refine l_nil ?_
 refine n_seq ?_
 refine e_seq ?_
 refine e_seq ?_
 refine e_reg ?_
 refine l_y (v := pa g25 2) S (y_fb FA42_2 rfl rfl) ?_
 refine l_y (v := ni u.kind) S (y_ld rfl (fun w S => ld_b1 (i := 1) S rfl rfl T3)) ?_
 refine l_nil ?_
 refine n_seq ?_
 refine e_blk ?_
 refine e_seq ?_
 refine e_seq ?_
 refine e_reg ?_
 have h66 : u.kind = 1 := by omega
 refine l_y (v := .bool true) S (y_eqT rfl rfl h66) ?_
 refine l_y (v := .bool true) S (y_as rfl) ?_
 refine l_nil ?_
 refine n_seq ?_
 refine e_cT rfl ?_
 refine e_skip ?_
 refine n_seq ?_
 refine e_cT rfl ?_
 refine e_cut (J := fun ov w => ∃ (g69 : Nat), ∃ rd' junk, ov = [(3, pa g25 0), (4, pa g27 0), (5, pa g48 0), (7, pa g69 0)] ++ junk ∧ St [] W rd rd' [(g23, 27, #[.slice A8 s.clock.length c9, .slice A11 s.lives.length c12, .slice A14 s.tallies.length c15]), (g25, 42, #[ni u.author, .slice A20 u.seen.length c21, ni u.kind, ni u.key, ni u.item]), (g27, 27, #[.slice none 0 0, .slice none 0 0, .slice none 0 0]), (g48, 27, #[.slice A39 s.clock.length c40, .slice A62 (((s.lives).filter fun y => !endsC false u y).length) c63, .slice A45 s.tallies.length c46]), (g53, 4, #[.bool false]), (g69, 104, #[.bool false, ni u.key, ni u.item, ni u.author, ni (seqU u)])] [⟨3, 1, .slice A39 s.clock.length c40, s.clock.length, xs33⟩, ⟨106, 3, .slice A45 s.tallies.length c46, s.tallies.length, xs35⟩, ⟨104, 5, .slice A62 (((s.lives).filter fun y => !endsC false u y).length) c63, ((s.lives).filter fun y => !endsC false u y).length, xs59⟩] w ∧ Rd.le rd rd') ?_ ?_
 ·
  refine e_a (fun w => St [] W rd rd [(g23, 27, #[.slice A8 s.clock.length c9, .slice A11 s.lives.length c12, .slice A14 s.tallies.length c15]), (g25, 42, #[ni u.author, .slice A20 u.seen.length c21, ni u.kind, ni u.key, ni u.item]), (g27, 27, #[.slice none 0 0, .slice none 0 0, .slice none 0 0]), (g48, 27, #[.slice A39 s.clock.length c40, .slice A62 (((s.lives).filter fun y => !endsC false u y).length) c63, .slice A45 s.tallies.length c46]), (g53, 4, #[.bool false])] [⟨3, 1, .slice A39 s.clock.length c40, s.clock.length, xs33⟩, ⟨106, 3, .slice A45 s.tallies.length c46, s.tallies.length, xs35⟩, ⟨104, 5, .slice A62 (((s.lives).filter fun y => !endsC false u y).length) c63, ((s.lives).filter fun y => !endsC false u y).length, xs59⟩] w) MX rfl ?_
  have S := S.drew; have sup67 := S.sup
  have SC := (S.tk 5 3 rfl rfl)
  refine a_tk (v := .bool false) 0 rfl rfl SC rfl (y_ld rfl (fun w S => ld_b1 (i := 4) S rfl rfl T4)) ?_
  refine a_tk (v := pa g25 3) 1 rfl rfl SC rfl (y_fb FA42_3 rfl rfl) ?_
  refine a_tk (v := ni u.key) 2 rfl rfl SC rfl (y_ld rfl (fun w S => ld_b1 (i := 1) S rfl rfl T3)) ?_
  refine a_tk (v := pa g25 4) 3 rfl rfl SC rfl (y_fb FA42_4 rfl rfl) ?_
  refine a_tk (v := ni u.item) 4 rfl rfl SC rfl (y_ld rfl (fun w S => ld_b1 (i := 1) S rfl rfl T3)) ?_
  refine a_tk (v := pa g25 0) 5 rfl rfl SC rfl (y_fb FA42_0 rfl rfl) ?_
  refine a_tk (v := ni u.author) 6 rfl rfl SC rfl (y_ld rfl (fun w S => ld_b1 (i := 1) S rfl rfl T3)) ?_
  refine a_tk (v := .agg #[ni u.author, .slice A20 u.seen.length c21, ni u.kind, ni u.key, ni u.item]) 7 rfl rfl SC rfl (y_ld rfl (fun w S => ld_bA (vs := [ni u.author, .slice A20 u.seen.length c21, ni u.kind, ni u.key, ni u.item]) (i := 1) S rfl T42 rfl rfl)) ?_
  refine a_all (rs := [8, 10]) (by kernel_rfl) rfl ?_
  refine aa_cons rfl ?_ ?_
  ·
   refine l_c (en_f (vs := [.agg #[ni u.author, .slice A20 u.seen.length c21, ni u.kind, ni u.key, ni u.item]]) (CF 84 _) rfl rfl) (Seq_calls _ _ _ (am (⟨_, rfl, ⟨_, rfl, h19⟩⟩ : AggR UpdR rd _ u) S.le) ha0 ha1) ?_
   rintro e w68 ⟨rfl, k⟩
   have S := S.callq k; clear k
   refine ckd ?_
   refine l_nil ?_
   have SC := (S.tk 5 3 rfl rfl)
   refine n_lp (ak SC ?_)
   refine a_tk (v := .agg #[.bool false, ni u.key, ni u.item, ni u.author, ni (seqU u)]) 9 rfl rfl SC rfl (y_bd (ps := [(0, .bool false), (1, ni u.key), (2, ni u.item), (3, ni u.author), (4, ni (seqU u))]) rfl (fun _ => by kernel_rfl)) ?_
   refine a_all (rs := [10]) (by kernel_rfl) rfl ?_
   refine aa_cons rfl ?_ ?_
   ·
    refine l_al (cs := #[.bool false, ni 0, ni 0, ni 0, ni 0]) S Z104 rfl fun g69 w70 S => ?_
    refine l_nil ?_
    have SC := (S.tk 5 3 rfl rfl)
    refine n_lp (ak SC ?_)
    refine a_all (rs := [11]) (by kernel_rfl) rfl ?_
    refine aa_cons rfl ?_ ?_
    ·
     refine l_st (u := .agg #[.bool false, ni u.key, ni u.item, ni u.author, ni (seqU u)]) (i := 5) (cs' := #[.bool false, ni u.key, ni u.item, ni u.author, ni (seqU u)]) S rfl rfl rfl SZ104 rfl rfl rfl fun w71 S => ?_
     refine l_nil ?_
     have SC := (S.tk 5 3 rfl rfl)
     refine n_lp (ak SC ?_)
     refine a_done (by kernel_rfl) ?_
     clear SC
     refine n_lp ⟨_, fr_keep (m := [(3, pa g25 0), (4, pa g27 0), (5, pa g48 0), (7, pa g69 0)]) ⟨⟨rfl, rfl⟩, ⟨rfl, rfl⟩, ⟨rfl, rfl⟩, ⟨rfl, rfl⟩, trivial⟩, g69, _, _, rfl, (S.tk 6 3 rfl rfl).rw' rfl rfl, (Rd.le_refl rd)⟩
    exact aa_nil
   exact aa_nil
  refine aa_cons rfl ?_ ?_
  ·
   refine l_al (cs := #[.bool false, ni 0, ni 0, ni 0, ni 0]) S Z104 rfl fun g72 w73 S => ?_
   refine l_nil ?_
   have SC := (S.tk 5 3 rfl rfl)
   refine n_lp (ak SC ?_)
   refine a_all (rs := [8]) (by kernel_rfl) rfl ?_
   refine aa_cons rfl ?_ ?_
   ·
    refine l_c (en_f (vs := [.agg #[ni u.author, .slice A20 u.seen.length c21, ni u.kind, ni u.key, ni u.item]]) (CF 84 _) rfl rfl) (Seq_calls _ _ _ (am (⟨_, rfl, ⟨_, rfl, h19⟩⟩ : AggR UpdR rd _ u) S.le) ha0 ha1) ?_
    rintro e w74 ⟨rfl, k⟩
    have S := S.callq k; clear k
    refine ckd ?_
    refine l_nil ?_
    have SC := (S.tk 5 3 rfl rfl)
    refine n_lp (ak SC ?_)
    refine a_tk (v := .agg #[.bool false, ni u.key, ni u.item, ni u.author, ni (seqU u)]) 9 rfl rfl SC rfl (y_bd (ps := [(0, .bool false), (1, ni u.key), (2, ni u.item), (3, ni u.author), (4, ni (seqU u))]) rfl (fun _ => by kernel_rfl)) ?_
    refine a_all (rs := [11]) (by kernel_rfl) rfl ?_
    refine aa_cons rfl ?_ ?_
    ·
     refine l_st (u := .agg #[.bool false, ni u.key, ni u.item, ni u.author, ni (seqU u)]) (i := 5) (cs' := #[.bool false, ni u.key, ni u.item, ni u.author, ni (seqU u)]) S rfl rfl rfl SZ104 rfl rfl rfl fun w75 S => ?_
     refine l_nil ?_
     have SC := (S.tk 5 3 rfl rfl)
     refine n_lp (ak SC ?_)
     refine a_done (by kernel_rfl) ?_
     clear SC
     refine n_lp ⟨_, fr_keep (m := [(3, pa g25 0), (4, pa g27 0), (5, pa g48 0), (7, pa g72 0)]) ⟨⟨rfl, rfl⟩, ⟨rfl, rfl⟩, ⟨rfl, rfl⟩, ⟨rfl, rfl⟩, trivial⟩, g72, _, _, rfl, (S.tk 6 3 rfl rfl).rw' rfl rfl, (Rd.le_refl rd)⟩
    exact aa_nil
   exact aa_nil
  exact aa_nil
 rintro ov79 w78 ⟨g69, rd76, junk, rfl, S, L77⟩
 replace h3 := fm h3 L77
 replace h5 := fm h5 L77
 replace h7 := fm h7 L77
 replace h19 := fm h19 L77
 replace O36 := rm O36 L77
 replace O38 := rm O38 L77
 replace O60 := rm O60 L77
 refine e_seq ?_
 refine e_reg ?_
 refine l_y (v := pa g48 1) S (y_fb FA27_1 rfl rfl) ?_
 refine l_y (v := .slice A62 (((s.lives).filter fun y => !endsC false u y).length) c63) S (y_ld rfl (fun w S => ld_b1 (i := 3) S rfl rfl T24)) ?_
 refine l_y (v := .agg #[.bool false, ni u.key, ni u.item, ni u.author, ni (seqU u)]) S (y_ld rfl (fun w S => ld_bA (vs := [.bool false, ni u.key, ni u.item, ni u.author, ni (seqU u)]) (i := 5) S rfl T104 rfl rfl)) ?_
 refine l_c (en_f (vs := [.slice A62 (((s.lives).filter fun y => !endsC false u y).length) c63, .agg #[.bool false, ni u.key, ni u.item, ni u.author, ni (seqU u)], .func (.func 86) #[] #[]]) (CF 119 _) rfl rfl) (BsL_c (wrd _) _ (Rd.le_refl _) _ _ ((s.lives).filter fun y => !endsC false u y) (⟨false, u.key, u.item, u.author, seqU u⟩ : Live) (S.rowS (n := 0) (i := 2) rfl rfl rfl rfl O60) (am (⟨_, rfl, rfl⟩ : AggR LiveR rd76 _ (⟨false, u.key, u.item, u.author, seqU u⟩ : Live)) S.le) (by omega) (mono_L (hsl.filter _) _)) ?_
 rintro e w80 ⟨i, b81, rfl, hi, ha, hb, hft, hff, k⟩
 have S := S.callq k; clear k
 refine ckd ?_
 refine l_y (v := .tuple #[ni (i : Int), .bool b81]) S (y_mv rfl) ?_
 refine l_y (v := ni (i : Int)) S (y_ex rfl rfl) ?_
 refine l_y (v := .bool b81) S (y_ex rfl rfl) ?_
 refine l_y (v := ni (i : Int)) S (y_as rfl) ?_
 refine l_y (v := .bool b81) S (y_as rfl) ?_
 refine l_nil ?_
 refine n_seq ?_
 refine e_reg ?_
 refine l_y (v := pa g48 1) S (y_fb FA27_1 rfl rfl) ?_
 refine l_y (v := .slice A62 (((s.lives).filter fun y => !endsC false u y).length) c63) S (y_ld rfl (fun w S => ld_b1 (i := 3) S rfl rfl T24)) ?_
 refine l_y (v := ni (i : Int)) S (y_mv rfl) ?_
 refine l_y (v := .agg #[.bool false, ni u.key, ni u.item, ni u.author, ni (seqU u)]) S (y_ld rfl (fun w S => ld_bA (vs := [.bool false, ni u.key, ni u.item, ni u.author, ni (seqU u)]) (i := 5) S rfl T104 rfl rfl)) ?_
 refine l_bs (ps := [(0, .agg #[.bool false, ni u.key, ni u.item, ni u.author, ni (seqU u)])]) (cs := #[.bool false, ni u.key, ni u.item, ni u.author, ni (seqU u)]) S U24 SZ104 Z104 rfl rfl rfl (by kernel_rfl) fun g82 w83 S => ?_
 refine l_c (en_f (vs := [.slice A62 (((s.lives).filter fun y => !endsC false u y).length) c63, ni (i : Int), .slice (some ⟨g82, 0, none⟩) 1 1]) (CF 120 _) rfl rfl) (InsL_c _ _ _ i _ _ #[.bool false, ni u.key, ni u.item, ni u.author, ni (seqU u)] (S.own _ (List.mem_of_getElem? (i := 2) rfl)).1 (S.box _ (List.mem_of_getElem? (i := 6) rfl)).2.1 (S.d3 _ (List.mem_of_getElem? (i := 6) rfl) _ (List.mem_of_getElem? (i := 2) rfl)) rfl (O60.one_ GoodR.one) rfl hi (by simp only [maxLen]; omega) (by dsimp only; omega)) ?_
 rintro e w86 ⟨v84, rfl, hO, hB, hF⟩
 have O85 : RowR 5 LiveR rd76 ((xs59).take (i * 5) ++ (#[.bool false, ni u.key, ni u.item, ni u.author, ni (seqU u)]).toList ++ (xs59).drop (i * 5)) (insO ordL ((s.lives).filter fun y => !endsC false u y) (newL false u (seqU u))) := row_insO (idxO_eq (f := fun y => ordL y (newL false u (seqU u))) hi ha hb) (cs := (#[.bool false, ni u.key, ni u.item, ni u.author, ni (seqU u)]).toList) O60 hi rfl (by exact rfl)
 have S := S.mutB (j := 2) (i := 6) (q' := ⟨104, 5, v84, (insO ordL ((s.lives).filter fun y => !endsC false u y) (newL false u (seqU u))).length, _⟩) rfl rfl hF (fun g h => by (simp only [List.mem_cons] at h; exact h.symm.imp (fun h => by simpa using h) id)) (by (rw [insO_len]; exact hO)) hB; clear hF hB hO
 obtain ⟨A87, c88, m89e, m89, m89'⟩ : ∃ A c, v84 = .slice A ((insO ordL ((s.lives).filter fun y => !endsC false u y) (newL false u (seqU u))).length) c ∧ ((insO ordL ((s.lives).filter fun y => !endsC false u y) (newL false u (seqU u))).length) ≤ c ∧ c ≤ maxLen := own_len S (i := 2) rfl; subst m89e
 refine ckd ?_
 refine l_y (v := pa g48 1) S (y_fb FA27_1 rfl rfl) ?_
 refine l_st (u := .slice A87 ((insO ordL ((s.lives).filter fun y => !endsC false u y) (newL false u (seqU u))).length) c88) (i := 3) (cs' := #[.slice A39 s.clock.length c40, .slice A87 ((insO ordL ((s.lives).filter fun y => !endsC false u y) (newL false u (seqU u))).length) c88, .slice A45 s.tallies.length c46]) S rfl rfl rfl SZ24 rfl rfl rfl fun w90 S => ?_
 have S : St [] W rd rd76 [(g23, 27, #[.slice A8 s.clock.length c9, .slice A11 s.lives.length c12, .slice A14 s.tallies.length c15]), (g25, 42, #[ni u.author, .slice A20 u.seen.length c21, ni u.kind, ni u.key, ni u.item]), (g27, 27, #[.slice none 0 0, .slice none 0 0, .slice none 0 0]), (g48, 27, #[.slice A39 s.clock.length c40, .slice A87 ((insO ordL ((s.lives).filter fun y => !endsC false u y) (newL false u (seqU u))).length) c88, .slice A45 s.tallies.length c46]), (g53, 4, #[.bool false]), (g69, 104, #[.bool false, ni u.key, ni u.item, ni u.author, ni (seqU u)])] [⟨3, 1, .slice A39 s.clock.length c40, s.clock.length, xs33⟩, ⟨106, 3, .slice A45 s.tallies.length c46, s.tallies.length, xs35⟩, ⟨104, 5, .slice A87 ((insO ordL ((s.lives).filter fun y => !endsC false u y) (newL false u (seqU u))).length) c88, (insO ordL ((s.lives).filter fun y => !endsC false u y) (newL false u (seqU u))).length, (xs59).take (i * 5) ++ (#[.bool false, ni u.key, ni u.item, ni u.author, ni (seqU u)]).toList ++ (xs59).drop (i * 5)⟩] _ := S.rw' rfl rfl
 refine l_nil ?_
 refine n_blk ?_
 refine n_seq ?_
 refine e_seq ?_
 refine e_reg ?_
 refine l_y (v := pa g48 0) S (y_fb FA27_0 rfl rfl) ?_
 refine l_y (v := .slice A39 s.clock.length c40) S (y_ld rfl (fun w S => ld_b1 (i := 3) S rfl rfl T23)) ?_
 refine l_y (v := pa g25 0) S (y_fb FA42_0 rfl rfl) ?_
 refine l_y (v := ni u.author) S (y_ld rfl (fun w S => ld_b1 (i := 1) S rfl rfl T3)) ?_
 refine l_c (en_f (vs := [.slice A39 s.clock.length c40, ni u.author]) (CF 88 _) rfl rfl) (Tick_calls _ _ _ (wrd _) _ (S.rowS (n := 0) (i := 0) rfl rfl rfl rfl O36) (Rd.le_refl _) (by omega)) ?_
 rintro e w94 ⟨v91, rfl, ⟨xs92, hO, O93⟩, k⟩
 have O93 : RowR 1 IntR rd76 xs92 (tickC (s.clock) u.author) := rowI_any O93
 have S := (S.ownAdd k (q := ⟨3, 1, v91, (tickC (s.clock) u.author).length, xs92⟩) hO).delo 0; clear k hO
 obtain ⟨A95, c96, m97e, m97, m97'⟩ : ∃ A c, v91 = .slice A ((tickC (s.clock) u.author).length) c ∧ ((tickC (s.clock) u.author).length) ≤ c ∧ c ≤ maxLen := own_len S (i := 2) rfl; subst m97e
 refine ckd ?_
 refine l_y (v := pa g48 0) S (y_fb FA27_0 rfl rfl) ?_
 refine l_st (u := .slice A95 ((tickC (s.clock) u.author).length) c96) (i := 3) (cs' := #[.slice A95 ((tickC (s.clock) u.author).length) c96, .slice A87 ((insO ordL ((s.lives).filter fun y => !endsC false u y) (newL false u (seqU u))).length) c88, .slice A45 s.tallies.length c46]) S rfl rfl rfl SZ23 rfl rfl rfl fun w98 S => ?_
 refine l_nil ?_
 refine n_seq ?_
 refine e_seq ?_
 refine e_reg ?_
 refine l_y (v := .agg #[.slice A95 ((tickC (s.clock) u.author).length) c96, .slice A87 ((insO ordL ((s.lives).filter fun y => !endsC false u y) (newL false u (seqU u))).length) c88, .slice A45 s.tallies.length c46]) S (y_ld rfl (fun w S => ld_bA (vs := [.slice A95 ((tickC (s.clock) u.author).length) c96, .slice A87 ((insO ordL ((s.lives).filter fun y => !endsC false u y) (newL false u (seqU u))).length) c88, .slice A45 s.tallies.length c46]) (i := 3) S rfl T27 rfl rfl)) ?_
 refine l_st (u := .agg #[.slice A95 ((tickC (s.clock) u.author).length) c96, .slice A87 ((insO ordL ((s.lives).filter fun y => !endsC false u y) (newL false u (seqU u))).length) c88, .slice A45 s.tallies.length c46]) (i := 2) (cs' := #[.slice A95 ((tickC (s.clock) u.author).length) c96, .slice A87 ((insO ordL ((s.lives).filter fun y => !endsC false u y) (newL false u (seqU u))).length) c88, .slice A45 s.tallies.length c46]) S rfl rfl rfl SZ27 rfl rfl rfl fun w99 S => ?_
 refine l_nil ?_
 refine n_seq ?_
 refine e_ret ?_
 refine ret1 (v := .agg #[.slice A95 ((tickC (s.clock) u.author).length) c96, .slice A87 ((insO ordL ((s.lives).filter fun y => !endsC false u y) (newL false u (seqU u))).length) c88, .slice A45 s.tallies.length c46]) rfl ⟨_, rfl, ld_bA (i := 2) (vs := [.slice A95 ((tickC (s.clock) u.author).length) c96, .slice A87 ((insO ordL ((s.lives).filter fun y => !endsC false u y) (newL false u (seqU u))).length) c88, .slice A45 s.tallies.length c46]) S rfl T27 rfl rfl⟩ ?_
 exact ap_fin (applyS_k1 hk).symm (S.ownsL.perm (List.reverse_perm _).symm) O93 O85 O38 S.below

set_option maxRecDepth 100000 in
set_option maxHeartbeats 4000000 in
theorem Apply_k2 (rd : Rd) (W : World) (hle : Rd.le rd (wrd W)) (v v2 : Value) (s : State) (u : Upd) (h : AggR StateR rd v s) (h2 : AggR UpdR rd v2 u) (hk : u.kind = 2) (ha0 : 0 ≤ u.author) (ha1 : u.author < u.seen.length) (hsl : SortedL s.lives) (hst : SortedT s.tallies) (hsum : ∀ z ∈ s.tallies, -4611686018427387904 ≤ z.sum ∧ z.sum ≤ 4611686018427387903) (hit : -4611686018427387904 ≤ u.item ∧ u.item ≤ 4611686018427387903) (hb1 : s.clock.length * 8 ≤ 140737488355328) (hb2 : (s.lives.length + 1) * 40 ≤ 140737488355328) (hb3 : (s.tallies.length + 1) * 24 ≤ 140737488355328) :
    Calls Tryz.prog 96 #[v, v2] W (fun e w' => ∃ v1 v2 v3 x1 x2 x3, e = .returned (.agg #[v1, v2, v3]) ∧ OwnsL W.heap.size w' [⟨3, 1, v1, (applyS s u).clock.length, x1⟩, ⟨104, 5, v2, (applyS s u).lives.length, x2⟩, ⟨106, 3, v3, (applyS s u).tallies.length, x3⟩] ∧ RowR 1 IntR rd x1 (applyS s u).clock ∧ RowR 5 LiveR rd x2 (applyS s u).lives ∧ RowR 3 TallyR rd x3 (applyS s u).tallies ∧ Below W.heap.size W w') := by
 obtain ⟨vs1, he, h⟩ := h; subst he
 obtain ⟨sv2, sv4, sv6, he, h3, h5, h7⟩ := h; subst he
 obtain ⟨A8, c9, rfl, m10, m10'⟩ := h3.val
 obtain ⟨A11, c12, rfl, m13, m13'⟩ := h5.val
 obtain ⟨A14, c15, rfl, m16, m16'⟩ := h7.val
 obtain ⟨vs17, h2e, h2⟩ := h2; subst h2e
 obtain ⟨sv18, h2e, h19⟩ := h2; subst h2e
 obtain ⟨A20, c21, rfl, m22, m22'⟩ := h19.val
 have hmx : maxLen = 9223372036854775807 := rfl
 have hbd : StBd s := by (unfold StBd; omega)
 have S : St [] W rd rd [] [] W := St.start hle
 refine e_enter (args := [.agg #[.slice A8 s.clock.length c9, .slice A11 s.lives.length c12, .slice A14 s.tallies.length c15], .agg #[ni u.author, .slice A20 u.seen.length c21, ni u.kind, ni u.key, ni u.item]]) 82 Tryz.func96 rfl rfl rfl ?_
 refine e_seq ?_
 refine e_reg ?_
 refine l_bx (u := .agg #[.slice A8 s.clock.length c9, .slice A11 s.lives.length c12, .slice A14 s.tallies.length c15]) (cs := #[.slice A8 s.clock.length c9, .slice A11 s.lives.length c12, .slice A14 s.tallies.length c15]) S rfl rfl fun g23 w24 S => ?_
 refine l_bx (u := .agg #[ni u.author, .slice A20 u.seen.length c21, ni u.kind, ni u.key, ni u.item]) (cs := #[ni u.author, .slice A20 u.seen.length c21, ni u.kind, ni u.key, ni u.item]) S rfl rfl fun g25 w26 S => ?_
 refine l_al (cs := #[.slice none 0 0, .slice none 0 0, .slice none 0 0]) S Z27 rfl fun g27 w28 S => ?_
 refine l_nil ?_
 refine n_seq ?_
 refine e_seq ?_
 refine e_reg ?_
 refine l_y (v := .agg #[.slice A8 s.clock.length c9, .slice A11 s.lives.length c12, .slice A14 s.tallies.length c15]) S (y_ld rfl (fun w S => ld_bA (vs := [.slice A8 s.clock.length c9, .slice A11 s.lives.length c12, .slice A14 s.tallies.length c15]) (i := 0) S rfl T27 rfl rfl)) ?_
 refine l_c (en_f (vs := [.agg #[.slice A8 s.clock.length c9, .slice A11 s.lives.length c12, .slice A14 s.tallies.length c15]]) (CF 58 _) rfl rfl) (SOwn_c _ _ S.le _ _ (⟨_, rfl, ⟨_, _, _, rfl, h3, h5, h7⟩⟩ : AggR StateR rd _ s) hbd) ?_
 rintro e w29 ⟨v30, v31, v32, xs33, xs34, xs35, rfl, hO, O36, O37, O38, k⟩
 have S := S.ownAddL k hO; clear k hO
 obtain ⟨A39, c40, m41e, m41, m41'⟩ : ∃ A c, v30 = .slice A s.clock.length c ∧ s.clock.length ≤ c ∧ c ≤ maxLen := own_len S (i := 0) rfl; subst m41e
 obtain ⟨A42, c43, m44e, m44, m44'⟩ : ∃ A c, v31 = .slice A s.lives.length c ∧ s.lives.length ≤ c ∧ c ≤ maxLen := own_len S (i := 1) rfl; subst m44e
 obtain ⟨A45, c46, m47e, m47, m47'⟩ : ∃ A c, v32 = .slice A s.tallies.length c ∧ s.tallies.length ≤ c ∧ c ≤ maxLen := own_len S (i := 2) rfl; subst m47e
 refine ckd ?_
 refine l_al (cs := #[.slice none 0 0, .slice none 0 0, .slice none 0 0]) S Z27 rfl fun g48 w49 S => ?_
 refine l_st (u := .agg #[.slice A39 s.clock.length c40, .slice A42 s.lives.length c43, .slice A45 s.tallies.length c46]) (i := 3) (cs' := #[.slice A39 s.clock.length c40, .slice A42 s.lives.length c43, .slice A45 s.tallies.length c46]) S rfl rfl rfl SZ27 rfl rfl rfl fun w50 S => ?_
 refine l_nil ?_
 refine n_seq ?_
 refine e_seq ?_
 refine e_reg ?_
 refine l_y (v := pa g25 2) S (y_fb FA42_2 rfl rfl) ?_
 refine l_y (v := ni u.kind) S (y_ld rfl (fun w S => ld_b1 (i := 1) S rfl rfl T3)) ?_
 have h51 : ¬ (u.kind = 3) := by omega
 refine l_y (v := .bool false) S (y_eqF rfl rfl h51) ?_
 refine l_y (v := .bool false) S (y_mv rfl) ?_
 refine l_g (d' := 15) (v := pa g25 2) S (y_fb FA42_2 rfl rfl) rfl rfl ?_
 refine l_g (d' := 15) (v := ni u.kind) S (y_ld rfl (fun w S => ld_b1 (i := 1) S rfl rfl T3)) rfl rfl ?_
 have h52 : ¬ (u.kind = 4) := by omega
 refine l_g (d' := 15) (v := .bool false) S (y_eqF rfl rfl h52) rfl rfl ?_
 refine l_y (v := .bool false) S (y_pF rfl rfl) ?_
 refine l_al (cs := #[.bool false]) S Z4 rfl fun g53 w54 S => ?_
 refine l_st (u := .bool false) (i := 4) (cs' := #[.bool false]) S rfl rfl rfl SZ4 rfl rfl rfl fun w55 S => ?_
 refine l_nil ?_
 refine n_seq ?_
 refine e_seq ?_
 refine e_seq ?_
 refine e_reg ?_
 refine l_y (v := pa g25 2) S (y_fb FA42_2 rfl rfl) ?_
 refine l_y (v := ni u.kind) S (y_ld rfl (fun w S => ld_b1 (i := 1) S rfl rfl T3)) ?_
 have h56 : ¬ (u.kind = 5) := by omega
 refine l_y (v := .bool true) S (y_neT rfl rfl h56) ?_
 refine l_y (v := .bool true) S (y_mv rfl) ?_
 refine l_g (d' := 23) (v := pa g25 2) S (y_fb FA42_2 rfl rfl) rfl rfl ?_
 refine l_g (d' := 23) (v := ni u.kind) S (y_ld rfl (fun w S => ld_b1 (i := 1) S rfl rfl T3)) rfl rfl ?_
 have h57 : ¬ (u.kind = 3) := by omega
 refine l_g (d' := 23) (v := .bool true) S (y_neT rfl rfl h57) rfl rfl ?_
 refine l_y (v := .bool true) S (y_pT rfl rfl) ?_
 refine l_nil ?_
 refine n_seq ?_
 refine e_cT rfl ?_
 refine e_reg ?_
 refine l_y (v := pa g48 1) S (y_fb FA27_1 rfl rfl) ?_
 refine l_y (v := .slice A42 s.lives.length c43) S (y_ld rfl (fun w S => ld_b1 (i := 3) S rfl rfl T24)) ?_
 refine l_y (v := .func (.func 118) #[] #[pa g53 0, pa g25 0]) S (y_mf rfl rfl) ?_
 refine l_c (en_f (vs := [.slice A42 s.lives.length c43, .func (.func 118) #[] #[pa g53 0, pa g25 0]]) (CF 117 _) rfl rfl) (DelFL_o rd _ S.le _ _ _ s.lives (S.own _ (List.mem_of_getElem? (i := 1) rfl)).1 (fun g h => ((S.own _ (List.mem_of_getElem? (i := 1) rfl)).2 g h).2) O37 rfl 118 [pa g53 0, pa g25 0] (fun y => endsC false u y) (fun vs w => CF 118 vs (by kernel_rfl) w) (fun w y F => Ends_c (wrd w) w (Rd.le_refl _) _ _ _ _ y false u ⟨_, rfl, rfl⟩ ((S.muted (j := 1) rfl F).boxPtr (i := 4) rfl) ((S.muted (j := 1) rfl F).boxPtr (i := 1) rfl) (fm h19 (S.muted (j := 1) rfl F).le))) ?_
 rintro e w61 ⟨v58, xs59, rfl, hO, O60, hB, hF⟩
 have S := S.mut (j := 1) (q' := ⟨104, 5, v58, ((s.lives).filter fun y => !endsC false u y).length, xs59⟩) rfl hF (fun g h => by simpa using h) hO hB; clear hF hB hO
 obtain ⟨A62, c63, m64e, m64, m64'⟩ : ∃ A c, v58 = .slice A (((s.lives).filter fun y => !endsC false u y).length) c ∧ (((s.lives).filter fun y => !endsC false u y).length) ≤ c ∧ c ≤ maxLen := own_len S (i := 2) rfl; subst m64e
 refine ckd ?_
 refine l_y (v := pa g48 1) S (y_fb FA27_1 rfl rfl) ?_
 refine l_st (u := .slice A62 (((s.lives).filter fun y => !endsC false u y).length) c63) (i := 3) (cs' := #[.slice A39 s.clock.length c40, .slice A62 (((s.lives).filter fun y => !endsC false u y).length) c63, .slice A45 s.tallies.length c46]) S rfl rfl rfl SZ24 rfl rfl rfl fun w65 S => ?_
 refine l_nil ?_
 refine n_seq ?_
 refine e_seq ?_
 refine e_seq ?_
 refine e_reg ?_
 refine l_y (v := pa g25 2) S (y_fb FA42_2 rfl rfl) ?_
 refine l_y (v := ni u.kind) S (y_ld rfl (fun w S => ld_b1 (i := 1) S rfl rfl T3)) ?_
 refine l_nil ?_
 refine n_seq ?_
 refine e_blk ?_
 refine e_seq ?_
 refine e_seq ?_
 refine e_reg ?_
 have h66 : ¬ (u.kind = 1) := by omega
 refine l_y (v := .bool false) S (y_eqF rfl rfl h66) ?_
 refine l_y (v := .bool false) S (y_as rfl) ?_
 refine l_nil ?_
 refine n_seq ?_
 refine e_cF rfl ?_
 refine e_reg ?_
 have h67 : ¬ (u.kind = 3) := by omega
 refine l_y (v := .bool false) S (y_eqF rfl rfl h67) ?_
 refine l_y (v := .bool false) S (y_as rfl) ?_
 refine l_nil ?_
 refine n_seq ?_
 refine e_cF rfl ?_
 refine e_seq ?_
 refine e_reg ?_
 have h68 : ¬ (u.kind = 5) := by omega
 refine l_y (v := .bool false) S (y_eqF rfl rfl h68) ?_
 refine l_y (v := .bool false) S (y_as rfl) ?_
 refine l_nil ?_
 refine n_seq ?_
 refine e_cF rfl ?_
 refine e_skip ?_
 refine n_blk ?_
 refine n_seq ?_
 refine e_seq ?_
 refine e_reg ?_
 refine l_y (v := pa g48 0) S (y_fb FA27_0 rfl rfl) ?_
 refine l_y (v := .slice A39 s.clock.length c40) S (y_ld rfl (fun w S => ld_b1 (i := 3) S rfl rfl T23)) ?_
 refine l_y (v := pa g25 0) S (y_fb FA42_0 rfl rfl) ?_
 refine l_y (v := ni u.author) S (y_ld rfl (fun w S => ld_b1 (i := 1) S rfl rfl T3)) ?_
 refine l_c (en_f (vs := [.slice A39 s.clock.length c40, ni u.author]) (CF 88 _) rfl rfl) (Tick_calls _ _ _ (wrd _) _ (S.rowS (n := 0) (i := 0) rfl rfl rfl rfl O36) (Rd.le_refl _) (by omega)) ?_
 rintro e w72 ⟨v69, rfl, ⟨xs70, hO, O71⟩, k⟩
 have O71 : RowR 1 IntR rd xs70 (tickC (s.clock) u.author) := rowI_any O71
 have S := (S.ownAdd k (q := ⟨3, 1, v69, (tickC (s.clock) u.author).length, xs70⟩) hO).delo 0; clear k hO
 obtain ⟨A73, c74, m75e, m75, m75'⟩ : ∃ A c, v69 = .slice A ((tickC (s.clock) u.author).length) c ∧ ((tickC (s.clock) u.author).length) ≤ c ∧ c ≤ maxLen := own_len S (i := 2) rfl; subst m75e
 refine ckd ?_
 refine l_y (v := pa g48 0) S (y_fb FA27_0 rfl rfl) ?_
 refine l_st (u := .slice A73 ((tickC (s.clock) u.author).length) c74) (i := 3) (cs' := #[.slice A73 ((tickC (s.clock) u.author).length) c74, .slice A62 (((s.lives).filter fun y => !endsC false u y).length) c63, .slice A45 s.tallies.length c46]) S rfl rfl rfl SZ23 rfl rfl rfl fun w76 S => ?_
 have S : St [] W rd rd [(g23, 27, #[.slice A8 s.clock.length c9, .slice A11 s.lives.length c12, .slice A14 s.tallies.length c15]), (g25, 42, #[ni u.author, .slice A20 u.seen.length c21, ni u.kind, ni u.key, ni u.item]), (g27, 27, #[.slice none 0 0, .slice none 0 0, .slice none 0 0]), (g48, 27, #[.slice A73 ((tickC (s.clock) u.author).length) c74, .slice A62 (((s.lives).filter fun y => !endsC false u y).length) c63, .slice A45 s.tallies.length c46]), (g53, 4, #[.bool false])] [⟨106, 3, .slice A45 s.tallies.length c46, s.tallies.length, xs35⟩, ⟨104, 5, .slice A62 (((s.lives).filter fun y => !endsC false u y).length) c63, ((s.lives).filter fun y => !endsC false u y).length, xs59⟩, ⟨3, 1, .slice A73 ((tickC (s.clock) u.author).length) c74, (tickC (s.clock) u.author).length, xs70⟩] _ := S.rw' rfl rfl
 refine l_nil ?_
 refine n_seq ?_
 refine e_seq ?_
 refine e_reg ?_
 refine l_y (v := .agg #[.slice A73 ((tickC (s.clock) u.author).length) c74, .slice A62 (((s.lives).filter fun y => !endsC false u y).length) c63, .slice A45 s.tallies.length c46]) S (y_ld rfl (fun w S => ld_bA (vs := [.slice A73 ((tickC (s.clock) u.author).length) c74, .slice A62 (((s.lives).filter fun y => !endsC false u y).length) c63, .slice A45 s.tallies.length c46]) (i := 3) S rfl T27 rfl rfl)) ?_
 refine l_st (u := .agg #[.slice A73 ((tickC (s.clock) u.author).length) c74, .slice A62 (((s.lives).filter fun y => !endsC false u y).length) c63, .slice A45 s.tallies.length c46]) (i := 2) (cs' := #[.slice A73 ((tickC (s.clock) u.author).length) c74, .slice A62 (((s.lives).filter fun y => !endsC false u y).length) c63, .slice A45 s.tallies.length c46]) S rfl rfl rfl SZ27 rfl rfl rfl fun w77 S => ?_
 refine l_nil ?_
 refine n_seq ?_
 refine e_ret ?_
 refine ret1 (v := .agg #[.slice A73 ((tickC (s.clock) u.author).length) c74, .slice A62 (((s.lives).filter fun y => !endsC false u y).length) c63, .slice A45 s.tallies.length c46]) rfl ⟨_, rfl, ld_bA (i := 2) (vs := [.slice A73 ((tickC (s.clock) u.author).length) c74, .slice A62 (((s.lives).filter fun y => !endsC false u y).length) c63, .slice A45 s.tallies.length c46]) S rfl T27 rfl rfl⟩ ?_
 exact ap_fin (applyS_k2 hk).symm (S.ownsL.perm (List.reverse_perm _).symm) O71 O60 O38 S.below

set_option maxRecDepth 100000 in
set_option maxHeartbeats 4000000 in
theorem Apply_k3 (rd : Rd) (W : World) (hle : Rd.le rd (wrd W)) (v v2 : Value) (s : State) (u : Upd) (h : AggR StateR rd v s) (h2 : AggR UpdR rd v2 u) (hk : u.kind = 3) (ha0 : 0 ≤ u.author) (ha1 : u.author < u.seen.length) (hsl : SortedL s.lives) (hst : SortedT s.tallies) (hsum : ∀ z ∈ s.tallies, -4611686018427387904 ≤ z.sum ∧ z.sum ≤ 4611686018427387903) (hit : -4611686018427387904 ≤ u.item ∧ u.item ≤ 4611686018427387903) (hb1 : s.clock.length * 8 ≤ 140737488355328) (hb2 : (s.lives.length + 1) * 40 ≤ 140737488355328) (hb3 : (s.tallies.length + 1) * 24 ≤ 140737488355328) :
    Calls Tryz.prog 96 #[v, v2] W (fun e w' => ∃ v1 v2 v3 x1 x2 x3, e = .returned (.agg #[v1, v2, v3]) ∧ OwnsL W.heap.size w' [⟨3, 1, v1, (applyS s u).clock.length, x1⟩, ⟨104, 5, v2, (applyS s u).lives.length, x2⟩, ⟨106, 3, v3, (applyS s u).tallies.length, x3⟩] ∧ RowR 1 IntR rd x1 (applyS s u).clock ∧ RowR 5 LiveR rd x2 (applyS s u).lives ∧ RowR 3 TallyR rd x3 (applyS s u).tallies ∧ Below W.heap.size W w') := by
 obtain ⟨vs1, he, h⟩ := h; subst he
 obtain ⟨sv2, sv4, sv6, he, h3, h5, h7⟩ := h; subst he
 obtain ⟨A8, c9, rfl, m10, m10'⟩ := h3.val
 obtain ⟨A11, c12, rfl, m13, m13'⟩ := h5.val
 obtain ⟨A14, c15, rfl, m16, m16'⟩ := h7.val
 obtain ⟨vs17, h2e, h2⟩ := h2; subst h2e
 obtain ⟨sv18, h2e, h19⟩ := h2; subst h2e
 obtain ⟨A20, c21, rfl, m22, m22'⟩ := h19.val
 have hmx : maxLen = 9223372036854775807 := rfl
 have hbd : StBd s := by (unfold StBd; omega)
 have S : St [] W rd rd [] [] W := St.start hle
 refine e_enter (args := [.agg #[.slice A8 s.clock.length c9, .slice A11 s.lives.length c12, .slice A14 s.tallies.length c15], .agg #[ni u.author, .slice A20 u.seen.length c21, ni u.kind, ni u.key, ni u.item]]) 82 Tryz.func96 rfl rfl rfl ?_
 refine e_seq ?_
 refine e_reg ?_
 refine l_bx (u := .agg #[.slice A8 s.clock.length c9, .slice A11 s.lives.length c12, .slice A14 s.tallies.length c15]) (cs := #[.slice A8 s.clock.length c9, .slice A11 s.lives.length c12, .slice A14 s.tallies.length c15]) S rfl rfl fun g23 w24 S => ?_
 refine l_bx (u := .agg #[ni u.author, .slice A20 u.seen.length c21, ni u.kind, ni u.key, ni u.item]) (cs := #[ni u.author, .slice A20 u.seen.length c21, ni u.kind, ni u.key, ni u.item]) S rfl rfl fun g25 w26 S => ?_
 refine l_al (cs := #[.slice none 0 0, .slice none 0 0, .slice none 0 0]) S Z27 rfl fun g27 w28 S => ?_
 refine l_nil ?_
 refine n_seq ?_
 refine e_seq ?_
 refine e_reg ?_
 refine l_y (v := .agg #[.slice A8 s.clock.length c9, .slice A11 s.lives.length c12, .slice A14 s.tallies.length c15]) S (y_ld rfl (fun w S => ld_bA (vs := [.slice A8 s.clock.length c9, .slice A11 s.lives.length c12, .slice A14 s.tallies.length c15]) (i := 0) S rfl T27 rfl rfl)) ?_
 refine l_c (en_f (vs := [.agg #[.slice A8 s.clock.length c9, .slice A11 s.lives.length c12, .slice A14 s.tallies.length c15]]) (CF 58 _) rfl rfl) (SOwn_c _ _ S.le _ _ (⟨_, rfl, ⟨_, _, _, rfl, h3, h5, h7⟩⟩ : AggR StateR rd _ s) hbd) ?_
 rintro e w29 ⟨v30, v31, v32, xs33, xs34, xs35, rfl, hO, O36, O37, O38, k⟩
 have S := S.ownAddL k hO; clear k hO
 obtain ⟨A39, c40, m41e, m41, m41'⟩ : ∃ A c, v30 = .slice A s.clock.length c ∧ s.clock.length ≤ c ∧ c ≤ maxLen := own_len S (i := 0) rfl; subst m41e
 obtain ⟨A42, c43, m44e, m44, m44'⟩ : ∃ A c, v31 = .slice A s.lives.length c ∧ s.lives.length ≤ c ∧ c ≤ maxLen := own_len S (i := 1) rfl; subst m44e
 obtain ⟨A45, c46, m47e, m47, m47'⟩ : ∃ A c, v32 = .slice A s.tallies.length c ∧ s.tallies.length ≤ c ∧ c ≤ maxLen := own_len S (i := 2) rfl; subst m47e
 refine ckd ?_
 refine l_al (cs := #[.slice none 0 0, .slice none 0 0, .slice none 0 0]) S Z27 rfl fun g48 w49 S => ?_
 refine l_st (u := .agg #[.slice A39 s.clock.length c40, .slice A42 s.lives.length c43, .slice A45 s.tallies.length c46]) (i := 3) (cs' := #[.slice A39 s.clock.length c40, .slice A42 s.lives.length c43, .slice A45 s.tallies.length c46]) S rfl rfl rfl SZ27 rfl rfl rfl fun w50 S => ?_
 refine l_nil ?_
 refine n_seq ?_
 refine e_seq ?_
 refine e_reg ?_
 refine l_y (v := pa g25 2) S (y_fb FA42_2 rfl rfl) ?_
 refine l_y (v := ni u.kind) S (y_ld rfl (fun w S => ld_b1 (i := 1) S rfl rfl T3)) ?_
 have h51 : u.kind = 3 := by omega
 refine l_y (v := .bool true) S (y_eqT rfl rfl h51) ?_
 refine l_y (v := .bool true) S (y_mv rfl) ?_
 refine l_s (d' := 15) rfl rfl ?_
 refine l_s (d' := 15) rfl rfl ?_
 refine l_s (d' := 15) rfl rfl ?_
 refine l_y (v := .bool true) S (y_pT rfl rfl) ?_
 refine l_al (cs := #[.bool false]) S Z4 rfl fun g52 w53 S => ?_
 refine l_st (u := .bool true) (i := 4) (cs' := #[.bool true]) S rfl rfl rfl SZ4 rfl rfl rfl fun w54 S => ?_
 refine l_nil ?_
 refine n_seq ?_
 refine e_seq ?_
 refine e_seq ?_
 refine e_reg ?_
 refine l_y (v := pa g25 2) S (y_fb FA42_2 rfl rfl) ?_
 refine l_y (v := ni u.kind) S (y_ld rfl (fun w S => ld_b1 (i := 1) S rfl rfl T3)) ?_
 have h55 : ¬ (u.kind = 5) := by omega
 refine l_y (v := .bool true) S (y_neT rfl rfl h55) ?_
 refine l_y (v := .bool true) S (y_mv rfl) ?_
 refine l_g (d' := 23) (v := pa g25 2) S (y_fb FA42_2 rfl rfl) rfl rfl ?_
 refine l_g (d' := 23) (v := ni u.kind) S (y_ld rfl (fun w S => ld_b1 (i := 1) S rfl rfl T3)) rfl rfl ?_
 have h56 : u.kind = 3 := by omega
 refine l_g (d' := 23) (v := .bool false) S (y_neF rfl rfl h56) rfl rfl ?_
 refine l_y (v := .bool false) S (y_pT rfl rfl) ?_
 refine l_nil ?_
 refine n_seq ?_
 refine e_cF rfl ?_
 refine e_skip ?_
 refine n_seq ?_
 refine e_seq ?_
 refine e_seq ?_
 refine e_reg ?_
 refine l_y (v := pa g25 2) S (y_fb FA42_2 rfl rfl) ?_
 refine l_y (v := ni u.kind) S (y_ld rfl (fun w S => ld_b1 (i := 1) S rfl rfl T3)) ?_
 refine l_nil ?_
 refine n_seq ?_
 refine e_blk ?_
 refine e_seq ?_
 refine e_seq ?_
 refine e_reg ?_
 have h57 : ¬ (u.kind = 1) := by omega
 refine l_y (v := .bool false) S (y_eqF rfl rfl h57) ?_
 refine l_y (v := .bool false) S (y_as rfl) ?_
 refine l_nil ?_
 refine n_seq ?_
 refine e_cF rfl ?_
 refine e_reg ?_
 have h58 : u.kind = 3 := by omega
 refine l_y (v := .bool true) S (y_eqT rfl rfl h58) ?_
 refine l_y (v := .bool true) S (y_as rfl) ?_
 refine l_nil ?_
 refine n_seq ?_
 refine e_cT rfl ?_
 refine e_cut (J := fun ov w => ∃ (g61 : Nat), ∃ rd' junk, ov = [(3, pa g25 0), (4, pa g27 0), (5, pa g48 0), (7, pa g61 0)] ++ junk ∧ St [] W rd rd' [(g23, 27, #[.slice A8 s.clock.length c9, .slice A11 s.lives.length c12, .slice A14 s.tallies.length c15]), (g25, 42, #[ni u.author, .slice A20 u.seen.length c21, ni u.kind, ni u.key, ni u.item]), (g27, 27, #[.slice none 0 0, .slice none 0 0, .slice none 0 0]), (g48, 27, #[.slice A39 s.clock.length c40, .slice A42 s.lives.length c43, .slice A45 s.tallies.length c46]), (g52, 4, #[.bool true]), (g61, 104, #[.bool true, ni u.key, ni u.item, ni u.author, ni (seqU u)])] [⟨3, 1, .slice A39 s.clock.length c40, s.clock.length, xs33⟩, ⟨104, 5, .slice A42 s.lives.length c43, s.lives.length, xs34⟩, ⟨106, 3, .slice A45 s.tallies.length c46, s.tallies.length, xs35⟩] w ∧ Rd.le rd rd') ?_ ?_
 ·
  refine e_a (fun w => St [] W rd rd [(g23, 27, #[.slice A8 s.clock.length c9, .slice A11 s.lives.length c12, .slice A14 s.tallies.length c15]), (g25, 42, #[ni u.author, .slice A20 u.seen.length c21, ni u.kind, ni u.key, ni u.item]), (g27, 27, #[.slice none 0 0, .slice none 0 0, .slice none 0 0]), (g48, 27, #[.slice A39 s.clock.length c40, .slice A42 s.lives.length c43, .slice A45 s.tallies.length c46]), (g52, 4, #[.bool true])] [⟨3, 1, .slice A39 s.clock.length c40, s.clock.length, xs33⟩, ⟨104, 5, .slice A42 s.lives.length c43, s.lives.length, xs34⟩, ⟨106, 3, .slice A45 s.tallies.length c46, s.tallies.length, xs35⟩] w) MX rfl ?_
  have S := S.drew; have sup59 := S.sup
  have SC := (S.tk 5 3 rfl rfl)
  refine a_tk (v := .bool true) 0 rfl rfl SC rfl (y_ld rfl (fun w S => ld_b1 (i := 4) S rfl rfl T4)) ?_
  refine a_tk (v := pa g25 3) 1 rfl rfl SC rfl (y_fb FA42_3 rfl rfl) ?_
  refine a_tk (v := ni u.key) 2 rfl rfl SC rfl (y_ld rfl (fun w S => ld_b1 (i := 1) S rfl rfl T3)) ?_
  refine a_tk (v := pa g25 4) 3 rfl rfl SC rfl (y_fb FA42_4 rfl rfl) ?_
  refine a_tk (v := ni u.item) 4 rfl rfl SC rfl (y_ld rfl (fun w S => ld_b1 (i := 1) S rfl rfl T3)) ?_
  refine a_tk (v := pa g25 0) 5 rfl rfl SC rfl (y_fb FA42_0 rfl rfl) ?_
  refine a_tk (v := ni u.author) 6 rfl rfl SC rfl (y_ld rfl (fun w S => ld_b1 (i := 1) S rfl rfl T3)) ?_
  refine a_tk (v := .agg #[ni u.author, .slice A20 u.seen.length c21, ni u.kind, ni u.key, ni u.item]) 7 rfl rfl SC rfl (y_ld rfl (fun w S => ld_bA (vs := [ni u.author, .slice A20 u.seen.length c21, ni u.kind, ni u.key, ni u.item]) (i := 1) S rfl T42 rfl rfl)) ?_
  refine a_all (rs := [8, 10]) (by kernel_rfl) rfl ?_
  refine aa_cons rfl ?_ ?_
  ·
   refine l_c (en_f (vs := [.agg #[ni u.author, .slice A20 u.seen.length c21, ni u.kind, ni u.key, ni u.item]]) (CF 84 _) rfl rfl) (Seq_calls _ _ _ (am (⟨_, rfl, ⟨_, rfl, h19⟩⟩ : AggR UpdR rd _ u) S.le) ha0 ha1) ?_
   rintro e w60 ⟨rfl, k⟩
   have S := S.callq k; clear k
   refine ckd ?_
   refine l_nil ?_
   have SC := (S.tk 5 3 rfl rfl)
   refine n_lp (ak SC ?_)
   refine a_tk (v := .agg #[.bool true, ni u.key, ni u.item, ni u.author, ni (seqU u)]) 9 rfl rfl SC rfl (y_bd (ps := [(0, .bool true), (1, ni u.key), (2, ni u.item), (3, ni u.author), (4, ni (seqU u))]) rfl (fun _ => by kernel_rfl)) ?_
   refine a_all (rs := [10]) (by kernel_rfl) rfl ?_
   refine aa_cons rfl ?_ ?_
   ·
    refine l_al (cs := #[.bool false, ni 0, ni 0, ni 0, ni 0]) S Z104 rfl fun g61 w62 S => ?_
    refine l_nil ?_
    have SC := (S.tk 5 3 rfl rfl)
    refine n_lp (ak SC ?_)
    refine a_all (rs := [11]) (by kernel_rfl) rfl ?_
    refine aa_cons rfl ?_ ?_
    ·
     refine l_st (u := .agg #[.bool true, ni u.key, ni u.item, ni u.author, ni (seqU u)]) (i := 5) (cs' := #[.bool true, ni u.key, ni u.item, ni u.author, ni (seqU u)]) S rfl rfl rfl SZ104 rfl rfl rfl fun w63 S => ?_
     refine l_nil ?_
     have SC := (S.tk 5 3 rfl rfl)
     refine n_lp (ak SC ?_)
     refine a_done (by kernel_rfl) ?_
     clear SC
     refine n_lp ⟨_, fr_keep (m := [(3, pa g25 0), (4, pa g27 0), (5, pa g48 0), (7, pa g61 0)]) ⟨⟨rfl, rfl⟩, ⟨rfl, rfl⟩, ⟨rfl, rfl⟩, ⟨rfl, rfl⟩, trivial⟩, g61, _, _, rfl, (S.tk 6 3 rfl rfl).rw' rfl rfl, (Rd.le_refl rd)⟩
    exact aa_nil
   exact aa_nil
  refine aa_cons rfl ?_ ?_
  ·
   refine l_al (cs := #[.bool false, ni 0, ni 0, ni 0, ni 0]) S Z104 rfl fun g64 w65 S => ?_
   refine l_nil ?_
   have SC := (S.tk 5 3 rfl rfl)
   refine n_lp (ak SC ?_)
   refine a_all (rs := [8]) (by kernel_rfl) rfl ?_
   refine aa_cons rfl ?_ ?_
   ·
    refine l_c (en_f (vs := [.agg #[ni u.author, .slice A20 u.seen.length c21, ni u.kind, ni u.key, ni u.item]]) (CF 84 _) rfl rfl) (Seq_calls _ _ _ (am (⟨_, rfl, ⟨_, rfl, h19⟩⟩ : AggR UpdR rd _ u) S.le) ha0 ha1) ?_
    rintro e w66 ⟨rfl, k⟩
    have S := S.callq k; clear k
    refine ckd ?_
    refine l_nil ?_
    have SC := (S.tk 5 3 rfl rfl)
    refine n_lp (ak SC ?_)
    refine a_tk (v := .agg #[.bool true, ni u.key, ni u.item, ni u.author, ni (seqU u)]) 9 rfl rfl SC rfl (y_bd (ps := [(0, .bool true), (1, ni u.key), (2, ni u.item), (3, ni u.author), (4, ni (seqU u))]) rfl (fun _ => by kernel_rfl)) ?_
    refine a_all (rs := [11]) (by kernel_rfl) rfl ?_
    refine aa_cons rfl ?_ ?_
    ·
     refine l_st (u := .agg #[.bool true, ni u.key, ni u.item, ni u.author, ni (seqU u)]) (i := 5) (cs' := #[.bool true, ni u.key, ni u.item, ni u.author, ni (seqU u)]) S rfl rfl rfl SZ104 rfl rfl rfl fun w67 S => ?_
     refine l_nil ?_
     have SC := (S.tk 5 3 rfl rfl)
     refine n_lp (ak SC ?_)
     refine a_done (by kernel_rfl) ?_
     clear SC
     refine n_lp ⟨_, fr_keep (m := [(3, pa g25 0), (4, pa g27 0), (5, pa g48 0), (7, pa g64 0)]) ⟨⟨rfl, rfl⟩, ⟨rfl, rfl⟩, ⟨rfl, rfl⟩, ⟨rfl, rfl⟩, trivial⟩, g64, _, _, rfl, (S.tk 6 3 rfl rfl).rw' rfl rfl, (Rd.le_refl rd)⟩
    exact aa_nil
   exact aa_nil
  exact aa_nil
 rintro ov71 w70 ⟨g61, rd68, junk, rfl, S, L69⟩
 replace h3 := fm h3 L69
 replace h5 := fm h5 L69
 replace h7 := fm h7 L69
 replace h19 := fm h19 L69
 replace O36 := rm O36 L69
 replace O37 := rm O37 L69
 replace O38 := rm O38 L69
 refine e_seq ?_
 refine e_reg ?_
 refine l_y (v := pa g48 1) S (y_fb FA27_1 rfl rfl) ?_
 refine l_y (v := .slice A42 s.lives.length c43) S (y_ld rfl (fun w S => ld_b1 (i := 3) S rfl rfl T24)) ?_
 refine l_y (v := .agg #[.bool true, ni u.key, ni u.item, ni u.author, ni (seqU u)]) S (y_ld rfl (fun w S => ld_bA (vs := [.bool true, ni u.key, ni u.item, ni u.author, ni (seqU u)]) (i := 5) S rfl T104 rfl rfl)) ?_
 refine l_c (en_f (vs := [.slice A42 s.lives.length c43, .agg #[.bool true, ni u.key, ni u.item, ni u.author, ni (seqU u)], .func (.func 86) #[] #[]]) (CF 119 _) rfl rfl) (BsL_c (wrd _) _ (Rd.le_refl _) _ _ s.lives (⟨true, u.key, u.item, u.author, seqU u⟩ : Live) (S.rowS (n := 0) (i := 1) rfl rfl rfl rfl O37) (am (⟨_, rfl, rfl⟩ : AggR LiveR rd68 _ (⟨true, u.key, u.item, u.author, seqU u⟩ : Live)) S.le) (by omega) (mono_L hsl _)) ?_
 rintro e w72 ⟨i, b73, rfl, hi, ha, hb, hft, hff, k⟩
 have S := S.callq k; clear k
 refine ckd ?_
 refine l_y (v := .tuple #[ni (i : Int), .bool b73]) S (y_mv rfl) ?_
 refine l_y (v := ni (i : Int)) S (y_ex rfl rfl) ?_
 refine l_y (v := .bool b73) S (y_ex rfl rfl) ?_
 refine l_y (v := ni (i : Int)) S (y_as rfl) ?_
 refine l_y (v := .bool b73) S (y_as rfl) ?_
 refine l_nil ?_
 refine n_seq ?_
 refine e_reg ?_
 refine l_y (v := pa g48 1) S (y_fb FA27_1 rfl rfl) ?_
 refine l_y (v := .slice A42 s.lives.length c43) S (y_ld rfl (fun w S => ld_b1 (i := 3) S rfl rfl T24)) ?_
 refine l_y (v := ni (i : Int)) S (y_mv rfl) ?_
 refine l_y (v := .agg #[.bool true, ni u.key, ni u.item, ni u.author, ni (seqU u)]) S (y_ld rfl (fun w S => ld_bA (vs := [.bool true, ni u.key, ni u.item, ni u.author, ni (seqU u)]) (i := 5) S rfl T104 rfl rfl)) ?_
 refine l_bs (ps := [(0, .agg #[.bool true, ni u.key, ni u.item, ni u.author, ni (seqU u)])]) (cs := #[.bool true, ni u.key, ni u.item, ni u.author, ni (seqU u)]) S U24 SZ104 Z104 rfl rfl rfl (by kernel_rfl) fun g74 w75 S => ?_
 refine l_c (en_f (vs := [.slice A42 s.lives.length c43, ni (i : Int), .slice (some ⟨g74, 0, none⟩) 1 1]) (CF 120 _) rfl rfl) (InsL_c _ _ _ i _ _ #[.bool true, ni u.key, ni u.item, ni u.author, ni (seqU u)] (S.own _ (List.mem_of_getElem? (i := 1) rfl)).1 (S.box _ (List.mem_of_getElem? (i := 6) rfl)).2.1 (S.d3 _ (List.mem_of_getElem? (i := 6) rfl) _ (List.mem_of_getElem? (i := 1) rfl)) rfl (O37.one_ GoodR.one) rfl hi (by simp only [maxLen]; omega) (by dsimp only; omega)) ?_
 rintro e w78 ⟨v76, rfl, hO, hB, hF⟩
 have O77 : RowR 5 LiveR rd68 ((xs34).take (i * 5) ++ (#[.bool true, ni u.key, ni u.item, ni u.author, ni (seqU u)]).toList ++ (xs34).drop (i * 5)) (insO ordL (s.lives) (newL true u (seqU u))) := row_insO (idxO_eq (f := fun y => ordL y (newL true u (seqU u))) hi ha hb) (cs := (#[.bool true, ni u.key, ni u.item, ni u.author, ni (seqU u)]).toList) O37 hi rfl (by exact rfl)
 have S := S.mutB (j := 1) (i := 6) (q' := ⟨104, 5, v76, (insO ordL (s.lives) (newL true u (seqU u))).length, _⟩) rfl rfl hF (fun g h => by (simp only [List.mem_cons] at h; exact h.symm.imp (fun h => by simpa using h) id)) (by (rw [insO_len]; exact hO)) hB; clear hF hB hO
 obtain ⟨A79, c80, m81e, m81, m81'⟩ : ∃ A c, v76 = .slice A ((insO ordL (s.lives) (newL true u (seqU u))).length) c ∧ ((insO ordL (s.lives) (newL true u (seqU u))).length) ≤ c ∧ c ≤ maxLen := own_len S (i := 2) rfl; subst m81e
 refine ckd ?_
 refine l_y (v := pa g48 1) S (y_fb FA27_1 rfl rfl) ?_
 refine l_st (u := .slice A79 ((insO ordL (s.lives) (newL true u (seqU u))).length) c80) (i := 3) (cs' := #[.slice A39 s.clock.length c40, .slice A79 ((insO ordL (s.lives) (newL true u (seqU u))).length) c80, .slice A45 s.tallies.length c46]) S rfl rfl rfl SZ24 rfl rfl rfl fun w82 S => ?_
 refine l_nil ?_
 refine n_blk ?_
 refine n_seq ?_
 refine e_seq ?_
 refine e_reg ?_
 refine l_y (v := pa g48 0) S (y_fb FA27_0 rfl rfl) ?_
 refine l_y (v := .slice A39 s.clock.length c40) S (y_ld rfl (fun w S => ld_b1 (i := 3) S rfl rfl T23)) ?_
 refine l_y (v := pa g25 0) S (y_fb FA42_0 rfl rfl) ?_
 refine l_y (v := ni u.author) S (y_ld rfl (fun w S => ld_b1 (i := 1) S rfl rfl T3)) ?_
 refine l_c (en_f (vs := [.slice A39 s.clock.length c40, ni u.author]) (CF 88 _) rfl rfl) (Tick_calls _ _ _ (wrd _) _ (S.rowS (n := 0) (i := 0) rfl rfl rfl rfl O36) (Rd.le_refl _) (by omega)) ?_
 rintro e w86 ⟨v83, rfl, ⟨xs84, hO, O85⟩, k⟩
 have O85 : RowR 1 IntR rd68 xs84 (tickC (s.clock) u.author) := rowI_any O85
 have S := (S.ownAdd k (q := ⟨3, 1, v83, (tickC (s.clock) u.author).length, xs84⟩) hO).delo 0; clear k hO
 obtain ⟨A87, c88, m89e, m89, m89'⟩ : ∃ A c, v83 = .slice A ((tickC (s.clock) u.author).length) c ∧ ((tickC (s.clock) u.author).length) ≤ c ∧ c ≤ maxLen := own_len S (i := 2) rfl; subst m89e
 refine ckd ?_
 refine l_y (v := pa g48 0) S (y_fb FA27_0 rfl rfl) ?_
 refine l_st (u := .slice A87 ((tickC (s.clock) u.author).length) c88) (i := 3) (cs' := #[.slice A87 ((tickC (s.clock) u.author).length) c88, .slice A79 ((insO ordL (s.lives) (newL true u (seqU u))).length) c80, .slice A45 s.tallies.length c46]) S rfl rfl rfl SZ23 rfl rfl rfl fun w90 S => ?_
 have S : St [] W rd rd68 [(g23, 27, #[.slice A8 s.clock.length c9, .slice A11 s.lives.length c12, .slice A14 s.tallies.length c15]), (g25, 42, #[ni u.author, .slice A20 u.seen.length c21, ni u.kind, ni u.key, ni u.item]), (g27, 27, #[.slice none 0 0, .slice none 0 0, .slice none 0 0]), (g48, 27, #[.slice A87 ((tickC (s.clock) u.author).length) c88, .slice A79 ((insO ordL (s.lives) (newL true u (seqU u))).length) c80, .slice A45 s.tallies.length c46]), (g52, 4, #[.bool true]), (g61, 104, #[.bool true, ni u.key, ni u.item, ni u.author, ni (seqU u)])] [⟨106, 3, .slice A45 s.tallies.length c46, s.tallies.length, xs35⟩, ⟨104, 5, .slice A79 ((insO ordL (s.lives) (newL true u (seqU u))).length) c80, (insO ordL (s.lives) (newL true u (seqU u))).length, (xs34).take (i * 5) ++ (#[.bool true, ni u.key, ni u.item, ni u.author, ni (seqU u)]).toList ++ (xs34).drop (i * 5)⟩, ⟨3, 1, .slice A87 ((tickC (s.clock) u.author).length) c88, (tickC (s.clock) u.author).length, xs84⟩] _ := S.rw' rfl rfl
 refine l_nil ?_
 refine n_seq ?_
 refine e_seq ?_
 refine e_reg ?_
 refine l_y (v := .agg #[.slice A87 ((tickC (s.clock) u.author).length) c88, .slice A79 ((insO ordL (s.lives) (newL true u (seqU u))).length) c80, .slice A45 s.tallies.length c46]) S (y_ld rfl (fun w S => ld_bA (vs := [.slice A87 ((tickC (s.clock) u.author).length) c88, .slice A79 ((insO ordL (s.lives) (newL true u (seqU u))).length) c80, .slice A45 s.tallies.length c46]) (i := 3) S rfl T27 rfl rfl)) ?_
 refine l_st (u := .agg #[.slice A87 ((tickC (s.clock) u.author).length) c88, .slice A79 ((insO ordL (s.lives) (newL true u (seqU u))).length) c80, .slice A45 s.tallies.length c46]) (i := 2) (cs' := #[.slice A87 ((tickC (s.clock) u.author).length) c88, .slice A79 ((insO ordL (s.lives) (newL true u (seqU u))).length) c80, .slice A45 s.tallies.length c46]) S rfl rfl rfl SZ27 rfl rfl rfl fun w91 S => ?_
 refine l_nil ?_
 refine n_seq ?_
 refine e_ret ?_
 refine ret1 (v := .agg #[.slice A87 ((tickC (s.clock) u.author).length) c88, .slice A79 ((insO ordL (s.lives) (newL true u (seqU u))).length) c80, .slice A45 s.tallies.length c46]) rfl ⟨_, rfl, ld_bA (i := 2) (vs := [.slice A87 ((tickC (s.clock) u.author).length) c88, .slice A79 ((insO ordL (s.lives) (newL true u (seqU u))).length) c80, .slice A45 s.tallies.length c46]) S rfl T27 rfl rfl⟩ ?_
 exact ap_fin (applyS_k3 hk).symm (S.ownsL.perm (List.reverse_perm _).symm) O85 O77 O38 S.below

set_option maxRecDepth 100000 in
set_option maxHeartbeats 4000000 in
theorem Apply_k4 (rd : Rd) (W : World) (hle : Rd.le rd (wrd W)) (v v2 : Value) (s : State) (u : Upd) (h : AggR StateR rd v s) (h2 : AggR UpdR rd v2 u) (hk : u.kind = 4) (ha0 : 0 ≤ u.author) (ha1 : u.author < u.seen.length) (hsl : SortedL s.lives) (hst : SortedT s.tallies) (hsum : ∀ z ∈ s.tallies, -4611686018427387904 ≤ z.sum ∧ z.sum ≤ 4611686018427387903) (hit : -4611686018427387904 ≤ u.item ∧ u.item ≤ 4611686018427387903) (hb1 : s.clock.length * 8 ≤ 140737488355328) (hb2 : (s.lives.length + 1) * 40 ≤ 140737488355328) (hb3 : (s.tallies.length + 1) * 24 ≤ 140737488355328) :
    Calls Tryz.prog 96 #[v, v2] W (fun e w' => ∃ v1 v2 v3 x1 x2 x3, e = .returned (.agg #[v1, v2, v3]) ∧ OwnsL W.heap.size w' [⟨3, 1, v1, (applyS s u).clock.length, x1⟩, ⟨104, 5, v2, (applyS s u).lives.length, x2⟩, ⟨106, 3, v3, (applyS s u).tallies.length, x3⟩] ∧ RowR 1 IntR rd x1 (applyS s u).clock ∧ RowR 5 LiveR rd x2 (applyS s u).lives ∧ RowR 3 TallyR rd x3 (applyS s u).tallies ∧ Below W.heap.size W w') := by
 obtain ⟨vs1, he, h⟩ := h; subst he
 obtain ⟨sv2, sv4, sv6, he, h3, h5, h7⟩ := h; subst he
 obtain ⟨A8, c9, rfl, m10, m10'⟩ := h3.val
 obtain ⟨A11, c12, rfl, m13, m13'⟩ := h5.val
 obtain ⟨A14, c15, rfl, m16, m16'⟩ := h7.val
 obtain ⟨vs17, h2e, h2⟩ := h2; subst h2e
 obtain ⟨sv18, h2e, h19⟩ := h2; subst h2e
 obtain ⟨A20, c21, rfl, m22, m22'⟩ := h19.val
 have hmx : maxLen = 9223372036854775807 := rfl
 have hbd : StBd s := by (unfold StBd; omega)
 have S : St [] W rd rd [] [] W := St.start hle
 refine e_enter (args := [.agg #[.slice A8 s.clock.length c9, .slice A11 s.lives.length c12, .slice A14 s.tallies.length c15], .agg #[ni u.author, .slice A20 u.seen.length c21, ni u.kind, ni u.key, ni u.item]]) 82 Tryz.func96 rfl rfl rfl ?_
 refine e_seq ?_
 refine e_reg ?_
 refine l_bx (u := .agg #[.slice A8 s.clock.length c9, .slice A11 s.lives.length c12, .slice A14 s.tallies.length c15]) (cs := #[.slice A8 s.clock.length c9, .slice A11 s.lives.length c12, .slice A14 s.tallies.length c15]) S rfl rfl fun g23 w24 S => ?_
 refine l_bx (u := .agg #[ni u.author, .slice A20 u.seen.length c21, ni u.kind, ni u.key, ni u.item]) (cs := #[ni u.author, .slice A20 u.seen.length c21, ni u.kind, ni u.key, ni u.item]) S rfl rfl fun g25 w26 S => ?_
 refine l_al (cs := #[.slice none 0 0, .slice none 0 0, .slice none 0 0]) S Z27 rfl fun g27 w28 S => ?_
 refine l_nil ?_
 refine n_seq ?_
 refine e_seq ?_
 refine e_reg ?_
 refine l_y (v := .agg #[.slice A8 s.clock.length c9, .slice A11 s.lives.length c12, .slice A14 s.tallies.length c15]) S (y_ld rfl (fun w S => ld_bA (vs := [.slice A8 s.clock.length c9, .slice A11 s.lives.length c12, .slice A14 s.tallies.length c15]) (i := 0) S rfl T27 rfl rfl)) ?_
 refine l_c (en_f (vs := [.agg #[.slice A8 s.clock.length c9, .slice A11 s.lives.length c12, .slice A14 s.tallies.length c15]]) (CF 58 _) rfl rfl) (SOwn_c _ _ S.le _ _ (⟨_, rfl, ⟨_, _, _, rfl, h3, h5, h7⟩⟩ : AggR StateR rd _ s) hbd) ?_
 rintro e w29 ⟨v30, v31, v32, xs33, xs34, xs35, rfl, hO, O36, O37, O38, k⟩
 have S := S.ownAddL k hO; clear k hO
 obtain ⟨A39, c40, m41e, m41, m41'⟩ : ∃ A c, v30 = .slice A s.clock.length c ∧ s.clock.length ≤ c ∧ c ≤ maxLen := own_len S (i := 0) rfl; subst m41e
 obtain ⟨A42, c43, m44e, m44, m44'⟩ : ∃ A c, v31 = .slice A s.lives.length c ∧ s.lives.length ≤ c ∧ c ≤ maxLen := own_len S (i := 1) rfl; subst m44e
 obtain ⟨A45, c46, m47e, m47, m47'⟩ : ∃ A c, v32 = .slice A s.tallies.length c ∧ s.tallies.length ≤ c ∧ c ≤ maxLen := own_len S (i := 2) rfl; subst m47e
 refine ckd ?_
 refine l_al (cs := #[.slice none 0 0, .slice none 0 0, .slice none 0 0]) S Z27 rfl fun g48 w49 S => ?_
 refine l_st (u := .agg #[.slice A39 s.clock.length c40, .slice A42 s.lives.length c43, .slice A45 s.tallies.length c46]) (i := 3) (cs' := #[.slice A39 s.clock.length c40, .slice A42 s.lives.length c43, .slice A45 s.tallies.length c46]) S rfl rfl rfl SZ27 rfl rfl rfl fun w50 S => ?_
 refine l_nil ?_
 refine n_seq ?_
 refine e_seq ?_
 refine e_reg ?_
 refine l_y (v := pa g25 2) S (y_fb FA42_2 rfl rfl) ?_
 refine l_y (v := ni u.kind) S (y_ld rfl (fun w S => ld_b1 (i := 1) S rfl rfl T3)) ?_
 have h51 : ¬ (u.kind = 3) := by omega
 refine l_y (v := .bool false) S (y_eqF rfl rfl h51) ?_
 refine l_y (v := .bool false) S (y_mv rfl) ?_
 refine l_g (d' := 15) (v := pa g25 2) S (y_fb FA42_2 rfl rfl) rfl rfl ?_
 refine l_g (d' := 15) (v := ni u.kind) S (y_ld rfl (fun w S => ld_b1 (i := 1) S rfl rfl T3)) rfl rfl ?_
 have h52 : u.kind = 4 := by omega
 refine l_g (d' := 15) (v := .bool true) S (y_eqT rfl rfl h52) rfl rfl ?_
 refine l_y (v := .bool true) S (y_pF rfl rfl) ?_
 refine l_al (cs := #[.bool false]) S Z4 rfl fun g53 w54 S => ?_
 refine l_st (u := .bool true) (i := 4) (cs' := #[.bool true]) S rfl rfl rfl SZ4 rfl rfl rfl fun w55 S => ?_
 refine l_nil ?_
 refine n_seq ?_
 refine e_seq ?_
 refine e_seq ?_
 refine e_reg ?_
 refine l_y (v := pa g25 2) S (y_fb FA42_2 rfl rfl) ?_
 refine l_y (v := ni u.kind) S (y_ld rfl (fun w S => ld_b1 (i := 1) S rfl rfl T3)) ?_
 have h56 : ¬ (u.kind = 5) := by omega
 refine l_y (v := .bool true) S (y_neT rfl rfl h56) ?_
 refine l_y (v := .bool true) S (y_mv rfl) ?_
 refine l_g (d' := 23) (v := pa g25 2) S (y_fb FA42_2 rfl rfl) rfl rfl ?_
 refine l_g (d' := 23) (v := ni u.kind) S (y_ld rfl (fun w S => ld_b1 (i := 1) S rfl rfl T3)) rfl rfl ?_
 have h57 : ¬ (u.kind = 3) := by omega
 refine l_g (d' := 23) (v := .bool true) S (y_neT rfl rfl h57) rfl rfl ?_
 refine l_y (v := .bool true) S (y_pT rfl rfl) ?_
 refine l_nil ?_
 refine n_seq ?_
 refine e_cT rfl ?_
 refine e_reg ?_
 refine l_y (v := pa g48 1) S (y_fb FA27_1 rfl rfl) ?_
 refine l_y (v := .slice A42 s.lives.length c43) S (y_ld rfl (fun w S => ld_b1 (i := 3) S rfl rfl T24)) ?_
 refine l_y (v := .func (.func 118) #[] #[pa g53 0, pa g25 0]) S (y_mf rfl rfl) ?_
 refine l_c (en_f (vs := [.slice A42 s.lives.length c43, .func (.func 118) #[] #[pa g53 0, pa g25 0]]) (CF 117 _) rfl rfl) (DelFL_o rd _ S.le _ _ _ s.lives (S.own _ (List.mem_of_getElem? (i := 1) rfl)).1 (fun g h => ((S.own _ (List.mem_of_getElem? (i := 1) rfl)).2 g h).2) O37 rfl 118 [pa g53 0, pa g25 0] (fun y => endsC true u y) (fun vs w => CF 118 vs (by kernel_rfl) w) (fun w y F => Ends_c (wrd w) w (Rd.le_refl _) _ _ _ _ y true u ⟨_, rfl, rfl⟩ ((S.muted (j := 1) rfl F).boxPtr (i := 4) rfl) ((S.muted (j := 1) rfl F).boxPtr (i := 1) rfl) (fm h19 (S.muted (j := 1) rfl F).le))) ?_
 rintro e w61 ⟨v58, xs59, rfl, hO, O60, hB, hF⟩
 have S := S.mut (j := 1) (q' := ⟨104, 5, v58, ((s.lives).filter fun y => !endsC true u y).length, xs59⟩) rfl hF (fun g h => by simpa using h) hO hB; clear hF hB hO
 obtain ⟨A62, c63, m64e, m64, m64'⟩ : ∃ A c, v58 = .slice A (((s.lives).filter fun y => !endsC true u y).length) c ∧ (((s.lives).filter fun y => !endsC true u y).length) ≤ c ∧ c ≤ maxLen := own_len S (i := 2) rfl; subst m64e
 refine ckd ?_
 refine l_y (v := pa g48 1) S (y_fb FA27_1 rfl rfl) ?_
 refine l_st (u := .slice A62 (((s.lives).filter fun y => !endsC true u y).length) c63) (i := 3) (cs' := #[.slice A39 s.clock.length c40, .slice A62 (((s.lives).filter fun y => !endsC true u y).length) c63, .slice A45 s.tallies.length c46]) S rfl rfl rfl SZ24 rfl rfl rfl fun w65 S => ?_
 refine l_nil ?_
 refine n_seq ?_
 refine e_seq ?_
 refine e_seq ?_
 refine e_reg ?_
 refine l_y (v := pa g25 2) S (y_fb FA42_2 rfl rfl) ?_
 refine l_y (v := ni u.kind) S (y_ld rfl (fun w S => ld_b1 (i := 1) S rfl rfl T3)) ?_
 refine l_nil ?_
 refine n_seq ?_
 refine e_blk ?_
 refine e_seq ?_
 refine e_seq ?_
 refine e_reg ?_
 have h66 : ¬ (u.kind = 1) := by omega
 refine l_y (v := .bool false) S (y_eqF rfl rfl h66) ?_
 refine l_y (v := .bool false) S (y_as rfl) ?_
 refine l_nil ?_
 refine n_seq ?_
 refine e_cF rfl ?_
 refine e_reg ?_
 have h67 : ¬ (u.kind = 3) := by omega
 refine l_y (v := .bool false) S (y_eqF rfl rfl h67) ?_
 refine l_y (v := .bool false) S (y_as rfl) ?_
 refine l_nil ?_
 refine n_seq ?_
 refine e_cF rfl ?_
 refine e_seq ?_
 refine e_reg ?_
 have h68 : ¬ (u.kind = 5) := by omega
 refine l_y (v := .bool false) S (y_eqF rfl rfl h68) ?_
 refine l_y (v := .bool false) S (y_as rfl) ?_
 refine l_nil ?_
 refine n_seq ?_
 refine e_cF rfl ?_
 refine e_skip ?_
 refine n_blk ?_
 refine n_seq ?_
 refine e_seq ?_
 refine e_reg ?_
 refine l_y (v := pa g48 0) S (y_fb FA27_0 rfl rfl) ?_
 refine l_y (v := .slice A39 s.clock.length c40) S (y_ld rfl (fun w S => ld_b1 (i := 3) S rfl rfl T23)) ?_
 refine l_y (v := pa g25 0) S (y_fb FA42_0 rfl rfl) ?_
 refine l_y (v := ni u.author) S (y_ld rfl (fun w S => ld_b1 (i := 1) S rfl rfl T3)) ?_
 refine l_c (en_f (vs := [.slice A39 s.clock.length c40, ni u.author]) (CF 88 _) rfl rfl) (Tick_calls _ _ _ (wrd _) _ (S.rowS (n := 0) (i := 0) rfl rfl rfl rfl O36) (Rd.le_refl _) (by omega)) ?_
 rintro e w72 ⟨v69, rfl, ⟨xs70, hO, O71⟩, k⟩
 have O71 : RowR 1 IntR rd xs70 (tickC (s.clock) u.author) := rowI_any O71
 have S := (S.ownAdd k (q := ⟨3, 1, v69, (tickC (s.clock) u.author).length, xs70⟩) hO).delo 0; clear k hO
 obtain ⟨A73, c74, m75e, m75, m75'⟩ : ∃ A c, v69 = .slice A ((tickC (s.clock) u.author).length) c ∧ ((tickC (s.clock) u.author).length) ≤ c ∧ c ≤ maxLen := own_len S (i := 2) rfl; subst m75e
 refine ckd ?_
 refine l_y (v := pa g48 0) S (y_fb FA27_0 rfl rfl) ?_
 refine l_st (u := .slice A73 ((tickC (s.clock) u.author).length) c74) (i := 3) (cs' := #[.slice A73 ((tickC (s.clock) u.author).length) c74, .slice A62 (((s.lives).filter fun y => !endsC true u y).length) c63, .slice A45 s.tallies.length c46]) S rfl rfl rfl SZ23 rfl rfl rfl fun w76 S => ?_
 have S : St [] W rd rd [(g23, 27, #[.slice A8 s.clock.length c9, .slice A11 s.lives.length c12, .slice A14 s.tallies.length c15]), (g25, 42, #[ni u.author, .slice A20 u.seen.length c21, ni u.kind, ni u.key, ni u.item]), (g27, 27, #[.slice none 0 0, .slice none 0 0, .slice none 0 0]), (g48, 27, #[.slice A73 ((tickC (s.clock) u.author).length) c74, .slice A62 (((s.lives).filter fun y => !endsC true u y).length) c63, .slice A45 s.tallies.length c46]), (g53, 4, #[.bool true])] [⟨106, 3, .slice A45 s.tallies.length c46, s.tallies.length, xs35⟩, ⟨104, 5, .slice A62 (((s.lives).filter fun y => !endsC true u y).length) c63, ((s.lives).filter fun y => !endsC true u y).length, xs59⟩, ⟨3, 1, .slice A73 ((tickC (s.clock) u.author).length) c74, (tickC (s.clock) u.author).length, xs70⟩] _ := S.rw' rfl rfl
 refine l_nil ?_
 refine n_seq ?_
 refine e_seq ?_
 refine e_reg ?_
 refine l_y (v := .agg #[.slice A73 ((tickC (s.clock) u.author).length) c74, .slice A62 (((s.lives).filter fun y => !endsC true u y).length) c63, .slice A45 s.tallies.length c46]) S (y_ld rfl (fun w S => ld_bA (vs := [.slice A73 ((tickC (s.clock) u.author).length) c74, .slice A62 (((s.lives).filter fun y => !endsC true u y).length) c63, .slice A45 s.tallies.length c46]) (i := 3) S rfl T27 rfl rfl)) ?_
 refine l_st (u := .agg #[.slice A73 ((tickC (s.clock) u.author).length) c74, .slice A62 (((s.lives).filter fun y => !endsC true u y).length) c63, .slice A45 s.tallies.length c46]) (i := 2) (cs' := #[.slice A73 ((tickC (s.clock) u.author).length) c74, .slice A62 (((s.lives).filter fun y => !endsC true u y).length) c63, .slice A45 s.tallies.length c46]) S rfl rfl rfl SZ27 rfl rfl rfl fun w77 S => ?_
 refine l_nil ?_
 refine n_seq ?_
 refine e_ret ?_
 refine ret1 (v := .agg #[.slice A73 ((tickC (s.clock) u.author).length) c74, .slice A62 (((s.lives).filter fun y => !endsC true u y).length) c63, .slice A45 s.tallies.length c46]) rfl ⟨_, rfl, ld_bA (i := 2) (vs := [.slice A73 ((tickC (s.clock) u.author).length) c74, .slice A62 (((s.lives).filter fun y => !endsC true u y).length) c63, .slice A45 s.tallies.length c46]) S rfl T27 rfl rfl⟩ ?_
 exact ap_fin (applyS_k4 hk).symm (S.ownsL.perm (List.reverse_perm _).symm) O71 O60 O38 S.below

set_option maxRecDepth 100000 in
set_option maxHeartbeats 4000000 in
theorem Apply_k5 (rd : Rd) (W : World) (hle : Rd.le rd (wrd W)) (v v2 : Value) (s : State) (u : Upd) (h : AggR StateR rd v s) (h2 : AggR UpdR rd v2 u) (hk : u.kind = 5) (ha0 : 0 ≤ u.author) (ha1 : u.author < u.seen.length) (hsl : SortedL s.lives) (hst : SortedT s.tallies) (hsum : ∀ z ∈ s.tallies, -4611686018427387904 ≤ z.sum ∧ z.sum ≤ 4611686018427387903) (hit : -4611686018427387904 ≤ u.item ∧ u.item ≤ 4611686018427387903) (hb1 : s.clock.length * 8 ≤ 140737488355328) (hb2 : (s.lives.length + 1) * 40 ≤ 140737488355328) (hb3 : (s.tallies.length + 1) * 24 ≤ 140737488355328) :
    Calls Tryz.prog 96 #[v, v2] W (fun e w' => ∃ v1 v2 v3 x1 x2 x3, e = .returned (.agg #[v1, v2, v3]) ∧ OwnsL W.heap.size w' [⟨3, 1, v1, (applyS s u).clock.length, x1⟩, ⟨104, 5, v2, (applyS s u).lives.length, x2⟩, ⟨106, 3, v3, (applyS s u).tallies.length, x3⟩] ∧ RowR 1 IntR rd x1 (applyS s u).clock ∧ RowR 5 LiveR rd x2 (applyS s u).lives ∧ RowR 3 TallyR rd x3 (applyS s u).tallies ∧ Below W.heap.size W w') := by
 obtain ⟨vs1, he, h⟩ := h; subst he
 obtain ⟨sv2, sv4, sv6, he, h3, h5, h7⟩ := h; subst he
 obtain ⟨A8, c9, rfl, m10, m10'⟩ := h3.val
 obtain ⟨A11, c12, rfl, m13, m13'⟩ := h5.val
 obtain ⟨A14, c15, rfl, m16, m16'⟩ := h7.val
 obtain ⟨vs17, h2e, h2⟩ := h2; subst h2e
 obtain ⟨sv18, h2e, h19⟩ := h2; subst h2e
 obtain ⟨A20, c21, rfl, m22, m22'⟩ := h19.val
 have hmx : maxLen = 9223372036854775807 := rfl
 have hbd : StBd s := by (unfold StBd; omega)
 have S : St [] W rd rd [] [] W := St.start hle
 refine e_enter (args := [.agg #[.slice A8 s.clock.length c9, .slice A11 s.lives.length c12, .slice A14 s.tallies.length c15], .agg #[ni u.author, .slice A20 u.seen.length c21, ni u.kind, ni u.key, ni u.item]]) 82 Tryz.func96 rfl rfl rfl ?_
 refine e_seq ?_
 refine e_reg ?_
 refine l_bx (u := .agg #[.slice A8 s.clock.length c9, .slice A11 s.lives.length c12, .slice A14 s.tallies.length c15]) (cs := #[.slice A8 s.clock.length c9, .slice A11 s.lives.length c12, .slice A14 s.tallies.length c15]) S rfl rfl fun g23 w24 S => ?_
 refine l_bx (u := .agg #[ni u.author, .slice A20 u.seen.length c21, ni u.kind, ni u.key, ni u.item]) (cs := #[ni u.author, .slice A20 u.seen.length c21, ni u.kind, ni u.key, ni u.item]) S rfl rfl fun g25 w26 S => ?_
 refine l_al (cs := #[.slice none 0 0, .slice none 0 0, .slice none 0 0]) S Z27 rfl fun g27 w28 S => ?_
 refine l_nil ?_
 refine n_seq ?_
 refine e_seq ?_
 refine e_reg ?_
 refine l_y (v := .agg #[.slice A8 s.clock.length c9, .slice A11 s.lives.length c12, .slice A14 s.tallies.length c15]) S (y_ld rfl (fun w S => ld_bA (vs := [.slice A8 s.clock.length c9, .slice A11 s.lives.length c12, .slice A14 s.tallies.length c15]) (i := 0) S rfl T27 rfl rfl)) ?_
 refine l_c (en_f (vs := [.agg #[.slice A8 s.clock.length c9, .slice A11 s.lives.length c12, .slice A14 s.tallies.length c15]]) (CF 58 _) rfl rfl) (SOwn_c _ _ S.le _ _ (⟨_, rfl, ⟨_, _, _, rfl, h3, h5, h7⟩⟩ : AggR StateR rd _ s) hbd) ?_
 rintro e w29 ⟨v30, v31, v32, xs33, xs34, xs35, rfl, hO, O36, O37, O38, k⟩
 have S := S.ownAddL k hO; clear k hO
 obtain ⟨A39, c40, m41e, m41, m41'⟩ : ∃ A c, v30 = .slice A s.clock.length c ∧ s.clock.length ≤ c ∧ c ≤ maxLen := own_len S (i := 0) rfl; subst m41e
 obtain ⟨A42, c43, m44e, m44, m44'⟩ : ∃ A c, v31 = .slice A s.lives.length c ∧ s.lives.length ≤ c ∧ c ≤ maxLen := own_len S (i := 1) rfl; subst m44e
 obtain ⟨A45, c46, m47e, m47, m47'⟩ : ∃ A c, v32 = .slice A s.tallies.length c ∧ s.tallies.length ≤ c ∧ c ≤ maxLen := own_len S (i := 2) rfl; subst m47e
 refine ckd ?_
 refine l_al (cs := #[.slice none 0 0, .slice none 0 0, .slice none 0 0]) S Z27 rfl fun g48 w49 S => ?_
 refine l_st (u := .agg #[.slice A39 s.clock.length c40, .slice A42 s.lives.length c43, .slice A45 s.tallies.length c46]) (i := 3) (cs' := #[.slice A39 s.clock.length c40, .slice A42 s.lives.length c43, .slice A45 s.tallies.length c46]) S rfl rfl rfl SZ27 rfl rfl rfl fun w50 S => ?_
 refine l_nil ?_
 refine n_seq ?_
 refine e_seq ?_
 refine e_reg ?_
 refine l_y (v := pa g25 2) S (y_fb FA42_2 rfl rfl) ?_
 refine l_y (v := ni u.kind) S (y_ld rfl (fun w S => ld_b1 (i := 1) S rfl rfl T3)) ?_
 have h51 : ¬ (u.kind = 3) := by omega
 refine l_y (v := .bool false) S (y_eqF rfl rfl h51) ?_
 refine l_y (v := .bool false) S (y_mv rfl) ?_
 refine l_g (d' := 15) (v := pa g25 2) S (y_fb FA42_2 rfl rfl) rfl rfl ?_
 refine l_g (d' := 15) (v := ni u.kind) S (y_ld rfl (fun w S => ld_b1 (i := 1) S rfl rfl T3)) rfl rfl ?_
 have h52 : ¬ (u.kind = 4) := by omega
 refine l_g (d' := 15) (v := .bool false) S (y_eqF rfl rfl h52) rfl rfl ?_
 refine l_y (v := .bool false) S (y_pF rfl rfl) ?_
 refine l_al (cs := #[.bool false]) S Z4 rfl fun g53 w54 S => ?_
 refine l_st (u := .bool false) (i := 4) (cs' := #[.bool false]) S rfl rfl rfl SZ4 rfl rfl rfl fun w55 S => ?_
 refine l_nil ?_
 refine n_seq ?_
 refine e_seq ?_
 refine e_seq ?_
 refine e_reg ?_
 refine l_y (v := pa g25 2) S (y_fb FA42_2 rfl rfl) ?_
 refine l_y (v := ni u.kind) S (y_ld rfl (fun w S => ld_b1 (i := 1) S rfl rfl T3)) ?_
 have h56 : u.kind = 5 := by omega
 refine l_y (v := .bool false) S (y_neF rfl rfl h56) ?_
 refine l_y (v := .bool false) S (y_mv rfl) ?_
 refine l_s (d' := 23) rfl rfl ?_
 refine l_s (d' := 23) rfl rfl ?_
 refine l_s (d' := 23) rfl rfl ?_
 refine l_y (v := .bool false) S (y_pF rfl rfl) ?_
 refine l_nil ?_
 refine n_seq ?_
 refine e_cF rfl ?_
 refine e_skip ?_
 refine n_seq ?_
 refine e_seq ?_
 refine e_seq ?_
 refine e_reg ?_
 refine l_y (v := pa g25 2) S (y_fb FA42_2 rfl rfl) ?_
 refine l_y (v := ni u.kind) S (y_ld rfl (fun w S => ld_b1 (i := 1) S rfl rfl T3)) ?_
 refine l_nil ?_
 refine n_seq ?_
 refine e_blk ?_
 refine e_seq ?_
 refine e_seq ?_
 refine e_reg ?_
 have h57 : ¬ (u.kind = 1) := by omega
 refine l_y (v := .bool false) S (y_eqF rfl rfl h57) ?_
 refine l_y (v := .bool false) S (y_as rfl) ?_
 refine l_nil ?_
 refine n_seq ?_
 refine e_cF rfl ?_
 refine e_reg ?_
 have h58 : ¬ (u.kind = 3) := by omega
 refine l_y (v := .bool false) S (y_eqF rfl rfl h58) ?_
 refine l_y (v := .bool false) S (y_as rfl) ?_
 refine l_nil ?_
 refine n_seq ?_
 refine e_cF rfl ?_
 refine e_seq ?_
 refine e_reg ?_
 have h59 : u.kind = 5 := by omega
 refine l_y (v := .bool true) S (y_eqT rfl rfl h59) ?_
 refine l_y (v := .bool true) S (y_as rfl) ?_
 refine l_nil ?_
 refine n_seq ?_
 refine e_cT rfl ?_
 refine e_reg ?_
 refine l_y (v := pa g48 2) S (y_fb FA27_2 rfl rfl) ?_
 refine l_y (v := .slice A45 s.tallies.length c46) S (y_ld rfl (fun w S => ld_b1 (i := 3) S rfl rfl T25)) ?_
 refine l_y (v := pa g25 3) S (y_fb FA42_3 rfl rfl) ?_
 refine l_y (v := ni u.key) S (y_ld rfl (fun w S => ld_b1 (i := 1) S rfl rfl T3)) ?_
 refine l_y (v := pa g25 0) S (y_fb FA42_0 rfl rfl) ?_
 refine l_y (v := ni u.author) S (y_ld rfl (fun w S => ld_b1 (i := 1) S rfl rfl T3)) ?_
 refine l_y (v := pa g25 4) S (y_fb FA42_4 rfl rfl) ?_
 refine l_y (v := ni u.item) S (y_ld rfl (fun w S => ld_b1 (i := 1) S rfl rfl T3)) ?_
 refine l_y (v := .agg #[ni u.key, ni u.author, ni u.item]) S (y_bd (ps := [(0, ni u.key), (1, ni u.author), (2, ni u.item)]) rfl (fun _ => by kernel_rfl)) ?_
 refine l_c (en_f (vs := [.slice A45 s.tallies.length c46, .agg #[ni u.key, ni u.author, ni u.item]]) (CF 121 _) rfl rfl) (Count_o rd _ S.le _ _ _ s.tallies _ (⟨u.key, u.author, u.item⟩ : Tally) (S.own _ (List.mem_of_getElem? (i := 2) rfl)).1 (fun g h => ((S.own _ (List.mem_of_getElem? (i := 2) rfl)).2 g h).2) O38 rfl (⟨_, rfl, rfl⟩ : AggR TallyR rd _ (⟨u.key, u.author, u.item⟩ : Tally)) (by omega) (mono_T hst _) hsum (by dsimp only; omega)) ?_
 rintro e w63 ⟨v60, xs61, rfl, hO, O62, hB, hF⟩
 have S := S.mut (j := 2) (q' := ⟨106, 3, v60, (countL (s.tallies) (⟨u.key, u.author, u.item⟩ : Tally)).length, xs61⟩) rfl hF (fun g h => by simpa using h) hO hB; clear hF hB hO
 obtain ⟨A64, c65, m66e, m66, m66'⟩ : ∃ A c, v60 = .slice A ((countL (s.tallies) (⟨u.key, u.author, u.item⟩ : Tally)).length) c ∧ ((countL (s.tallies) (⟨u.key, u.author, u.item⟩ : Tally)).length) ≤ c ∧ c ≤ maxLen := own_len S (i := 2) rfl; subst m66e
 refine ckd ?_
 refine l_y (v := pa g48 2) S (y_fb FA27_2 rfl rfl) ?_
 refine l_st (u := .slice A64 ((countL (s.tallies) (⟨u.key, u.author, u.item⟩ : Tally)).length) c65) (i := 3) (cs' := #[.slice A39 s.clock.length c40, .slice A42 s.lives.length c43, .slice A64 ((countL (s.tallies) (⟨u.key, u.author, u.item⟩ : Tally)).length) c65]) S rfl rfl rfl SZ25 rfl rfl rfl fun w67 S => ?_
 refine l_nil ?_
 refine n_blk ?_
 refine n_seq ?_
 refine e_seq ?_
 refine e_reg ?_
 refine l_y (v := pa g48 0) S (y_fb FA27_0 rfl rfl) ?_
 refine l_y (v := .slice A39 s.clock.length c40) S (y_ld rfl (fun w S => ld_b1 (i := 3) S rfl rfl T23)) ?_
 refine l_y (v := pa g25 0) S (y_fb FA42_0 rfl rfl) ?_
 refine l_y (v := ni u.author) S (y_ld rfl (fun w S => ld_b1 (i := 1) S rfl rfl T3)) ?_
 refine l_c (en_f (vs := [.slice A39 s.clock.length c40, ni u.author]) (CF 88 _) rfl rfl) (Tick_calls _ _ _ (wrd _) _ (S.rowS (n := 0) (i := 0) rfl rfl rfl rfl O36) (Rd.le_refl _) (by omega)) ?_
 rintro e w71 ⟨v68, rfl, ⟨xs69, hO, O70⟩, k⟩
 have O70 : RowR 1 IntR rd xs69 (tickC (s.clock) u.author) := rowI_any O70
 have S := (S.ownAdd k (q := ⟨3, 1, v68, (tickC (s.clock) u.author).length, xs69⟩) hO).delo 0; clear k hO
 obtain ⟨A72, c73, m74e, m74, m74'⟩ : ∃ A c, v68 = .slice A ((tickC (s.clock) u.author).length) c ∧ ((tickC (s.clock) u.author).length) ≤ c ∧ c ≤ maxLen := own_len S (i := 2) rfl; subst m74e
 refine ckd ?_
 refine l_y (v := pa g48 0) S (y_fb FA27_0 rfl rfl) ?_
 refine l_st (u := .slice A72 ((tickC (s.clock) u.author).length) c73) (i := 3) (cs' := #[.slice A72 ((tickC (s.clock) u.author).length) c73, .slice A42 s.lives.length c43, .slice A64 ((countL (s.tallies) (⟨u.key, u.author, u.item⟩ : Tally)).length) c65]) S rfl rfl rfl SZ23 rfl rfl rfl fun w75 S => ?_
 have S : St [] W rd rd [(g23, 27, #[.slice A8 s.clock.length c9, .slice A11 s.lives.length c12, .slice A14 s.tallies.length c15]), (g25, 42, #[ni u.author, .slice A20 u.seen.length c21, ni u.kind, ni u.key, ni u.item]), (g27, 27, #[.slice none 0 0, .slice none 0 0, .slice none 0 0]), (g48, 27, #[.slice A72 ((tickC (s.clock) u.author).length) c73, .slice A42 s.lives.length c43, .slice A64 ((countL (s.tallies) (⟨u.key, u.author, u.item⟩ : Tally)).length) c65]), (g53, 4, #[.bool false])] [⟨104, 5, .slice A42 s.lives.length c43, s.lives.length, xs34⟩, ⟨106, 3, .slice A64 ((countL (s.tallies) (⟨u.key, u.author, u.item⟩ : Tally)).length) c65, (countL (s.tallies) (⟨u.key, u.author, u.item⟩ : Tally)).length, xs61⟩, ⟨3, 1, .slice A72 ((tickC (s.clock) u.author).length) c73, (tickC (s.clock) u.author).length, xs69⟩] _ := S.rw' rfl rfl
 refine l_nil ?_
 refine n_seq ?_
 refine e_seq ?_
 refine e_reg ?_
 refine l_y (v := .agg #[.slice A72 ((tickC (s.clock) u.author).length) c73, .slice A42 s.lives.length c43, .slice A64 ((countL (s.tallies) (⟨u.key, u.author, u.item⟩ : Tally)).length) c65]) S (y_ld rfl (fun w S => ld_bA (vs := [.slice A72 ((tickC (s.clock) u.author).length) c73, .slice A42 s.lives.length c43, .slice A64 ((countL (s.tallies) (⟨u.key, u.author, u.item⟩ : Tally)).length) c65]) (i := 3) S rfl T27 rfl rfl)) ?_
 refine l_st (u := .agg #[.slice A72 ((tickC (s.clock) u.author).length) c73, .slice A42 s.lives.length c43, .slice A64 ((countL (s.tallies) (⟨u.key, u.author, u.item⟩ : Tally)).length) c65]) (i := 2) (cs' := #[.slice A72 ((tickC (s.clock) u.author).length) c73, .slice A42 s.lives.length c43, .slice A64 ((countL (s.tallies) (⟨u.key, u.author, u.item⟩ : Tally)).length) c65]) S rfl rfl rfl SZ27 rfl rfl rfl fun w76 S => ?_
 refine l_nil ?_
 refine n_seq ?_
 refine e_ret ?_
 refine ret1 (v := .agg #[.slice A72 ((tickC (s.clock) u.author).length) c73, .slice A42 s.lives.length c43, .slice A64 ((countL (s.tallies) (⟨u.key, u.author, u.item⟩ : Tally)).length) c65]) rfl ⟨_, rfl, ld_bA (i := 2) (vs := [.slice A72 ((tickC (s.clock) u.author).length) c73, .slice A42 s.lives.length c43, .slice A64 ((countL (s.tallies) (⟨u.key, u.author, u.item⟩ : Tally)).length) c65]) S rfl T27 rfl rfl⟩ ?_
 exact ap_fin (applyS_k5 hk).symm (S.ownsL.perm (List.perm_append_comm (l₁ := [_, _]) (l₂ := [_]))) O70 O37 O62 S.below
end Go.Proofs.YtkjknlnhffmkkacGreat
