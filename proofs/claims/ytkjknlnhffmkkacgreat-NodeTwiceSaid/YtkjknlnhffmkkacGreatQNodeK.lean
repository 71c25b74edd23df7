/- node.take, node.Take. -/
import Derived.Test.YtkjknlnhffmkkacGreatQNodeO
import Derived.Test.YtkjknlnhffmkkacGreatQEngT
import Derived.Test.YtkjknlnhffmkkacGreatQPl
import Derived.Test.YtkjknlnhffmkkacGreatQJoin
namespace Go.Proofs.YtkjknlnhffmkkacGreat
open Go.RowKit
set_option linter.unusedVariables false
theorem Lacks_o (rd : Rd) (W : World) (hle : Rd.le rd (wrd W)) (v1 v2 : Value) (l : List Upd) (c : List Int) (h1 : UpdsR (wrd W) v1 l) (h2 : IntsR (wrd W) v2 c) (hbig : l.length * 56 ≤ 140737488355328) (hseen : ∀ u ∈ l, u.seen.length * 8 ≤ 140737488355328) :
    Calls Tryz.prog 43 #[v1, v2] W fun e w' => ∃ r xs rd', e = .returned r ∧ St [] W rd rd' [] [⟨42, 5, r, (lacksU l c).length, xs⟩] w' ∧ RowR 5 UpdR rd' xs (lacksU l c) :=
  (Lacks_calls v1 v2 l c W h1 h2 hbig hseen).mono fun e w' ⟨r, h, h2, h3⟩ => by
    obtain ⟨xs, rd', a, b⟩ := St.ofOwn hle h3 h2
    exact ⟨r, xs, rd', h, a, b⟩
theorem takes_next {e : Node} {l : List Upd} {k : Nat} {z : Upd} {R : Node × Int} (hz : l[k]? = some z) (h0 : (takeN e z).2 = 0) (hE : takesN e (l.drop k) = R) : takesN (takeN e z).1 (l.drop (k + 1)) = R := by
  obtain ⟨hk, ez⟩ := List.getElem?_eq_some_iff.1 hz
  rw [List.drop_eq_getElem_cons hk, ez] at hE
  unfold takesN at hE
  rw [if_neg (fun q => q h0)] at hE
  exact hE
theorem takes_bad {e : Node} {l : List Upd} {k : Nat} {z : Upd} {R : Node × Int} (hz : l[k]? = some z) (h0 : ¬ (takeN e z).2 = 0) (hE : takesN e (l.drop k) = R) : R = (zeroN, (takeN e z).2) := by
  obtain ⟨hk, ez⟩ := List.getElem?_eq_some_iff.1 hz
  rw [List.drop_eq_getElem_cons hk, ez] at hE
  unfold takesN at hE
  rw [if_pos h0] at hE
  exact hE.symm
structure MidI (e d w : Node) (n : Int) : Prop where
  m : MidN e n
  s : e.self = d.self
  k : e.known = d.known
  b' : e.base = w.base
theorem mid_start {e d : Node} {p : Parcel} {n : Int} (hr : RightN d n) (hj : p.whole = true → (JoinS d.state p.state).2 = 0) (he : wholeN d p = e) : MidI e d (wholeN d p) n := by
  obtain ⟨a, _, _, b, c⟩ := hr.mid.whole hj
  subst he
  exact ⟨a, b, c, rfl⟩
theorem take_mid {e d w : Node} {n : Int} {z : Upd} (hM : MidN e n) (h0 : (takeN e z).2 = 0) (hi : MidI e d w n) : MidI (takeN e z).1 d w n := by
  rcases take_ok hM.s h0 with ⟨_, _, h⟩ | ⟨h1, h2, h⟩
  · rw [h]; exact hi
  · rw [h]; exact ⟨(hM.took h1 h2).1, hi.s, hi.k, hi.b'⟩
theorem join_rightR {d : Node} {p : Parcel} {n : Int} (h : RightN d n) (hj : (JoinS d.state p.state).2 = 0) : RightS p.state n := by
  have en : lenI d.state.clock = n := h.n
  unfold JoinS at hj
  rw [en, if_neg (fun k => k (wrongS_iff.2 h.s))] at hj
  split at hj
  · rename_i k; exact absurd hj k
  · rename_i k; exact wrongS_iff.1 (Classical.not_not.1 k)
set_option maxRecDepth 100000 in
set_option maxHeartbeats 8000000 in
theorem NTake1_m {X : List Nat} (rd : Rd) (W : World) (g : Nat) (d : Node) (u : Upd) (v2 : Value) (A0 A1 A2 AL : Option Addr) (c0 c1 c2 cL : Nat) (Bv Kv : Value) (xsL : List Value) (S0 : St X W rd rd [(g, 31, #[.int .i64 d.self, .slice A0 d.state.clock.length c0, .slice A1 d.state.lives.length c1, .slice A2 d.state.tallies.length c2, Bv, .slice AL d.log.length cL, Kv])] [⟨42, 5, .slice AL d.log.length cL, d.log.length, xsL⟩] W) (f1 : SliceR 1 IntR rd (.slice A0 d.state.clock.length c0) d.state.clock) (f2 : SliceR 5 LiveR rd (.slice A1 d.state.lives.length c1) d.state.lives) (f3 : SliceR 3 TallyR rd (.slice A2 d.state.tallies.length c2) d.state.tallies) (OL : RowR 5 UpdR rd xsL d.log) (h2 : AggR UpdR rd v2 u) (hl : d.log.length ≤ 300) :
    Calls Tryz.prog 44 #[(pa g 0), v2] W (fun e w' => ∃ A1 c1 A2 c2 A3 c3 Al cl xl rd', e = .returned (.int .i64 (takeN d u).2) ∧ St X W rd rd' [(g, 31, #[.int .i64 (takeN d u).1.self, .slice A1 (takeN d u).1.state.clock.length c1, .slice A2 (takeN d u).1.state.lives.length c2, .slice A3 (takeN d u).1.state.tallies.length c3, Bv, .slice Al (takeN d u).1.log.length cl, Kv])] [⟨42, 5, .slice Al (takeN d u).1.log.length cl, (takeN d u).1.log.length, xl⟩] w' ∧ SliceR 1 IntR rd' (.slice A1 (takeN d u).1.state.clock.length c1) (takeN d u).1.state.clock ∧ SliceR 5 LiveR rd' (.slice A2 (takeN d u).1.state.lives.length c2) (takeN d u).1.state.lives ∧ SliceR 3 TallyR rd' (.slice A3 (takeN d u).1.state.tallies.length c3) (takeN d u).1.state.tallies ∧ RowR 5 UpdR rd' xl (takeN d u).1.log) := by
 obtain ⟨vs1, h2e, h2⟩ := h2; subst h2e
 obtain ⟨sv2, h2e, h3⟩ := h2; subst h2e
 obtain ⟨A4, c5, rfl, m6, m6'⟩ := h3.val
 have hmx : maxLen = 9223372036854775807 := rfl
 have S := S0
 refine e_enter (args := [pa g 0, .agg #[ni u.author, .slice A4 u.seen.length c5, ni u.kind, ni u.key, ni u.item]]) 61 Tryz.func44 rfl rfl rfl ?_
 refine e_seq ?_
 refine e_reg ?_
 refine l_bx (u := .agg #[ni u.author, .slice A4 u.seen.length c5, ni u.kind, ni u.key, ni u.item]) (cs := #[ni u.author, .slice A4 u.seen.length c5, ni u.kind, ni u.key, ni u.item]) S rfl rfl fun g7 w8 S => ?_
 refine l_y (v := ni 0) S (y_as rfl) ?_
 refine l_nil ?_
 refine n_seq ?_
 refine e_seq ?_
 refine e_seq ?_
 refine e_q MX (by kernel_rfl) S.drew ?_
 refine q_y (v := .agg #[ni u.author, .slice A4 u.seen.length c5, ni u.kind, ni u.key, ni u.item]) (y_ld rfl (fun w S => ld_bA (vs := [ni u.author, .slice A4 u.seen.length c5, ni u.kind, ni u.key, ni u.item]) (i := 1) S rfl T42 rfl rfl)) ?_
 refine q_y (v := pa g 0) (y_mv rfl) ?_
 refine q_y (v := pa g 0) (y_nc rfl) ?_
 refine q_y (v := pa g 1) (y_fb FA31_1 rfl rfl) ?_
 refine q_y (v := pa g 1) (y_fb FA27_0 rfl rfl) ?_
 refine q_y (v := .slice A0 d.state.clock.length c0) (y_ld rfl (fun w S => ld_b1 (i := 0) S rfl rfl T23)) ?_
 refine q_y (v := ni (d.state.clock.length : Int)) (y_len U23 rfl rfl) ?_
 refine q_c (v := ni (wrongU u (d.state.clock.length : Int))) (en_f (vs := [.agg #[ni u.author, .slice A4 u.seen.length c5, ni u.kind, ni u.key, ni u.item], ni (d.state.clock.length : Int)]) (CF 82 _) rfl rfl) (fun w S => (UWrong_calls _ u (d.state.clock.length : Int) _ (am (⟨_, rfl, ⟨_, rfl, h3⟩⟩ : AggR UpdR rd _ u) S.le)).mono (by rintro e w' ⟨rfl, k⟩; exact ⟨rfl, (S.callq k)⟩)) ?_
 by_cases hU : wrongU u (d.state.clock.length : Int) = 0
 ·
  refine q_y (v := .bool true) (y_eqT rfl rfl hU) ?_
  refine q_y (v := .bool true) (y_mv rfl) ?_
  refine q_g (d' := 16) (v := pa g 0) (y_mv rfl) rfl rfl ?_
  refine q_g (d' := 16) (v := pa g 0) (y_nc rfl) rfl rfl ?_
  refine q_g (d' := 16) (v := pa g 1) (y_fb FA31_1 rfl rfl) rfl rfl ?_
  refine q_g (d' := 16) (v := pa g 1) (y_fb FA27_0 rfl rfl) rfl rfl ?_
  refine q_g (d' := 16) (v := .slice A0 d.state.clock.length c0) (y_ld rfl (fun w S => ld_b1 (i := 0) S rfl rfl T23)) rfl rfl ?_
  refine q_g (d' := 16) (v := pa g7 0) (y_fb FA42_0 rfl rfl) rfl rfl ?_
  refine q_g (d' := 16) (v := ni u.author) (y_ld rfl (fun w S => ld_b1 (i := 1) S rfl rfl T3)) rfl rfl ?_
  refine q_g (d' := 16) (v := .agg #[ni u.author, .slice A4 u.seen.length c5, ni u.kind, ni u.key, ni u.item]) (y_ld rfl (fun w S => ld_bA (vs := [ni u.author, .slice A4 u.seen.length c5, ni u.kind, ni u.key, ni u.item]) (i := 1) S rfl T42 rfl rfl)) rfl rfl ?_
  refine q_cg (d' := 16) (v := ni (seqU u)) (en_f (vs := [.agg #[ni u.author, .slice A4 u.seen.length c5, ni u.kind, ni u.key, ni u.item]]) (CF 84 _) rfl rfl) rfl rfl (fun w S => (Seq_calls _ _ _ (am (⟨_, rfl, ⟨_, rfl, h3⟩⟩ : AggR UpdR rd _ u) S.le) (wrongU_iff.1 hU).a0 (by have hru := wrongU_iff.1 hU; have := hru.len; have := hru.a1; have := hru.a0; omega)).mono (by rintro e w' ⟨rfl, k⟩; exact ⟨rfl, (S.callq k)⟩)) ?_
  cases hH : hasC d.state.clock u.author (seqU u)
  ·
   refine q_cg (d' := 16) (v := .bool false) (en_f (vs := [.slice A0 d.state.clock.length c0, ni u.author, ni (seqU u)]) (CF 83 _) rfl rfl) rfl rfl (fun w S => (Has_calls _ _ _ _ _ (fm f1 S.le)).mono (by rintro e w' ⟨rfl, rfl⟩; exact ⟨rbool (by assumption), S⟩)) ?_
   refine q_y (v := .bool false) (y_pT rfl rfl) ?_
   refine q_nil fun w9 S => ?_
   refine n_seq ?_
   refine e_cF rfl ?_
   refine e_skip ?_
   refine n_seq ?_
   refine e_seq ?_
   refine e_seq ?_
   refine e_reg ?_
   refine l_y (v := pa g 0) S (y_mv rfl) ?_
   refine l_y (v := pa g 0) S (y_nc rfl) ?_
   refine l_y (v := pa g 5) S (y_fb FA31_3 rfl rfl) ?_
   refine l_y (v := .slice AL d.log.length cL) S (y_ld rfl (fun w S => ld_b1 (i := 0) S rfl rfl T28)) ?_
   refine l_y (v := ni (d.log.length : Int)) S (y_len U28 rfl rfl) ?_
   by_cases hL : (d.log.length : Int) = 300
   ·
    refine l_y (v := .bool true) S (y_eqT rfl rfl hL) ?_
    refine l_nil ?_
    refine n_seq ?_
    refine e_cT rfl ?_
    refine e_seq ?_
    refine e_reg ?_
    refine l_y (v := ni 5) S (y_as rfl) ?_
    refine l_nil ?_
    refine n_seq ?_
    refine e_ret ?_
    refine ret1 (v := ni 5) rfl rfl ?_
    have hno : ¬ (wrongU u (d.state.clock.length : Int) = 0 ∧ hasC d.state.clock u.author (seqU u) = true) := fun q => by rw [hH] at q; cases q.2
    have es : takeN d u = (d, 5) := by unfold takeN nOf lenI; rw [if_neg hno, if_pos (by omega)]
    rw [es]
    exact ⟨_, _, _, _, _, _, _, _, _, _, rfl, (S.tk 1 1 rfl rfl).rw' rfl rfl, f1, f2, f3, OL⟩
   refine l_y (v := .bool false) S (y_eqF rfl rfl hL) ?_
   refine l_nil ?_
   refine n_seq ?_
   refine e_cF rfl ?_
   refine e_skip ?_
   refine n_seq ?_
   refine e_cut (J := fun ov w => ∃ (g34 : Nat), ∃ (A25 : Option Addr), ∃ (c26 : Nat), ∃ (A28 : Option Addr), ∃ (c29 : Nat), ∃ (A31 : Option Addr), ∃ (c32 : Nat), ∃ rd' junk, ov = [(0, pa g 0), (3, pa g7 0), (4, ni 0), (5, pa g34 0), (6, ni ((ApplyS d.state u).2))] ++ junk ∧ St X W rd rd' [(g, 31, #[ni d.self, .slice A0 d.state.clock.length c0, .slice A1 d.state.lives.length c1, .slice A2 d.state.tallies.length c2, Bv, .slice AL d.log.length cL, Kv]), (g7, 42, #[ni u.author, .slice A4 u.seen.length c5, ni u.kind, ni u.key, ni u.item]), (g34, 27, #[.slice A25 (((ApplyS d.state u).1.clock).length) c26, .slice A28 (((ApplyS d.state u).1.lives).length) c29, .slice A31 (((ApplyS d.state u).1.tallies).length) c32])] [⟨42, 5, .slice AL d.log.length cL, d.log.length, xsL⟩] w ∧ Rd.le rd rd' ∧ SliceR 1 IntR rd' (.slice A25 (((ApplyS d.state u).1.clock).length) c26) ((ApplyS d.state u).1.clock) ∧ SliceR 5 LiveR rd' (.slice A28 (((ApplyS d.state u).1.lives).length) c29) ((ApplyS d.state u).1.lives) ∧ SliceR 3 TallyR rd' (.slice A31 (((ApplyS d.state u).1.tallies).length) c32) ((ApplyS d.state u).1.tallies)) ?_ ?_
   ·
    refine e_a (fun w => St X W rd rd [(g, 31, #[ni d.self, .slice A0 d.state.clock.length c0, .slice A1 d.state.lives.length c1, .slice A2 d.state.tallies.length c2, Bv, .slice AL d.log.length cL, Kv]), (g7, 42, #[ni u.author, .slice A4 u.seen.length c5, ni u.kind, ni u.key, ni u.item])] [⟨42, 5, .slice AL d.log.length cL, d.log.length, xsL⟩] w) MX rfl ?_
    have S := S.drew; have sup10 := S.sup
    have SC := (S.tk 2 1 rfl rfl)
    refine a_tk (v := pa g 0) 0 rfl rfl SC rfl (y_mv rfl) ?_
    refine a_tk (v := pa g 0) 1 rfl rfl SC rfl (y_nc rfl) ?_
    refine a_tk (v := pa g 1) 2 rfl rfl SC rfl (y_fb FA31_1 rfl rfl) ?_
    refine a_tk (v := .agg #[.slice A0 d.state.clock.length c0, .slice A1 d.state.lives.length c1, .slice A2 d.state.tallies.length c2]) 3 rfl rfl SC rfl (y_ld rfl (fun w S => ld_bA (vs := [.slice A0 d.state.clock.length c0, .slice A1 d.state.lives.length c1, .slice A2 d.state.tallies.length c2]) (i := 0) S rfl T27 rfl rfl)) ?_
    refine a_tk (v := .agg #[ni u.author, .slice A4 u.seen.length c5, ni u.kind, ni u.key, ni u.item]) 4 rfl rfl SC rfl (y_ld rfl (fun w S => ld_bA (vs := [ni u.author, .slice A4 u.seen.length c5, ni u.kind, ni u.key, ni u.item]) (i := 1) S rfl T42 rfl rfl)) ?_
    refine a_all (rs := [5, 9]) (by kernel_rfl) rfl ?_
    refine aa_cons rfl ?_ ?_
    ·
     refine l_c (en_f (vs := [.agg #[.slice A0 d.state.clock.length c0, .slice A1 d.state.lives.length c1, .slice A2 d.state.tallies.length c2], .agg #[ni u.author, .slice A4 u.seen.length c5, ni u.kind, ni u.key, ni u.item]]) (CF 55 _) rfl rfl) (SApply_c _ _ S.le _ _ d.state u (⟨_, rfl, ⟨_, _, _, rfl, f1, f2, f3⟩⟩ : AggR StateR rd _ d.state) (⟨_, rfl, ⟨_, rfl, h3⟩⟩ : AggR UpdR rd _ u)) ?_
     rintro e w11 ⟨v16, rfl, h17, k⟩
     obtain ⟨rd12, S, L13, N14, X15⟩ := S.call' k; clear k
     replace f1 := fm f1 L13
     replace f2 := fm f2 L13
     replace f3 := fm f3 L13
     replace h3 := fm h3 L13
     replace OL := rm OL L13
     replace h17 := am h17 X15
     obtain ⟨cs18, h17v, h17⟩ := h17; subst h17v
     obtain ⟨sv19, sv21, sv23, h17e, h20, h22, h24⟩ := h17; subst h17e
     obtain ⟨A25, c26, rfl, m27, m27'⟩ := h20.val
     obtain ⟨A28, c29, rfl, m30, m30'⟩ := h22.val
     obtain ⟨A31, c32, rfl, m33, m33'⟩ := h24.val
     refine ckd ?_
     refine l_nil ?_
     have SC := ((S.tk 2 1 rfl rfl).weak sup10 L13)
     refine n_lp (ak SC ?_)
     refine a_tk (v := .tuple #[.agg #[.slice A25 (((ApplyS d.state u).1.clock).length) c26, .slice A28 (((ApplyS d.state u).1.lives).length) c29, .slice A31 (((ApplyS d.state u).1.tallies).length) c32], ni ((ApplyS d.state u).2)]) 6 rfl rfl SC rfl (y_mv rfl) ?_
     refine a_tk (v := .agg #[.slice A25 (((ApplyS d.state u).1.clock).length) c26, .slice A28 (((ApplyS d.state u).1.lives).length) c29, .slice A31 (((ApplyS d.state u).1.tallies).length) c32]) 7 rfl rfl SC rfl (y_ex rfl rfl) ?_
     refine a_tk (v := ni ((ApplyS d.state u).2)) 8 rfl rfl SC rfl (y_ex rfl rfl) ?_
     refine a_all (rs := [9]) (by kernel_rfl) rfl ?_
     refine aa_cons rfl ?_ ?_
     ·
      refine l_al (cs := #[.slice none 0 0, .slice none 0 0, .slice none 0 0]) S Z27 rfl fun g34 w35 S => ?_
      refine l_nil ?_
      have SC := ((S.tk 2 1 rfl rfl).weak sup10 L13)
      refine n_lp (ak SC ?_)
      refine a_all (rs := [10]) (by kernel_rfl) rfl ?_
      refine aa_cons rfl ?_ ?_
      ·
       refine l_st (u := .agg #[.slice A25 (((ApplyS d.state u).1.clock).length) c26, .slice A28 (((ApplyS d.state u).1.lives).length) c29, .slice A31 (((ApplyS d.state u).1.tallies).length) c32]) (i := 2) (cs' := #[.slice A25 (((ApplyS d.state u).1.clock).length) c26, .slice A28 (((ApplyS d.state u).1.lives).length) c29, .slice A31 (((ApplyS d.state u).1.tallies).length) c32]) S rfl rfl rfl SZ27 rfl rfl rfl fun w36 S => ?_
       refine l_nil ?_
       have SC := ((S.tk 2 1 rfl rfl).weak sup10 L13)
       refine n_lp (ak SC ?_)
       refine a_tk (v := ni ((ApplyS d.state u).2)) 11 rfl rfl SC rfl (y_as rfl) ?_
       refine a_done (by kernel_rfl) ?_
       clear SC
       refine n_lp ⟨_, fr_keep (m := [(0, pa g 0), (3, pa g7 0), (4, ni 0), (5, pa g34 0), (6, ni ((ApplyS d.state u).2))]) ⟨⟨rfl, rfl⟩, ⟨rfl, rfl⟩, ⟨rfl, rfl⟩, ⟨rfl, rfl⟩, ⟨rfl, rfl⟩, trivial⟩, g34, A25, c26, A28, c29, A31, c32, _, _, rfl, (S.tk 3 1 rfl rfl).rw' rfl rfl, (Rd.le_trans (Rd.le_refl rd) L13), h20, h22, h24⟩
      exact aa_nil
     exact aa_nil
    refine aa_cons rfl ?_ ?_
    ·
     refine l_al (cs := #[.slice none 0 0, .slice none 0 0, .slice none 0 0]) S Z27 rfl fun g37 w38 S => ?_
     refine l_nil ?_
     have SC := (S.tk 2 1 rfl rfl)
     refine n_lp (ak SC ?_)
     refine a_all (rs := [5]) (by kernel_rfl) rfl ?_
     refine aa_cons rfl ?_ ?_
     ·
      refine l_c (en_f (vs := [.agg #[.slice A0 d.state.clock.length c0, .slice A1 d.state.lives.length c1, .slice A2 d.state.tallies.length c2], .agg #[ni u.author, .slice A4 u.seen.length c5, ni u.kind, ni u.key, ni u.item]]) (CF 55 _) rfl rfl) (SApply_c _ _ S.le _ _ d.state u (⟨_, rfl, ⟨_, _, _, rfl, f1, f2, f3⟩⟩ : AggR StateR rd _ d.state) (⟨_, rfl, ⟨_, rfl, h3⟩⟩ : AggR UpdR rd _ u)) ?_
      rintro e w39 ⟨v44, rfl, h45, k⟩
      obtain ⟨rd40, S, L41, N42, X43⟩ := S.call' k; clear k
      replace f1 := fm f1 L41
      replace f2 := fm f2 L41
      replace f3 := fm f3 L41
      replace h3 := fm h3 L41
      replace OL := rm OL L41
      replace h45 := am h45 X43
      obtain ⟨cs46, h45v, h45⟩ := h45; subst h45v
      obtain ⟨sv47, sv49, sv51, h45e, h48, h50, h52⟩ := h45; subst h45e
      obtain ⟨A53, c54, rfl, m55, m55'⟩ := h48.val
      obtain ⟨A56, c57, rfl, m58, m58'⟩ := h50.val
      obtain ⟨A59, c60, rfl, m61, m61'⟩ := h52.val
      refine ckd ?_
      refine l_nil ?_
      have SC := ((S.tk 2 1 rfl rfl).weak sup10 L41)
      refine n_lp (ak SC ?_)
      refine a_tk (v := .tuple #[.agg #[.slice A53 (((ApplyS d.state u).1.clock).length) c54, .slice A56 (((ApplyS d.state u).1.lives).length) c57, .slice A59 (((ApplyS d.state u).1.tallies).length) c60], ni ((ApplyS d.state u).2)]) 6 rfl rfl SC rfl (y_mv rfl) ?_
      refine a_tk (v := .agg #[.slice A53 (((ApplyS d.state u).1.clock).length) c54, .slice A56 (((ApplyS d.state u).1.lives).length) c57, .slice A59 (((ApplyS d.state u).1.tallies).length) c60]) 7 rfl rfl SC rfl (y_ex rfl rfl) ?_
      refine a_tk (v := ni ((ApplyS d.state u).2)) 8 rfl rfl SC rfl (y_ex rfl rfl) ?_
      refine a_all (rs := [10]) (by kernel_rfl) rfl ?_
      refine aa_cons rfl ?_ ?_
      ·
       refine l_st (u := .agg #[.slice A53 (((ApplyS d.state u).1.clock).length) c54, .slice A56 (((ApplyS d.state u).1.lives).length) c57, .slice A59 (((ApplyS d.state u).1.tallies).length) c60]) (i := 2) (cs' := #[.slice A53 (((ApplyS d.state u).1.clock).length) c54, .slice A56 (((ApplyS d.state u).1.lives).length) c57, .slice A59 (((ApplyS d.state u).1.tallies).length) c60]) S rfl rfl rfl SZ27 rfl rfl rfl fun w62 S => ?_
       refine l_nil ?_
       have SC := ((S.tk 2 1 rfl rfl).weak sup10 L41)
       refine n_lp (ak SC ?_)
       refine a_tk (v := ni ((ApplyS d.state u).2)) 11 rfl rfl SC rfl (y_as rfl) ?_
       refine a_done (by kernel_rfl) ?_
       clear SC
       refine n_lp ⟨_, fr_keep (m := [(0, pa g 0), (3, pa g7 0), (4, ni 0), (5, pa g37 0), (6, ni ((ApplyS d.state u).2))]) ⟨⟨rfl, rfl⟩, ⟨rfl, rfl⟩, ⟨rfl, rfl⟩, ⟨rfl, rfl⟩, ⟨rfl, rfl⟩, trivial⟩, g37, A53, c54, A56, c57, A59, c60, _, _, rfl, (S.tk 3 1 rfl rfl).rw' rfl rfl, (Rd.le_trans (Rd.le_refl rd) L41), h48, h50, h52⟩
      exact aa_nil
     exact aa_nil
    exact aa_nil
   rintro ov66 w65 ⟨g34, A25, c26, A28, c29, A31, c32, rd63, junk, rfl, S, L64, h20, h22, h24⟩
   replace f1 := fm f1 L64
   replace f2 := fm f2 L64
   replace f3 := fm f3 L64
   replace h3 := fm h3 L64
   replace OL := rm OL L64
   refine e_seq ?_
   refine e_seq ?_
   refine e_reg ?_
   refine l_y (v := ni ((ApplyS d.state u).2)) S (y_mv rfl) ?_
   by_cases hA : (ApplyS d.state u).2 = 0
   ·
    refine l_y (v := .bool false) S (y_neF rfl rfl hA) ?_
    refine l_nil ?_
    refine n_seq ?_
    refine e_cF rfl ?_
    refine e_skip ?_
    refine n_seq ?_
    refine e_cut (J := fun ov w => ∃ (A85 : Option Addr), ∃ (c86 : Nat), ∃ (g81 : Nat), ∃ (A78 : Option Addr), ∃ (c79 : Nat), ∃ rd' junk, ov = [(4, ni 0)] ++ junk ∧ St X W rd rd' [(g, 31, #[ni d.self, .slice A25 (((ApplyS d.state u).1.clock).length) c26, .slice A28 (((ApplyS d.state u).1.lives).length) c29, .slice A31 (((ApplyS d.state u).1.tallies).length) c32, Bv, .slice A85 (d.log.length + 1) c86, Kv]), (g7, 42, #[ni u.author, .slice A4 u.seen.length c5, ni u.kind, ni u.key, ni u.item]), (g34, 27, #[.slice A25 (((ApplyS d.state u).1.clock).length) c26, .slice A28 (((ApplyS d.state u).1.lives).length) c29, .slice A31 (((ApplyS d.state u).1.tallies).length) c32]), (g81, 42, #[ni u.author, .slice A78 u.seen.length c79, ni u.kind, ni u.key, ni u.item])] [⟨42, 5, .slice A85 (d.log.length + 1) c86, d.log.length + 1, xsL ++ [ni u.author, .slice A78 u.seen.length c79, ni u.kind, ni u.key, ni u.item]⟩] w ∧ Rd.le rd63 rd' ∧ SliceR 1 IntR rd' (.slice A78 u.seen.length c79) u.seen ∧ RowR 5 UpdR rd' (xsL ++ [ni u.author, .slice A78 u.seen.length c79, ni u.kind, ni u.key, ni u.item]) (d.log ++ [u])) ?_ ?_
    ·
     refine e_a (fun w => St X W rd rd63 [(g7, 42, #[ni u.author, .slice A4 u.seen.length c5, ni u.kind, ni u.key, ni u.item]), (g34, 27, #[.slice A25 (((ApplyS d.state u).1.clock).length) c26, .slice A28 (((ApplyS d.state u).1.lives).length) c29, .slice A31 (((ApplyS d.state u).1.tallies).length) c32])] [] w) MX rfl ?_
     have S := S.drew; have sup67 := S.sup
     have SC := ((S.tk 3 0 rfl rfl).del 0)
     refine a_tk (v := pa g 0) 0 rfl rfl SC rfl (y_mv rfl) ?_
     refine a_tk (v := pa g 0) 1 rfl rfl SC rfl (y_mv rfl) ?_
     refine a_tk (v := .agg #[.slice A25 (((ApplyS d.state u).1.clock).length) c26, .slice A28 (((ApplyS d.state u).1.lives).length) c29, .slice A31 (((ApplyS d.state u).1.tallies).length) c32]) 2 rfl rfl SC rfl (y_ld rfl (fun w S => ld_bA (vs := [.slice A25 (((ApplyS d.state u).1.clock).length) c26, .slice A28 (((ApplyS d.state u).1.lives).length) c29, .slice A31 (((ApplyS d.state u).1.tallies).length) c32]) (i := 1) S rfl T27 rfl rfl)) ?_
     refine a_tk (v := pa g 0) 3 rfl rfl SC rfl (y_mv rfl) ?_
     refine a_tk (v := pa g 0) 4 rfl rfl SC rfl (y_nc rfl) ?_
     refine a_tk (v := pa g 5) 5 rfl rfl SC rfl (y_fb FA31_3 rfl rfl) ?_
     refine a_tk (v := .agg #[ni u.author, .slice A4 u.seen.length c5, ni u.kind, ni u.key, ni u.item]) 7 rfl rfl SC rfl (y_ld rfl (fun w S => ld_bA (vs := [ni u.author, .slice A4 u.seen.length c5, ni u.kind, ni u.key, ni u.item]) (i := 0) S rfl T42 rfl rfl)) ?_
     refine a_all (rs := [6, 8]) (by kernel_rfl) rfl ?_
     refine aa_cons rfl ?_ ?_
     ·
      refine l_y (v := .slice AL d.log.length cL) S (y_ld rfl (fun w S => ld_b1 (i := 0) S rfl rfl T28)) ?_
      refine l_nil ?_
      have SC := ((S.tk 3 0 rfl rfl).del 0)
      refine n_lp (ak SC ?_)
      refine a_all (rs := [8]) (by kernel_rfl) rfl ?_
      refine aa_cons rfl ?_ ?_
      ·
       refine l_c (en_f (vs := [.agg #[ni u.author, .slice A4 u.seen.length c5, ni u.kind, ni u.key, ni u.item]]) (CF 77 _) rfl rfl) (UOwn_m _ _ S.le _ u (⟨_, rfl, ⟨_, rfl, h3⟩⟩ : AggR UpdR rd63 _ u) (by have hru := (ApplyS_ok hA).2.1.r.len; omega)) ?_
       rintro e w68 ⟨v73, rfl, h74, k⟩
       obtain ⟨rd69, S, L70, N71, X72⟩ := S.call' k; clear k
       replace f1 := fm f1 L70
       replace f2 := fm f2 L70
       replace f3 := fm f3 L70
       replace h3 := fm h3 L70
       replace OL := rm OL L70
       replace h20 := fm h20 L70
       replace h22 := fm h22 L70
       replace h24 := fm h24 L70
       replace h74 := am h74 X72
       obtain ⟨cs75, h74v, h74⟩ := h74; subst h74v
       obtain ⟨sv76, h74e, h77⟩ := h74; subst h74e
       obtain ⟨A78, c79, rfl, m80, m80'⟩ := h77.val
       refine ckd ?_
       refine l_nil ?_
       have SC := (((S.tk 3 0 rfl rfl).del 0).weak sup67 L70)
       refine n_lp (ak SC ?_)
       refine a_all (rs := [9]) (by kernel_rfl) rfl ?_
       refine aa_cons rfl ?_ ?_
       ·
        refine l_bs (ps := [(0, .agg #[ni u.author, .slice A78 u.seen.length c79, ni u.kind, ni u.key, ni u.item])]) (cs := #[ni u.author, .slice A78 u.seen.length c79, ni u.kind, ni u.key, ni u.item]) S U28 SZ42 Z42 rfl rfl rfl (by kernel_rfl) fun g81 w82 S => ?_
        refine l_nil ?_
        have SC := (((S.tk 3 0 rfl rfl).del 0).weak sup67 L70)
        refine n_lp (ak SC ?_)
        refine a_all (rs := [10]) (by kernel_rfl) rfl ?_
        refine aa_cons rfl ?_ ?_
        ·
         refine l_ap (e' := 0) (i := 0) (i' := 3) S K28 rfl rfl rfl rfl rfl rfl rfl (by simp only [maxLen]; omega) (by first | omega | (dsimp only; omega)) fun v83 w84 S => ?_
         have OL := RowR.push (x := u) (cs := [ni u.author, .slice A78 u.seen.length c79, ni u.kind, ni u.key, ni u.item]) OL rfl ⟨_, rfl, h77⟩
         obtain ⟨A85, c86, m87e, m87, m87'⟩ : ∃ A c, v83 = .slice A (d.log.length + 1) c ∧ (d.log.length + 1) ≤ c ∧ c ≤ maxLen := own_len S (i := 0) rfl; subst m87e
         refine l_nil ?_
         have SC := (((S.tk 3 0 rfl rfl).del 0).weak sup67 L70)
         refine n_lp (ak SC ?_)
         refine a_tk (v := pa g 0) 11 rfl rfl SC rfl (y_nc rfl) ?_
         refine a_tk (v := pa g 1) 12 rfl rfl SC rfl (y_fb FA31_1 rfl rfl) ?_
         refine a_all (rs := [13]) (by kernel_rfl) rfl ?_
         refine aa_cons rfl ?_ ?_
         ·
          refine l_st (u := .agg #[.slice A25 (((ApplyS d.state u).1.clock).length) c26, .slice A28 (((ApplyS d.state u).1.lives).length) c29, .slice A31 (((ApplyS d.state u).1.tallies).length) c32]) (i := 0) (cs' := #[ni d.self, .slice A25 (((ApplyS d.state u).1.clock).length) c26, .slice A28 (((ApplyS d.state u).1.lives).length) c29, .slice A31 (((ApplyS d.state u).1.tallies).length) c32, Bv, .slice AL d.log.length cL, Kv]) S rfl rfl rfl SZ27 rfl rfl rfl fun w88 S => ?_
          refine l_nil ?_
          have SC := (((S.tk 3 0 rfl rfl).del 0).weak sup67 L70)
          refine n_lp (ak SC ?_)
          refine a_tk (v := pa g 0) 14 rfl rfl SC rfl (y_nc rfl) ?_
          refine a_tk (v := pa g 5) 15 rfl rfl SC rfl (y_fb FA31_3 rfl rfl) ?_
          refine a_all (rs := [16]) (by kernel_rfl) rfl ?_
          refine aa_cons rfl ?_ ?_
          ·
           refine l_st (u := .slice A85 (d.log.length + 1) c86) (i := 0) (cs' := #[ni d.self, .slice A25 (((ApplyS d.state u).1.clock).length) c26, .slice A28 (((ApplyS d.state u).1.lives).length) c29, .slice A31 (((ApplyS d.state u).1.tallies).length) c32, Bv, .slice A85 (d.log.length + 1) c86, Kv]) S rfl rfl rfl SZ28 rfl rfl rfl fun w89 S => ?_
           refine l_nil ?_
           have SC := (((S.tk 3 0 rfl rfl).del 0).weak sup67 L70)
           refine n_lp (ak SC ?_)
           refine a_done (by kernel_rfl) ?_
           clear SC
           refine n_lp ⟨_, fr_keep (m := [(4, ni 0)]) ⟨⟨rfl, rfl⟩, trivial⟩, A85, c86, g81, A78, c79, _, _, rfl, (S.tk 4 1 rfl rfl).rw' rfl rfl, (Rd.le_trans (Rd.le_refl rd63) L70), h77, OL⟩
          exact aa_nil
         exact aa_nil
        exact aa_nil
       exact aa_nil
      exact aa_nil
     refine aa_cons rfl ?_ ?_
     ·
      refine l_c (en_f (vs := [.agg #[ni u.author, .slice A4 u.seen.length c5, ni u.kind, ni u.key, ni u.item]]) (CF 77 _) rfl rfl) (UOwn_m _ _ S.le _ u (⟨_, rfl, ⟨_, rfl, h3⟩⟩ : AggR UpdR rd63 _ u) (by have hru := (ApplyS_ok hA).2.1.r.len; omega)) ?_
      rintro e w90 ⟨v95, rfl, h96, k⟩
      obtain ⟨rd91, S, L92, N93, X94⟩ := S.call' k; clear k
      replace f1 := fm f1 L92
      replace f2 := fm f2 L92
      replace f3 := fm f3 L92
      replace h3 := fm h3 L92
      replace OL := rm OL L92
      replace h20 := fm h20 L92
      replace h22 := fm h22 L92
      replace h24 := fm h24 L92
      replace h96 := am h96 X94
      obtain ⟨cs97, h96v, h96⟩ := h96; subst h96v
      obtain ⟨sv98, h96e, h99⟩ := h96; subst h96e
      obtain ⟨A100, c101, rfl, m102, m102'⟩ := h99.val
      refine ckd ?_
      refine l_nil ?_
      have SC := (((S.tk 3 0 rfl rfl).del 0).weak sup67 L92)
      refine n_lp (ak SC ?_)
      refine a_all (rs := [6, 9]) (by kernel_rfl) rfl ?_
      refine aa_cons rfl ?_ ?_
      ·
       refine l_y (v := .slice AL d.log.length cL) S (y_ld rfl (fun w S => ld_b1 (i := 0) S rfl rfl T28)) ?_
       refine l_nil ?_
       have SC := (((S.tk 3 0 rfl rfl).del 0).weak sup67 L92)
       refine n_lp (ak SC ?_)
       refine a_all (rs := [9]) (by kernel_rfl) rfl ?_
       refine aa_cons rfl ?_ ?_
       ·
        refine l_bs (ps := [(0, .agg #[ni u.author, .slice A100 u.seen.length c101, ni u.kind, ni u.key, ni u.item])]) (cs := #[ni u.author, .slice A100 u.seen.length c101, ni u.kind, ni u.key, ni u.item]) S U28 SZ42 Z42 rfl rfl rfl (by kernel_rfl) fun g103 w104 S => ?_
        refine l_nil ?_
        have SC := (((S.tk 3 0 rfl rfl).del 0).weak sup67 L92)
        refine n_lp (ak SC ?_)
        refine a_all (rs := [10]) (by kernel_rfl) rfl ?_
        refine aa_cons rfl ?_ ?_
        ·
         refine l_ap (e' := 0) (i := 0) (i' := 3) S K28 rfl rfl rfl rfl rfl rfl rfl (by simp only [maxLen]; omega) (by first | omega | (dsimp only; omega)) fun v105 w106 S => ?_
         have OL := RowR.push (x := u) (cs := [ni u.author, .slice A100 u.seen.length c101, ni u.kind, ni u.key, ni u.item]) OL rfl ⟨_, rfl, h99⟩
         obtain ⟨A107, c108, m109e, m109, m109'⟩ : ∃ A c, v105 = .slice A (d.log.length + 1) c ∧ (d.log.length + 1) ≤ c ∧ c ≤ maxLen := own_len S (i := 0) rfl; subst m109e
         refine l_nil ?_
         have SC := (((S.tk 3 0 rfl rfl).del 0).weak sup67 L92)
         refine n_lp (ak SC ?_)
         refine a_tk (v := pa g 0) 11 rfl rfl SC rfl (y_nc rfl) ?_
         refine a_tk (v := pa g 1) 12 rfl rfl SC rfl (y_fb FA31_1 rfl rfl) ?_
         refine a_all (rs := [13]) (by kernel_rfl) rfl ?_
         refine aa_cons rfl ?_ ?_
         ·
          refine l_st (u := .agg #[.slice A25 (((ApplyS d.state u).1.clock).length) c26, .slice A28 (((ApplyS d.state u).1.lives).length) c29, .slice A31 (((ApplyS d.state u).1.tallies).length) c32]) (i := 0) (cs' := #[ni d.self, .slice A25 (((ApplyS d.state u).1.clock).length) c26, .slice A28 (((ApplyS d.state u).1.lives).length) c29, .slice A31 (((ApplyS d.state u).1.tallies).length) c32, Bv, .slice AL d.log.length cL, Kv]) S rfl rfl rfl SZ27 rfl rfl rfl fun w110 S => ?_
          refine l_nil ?_
          have SC := (((S.tk 3 0 rfl rfl).del 0).weak sup67 L92)
          refine n_lp (ak SC ?_)
          refine a_tk (v := pa g 0) 14 rfl rfl SC rfl (y_nc rfl) ?_
          refine a_tk (v := pa g 5) 15 rfl rfl SC rfl (y_fb FA31_3 rfl rfl) ?_
          refine a_all (rs := [16]) (by kernel_rfl) rfl ?_
          refine aa_cons rfl ?_ ?_
          ·
           refine l_st (u := .slice A107 (d.log.length + 1) c108) (i := 0) (cs' := #[ni d.self, .slice A25 (((ApplyS d.state u).1.clock).length) c26, .slice A28 (((ApplyS d.state u).1.lives).length) c29, .slice A31 (((ApplyS d.state u).1.tallies).length) c32, Bv, .slice A107 (d.log.length + 1) c108, Kv]) S rfl rfl rfl SZ28 rfl rfl rfl fun w111 S => ?_
           refine l_nil ?_
           have SC := (((S.tk 3 0 rfl rfl).del 0).weak sup67 L92)
           refine n_lp (ak SC ?_)
           refine a_done (by kernel_rfl) ?_
           clear SC
           refine n_lp ⟨_, fr_keep (m := [(4, ni 0)]) ⟨⟨rfl, rfl⟩, trivial⟩, A107, c108, g103, A100, c101, _, _, rfl, (S.tk 4 1 rfl rfl).rw' rfl rfl, (Rd.le_trans (Rd.le_refl rd63) L92), h99, OL⟩
          exact aa_nil
         exact aa_nil
        exact aa_nil
       exact aa_nil
      refine aa_cons rfl ?_ ?_
      ·
       refine l_bs (ps := [(0, .agg #[ni u.author, .slice A100 u.seen.length c101, ni u.kind, ni u.key, ni u.item])]) (cs := #[ni u.author, .slice A100 u.seen.length c101, ni u.kind, ni u.key, ni u.item]) S U28 SZ42 Z42 rfl rfl rfl (by kernel_rfl) fun g112 w113 S => ?_
       refine l_nil ?_
       have SC := (((S.tk 3 0 rfl rfl).del 0).weak sup67 L92)
       refine n_lp (ak SC ?_)
       refine a_all (rs := [6]) (by kernel_rfl) rfl ?_
       refine aa_cons rfl ?_ ?_
       ·
        refine l_y (v := .slice AL d.log.length cL) S (y_ld rfl (fun w S => ld_b1 (i := 0) S rfl rfl T28)) ?_
        refine l_nil ?_
        have SC := (((S.tk 3 0 rfl rfl).del 0).weak sup67 L92)
        refine n_lp (ak SC ?_)
        refine a_all (rs := [10]) (by kernel_rfl) rfl ?_
        refine aa_cons rfl ?_ ?_
        ·
         refine l_ap (e' := 0) (i := 0) (i' := 3) S K28 rfl rfl rfl rfl rfl rfl rfl (by simp only [maxLen]; omega) (by first | omega | (dsimp only; omega)) fun v114 w115 S => ?_
         have OL := RowR.push (x := u) (cs := [ni u.author, .slice A100 u.seen.length c101, ni u.kind, ni u.key, ni u.item]) OL rfl ⟨_, rfl, h99⟩
         obtain ⟨A116, c117, m118e, m118, m118'⟩ : ∃ A c, v114 = .slice A (d.log.length + 1) c ∧ (d.log.length + 1) ≤ c ∧ c ≤ maxLen := own_len S (i := 0) rfl; subst m118e
         refine l_nil ?_
         have SC := (((S.tk 3 0 rfl rfl).del 0).weak sup67 L92)
         refine n_lp (ak SC ?_)
         refine a_tk (v := pa g 0) 11 rfl rfl SC rfl (y_nc rfl) ?_
         refine a_tk (v := pa g 1) 12 rfl rfl SC rfl (y_fb FA31_1 rfl rfl) ?_
         refine a_all (rs := [13]) (by kernel_rfl) rfl ?_
         refine aa_cons rfl ?_ ?_
         ·
          refine l_st (u := .agg #[.slice A25 (((ApplyS d.state u).1.clock).length) c26, .slice A28 (((ApplyS d.state u).1.lives).length) c29, .slice A31 (((ApplyS d.state u).1.tallies).length) c32]) (i := 0) (cs' := #[ni d.self, .slice A25 (((ApplyS d.state u).1.clock).length) c26, .slice A28 (((ApplyS d.state u).1.lives).length) c29, .slice A31 (((ApplyS d.state u).1.tallies).length) c32, Bv, .slice AL d.log.length cL, Kv]) S rfl rfl rfl SZ27 rfl rfl rfl fun w119 S => ?_
          refine l_nil ?_
          have SC := (((S.tk 3 0 rfl rfl).del 0).weak sup67 L92)
          refine n_lp (ak SC ?_)
          refine a_tk (v := pa g 0) 14 rfl rfl SC rfl (y_nc rfl) ?_
          refine a_tk (v := pa g 5) 15 rfl rfl SC rfl (y_fb FA31_3 rfl rfl) ?_
          refine a_all (rs := [16]) (by kernel_rfl) rfl ?_
          refine aa_cons rfl ?_ ?_
          ·
           refine l_st (u := .slice A116 (d.log.length + 1) c117) (i := 0) (cs' := #[ni d.self, .slice A25 (((ApplyS d.state u).1.clock).length) c26, .slice A28 (((ApplyS d.state u).1.lives).length) c29, .slice A31 (((ApplyS d.state u).1.tallies).length) c32, Bv, .slice A116 (d.log.length + 1) c117, Kv]) S rfl rfl rfl SZ28 rfl rfl rfl fun w120 S => ?_
           refine l_nil ?_
           have SC := (((S.tk 3 0 rfl rfl).del 0).weak sup67 L92)
           refine n_lp (ak SC ?_)
           refine a_done (by kernel_rfl) ?_
           clear SC
           refine n_lp ⟨_, fr_keep (m := [(4, ni 0)]) ⟨⟨rfl, rfl⟩, trivial⟩, A116, c117, g112, A100, c101, _, _, rfl, (S.tk 4 1 rfl rfl).rw' rfl rfl, (Rd.le_trans (Rd.le_refl rd63) L92), h99, OL⟩
          exact aa_nil
         exact aa_nil
        exact aa_nil
       exact aa_nil
      exact aa_nil
     exact aa_nil
    rintro ov124 w123 ⟨A85, c86, g81, A78, c79, rd121, junk, rfl, S, L122, h77, OL⟩
    replace h3 := fm h3 L122
    replace h20 := fm h20 L122
    replace h22 := fm h22 L122
    replace h24 := fm h24 L122
    refine e_seq ?_
    refine e_reg ?_
    refine l_y (v := ni 0) S (y_as rfl) ?_
    refine l_nil ?_
    refine n_seq ?_
    refine e_ret ?_
    refine ret1 (v := ni 0) rfl rfl ?_
    have hno : ¬ (wrongU u (d.state.clock.length : Int) = 0 ∧ hasC d.state.clock u.author (seqU u) = true) := fun q => by rw [hH] at q; cases q.2
    have es : takeN d u = (⟨d.self, (ApplyS d.state u).1, d.base, d.log ++ [u], d.known⟩, 0) := by unfold takeN nOf lenI; rw [if_neg hno, if_neg (by omega), if_neg (fun q => q hA)]
    rw [es]
    dsimp only
    rw [show (d.log ++ [u]).length = d.log.length + 1 from by simp]
    exact ⟨_, _, _, _, _, _, _, _, _, _, rfl, (S.tk 1 1 rfl rfl).rw' rfl rfl, h20, h22, h24, OL⟩
   refine l_y (v := .bool true) S (y_neT rfl rfl hA) ?_
   refine l_nil ?_
   refine n_seq ?_
   refine e_cT rfl ?_
   refine e_seq ?_
   refine e_reg ?_
   refine l_y (v := ni ((ApplyS d.state u).2)) S (y_mv rfl) ?_
   refine l_y (v := ni ((ApplyS d.state u).2)) S (y_as rfl) ?_
   refine l_nil ?_
   refine n_seq ?_
   refine e_ret ?_
   refine ret1 (v := ni ((ApplyS d.state u).2)) rfl rfl ?_
   have hno : ¬ (wrongU u (d.state.clock.length : Int) = 0 ∧ hasC d.state.clock u.author (seqU u) = true) := fun q => by rw [hH] at q; cases q.2
   have es : takeN d u = (d, (ApplyS d.state u).2) := by unfold takeN nOf lenI; rw [if_neg hno, if_neg (by omega), if_pos hA]
   rw [es]
   exact ⟨_, _, _, _, _, _, _, _, _, _, rfl, (S.tk 1 1 rfl rfl).rw' rfl rfl, f1, f2, f3, OL⟩
  refine q_cg (d' := 16) (v := .bool true) (en_f (vs := [.slice A0 d.state.clock.length c0, ni u.author, ni (seqU u)]) (CF 83 _) rfl rfl) rfl rfl (fun w S => (Has_calls _ _ _ _ _ (fm f1 S.le)).mono (by rintro e w' ⟨rfl, rfl⟩; exact ⟨rbool (by assumption), S⟩)) ?_
  refine q_y (v := .bool true) (y_pT rfl rfl) ?_
  refine q_nil fun w125 S => ?_
  refine n_seq ?_
  refine e_cT rfl ?_
  refine e_seq ?_
  refine e_reg ?_
  refine l_y (v := ni 0) S (y_as rfl) ?_
  refine l_nil ?_
  refine n_seq ?_
  refine e_ret ?_
  refine ret1 (v := ni 0) rfl rfl ?_
  have es : takeN d u = (d, 0) := by unfold takeN nOf lenI; rw [if_pos ⟨hU, hH⟩]
  rw [es]
  exact ⟨_, _, _, _, _, _, _, _, _, _, rfl, (S.tk 1 1 rfl rfl).rw' rfl rfl, f1, f2, f3, OL⟩
 refine q_y (v := .bool false) (y_eqF rfl rfl hU) ?_
 refine q_y (v := .bool false) (y_mv rfl) ?_
 refine q_s (d' := 16) rfl rfl ?_
 refine q_s (d' := 16) rfl rfl ?_
 refine q_s (d' := 16) rfl rfl ?_
 refine q_s (d' := 16) rfl rfl ?_
 refine q_s (d' := 16) rfl rfl ?_
 refine q_s (d' := 16) rfl rfl ?_
 refine q_s (d' := 16) rfl rfl ?_
 refine q_s (d' := 16) rfl rfl ?_
 refine q_s (d' := 16) rfl rfl ?_
 refine q_s (d' := 16) rfl rfl ?_
 refine q_y (v := .bool false) (y_pF rfl rfl) ?_
 refine q_nil fun w126 S => ?_
 refine n_seq ?_
 refine e_cF rfl ?_
 refine e_skip ?_
 refine n_seq ?_
 refine e_seq ?_
 refine e_seq ?_
 refine e_reg ?_
 refine l_y (v := pa g 0) S (y_mv rfl) ?_
 refine l_y (v := pa g 0) S (y_nc rfl) ?_
 refine l_y (v := pa g 5) S (y_fb FA31_3 rfl rfl) ?_
 refine l_y (v := .slice AL d.log.length cL) S (y_ld rfl (fun w S => ld_b1 (i := 0) S rfl rfl T28)) ?_
 refine l_y (v := ni (d.log.length : Int)) S (y_len U28 rfl rfl) ?_
 by_cases hL : (d.log.length : Int) = 300
 ·
  refine l_y (v := .bool true) S (y_eqT rfl rfl hL) ?_
  refine l_nil ?_
  refine n_seq ?_
  refine e_cT rfl ?_
  refine e_seq ?_
  refine e_reg ?_
  refine l_y (v := ni 5) S (y_as rfl) ?_
  refine l_nil ?_
  refine n_seq ?_
  refine e_ret ?_
  refine ret1 (v := ni 5) rfl rfl ?_
  have hno : ¬ (wrongU u (d.state.clock.length : Int) = 0 ∧ hasC d.state.clock u.author (seqU u) = true) := fun q => hU q.1
  have es : takeN d u = (d, 5) := by unfold takeN nOf lenI; rw [if_neg hno, if_pos (by omega)]
  rw [es]
  exact ⟨_, _, _, _, _, _, _, _, _, _, rfl, (S.tk 1 1 rfl rfl).rw' rfl rfl, f1, f2, f3, OL⟩
 refine l_y (v := .bool false) S (y_eqF rfl rfl hL) ?_
 refine l_nil ?_
 refine n_seq ?_
 refine e_cF rfl ?_
 refine e_skip ?_
 refine n_seq ?_
 refine e_cut (J := fun ov w => ∃ (g151 : Nat), ∃ (A142 : Option Addr), ∃ (c143 : Nat), ∃ (A145 : Option Addr), ∃ (c146 : Nat), ∃ (A148 : Option Addr), ∃ (c149 : Nat), ∃ rd' junk, ov = [(0, pa g 0), (3, pa g7 0), (4, ni 0), (5, pa g151 0), (6, ni ((ApplyS d.state u).2))] ++ junk ∧ St X W rd rd' [(g, 31, #[ni d.self, .slice A0 d.state.clock.length c0, .slice A1 d.state.lives.length c1, .slice A2 d.state.tallies.length c2, Bv, .slice AL d.log.length cL, Kv]), (g7, 42, #[ni u.author, .slice A4 u.seen.length c5, ni u.kind, ni u.key, ni u.item]), (g151, 27, #[.slice A142 (((ApplyS d.state u).1.clock).length) c143, .slice A145 (((ApplyS d.state u).1.lives).length) c146, .slice A148 (((ApplyS d.state u).1.tallies).length) c149])] [⟨42, 5, .slice AL d.log.length cL, d.log.length, xsL⟩] w ∧ Rd.le rd rd' ∧ SliceR 1 IntR rd' (.slice A142 (((ApplyS d.state u).1.clock).length) c143) ((ApplyS d.state u).1.clock) ∧ SliceR 5 LiveR rd' (.slice A145 (((ApplyS d.state u).1.lives).length) c146) ((ApplyS d.state u).1.lives) ∧ SliceR 3 TallyR rd' (.slice A148 (((ApplyS d.state u).1.tallies).length) c149) ((ApplyS d.state u).1.tallies)) ?_ ?_
 ·
  refine e_a (fun w => St X W rd rd [(g, 31, #[ni d.self, .slice A0 d.state.clock.length c0, .slice A1 d.state.lives.length c1, .slice A2 d.state.tallies.length c2, Bv, .slice AL d.log.length cL, Kv]), (g7, 42, #[ni u.author, .slice A4 u.seen.length c5, ni u.kind, ni u.key, ni u.item])] [⟨42, 5, .slice AL d.log.length cL, d.log.length, xsL⟩] w) MX rfl ?_
  have S := S.drew; have sup127 := S.sup
  have SC := (S.tk 2 1 rfl rfl)
  refine a_tk (v := pa g 0) 0 rfl rfl SC rfl (y_mv rfl) ?_
  refine a_tk (v := pa g 0) 1 rfl rfl SC rfl (y_nc rfl) ?_
  refine a_tk (v := pa g 1) 2 rfl rfl SC rfl (y_fb FA31_1 rfl rfl) ?_
  refine a_tk (v := .agg #[.slice A0 d.state.clock.length c0, .slice A1 d.state.lives.length c1, .slice A2 d.state.tallies.length c2]) 3 rfl rfl SC rfl (y_ld rfl (fun w S => ld_bA (vs := [.slice A0 d.state.clock.length c0, .slice A1 d.state.lives.length c1, .slice A2 d.state.tallies.length c2]) (i := 0) S rfl T27 rfl rfl)) ?_
  refine a_tk (v := .agg #[ni u.author, .slice A4 u.seen.length c5, ni u.kind, ni u.key, ni u.item]) 4 rfl rfl SC rfl (y_ld rfl (fun w S => ld_bA (vs := [ni u.author, .slice A4 u.seen.length c5, ni u.kind, ni u.key, ni u.item]) (i := 1) S rfl T42 rfl rfl)) ?_
  refine a_all (rs := [5, 9]) (by kernel_rfl) rfl ?_
  refine aa_cons rfl ?_ ?_
  ·
   refine l_c (en_f (vs := [.agg #[.slice A0 d.state.clock.length c0, .slice A1 d.state.lives.length c1, .slice A2 d.state.tallies.length c2], .agg #[ni u.author, .slice A4 u.seen.length c5, ni u.kind, ni u.key, ni u.item]]) (CF 55 _) rfl rfl) (SApply_c _ _ S.le _ _ d.state u (⟨_, rfl, ⟨_, _, _, rfl, f1, f2, f3⟩⟩ : AggR StateR rd _ d.state) (⟨_, rfl, ⟨_, rfl, h3⟩⟩ : AggR UpdR rd _ u)) ?_
   rintro e w128 ⟨v133, rfl, h134, k⟩
   obtain ⟨rd129, S, L130, N131, X132⟩ := S.call' k; clear k
   replace f1 := fm f1 L130
   replace f2 := fm f2 L130
   replace f3 := fm f3 L130
   replace h3 := fm h3 L130
   replace OL := rm OL L130
   replace h134 := am h134 X132
   obtain ⟨cs135, h134v, h134⟩ := h134; subst h134v
   obtain ⟨sv136, sv138, sv140, h134e, h137, h139, h141⟩ := h134; subst h134e
   obtain ⟨A142, c143, rfl, m144, m144'⟩ := h137.val
   obtain ⟨A145, c146, rfl, m147, m147'⟩ := h139.val
   obtain ⟨A148, c149, rfl, m150, m150'⟩ := h141.val
   refine ckd ?_
   refine l_nil ?_
   have SC := ((S.tk 2 1 rfl rfl).weak sup127 L130)
   refine n_lp (ak SC ?_)
   refine a_tk (v := .tuple #[.agg #[.slice A142 (((ApplyS d.state u).1.clock).length) c143, .slice A145 (((ApplyS d.state u).1.lives).length) c146, .slice A148 (((ApplyS d.state u).1.tallies).length) c149], ni ((ApplyS d.state u).2)]) 6 rfl rfl SC rfl (y_mv rfl) ?_
   refine a_tk (v := .agg #[.slice A142 (((ApplyS d.state u).1.clock).length) c143, .slice A145 (((ApplyS d.state u).1.lives).length) c146, .slice A148 (((ApplyS d.state u).1.tallies).length) c149]) 7 rfl rfl SC rfl (y_ex rfl rfl) ?_
   refine a_tk (v := ni ((ApplyS d.state u).2)) 8 rfl rfl SC rfl (y_ex rfl rfl) ?_
   refine a_all (rs := [9]) (by kernel_rfl) rfl ?_
   refine aa_cons rfl ?_ ?_
   ·
    refine l_al (cs := #[.slice none 0 0, .slice none 0 0, .slice none 0 0]) S Z27 rfl fun g151 w152 S => ?_
    refine l_nil ?_
    have SC := ((S.tk 2 1 rfl rfl).weak sup127 L130)
    refine n_lp (ak SC ?_)
    refine a_all (rs := [10]) (by kernel_rfl) rfl ?_
    refine aa_cons rfl ?_ ?_
    ·
     refine l_st (u := .agg #[.slice A142 (((ApplyS d.state u).1.clock).length) c143, .slice A145 (((ApplyS d.state u).1.lives).length) c146, .slice A148 (((ApplyS d.state u).1.tallies).length) c149]) (i := 2) (cs' := #[.slice A142 (((ApplyS d.state u).1.clock).length) c143, .slice A145 (((ApplyS d.state u).1.lives).length) c146, .slice A148 (((ApplyS d.state u).1.tallies).length) c149]) S rfl rfl rfl SZ27 rfl rfl rfl fun w153 S => ?_
     refine l_nil ?_
     have SC := ((S.tk 2 1 rfl rfl).weak sup127 L130)
     refine n_lp (ak SC ?_)
     refine a_tk (v := ni ((ApplyS d.state u).2)) 11 rfl rfl SC rfl (y_as rfl) ?_
     refine a_done (by kernel_rfl) ?_
     clear SC
     refine n_lp ⟨_, fr_keep (m := [(0, pa g 0), (3, pa g7 0), (4, ni 0), (5, pa g151 0), (6, ni ((ApplyS d.state u).2))]) ⟨⟨rfl, rfl⟩, ⟨rfl, rfl⟩, ⟨rfl, rfl⟩, ⟨rfl, rfl⟩, ⟨rfl, rfl⟩, trivial⟩, g151, A142, c143, A145, c146, A148, c149, _, _, rfl, (S.tk 3 1 rfl rfl).rw' rfl rfl, (Rd.le_trans (Rd.le_refl rd) L130), h137, h139, h141⟩
    exact aa_nil
   exact aa_nil
  refine aa_cons rfl ?_ ?_
  ·
   refine l_al (cs := #[.slice none 0 0, .slice none 0 0, .slice none 0 0]) S Z27 rfl fun g154 w155 S => ?_
   refine l_nil ?_
   have SC := (S.tk 2 1 rfl rfl)
   refine n_lp (ak SC ?_)
   refine a_all (rs := [5]) (by kernel_rfl) rfl ?_
   refine aa_cons rfl ?_ ?_
   ·
    refine l_c (en_f (vs := [.agg #[.slice A0 d.state.clock.length c0, .slice A1 d.state.lives.length c1, .slice A2 d.state.tallies.length c2], .agg #[ni u.author, .slice A4 u.seen.length c5, ni u.kind, ni u.key, ni u.item]]) (CF 55 _) rfl rfl) (SApply_c _ _ S.le _ _ d.state u (⟨_, rfl, ⟨_, _, _, rfl, f1, f2, f3⟩⟩ : AggR StateR rd _ d.state) (⟨_, rfl, ⟨_, rfl, h3⟩⟩ : AggR UpdR rd _ u)) ?_
    rintro e w156 ⟨v161, rfl, h162, k⟩
    obtain ⟨rd157, S, L158, N159, X160⟩ := S.call' k; clear k
    replace f1 := fm f1 L158
    replace f2 := fm f2 L158
    replace f3 := fm f3 L158
    replace h3 := fm h3 L158
    replace OL := rm OL L158
    replace h162 := am h162 X160
    obtain ⟨cs163, h162v, h162⟩ := h162; subst h162v
    obtain ⟨sv164, sv166, sv168, h162e, h165, h167, h169⟩ := h162; subst h162e
    obtain ⟨A170, c171, rfl, m172, m172'⟩ := h165.val
    obtain ⟨A173, c174, rfl, m175, m175'⟩ := h167.val
    obtain ⟨A176, c177, rfl, m178, m178'⟩ := h169.val
    refine ckd ?_
    refine l_nil ?_
    have SC := ((S.tk 2 1 rfl rfl).weak sup127 L158)
    refine n_lp (ak SC ?_)
    refine a_tk (v := .tuple #[.agg #[.slice A170 (((ApplyS d.state u).1.clock).length) c171, .slice A173 (((ApplyS d.state u).1.lives).length) c174, .slice A176 (((ApplyS d.state u).1.tallies).length) c177], ni ((ApplyS d.state u).2)]) 6 rfl rfl SC rfl (y_mv rfl) ?_
    refine a_tk (v := .agg #[.slice A170 (((ApplyS d.state u).1.clock).length) c171, .slice A173 (((ApplyS d.state u).1.lives).length) c174, .slice A176 (((ApplyS d.state u).1.tallies).length) c177]) 7 rfl rfl SC rfl (y_ex rfl rfl) ?_
    refine a_tk (v := ni ((ApplyS d.state u).2)) 8 rfl rfl SC rfl (y_ex rfl rfl) ?_
    refine a_all (rs := [10]) (by kernel_rfl) rfl ?_
    refine aa_cons rfl ?_ ?_
    ·
     refine l_st (u := .agg #[.slice A170 (((ApplyS d.state u).1.clock).length) c171, .slice A173 (((ApplyS d.state u).1.lives).length) c174, .slice A176 (((ApplyS d.state u).1.tallies).length) c177]) (i := 2) (cs' := #[.slice A170 (((ApplyS d.state u).1.clock).length) c171, .slice A173 (((ApplyS d.state u).1.lives).length) c174, .slice A176 (((ApplyS d.state u).1.tallies).length) c177]) S rfl rfl rfl SZ27 rfl rfl rfl fun w179 S => ?_
     refine l_nil ?_
     have SC := ((S.tk 2 1 rfl rfl).weak sup127 L158)
     refine n_lp (ak SC ?_)
     refine a_tk (v := ni ((ApplyS d.state u).2)) 11 rfl rfl SC rfl (y_as rfl) ?_
     refine a_done (by kernel_rfl) ?_
     clear SC
     refine n_lp ⟨_, fr_keep (m := [(0, pa g 0), (3, pa g7 0), (4, ni 0), (5, pa g154 0), (6, ni ((ApplyS d.state u).2))]) ⟨⟨rfl, rfl⟩, ⟨rfl, rfl⟩, ⟨rfl, rfl⟩, ⟨rfl, rfl⟩, ⟨rfl, rfl⟩, trivial⟩, g154, A170, c171, A173, c174, A176, c177, _, _, rfl, (S.tk 3 1 rfl rfl).rw' rfl rfl, (Rd.le_trans (Rd.le_refl rd) L158), h165, h167, h169⟩
    exact aa_nil
   exact aa_nil
  exact aa_nil
 rintro ov183 w182 ⟨g151, A142, c143, A145, c146, A148, c149, rd180, junk, rfl, S, L181, h137, h139, h141⟩
 replace f1 := fm f1 L181
 replace f2 := fm f2 L181
 replace f3 := fm f3 L181
 replace h3 := fm h3 L181
 replace OL := rm OL L181
 refine e_seq ?_
 refine e_seq ?_
 refine e_reg ?_
 refine l_y (v := ni ((ApplyS d.state u).2)) S (y_mv rfl) ?_
 by_cases hA : (ApplyS d.state u).2 = 0
 ·
  refine l_y (v := .bool false) S (y_neF rfl rfl hA) ?_
  refine l_nil ?_
  refine n_seq ?_
  refine e_cF rfl ?_
  refine e_skip ?_
  refine n_seq ?_
  refine e_cut (J := fun ov w => ∃ (A202 : Option Addr), ∃ (c203 : Nat), ∃ (g198 : Nat), ∃ (A195 : Option Addr), ∃ (c196 : Nat), ∃ rd' junk, ov = [(4, ni 0)] ++ junk ∧ St X W rd rd' [(g, 31, #[ni d.self, .slice A142 (((ApplyS d.state u).1.clock).length) c143, .slice A145 (((ApplyS d.state u).1.lives).length) c146, .slice A148 (((ApplyS d.state u).1.tallies).length) c149, Bv, .slice A202 (d.log.length + 1) c203, Kv]), (g7, 42, #[ni u.author, .slice A4 u.seen.length c5, ni u.kind, ni u.key, ni u.item]), (g151, 27, #[.slice A142 (((ApplyS d.state u).1.clock).length) c143, .slice A145 (((ApplyS d.state u).1.lives).length) c146, .slice A148 (((ApplyS d.state u).1.tallies).length) c149]), (g198, 42, #[ni u.author, .slice A195 u.seen.length c196, ni u.kind, ni u.key, ni u.item])] [⟨42, 5, .slice A202 (d.log.length + 1) c203, d.log.length + 1, xsL ++ [ni u.author, .slice A195 u.seen.length c196, ni u.kind, ni u.key, ni u.item]⟩] w ∧ Rd.le rd180 rd' ∧ SliceR 1 IntR rd' (.slice A195 u.seen.length c196) u.seen ∧ RowR 5 UpdR rd' (xsL ++ [ni u.author, .slice A195 u.seen.length c196, ni u.kind, ni u.key, ni u.item]) (d.log ++ [u])) ?_ ?_
  ·
   refine e_a (fun w => St X W rd rd180 [(g7, 42, #[ni u.author, .slice A4 u.seen.length c5, ni u.kind, ni u.key, ni u.item]), (g151, 27, #[.slice A142 (((ApplyS d.state u).1.clock).length) c143, .slice A145 (((ApplyS d.state u).1.lives).length) c146, .slice A148 (((ApplyS d.state u).1.tallies).length) c149])] [] w) MX rfl ?_
   have S := S.drew; have sup184 := S.sup
   have SC := ((S.tk 3 0 rfl rfl).del 0)
   refine a_tk (v := pa g 0) 0 rfl rfl SC rfl (y_mv rfl) ?_
   refine a_tk (v := pa g 0) 1 rfl rfl SC rfl (y_mv rfl) ?_
   refine a_tk (v := .agg #[.slice A142 (((ApplyS d.state u).1.clock).length) c143, .slice A145 (((ApplyS d.state u).1.lives).length) c146, .slice A148 (((ApplyS d.state u).1.tallies).length) c149]) 2 rfl rfl SC rfl (y_ld rfl (fun w S => ld_bA (vs := [.slice A142 (((ApplyS d.state u).1.clock).length) c143, .slice A145 (((ApplyS d.state u).1.lives).length) c146, .slice A148 (((ApplyS d.state u).1.tallies).length) c149]) (i := 1) S rfl T27 rfl rfl)) ?_
   refine a_tk (v := pa g 0) 3 rfl rfl SC rfl (y_mv rfl) ?_
   refine a_tk (v := pa g 0) 4 rfl rfl SC rfl (y_nc rfl) ?_
   refine a_tk (v := pa g 5) 5 rfl rfl SC rfl (y_fb FA31_3 rfl rfl) ?_
   refine a_tk (v := .agg #[ni u.author, .slice A4 u.seen.length c5, ni u.kind, ni u.key, ni u.item]) 7 rfl rfl SC rfl (y_ld rfl (fun w S => ld_bA (vs := [ni u.author, .slice A4 u.seen.length c5, ni u.kind, ni u.key, ni u.item]) (i := 0) S rfl T42 rfl rfl)) ?_
   refine a_all (rs := [6, 8]) (by kernel_rfl) rfl ?_
   refine aa_cons rfl ?_ ?_
   ·
    refine l_y (v := .slice AL d.log.length cL) S (y_ld rfl (fun w S => ld_b1 (i := 0) S rfl rfl T28)) ?_
    refine l_nil ?_
    have SC := ((S.tk 3 0 rfl rfl).del 0)
    refine n_lp (ak SC ?_)
    refine a_all (rs := [8]) (by kernel_rfl) rfl ?_
    refine aa_cons rfl ?_ ?_
    ·
     refine l_c (en_f (vs := [.agg #[ni u.author, .slice A4 u.seen.length c5, ni u.kind, ni u.key, ni u.item]]) (CF 77 _) rfl rfl) (UOwn_m _ _ S.le _ u (⟨_, rfl, ⟨_, rfl, h3⟩⟩ : AggR UpdR rd180 _ u) (by have hru := (ApplyS_ok hA).2.1.r.len; omega)) ?_
     rintro e w185 ⟨v190, rfl, h191, k⟩
     obtain ⟨rd186, S, L187, N188, X189⟩ := S.call' k; clear k
     replace f1 := fm f1 L187
     replace f2 := fm f2 L187
     replace f3 := fm f3 L187
     replace h3 := fm h3 L187
     replace OL := rm OL L187
     replace h137 := fm h137 L187
     replace h139 := fm h139 L187
     replace h141 := fm h141 L187
     replace h191 := am h191 X189
     obtain ⟨cs192, h191v, h191⟩ := h191; subst h191v
     obtain ⟨sv193, h191e, h194⟩ := h191; subst h191e
     obtain ⟨A195, c196, rfl, m197, m197'⟩ := h194.val
     refine ckd ?_
     refine l_nil ?_
     have SC := (((S.tk 3 0 rfl rfl).del 0).weak sup184 L187)
     refine n_lp (ak SC ?_)
     refine a_all (rs := [9]) (by kernel_rfl) rfl ?_
     refine aa_cons rfl ?_ ?_
     ·
      refine l_bs (ps := [(0, .agg #[ni u.author, .slice A195 u.seen.length c196, ni u.kind, ni u.key, ni u.item])]) (cs := #[ni u.author, .slice A195 u.seen.length c196, ni u.kind, ni u.key, ni u.item]) S U28 SZ42 Z42 rfl rfl rfl (by kernel_rfl) fun g198 w199 S => ?_
      refine l_nil ?_
      have SC := (((S.tk 3 0 rfl rfl).del 0).weak sup184 L187)
      refine n_lp (ak SC ?_)
      refine a_all (rs := [10]) (by kernel_rfl) rfl ?_
      refine aa_cons rfl ?_ ?_
      ·
       refine l_ap (e' := 0) (i := 0) (i' := 3) S K28 rfl rfl rfl rfl rfl rfl rfl (by simp only [maxLen]; omega) (by first | omega | (dsimp only; omega)) fun v200 w201 S => ?_
       have OL := RowR.push (x := u) (cs := [ni u.author, .slice A195 u.seen.length c196, ni u.kind, ni u.key, ni u.item]) OL rfl ⟨_, rfl, h194⟩
       obtain ⟨A202, c203, m204e, m204, m204'⟩ : ∃ A c, v200 = .slice A (d.log.length + 1) c ∧ (d.log.length + 1) ≤ c ∧ c ≤ maxLen := own_len S (i := 0) rfl; subst m204e
       refine l_nil ?_
       have SC := (((S.tk 3 0 rfl rfl).del 0).weak sup184 L187)
       refine n_lp (ak SC ?_)
       refine a_tk (v := pa g 0) 11 rfl rfl SC rfl (y_nc rfl) ?_
       refine a_tk (v := pa g 1) 12 rfl rfl SC rfl (y_fb FA31_1 rfl rfl) ?_
       refine a_all (rs := [13]) (by kernel_rfl) rfl ?_
       refine aa_cons rfl ?_ ?_
       ·
        refine l_st (u := .agg #[.slice A142 (((ApplyS d.state u).1.clock).length) c143, .slice A145 (((ApplyS d.state u).1.lives).length) c146, .slice A148 (((ApplyS d.state u).1.tallies).length) c149]) (i := 0) (cs' := #[ni d.self, .slice A142 (((ApplyS d.state u).1.clock).length) c143, .slice A145 (((ApplyS d.state u).1.lives).length) c146, .slice A148 (((ApplyS d.state u).1.tallies).length) c149, Bv, .slice AL d.log.length cL, Kv]) S rfl rfl rfl SZ27 rfl rfl rfl fun w205 S => ?_
        refine l_nil ?_
        have SC := (((S.tk 3 0 rfl rfl).del 0).weak sup184 L187)
        refine n_lp (ak SC ?_)
        refine a_tk (v := pa g 0) 14 rfl rfl SC rfl (y_nc rfl) ?_
        refine a_tk (v := pa g 5) 15 rfl rfl SC rfl (y_fb FA31_3 rfl rfl) ?_
        refine a_all (rs := [16]) (by kernel_rfl) rfl ?_
        refine aa_cons rfl ?_ ?_
        ·
         refine l_st (u := .slice A202 (d.log.length + 1) c203) (i := 0) (cs' := #[ni d.self, .slice A142 (((ApplyS d.state u).1.clock).length) c143, .slice A145 (((ApplyS d.state u).1.lives).length) c146, .slice A148 (((ApplyS d.state u).1.tallies).length) c149, Bv, .slice A202 (d.log.length + 1) c203, Kv]) S rfl rfl rfl SZ28 rfl rfl rfl fun w206 S => ?_
         refine l_nil ?_
         have SC := (((S.tk 3 0 rfl rfl).del 0).weak sup184 L187)
         refine n_lp (ak SC ?_)
         refine a_done (by kernel_rfl) ?_
         clear SC
         refine n_lp ⟨_, fr_keep (m := [(4, ni 0)]) ⟨⟨rfl, rfl⟩, trivial⟩, A202, c203, g198, A195, c196, _, _, rfl, (S.tk 4 1 rfl rfl).rw' rfl rfl, (Rd.le_trans (Rd.le_refl rd180) L187), h194, OL⟩
        exact aa_nil
       exact aa_nil
      exact aa_nil
     exact aa_nil
    exact aa_nil
   refine aa_cons rfl ?_ ?_
   ·
    refine l_c (en_f (vs := [.agg #[ni u.author, .slice A4 u.seen.length c5, ni u.kind, ni u.key, ni u.item]]) (CF 77 _) rfl rfl) (UOwn_m _ _ S.le _ u (⟨_, rfl, ⟨_, rfl, h3⟩⟩ : AggR UpdR rd180 _ u) (by have hru := (ApplyS_ok hA).2.1.r.len; omega)) ?_
    rintro e w207 ⟨v212, rfl, h213, k⟩
    obtain ⟨rd208, S, L209, N210, X211⟩ := S.call' k; clear k
    replace f1 := fm f1 L209
    replace f2 := fm f2 L209
    replace f3 := fm f3 L209
    replace h3 := fm h3 L209
    replace OL := rm OL L209
    replace h137 := fm h137 L209
    replace h139 := fm h139 L209
    replace h141 := fm h141 L209
    replace h213 := am h213 X211
    obtain ⟨cs214, h213v, h213⟩ := h213; subst h213v
    obtain ⟨sv215, h213e, h216⟩ := h213; subst h213e
    obtain ⟨A217, c218, rfl, m219, m219'⟩ := h216.val
    refine ckd ?_
    refine l_nil ?_
    have SC := (((S.tk 3 0 rfl rfl).del 0).weak sup184 L209)
    refine n_lp (ak SC ?_)
    refine a_all (rs := [6, 9]) (by kernel_rfl) rfl ?_
    refine aa_cons rfl ?_ ?_
    ·
     refine l_y (v := .slice AL d.log.length cL) S (y_ld rfl (fun w S => ld_b1 (i := 0) S rfl rfl T28)) ?_
     refine l_nil ?_
     have SC := (((S.tk 3 0 rfl rfl).del 0).weak sup184 L209)
     refine n_lp (ak SC ?_)
     refine a_all (rs := [9]) (by kernel_rfl) rfl ?_
     refine aa_cons rfl ?_ ?_
     ·
      refine l_bs (ps := [(0, .agg #[ni u.author, .slice A217 u.seen.length c218, ni u.kind, ni u.key, ni u.item])]) (cs := #[ni u.author, .slice A217 u.seen.length c218, ni u.kind, ni u.key, ni u.item]) S U28 SZ42 Z42 rfl rfl rfl (by kernel_rfl) fun g220 w221 S => ?_
      refine l_nil ?_
      have SC := (((S.tk 3 0 rfl rfl).del 0).weak sup184 L209)
      refine n_lp (ak SC ?_)
      refine a_all (rs := [10]) (by kernel_rfl) rfl ?_
      refine aa_cons rfl ?_ ?_
      ·
       refine l_ap (e' := 0) (i := 0) (i' := 3) S K28 rfl rfl rfl rfl rfl rfl rfl (by simp only [maxLen]; omega) (by first | omega | (dsimp only; omega)) fun v222 w223 S => ?_
       have OL := RowR.push (x := u) (cs := [ni u.author, .slice A217 u.seen.length c218, ni u.kind, ni u.key, ni u.item]) OL rfl ⟨_, rfl, h216⟩
       obtain ⟨A224, c225, m226e, m226, m226'⟩ : ∃ A c, v222 = .slice A (d.log.length + 1) c ∧ (d.log.length + 1) ≤ c ∧ c ≤ maxLen := own_len S (i := 0) rfl; subst m226e
       refine l_nil ?_
       have SC := (((S.tk 3 0 rfl rfl).del 0).weak sup184 L209)
       refine n_lp (ak SC ?_)
       refine a_tk (v := pa g 0) 11 rfl rfl SC rfl (y_nc rfl) ?_
       refine a_tk (v := pa g 1) 12 rfl rfl SC rfl (y_fb FA31_1 rfl rfl) ?_
       refine a_all (rs := [13]) (by kernel_rfl) rfl ?_
       refine aa_cons rfl ?_ ?_
       ·
        refine l_st (u := .agg #[.slice A142 (((ApplyS d.state u).1.clock).length) c143, .slice A145 (((ApplyS d.state u).1.lives).length) c146, .slice A148 (((ApplyS d.state u).1.tallies).length) c149]) (i := 0) (cs' := #[ni d.self, .slice A142 (((ApplyS d.state u).1.clock).length) c143, .slice A145 (((ApplyS d.state u).1.lives).length) c146, .slice A148 (((ApplyS d.state u).1.tallies).length) c149, Bv, .slice AL d.log.length cL, Kv]) S rfl rfl rfl SZ27 rfl rfl rfl fun w227 S => ?_
        refine l_nil ?_
        have SC := (((S.tk 3 0 rfl rfl).del 0).weak sup184 L209)
        refine n_lp (ak SC ?_)
        refine a_tk (v := pa g 0) 14 rfl rfl SC rfl (y_nc rfl) ?_
        refine a_tk (v := pa g 5) 15 rfl rfl SC rfl (y_fb FA31_3 rfl rfl) ?_
        refine a_all (rs := [16]) (by kernel_rfl) rfl ?_
        refine aa_cons rfl ?_ ?_
        ·
         refine l_st (u := .slice A224 (d.log.length + 1) c225) (i := 0) (cs' := #[ni d.self, .slice A142 (((ApplyS d.state u).1.clock).length) c143, .slice A145 (((ApplyS d.state u).1.lives).length) c146, .slice A148 (((ApplyS d.state u).1.tallies).length) c149, Bv, .slice A224 (d.log.length + 1) c225, Kv]) S rfl rfl rfl SZ28 rfl rfl rfl fun w228 S => ?_
         refine l_nil ?_
         have SC := (((S.tk 3 0 rfl rfl).del 0).weak sup184 L209)
         refine n_lp (ak SC ?_)
         refine a_done (by kernel_rfl) ?_
         clear SC
         refine n_lp ⟨_, fr_keep (m := [(4, ni 0)]) ⟨⟨rfl, rfl⟩, trivial⟩, A224, c225, g220, A217, c218, _, _, rfl, (S.tk 4 1 rfl rfl).rw' rfl rfl, (Rd.le_trans (Rd.le_refl rd180) L209), h216, OL⟩
        exact aa_nil
       exact aa_nil
      exact aa_nil
     exact aa_nil
    refine aa_cons rfl ?_ ?_
    ·
     refine l_bs (ps := [(0, .agg #[ni u.author, .slice A217 u.seen.length c218, ni u.kind, ni u.key, ni u.item])]) (cs := #[ni u.author, .slice A217 u.seen.length c218, ni u.kind, ni u.key, ni u.item]) S U28 SZ42 Z42 rfl rfl rfl (by kernel_rfl) fun g229 w230 S => ?_
     refine l_nil ?_
     have SC := (((S.tk 3 0 rfl rfl).del 0).weak sup184 L209)
     refine n_lp (ak SC ?_)
     refine a_all (rs := [6]) (by kernel_rfl) rfl ?_
     refine aa_cons rfl ?_ ?_
     ·
      refine l_y (v := .slice AL d.log.length cL) S (y_ld rfl (fun w S => ld_b1 (i := 0) S rfl rfl T28)) ?_
      refine l_nil ?_
      have SC := (((S.tk 3 0 rfl rfl).del 0).weak sup184 L209)
      refine n_lp (ak SC ?_)
      refine a_all (rs := [10]) (by kernel_rfl) rfl ?_
      refine aa_cons rfl ?_ ?_
      ·
       refine l_ap (e' := 0) (i := 0) (i' := 3) S K28 rfl rfl rfl rfl rfl rfl rfl (by simp only [maxLen]; omega) (by first | omega | (dsimp only; omega)) fun v231 w232 S => ?_
       have OL := RowR.push (x := u) (cs := [ni u.author, .slice A217 u.seen.length c218, ni u.kind, ni u.key, ni u.item]) OL rfl ⟨_, rfl, h216⟩
       obtain ⟨A233, c234, m235e, m235, m235'⟩ : ∃ A c, v231 = .slice A (d.log.length + 1) c ∧ (d.log.length + 1) ≤ c ∧ c ≤ maxLen := own_len S (i := 0) rfl; subst m235e
       refine l_nil ?_
       have SC := (((S.tk 3 0 rfl rfl).del 0).weak sup184 L209)
       refine n_lp (ak SC ?_)
       refine a_tk (v := pa g 0) 11 rfl rfl SC rfl (y_nc rfl) ?_
       refine a_tk (v := pa g 1) 12 rfl rfl SC rfl (y_fb FA31_1 rfl rfl) ?_
       refine a_all (rs := [13]) (by kernel_rfl) rfl ?_
       refine aa_cons rfl ?_ ?_
       ·
        refine l_st (u := .agg #[.slice A142 (((ApplyS d.state u).1.clock).length) c143, .slice A145 (((ApplyS d.state u).1.lives).length) c146, .slice A148 (((ApplyS d.state u).1.tallies).length) c149]) (i := 0) (cs' := #[ni d.self, .slice A142 (((ApplyS d.state u).1.clock).length) c143, .slice A145 (((ApplyS d.state u).1.lives).length) c146, .slice A148 (((ApplyS d.state u).1.tallies).length) c149, Bv, .slice AL d.log.length cL, Kv]) S rfl rfl rfl SZ27 rfl rfl rfl fun w236 S => ?_
        refine l_nil ?_
        have SC := (((S.tk 3 0 rfl rfl).del 0).weak sup184 L209)
        refine n_lp (ak SC ?_)
        refine a_tk (v := pa g 0) 14 rfl rfl SC rfl (y_nc rfl) ?_
        refine a_tk (v := pa g 5) 15 rfl rfl SC rfl (y_fb FA31_3 rfl rfl) ?_
        refine a_all (rs := [16]) (by kernel_rfl) rfl ?_
        refine aa_cons rfl ?_ ?_
        ·
         refine l_st (u := .slice A233 (d.log.length + 1) c234) (i := 0) (cs' := #[ni d.self, .slice A142 (((ApplyS d.state u).1.clock).length) c143, .slice A145 (((ApplyS d.state u).1.lives).length) c146, .slice A148 (((ApplyS d.state u).1.tallies).length) c149, Bv, .slice A233 (d.log.length + 1) c234, Kv]) S rfl rfl rfl SZ28 rfl rfl rfl fun w237 S => ?_
         refine l_nil ?_
         have SC := (((S.tk 3 0 rfl rfl).del 0).weak sup184 L209)
         refine n_lp (ak SC ?_)
         refine a_done (by kernel_rfl) ?_
         clear SC
         refine n_lp ⟨_, fr_keep (m := [(4, ni 0)]) ⟨⟨rfl, rfl⟩, trivial⟩, A233, c234, g229, A217, c218, _, _, rfl, (S.tk 4 1 rfl rfl).rw' rfl rfl, (Rd.le_trans (Rd.le_refl rd180) L209), h216, OL⟩
        exact aa_nil
       exact aa_nil
      exact aa_nil
     exact aa_nil
    exact aa_nil
   exact aa_nil
  rintro ov241 w240 ⟨A202, c203, g198, A195, c196, rd238, junk, rfl, S, L239, h194, OL⟩
  replace h3 := fm h3 L239
  replace h137 := fm h137 L239
  replace h139 := fm h139 L239
  replace h141 := fm h141 L239
  refine e_seq ?_
  refine e_reg ?_
  refine l_y (v := ni 0) S (y_as rfl) ?_
  refine l_nil ?_
  refine n_seq ?_
  refine e_ret ?_
  refine ret1 (v := ni 0) rfl rfl ?_
  have hno : ¬ (wrongU u (d.state.clock.length : Int) = 0 ∧ hasC d.state.clock u.author (seqU u) = true) := fun q => hU q.1
  have es : takeN d u = (⟨d.self, (ApplyS d.state u).1, d.base, d.log ++ [u], d.known⟩, 0) := by unfold takeN nOf lenI; rw [if_neg hno, if_neg (by omega), if_neg (fun q => q hA)]
  rw [es]
  dsimp only
  rw [show (d.log ++ [u]).length = d.log.length + 1 from by simp]
  exact ⟨_, _, _, _, _, _, _, _, _, _, rfl, (S.tk 1 1 rfl rfl).rw' rfl rfl, h137, h139, h141, OL⟩
 refine l_y (v := .bool true) S (y_neT rfl rfl hA) ?_
 refine l_nil ?_
 refine n_seq ?_
 refine e_cT rfl ?_
 refine e_seq ?_
 refine e_reg ?_
 refine l_y (v := ni ((ApplyS d.state u).2)) S (y_mv rfl) ?_
 refine l_y (v := ni ((ApplyS d.state u).2)) S (y_as rfl) ?_
 refine l_nil ?_
 refine n_seq ?_
 refine e_ret ?_
 refine ret1 (v := ni ((ApplyS d.state u).2)) rfl rfl ?_
 have hno : ¬ (wrongU u (d.state.clock.length : Int) = 0 ∧ hasC d.state.clock u.author (seqU u) = true) := fun q => hU q.1
 have es : takeN d u = (d, (ApplyS d.state u).2) := by unfold takeN nOf lenI; rw [if_neg hno, if_neg (by omega), if_pos hA]
 rw [es]
 exact ⟨_, _, _, _, _, _, _, _, _, _, rfl, (S.tk 1 1 rfl rfl).rw' rfl rfl, f1, f2, f3, OL⟩

set_option maxRecDepth 100000 in
set_option maxHeartbeats 16000000 in
theorem NTake_c (rd : Rd) (W : World) (hle : Rd.le rd (wrd W)) (v v2 : Value) (d : Node) (from_ : Int) (p : Parcel) (h : AggR NodeR rd v d) (h2 : AggR ParcelR rd v2 p) :
    Calls Tryz.prog 14 #[v, (.int .i64 from_), v2] W (fun e w' => ∃ v', e = .returned (.tuple #[v', .int .i64 (TakeN d from_ p).2]) ∧ AggR NodeR (ext rd W w') v' (TakeN d from_ p).1 ∧ Below W.heap.size W w') := by
 obtain ⟨vs1, he, h⟩ := h; subst he
 obtain ⟨sv2, sv4, sv6, sv8, sv10, sv12, he, h3, h5, h7, h9, h11, h13⟩ := h; subst he
 obtain ⟨A14, c15, rfl, m16, m16'⟩ := h3.val
 obtain ⟨A17, c18, rfl, m19, m19'⟩ := h5.val
 obtain ⟨A20, c21, rfl, m22, m22'⟩ := h7.val
 obtain ⟨A23, c24, rfl, m25, m25'⟩ := h9.val
 obtain ⟨A26, c27, rfl, m28, m28'⟩ := h11.val
 obtain ⟨A29, c30, rfl, m31, m31'⟩ := h13.val
 obtain ⟨vs32, h2e, h2⟩ := h2; subst h2e
 obtain ⟨sv33, sv35, sv37, sv39, sv41, h2e, h34, h36, h38, h40, h42⟩ := h2; subst h2e
 obtain ⟨A43, c44, rfl, m45, m45'⟩ := h34.val
 obtain ⟨A46, c47, rfl, m48, m48'⟩ := h36.val
 obtain ⟨A49, c50, rfl, m51, m51'⟩ := h38.val
 obtain ⟨A52, c53, rfl, m54, m54'⟩ := h40.val
 obtain ⟨A55, c56, rfl, m57, m57'⟩ := h42.val
 have hmx : maxLen = 9223372036854775807 := rfl
 have S : St [] W rd rd [] [] W := St.start hle
 refine e_enter (args := [.agg #[ni d.self, .slice A14 d.state.clock.length c15, .slice A17 d.state.lives.length c18, .slice A20 d.state.tallies.length c21, .slice A23 d.base.length c24, .slice A26 d.log.length c27, .slice A29 d.known.length c30], ni from_, .agg #[.bool p.whole, .slice A43 p.state.clock.length c44, .slice A46 p.state.lives.length c47, .slice A49 p.state.tallies.length c50, .slice A52 p.updates.length c53, .slice A55 p.clock.length c56]]) 122 Tryz.func14 rfl rfl rfl ?_
 refine e_seq ?_
 refine e_reg ?_
 refine l_bx (u := .agg #[ni d.self, .slice A14 d.state.clock.length c15, .slice A17 d.state.lives.length c18, .slice A20 d.state.tallies.length c21, .slice A23 d.base.length c24, .slice A26 d.log.length c27, .slice A29 d.known.length c30]) (cs := #[ni d.self, .slice A14 d.state.clock.length c15, .slice A17 d.state.lives.length c18, .slice A20 d.state.tallies.length c21, .slice A23 d.base.length c24, .slice A26 d.log.length c27, .slice A29 d.known.length c30]) S rfl rfl fun g58 w59 S => ?_
 refine l_bx (u := .agg #[.bool p.whole, .slice A43 p.state.clock.length c44, .slice A46 p.state.lives.length c47, .slice A49 p.state.tallies.length c50, .slice A52 p.updates.length c53, .slice A55 p.clock.length c56]) (cs := #[.bool p.whole, .slice A43 p.state.clock.length c44, .slice A46 p.state.lives.length c47, .slice A49 p.state.tallies.length c50, .slice A52 p.updates.length c53, .slice A55 p.clock.length c56]) S rfl rfl fun g60 w61 S => ?_
 refine l_al (cs := #[ni 0, .slice none 0 0, .slice none 0 0, .slice none 0 0, .slice none 0 0, .slice none 0 0, .slice none 0 0]) S Z31 rfl fun g62 w63 S => ?_
 refine l_y (v := ni 0) S (y_as rfl) ?_
 refine l_nil ?_
 refine n_seq ?_
 refine e_seq ?_
 refine e_seq ?_
 refine e_reg ?_
 refine l_y (v := .agg #[ni d.self, .slice A14 d.state.clock.length c15, .slice A17 d.state.lives.length c18, .slice A20 d.state.tallies.length c21, .slice A23 d.base.length c24, .slice A26 d.log.length c27, .slice A29 d.known.length c30]) S (y_ld rfl (fun w S => ld_bA (vs := [ni d.self, .slice A14 d.state.clock.length c15, .slice A17 d.state.lives.length c18, .slice A20 d.state.tallies.length c21, .slice A23 d.base.length c24, .slice A26 d.log.length c27, .slice A29 d.known.length c30]) (i := 0) S rfl T31 rfl rfl)) ?_
 refine l_c (en_f (vs := [.agg #[ni d.self, .slice A14 d.state.clock.length c15, .slice A17 d.state.lives.length c18, .slice A20 d.state.tallies.length c21, .slice A23 d.base.length c24, .slice A26 d.log.length c27, .slice A29 d.known.length c30]]) (CF 19 _) rfl rfl) (NWrong_c _ _ S.le _ d (⟨_, rfl, ⟨_, _, _, _, _, _, rfl, h3, h5, h7, h9, h11, h13⟩⟩ : AggR NodeR rd _ d)) ?_
 rintro e w65 ⟨rfl, k⟩
 have S := S.callq k; clear k
 refine ckd ?_
 refine l_y (v := ni (wrongN d)) S (y_as rfl) ?_
 refine l_nil ?_
 refine n_seq ?_
 refine e_seq ?_
 refine e_reg ?_
 refine l_y (v := ni (wrongN d)) S (y_mv rfl) ?_
 by_cases hW : wrongN d = 0
 ·
  refine l_y (v := .bool false) S (y_neF rfl rfl hW) ?_
  refine l_nil ?_
  refine n_seq ?_
  refine e_cF rfl ?_
  refine e_skip ?_
  refine n_seq ?_
  refine e_seq ?_
  refine e_reg ?_
  have hr := wrongN_iff.1 hW
  have hrl := hr.len
  obtain ⟨n, hn⟩ : ∃ n, n = nOf d := ⟨_, rfl⟩
  rw [← hn] at hr hrl
  have hl3 := hr.l
  have hkl := hr.k
  have hs0 := hr.a0
  have hs1 := hr.a1
  refine l_y (v := pa g58 6) S (y_fb FA31_4 rfl rfl) ?_
  refine l_y (v := .slice A29 d.known.length c30) S (y_ld rfl (fun w S => ld_b1 (i := 0) S rfl rfl T29)) ?_
  refine l_y (v := ni (d.known.length : Int)) S (y_len U29 rfl rfl) ?_
  refine l_y (v := ni (d.known.length : Int)) S (y_as rfl) ?_
  refine l_nil ?_
  refine n_seq ?_
  refine e_seq ?_
  refine e_seq ?_
  refine e_reg ?_
  refine l_y (v := ni from_) S (y_mv rfl) ?_
  by_cases hf0 : from_ < 0
  ·
   refine l_y (v := .bool true) S (y_ltT rfl rfl hf0) ?_
   refine l_y (v := .bool true) S (y_mv rfl) ?_
   refine l_s (d' := 28) rfl rfl ?_
   refine l_s (d' := 28) rfl rfl ?_
   refine l_s (d' := 28) rfl rfl ?_
   refine l_y (v := .bool true) S (y_pT rfl rfl) ?_
   refine l_nil ?_
   refine n_seq ?_
   refine e_cT rfl ?_
   refine e_seq ?_
   refine e_reg ?_
   refine l_y (v := .agg #[ni 0, .slice none 0 0, .slice none 0 0, .slice none 0 0, .slice none 0 0, .slice none 0 0, .slice none 0 0]) S (y_bd (ps := []) rfl (fun _ => by kernel_rfl)) ?_
   refine l_st (u := .agg #[ni 0, .slice none 0 0, .slice none 0 0, .slice none 0 0, .slice none 0 0, .slice none 0 0, .slice none 0 0]) (i := 2) (cs' := #[ni 0, .slice none 0 0, .slice none 0 0, .slice none 0 0, .slice none 0 0, .slice none 0 0, .slice none 0 0]) S rfl rfl rfl SZ31 rfl rfl rfl fun w66 S => ?_
   refine l_y (v := ni 6) S (y_as rfl) ?_
   refine l_nil ?_
   refine n_seq ?_
   refine e_ret ?_
   refine ret2 (v := .agg #[ni 0, .slice none 0 0, .slice none 0 0, .slice none 0 0, .slice none 0 0, .slice none 0 0, .slice none 0 0]) (v' := ni 6) rfl ⟨_, rfl, ld_bA (i := 2) (vs := [ni 0, .slice none 0 0, .slice none 0 0, .slice none 0 0, .slice none 0 0, .slice none 0 0, .slice none 0 0]) S rfl T31 rfl rfl⟩ rfl ?_
   have es : TakeN d from_ p = ((⟨0, ⟨[], [], []⟩, [], [], []⟩ : Node), 6) := by unfold TakeN lenI; rw [if_neg (fun q => q hW), if_pos (by omega)] <;> rfl
   rw [es]
   exact ⟨_, rfl, ⟨_, rfl, ⟨_, _, _, _, _, _, rfl, (SliceR.nil_ _), (SliceR.nil_ _), (SliceR.nil_ _), (SliceR.nil_ _), (SliceR.nil_ _), (SliceR.nil_ _)⟩⟩, S.below⟩
  refine l_y (v := .bool false) S (y_ltF rfl rfl hf0) ?_
  refine l_y (v := .bool false) S (y_mv rfl) ?_
  refine l_g (d' := 28) (v := ni from_) S (y_mv rfl) rfl rfl ?_
  refine l_g (d' := 28) (v := ni (d.known.length : Int)) S (y_mv rfl) rfl rfl ?_
  by_cases hf1 : (d.known.length : Int) ≤ from_
  ·
   refine l_g (d' := 28) (v := .bool true) S (y_geT rfl rfl hf1) rfl rfl ?_
   refine l_y (v := .bool true) S (y_pF rfl rfl) ?_
   refine l_nil ?_
   refine n_seq ?_
   refine e_cT rfl ?_
   refine e_seq ?_
   refine e_reg ?_
   refine l_y (v := .agg #[ni 0, .slice none 0 0, .slice none 0 0, .slice none 0 0, .slice none 0 0, .slice none 0 0, .slice none 0 0]) S (y_bd (ps := []) rfl (fun _ => by kernel_rfl)) ?_
   refine l_st (u := .agg #[ni 0, .slice none 0 0, .slice none 0 0, .slice none 0 0, .slice none 0 0, .slice none 0 0, .slice none 0 0]) (i := 2) (cs' := #[ni 0, .slice none 0 0, .slice none 0 0, .slice none 0 0, .slice none 0 0, .slice none 0 0, .slice none 0 0]) S rfl rfl rfl SZ31 rfl rfl rfl fun w67 S => ?_
   refine l_y (v := ni 6) S (y_as rfl) ?_
   refine l_nil ?_
   refine n_seq ?_
   refine e_ret ?_
   refine ret2 (v := .agg #[ni 0, .slice none 0 0, .slice none 0 0, .slice none 0 0, .slice none 0 0, .slice none 0 0, .slice none 0 0]) (v' := ni 6) rfl ⟨_, rfl, ld_bA (i := 2) (vs := [ni 0, .slice none 0 0, .slice none 0 0, .slice none 0 0, .slice none 0 0, .slice none 0 0, .slice none 0 0]) S rfl T31 rfl rfl⟩ rfl ?_
   have es : TakeN d from_ p = ((⟨0, ⟨[], [], []⟩, [], [], []⟩ : Node), 6) := by unfold TakeN lenI; rw [if_neg (fun q => q hW), if_pos (by omega)] <;> rfl
   rw [es]
   exact ⟨_, rfl, ⟨_, rfl, ⟨_, _, _, _, _, _, rfl, (SliceR.nil_ _), (SliceR.nil_ _), (SliceR.nil_ _), (SliceR.nil_ _), (SliceR.nil_ _), (SliceR.nil_ _)⟩⟩, S.below⟩
  refine l_g (d' := 28) (v := .bool false) S (y_geF rfl rfl hf1) rfl rfl ?_
  refine l_y (v := .bool false) S (y_pF rfl rfl) ?_
  refine l_nil ?_
  refine n_seq ?_
  refine e_cF rfl ?_
  refine e_skip ?_
  refine n_seq ?_
  refine e_seq ?_
  refine e_seq ?_
  refine e_reg ?_
  refine l_y (v := ni from_) S (y_mv rfl) ?_
  refine l_y (v := pa g58 0) S (y_fb FA31_0 rfl rfl) ?_
  refine l_y (v := ni d.self) S (y_ld rfl (fun w S => ld_b1 (i := 0) S rfl rfl T3)) ?_
  by_cases hF : from_ = d.self
  ·
   refine l_y (v := .bool true) S (y_eqT rfl rfl hF) ?_
   refine l_nil ?_
   refine n_seq ?_
   refine e_cT rfl ?_
   refine e_seq ?_
   refine e_reg ?_
   refine l_y (v := .agg #[ni 0, .slice none 0 0, .slice none 0 0, .slice none 0 0, .slice none 0 0, .slice none 0 0, .slice none 0 0]) S (y_bd (ps := []) rfl (fun _ => by kernel_rfl)) ?_
   refine l_st (u := .agg #[ni 0, .slice none 0 0, .slice none 0 0, .slice none 0 0, .slice none 0 0, .slice none 0 0, .slice none 0 0]) (i := 2) (cs' := #[ni 0, .slice none 0 0, .slice none 0 0, .slice none 0 0, .slice none 0 0, .slice none 0 0, .slice none 0 0]) S rfl rfl rfl SZ31 rfl rfl rfl fun w68 S => ?_
   refine l_y (v := ni 7) S (y_as rfl) ?_
   refine l_nil ?_
   refine n_seq ?_
   refine e_ret ?_
   refine ret2 (v := .agg #[ni 0, .slice none 0 0, .slice none 0 0, .slice none 0 0, .slice none 0 0, .slice none 0 0, .slice none 0 0]) (v' := ni 7) rfl ⟨_, rfl, ld_bA (i := 2) (vs := [ni 0, .slice none 0 0, .slice none 0 0, .slice none 0 0, .slice none 0 0, .slice none 0 0, .slice none 0 0]) S rfl T31 rfl rfl⟩ rfl ?_
   have es : TakeN d from_ p = ((⟨0, ⟨[], [], []⟩, [], [], []⟩ : Node), 7) := by unfold TakeN lenI; rw [if_neg (fun q => q hW), if_neg (by omega), if_pos hF] <;> rfl
   rw [es]
   exact ⟨_, rfl, ⟨_, rfl, ⟨_, _, _, _, _, _, rfl, (SliceR.nil_ _), (SliceR.nil_ _), (SliceR.nil_ _), (SliceR.nil_ _), (SliceR.nil_ _), (SliceR.nil_ _)⟩⟩, S.below⟩
  refine l_y (v := .bool false) S (y_eqF rfl rfl hF) ?_
  refine l_nil ?_
  refine n_seq ?_
  refine e_cF rfl ?_
  refine e_skip ?_
  refine n_seq ?_
  refine e_seq ?_
  refine e_seq ?_
  refine e_reg ?_
  refine l_y (v := pa g60 5) S (y_fb FA33_3 rfl rfl) ?_
  refine l_y (v := .slice A55 p.clock.length c56) S (y_ld rfl (fun w S => ld_b1 (i := 1) S rfl rfl T23)) ?_
  refine l_y (v := ni (d.known.length : Int)) S (y_mv rfl) ?_
  refine l_c (en_f (vs := [.slice A55 p.clock.length c56, ni (d.known.length : Int)]) (CF 40 _) rfl rfl) (Wrong_calls _ _ _ _ (fm h42 S.le)) ?_
  rintro e w69 ⟨rfl, rfl⟩
  refine ckd ?_
  refine l_y (v := ni (wrongC p.clock (d.known.length : Int))) S (y_as rfl) ?_
  refine l_nil ?_
  refine n_seq ?_
  refine e_seq ?_
  refine e_reg ?_
  refine l_y (v := ni (wrongC p.clock (d.known.length : Int))) S (y_mv rfl) ?_
  by_cases hC : wrongC p.clock (d.known.length : Int) = 0
  ·
   refine l_y (v := .bool false) S (y_neF rfl rfl hC) ?_
   refine l_nil ?_
   refine n_seq ?_
   refine e_cF rfl ?_
   refine e_skip ?_
   refine n_seq ?_
   refine e_seq ?_
   refine e_reg ?_
   have hcl := wrongC_ok hC
   refine l_y (v := .agg #[ni d.self, .slice A14 d.state.clock.length c15, .slice A17 d.state.lives.length c18, .slice A20 d.state.tallies.length c21, .slice A23 d.base.length c24, .slice A26 d.log.length c27, .slice A29 d.known.length c30]) S (y_ld rfl (fun w S => ld_bA (vs := [ni d.self, .slice A14 d.state.clock.length c15, .slice A17 d.state.lives.length c18, .slice A20 d.state.tallies.length c21, .slice A23 d.base.length c24, .slice A26 d.log.length c27, .slice A29 d.known.length c30]) (i := 0) S rfl T31 rfl rfl)) ?_
   refine l_c (en_f (vs := [.agg #[ni d.self, .slice A14 d.state.clock.length c15, .slice A17 d.state.lives.length c18, .slice A20 d.state.tallies.length c21, .slice A23 d.base.length c24, .slice A26 d.log.length c27, .slice A29 d.known.length c30]]) (CF 41 _) rfl rfl) (NOwn_c _ _ S.le _ d _ (⟨_, rfl, ⟨_, _, _, _, _, _, rfl, h3, h5, h7, h9, h11, h13⟩⟩ : AggR NodeR rd _ d) hr) ?_
   rintro e w70 ⟨A73, c74, A75, c76, A77, c78, A79, c80, A81, c82, xs85, A83, c84, xs86, rd71, rfl, k, f87, f88, f89, f90, O91, O92⟩
   have L72 := k.sup; have S := S.comp0 k; clear k
   replace h3 := fm h3 L72
   replace h5 := fm h5 L72
   replace h7 := fm h7 L72
   replace h9 := fm h9 L72
   replace h11 := fm h11 L72
   replace h13 := fm h13 L72
   replace h34 := fm h34 L72
   replace h36 := fm h36 L72
   replace h38 := fm h38 L72
   replace h40 := fm h40 L72
   replace h42 := fm h42 L72
   refine ckd ?_
   obtain ⟨gK, rfl⟩ := own_atA S (i := 1) rfl rfl (show d.known.length ≠ 0 by omega)
   refine l_al (cs := #[ni 0, .slice none 0 0, .slice none 0 0, .slice none 0 0, .slice none 0 0, .slice none 0 0, .slice none 0 0]) S Z31 rfl fun g93 w94 S => ?_
   refine l_st (u := .agg #[ni d.self, .slice A73 d.state.clock.length c74, .slice A75 d.state.lives.length c76, .slice A77 d.state.tallies.length c78, .slice A79 d.base.length c80, .slice A81 d.log.length c82, .slice (some ⟨gK, 0, none⟩) d.known.length c84]) (i := 3) (cs' := #[ni d.self, .slice A73 d.state.clock.length c74, .slice A75 d.state.lives.length c76, .slice A77 d.state.tallies.length c78, .slice A79 d.base.length c80, .slice A81 d.log.length c82, .slice (some ⟨gK, 0, none⟩) d.known.length c84]) S rfl rfl rfl SZ31 rfl rfl rfl fun w95 S => ?_
   refine l_nil ?_
   refine n_seq ?_
   refine e_seq ?_
   refine e_seq ?_
   refine e_reg ?_
   refine l_y (v := pa g60 0) S (y_fb FA33_0 rfl rfl) ?_
   rcases Bool.eq_false_or_eq_true p.whole with hw | hw
   ·
    refine l_y (v := .bool true) S (y_bv (y_ld rfl (fun w S => ld_b1 (i := 1) S rfl rfl T4)) hw) ?_
    refine l_nil ?_
    refine n_seq ?_
    refine e_cT rfl ?_
    refine e_seq ?_
    refine e_reg ?_
    refine l_y (v := pa g58 1) S (y_fb FA31_1 rfl rfl) ?_
    refine l_y (v := .agg #[.slice A14 d.state.clock.length c15, .slice A17 d.state.lives.length c18, .slice A20 d.state.tallies.length c21]) S (y_ld rfl (fun w S => ld_bA (vs := [.slice A14 d.state.clock.length c15, .slice A17 d.state.lives.length c18, .slice A20 d.state.tallies.length c21]) (i := 0) S rfl T27 rfl rfl)) ?_
    refine l_y (v := pa g60 1) S (y_fb FA33_1 rfl rfl) ?_
    refine l_y (v := .agg #[.slice A43 p.state.clock.length c44, .slice A46 p.state.lives.length c47, .slice A49 p.state.tallies.length c50]) S (y_ld rfl (fun w S => ld_bA (vs := [.slice A43 p.state.clock.length c44, .slice A46 p.state.lives.length c47, .slice A49 p.state.tallies.length c50]) (i := 1) S rfl T27 rfl rfl)) ?_
    refine l_c (en_f (vs := [.agg #[.slice A14 d.state.clock.length c15, .slice A17 d.state.lives.length c18, .slice A20 d.state.tallies.length c21], .agg #[.slice A43 p.state.clock.length c44, .slice A46 p.state.lives.length c47, .slice A49 p.state.tallies.length c50]]) (CF 42 _) rfl rfl) (Join_m _ _ S.le _ _ d.state p.state (⟨_, rfl, ⟨_, _, _, rfl, h3, h5, h7⟩⟩ : AggR StateR rd71 _ d.state) (⟨_, rfl, ⟨_, _, _, rfl, h34, h36, h38⟩⟩ : AggR StateR rd71 _ p.state)) ?_
    rintro e w96 ⟨v101, rfl, h102, k⟩
    obtain ⟨rd97, S, L98, N99, X100⟩ := S.call' k; clear k
    replace h3 := fm h3 L98
    replace h5 := fm h5 L98
    replace h7 := fm h7 L98
    replace h9 := fm h9 L98
    replace h11 := fm h11 L98
    replace h13 := fm h13 L98
    replace h34 := fm h34 L98
    replace h36 := fm h36 L98
    replace h38 := fm h38 L98
    replace h40 := fm h40 L98
    replace h42 := fm h42 L98
    replace f87 := fm f87 L98
    replace f88 := fm f88 L98
    replace f89 := fm f89 L98
    replace f90 := fm f90 L98
    replace O91 := rm O91 L98
    replace O92 := rm O92 L98
    replace h102 := am h102 X100
    obtain ⟨cs103, h102v, h102⟩ := h102; subst h102v
    obtain ⟨sv104, sv106, sv108, h102e, h105, h107, h109⟩ := h102; subst h102e
    obtain ⟨A110, c111, rfl, m112, m112'⟩ := h105.val
    obtain ⟨A113, c114, rfl, m115, m115'⟩ := h107.val
    obtain ⟨A116, c117, rfl, m118, m118'⟩ := h109.val
    refine ckd ?_
    refine l_y (v := .tuple #[.agg #[.slice A110 (((JoinS d.state p.state).1.clock).length) c111, .slice A113 (((JoinS d.state p.state).1.lives).length) c114, .slice A116 (((JoinS d.state p.state).1.tallies).length) c117], ni ((JoinS d.state p.state).2)]) S (y_mv rfl) ?_
    refine l_y (v := .agg #[.slice A110 (((JoinS d.state p.state).1.clock).length) c111, .slice A113 (((JoinS d.state p.state).1.lives).length) c114, .slice A116 (((JoinS d.state p.state).1.tallies).length) c117]) S (y_ex rfl rfl) ?_
    refine l_y (v := ni ((JoinS d.state p.state).2)) S (y_ex rfl rfl) ?_
    refine l_al (cs := #[.slice none 0 0, .slice none 0 0, .slice none 0 0]) S Z27 rfl fun g119 w120 S => ?_
    refine l_st (u := .agg #[.slice A110 (((JoinS d.state p.state).1.clock).length) c111, .slice A113 (((JoinS d.state p.state).1.lives).length) c114, .slice A116 (((JoinS d.state p.state).1.tallies).length) c117]) (i := 4) (cs' := #[.slice A110 (((JoinS d.state p.state).1.clock).length) c111, .slice A113 (((JoinS d.state p.state).1.lives).length) c114, .slice A116 (((JoinS d.state p.state).1.tallies).length) c117]) S rfl rfl rfl SZ27 rfl rfl rfl fun w121 S => ?_
    refine l_y (v := ni ((JoinS d.state p.state).2)) S (y_as rfl) ?_
    refine l_nil ?_
    refine n_seq ?_
    refine e_seq ?_
    refine e_seq ?_
    refine e_reg ?_
    refine l_y (v := ni ((JoinS d.state p.state).2)) S (y_mv rfl) ?_
    by_cases hJ : (JoinS d.state p.state).2 = 0
    ·
     refine l_y (v := .bool false) S (y_neF rfl rfl hJ) ?_
     refine l_nil ?_
     refine n_seq ?_
     refine e_cF rfl ?_
     refine e_skip ?_
     refine n_seq ?_
     refine e_seq ?_
     refine e_a (fun w => St [] W rd rd97 [(g58, 31, #[ni d.self, .slice A14 d.state.clock.length c15, .slice A17 d.state.lives.length c18, .slice A20 d.state.tallies.length c21, .slice A23 d.base.length c24, .slice A26 d.log.length c27, .slice A29 d.known.length c30]), (g60, 33, #[.bool p.whole, .slice A43 p.state.clock.length c44, .slice A46 p.state.lives.length c47, .slice A49 p.state.tallies.length c50, .slice A52 p.updates.length c53, .slice A55 p.clock.length c56]), (g62, 31, #[ni 0, .slice none 0 0, .slice none 0 0, .slice none 0 0, .slice none 0 0, .slice none 0 0, .slice none 0 0]), (g119, 27, #[.slice A110 (((JoinS d.state p.state).1.clock).length) c111, .slice A113 (((JoinS d.state p.state).1.lives).length) c114, .slice A116 (((JoinS d.state p.state).1.tallies).length) c117])] [⟨42, 5, .slice A81 d.log.length c82, d.log.length, xs85⟩, ⟨23, 1, .slice (some ⟨gK, 0, none⟩) d.known.length c84, d.known.length, xs86⟩] w) MX rfl ?_
     have S := S.drew; have sup122 := S.sup
     have SC := ((S.tk 5 2 rfl rfl).del 3)
     have hjr := join_rightR hr hJ
     have hjl := hjr.clock_len
     refine a_tk (v := .agg #[.slice A110 (((JoinS d.state p.state).1.clock).length) c111, .slice A113 (((JoinS d.state p.state).1.lives).length) c114, .slice A116 (((JoinS d.state p.state).1.tallies).length) c117]) 0 rfl rfl SC rfl (y_ld rfl (fun w S => ld_bA (vs := [.slice A110 (((JoinS d.state p.state).1.clock).length) c111, .slice A113 (((JoinS d.state p.state).1.lives).length) c114, .slice A116 (((JoinS d.state p.state).1.tallies).length) c117]) (i := 3) S rfl T27 rfl rfl)) ?_
     refine a_tk (v := pa g58 4) 1 rfl rfl SC rfl (y_fb FA31_2 rfl rfl) ?_
     refine a_tk (v := .slice A23 d.base.length c24) 2 rfl rfl SC rfl (y_ld rfl (fun w S => ld_b1 (i := 0) S rfl rfl T23)) ?_
     refine a_tk (v := pa g60 1) 3 rfl rfl SC rfl (y_fb FA33_1 rfl rfl) ?_
     refine a_tk (v := pa g60 1) 4 rfl rfl SC rfl (y_fb FA27_0 rfl rfl) ?_
     refine a_tk (v := .slice A43 p.state.clock.length c44) 5 rfl rfl SC rfl (y_ld rfl (fun w S => ld_b1 (i := 1) S rfl rfl T23)) ?_
     refine a_all (rs := [6]) (by kernel_rfl) rfl ?_
     refine aa_cons rfl ?_ ?_
     ·
      refine l_c (en_f (vs := [.slice A23 d.base.length c24, .slice A43 p.state.clock.length c44]) (CF 31 _) rfl rfl) (Join_c _ _ _ _ _ (fm h9 S.le) (fm h34 S.le) (by omega)) ?_
      rintro e w125 ⟨r123, rfl, h124, k⟩
      obtain ⟨rd126, S, L127, N128, X129⟩ := S.call' k; clear k
      replace h3 := fm h3 L127
      replace h5 := fm h5 L127
      replace h7 := fm h7 L127
      replace h9 := fm h9 L127
      replace h11 := fm h11 L127
      replace h13 := fm h13 L127
      replace h34 := fm h34 L127
      replace h36 := fm h36 L127
      replace h38 := fm h38 L127
      replace h40 := fm h40 L127
      replace h42 := fm h42 L127
      replace f87 := fm f87 L127
      replace f88 := fm f88 L127
      replace f89 := fm f89 L127
      replace f90 := fm f90 L127
      replace O91 := rm O91 L127
      replace O92 := rm O92 L127
      replace h105 := fm h105 L127
      replace h107 := fm h107 L127
      replace h109 := fm h109 L127
      have h124 := fm h124 N128
      obtain ⟨A130, c131, rfl, m132, m132'⟩ := h124.val
      refine ckd ?_
      refine l_nil ?_
      have SC := (((S.tk 5 2 rfl rfl).del 3).weak sup122 L127)
      refine n_lp (ak SC ?_)
      refine a_tk (v := pa g93 1) 7 rfl rfl SC rfl (y_fb FA31_1 rfl rfl) ?_
      refine a_all (rs := [8]) (by kernel_rfl) rfl ?_
      refine aa_cons rfl ?_ ?_
      ·
       refine l_st (u := .agg #[.slice A110 (((JoinS d.state p.state).1.clock).length) c111, .slice A113 (((JoinS d.state p.state).1.lives).length) c114, .slice A116 (((JoinS d.state p.state).1.tallies).length) c117]) (i := 3) (cs' := #[ni d.self, .slice A110 (((JoinS d.state p.state).1.clock).length) c111, .slice A113 (((JoinS d.state p.state).1.lives).length) c114, .slice A116 (((JoinS d.state p.state).1.tallies).length) c117, .slice A79 d.base.length c80, .slice A81 d.log.length c82, .slice (some ⟨gK, 0, none⟩) d.known.length c84]) S rfl rfl rfl SZ27 rfl rfl rfl fun w133 S => ?_
       refine l_nil ?_
       have SC := (((S.tk 5 2 rfl rfl).del 3).weak sup122 L127)
       refine n_lp (ak SC ?_)
       refine a_tk (v := pa g93 4) 9 rfl rfl SC rfl (y_fb FA31_2 rfl rfl) ?_
       refine a_all (rs := [10]) (by kernel_rfl) rfl ?_
       refine aa_cons rfl ?_ ?_
       ·
        refine l_st (u := .slice A130 ((joinC d.base p.state.clock).length) c131) (i := 3) (cs' := #[ni d.self, .slice A110 (((JoinS d.state p.state).1.clock).length) c111, .slice A113 (((JoinS d.state p.state).1.lives).length) c114, .slice A116 (((JoinS d.state p.state).1.tallies).length) c117, .slice A130 ((joinC d.base p.state.clock).length) c131, .slice A81 d.log.length c82, .slice (some ⟨gK, 0, none⟩) d.known.length c84]) S rfl rfl rfl SZ23 rfl rfl rfl fun w134 S => ?_
        refine l_nil ?_
        have SC := (((S.tk 5 2 rfl rfl).del 3).weak sup122 L127)
        refine n_lp (ak SC ?_)
        refine a_done (by kernel_rfl) ?_
        clear SC
        refine n_seq ?_
        refine e_reg ?_
        have hjj := joinC_len d.base p.state.clock
        refine l_y (v := pa g93 5) S (y_fb FA31_3 rfl rfl) ?_
        refine l_y (v := .slice A81 d.log.length c82) S (y_ld rfl (fun w S => ld_b1 (i := 3) S rfl rfl T28)) ?_
        refine l_y (v := pa g93 4) S (y_fb FA31_2 rfl rfl) ?_
        refine l_y (v := .slice A130 ((joinC d.base p.state.clock).length) c131) S (y_ld rfl (fun w S => ld_b1 (i := 3) S rfl rfl T23)) ?_
        refine l_c (en_f (vs := [.slice A81 d.log.length c82, .slice A130 ((joinC d.base p.state.clock).length) c131]) (CF 43 _) rfl rfl) (Lacks_o rd126 _ S.le _ _ d.log (joinC d.base p.state.clock) (S.rowS (n := 0) (i := 0) rfl rfl rfl rfl O91) (fm h124 S.le) (by omega) (fun u hu => by have := (fits_later hr.b hr.f hu).1.len; omega)) ?_
        rintro e w140 ⟨r135, xs136, rd137, rfl, k, O138⟩
        have L139 := k.sup; have S := S.comp0 k; clear k
        replace h3 := fm h3 L139
        replace h5 := fm h5 L139
        replace h7 := fm h7 L139
        replace h9 := fm h9 L139
        replace h11 := fm h11 L139
        replace h13 := fm h13 L139
        replace h34 := fm h34 L139
        replace h36 := fm h36 L139
        replace h38 := fm h38 L139
        replace h40 := fm h40 L139
        replace h42 := fm h42 L139
        replace f87 := fm f87 L139
        replace f88 := fm f88 L139
        replace f89 := fm f89 L139
        replace f90 := fm f90 L139
        replace O91 := rm O91 L139
        replace O92 := rm O92 L139
        replace h105 := fm h105 L139
        replace h107 := fm h107 L139
        replace h109 := fm h109 L139
        replace h124 := fm h124 L139
        obtain ⟨A141, c142, m143e, m143, m143'⟩ : ∃ A c, r135 = .slice A ((lacksU d.log (joinC d.base p.state.clock)).length) c ∧ ((lacksU d.log (joinC d.base p.state.clock)).length) ≤ c ∧ c ≤ maxLen := own_len S (i := 2) rfl; subst m143e
        refine ckd ?_
        have S := S.delo 0
        refine l_y (v := pa g93 5) S (y_fb FA31_3 rfl rfl) ?_
        refine l_st (u := .slice A141 ((lacksU d.log (joinC d.base p.state.clock)).length) c142) (i := 3) (cs' := #[ni d.self, .slice A110 (((JoinS d.state p.state).1.clock).length) c111, .slice A113 (((JoinS d.state p.state).1.lives).length) c114, .slice A116 (((JoinS d.state p.state).1.tallies).length) c117, .slice A130 ((joinC d.base p.state.clock).length) c131, .slice A141 ((lacksU d.log (joinC d.base p.state.clock)).length) c142, .slice (some ⟨gK, 0, none⟩) d.known.length c84]) S rfl rfl rfl SZ28 rfl rfl rfl fun w144 S => ?_
        have S : St [] W rd rd137 [(g58, 31, #[ni d.self, .slice A14 d.state.clock.length c15, .slice A17 d.state.lives.length c18, .slice A20 d.state.tallies.length c21, .slice A23 d.base.length c24, .slice A26 d.log.length c27, .slice A29 d.known.length c30]), (g60, 33, #[.bool p.whole, .slice A43 p.state.clock.length c44, .slice A46 p.state.lives.length c47, .slice A49 p.state.tallies.length c50, .slice A52 p.updates.length c53, .slice A55 p.clock.length c56]), (g62, 31, #[ni 0, .slice none 0 0, .slice none 0 0, .slice none 0 0, .slice none 0 0, .slice none 0 0, .slice none 0 0]), (g93, 31, #[ni d.self, .slice A110 (((JoinS d.state p.state).1.clock).length) c111, .slice A113 (((JoinS d.state p.state).1.lives).length) c114, .slice A116 (((JoinS d.state p.state).1.tallies).length) c117, .slice A130 ((joinC d.base p.state.clock).length) c131, .slice A141 ((lacksU d.log (joinC d.base p.state.clock)).length) c142, .slice (some ⟨gK, 0, none⟩) d.known.length c84]), (g119, 27, #[.slice A110 (((JoinS d.state p.state).1.clock).length) c111, .slice A113 (((JoinS d.state p.state).1.lives).length) c114, .slice A116 (((JoinS d.state p.state).1.tallies).length) c117])] [⟨23, 1, .slice (some ⟨gK, 0, none⟩) d.known.length c84, d.known.length, xs86⟩, ⟨42, 5, .slice A141 ((lacksU d.log (joinC d.base p.state.clock)).length) c142, (lacksU d.log (joinC d.base p.state.clock)).length, xs136⟩] _ := S.rw' rfl rfl
        refine l_nil ?_
        refine n_seq ?_
        refine e_seq ?_
        refine e_seq ?_
        refine e_reg ?_
        refine l_y (v := pa g60 4) S (y_fb FA33_2 rfl rfl) ?_
        refine l_y (v := .slice A52 p.updates.length c53) S (y_ld rfl (fun w S => ld_b1 (i := 1) S rfl rfl T28)) ?_
        refine l_y (v := ni (p.updates.length : Int)) S (y_len U28 rfl rfl) ?_
        refine l_y (v := ni 0) S (y_mv rfl) ?_
        refine l_nil ?_
        refine n_seq ?_
        refine e_blk ?_
        refine e_trim [(1, ni from_), (3, pa g58 0), (5, pa g60 0), (6, pa g62 0), (11, pa g93 0), (79, .slice A52 p.updates.length c53), (80, ni (p.updates.length : Int)), (81, ni (0 : Int))] ⟨⟨rfl, rfl⟩, ⟨rfl, rfl⟩, ⟨rfl, rfl⟩, ⟨rfl, rfl⟩, ⟨rfl, rfl⟩, ⟨rfl, rfl⟩, ⟨rfl, rfl⟩, ⟨ival (by first | rfl | omega), rfl⟩, trivial⟩ (fun junk => ?_)
        refine e_loop (fun (gh_ : Nat × Node × (Option Addr) × Nat × (Option Addr) × Nat × (Option Addr) × Nat × (Option Addr) × Nat × (List Value)) ov w => match gh_ with | (k, e, E0, q0, E1, q1, E2, q2, E3, q3, xsE) => ∃ rd' junk, ov = [(1, ni from_), (3, pa g58 0), (5, pa g60 0), (6, pa g62 0), (11, pa g93 0), (79, .slice A52 p.updates.length c53), (80, ni (p.updates.length : Int)), (81, ni (k : Int))] ++ junk ∧ St [] W rd rd' [(g58, 31, #[ni d.self, .slice A14 d.state.clock.length c15, .slice A17 d.state.lives.length c18, .slice A20 d.state.tallies.length c21, .slice A23 d.base.length c24, .slice A26 d.log.length c27, .slice A29 d.known.length c30]), (g60, 33, #[.bool p.whole, .slice A43 p.state.clock.length c44, .slice A46 p.state.lives.length c47, .slice A49 p.state.tallies.length c50, .slice A52 p.updates.length c53, .slice A55 p.clock.length c56]), (g62, 31, #[ni 0, .slice none 0 0, .slice none 0 0, .slice none 0 0, .slice none 0 0, .slice none 0 0, .slice none 0 0]), (g93, 31, #[ni e.self, .slice E0 e.state.clock.length q0, .slice E1 e.state.lives.length q1, .slice E2 e.state.tallies.length q2, .slice A130 ((joinC d.base p.state.clock).length) c131, .slice E3 e.log.length q3, .slice (some ⟨gK, 0, none⟩) d.known.length c84]), (g119, 27, #[.slice A110 (((JoinS d.state p.state).1.clock).length) c111, .slice A113 (((JoinS d.state p.state).1.lives).length) c114, .slice A116 (((JoinS d.state p.state).1.tallies).length) c117])] [⟨23, 1, .slice (some ⟨gK, 0, none⟩) d.known.length c84, d.known.length, xs86⟩, ⟨42, 5, .slice E3 e.log.length q3, e.log.length, xsE⟩] w ∧ Rd.le rd137 rd' ∧ (RowR 5 UpdR rd' xsE e.log ∧ e.log.length = e.log.length) ∧ SliceR 1 IntR rd' (.slice E0 e.state.clock.length q0) e.state.clock ∧ SliceR 5 LiveR rd' (.slice E1 e.state.lives.length q1) e.state.lives ∧ SliceR 3 TallyR rd' (.slice E2 e.state.tallies.length q2) e.state.tallies ∧ k ≤ p.updates.length ∧ takesN e (p.updates.drop k) = takesN (wholeN d p) p.updates ∧ MidI e d (wholeN d p) n) (fun gh_ => match gh_ with | (k, e, E0, q0, E1, q1, E2, q2, E3, q3, xsE) => p.updates.length - k) (0, (⟨d.self, (JoinS d.state p.state).1, joinC d.base p.state.clock, lacksU d.log (joinC d.base p.state.clock), d.known⟩ : Node), A110, c111, A113, c114, A116, c117, A141, c142, xs136) ⟨_, junk, rfl, (S.rw' rfl rfl), (Rd.le_refl _), ⟨O138, rfl⟩, h105, h107, h109, (by omega), (by unfold wholeN; rw [if_pos hw] <;> rfl), (mid_start hr (by intro _; exact hJ) (by unfold wholeN; rw [if_pos hw]))⟩ ?_
        rintro ⟨k, e, E0, q0, E1, q1, E2, q2, E3, q3, xsE⟩ ov148 w146 ⟨rd145, junk, rfl, S, L147, ⟨OE, on149⟩, g0, g1, g2, hk, hE, hi⟩
        replace h3 := fm h3 L147
        replace h5 := fm h5 L147
        replace h7 := fm h7 L147
        replace h9 := fm h9 L147
        replace h11 := fm h11 L147
        replace h13 := fm h13 L147
        replace h34 := fm h34 L147
        replace h36 := fm h36 L147
        replace h38 := fm h38 L147
        replace h40 := fm h40 L147
        replace h42 := fm h42 L147
        replace O92 := rm O92 L147
        replace h105 := fm h105 L147
        replace h107 := fm h107 L147
        replace h109 := fm h109 L147
        replace h124 := fm h124 L147
        have hM := hi.m
        have hMl := hM.l
        refine e_seq ?_
        refine e_reg ?_
        by_cases h150 : (k : Int) < (p.updates.length : Int)
        ·
         refine l_y (v := .bool true) S (y_ltT rfl rfl h150) ?_
         refine l_nil ?_
         refine n_seq ?_
         refine e_seq ?_
         refine e_cT rfl ?_
         refine e_skip ?_
         refine n_seq ?_
         refine e_seq ?_
         refine e_blk ?_
         refine e_seq ?_
         refine e_reg ?_
         obtain ⟨z151, hz152⟩ : ∃ z, (p.updates)[k]? = some z := nth_of (by first | assumption | omega)
         obtain ⟨p153, vs154, E155, nn156, r157, Y158⟩ := y_ia U28 SZ42 h40 hz152
         clear nn156
         obtain ⟨sv159, r157e, h160⟩ := r157; subst r157e
         obtain ⟨A161, c162, rfl, m163, m163'⟩ := h160.val
         refine l_y (v := p153) S (Y158 rfl rfl (by first | rfl | omega)) ?_
         refine l_y (v := .agg #[ni z151.author, .slice A161 z151.seen.length c162, ni z151.kind, ni z151.key, ni z151.item]) S (y_ld rfl (fun w S => ld_pA (us := [ni z151.author, .slice A161 z151.seen.length c162, ni z151.kind, ni z151.key, ni z151.item]) S.le E155 T42 rfl rfl)) ?_
         refine l_al (cs := #[ni 0, .slice none 0 0, ni 0, ni 0, ni 0]) S Z42 rfl fun g164 w165 S => ?_
         refine l_st (u := .agg #[ni z151.author, .slice A161 z151.seen.length c162, ni z151.kind, ni z151.key, ni z151.item]) (i := 5) (cs' := #[ni z151.author, .slice A161 z151.seen.length c162, ni z151.kind, ni z151.key, ni z151.item]) S rfl rfl rfl SZ42 rfl rfl rfl fun w166 S => ?_
         refine l_nil ?_
         refine n_seq ?_
         refine e_seq ?_
         refine e_reg ?_
         refine l_y (v := .agg #[ni z151.author, .slice A161 z151.seen.length c162, ni z151.kind, ni z151.key, ni z151.item]) S (y_ld rfl (fun w S => ld_bA (vs := [ni z151.author, .slice A161 z151.seen.length c162, ni z151.kind, ni z151.key, ni z151.item]) (i := 5) S rfl T42 rfl rfl)) ?_
         have S := S.toEndB (i := 3) rfl
         have S := S.toEndO (i := 1) rfl
         refine l_c (en_f (vs := [pa g93 0, .agg #[ni z151.author, .slice A161 z151.seen.length c162, ni z151.kind, ni z151.key, ni z151.item]]) (CF 44 _) rfl rfl) (NTake1_m _ _ g93 e z151 _ E0 E1 E2 E3 q0 q1 q2 q3 (.slice A130 ((joinC d.base p.state.clock).length) c131) (.slice (some ⟨gK, 0, none⟩) d.known.length c84) xsE (S.give (bxk := [(g58, 31, #[ni d.self, .slice A14 d.state.clock.length c15, .slice A17 d.state.lives.length c18, .slice A20 d.state.tallies.length c21, .slice A23 d.base.length c24, .slice A26 d.log.length c27, .slice A29 d.known.length c30]), (g60, 33, #[.bool p.whole, .slice A43 p.state.clock.length c44, .slice A46 p.state.lives.length c47, .slice A49 p.state.tallies.length c50, .slice A52 p.updates.length c53, .slice A55 p.clock.length c56]), (g62, 31, #[ni 0, .slice none 0 0, .slice none 0 0, .slice none 0 0, .slice none 0 0, .slice none 0 0, .slice none 0 0]), (g119, 27, #[.slice A110 (((JoinS d.state p.state).1.clock).length) c111, .slice A113 (((JoinS d.state p.state).1.lives).length) c114, .slice A116 (((JoinS d.state p.state).1.tallies).length) c117]), (g164, 42, #[ni z151.author, .slice A161 z151.seen.length c162, ni z151.kind, ni z151.key, ni z151.item])]) (bx0 := [(g93, 31, #[ni e.self, .slice E0 e.state.clock.length q0, .slice E1 e.state.lives.length q1, .slice E2 e.state.tallies.length q2, .slice A130 ((joinC d.base p.state.clock).length) c131, .slice E3 e.log.length q3, .slice (some ⟨gK, 0, none⟩) d.known.length c84])]) (owk := [⟨23, 1, .slice (some ⟨gK, 0, none⟩) d.known.length c84, d.known.length, xs86⟩]) (ow0 := [⟨42, 5, .slice E3 e.log.length q3, e.log.length, xsE⟩]) rfl rfl) g0 g1 g2 OE (⟨_, rfl, ⟨_, rfl, h160⟩⟩ : AggR UpdR rd145 _ z151) hMl) ?_
         rintro e w167 ⟨A169, c170, A171, c172, A173, c174, A175, c176, xl177, rd168, rfl, k, f178, f179, f180, O181⟩
         have L182 := k.sup
         have S := S.comp (bxk := [(g58, 31, #[ni d.self, .slice A14 d.state.clock.length c15, .slice A17 d.state.lives.length c18, .slice A20 d.state.tallies.length c21, .slice A23 d.base.length c24, .slice A26 d.log.length c27, .slice A29 d.known.length c30]), (g60, 33, #[.bool p.whole, .slice A43 p.state.clock.length c44, .slice A46 p.state.lives.length c47, .slice A49 p.state.tallies.length c50, .slice A52 p.updates.length c53, .slice A55 p.clock.length c56]), (g62, 31, #[ni 0, .slice none 0 0, .slice none 0 0, .slice none 0 0, .slice none 0 0, .slice none 0 0, .slice none 0 0]), (g119, 27, #[.slice A110 (((JoinS d.state p.state).1.clock).length) c111, .slice A113 (((JoinS d.state p.state).1.lives).length) c114, .slice A116 (((JoinS d.state p.state).1.tallies).length) c117]), (g164, 42, #[ni z151.author, .slice A161 z151.seen.length c162, ni z151.kind, ni z151.key, ni z151.item])]) (bx0 := [(g93, 31, #[ni e.self, .slice E0 e.state.clock.length q0, .slice E1 e.state.lives.length q1, .slice E2 e.state.tallies.length q2, .slice A130 ((joinC d.base p.state.clock).length) c131, .slice E3 e.log.length q3, .slice (some ⟨gK, 0, none⟩) d.known.length c84])]) (owk := [⟨23, 1, .slice (some ⟨gK, 0, none⟩) d.known.length c84, d.known.length, xs86⟩]) (ow0 := [⟨42, 5, .slice E3 e.log.length q3, e.log.length, xsE⟩]) rfl rfl k; clear k
         replace h3 := fm h3 L182
         replace h5 := fm h5 L182
         replace h7 := fm h7 L182
         replace h9 := fm h9 L182
         replace h11 := fm h11 L182
         replace h13 := fm h13 L182
         replace h34 := fm h34 L182
         replace h36 := fm h36 L182
         replace h38 := fm h38 L182
         replace h40 := fm h40 L182
         replace h42 := fm h42 L182
         replace O92 := rm O92 L182
         replace h105 := fm h105 L182
         replace h107 := fm h107 L182
         replace h109 := fm h109 L182
         replace h124 := fm h124 L182
         replace h160 := fm h160 L182
         replace E155 := PtrC.mono E155 L182
         refine ckd ?_
         refine l_y (v := ni ((takeN e z151).2)) S (y_as rfl) ?_
         refine l_nil ?_
         refine n_seq ?_
         refine e_seq ?_
         refine e_reg ?_
         refine l_y (v := ni ((takeN e z151).2)) S (y_mv rfl) ?_
         by_cases hT : (takeN e z151).2 = 0
         ·
          refine l_y (v := .bool false) S (y_neF rfl rfl hT) ?_
          refine l_nil ?_
          refine n_seq ?_
          refine e_cF rfl ?_
          refine e_skip ?_
          refine n_blk ?_
          refine n_seq ?_
          refine e_reg ?_
          refine l_y (v := ni ((k : Int) + 1)) S (y_add (r := (k : Int) + 1) rfl rfl (w64 (by omega) (by omega))) ?_
          refine l_y (v := ni ((k : Int) + 1)) S (y_mv rfl) ?_
          refine l_nil ?_
          have S := S.toEndB (i := 0) rfl
          have S := S.toEndB (i := 0) rfl
          have S := S.toEndB (i := 0) rfl
          have S := S.toEndB (i := 2) rfl
          have S := S.toEndB (i := 0) rfl
          have S := S.toEndB (i := 0) rfl
          refine n_lp ⟨(k + 1, (takeN e z151).1, A169, c170, A171, c172, A173, c174, A175, c176, xl177), _, fr_keep (m := [(1, ni from_), (3, pa g58 0), (5, pa g60 0), (6, pa g62 0), (11, pa g93 0), (79, .slice A52 p.updates.length c53), (80, ni (p.updates.length : Int)), (81, ni ((k + 1 : Nat) : Int))]) ⟨⟨rfl, rfl⟩, ⟨rfl, rfl⟩, ⟨rfl, rfl⟩, ⟨rfl, rfl⟩, ⟨rfl, rfl⟩, ⟨rfl, rfl⟩, ⟨rfl, rfl⟩, ⟨ival (by first | rfl | omega), rfl⟩, trivial⟩, ⟨_, _, rfl, (S.tk 5 2 rfl rfl), (Rd.le_trans L147 (Rd.le_trans (Rd.le_refl rd145) L182)), ⟨O181, rfl⟩, f178, f179, f180, (by omega), (takes_next hz152 hT hE), (take_mid hM hT hi)⟩, ?_⟩
          show _ < _; dsimp only; omega
         refine l_y (v := .bool true) S (y_neT rfl rfl hT) ?_
         refine l_nil ?_
         refine n_seq ?_
         refine e_cT rfl ?_
         refine e_seq ?_
         refine e_reg ?_
         refine l_y (v := .agg #[ni 0, .slice none 0 0, .slice none 0 0, .slice none 0 0, .slice none 0 0, .slice none 0 0, .slice none 0 0]) S (y_bd (ps := []) rfl (fun _ => by kernel_rfl)) ?_
         refine l_y (v := ni ((takeN e z151).2)) S (y_mv rfl) ?_
         refine l_st (u := .agg #[ni 0, .slice none 0 0, .slice none 0 0, .slice none 0 0, .slice none 0 0, .slice none 0 0, .slice none 0 0]) (i := 2) (cs' := #[ni 0, .slice none 0 0, .slice none 0 0, .slice none 0 0, .slice none 0 0, .slice none 0 0, .slice none 0 0]) S rfl rfl rfl SZ31 rfl rfl rfl fun w183 S => ?_
         refine l_y (v := ni ((takeN e z151).2)) S (y_as rfl) ?_
         refine l_nil ?_
         refine n_seq ?_
         refine e_ret ?_
         refine ret2 (v := .agg #[ni 0, .slice none 0 0, .slice none 0 0, .slice none 0 0, .slice none 0 0, .slice none 0 0, .slice none 0 0]) (v' := ni ((takeN e z151).2)) rfl ⟨_, rfl, ld_bA (i := 2) (vs := [ni 0, .slice none 0 0, .slice none 0 0, .slice none 0 0, .slice none 0 0, .slice none 0 0, .slice none 0 0]) S rfl T31 rfl rfl⟩ rfl ?_
         have es : TakeN d from_ p = ((⟨0, ⟨[], [], []⟩, [], [], []⟩ : Node), (takeN e z151).2) := by have hbad := takes_bad hz152 hT hE; unfold TakeN lenI; rw [if_neg (fun q => q hW), if_neg (by omega), if_neg hF, if_neg (fun q => q hC), if_neg (fun q => q.2 hJ), hbad, if_pos hT] <;> rfl
         rw [es]
         exact ⟨_, rfl, ⟨_, rfl, ⟨_, _, _, _, _, _, rfl, (SliceR.nil_ _), (SliceR.nil_ _), (SliceR.nil_ _), (SliceR.nil_ _), (SliceR.nil_ _), (SliceR.nil_ _)⟩⟩, S.below⟩
        refine l_y (v := .bool false) S (y_ltF rfl rfl h150) ?_
        refine l_nil ?_
        refine n_seq ?_
        refine e_seq ?_
        refine e_cF rfl ?_
        refine e_exit ?_
        refine x_seq ?_
        refine x_lp ?_
        refine x_hit ?_
        refine n_seq ?_
        refine e_seq ?_
        refine e_seq ?_
        refine e_reg ?_
        have hM6 := hM.s.clock_len
        refine l_y (v := pa g93 1) S (y_fb FA31_1 rfl rfl) ?_
        refine l_y (v := pa g93 1) S (y_fb FA27_0 rfl rfl) ?_
        refine l_y (v := .slice E0 e.state.clock.length q0) S (y_ld rfl (fun w S => ld_b1 (i := 3) S rfl rfl T23)) ?_
        refine l_y (v := pa g60 5) S (y_fb FA33_3 rfl rfl) ?_
        refine l_y (v := .slice A55 p.clock.length c56) S (y_ld rfl (fun w S => ld_b1 (i := 1) S rfl rfl T23)) ?_
        refine l_c (en_f (vs := [.slice E0 e.state.clock.length q0, .slice A55 p.clock.length c56]) (CF 29 _) rfl rfl) (Sees_calls _ _ _ _ _ (fm g0 S.le) (fm h42 S.le) (by omega)) ?_
        rintro e w184 ⟨rfl, k⟩
        have S := S.callq k; clear k
        cases hV : seesC e.state.clock p.clock
        ·
         refine ckd ?_
         refine l_y (v := .bool true) S (y_not rfl rfl) ?_
         refine l_nil ?_
         refine n_seq ?_
         refine e_cT rfl ?_
         refine e_seq ?_
         refine e_reg ?_
         refine l_y (v := .agg #[ni 0, .slice none 0 0, .slice none 0 0, .slice none 0 0, .slice none 0 0, .slice none 0 0, .slice none 0 0]) S (y_bd (ps := []) rfl (fun _ => by kernel_rfl)) ?_
         refine l_st (u := .agg #[ni 0, .slice none 0 0, .slice none 0 0, .slice none 0 0, .slice none 0 0, .slice none 0 0, .slice none 0 0]) (i := 2) (cs' := #[ni 0, .slice none 0 0, .slice none 0 0, .slice none 0 0, .slice none 0 0, .slice none 0 0, .slice none 0 0]) S rfl rfl rfl SZ31 rfl rfl rfl fun w185 S => ?_
         refine l_y (v := ni 8) S (y_as rfl) ?_
         refine l_nil ?_
         refine n_seq ?_
         refine e_ret ?_
         refine ret2 (v := .agg #[ni 0, .slice none 0 0, .slice none 0 0, .slice none 0 0, .slice none 0 0, .slice none 0 0, .slice none 0 0]) (v' := ni 8) rfl ⟨_, rfl, ld_bA (i := 2) (vs := [ni 0, .slice none 0 0, .slice none 0 0, .slice none 0 0, .slice none 0 0, .slice none 0 0, .slice none 0 0]) S rfl T31 rfl rfl⟩ rfl ?_
         have hfin : takesN (wholeN d p) p.updates = (e, 0) := by rw [← hE, List.drop_eq_nil_of_le (by omega)] <;> rfl
         have es : TakeN d from_ p = ((⟨0, ⟨[], [], []⟩, [], [], []⟩ : Node), 8) := by unfold TakeN lenI; rw [if_neg (fun q => q hW), if_neg (by omega), if_neg hF, if_neg (fun q => q hC), if_neg (fun q => q.2 hJ), hfin, if_neg (fun q => q rfl), if_pos hV] <;> rfl
         rw [es]
         exact ⟨_, rfl, ⟨_, rfl, ⟨_, _, _, _, _, _, rfl, (SliceR.nil_ _), (SliceR.nil_ _), (SliceR.nil_ _), (SliceR.nil_ _), (SliceR.nil_ _), (SliceR.nil_ _)⟩⟩, S.below⟩
        refine ckd ?_
        refine l_y (v := .bool false) S (y_not rfl rfl) ?_
        refine l_nil ?_
        refine n_seq ?_
        refine e_cF rfl ?_
        refine e_skip ?_
        refine n_seq ?_
        refine e_seq ?_
        refine e_a (fun w => St [] W rd rd145 [(g58, 31, #[ni d.self, .slice A14 d.state.clock.length c15, .slice A17 d.state.lives.length c18, .slice A20 d.state.tallies.length c21, .slice A23 d.base.length c24, .slice A26 d.log.length c27, .slice A29 d.known.length c30]), (g60, 33, #[.bool p.whole, .slice A43 p.state.clock.length c44, .slice A46 p.state.lives.length c47, .slice A49 p.state.tallies.length c50, .slice A52 p.updates.length c53, .slice A55 p.clock.length c56]), (g62, 31, #[ni 0, .slice none 0 0, .slice none 0 0, .slice none 0 0, .slice none 0 0, .slice none 0 0, .slice none 0 0]), (g93, 31, #[ni e.self, .slice E0 e.state.clock.length q0, .slice E1 e.state.lives.length q1, .slice E2 e.state.tallies.length q2, .slice A130 ((joinC d.base p.state.clock).length) c131, .slice E3 e.log.length q3, .slice (some ⟨gK, 0, none⟩) d.known.length c84]), (g119, 27, #[.slice A110 (((JoinS d.state p.state).1.clock).length) c111, .slice A113 (((JoinS d.state p.state).1.lives).length) c114, .slice A116 (((JoinS d.state p.state).1.tallies).length) c117])] [] w) MX rfl ?_
        have S := S.drew; have sup186 := S.sup
        have SC := (S.tk 5 0 rfl rfl)
        refine a_tk (v := pa g93 6) 0 rfl rfl SC rfl (y_fb FA31_4 rfl rfl) ?_
        refine a_tk (v := .slice (some ⟨gK, 0, none⟩) d.known.length c84) 1 rfl rfl SC rfl (y_ld rfl (fun w S => ld_b1 (i := 3) S rfl rfl T29)) ?_
        refine a_tk (v := ni from_) 2 rfl rfl SC rfl (y_mv rfl) ?_
        refine a_tk (v := pa g93 6) 3 rfl rfl SC rfl (y_fb FA31_4 rfl rfl) ?_
        refine a_tk (v := .slice (some ⟨gK, 0, none⟩) d.known.length c84) 4 rfl rfl SC rfl (y_ld rfl (fun w S => ld_b1 (i := 3) S rfl rfl T29)) ?_
        refine a_tk (v := ni from_) 5 rfl rfl SC rfl (y_mv rfl) ?_
        refine a_tk (v := pa gK (from_.toNat * 1)) 6 rfl rfl SC rfl (y_ibs (k := from_.toNat) U29 SZ23 (by omega) (Nat.zero_add _) rfl rfl (by omega)) ?_
        refine a_tk (v := pa g60 5) 8 rfl rfl SC rfl (y_fb FA33_3 rfl rfl) ?_
        refine a_tk (v := .slice A55 p.clock.length c56) 9 rfl rfl SC rfl (y_ld rfl (fun w S => ld_b1 (i := 1) S rfl rfl T23)) ?_
        refine a_all (rs := [7]) (by kernel_rfl) rfl ?_
        refine aa_cons rfl ?_ ?_
        ·
         obtain ⟨z187, hz188⟩ : ∃ z, (d.known)[from_.toNat]? = some z := nth_of (by omega)
         obtain ⟨vs189, hl190, hr191, ha192⟩ := RowR.get from_.toNat O92 hz188; clear hl190
         obtain ⟨sv193, hr191e, hr191⟩ := hr191; subst hr191e
         obtain ⟨A194, c195, rfl, m196, m196'⟩ := hr191.val
         have hak := atK_some hz188
         have hwk := wrongC_ok (hr.ks _ (List.mem_of_getElem? hz188)).1
         refine l_y (v := .slice A194 z187.length c195) S (y_ld rfl (fun w S => ld_o1 (i := 0) S rfl rfl T23 (ha192 0 _ rfl))) ?_
         refine l_nil ?_
         have SC := (S.tk 5 0 rfl rfl)
         refine n_lp (ak SC ?_)
         refine a_all (rs := [10]) (by kernel_rfl) rfl ?_
         refine aa_cons rfl ?_ ?_
         ·
          refine l_c (en_f (vs := [.slice A194 z187.length c195, .slice A55 p.clock.length c56]) (CF 31 _) rfl rfl) (Join_c _ _ _ _ _ (fm hr191 S.le) (fm h42 S.le) (by omega)) ?_
          rintro e w199 ⟨r197, rfl, h198, k⟩
          obtain ⟨rd200, S, L201, N202, X203⟩ := S.call' k; clear k
          replace h3 := fm h3 L201
          replace h5 := fm h5 L201
          replace h7 := fm h7 L201
          replace h9 := fm h9 L201
          replace h11 := fm h11 L201
          replace h13 := fm h13 L201
          replace h34 := fm h34 L201
          replace h36 := fm h36 L201
          replace h38 := fm h38 L201
          replace h40 := fm h40 L201
          replace h42 := fm h42 L201
          replace O92 := rm O92 L201
          replace h105 := fm h105 L201
          replace h107 := fm h107 L201
          replace h109 := fm h109 L201
          replace h124 := fm h124 L201
          replace g0 := fm g0 L201
          replace g1 := fm g1 L201
          replace g2 := fm g2 L201
          replace OE := rm OE L201
          replace hr191 := fm hr191 L201
          have h198 := fm h198 N202
          obtain ⟨A204, c205, rfl, m206, m206'⟩ := h198.val
          refine ckd ?_
          refine l_nil ?_
          have SC := ((S.tk 5 0 rfl rfl).weak sup186 L201)
          refine n_lp (ak SC ?_)
          refine a_tk (v := pa gK (from_.toNat * 1)) 11 rfl rfl SC rfl (y_ibs (k := from_.toNat) U29 SZ23 (by omega) (Nat.zero_add _) rfl rfl (by omega)) ?_
          refine a_all (rs := [12]) (by kernel_rfl) rfl ?_
          refine aa_cons rfl ?_ ?_
          ·
           have O208 : RowR 1 (SlC 1 IntR) rd200 ((xs86).take (from_.toNat * 1) ++ ([.slice A204 ((joinC z187 p.clock).length) c205] : List Value) ++ (xs86).drop (from_.toNat * 1 + 1)) ((d.known).set from_.toNat (joinC z187 p.clock)) := RowR.put (k := from_.toNat) (cs := [.slice A204 ((joinC z187 p.clock).length) c205]) O92 (show from_.toNat < d.known.length by omega) rfl (show (SlC 1 IntR) rd200 [.slice A204 ((joinC z187 p.clock).length) c205] (joinC z187 p.clock) from ⟨_, rfl, h198⟩)
           have xl209 := (O92).len
           refine l_so (u := .slice A204 ((joinC z187 p.clock).length) c205) (i := 0) (xs' := ((xs86).take (from_.toNat * 1) ++ ([.slice A204 ((joinC z187 p.clock).length) c205] : List Value) ++ (xs86).drop (from_.toNat * 1 + 1))) S rfl rfl rfl rfl SZ23 (show from_.toNat * 1 + 1 ≤ (xs86).length by rw [xl209]; have := (show from_.toNat < d.known.length by omega); omega) rfl rfl fun w207 S => ?_
           refine l_nil ?_
           have SC := ((S.tk 5 0 rfl rfl).weak sup186 L201)
           refine n_lp (ak SC ?_)
           refine a_done (by kernel_rfl) ?_
           clear SC
           refine n_seq ?_
           refine e_seq ?_
           refine e_a (fun w => St [] W rd rd200 [(g58, 31, #[ni d.self, .slice A14 d.state.clock.length c15, .slice A17 d.state.lives.length c18, .slice A20 d.state.tallies.length c21, .slice A23 d.base.length c24, .slice A26 d.log.length c27, .slice A29 d.known.length c30]), (g60, 33, #[.bool p.whole, .slice A43 p.state.clock.length c44, .slice A46 p.state.lives.length c47, .slice A49 p.state.tallies.length c50, .slice A52 p.updates.length c53, .slice A55 p.clock.length c56]), (g62, 31, #[ni 0, .slice none 0 0, .slice none 0 0, .slice none 0 0, .slice none 0 0, .slice none 0 0, .slice none 0 0]), (g93, 31, #[ni e.self, .slice E0 e.state.clock.length q0, .slice E1 e.state.lives.length q1, .slice E2 e.state.tallies.length q2, .slice A130 ((joinC d.base p.state.clock).length) c131, .slice E3 e.log.length q3, .slice (some ⟨gK, 0, none⟩) d.known.length c84]), (g119, 27, #[.slice A110 (((JoinS d.state p.state).1.clock).length) c111, .slice A113 (((JoinS d.state p.state).1.lives).length) c114, .slice A116 (((JoinS d.state p.state).1.tallies).length) c117])] [] w) MX rfl ?_
           have S := S.drew; have sup210 := S.sup
           have SC := (S.tk 5 0 rfl rfl)
           refine a_tk (v := pa g93 6) 0 rfl rfl SC rfl (y_fb FA31_4 rfl rfl) ?_
           refine a_tk (v := .slice (some ⟨gK, 0, none⟩) d.known.length c84) 1 rfl rfl SC rfl (y_ld rfl (fun w S => ld_b1 (i := 3) S rfl rfl T29)) ?_
           refine a_tk (v := pa g58 0) 2 rfl rfl SC rfl (y_fb FA31_0 rfl rfl) ?_
           refine a_tk (v := ni d.self) 3 rfl rfl SC rfl (y_ld rfl (fun w S => ld_b1 (i := 0) S rfl rfl T3)) ?_
           refine a_tk (v := pa g93 1) 4 rfl rfl SC rfl (y_fb FA31_1 rfl rfl) ?_
           refine a_tk (v := pa g93 1) 5 rfl rfl SC rfl (y_fb FA27_0 rfl rfl) ?_
           refine a_tk (v := .slice E0 e.state.clock.length q0) 6 rfl rfl SC rfl (y_ld rfl (fun w S => ld_b1 (i := 3) S rfl rfl T23)) ?_
           refine a_all (rs := [7]) (by kernel_rfl) rfl ?_
           refine aa_cons rfl ?_ ?_
           ·
            refine l_c (en_f (vs := [.slice E0 e.state.clock.length q0]) (CF 45 _) rfl rfl) (CloneC_m _ _ S.le _ e.state.clock g0 (by omega)) ?_
            rintro e w211 ⟨v216, rfl, h217, k⟩
            obtain ⟨rd212, S, L213, N214, X215⟩ := S.call' k; clear k
            replace h3 := fm h3 L213
            replace h5 := fm h5 L213
            replace h7 := fm h7 L213
            replace h9 := fm h9 L213
            replace h11 := fm h11 L213
            replace h13 := fm h13 L213
            replace h34 := fm h34 L213
            replace h36 := fm h36 L213
            replace h38 := fm h38 L213
            replace h40 := fm h40 L213
            replace h42 := fm h42 L213
            replace h105 := fm h105 L213
            replace h107 := fm h107 L213
            replace h109 := fm h109 L213
            replace h124 := fm h124 L213
            replace g0 := fm g0 L213
            replace g1 := fm g1 L213
            replace g2 := fm g2 L213
            replace OE := rm OE L213
            replace hr191 := fm hr191 L213
            replace h198 := fm h198 L213
            replace O208 := rm O208 L213
            replace h217 := fm h217 X215
            obtain ⟨A218, c219, rfl, m220, m220'⟩ := h217.val
            refine ckd ?_
            refine l_nil ?_
            have SC := ((S.tk 5 0 rfl rfl).weak sup210 L213)
            refine n_lp (ak SC ?_)
            refine a_tk (v := pa gK (d.self.toNat * 1)) 8 rfl rfl SC rfl (y_ibs (k := d.self.toNat) U29 SZ23 (by omega) (Nat.zero_add _) rfl rfl (by omega)) ?_
            refine a_all (rs := [9]) (by kernel_rfl) rfl ?_
            refine aa_cons rfl ?_ ?_
            ·
             have O222 : RowR 1 (SlC 1 IntR) rd212 (((xs86).take (from_.toNat * 1) ++ ([.slice A204 ((joinC z187 p.clock).length) c205] : List Value) ++ (xs86).drop (from_.toNat * 1 + 1)).take (d.self.toNat * 1) ++ ([.slice A218 e.state.clock.length c219] : List Value) ++ ((xs86).take (from_.toNat * 1) ++ ([.slice A204 ((joinC z187 p.clock).length) c205] : List Value) ++ (xs86).drop (from_.toNat * 1 + 1)).drop (d.self.toNat * 1 + 1)) (((d.known).set from_.toNat (joinC z187 p.clock)).set d.self.toNat e.state.clock) := RowR.put (k := d.self.toNat) (cs := [.slice A218 e.state.clock.length c219]) O208 (show d.self.toNat < ((d.known).set from_.toNat (joinC z187 p.clock)).length by rw [List.length_set]; omega) rfl (show (SlC 1 IntR) rd212 [.slice A218 e.state.clock.length c219] e.state.clock from ⟨_, rfl, h217⟩)
             have xl223 := (O208).len
             refine l_so (u := .slice A218 e.state.clock.length c219) (i := 0) (xs' := (((xs86).take (from_.toNat * 1) ++ ([.slice A204 ((joinC z187 p.clock).length) c205] : List Value) ++ (xs86).drop (from_.toNat * 1 + 1)).take (d.self.toNat * 1) ++ ([.slice A218 e.state.clock.length c219] : List Value) ++ ((xs86).take (from_.toNat * 1) ++ ([.slice A204 ((joinC z187 p.clock).length) c205] : List Value) ++ (xs86).drop (from_.toNat * 1 + 1)).drop (d.self.toNat * 1 + 1))) S rfl rfl rfl rfl SZ23 (show d.self.toNat * 1 + 1 ≤ ((xs86).take (from_.toNat * 1) ++ ([.slice A204 ((joinC z187 p.clock).length) c205] : List Value) ++ (xs86).drop (from_.toNat * 1 + 1)).length by rw [xl223]; have := (show d.self.toNat < ((d.known).set from_.toNat (joinC z187 p.clock)).length by rw [List.length_set]; omega); omega) rfl rfl fun w221 S => ?_
             refine l_nil ?_
             have SC := ((S.tk 5 0 rfl rfl).weak sup210 L213)
             refine n_lp (ak SC ?_)
             refine a_done (by kernel_rfl) ?_
             clear SC
             refine n_seq ?_
             refine e_seq ?_
             refine e_reg ?_
             refine l_y (v := .agg #[ni e.self, .slice E0 e.state.clock.length q0, .slice E1 e.state.lives.length q1, .slice E2 e.state.tallies.length q2, .slice A130 ((joinC d.base p.state.clock).length) c131, .slice E3 e.log.length q3, .slice (some ⟨gK, 0, none⟩) d.known.length c84]) S (y_ld rfl (fun w S => ld_bA (vs := [ni e.self, .slice E0 e.state.clock.length q0, .slice E1 e.state.lives.length q1, .slice E2 e.state.tallies.length q2, .slice A130 ((joinC d.base p.state.clock).length) c131, .slice E3 e.log.length q3, .slice (some ⟨gK, 0, none⟩) d.known.length c84]) (i := 3) S rfl T31 rfl rfl)) ?_
             refine l_st (u := .agg #[ni e.self, .slice E0 e.state.clock.length q0, .slice E1 e.state.lives.length q1, .slice E2 e.state.tallies.length q2, .slice A130 ((joinC d.base p.state.clock).length) c131, .slice E3 e.log.length q3, .slice (some ⟨gK, 0, none⟩) d.known.length c84]) (i := 2) (cs' := #[ni e.self, .slice E0 e.state.clock.length q0, .slice E1 e.state.lives.length q1, .slice E2 e.state.tallies.length q2, .slice A130 ((joinC d.base p.state.clock).length) c131, .slice E3 e.log.length q3, .slice (some ⟨gK, 0, none⟩) d.known.length c84]) S rfl rfl rfl SZ31 rfl rfl rfl fun w224 S => ?_
             refine l_y (v := ni 0) S (y_as rfl) ?_
             refine l_nil ?_
             refine n_seq ?_
             refine e_ret ?_
             refine ret2 (v := .agg #[ni e.self, .slice E0 e.state.clock.length q0, .slice E1 e.state.lives.length q1, .slice E2 e.state.tallies.length q2, .slice A130 ((joinC d.base p.state.clock).length) c131, .slice E3 e.log.length q3, .slice (some ⟨gK, 0, none⟩) d.known.length c84]) (v' := ni 0) rfl ⟨_, rfl, ld_bA (i := 2) (vs := [ni e.self, .slice E0 e.state.clock.length q0, .slice E1 e.state.lives.length q1, .slice E2 e.state.tallies.length q2, .slice A130 ((joinC d.base p.state.clock).length) c131, .slice E3 e.log.length q3, .slice (some ⟨gK, 0, none⟩) d.known.length c84]) S rfl T31 rfl rfl⟩ rfl ?_
             have hfin : takesN (wholeN d p) p.updates = (e, 0) := by rw [← hE, List.drop_eq_nil_of_le (by omega)] <;> rfl
             have es : TakeN d from_ p = ((⟨e.self, e.state, joinC d.base p.state.clock, e.log, ((d.known).set from_.toNat (joinC z187 p.clock)).set d.self.toNat e.state.clock⟩ : Node), 0) := by unfold TakeN lenI; rw [if_neg (fun q => q hW), if_neg (by omega), if_neg hF, if_neg (fun q => q hC), if_neg (fun q => q.2 hJ), hfin, if_neg (fun q => q rfl), if_neg (by rw [hV]; simp)]; unfold doneN; rw [hi.s, hi.k, hi.b', hak]; unfold wholeN; rw [if_pos hw]
             rw [es]
             exact ⟨_, rfl, ⟨_, rfl, ⟨_, _, _, _, _, _, rfl, (fm g0 S.out), (fm g1 S.out), (fm g2 S.out), (fm h124 S.out), (S.rowOut (i := 1) rfl rfl rfl rfl OE), (S.rowOut (i := 0) rfl rfl (by first | (simp; done) | (simp; omega)) rfl O222)⟩⟩, S.below⟩
            exact aa_nil
           exact aa_nil
          exact aa_nil
         exact aa_nil
        exact aa_nil
       exact aa_nil
      exact aa_nil
     exact aa_nil
    refine l_y (v := .bool true) S (y_neT rfl rfl hJ) ?_
    refine l_nil ?_
    refine n_seq ?_
    refine e_cT rfl ?_
    refine e_seq ?_
    refine e_reg ?_
    refine l_y (v := .agg #[ni 0, .slice none 0 0, .slice none 0 0, .slice none 0 0, .slice none 0 0, .slice none 0 0, .slice none 0 0]) S (y_bd (ps := []) rfl (fun _ => by kernel_rfl)) ?_
    refine l_y (v := ni ((JoinS d.state p.state).2)) S (y_mv rfl) ?_
    refine l_st (u := .agg #[ni 0, .slice none 0 0, .slice none 0 0, .slice none 0 0, .slice none 0 0, .slice none 0 0, .slice none 0 0]) (i := 2) (cs' := #[ni 0, .slice none 0 0, .slice none 0 0, .slice none 0 0, .slice none 0 0, .slice none 0 0, .slice none 0 0]) S rfl rfl rfl SZ31 rfl rfl rfl fun w225 S => ?_
    refine l_y (v := ni ((JoinS d.state p.state).2)) S (y_as rfl) ?_
    refine l_nil ?_
    refine n_seq ?_
    refine e_ret ?_
    refine ret2 (v := .agg #[ni 0, .slice none 0 0, .slice none 0 0, .slice none 0 0, .slice none 0 0, .slice none 0 0, .slice none 0 0]) (v' := ni ((JoinS d.state p.state).2)) rfl ⟨_, rfl, ld_bA (i := 2) (vs := [ni 0, .slice none 0 0, .slice none 0 0, .slice none 0 0, .slice none 0 0, .slice none 0 0, .slice none 0 0]) S rfl T31 rfl rfl⟩ rfl ?_
    have es : TakeN d from_ p = ((⟨0, ⟨[], [], []⟩, [], [], []⟩ : Node), (JoinS d.state p.state).2) := by unfold TakeN lenI; rw [if_neg (fun q => q hW), if_neg (by omega), if_neg hF, if_neg (fun q => q hC), if_pos ⟨hw, hJ⟩] <;> rfl
    rw [es]
    exact ⟨_, rfl, ⟨_, rfl, ⟨_, _, _, _, _, _, rfl, (SliceR.nil_ _), (SliceR.nil_ _), (SliceR.nil_ _), (SliceR.nil_ _), (SliceR.nil_ _), (SliceR.nil_ _)⟩⟩, S.below⟩
   refine l_y (v := .bool false) S (y_bv (y_ld rfl (fun w S => ld_b1 (i := 1) S rfl rfl T4)) hw) ?_
   refine l_nil ?_
   refine n_seq ?_
   refine e_cF rfl ?_
   refine e_skip ?_
   refine n_seq ?_
   refine e_seq ?_
   refine e_seq ?_
   refine e_reg ?_
   refine l_y (v := pa g60 4) S (y_fb FA33_2 rfl rfl) ?_
   refine l_y (v := .slice A52 p.updates.length c53) S (y_ld rfl (fun w S => ld_b1 (i := 1) S rfl rfl T28)) ?_
   refine l_y (v := ni (p.updates.length : Int)) S (y_len U28 rfl rfl) ?_
   refine l_y (v := ni 0) S (y_mv rfl) ?_
   refine l_nil ?_
   refine n_seq ?_
   refine e_blk ?_
   refine e_trim [(1, ni from_), (3, pa g58 0), (5, pa g60 0), (6, pa g62 0), (11, pa g93 0), (79, .slice A52 p.updates.length c53), (80, ni (p.updates.length : Int)), (81, ni (0 : Int))] ⟨⟨rfl, rfl⟩, ⟨rfl, rfl⟩, ⟨rfl, rfl⟩, ⟨rfl, rfl⟩, ⟨rfl, rfl⟩, ⟨rfl, rfl⟩, ⟨rfl, rfl⟩, ⟨ival (by first | rfl | omega), rfl⟩, trivial⟩ (fun junk => ?_)
   refine e_loop (fun (gh_ : Nat × Node × (Option Addr) × Nat × (Option Addr) × Nat × (Option Addr) × Nat × (Option Addr) × Nat × (List Value)) ov w => match gh_ with | (k, e, E0, q0, E1, q1, E2, q2, E3, q3, xsE) => ∃ rd' junk, ov = [(1, ni from_), (3, pa g58 0), (5, pa g60 0), (6, pa g62 0), (11, pa g93 0), (79, .slice A52 p.updates.length c53), (80, ni (p.updates.length : Int)), (81, ni (k : Int))] ++ junk ∧ St [] W rd rd' [(g58, 31, #[ni d.self, .slice A14 d.state.clock.length c15, .slice A17 d.state.lives.length c18, .slice A20 d.state.tallies.length c21, .slice A23 d.base.length c24, .slice A26 d.log.length c27, .slice A29 d.known.length c30]), (g60, 33, #[.bool p.whole, .slice A43 p.state.clock.length c44, .slice A46 p.state.lives.length c47, .slice A49 p.state.tallies.length c50, .slice A52 p.updates.length c53, .slice A55 p.clock.length c56]), (g62, 31, #[ni 0, .slice none 0 0, .slice none 0 0, .slice none 0 0, .slice none 0 0, .slice none 0 0, .slice none 0 0]), (g93, 31, #[ni e.self, .slice E0 e.state.clock.length q0, .slice E1 e.state.lives.length q1, .slice E2 e.state.tallies.length q2, .slice A79 d.base.length c80, .slice E3 e.log.length q3, .slice (some ⟨gK, 0, none⟩) d.known.length c84])] [⟨42, 5, .slice E3 e.log.length q3, e.log.length, xsE⟩, ⟨23, 1, .slice (some ⟨gK, 0, none⟩) d.known.length c84, d.known.length, xs86⟩] w ∧ Rd.le rd71 rd' ∧ (RowR 5 UpdR rd' xsE e.log ∧ e.log.length = e.log.length) ∧ SliceR 1 IntR rd' (.slice E0 e.state.clock.length q0) e.state.clock ∧ SliceR 5 LiveR rd' (.slice E1 e.state.lives.length q1) e.state.lives ∧ SliceR 3 TallyR rd' (.slice E2 e.state.tallies.length q2) e.state.tallies ∧ k ≤ p.updates.length ∧ takesN e (p.updates.drop k) = takesN (wholeN d p) p.updates ∧ MidI e d (wholeN d p) n) (fun gh_ => match gh_ with | (k, e, E0, q0, E1, q1, E2, q2, E3, q3, xsE) => p.updates.length - k) (0, d, A73, c74, A75, c76, A77, c78, A81, c82, xs85) ⟨_, junk, rfl, (S.rw' rfl rfl), (Rd.le_refl _), ⟨O91, rfl⟩, f87, f88, f89, (by omega), (by unfold wholeN; rw [if_neg (by rw [hw]; simp)] <;> rfl), (mid_start hr (by rw [hw]; simp) (by unfold wholeN; rw [if_neg (by rw [hw]; simp)]))⟩ ?_
   rintro ⟨k, e, E0, q0, E1, q1, E2, q2, E3, q3, xsE⟩ ov229 w227 ⟨rd226, junk, rfl, S, L228, ⟨OE, on230⟩, g0, g1, g2, hk, hE, hi⟩
   replace h3 := fm h3 L228
   replace h5 := fm h5 L228
   replace h7 := fm h7 L228
   replace h9 := fm h9 L228
   replace h11 := fm h11 L228
   replace h13 := fm h13 L228
   replace h34 := fm h34 L228
   replace h36 := fm h36 L228
   replace h38 := fm h38 L228
   replace h40 := fm h40 L228
   replace h42 := fm h42 L228
   replace f90 := fm f90 L228
   replace O92 := rm O92 L228
   have hM := hi.m
   have hMl := hM.l
   refine e_seq ?_
   refine e_reg ?_
   by_cases h231 : (k : Int) < (p.updates.length : Int)
   ·
    refine l_y (v := .bool true) S (y_ltT rfl rfl h231) ?_
    refine l_nil ?_
    refine n_seq ?_
    refine e_seq ?_
    refine e_cT rfl ?_
    refine e_skip ?_
    refine n_seq ?_
    refine e_seq ?_
    refine e_blk ?_
    refine e_seq ?_
    refine e_reg ?_
    obtain ⟨z232, hz233⟩ : ∃ z, (p.updates)[k]? = some z := nth_of (by first | assumption | omega)
    obtain ⟨p234, vs235, E236, nn237, r238, Y239⟩ := y_ia U28 SZ42 h40 hz233
    clear nn237
    obtain ⟨sv240, r238e, h241⟩ := r238; subst r238e
    obtain ⟨A242, c243, rfl, m244, m244'⟩ := h241.val
    refine l_y (v := p234) S (Y239 rfl rfl (by first | rfl | omega)) ?_
    refine l_y (v := .agg #[ni z232.author, .slice A242 z232.seen.length c243, ni z232.kind, ni z232.key, ni z232.item]) S (y_ld rfl (fun w S => ld_pA (us := [ni z232.author, .slice A242 z232.seen.length c243, ni z232.kind, ni z232.key, ni z232.item]) S.le E236 T42 rfl rfl)) ?_
    refine l_al (cs := #[ni 0, .slice none 0 0, ni 0, ni 0, ni 0]) S Z42 rfl fun g245 w246 S => ?_
    refine l_st (u := .agg #[ni z232.author, .slice A242 z232.seen.length c243, ni z232.kind, ni z232.key, ni z232.item]) (i := 4) (cs' := #[ni z232.author, .slice A242 z232.seen.length c243, ni z232.kind, ni z232.key, ni z232.item]) S rfl rfl rfl SZ42 rfl rfl rfl fun w247 S => ?_
    refine l_nil ?_
    refine n_seq ?_
    refine e_seq ?_
    refine e_reg ?_
    refine l_y (v := .agg #[ni z232.author, .slice A242 z232.seen.length c243, ni z232.kind, ni z232.key, ni z232.item]) S (y_ld rfl (fun w S => ld_bA (vs := [ni z232.author, .slice A242 z232.seen.length c243, ni z232.kind, ni z232.key, ni z232.item]) (i := 4) S rfl T42 rfl rfl)) ?_
    have S := S.toEndB (i := 3) rfl
    have S := S.toEndO (i := 0) rfl
    refine l_c (en_f (vs := [pa g93 0, .agg #[ni z232.author, .slice A242 z232.seen.length c243, ni z232.kind, ni z232.key, ni z232.item]]) (CF 44 _) rfl rfl) (NTake1_m _ _ g93 e z232 _ E0 E1 E2 E3 q0 q1 q2 q3 (.slice A79 d.base.length c80) (.slice (some ⟨gK, 0, none⟩) d.known.length c84) xsE (S.give (bxk := [(g58, 31, #[ni d.self, .slice A14 d.state.clock.length c15, .slice A17 d.state.lives.length c18, .slice A20 d.state.tallies.length c21, .slice A23 d.base.length c24, .slice A26 d.log.length c27, .slice A29 d.known.length c30]), (g60, 33, #[.bool p.whole, .slice A43 p.state.clock.length c44, .slice A46 p.state.lives.length c47, .slice A49 p.state.tallies.length c50, .slice A52 p.updates.length c53, .slice A55 p.clock.length c56]), (g62, 31, #[ni 0, .slice none 0 0, .slice none 0 0, .slice none 0 0, .slice none 0 0, .slice none 0 0, .slice none 0 0]), (g245, 42, #[ni z232.author, .slice A242 z232.seen.length c243, ni z232.kind, ni z232.key, ni z232.item])]) (bx0 := [(g93, 31, #[ni e.self, .slice E0 e.state.clock.length q0, .slice E1 e.state.lives.length q1, .slice E2 e.state.tallies.length q2, .slice A79 d.base.length c80, .slice E3 e.log.length q3, .slice (some ⟨gK, 0, none⟩) d.known.length c84])]) (owk := [⟨23, 1, .slice (some ⟨gK, 0, none⟩) d.known.length c84, d.known.length, xs86⟩]) (ow0 := [⟨42, 5, .slice E3 e.log.length q3, e.log.length, xsE⟩]) rfl rfl) g0 g1 g2 OE (⟨_, rfl, ⟨_, rfl, h241⟩⟩ : AggR UpdR rd226 _ z232) hMl) ?_
    rintro e w248 ⟨A250, c251, A252, c253, A254, c255, A256, c257, xl258, rd249, rfl, k, f259, f260, f261, O262⟩
    have L263 := k.sup
    have S := S.comp (bxk := [(g58, 31, #[ni d.self, .slice A14 d.state.clock.length c15, .slice A17 d.state.lives.length c18, .slice A20 d.state.tallies.length c21, .slice A23 d.base.length c24, .slice A26 d.log.length c27, .slice A29 d.known.length c30]), (g60, 33, #[.bool p.whole, .slice A43 p.state.clock.length c44, .slice A46 p.state.lives.length c47, .slice A49 p.state.tallies.length c50, .slice A52 p.updates.length c53, .slice A55 p.clock.length c56]), (g62, 31, #[ni 0, .slice none 0 0, .slice none 0 0, .slice none 0 0, .slice none 0 0, .slice none 0 0, .slice none 0 0]), (g245, 42, #[ni z232.author, .slice A242 z232.seen.length c243, ni z232.kind, ni z232.key, ni z232.item])]) (bx0 := [(g93, 31, #[ni e.self, .slice E0 e.state.clock.length q0, .slice E1 e.state.lives.length q1, .slice E2 e.state.tallies.length q2, .slice A79 d.base.length c80, .slice E3 e.log.length q3, .slice (some ⟨gK, 0, none⟩) d.known.length c84])]) (owk := [⟨23, 1, .slice (some ⟨gK, 0, none⟩) d.known.length c84, d.known.length, xs86⟩]) (ow0 := [⟨42, 5, .slice E3 e.log.length q3, e.log.length, xsE⟩]) rfl rfl k; clear k
    replace h3 := fm h3 L263
    replace h5 := fm h5 L263
    replace h7 := fm h7 L263
    replace h9 := fm h9 L263
    replace h11 := fm h11 L263
    replace h13 := fm h13 L263
    replace h34 := fm h34 L263
    replace h36 := fm h36 L263
    replace h38 := fm h38 L263
    replace h40 := fm h40 L263
    replace h42 := fm h42 L263
    replace f90 := fm f90 L263
    replace O92 := rm O92 L263
    replace h241 := fm h241 L263
    replace E236 := PtrC.mono E236 L263
    refine ckd ?_
    refine l_y (v := ni ((takeN e z232).2)) S (y_as rfl) ?_
    refine l_nil ?_
    refine n_seq ?_
    refine e_seq ?_
    refine e_reg ?_
    refine l_y (v := ni ((takeN e z232).2)) S (y_mv rfl) ?_
    by_cases hT : (takeN e z232).2 = 0
    ·
     refine l_y (v := .bool false) S (y_neF rfl rfl hT) ?_
     refine l_nil ?_
     refine n_seq ?_
     refine e_cF rfl ?_
     refine e_skip ?_
     refine n_blk ?_
     refine n_seq ?_
     refine e_reg ?_
     refine l_y (v := ni ((k : Int) + 1)) S (y_add (r := (k : Int) + 1) rfl rfl (w64 (by omega) (by omega))) ?_
     refine l_y (v := ni ((k : Int) + 1)) S (y_mv rfl) ?_
     refine l_nil ?_
     have S := S.toEndB (i := 0) rfl
     have S := S.toEndB (i := 0) rfl
     have S := S.toEndB (i := 0) rfl
     have S := S.toEndB (i := 1) rfl
     have S := S.toEndB (i := 0) rfl
     have S := S.toEndO (i := 1) rfl
     have S := S.toEndO (i := 0) rfl
     refine n_lp ⟨(k + 1, (takeN e z232).1, A250, c251, A252, c253, A254, c255, A256, c257, xl258), _, fr_keep (m := [(1, ni from_), (3, pa g58 0), (5, pa g60 0), (6, pa g62 0), (11, pa g93 0), (79, .slice A52 p.updates.length c53), (80, ni (p.updates.length : Int)), (81, ni ((k + 1 : Nat) : Int))]) ⟨⟨rfl, rfl⟩, ⟨rfl, rfl⟩, ⟨rfl, rfl⟩, ⟨rfl, rfl⟩, ⟨rfl, rfl⟩, ⟨rfl, rfl⟩, ⟨rfl, rfl⟩, ⟨ival (by first | rfl | omega), rfl⟩, trivial⟩, ⟨_, _, rfl, (S.tk 4 2 rfl rfl), (Rd.le_trans L228 (Rd.le_trans (Rd.le_refl rd226) L263)), ⟨O262, rfl⟩, f259, f260, f261, (by omega), (takes_next hz233 hT hE), (take_mid hM hT hi)⟩, ?_⟩
     show _ < _; dsimp only; omega
    refine l_y (v := .bool true) S (y_neT rfl rfl hT) ?_
    refine l_nil ?_
    refine n_seq ?_
    refine e_cT rfl ?_
    refine e_seq ?_
    refine e_reg ?_
    refine l_y (v := .agg #[ni 0, .slice none 0 0, .slice none 0 0, .slice none 0 0, .slice none 0 0, .slice none 0 0, .slice none 0 0]) S (y_bd (ps := []) rfl (fun _ => by kernel_rfl)) ?_
    refine l_y (v := ni ((takeN e z232).2)) S (y_mv rfl) ?_
    refine l_st (u := .agg #[ni 0, .slice none 0 0, .slice none 0 0, .slice none 0 0, .slice none 0 0, .slice none 0 0, .slice none 0 0]) (i := 2) (cs' := #[ni 0, .slice none 0 0, .slice none 0 0, .slice none 0 0, .slice none 0 0, .slice none 0 0, .slice none 0 0]) S rfl rfl rfl SZ31 rfl rfl rfl fun w264 S => ?_
    refine l_y (v := ni ((takeN e z232).2)) S (y_as rfl) ?_
    refine l_nil ?_
    refine n_seq ?_
    refine e_ret ?_
    refine ret2 (v := .agg #[ni 0, .slice none 0 0, .slice none 0 0, .slice none 0 0, .slice none 0 0, .slice none 0 0, .slice none 0 0]) (v' := ni ((takeN e z232).2)) rfl ⟨_, rfl, ld_bA (i := 2) (vs := [ni 0, .slice none 0 0, .slice none 0 0, .slice none 0 0, .slice none 0 0, .slice none 0 0, .slice none 0 0]) S rfl T31 rfl rfl⟩ rfl ?_
    have es : TakeN d from_ p = ((⟨0, ⟨[], [], []⟩, [], [], []⟩ : Node), (takeN e z232).2) := by have hbad := takes_bad hz233 hT hE; unfold TakeN lenI; rw [if_neg (fun q => q hW), if_neg (by omega), if_neg hF, if_neg (fun q => q hC), if_neg (fun q => by rw [hw] at q; cases q.1), hbad, if_pos hT] <;> rfl
    rw [es]
    exact ⟨_, rfl, ⟨_, rfl, ⟨_, _, _, _, _, _, rfl, (SliceR.nil_ _), (SliceR.nil_ _), (SliceR.nil_ _), (SliceR.nil_ _), (SliceR.nil_ _), (SliceR.nil_ _)⟩⟩, S.below⟩
   refine l_y (v := .bool false) S (y_ltF rfl rfl h231) ?_
   refine l_nil ?_
   refine n_seq ?_
   refine e_seq ?_
   refine e_cF rfl ?_
   refine e_exit ?_
   refine x_seq ?_
   refine x_lp ?_
   refine x_hit ?_
   refine n_seq ?_
   refine e_seq ?_
   refine e_seq ?_
   refine e_reg ?_
   have hM6 := hM.s.clock_len
   refine l_y (v := pa g93 1) S (y_fb FA31_1 rfl rfl) ?_
   refine l_y (v := pa g93 1) S (y_fb FA27_0 rfl rfl) ?_
   refine l_y (v := .slice E0 e.state.clock.length q0) S (y_ld rfl (fun w S => ld_b1 (i := 3) S rfl rfl T23)) ?_
   refine l_y (v := pa g60 5) S (y_fb FA33_3 rfl rfl) ?_
   refine l_y (v := .slice A55 p.clock.length c56) S (y_ld rfl (fun w S => ld_b1 (i := 1) S rfl rfl T23)) ?_
   refine l_c (en_f (vs := [.slice E0 e.state.clock.length q0, .slice A55 p.clock.length c56]) (CF 29 _) rfl rfl) (Sees_calls _ _ _ _ _ (fm g0 S.le) (fm h42 S.le) (by omega)) ?_
   rintro e w265 ⟨rfl, k⟩
   have S := S.callq k; clear k
   cases hV : seesC e.state.clock p.clock
   ·
    refine ckd ?_
    refine l_y (v := .bool true) S (y_not rfl rfl) ?_
    refine l_nil ?_
    refine n_seq ?_
    refine e_cT rfl ?_
    refine e_seq ?_
    refine e_reg ?_
    refine l_y (v := .agg #[ni 0, .slice none 0 0, .slice none 0 0, .slice none 0 0, .slice none 0 0, .slice none 0 0, .slice none 0 0]) S (y_bd (ps := []) rfl (fun _ => by kernel_rfl)) ?_
    refine l_st (u := .agg #[ni 0, .slice none 0 0, .slice none 0 0, .slice none 0 0, .slice none 0 0, .slice none 0 0, .slice none 0 0]) (i := 2) (cs' := #[ni 0, .slice none 0 0, .slice none 0 0, .slice none 0 0, .slice none 0 0, .slice none 0 0, .slice none 0 0]) S rfl rfl rfl SZ31 rfl rfl rfl fun w266 S => ?_
    refine l_y (v := ni 8) S (y_as rfl) ?_
    refine l_nil ?_
    refine n_seq ?_
    refine e_ret ?_
    refine ret2 (v := .agg #[ni 0, .slice none 0 0, .slice none 0 0, .slice none 0 0, .slice none 0 0, .slice none 0 0, .slice none 0 0]) (v' := ni 8) rfl ⟨_, rfl, ld_bA (i := 2) (vs := [ni 0, .slice none 0 0, .slice none 0 0, .slice none 0 0, .slice none 0 0, .slice none 0 0, .slice none 0 0]) S rfl T31 rfl rfl⟩ rfl ?_
    have hfin : takesN (wholeN d p) p.updates = (e, 0) := by rw [← hE, List.drop_eq_nil_of_le (by omega)] <;> rfl
    have es : TakeN d from_ p = ((⟨0, ⟨[], [], []⟩, [], [], []⟩ : Node), 8) := by unfold TakeN lenI; rw [if_neg (fun q => q hW), if_neg (by omega), if_neg hF, if_neg (fun q => q hC), if_neg (fun q => by rw [hw] at q; cases q.1), hfin, if_neg (fun q => q rfl), if_pos hV] <;> rfl
    rw [es]
    exact ⟨_, rfl, ⟨_, rfl, ⟨_, _, _, _, _, _, rfl, (SliceR.nil_ _), (SliceR.nil_ _), (SliceR.nil_ _), (SliceR.nil_ _), (SliceR.nil_ _), (SliceR.nil_ _)⟩⟩, S.below⟩
   refine ckd ?_
   refine l_y (v := .bool false) S (y_not rfl rfl) ?_
   refine l_nil ?_
   refine n_seq ?_
   refine e_cF rfl ?_
   refine e_skip ?_
   refine n_seq ?_
   refine e_seq ?_
   refine e_a (fun w => St [] W rd rd226 [(g58, 31, #[ni d.self, .slice A14 d.state.clock.length c15, .slice A17 d.state.lives.length c18, .slice A20 d.state.tallies.length c21, .slice A23 d.base.length c24, .slice A26 d.log.length c27, .slice A29 d.known.length c30]), (g60, 33, #[.bool p.whole, .slice A43 p.state.clock.length c44, .slice A46 p.state.lives.length c47, .slice A49 p.state.tallies.length c50, .slice A52 p.updates.length c53, .slice A55 p.clock.length c56]), (g62, 31, #[ni 0, .slice none 0 0, .slice none 0 0, .slice none 0 0, .slice none 0 0, .slice none 0 0, .slice none 0 0]), (g93, 31, #[ni e.self, .slice E0 e.state.clock.length q0, .slice E1 e.state.lives.length q1, .slice E2 e.state.tallies.length q2, .slice A79 d.base.length c80, .slice E3 e.log.length q3, .slice (some ⟨gK, 0, none⟩) d.known.length c84])] [] w) MX rfl ?_
   have S := S.drew; have sup267 := S.sup
   have SC := (S.tk 4 0 rfl rfl)
   refine a_tk (v := pa g93 6) 0 rfl rfl SC rfl (y_fb FA31_4 rfl rfl) ?_
   refine a_tk (v := .slice (some ⟨gK, 0, none⟩) d.known.length c84) 1 rfl rfl SC rfl (y_ld rfl (fun w S => ld_b1 (i := 3) S rfl rfl T29)) ?_
   refine a_tk (v := ni from_) 2 rfl rfl SC rfl (y_mv rfl) ?_
   refine a_tk (v := pa g93 6) 3 rfl rfl SC rfl (y_fb FA31_4 rfl rfl) ?_
   refine a_tk (v := .slice (some ⟨gK, 0, none⟩) d.known.length c84) 4 rfl rfl SC rfl (y_ld rfl (fun w S => ld_b1 (i := 3) S rfl rfl T29)) ?_
   refine a_tk (v := ni from_) 5 rfl rfl SC rfl (y_mv rfl) ?_
   refine a_tk (v := pa gK (from_.toNat * 1)) 6 rfl rfl SC rfl (y_ibs (k := from_.toNat) U29 SZ23 (by omega) (Nat.zero_add _) rfl rfl (by omega)) ?_
   refine a_tk (v := pa g60 5) 8 rfl rfl SC rfl (y_fb FA33_3 rfl rfl) ?_
   refine a_tk (v := .slice A55 p.clock.length c56) 9 rfl rfl SC rfl (y_ld rfl (fun w S => ld_b1 (i := 1) S rfl rfl T23)) ?_
   refine a_all (rs := [7]) (by kernel_rfl) rfl ?_
   refine aa_cons rfl ?_ ?_
   ·
    obtain ⟨z268, hz269⟩ : ∃ z, (d.known)[from_.toNat]? = some z := nth_of (by omega)
    obtain ⟨vs270, hl271, hr272, ha273⟩ := RowR.get from_.toNat O92 hz269; clear hl271
    obtain ⟨sv274, hr272e, hr272⟩ := hr272; subst hr272e
    obtain ⟨A275, c276, rfl, m277, m277'⟩ := hr272.val
    have hak := atK_some hz269
    have hwk := wrongC_ok (hr.ks _ (List.mem_of_getElem? hz269)).1
    refine l_y (v := .slice A275 z268.length c276) S (y_ld rfl (fun w S => ld_o1 (i := 1) S rfl rfl T23 (ha273 0 _ rfl))) ?_
    refine l_nil ?_
    have SC := (S.tk 4 0 rfl rfl)
    refine n_lp (ak SC ?_)
    refine a_all (rs := [10]) (by kernel_rfl) rfl ?_
    refine aa_cons rfl ?_ ?_
    ·
     refine l_c (en_f (vs := [.slice A275 z268.length c276, .slice A55 p.clock.length c56]) (CF 31 _) rfl rfl) (Join_c _ _ _ _ _ (fm hr272 S.le) (fm h42 S.le) (by omega)) ?_
     rintro e w280 ⟨r278, rfl, h279, k⟩
     obtain ⟨rd281, S, L282, N283, X284⟩ := S.call' k; clear k
     replace h3 := fm h3 L282
     replace h5 := fm h5 L282
     replace h7 := fm h7 L282
     replace h9 := fm h9 L282
     replace h11 := fm h11 L282
     replace h13 := fm h13 L282
     replace h34 := fm h34 L282
     replace h36 := fm h36 L282
     replace h38 := fm h38 L282
     replace h40 := fm h40 L282
     replace h42 := fm h42 L282
     replace f90 := fm f90 L282
     replace O92 := rm O92 L282
     replace g0 := fm g0 L282
     replace g1 := fm g1 L282
     replace g2 := fm g2 L282
     replace OE := rm OE L282
     replace hr272 := fm hr272 L282
     have h279 := fm h279 N283
     obtain ⟨A285, c286, rfl, m287, m287'⟩ := h279.val
     refine ckd ?_
     refine l_nil ?_
     have SC := ((S.tk 4 0 rfl rfl).weak sup267 L282)
     refine n_lp (ak SC ?_)
     refine a_tk (v := pa gK (from_.toNat * 1)) 11 rfl rfl SC rfl (y_ibs (k := from_.toNat) U29 SZ23 (by omega) (Nat.zero_add _) rfl rfl (by omega)) ?_
     refine a_all (rs := [12]) (by kernel_rfl) rfl ?_
     refine aa_cons rfl ?_ ?_
     ·
      have O289 : RowR 1 (SlC 1 IntR) rd281 ((xs86).take (from_.toNat * 1) ++ ([.slice A285 ((joinC z268 p.clock).length) c286] : List Value) ++ (xs86).drop (from_.toNat * 1 + 1)) ((d.known).set from_.toNat (joinC z268 p.clock)) := RowR.put (k := from_.toNat) (cs := [.slice A285 ((joinC z268 p.clock).length) c286]) O92 (show from_.toNat < d.known.length by omega) rfl (show (SlC 1 IntR) rd281 [.slice A285 ((joinC z268 p.clock).length) c286] (joinC z268 p.clock) from ⟨_, rfl, h279⟩)
      have xl290 := (O92).len
      refine l_so (u := .slice A285 ((joinC z268 p.clock).length) c286) (i := 1) (xs' := ((xs86).take (from_.toNat * 1) ++ ([.slice A285 ((joinC z268 p.clock).length) c286] : List Value) ++ (xs86).drop (from_.toNat * 1 + 1))) S rfl rfl rfl rfl SZ23 (show from_.toNat * 1 + 1 ≤ (xs86).length by rw [xl290]; have := (show from_.toNat < d.known.length by omega); omega) rfl rfl fun w288 S => ?_
      refine l_nil ?_
      have SC := ((S.tk 4 0 rfl rfl).weak sup267 L282)
      refine n_lp (ak SC ?_)
      refine a_done (by kernel_rfl) ?_
      clear SC
      refine n_seq ?_
      refine e_seq ?_
      refine e_a (fun w => St [] W rd rd281 [(g58, 31, #[ni d.self, .slice A14 d.state.clock.length c15, .slice A17 d.state.lives.length c18, .slice A20 d.state.tallies.length c21, .slice A23 d.base.length c24, .slice A26 d.log.length c27, .slice A29 d.known.length c30]), (g60, 33, #[.bool p.whole, .slice A43 p.state.clock.length c44, .slice A46 p.state.lives.length c47, .slice A49 p.state.tallies.length c50, .slice A52 p.updates.length c53, .slice A55 p.clock.length c56]), (g62, 31, #[ni 0, .slice none 0 0, .slice none 0 0, .slice none 0 0, .slice none 0 0, .slice none 0 0, .slice none 0 0]), (g93, 31, #[ni e.self, .slice E0 e.state.clock.length q0, .slice E1 e.state.lives.length q1, .slice E2 e.state.tallies.length q2, .slice A79 d.base.length c80, .slice E3 e.log.length q3, .slice (some ⟨gK, 0, none⟩) d.known.length c84])] [] w) MX rfl ?_
      have S := S.drew; have sup291 := S.sup
      have SC := (S.tk 4 0 rfl rfl)
      refine a_tk (v := pa g93 6) 0 rfl rfl SC rfl (y_fb FA31_4 rfl rfl) ?_
      refine a_tk (v := .slice (some ⟨gK, 0, none⟩) d.known.length c84) 1 rfl rfl SC rfl (y_ld rfl (fun w S => ld_b1 (i := 3) S rfl rfl T29)) ?_
      refine a_tk (v := pa g58 0) 2 rfl rfl SC rfl (y_fb FA31_0 rfl rfl) ?_
      refine a_tk (v := ni d.self) 3 rfl rfl SC rfl (y_ld rfl (fun w S => ld_b1 (i := 0) S rfl rfl T3)) ?_
      refine a_tk (v := pa g93 1) 4 rfl rfl SC rfl (y_fb FA31_1 rfl rfl) ?_
      refine a_tk (v := pa g93 1) 5 rfl rfl SC rfl (y_fb FA27_0 rfl rfl) ?_
      refine a_tk (v := .slice E0 e.state.clock.length q0) 6 rfl rfl SC rfl (y_ld rfl (fun w S => ld_b1 (i := 3) S rfl rfl T23)) ?_
      refine a_all (rs := [7]) (by kernel_rfl) rfl ?_
      refine aa_cons rfl ?_ ?_
      ·
       refine l_c (en_f (vs := [.slice E0 e.state.clock.length q0]) (CF 45 _) rfl rfl) (CloneC_m _ _ S.le _ e.state.clock g0 (by omega)) ?_
       rintro e w292 ⟨v297, rfl, h298, k⟩
       obtain ⟨rd293, S, L294, N295, X296⟩ := S.call' k; clear k
       replace h3 := fm h3 L294
       replace h5 := fm h5 L294
       replace h7 := fm h7 L294
       replace h9 := fm h9 L294
       replace h11 := fm h11 L294
       replace h13 := fm h13 L294
       replace h34 := fm h34 L294
       replace h36 := fm h36 L294
       replace h38 := fm h38 L294
       replace h40 := fm h40 L294
       replace h42 := fm h42 L294
       replace f90 := fm f90 L294
       replace g0 := fm g0 L294
       replace g1 := fm g1 L294
       replace g2 := fm g2 L294
       replace OE := rm OE L294
       replace hr272 := fm hr272 L294
       replace h279 := fm h279 L294
       replace O289 := rm O289 L294
       replace h298 := fm h298 X296
       obtain ⟨A299, c300, rfl, m301, m301'⟩ := h298.val
       refine ckd ?_
       refine l_nil ?_
       have SC := ((S.tk 4 0 rfl rfl).weak sup291 L294)
       refine n_lp (ak SC ?_)
       refine a_tk (v := pa gK (d.self.toNat * 1)) 8 rfl rfl SC rfl (y_ibs (k := d.self.toNat) U29 SZ23 (by omega) (Nat.zero_add _) rfl rfl (by omega)) ?_
       refine a_all (rs := [9]) (by kernel_rfl) rfl ?_
       refine aa_cons rfl ?_ ?_
       ·
        have O303 : RowR 1 (SlC 1 IntR) rd293 (((xs86).take (from_.toNat * 1) ++ ([.slice A285 ((joinC z268 p.clock).length) c286] : List Value) ++ (xs86).drop (from_.toNat * 1 + 1)).take (d.self.toNat * 1) ++ ([.slice A299 e.state.clock.length c300] : List Value) ++ ((xs86).take (from_.toNat * 1) ++ ([.slice A285 ((joinC z268 p.clock).length) c286] : List Value) ++ (xs86).drop (from_.toNat * 1 + 1)).drop (d.self.toNat * 1 + 1)) (((d.known).set from_.toNat (joinC z268 p.clock)).set d.self.toNat e.state.clock) := RowR.put (k := d.self.toNat) (cs := [.slice A299 e.state.clock.length c300]) O289 (show d.self.toNat < ((d.known).set from_.toNat (joinC z268 p.clock)).length by rw [List.length_set]; omega) rfl (show (SlC 1 IntR) rd293 [.slice A299 e.state.clock.length c300] e.state.clock from ⟨_, rfl, h298⟩)
        have xl304 := (O289).len
        refine l_so (u := .slice A299 e.state.clock.length c300) (i := 1) (xs' := (((xs86).take (from_.toNat * 1) ++ ([.slice A285 ((joinC z268 p.clock).length) c286] : List Value) ++ (xs86).drop (from_.toNat * 1 + 1)).take (d.self.toNat * 1) ++ ([.slice A299 e.state.clock.length c300] : List Value) ++ ((xs86).take (from_.toNat * 1) ++ ([.slice A285 ((joinC z268 p.clock).length) c286] : List Value) ++ (xs86).drop (from_.toNat * 1 + 1)).drop (d.self.toNat * 1 + 1))) S rfl rfl rfl rfl SZ23 (show d.self.toNat * 1 + 1 ≤ ((xs86).take (from_.toNat * 1) ++ ([.slice A285 ((joinC z268 p.clock).length) c286] : List Value) ++ (xs86).drop (from_.toNat * 1 + 1)).length by rw [xl304]; have := (show d.self.toNat < ((d.known).set from_.toNat (joinC z268 p.clock)).length by rw [List.length_set]; omega); omega) rfl rfl fun w302 S => ?_
        refine l_nil ?_
        have SC := ((S.tk 4 0 rfl rfl).weak sup291 L294)
        refine n_lp (ak SC ?_)
        refine a_done (by kernel_rfl) ?_
        clear SC
        refine n_seq ?_
        refine e_seq ?_
        refine e_reg ?_
        refine l_y (v := .agg #[ni e.self, .slice E0 e.state.clock.length q0, .slice E1 e.state.lives.length q1, .slice E2 e.state.tallies.length q2, .slice A79 d.base.length c80, .slice E3 e.log.length q3, .slice (some ⟨gK, 0, none⟩) d.known.length c84]) S (y_ld rfl (fun w S => ld_bA (vs := [ni e.self, .slice E0 e.state.clock.length q0, .slice E1 e.state.lives.length q1, .slice E2 e.state.tallies.length q2, .slice A79 d.base.length c80, .slice E3 e.log.length q3, .slice (some ⟨gK, 0, none⟩) d.known.length c84]) (i := 3) S rfl T31 rfl rfl)) ?_
        refine l_st (u := .agg #[ni e.self, .slice E0 e.state.clock.length q0, .slice E1 e.state.lives.length q1, .slice E2 e.state.tallies.length q2, .slice A79 d.base.length c80, .slice E3 e.log.length q3, .slice (some ⟨gK, 0, none⟩) d.known.length c84]) (i := 2) (cs' := #[ni e.self, .slice E0 e.state.clock.length q0, .slice E1 e.state.lives.length q1, .slice E2 e.state.tallies.length q2, .slice A79 d.base.length c80, .slice E3 e.log.length q3, .slice (some ⟨gK, 0, none⟩) d.known.length c84]) S rfl rfl rfl SZ31 rfl rfl rfl fun w305 S => ?_
        refine l_y (v := ni 0) S (y_as rfl) ?_
        refine l_nil ?_
        refine n_seq ?_
        refine e_ret ?_
        refine ret2 (v := .agg #[ni e.self, .slice E0 e.state.clock.length q0, .slice E1 e.state.lives.length q1, .slice E2 e.state.tallies.length q2, .slice A79 d.base.length c80, .slice E3 e.log.length q3, .slice (some ⟨gK, 0, none⟩) d.known.length c84]) (v' := ni 0) rfl ⟨_, rfl, ld_bA (i := 2) (vs := [ni e.self, .slice E0 e.state.clock.length q0, .slice E1 e.state.lives.length q1, .slice E2 e.state.tallies.length q2, .slice A79 d.base.length c80, .slice E3 e.log.length q3, .slice (some ⟨gK, 0, none⟩) d.known.length c84]) S rfl T31 rfl rfl⟩ rfl ?_
        have hfin : takesN (wholeN d p) p.updates = (e, 0) := by rw [← hE, List.drop_eq_nil_of_le (by omega)] <;> rfl
        have es : TakeN d from_ p = ((⟨e.self, e.state, d.base, e.log, ((d.known).set from_.toNat (joinC z268 p.clock)).set d.self.toNat e.state.clock⟩ : Node), 0) := by unfold TakeN lenI; rw [if_neg (fun q => q hW), if_neg (by omega), if_neg hF, if_neg (fun q => q hC), if_neg (fun q => by rw [hw] at q; cases q.1), hfin, if_neg (fun q => q rfl), if_neg (by rw [hV]; simp)]; unfold doneN; rw [hi.s, hi.k, hi.b', hak]; unfold wholeN; rw [if_neg (by rw [hw]; simp)]
        rw [es]
        exact ⟨_, rfl, ⟨_, rfl, ⟨_, _, _, _, _, _, rfl, (fm g0 S.out), (fm g1 S.out), (fm g2 S.out), (fm f90 S.out), (S.rowOut (i := 0) rfl rfl rfl rfl OE), (S.rowOut (i := 1) rfl rfl (by first | (simp; done) | (simp; omega)) rfl O303)⟩⟩, S.below⟩
       exact aa_nil
      exact aa_nil
     exact aa_nil
    exact aa_nil
   exact aa_nil
  refine l_y (v := .bool true) S (y_neT rfl rfl hC) ?_
  refine l_nil ?_
  refine n_seq ?_
  refine e_cT rfl ?_
  refine e_seq ?_
  refine e_reg ?_
  refine l_y (v := .agg #[ni 0, .slice none 0 0, .slice none 0 0, .slice none 0 0, .slice none 0 0, .slice none 0 0, .slice none 0 0]) S (y_bd (ps := []) rfl (fun _ => by kernel_rfl)) ?_
  refine l_y (v := ni (wrongC p.clock (d.known.length : Int))) S (y_mv rfl) ?_
  refine l_st (u := .agg #[ni 0, .slice none 0 0, .slice none 0 0, .slice none 0 0, .slice none 0 0, .slice none 0 0, .slice none 0 0]) (i := 2) (cs' := #[ni 0, .slice none 0 0, .slice none 0 0, .slice none 0 0, .slice none 0 0, .slice none 0 0, .slice none 0 0]) S rfl rfl rfl SZ31 rfl rfl rfl fun w306 S => ?_
  refine l_y (v := ni (wrongC p.clock (d.known.length : Int))) S (y_as rfl) ?_
  refine l_nil ?_
  refine n_seq ?_
  refine e_ret ?_
  refine ret2 (v := .agg #[ni 0, .slice none 0 0, .slice none 0 0, .slice none 0 0, .slice none 0 0, .slice none 0 0, .slice none 0 0]) (v' := ni (wrongC p.clock (d.known.length : Int))) rfl ⟨_, rfl, ld_bA (i := 2) (vs := [ni 0, .slice none 0 0, .slice none 0 0, .slice none 0 0, .slice none 0 0, .slice none 0 0, .slice none 0 0]) S rfl T31 rfl rfl⟩ rfl ?_
  have es : TakeN d from_ p = ((⟨0, ⟨[], [], []⟩, [], [], []⟩ : Node), wrongC p.clock (d.known.length : Int)) := by unfold TakeN lenI; rw [if_neg (fun q => q hW), if_neg (by omega), if_neg hF, if_pos hC] <;> rfl
  rw [es]
  exact ⟨_, rfl, ⟨_, rfl, ⟨_, _, _, _, _, _, rfl, (SliceR.nil_ _), (SliceR.nil_ _), (SliceR.nil_ _), (SliceR.nil_ _), (SliceR.nil_ _), (SliceR.nil_ _)⟩⟩, S.below⟩
 refine l_y (v := .bool true) S (y_neT rfl rfl hW) ?_
 refine l_nil ?_
 refine n_seq ?_
 refine e_cT rfl ?_
 refine e_seq ?_
 refine e_reg ?_
 refine l_y (v := .agg #[ni 0, .slice none 0 0, .slice none 0 0, .slice none 0 0, .slice none 0 0, .slice none 0 0, .slice none 0 0]) S (y_bd (ps := []) rfl (fun _ => by kernel_rfl)) ?_
 refine l_y (v := ni (wrongN d)) S (y_mv rfl) ?_
 refine l_st (u := .agg #[ni 0, .slice none 0 0, .slice none 0 0, .slice none 0 0, .slice none 0 0, .slice none 0 0, .slice none 0 0]) (i := 2) (cs' := #[ni 0, .slice none 0 0, .slice none 0 0, .slice none 0 0, .slice none 0 0, .slice none 0 0, .slice none 0 0]) S rfl rfl rfl SZ31 rfl rfl rfl fun w307 S => ?_
 refine l_y (v := ni (wrongN d)) S (y_as rfl) ?_
 refine l_nil ?_
 refine n_seq ?_
 refine e_ret ?_
 refine ret2 (v := .agg #[ni 0, .slice none 0 0, .slice none 0 0, .slice none 0 0, .slice none 0 0, .slice none 0 0, .slice none 0 0]) (v' := ni (wrongN d)) rfl ⟨_, rfl, ld_bA (i := 2) (vs := [ni 0, .slice none 0 0, .slice none 0 0, .slice none 0 0, .slice none 0 0, .slice none 0 0, .slice none 0 0]) S rfl T31 rfl rfl⟩ rfl ?_
 have es : TakeN d from_ p = ((⟨0, ⟨[], [], []⟩, [], [], []⟩ : Node), wrongN d) := by unfold TakeN lenI; rw [if_pos hW] <;> rfl
 rw [es]
 exact ⟨_, rfl, ⟨_, rfl, ⟨_, _, _, _, _, _, rfl, (SliceR.nil_ _), (SliceR.nil_ _), (SliceR.nil_ _), (SliceR.nil_ _), (SliceR.nil_ _), (SliceR.nil_ _)⟩⟩, S.below⟩
end Go.Proofs.YtkjknlnhffmkkacGreat
