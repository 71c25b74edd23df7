/- state.Apply, state.Play, state.Start. -/
import Derived.Test.YtkjknlnhffmkkacGreatQApply2
import Derived.Test.YtkjknlnhffmkkacGreatQPl
import Derived.Test.YtkjknlnhffmkkacGreatQSt2
import Derived.Test.YtkjknlnhffmkkacGreatQLog
namespace Go.Proofs.YtkjknlnhffmkkacGreat
open Go.RowKit
set_option linter.unusedVariables false
theorem made_ints {rd : Rd} (m : Nat) : RowR 1 IntR rd (madeCells (Value.int .i64 0).cells (m * 1)).toList (List.replicate m (0 : Int)) := by
  have e : (madeCells (Value.int .i64 0).cells (m * 1)).toList = List.replicate m (.int .i64 0) := by
    refine List.ext_getElem (by simp [madeCells]) fun i h1 h2 => ?_
    simp [madeCells, Value.cells, Nat.mod_one]
  rw [e]
  clear e
  induction m with
  | zero => rfl
  | succ m ih => exact ⟨[.int .i64 0], _, rfl, rfl, rfl, ih⟩
set_option maxRecDepth 100000 in
set_option maxHeartbeats 4000000 in
theorem SApply_c (rd : Rd) (W : World) (hle : Rd.le rd (wrd W)) (v v2 : Value) (s : State) (u : Upd) (h : AggR StateR rd v s) (h2 : AggR UpdR rd v2 u) :
    Calls Tryz.prog 55 #[v, v2] W (fun e w' => ∃ v', e = .returned (.tuple #[v', .int .i64 (ApplyS s u).2]) ∧ AggR StateR (ext rd W w') v' (ApplyS s u).1 ∧ Below W.heap.size W w') := by
 obtain ⟨vs1, he, h⟩ := h; subst he
 obtain ⟨sv2, sv4, sv6, he, h3, h5, h7⟩ := h; subst he
 obtain ⟨A8, c9, rfl, m10, m10'⟩ := h3.val
 obtain ⟨A11, c12, rfl, m13, m13'⟩ := h5.val
 obtain ⟨A14, c15, rfl, m16, m16'⟩ := h7.val
 obtain ⟨vs17, h2e, h2⟩ := h2; subst h2e
 obtain ⟨sv18, h2e, h19⟩ := h2; subst h2e
 obtain ⟨A20, c21, rfl, m22, m22'⟩ := h19.val
 have hmx : maxLen = 9223372036854775807 := rfl
 have S : St [] W rd rd [] [] W := St.start hle
 refine e_enter (args := [.agg #[.slice A8 s.clock.length c9, .slice A11 s.lives.length c12, .slice A14 s.tallies.length c15], .agg #[ni u.author, .slice A20 u.seen.length c21, ni u.kind, ni u.key, ni u.item]]) 40 Tryz.func55 rfl rfl rfl ?_
 refine e_seq ?_
 refine e_reg ?_
 refine l_bx (u := .agg #[.slice A8 s.clock.length c9, .slice A11 s.lives.length c12, .slice A14 s.tallies.length c15]) (cs := #[.slice A8 s.clock.length c9, .slice A11 s.lives.length c12, .slice A14 s.tallies.length c15]) S rfl rfl fun g23 w24 S => ?_
 refine l_bx (u := .agg #[ni u.author, .slice A20 u.seen.length c21, ni u.kind, ni u.key, ni u.item]) (cs := #[ni u.author, .slice A20 u.seen.length c21, ni u.kind, ni u.key, ni u.item]) S rfl rfl fun g25 w26 S => ?_
 refine l_al (cs := #[.slice none 0 0, .slice none 0 0, .slice none 0 0]) S Z27 rfl fun g27 w28 S => ?_
 refine l_y (v := ni 0) S (y_as rfl) ?_
 refine l_nil ?_
 refine n_seq ?_
 refine e_seq ?_
 refine e_reg ?_
 refine l_y (v := pa g23 0) S (y_fb FA27_0 rfl rfl) ?_
 refine l_y (v := .slice A8 s.clock.length c9) S (y_ld rfl (fun w S => ld_b1 (i := 0) S rfl rfl T23)) ?_
 refine l_y (v := ni (s.clock.length : Int)) S (y_len U23 rfl rfl) ?_
 refine l_y (v := ni (s.clock.length : Int)) S (y_as rfl) ?_
 refine l_nil ?_
 refine n_seq ?_
 refine e_seq ?_
 refine e_seq ?_
 refine e_reg ?_
 refine l_y (v := .agg #[.slice A8 s.clock.length c9, .slice A11 s.lives.length c12, .slice A14 s.tallies.length c15]) S (y_ld rfl (fun w S => ld_bA (vs := [.slice A8 s.clock.length c9, .slice A11 s.lives.length c12, .slice A14 s.tallies.length c15]) (i := 0) S rfl T27 rfl rfl)) ?_
 refine l_y (v := ni (s.clock.length : Int)) S (y_mv rfl) ?_
 refine l_c (en_f (vs := [.agg #[.slice A8 s.clock.length c9, .slice A11 s.lives.length c12, .slice A14 s.tallies.length c15], ni (s.clock.length : Int)]) (CF 48 _) rfl rfl) (SWrong_c _ _ S.le _ s (s.clock.length : Int) (⟨_, rfl, ⟨_, _, _, rfl, h3, h5, h7⟩⟩ : AggR StateR rd _ s)) ?_
 rintro e w29 ⟨rfl, k⟩
 have S := S.callq k; clear k
 refine ckd ?_
 refine l_al (cs := #[ni 0, ni 0]) S Z84 rfl fun g30 w31 S => ?_
 refine l_st (u := .agg #[ni ((wrongS s (s.clock.length : Int)).1), ni ((wrongS s (s.clock.length : Int)).2)]) (i := 3) (cs' := #[ni ((wrongS s (s.clock.length : Int)).1), ni ((wrongS s (s.clock.length : Int)).2)]) S rfl rfl rfl SZ84 rfl rfl rfl fun w32 S => ?_
 refine l_nil ?_
 refine n_seq ?_
 refine e_seq ?_
 refine e_reg ?_
 refine l_y (v := pa g30 0) S (y_fb FA84_0 rfl rfl) ?_
 refine l_y (v := ni ((wrongS s (s.clock.length : Int)).1)) S (y_ld rfl (fun w S => ld_b1 (i := 3) S rfl rfl T35)) ?_
 by_cases hW : (wrongS s (s.clock.length : Int)).1 = 0
 ·
  refine l_y (v := .bool false) S (y_neF rfl rfl hW) ?_
  refine l_nil ?_
  refine n_seq ?_
  refine e_cF rfl ?_
  refine e_skip ?_
  refine n_seq ?_
  refine e_seq ?_
  refine e_seq ?_
  refine e_reg ?_
  refine l_y (v := pa g23 0) S (y_fb FA27_0 rfl rfl) ?_
  refine l_y (v := .slice A8 s.clock.length c9) S (y_ld rfl (fun w S => ld_b1 (i := 0) S rfl rfl T23)) ?_
  refine l_y (v := .agg #[ni u.author, .slice A20 u.seen.length c21, ni u.kind, ni u.key, ni u.item]) S (y_ld rfl (fun w S => ld_bA (vs := [ni u.author, .slice A20 u.seen.length c21, ni u.kind, ni u.key, ni u.item]) (i := 1) S rfl T42 rfl rfl)) ?_
  refine l_bs (ps := [(0, .agg #[ni u.author, .slice A20 u.seen.length c21, ni u.kind, ni u.key, ni u.item])]) (cs := #[ni u.author, .slice A20 u.seen.length c21, ni u.kind, ni u.key, ni u.item]) S U28 SZ42 Z42 rfl rfl rfl (by kernel_rfl) fun g33 w34 S => ?_
  obtain ⟨rd35, S, L36, Fz37⟩ := S.frz' (i := 4) rfl rfl
  replace h3 := fm h3 L36
  replace h5 := fm h5 L36
  replace h7 := fm h7 L36
  replace h19 := fm h19 L36
  have F38 := Fz37 (size := 5) (R := UpdR) (xs := ([u] : List Upd)) (n := 1) (c := 1) rfl (Nat.le_refl _) (by simp [maxLen]) ⟨[ni u.author, .slice A20 u.seen.length c21, ni u.kind, ni u.key, ni u.item], _, rfl, rfl, ⟨_, rfl, h19⟩, rfl⟩; clear Fz37
  refine l_y (v := ni (s.clock.length : Int)) S (y_mv rfl) ?_
  refine l_c (en_f (vs := [.slice A8 s.clock.length c9, .slice (some ⟨g33, 0, none⟩) 1 1, ni (s.clock.length : Int)]) (CF 49 _) rfl rfl) (Clock_calls _ _ _ _ _ _ (fm h3 S.le) (fm F38 S.le)) ?_
  rintro e w41 ⟨r39, rfl, h40, k⟩
  obtain ⟨rd42, S, L43, N44, X45⟩ := S.call' k; clear k
  replace h3 := fm h3 L43
  replace h5 := fm h5 L43
  replace h7 := fm h7 L43
  replace h19 := fm h19 L43
  replace F38 := fm F38 L43
  have h40 := fm h40 N44
  obtain ⟨A46, c47, rfl, m48, m48'⟩ := h40.val
  refine ckd ?_
  refine l_y (v := .tuple #[.slice A46 (((clockL s.clock ([u] : List Upd) (s.clock.length : Int)).1).length) c47, .agg #[ni ((clockL s.clock ([u] : List Upd) (s.clock.length : Int)).2.1), ni ((clockL s.clock ([u] : List Upd) (s.clock.length : Int)).2.2)]]) S (y_mv rfl) ?_
  refine l_y (v := .slice A46 (((clockL s.clock ([u] : List Upd) (s.clock.length : Int)).1).length) c47) S (y_ex rfl rfl) ?_
  refine l_y (v := .agg #[ni ((clockL s.clock ([u] : List Upd) (s.clock.length : Int)).2.1), ni ((clockL s.clock ([u] : List Upd) (s.clock.length : Int)).2.2)]) S (y_ex rfl rfl) ?_
  refine l_al (cs := #[ni 0, ni 0]) S Z84 rfl fun g49 w50 S => ?_
  refine l_y (v := .slice A46 (((clockL s.clock ([u] : List Upd) (s.clock.length : Int)).1).length) c47) S (y_as rfl) ?_
  refine l_st (u := .agg #[ni ((clockL s.clock ([u] : List Upd) (s.clock.length : Int)).2.1), ni ((clockL s.clock ([u] : List Upd) (s.clock.length : Int)).2.2)]) (i := 4) (cs' := #[ni ((clockL s.clock ([u] : List Upd) (s.clock.length : Int)).2.1), ni ((clockL s.clock ([u] : List Upd) (s.clock.length : Int)).2.2)]) S rfl rfl rfl SZ84 rfl rfl rfl fun w51 S => ?_
  refine l_nil ?_
  refine n_seq ?_
  refine e_seq ?_
  refine e_reg ?_
  refine l_y (v := pa g49 0) S (y_fb FA84_0 rfl rfl) ?_
  refine l_y (v := ni ((clockL s.clock ([u] : List Upd) (s.clock.length : Int)).2.1)) S (y_ld rfl (fun w S => ld_b1 (i := 4) S rfl rfl T35)) ?_
  by_cases hC : (clockL s.clock ([u] : List Upd) (s.clock.length : Int)).2.1 = 0
  ·
   refine l_y (v := .bool false) S (y_neF rfl rfl hC) ?_
   refine l_nil ?_
   refine n_seq ?_
   refine e_cF rfl ?_
   refine e_skip ?_
   refine n_seq ?_
   refine e_seq ?_
   refine e_reg ?_
   refine l_y (v := .agg #[.slice A8 s.clock.length c9, .slice A11 s.lives.length c12, .slice A14 s.tallies.length c15]) S (y_ld rfl (fun w S => ld_bA (vs := [.slice A8 s.clock.length c9, .slice A11 s.lives.length c12, .slice A14 s.tallies.length c15]) (i := 0) S rfl T27 rfl rfl)) ?_
   refine l_y (v := .agg #[ni u.author, .slice A20 u.seen.length c21, ni u.kind, ni u.key, ni u.item]) S (y_ld rfl (fun w S => ld_bA (vs := [ni u.author, .slice A20 u.seen.length c21, ni u.kind, ni u.key, ni u.item]) (i := 1) S rfl T42 rfl rfl)) ?_
   refine l_c (en_f (vs := [.agg #[.slice A8 s.clock.length c9, .slice A11 s.lives.length c12, .slice A14 s.tallies.length c15], .agg #[ni u.author, .slice A20 u.seen.length c21, ni u.kind, ni u.key, ni u.item]]) (CF 96 _) rfl rfl) (Apply_c _ _ S.le _ _ s u _ (⟨_, rfl, ⟨_, _, _, rfl, h3, h5, h7⟩⟩ : AggR StateR rd42 _ s) (⟨_, rfl, ⟨_, rfl, h19⟩⟩ : AggR UpdR rd42 _ u) (clock1_ok hW hC).1 (clock1_ok hW hC).2) ?_
   rintro e w52 ⟨v57, rfl, h58, k⟩
   obtain ⟨rd53, S, L54, N55, X56⟩ := S.call' k; clear k
   replace h3 := fm h3 L54
   replace h5 := fm h5 L54
   replace h7 := fm h7 L54
   replace h19 := fm h19 L54
   replace F38 := fm F38 L54
   replace h40 := fm h40 L54
   replace h58 := am h58 X56
   obtain ⟨cs59, h58v, h58⟩ := h58; subst h58v
   obtain ⟨sv60, sv62, sv64, h58e, h61, h63, h65⟩ := h58; subst h58e
   obtain ⟨A66, c67, rfl, m68, m68'⟩ := h61.val
   obtain ⟨A69, c70, rfl, m71, m71'⟩ := h63.val
   obtain ⟨A72, c73, rfl, m74, m74'⟩ := h65.val
   refine ckd ?_
   refine l_st (u := .agg #[.slice A66 (((applyS s u).clock).length) c67, .slice A69 (((applyS s u).lives).length) c70, .slice A72 (((applyS s u).tallies).length) c73]) (i := 2) (cs' := #[.slice A66 (((applyS s u).clock).length) c67, .slice A69 (((applyS s u).lives).length) c70, .slice A72 (((applyS s u).tallies).length) c73]) S rfl rfl rfl SZ27 rfl rfl rfl fun w75 S => ?_
   refine l_y (v := ni 0) S (y_as rfl) ?_
   refine l_nil ?_
   refine n_seq ?_
   refine e_ret ?_
   refine ret2 (v := .agg #[.slice A66 (((applyS s u).clock).length) c67, .slice A69 (((applyS s u).lives).length) c70, .slice A72 (((applyS s u).tallies).length) c73]) (v' := ni 0) rfl ⟨_, rfl, ld_bA (i := 2) (vs := [.slice A66 (((applyS s u).clock).length) c67, .slice A69 (((applyS s u).lives).length) c70, .slice A72 (((applyS s u).tallies).length) c73]) S rfl T27 rfl rfl⟩ rfl ?_
   rw [ApplyS_3 hW hC]
   exact ⟨_, rfl, ⟨_, rfl, ⟨_, _, _, rfl, (fm h61 S.out), (fm h63 S.out), (fm h65 S.out)⟩⟩, S.below⟩
  refine l_y (v := .bool true) S (y_neT rfl rfl hC) ?_
  refine l_nil ?_
  refine n_seq ?_
  refine e_cT rfl ?_
  refine e_seq ?_
  refine e_a (fun w => St [] W rd rd42 [(g23, 27, #[.slice A8 s.clock.length c9, .slice A11 s.lives.length c12, .slice A14 s.tallies.length c15]), (g25, 42, #[ni u.author, .slice A20 u.seen.length c21, ni u.kind, ni u.key, ni u.item]), (g30, 84, #[ni ((wrongS s (s.clock.length : Int)).1), ni ((wrongS s (s.clock.length : Int)).2)]), (g49, 84, #[ni ((clockL s.clock ([u] : List Upd) (s.clock.length : Int)).2.1), ni ((clockL s.clock ([u] : List Upd) (s.clock.length : Int)).2.2)])] [] w) MX rfl ?_
  have S := S.drew; have sup76 := S.sup
  have SC := ((S.tk 5 0 rfl rfl).del 2)
  refine a_tk (v := .agg #[.slice none 0 0, .slice none 0 0, .slice none 0 0]) 0 rfl rfl SC rfl (y_bd (ps := []) rfl (fun _ => by kernel_rfl)) ?_
  refine a_tk (v := pa g49 0) 1 rfl rfl SC rfl (y_fb FA84_0 rfl rfl) ?_
  refine a_tk (v := ni ((clockL s.clock ([u] : List Upd) (s.clock.length : Int)).2.1)) 2 rfl rfl SC rfl (y_ld rfl (fun w S => ld_b1 (i := 3) S rfl rfl T35)) ?_
  refine a_all (rs := [3]) (by kernel_rfl) rfl ?_
  refine aa_cons rfl ?_ ?_
  ·
   refine l_st (u := .agg #[.slice none 0 0, .slice none 0 0, .slice none 0 0]) (i := 2) (cs' := #[.slice none 0 0, .slice none 0 0, .slice none 0 0]) S rfl rfl rfl SZ27 rfl rfl rfl fun w77 S => ?_
   refine l_nil ?_
   have SC := ((S.tk 5 0 rfl rfl).del 2)
   refine n_lp (ak SC ?_)
   refine a_tk (v := ni ((clockL s.clock ([u] : List Upd) (s.clock.length : Int)).2.1)) 4 rfl rfl SC rfl (y_as rfl) ?_
   refine a_done (by kernel_rfl) ?_
   clear SC
   refine n_seq ?_
   refine e_ret ?_
   refine ret2 (v := .agg #[.slice none 0 0, .slice none 0 0, .slice none 0 0]) (v' := ni ((clockL s.clock ([u] : List Upd) (s.clock.length : Int)).2.1)) rfl ⟨_, rfl, ld_bA (i := 2) (vs := [.slice none 0 0, .slice none 0 0, .slice none 0 0]) S rfl T27 rfl rfl⟩ rfl ?_
   rw [ApplyS_2 hW hC]
   exact ⟨_, rfl, ⟨_, rfl, ⟨_, _, _, rfl, (SliceR.nil_ _), (SliceR.nil_ _), (SliceR.nil_ _)⟩⟩, S.below⟩
  exact aa_nil
 refine l_y (v := .bool true) S (y_neT rfl rfl hW) ?_
 refine l_nil ?_
 refine n_seq ?_
 refine e_cT rfl ?_
 refine e_seq ?_
 refine e_a (fun w => St [] W rd rd [(g23, 27, #[.slice A8 s.clock.length c9, .slice A11 s.lives.length c12, .slice A14 s.tallies.length c15]), (g25, 42, #[ni u.author, .slice A20 u.seen.length c21, ni u.kind, ni u.key, ni u.item]), (g30, 84, #[ni ((wrongS s (s.clock.length : Int)).1), ni ((wrongS s (s.clock.length : Int)).2)])] [] w) MX rfl ?_
 have S := S.drew; have sup78 := S.sup
 have SC := ((S.tk 4 0 rfl rfl).del 2)
 refine a_tk (v := .agg #[.slice none 0 0, .slice none 0 0, .slice none 0 0]) 0 rfl rfl SC rfl (y_bd (ps := []) rfl (fun _ => by kernel_rfl)) ?_
 refine a_tk (v := pa g30 0) 1 rfl rfl SC rfl (y_fb FA84_0 rfl rfl) ?_
 refine a_tk (v := ni ((wrongS s (s.clock.length : Int)).1)) 2 rfl rfl SC rfl (y_ld rfl (fun w S => ld_b1 (i := 2) S rfl rfl T35)) ?_
 refine a_all (rs := [3]) (by kernel_rfl) rfl ?_
 refine aa_cons rfl ?_ ?_
 ·
  refine l_st (u := .agg #[.slice none 0 0, .slice none 0 0, .slice none 0 0]) (i := 2) (cs' := #[.slice none 0 0, .slice none 0 0, .slice none 0 0]) S rfl rfl rfl SZ27 rfl rfl rfl fun w79 S => ?_
  refine l_nil ?_
  have SC := ((S.tk 4 0 rfl rfl).del 2)
  refine n_lp (ak SC ?_)
  refine a_tk (v := ni ((wrongS s (s.clock.length : Int)).1)) 4 rfl rfl SC rfl (y_as rfl) ?_
  refine a_done (by kernel_rfl) ?_
  clear SC
  refine n_seq ?_
  refine e_ret ?_
  refine ret2 (v := .agg #[.slice none 0 0, .slice none 0 0, .slice none 0 0]) (v' := ni ((wrongS s (s.clock.length : Int)).1)) rfl ⟨_, rfl, ld_bA (i := 2) (vs := [.slice none 0 0, .slice none 0 0, .slice none 0 0]) S rfl T27 rfl rfl⟩ rfl ?_
  rw [ApplyS_1 hW]
  exact ⟨_, rfl, ⟨_, rfl, ⟨_, _, _, rfl, (SliceR.nil_ _), (SliceR.nil_ _), (SliceR.nil_ _)⟩⟩, S.below⟩
 exact aa_nil

set_option maxRecDepth 100000 in
theorem SStart_c (rd : Rd) (W : World) (hle : Rd.le rd (wrd W)) (n : Int) :
    Calls Tryz.prog 47 #[(.int .i64 n)] W (fun e w' => ∃ v', e = .returned v' ∧ AggR StateR (ext rd W w') v' (startG n) ∧ Below W.heap.size W w') := by
 have hmx : maxLen = 9223372036854775807 := rfl
 have S : St [] W rd rd [] [] W := St.start hle
 refine e_enter (args := [ni n]) 8 Tryz.func47 rfl rfl rfl ?_
 refine e_seq ?_
 refine e_reg ?_
 refine l_al (cs := #[.slice none 0 0, .slice none 0 0, .slice none 0 0]) S Z27 rfl fun g1 w2 S => ?_
 refine l_nil ?_
 refine n_seq ?_
 refine e_seq ?_
 refine e_reg ?_
 refine l_y (v := ni n) S (y_mv rfl) ?_
 refine l_y (v := ni (max n 0)) S (y_max rfl rfl) ?_
 refine l_y (v := ni (min (max n 0) 6)) S (y_min rfl rfl) ?_
 refine l_ms (m := (min (max n 0) 6).toNat) (size := 1) S K23 Z3 rfl rfl (by omega) (by omega) (by omega) (by simp only [maxLen]; omega) fun g3 w4 S => ?_
 have O5 : RowR 1 IntR rd ((madeCells (Value.int .i64 0).cells (((min (max n 0) 6).toNat) * 1)).toList) (List.replicate (min (max n 0) 6).toNat (0 : Int)) := made_ints _
 refine l_y (v := .agg #[.slice (some ⟨g3, 0, none⟩) ((min (max n 0) 6).toNat) ((min (max n 0) 6).toNat), .slice none 0 0, .slice none 0 0]) S (y_bd (ps := [(0, .slice (some ⟨g3, 0, none⟩) ((min (max n 0) 6).toNat) ((min (max n 0) 6).toNat))]) rfl (fun _ => by kernel_rfl)) ?_
 refine l_st (u := .agg #[.slice (some ⟨g3, 0, none⟩) ((min (max n 0) 6).toNat) ((min (max n 0) 6).toNat), .slice none 0 0, .slice none 0 0]) (i := 0) (cs' := #[.slice (some ⟨g3, 0, none⟩) ((min (max n 0) 6).toNat) ((min (max n 0) 6).toNat), .slice none 0 0, .slice none 0 0]) S rfl rfl rfl SZ27 rfl rfl rfl fun w6 S => ?_
 refine l_nil ?_
 refine n_seq ?_
 refine e_ret ?_
 refine ret1 (v := .agg #[.slice (some ⟨g3, 0, none⟩) ((min (max n 0) 6).toNat) ((min (max n 0) 6).toNat), .slice none 0 0, .slice none 0 0]) rfl ⟨_, rfl, ld_bA (i := 0) (vs := [.slice (some ⟨g3, 0, none⟩) ((min (max n 0) 6).toNat) ((min (max n 0) 6).toNat), .slice none 0 0, .slice none 0 0]) S rfl T27 rfl rfl⟩ ?_
 exact ⟨_, rfl, ⟨_, rfl, ⟨_, _, _, rfl, (S.rowOut (i := 0) rfl rfl (by simp [startG]) rfl O5), (SliceR.nil_ _), (SliceR.nil_ _)⟩⟩, S.below⟩
end Go.Proofs.YtkjknlnhffmkkacGreat
