/- state.Apply, state.Play, state.Start. -/
import Derived.Test.YtkjknlnhffmkkabQApply2
import Derived.Test.YtkjknlnhffmkkabQPl
import Derived.Test.YtkjknlnhffmkkabQSt2
import Derived.Test.YtkjknlnhffmkkabQLog
namespace Go.Proofs.Ytkjknlnhffmkkab
open Go.RowKit
set_option linter.unusedVariables false
theorem made_ints {rd : Rd} (m : Nat) : RowR 1 IntR rd (madeCells (Value.int .i64 0).cells (m * 1)).toList (List.replicate m (0 : Int)) := by
  have e : (madeCells (Value.int .i64 0).cells (m * 1)).toList = List.replicate m (.int .i64 0) := by
    refine List.ext_getElem (by simp [madeCells]) fun i h1 h2 => ?_
    simp [madeCells, Value.cells, Nat.mod_one]
  rw [e]
  clear e
  induction m with
  | zero => rfl
  | succ m ih => exact ⟨[.int .i64 0], _, rfl, rfl, rfl, ih⟩
set_option maxRecDepth 100000 in
set_option maxHeartbeats 4000000 in
theorem SApply_c (rd : Rd) (W : World) (hle : Rd.le rd (wrd W)) (v v2 : Value) (s : State) (u : Upd) (h : AggR StateR rd v s) (h2 : AggR UpdR rd v2 u) :
    Calls Try.prog 23 #[v, v2] W (fun e w' => ∃ v', e = .returned (.tuple #[v', .int .i64 (ApplyS s u).2]) ∧ AggR StateR (ext rd W w') v' (ApplyS s u).1 ∧ Below W.heap.size W w') := by
 obtain ⟨vs1, he, h⟩ := h; subst he
 obtain ⟨sv2, sv4, sv6, he, h3, h5, h7⟩ := h; subst he
 obtain ⟨A8, c9, rfl, m10, m10'⟩ := h3.val
 obtain ⟨A11, c12, rfl, m13, m13'⟩ := h5.val
 obtain ⟨A14, c15, rfl, m16, m16'⟩ := h7.val
 obtain ⟨vs17, h2e, h2⟩ := h2; subst h2e
 obtain ⟨sv18, h2e, h19⟩ := h2; subst h2e
 obtain ⟨A20, c21, rfl, m22, m22'⟩ := h19.val
 have hmx : maxLen = 9223372036854775807 := rfl
 have S : St [] W rd rd [] [] W := St.start hle
 refine e_enter (args := [.agg #[.slice A8 s.clock.length c9, .slice A11 s.lives.length c12, .slice A14 s.tallies.length c15], .agg #[.int .i64 u.author, .slice A20 u.seen.length c21, .int .i64 u.kind, .int .i64 u.key, .int .i64 u.item]]) 40 Try.func23 rfl rfl rfl ?_
 refine e_seq ?_
 refine e_reg ?_
 refine l_bx (u := .agg #[.slice A8 s.clock.length c9, .slice A11 s.lives.length c12, .slice A14 s.tallies.length c15]) (cs := #[.slice A8 s.clock.length c9, .slice A11 s.lives.length c12, .slice A14 s.tallies.length c15]) S rfl rfl fun g23 w24 S => ?_
 refine l_bx (u := .agg #[.int .i64 u.author, .slice A20 u.seen.length c21, .int .i64 u.kind, .int .i64 u.key, .int .i64 u.item]) (cs := #[.int .i64 u.author, .slice A20 u.seen.length c21, .int .i64 u.kind, .int .i64 u.key, .int .i64 u.item]) S rfl rfl fun g25 w26 S => ?_
 refine l_al (cs := #[.slice none 0 0, .slice none 0 0, .slice none 0 0]) S Z27 rfl fun g27 w28 S => ?_
 refine l_y (v := .int .i64 0) S (y_as rfl) ?_
 refine l_nil ?_
 refine n_seq ?_
 refine e_seq ?_
 refine e_reg ?_
 refine l_y (v := .pointer (some ⟨g23, 0, none⟩)) S (y_fb FA27_0 rfl rfl) ?_
 refine l_y (v := .slice A8 s.clock.length c9) S (y_ld rfl (fun w S => ld_b1 (i := 0) S rfl rfl T23)) ?_
 refine l_y (v := .int .i64 (s.clock.length : Int)) S (y_len U23 rfl rfl) ?_
 refine l_y (v := .int .i64 (s.clock.length : Int)) S (y_as rfl) ?_
 refine l_nil ?_
 refine n_seq ?_
 refine e_seq ?_
 refine e_seq ?_
 refine e_reg ?_
 refine l_y (v := .agg #[.slice A8 s.clock.length c9, .slice A11 s.lives.length c12, .slice A14 s.tallies.length c15]) S (y_ld rfl (fun w S => ld_bA (vs := [.slice A8 s.clock.length c9, .slice A11 s.lives.length c12, .slice A14 s.tallies.length c15]) (i := 0) S rfl T27 rfl rfl)) ?_
 refine l_y (v := .int .i64 (s.clock.length : Int)) S (y_mv rfl) ?_
 refine l_c (en_f (vs := [.agg #[.slice A8 s.clock.length c9, .slice A11 s.lives.length c12, .slice A14 s.tallies.length c15], .int .i64 (s.clock.length : Int)]) (CF 16 _) rfl rfl) (SWrong_c _ _ S.le _ s (s.clock.length : Int) (⟨_, rfl, ⟨_, _, _, rfl, h3, h5, h7⟩⟩ : AggR StateR rd _ s)) ?_
 rintro e w29 ⟨rfl, k⟩
 have S := S.callq k; clear k
 refine ckd ?_
 refine l_al (cs := #[.int .i64 0, .int .i64 0]) S Z33 rfl fun g30 w31 S => ?_
 refine l_st (u := .agg #[.int .i64 ((wrongS s (s.clock.length : Int)).1), .int .i64 ((wrongS s (s.clock.length : Int)).2)]) (i := 3) (cs' := #[.int .i64 ((wrongS s (s.clock.length : Int)).1), .int .i64 ((wrongS s (s.clock.length : Int)).2)]) S rfl rfl rfl SZ33 rfl rfl rfl fun w32 S => ?_
 refine l_nil ?_
 refine n_seq ?_
 refine e_seq ?_
 refine e_reg ?_
 refine l_y (v := .pointer (some ⟨g30, 0, none⟩)) S (y_fb FA33_0 rfl rfl) ?_
 refine l_y (v := .int .i64 ((wrongS s (s.clock.length : Int)).1)) S (y_ld rfl (fun w S => ld_b1 (i := 3) S rfl rfl T31)) ?_
 by_cases hW : (wrongS s (s.clock.length : Int)).1 = 0
 · -- hW yes
  refine l_y (v := .bool false) S (y_neF rfl rfl hW) ?_
  refine l_nil ?_
  refine n_seq ?_
  refine e_cF rfl ?_
  refine e_skip ?_
  refine n_seq ?_
  refine e_seq ?_
  refine e_seq ?_
  refine e_reg ?_
  refine l_y (v := .pointer (some ⟨g23, 0, none⟩)) S (y_fb FA27_0 rfl rfl) ?_
  refine l_y (v := .slice A8 s.clock.length c9) S (y_ld rfl (fun w S => ld_b1 (i := 0) S rfl rfl T23)) ?_
  refine l_y (v := .agg #[.int .i64 u.author, .slice A20 u.seen.length c21, .int .i64 u.kind, .int .i64 u.key, .int .i64 u.item]) S (y_ld rfl (fun w S => ld_bA (vs := [.int .i64 u.author, .slice A20 u.seen.length c21, .int .i64 u.kind, .int .i64 u.key, .int .i64 u.item]) (i := 1) S rfl T29 rfl rfl)) ?_
  refine l_bs (ps := [(0, .agg #[.int .i64 u.author, .slice A20 u.seen.length c21, .int .i64 u.kind, .int .i64 u.key, .int .i64 u.item])]) (cs := #[.int .i64 u.author, .slice A20 u.seen.length c21, .int .i64 u.kind, .int .i64 u.key, .int .i64 u.item]) S U36 SZ29 Z29 rfl rfl rfl (by kernel_rfl) fun g33 w34 S => ?_
  obtain ⟨rd35, S, L36, Fz37⟩ := S.frz' (i := 4) rfl rfl
  replace h3 := fm h3 L36
  replace h5 := fm h5 L36
  replace h7 := fm h7 L36
  replace h19 := fm h19 L36
  have F38 := Fz37 (size := 5) (R := UpdR) (xs := ([u] : List Upd)) (n := 1) (c := 1) rfl (Nat.le_refl _) (by simp [maxLen]) ⟨[.int .i64 u.author, .slice A20 u.seen.length c21, .int .i64 u.kind, .int .i64 u.key, .int .i64 u.item], _, rfl, rfl, ⟨_, rfl, h19⟩, rfl⟩; clear Fz37
  refine l_y (v := .int .i64 (s.clock.length : Int)) S (y_mv rfl) ?_
  refine l_c (en_f (vs := [.slice A8 s.clock.length c9, .slice (some ⟨g33, 0, none⟩) 1 1, .int .i64 (s.clock.length : Int)]) (CF 35 _) rfl rfl) (Clock_calls _ _ _ _ _ _ (fm h3 S.le) (fm F38 S.le)) ?_
  rintro e w41 ⟨r39, rfl, h40, k⟩
  obtain ⟨rd42, S, L43, N44, X45⟩ := S.call' k; clear k
  replace h3 := fm h3 L43
  replace h5 := fm h5 L43
  replace h7 := fm h7 L43
  replace h19 := fm h19 L43
  replace F38 := fm F38 L43
  have h40 := fm h40 N44
  obtain ⟨A46, c47, rfl, m48, m48'⟩ := h40.val
  refine ckd ?_
  refine l_y (v := .tuple #[.slice A46 (((clockL s.clock ([u] : List Upd) (s.clock.length : Int)).1).length) c47, .agg #[.int .i64 ((clockL s.clock ([u] : List Upd) (s.clock.length : Int)).2.1), .int .i64 ((clockL s.clock ([u] : List Upd) (s.clock.length : Int)).2.2)]]) S (y_mv rfl) ?_
  refine l_y (v := .slice A46 (((clockL s.clock ([u] : List Upd) (s.clock.length : Int)).1).length) c47) S (y_ex rfl rfl) ?_
  refine l_y (v := .agg #[.int .i64 ((clockL s.clock ([u] : List Upd) (s.clock.length : Int)).2.1), .int .i64 ((clockL s.clock ([u] : List Upd) (s.clock.length : Int)).2.2)]) S (y_ex rfl rfl) ?_
  refine l_al (cs := #[.int .i64 0, .int .i64 0]) S Z33 rfl fun g49 w50 S => ?_
  refine l_y (v := .slice A46 (((clockL s.clock ([u] : List Upd) (s.clock.length : Int)).1).length) c47) S (y_as rfl) ?_
  refine l_st (u := .agg #[.int .i64 ((clockL s.clock ([u] : List Upd) (s.clock.length : Int)).2.1), .int .i64 ((clockL s.clock ([u] : List Upd) (s.clock.length : Int)).2.2)]) (i := 4) (cs' := #[.int .i64 ((clockL s.clock ([u] : List Upd) (s.clock.length : Int)).2.1), .int .i64 ((clockL s.clock ([u] : List Upd) (s.clock.length : Int)).2.2)]) S rfl rfl rfl SZ33 rfl rfl rfl fun w51 S => ?_
  refine l_nil ?_
  refine n_seq ?_
  refine e_trim [(2, .pointer (some ⟨g23, 0, none⟩)), (3, .pointer (some ⟨g25, 0, none⟩)), (4, .pointer (some ⟨g27, 0, none⟩)), (5, .int .i64 0), (9, .pointer (some ⟨g49, 0, none⟩))] ⟨⟨rfl, rfl⟩, ⟨rfl, rfl⟩, ⟨rfl, rfl⟩, ⟨rfl, rfl⟩, ⟨rfl, rfl⟩, trivial⟩ (fun junk => ?_)
  refine e_seq ?_
  refine e_reg ?_
  refine l_y (v := .pointer (some ⟨g49, 0, none⟩)) S (y_fb FA33_0 rfl rfl) ?_
  refine l_y (v := .int .i64 ((clockL s.clock ([u] : List Upd) (s.clock.length : Int)).2.1)) S (y_ld rfl (fun w S => ld_b1 (i := 4) S rfl rfl T31)) ?_
  by_cases hC : (clockL s.clock ([u] : List Upd) (s.clock.length : Int)).2.1 = 0
  · -- hC yes
   refine l_y (v := .bool false) S (y_neF rfl rfl hC) ?_
   refine l_nil ?_
   refine n_seq ?_
   refine e_cF rfl ?_
   refine e_skip ?_
   refine n_seq ?_
   refine e_seq ?_
   refine e_reg ?_
   refine l_y (v := .agg #[.slice A8 s.clock.length c9, .slice A11 s.lives.length c12, .slice A14 s.tallies.length c15]) S (y_ld rfl (fun w S => ld_bA (vs := [.slice A8 s.clock.length c9, .slice A11 s.lives.length c12, .slice A14 s.tallies.length c15]) (i := 0) S rfl T27 rfl rfl)) ?_
   refine l_y (v := .agg #[.int .i64 u.author, .slice A20 u.seen.length c21, .int .i64 u.kind, .int .i64 u.key, .int .i64 u.item]) S (y_ld rfl (fun w S => ld_bA (vs := [.int .i64 u.author, .slice A20 u.seen.length c21, .int .i64 u.kind, .int .i64 u.key, .int .i64 u.item]) (i := 1) S rfl T29 rfl rfl)) ?_
   refine l_c (en_f (vs := [.agg #[.slice A8 s.clock.length c9, .slice A11 s.lives.length c12, .slice A14 s.tallies.length c15], .agg #[.int .i64 u.author, .slice A20 u.seen.length c21, .int .i64 u.kind, .int .i64 u.key, .int .i64 u.item]]) (CF 40 _) rfl rfl) (Apply_c _ _ S.le _ _ s u _ (⟨_, rfl, ⟨_, _, _, rfl, h3, h5, h7⟩⟩ : AggR StateR rd42 _ s) (⟨_, rfl, ⟨_, rfl, h19⟩⟩ : AggR UpdR rd42 _ u) (clock1_ok hW hC).1 (clock1_ok hW hC).2) ?_
   rintro e w52 ⟨v57, rfl, h58, k⟩
   obtain ⟨rd53, S, L54, N55, X56⟩ := S.call' k; clear k
   replace h3 := fm h3 L54
   replace h5 := fm h5 L54
   replace h7 := fm h7 L54
   replace h19 := fm h19 L54
   replace h58 := am h58 X56
   obtain ⟨cs59, h58v, h58⟩ := h58; subst h58v
   obtain ⟨sv60, sv62, sv64, h58e, h61, h63, h65⟩ := h58; subst h58e
   obtain ⟨A66, c67, rfl, m68, m68'⟩ := h61.val
   obtain ⟨A69, c70, rfl, m71, m71'⟩ := h63.val
   obtain ⟨A72, c73, rfl, m74, m74'⟩ := h65.val
   refine ckd ?_
   refine l_st (u := .agg #[.slice A66 (((applyS s u).clock).length) c67, .slice A69 (((applyS s u).lives).length) c70, .slice A72 (((applyS s u).tallies).length) c73]) (i := 2) (cs' := #[.slice A66 (((applyS s u).clock).length) c67, .slice A69 (((applyS s u).lives).length) c70, .slice A72 (((applyS s u).tallies).length) c73]) S rfl rfl rfl SZ27 rfl rfl rfl fun w75 S => ?_
   refine l_y (v := .int .i64 0) S (y_as rfl) ?_
   refine l_nil ?_
   refine n_seq ?_
   refine e_ret ?_
   refine ret2 (v := .agg #[.slice A66 (((applyS s u).clock).length) c67, .slice A69 (((applyS s u).lives).length) c70, .slice A72 (((applyS s u).tallies).length) c73]) (v' := .int .i64 0) rfl ⟨_, rfl, ld_bA (i := 2) (vs := [.slice A66 (((applyS s u).clock).length) c67, .slice A69 (((applyS s u).lives).length) c70, .slice A72 (((applyS s u).tallies).length) c73]) S rfl T27 rfl rfl⟩ rfl ?_
   rw [ApplyS_3 hW hC]
   exact ⟨_, rfl, ⟨_, rfl, ⟨_, _, _, rfl, (fm h61 S.out), (fm h63 S.out), (fm h65 S.out)⟩⟩, S.below⟩
  · -- hC no
   refine l_y (v := .bool true) S (y_neT rfl rfl hC) ?_
   refine l_nil ?_
   refine n_seq ?_
   refine e_cT rfl ?_
   refine e_seq ?_
   refine e_a (fun w => St [] W rd rd42 [(g23, 27, #[.slice A8 s.clock.length c9, .slice A11 s.lives.length c12, .slice A14 s.tallies.length c15]), (g25, 29, #[.int .i64 u.author, .slice A20 u.seen.length c21, .int .i64 u.kind, .int .i64 u.key, .int .i64 u.item]), (g30, 33, #[.int .i64 ((wrongS s (s.clock.length : Int)).1), .int .i64 ((wrongS s (s.clock.length : Int)).2)]), (g49, 33, #[.int .i64 ((clockL s.clock ([u] : List Upd) (s.clock.length : Int)).2.1), .int .i64 ((clockL s.clock ([u] : List Upd) (s.clock.length : Int)).2.2)])] [] w) MX rfl ?_
   have S := S.drew; have sup76 := S.sup
   have SC : St [] W rd rd42 [(g23, 27, #[.slice A8 s.clock.length c9, .slice A11 s.lives.length c12, .slice A14 s.tallies.length c15]), (g25, 29, #[.int .i64 u.author, .slice A20 u.seen.length c21, .int .i64 u.kind, .int .i64 u.key, .int .i64 u.item]), (g30, 33, #[.int .i64 ((wrongS s (s.clock.length : Int)).1), .int .i64 ((wrongS s (s.clock.length : Int)).2)]), (g49, 33, #[.int .i64 ((clockL s.clock ([u] : List Upd) (s.clock.length : Int)).2.1), .int .i64 ((clockL s.clock ([u] : List Upd) (s.clock.length : Int)).2.2)])] [] _ := ((S.tk 5 0 rfl rfl).del 2).rw' rfl rfl
   refine a_take (v := .agg #[.slice none 0 0, .slice none 0 0, .slice none 0 0]) 0 rfl rfl (by kernel_rfl) (by kernel_rfl) (by kernel_rfl) SC rfl (y_bd (ps := []) rfl (fun _ => by kernel_rfl)) ?_
   refine a_take (v := .pointer (some ⟨g49, 0, none⟩)) 1 rfl rfl (by kernel_rfl) (by kernel_rfl) (by kernel_rfl) SC rfl (y_fb FA33_0 rfl rfl) ?_
   refine a_take (v := .int .i64 ((clockL s.clock ([u] : List Upd) (s.clock.length : Int)).2.1)) 2 rfl rfl (by kernel_rfl) (by kernel_rfl) (by kernel_rfl) SC rfl (y_ld rfl (fun w S => ld_b1 (i := 3) S rfl rfl T31)) ?_
   refine a_all (rs := [3]) (by kernel_rfl) rfl ?_
   refine aa_cons rfl ?_ ?_
   · -- operation 3
    refine l_st (u := .agg #[.slice none 0 0, .slice none 0 0, .slice none 0 0]) (i := 2) (cs' := #[.slice none 0 0, .slice none 0 0, .slice none 0 0]) S rfl rfl rfl SZ27 rfl rfl rfl fun w77 S => ?_
    refine l_nil ?_
    have SC : St [] W rd rd42 [(g23, 27, #[.slice A8 s.clock.length c9, .slice A11 s.lives.length c12, .slice A14 s.tallies.length c15]), (g25, 29, #[.int .i64 u.author, .slice A20 u.seen.length c21, .int .i64 u.kind, .int .i64 u.key, .int .i64 u.item]), (g30, 33, #[.int .i64 ((wrongS s (s.clock.length : Int)).1), .int .i64 ((wrongS s (s.clock.length : Int)).2)]), (g49, 33, #[.int .i64 ((clockL s.clock ([u] : List Upd) (s.clock.length : Int)).2.1), .int .i64 ((clockL s.clock ([u] : List Upd) (s.clock.length : Int)).2.2)])] [] _ := ((S.tk 5 0 rfl rfl).del 2).rw' rfl rfl
    refine n_lp (ak SC ?_)
    refine a_take (v := .int .i64 ((clockL s.clock ([u] : List Upd) (s.clock.length : Int)).2.1)) 4 rfl rfl (by kernel_rfl) (by kernel_rfl) (by kernel_rfl) SC rfl (y_as rfl) ?_
    refine a_done (by kernel_rfl) ?_
    clear SC
    refine n_seq ?_
    refine e_ret ?_
    refine ret2 (v := .agg #[.slice none 0 0, .slice none 0 0, .slice none 0 0]) (v' := .int .i64 ((clockL s.clock ([u] : List Upd) (s.clock.length : Int)).2.1)) rfl ⟨_, rfl, ld_bA (i := 2) (vs := [.slice none 0 0, .slice none 0 0, .slice none 0 0]) S rfl T27 rfl rfl⟩ rfl ?_
    rw [ApplyS_2 hW hC]
    exact ⟨_, rfl, ⟨_, rfl, ⟨_, _, _, rfl, (SliceR.nil_ _), (SliceR.nil_ _), (SliceR.nil_ _)⟩⟩, S.below⟩
   exact aa_nil
 · -- hW no
  refine l_y (v := .bool true) S (y_neT rfl rfl hW) ?_
  refine l_nil ?_
  refine n_seq ?_
  refine e_cT rfl ?_
  refine e_seq ?_
  refine e_a (fun w => St [] W rd rd [(g23, 27, #[.slice A8 s.clock.length c9, .slice A11 s.lives.length c12, .slice A14 s.tallies.length c15]), (g25, 29, #[.int .i64 u.author, .slice A20 u.seen.length c21, .int .i64 u.kind, .int .i64 u.key, .int .i64 u.item]), (g30, 33, #[.int .i64 ((wrongS s (s.clock.length : Int)).1), .int .i64 ((wrongS s (s.clock.length : Int)).2)])] [] w) MX rfl ?_
  have S := S.drew; have sup78 := S.sup
  have SC : St [] W rd rd [(g23, 27, #[.slice A8 s.clock.length c9, .slice A11 s.lives.length c12, .slice A14 s.tallies.length c15]), (g25, 29, #[.int .i64 u.author, .slice A20 u.seen.length c21, .int .i64 u.kind, .int .i64 u.key, .int .i64 u.item]), (g30, 33, #[.int .i64 ((wrongS s (s.clock.length : Int)).1), .int .i64 ((wrongS s (s.clock.length : Int)).2)])] [] _ := ((S.tk 4 0 rfl rfl).del 2).rw' rfl rfl
  refine a_take (v := .agg #[.slice none 0 0, .slice none 0 0, .slice none 0 0]) 0 rfl rfl (by kernel_rfl) (by kernel_rfl) (by kernel_rfl) SC rfl (y_bd (ps := []) rfl (fun _ => by kernel_rfl)) ?_
  refine a_take (v := .pointer (some ⟨g30, 0, none⟩)) 1 rfl rfl (by kernel_rfl) (by kernel_rfl) (by kernel_rfl) SC rfl (y_fb FA33_0 rfl rfl) ?_
  refine a_take (v := .int .i64 ((wrongS s (s.clock.length : Int)).1)) 2 rfl rfl (by kernel_rfl) (by kernel_rfl) (by kernel_rfl) SC rfl (y_ld rfl (fun w S => ld_b1 (i := 2) S rfl rfl T31)) ?_
  refine a_all (rs := [3]) (by kernel_rfl) rfl ?_
  refine aa_cons rfl ?_ ?_
  · -- operation 3
   refine l_st (u := .agg #[.slice none 0 0, .slice none 0 0, .slice none 0 0]) (i := 2) (cs' := #[.slice none 0 0, .slice none 0 0, .slice none 0 0]) S rfl rfl rfl SZ27 rfl rfl rfl fun w79 S => ?_
   refine l_nil ?_
   have SC : St [] W rd rd [(g23, 27, #[.slice A8 s.clock.length c9, .slice A11 s.lives.length c12, .slice A14 s.tallies.length c15]), (g25, 29, #[.int .i64 u.author, .slice A20 u.seen.length c21, .int .i64 u.kind, .int .i64 u.key, .int .i64 u.item]), (g30, 33, #[.int .i64 ((wrongS s (s.clock.length : Int)).1), .int .i64 ((wrongS s (s.clock.length : Int)).2)])] [] _ := ((S.tk 4 0 rfl rfl).del 2).rw' rfl rfl
   refine n_lp (ak SC ?_)
   refine a_take (v := .int .i64 ((wrongS s (s.clock.length : Int)).1)) 4 rfl rfl (by kernel_rfl) (by kernel_rfl) (by kernel_rfl) SC rfl (y_as rfl) ?_
   refine a_done (by kernel_rfl) ?_
   clear SC
   refine n_seq ?_
   refine e_ret ?_
   refine ret2 (v := .agg #[.slice none 0 0, .slice none 0 0, .slice none 0 0]) (v' := .int .i64 ((wrongS s (s.clock.length : Int)).1)) rfl ⟨_, rfl, ld_bA (i := 2) (vs := [.slice none 0 0, .slice none 0 0, .slice none 0 0]) S rfl T27 rfl rfl⟩ rfl ?_
   rw [ApplyS_1 hW]
   exact ⟨_, rfl, ⟨_, rfl, ⟨_, _, _, rfl, (SliceR.nil_ _), (SliceR.nil_ _), (SliceR.nil_ _)⟩⟩, S.below⟩
  exact aa_nil

set_option maxRecDepth 100000 in
set_option maxHeartbeats 8000000 in
theorem SPlay_c (rd : Rd) (W : World) (hle : Rd.le rd (wrd W)) (v v2 : Value) (s : State) (l : List Upd) (h : AggR StateR rd v s) (h2 : SliceR 5 UpdR rd v2 l) :
    Calls Try.prog 14 #[v, v2] W (fun e w' => ∃ v', e = .returned (.tuple #[v', .agg #[.int .i64 (PlayS s l).2.1, .int .i64 (PlayS s l).2.2]]) ∧ AggR StateR (ext rd W w') v' (PlayS s l).1 ∧ Below W.heap.size W w') := by
 obtain ⟨vs1, he, h⟩ := h; subst he
 obtain ⟨sv2, sv4, sv6, he, h3, h5, h7⟩ := h; subst he
 obtain ⟨A8, c9, rfl, m10, m10'⟩ := h3.val
 obtain ⟨A11, c12, rfl, m13, m13'⟩ := h5.val
 obtain ⟨A14, c15, rfl, m16, m16'⟩ := h7.val
 obtain ⟨A17, c18, rfl, m19, m19'⟩ := h2.val
 have hmx : maxLen = 9223372036854775807 := rfl
 have S : St [] W rd rd [] [] W := St.start hle
 refine e_enter (args := [.agg #[.slice A8 s.clock.length c9, .slice A11 s.lives.length c12, .slice A14 s.tallies.length c15], .slice A17 l.length c18]) 52 Try.func14 rfl rfl rfl ?_
 refine e_seq ?_
 refine e_reg ?_
 refine l_bx (u := .agg #[.slice A8 s.clock.length c9, .slice A11 s.lives.length c12, .slice A14 s.tallies.length c15]) (cs := #[.slice A8 s.clock.length c9, .slice A11 s.lives.length c12, .slice A14 s.tallies.length c15]) S rfl rfl fun g20 w21 S => ?_
 refine l_al (cs := #[.slice none 0 0, .slice none 0 0, .slice none 0 0]) S Z27 rfl fun g22 w23 S => ?_
 refine l_al (cs := #[.int .i64 0, .int .i64 0]) S Z33 rfl fun g24 w25 S => ?_
 refine l_nil ?_
 refine n_seq ?_
 refine e_seq ?_
 refine e_reg ?_
 refine l_y (v := .pointer (some ⟨g20, 0, none⟩)) S (y_fb FA27_0 rfl rfl) ?_
 refine l_y (v := .slice A8 s.clock.length c9) S (y_ld rfl (fun w S => ld_b1 (i := 0) S rfl rfl T23)) ?_
 refine l_y (v := .int .i64 (s.clock.length : Int)) S (y_len U23 rfl rfl) ?_
 refine l_y (v := .int .i64 (s.clock.length : Int)) S (y_as rfl) ?_
 refine l_nil ?_
 refine n_seq ?_
 refine e_seq ?_
 refine e_seq ?_
 refine e_reg ?_
 refine l_y (v := .agg #[.slice A8 s.clock.length c9, .slice A11 s.lives.length c12, .slice A14 s.tallies.length c15]) S (y_ld rfl (fun w S => ld_bA (vs := [.slice A8 s.clock.length c9, .slice A11 s.lives.length c12, .slice A14 s.tallies.length c15]) (i := 0) S rfl T27 rfl rfl)) ?_
 refine l_y (v := .int .i64 (s.clock.length : Int)) S (y_mv rfl) ?_
 refine l_c (en_f (vs := [.agg #[.slice A8 s.clock.length c9, .slice A11 s.lives.length c12, .slice A14 s.tallies.length c15], .int .i64 (s.clock.length : Int)]) (CF 16 _) rfl rfl) (SWrong_c _ _ S.le _ s (s.clock.length : Int) (⟨_, rfl, ⟨_, _, _, rfl, h3, h5, h7⟩⟩ : AggR StateR rd _ s)) ?_
 rintro e w26 ⟨rfl, k⟩
 have S := S.callq k; clear k
 refine ckd ?_
 refine l_al (cs := #[.int .i64 0, .int .i64 0]) S Z33 rfl fun g27 w28 S => ?_
 refine l_st (u := .agg #[.int .i64 ((wrongS s (s.clock.length : Int)).1), .int .i64 ((wrongS s (s.clock.length : Int)).2)]) (i := 3) (cs' := #[.int .i64 ((wrongS s (s.clock.length : Int)).1), .int .i64 ((wrongS s (s.clock.length : Int)).2)]) S rfl rfl rfl SZ33 rfl rfl rfl fun w29 S => ?_
 refine l_nil ?_
 refine n_seq ?_
 refine e_seq ?_
 refine e_reg ?_
 refine l_y (v := .pointer (some ⟨g27, 0, none⟩)) S (y_fb FA33_0 rfl rfl) ?_
 refine l_y (v := .int .i64 ((wrongS s (s.clock.length : Int)).1)) S (y_ld rfl (fun w S => ld_b1 (i := 3) S rfl rfl T31)) ?_
 by_cases hW : (wrongS s (s.clock.length : Int)).1 = 0
 · -- hW yes
  refine l_y (v := .bool false) S (y_neF rfl rfl hW) ?_
  refine l_nil ?_
  refine n_seq ?_
  refine e_cF rfl ?_
  refine e_skip ?_
  refine n_seq ?_
  refine e_seq ?_
  refine e_seq ?_
  refine e_reg ?_
  refine l_y (v := .pointer (some ⟨g20, 0, none⟩)) S (y_fb FA27_0 rfl rfl) ?_
  refine l_y (v := .slice A8 s.clock.length c9) S (y_ld rfl (fun w S => ld_b1 (i := 0) S rfl rfl T23)) ?_
  refine l_y (v := .slice A17 l.length c18) S (y_mv rfl) ?_
  refine l_y (v := .int .i64 (s.clock.length : Int)) S (y_mv rfl) ?_
  refine l_c (en_f (vs := [.slice A8 s.clock.length c9, .slice A17 l.length c18, .int .i64 (s.clock.length : Int)]) (CF 35 _) rfl rfl) (Clock_calls _ _ _ _ _ _ (fm h3 S.le) (fm h2 S.le)) ?_
  rintro e w32 ⟨r30, rfl, h31, k⟩
  obtain ⟨rd33, S, L34, N35, X36⟩ := S.call' k; clear k
  replace h3 := fm h3 L34
  replace h5 := fm h5 L34
  replace h7 := fm h7 L34
  replace h2 := fm h2 L34
  have h31 := fm h31 N35
  obtain ⟨A37, c38, rfl, m39, m39'⟩ := h31.val
  refine ckd ?_
  refine l_y (v := .tuple #[.slice A37 (((clockL s.clock l (s.clock.length : Int)).1).length) c38, .agg #[.int .i64 ((clockL s.clock l (s.clock.length : Int)).2.1), .int .i64 ((clockL s.clock l (s.clock.length : Int)).2.2)]]) S (y_mv rfl) ?_
  refine l_y (v := .slice A37 (((clockL s.clock l (s.clock.length : Int)).1).length) c38) S (y_ex rfl rfl) ?_
  refine l_y (v := .agg #[.int .i64 ((clockL s.clock l (s.clock.length : Int)).2.1), .int .i64 ((clockL s.clock l (s.clock.length : Int)).2.2)]) S (y_ex rfl rfl) ?_
  refine l_al (cs := #[.int .i64 0, .int .i64 0]) S Z33 rfl fun g40 w41 S => ?_
  refine l_y (v := .slice A37 (((clockL s.clock l (s.clock.length : Int)).1).length) c38) S (y_as rfl) ?_
  refine l_st (u := .agg #[.int .i64 ((clockL s.clock l (s.clock.length : Int)).2.1), .int .i64 ((clockL s.clock l (s.clock.length : Int)).2.2)]) (i := 4) (cs' := #[.int .i64 ((clockL s.clock l (s.clock.length : Int)).2.1), .int .i64 ((clockL s.clock l (s.clock.length : Int)).2.2)]) S rfl rfl rfl SZ33 rfl rfl rfl fun w42 S => ?_
  refine l_nil ?_
  refine n_seq ?_
  refine e_trim [(1, .slice A17 l.length c18), (2, .pointer (some ⟨g20, 0, none⟩)), (4, .pointer (some ⟨g22, 0, none⟩)), (5, .pointer (some ⟨g24, 0, none⟩)), (9, .pointer (some ⟨g40, 0, none⟩))] ⟨⟨rfl, rfl⟩, ⟨rfl, rfl⟩, ⟨rfl, rfl⟩, ⟨rfl, rfl⟩, ⟨rfl, rfl⟩, trivial⟩ (fun junk => ?_)
  refine e_seq ?_
  refine e_reg ?_
  refine l_y (v := .pointer (some ⟨g40, 0, none⟩)) S (y_fb FA33_0 rfl rfl) ?_
  refine l_y (v := .int .i64 ((clockL s.clock l (s.clock.length : Int)).2.1)) S (y_ld rfl (fun w S => ld_b1 (i := 4) S rfl rfl T31)) ?_
  by_cases hC : (clockL s.clock l (s.clock.length : Int)).2.1 = 0
  · -- hC yes
   refine l_y (v := .bool false) S (y_neF rfl rfl hC) ?_
   refine l_nil ?_
   refine n_seq ?_
   refine e_cF rfl ?_
   refine e_skip ?_
   refine n_seq ?_
   refine e_seq ?_
   refine e_reg ?_
   refine l_y (v := .agg #[.slice A8 s.clock.length c9, .slice A11 s.lives.length c12, .slice A14 s.tallies.length c15]) S (y_ld rfl (fun w S => ld_bA (vs := [.slice A8 s.clock.length c9, .slice A11 s.lives.length c12, .slice A14 s.tallies.length c15]) (i := 0) S rfl T27 rfl rfl)) ?_
   refine l_c (en_f (vs := [.agg #[.slice A8 s.clock.length c9, .slice A11 s.lives.length c12, .slice A14 s.tallies.length c15]]) (CF 39 _) rfl rfl) (SOwn2_c _ _ S.le _ s (⟨_, rfl, ⟨_, _, _, rfl, h3, h5, h7⟩⟩ : AggR StateR rd33 _ s) (wrongS_iff.1 hW).bd) ?_
   rintro e w43 ⟨v48, rfl, h49, k⟩
   obtain ⟨rd44, S, L45, N46, X47⟩ := S.call' k; clear k
   replace h3 := fm h3 L45
   replace h5 := fm h5 L45
   replace h7 := fm h7 L45
   replace h2 := fm h2 L45
   replace h49 := am h49 X47
   obtain ⟨cs50, h49v, h49⟩ := h49; subst h49v
   obtain ⟨sv51, sv53, sv55, h49e, h52, h54, h56⟩ := h49; subst h49e
   obtain ⟨A57, c58, rfl, m59, m59'⟩ := h52.val
   obtain ⟨A60, c61, rfl, m62, m62'⟩ := h54.val
   obtain ⟨A63, c64, rfl, m65, m65'⟩ := h56.val
   refine ckd ?_
   refine l_st (u := .agg #[.slice A57 s.clock.length c58, .slice A60 s.lives.length c61, .slice A63 s.tallies.length c64]) (i := 0) (cs' := #[.slice A57 s.clock.length c58, .slice A60 s.lives.length c61, .slice A63 s.tallies.length c64]) S rfl rfl rfl SZ27 rfl rfl rfl fun w66 S => ?_
   refine l_nil ?_
   refine n_seq ?_
   refine e_seq ?_
   refine e_seq ?_
   refine e_reg ?_
   refine l_y (v := .slice A17 l.length c18) S (y_mv rfl) ?_
   refine l_y (v := .int .i64 (l.length : Int)) S (y_len U36 rfl rfl) ?_
   refine l_y (v := .int .i64 0) S (y_mv rfl) ?_
   refine l_nil ?_
   refine n_seq ?_
   refine e_blk ?_
   refine e_trim [(2, .pointer (some ⟨g20, 0, none⟩)), (4, .pointer (some ⟨g22, 0, none⟩)), (5, .pointer (some ⟨g24, 0, none⟩)), (40, .slice A17 l.length c18), (41, .int .i64 (l.length : Int)), (42, .int .i64 (0 : Int))] ⟨⟨rfl, rfl⟩, ⟨rfl, rfl⟩, ⟨rfl, rfl⟩, ⟨rfl, rfl⟩, ⟨rfl, rfl⟩, ⟨ival (by first | rfl | omega), rfl⟩, trivial⟩ (fun junk => ?_)
   refine e_loop (fun (gh_ : Nat × (Option Addr) × Nat × (Option Addr) × Nat × (Option Addr) × Nat) ov w => match gh_ with | (k, A0, c0, A1, c1, A2, c2) => ∃ rd' junk, ov = [(2, .pointer (some ⟨g20, 0, none⟩)), (4, .pointer (some ⟨g22, 0, none⟩)), (5, .pointer (some ⟨g24, 0, none⟩)), (40, .slice A17 l.length c18), (41, .int .i64 (l.length : Int)), (42, .int .i64 (k : Int))] ++ junk ∧ St [] W rd rd' [(g20, 27, #[.slice A0 ((playS s (l.take k)).clock.length) c0, .slice A1 ((playS s (l.take k)).lives.length) c1, .slice A2 ((playS s (l.take k)).tallies.length) c2]), (g22, 27, #[.slice none 0 0, .slice none 0 0, .slice none 0 0]), (g24, 33, #[.int .i64 0, .int .i64 0]), (g27, 33, #[.int .i64 ((wrongS s (s.clock.length : Int)).1), .int .i64 ((wrongS s (s.clock.length : Int)).2)]), (g40, 33, #[.int .i64 ((clockL s.clock l (s.clock.length : Int)).2.1), .int .i64 ((clockL s.clock l (s.clock.length : Int)).2.2)])] [] w ∧ Rd.le rd44 rd' ∧ SliceR 1 IntR rd' (.slice A0 (playS s (l.take k)).clock.length c0) (playS s (l.take k)).clock ∧ SliceR 5 LiveR rd' (.slice A1 (playS s (l.take k)).lives.length c1) (playS s (l.take k)).lives ∧ SliceR 3 TallyR rd' (.slice A2 (playS s (l.take k)).tallies.length c2) (playS s (l.take k)).tallies ∧ k ≤ l.length) (fun gh_ => match gh_ with | (k, A0, c0, A1, c1, A2, c2) => l.length - k) (0, A57, c58, A60, c61, A63, c64) ⟨_, junk, rfl, (S.rw' rfl rfl), (Rd.le_refl _), h52, h54, h56, (by omega)⟩ ?_
   rintro ⟨k, A0, c0, A1, c1, A2, c2⟩ ov70 w68 ⟨rd67, junk, rfl, S, L69, f0, f1, f2, hk⟩
   replace h2 := fm h2 L69
   refine e_seq ?_
   refine e_reg ?_
   by_cases h71 : (k : Int) < (l.length : Int)
   · -- h71 yes
    refine l_y (v := .bool true) S (y_ltT rfl rfl h71) ?_
    refine l_nil ?_
    refine n_seq ?_
    refine e_seq ?_
    refine e_cT rfl ?_
    refine e_skip ?_
    refine n_seq ?_
    refine e_seq ?_
    refine e_blk ?_
    refine e_seq ?_
    refine e_reg ?_
    obtain ⟨z72, hz73⟩ : ∃ z, (l)[k]? = some z := nth_of (by first | assumption | omega)
    obtain ⟨p74, vs75, E76, nn77, r78, Y79⟩ := y_ia U36 SZ29 h2 hz73
    clear nn77
    obtain ⟨sv80, r78e, h81⟩ := r78; subst r78e
    obtain ⟨A82, c83, rfl, m84, m84'⟩ := h81.val
    refine l_y (v := p74) S (Y79 rfl rfl (by first | rfl | omega)) ?_
    refine l_y (v := .agg #[.int .i64 z72.author, .slice A82 z72.seen.length c83, .int .i64 z72.kind, .int .i64 z72.key, .int .i64 z72.item]) S (y_ld rfl (fun w S => ld_pA (us := [.int .i64 z72.author, .slice A82 z72.seen.length c83, .int .i64 z72.kind, .int .i64 z72.key, .int .i64 z72.item]) S.le E76 T29 rfl rfl)) ?_
    refine l_al (cs := #[.int .i64 0, .slice none 0 0, .int .i64 0, .int .i64 0, .int .i64 0]) S Z29 rfl fun g85 w86 S => ?_
    refine l_st (u := .agg #[.int .i64 z72.author, .slice A82 z72.seen.length c83, .int .i64 z72.kind, .int .i64 z72.key, .int .i64 z72.item]) (i := 5) (cs' := #[.int .i64 z72.author, .slice A82 z72.seen.length c83, .int .i64 z72.kind, .int .i64 z72.key, .int .i64 z72.item]) S rfl rfl rfl SZ29 rfl rfl rfl fun w87 S => ?_
    have S : St [] W rd rd67 [(g20, 27, #[.slice A0 ((playS s (l.take k)).clock.length) c0, .slice A1 ((playS s (l.take k)).lives.length) c1, .slice A2 ((playS s (l.take k)).tallies.length) c2]), (g22, 27, #[.slice none 0 0, .slice none 0 0, .slice none 0 0]), (g24, 33, #[.int .i64 0, .int .i64 0]), (g27, 33, #[.int .i64 ((wrongS s (s.clock.length : Int)).1), .int .i64 ((wrongS s (s.clock.length : Int)).2)]), (g40, 33, #[.int .i64 ((clockL s.clock l (s.clock.length : Int)).2.1), .int .i64 ((clockL s.clock l (s.clock.length : Int)).2.2)]), (g85, 29, #[.int .i64 z72.author, .slice A82 z72.seen.length c83, .int .i64 z72.kind, .int .i64 z72.key, .int .i64 z72.item])] [] _ := S.rw' rfl rfl
    refine l_nil ?_
    refine n_seq ?_
    refine e_reg ?_
    refine l_y (v := .agg #[.slice A0 ((playS s (l.take k)).clock.length) c0, .slice A1 ((playS s (l.take k)).lives.length) c1, .slice A2 ((playS s (l.take k)).tallies.length) c2]) S (y_ld rfl (fun w S => ld_bA (vs := [.slice A0 ((playS s (l.take k)).clock.length) c0, .slice A1 ((playS s (l.take k)).lives.length) c1, .slice A2 ((playS s (l.take k)).tallies.length) c2]) (i := 0) S rfl T27 rfl rfl)) ?_
    refine l_y (v := .agg #[.int .i64 z72.author, .slice A82 z72.seen.length c83, .int .i64 z72.kind, .int .i64 z72.key, .int .i64 z72.item]) S (y_ld rfl (fun w S => ld_bA (vs := [.int .i64 z72.author, .slice A82 z72.seen.length c83, .int .i64 z72.kind, .int .i64 z72.key, .int .i64 z72.item]) (i := 5) S rfl T29 rfl rfl)) ?_
    refine l_c (en_f (vs := [.agg #[.slice A0 ((playS s (l.take k)).clock.length) c0, .slice A1 ((playS s (l.take k)).lives.length) c1, .slice A2 ((playS s (l.take k)).tallies.length) c2], .agg #[.int .i64 z72.author, .slice A82 z72.seen.length c83, .int .i64 z72.kind, .int .i64 z72.key, .int .i64 z72.item]]) (CF 40 _) rfl rfl) (Apply_c _ _ S.le _ _ (playS s (l.take k)) z72 _ (⟨_, rfl, ⟨_, _, _, rfl, f0, f1, f2⟩⟩ : AggR StateR rd67 _ (playS s (l.take k))) (⟨_, rfl, ⟨_, rfl, h81⟩⟩ : AggR UpdR rd67 _ z72) (play_go hW hC hz73).1 (play_go hW hC hz73).2) ?_
    rintro e w88 ⟨v93, rfl, h94, k⟩
    obtain ⟨rd89, S, L90, N91, X92⟩ := S.call' k; clear k
    replace h2 := fm h2 L90
    replace f0 := fm f0 L90
    replace f1 := fm f1 L90
    replace f2 := fm f2 L90
    replace h81 := fm h81 L90
    replace E76 := PtrC.mono E76 L90
    replace h94 := am h94 X92
    obtain ⟨cs95, h94v, h94⟩ := h94; subst h94v
    obtain ⟨sv96, sv98, sv100, h94e, h97, h99, h101⟩ := h94; subst h94e
    obtain ⟨A102, c103, rfl, m104, m104'⟩ := h97.val
    obtain ⟨A105, c106, rfl, m107, m107'⟩ := h99.val
    obtain ⟨A108, c109, rfl, m110, m110'⟩ := h101.val
    refine ckd ?_
    refine l_st (u := .agg #[.slice A102 (((applyS (playS s (l.take k)) z72).clock).length) c103, .slice A105 (((applyS (playS s (l.take k)) z72).lives).length) c106, .slice A108 (((applyS (playS s (l.take k)) z72).tallies).length) c109]) (i := 0) (cs' := #[.slice A102 (((applyS (playS s (l.take k)) z72).clock).length) c103, .slice A105 (((applyS (playS s (l.take k)) z72).lives).length) c106, .slice A108 (((applyS (playS s (l.take k)) z72).tallies).length) c109]) S rfl rfl rfl SZ27 rfl rfl rfl fun w111 S => ?_
    refine l_nil ?_
    refine n_blk ?_
    refine n_seq ?_
    refine e_reg ?_
    refine l_y (v := .int .i64 ((k : Int) + 1)) S (y_add (r := (k : Int) + 1) rfl rfl (w64 (by omega) (by omega))) ?_
    refine l_y (v := .int .i64 ((k : Int) + 1)) S (y_mv rfl) ?_
    refine l_nil ?_
    have ep := playS_take (s := s) hz73; rw [← ep] at S h97 h99 h101
    refine n_lp ⟨(k + 1, A102, c103, A105, c106, A108, c109), _, fr_keep (m := [(2, .pointer (some ⟨g20, 0, none⟩)), (4, .pointer (some ⟨g22, 0, none⟩)), (5, .pointer (some ⟨g24, 0, none⟩)), (40, .slice A17 l.length c18), (41, .int .i64 (l.length : Int)), (42, .int .i64 ((k + 1 : Nat) : Int))]) ⟨⟨rfl, rfl⟩, ⟨rfl, rfl⟩, ⟨rfl, rfl⟩, ⟨rfl, rfl⟩, ⟨rfl, rfl⟩, ⟨ival (by first | rfl | omega), rfl⟩, trivial⟩, ⟨_, _, rfl, (S.tk 5 0 rfl rfl), (Rd.le_trans L69 (Rd.le_trans (Rd.le_refl rd67) L90)), h97, h99, h101, (by omega)⟩, ?_⟩
    show _ < _; dsimp only; omega
   · -- h71 no
    refine l_y (v := .bool false) S (y_ltF rfl rfl h71) ?_
    refine l_nil ?_
    refine n_seq ?_
    refine e_seq ?_
    refine e_cF rfl ?_
    refine e_exit ?_
    refine x_seq ?_
    refine x_lp ?_
    refine x_hit ?_
    refine n_seq ?_
    refine e_seq ?_
    refine e_reg ?_
    refine l_y (v := .agg #[.slice A0 ((playS s (l.take k)).clock.length) c0, .slice A1 ((playS s (l.take k)).lives.length) c1, .slice A2 ((playS s (l.take k)).tallies.length) c2]) S (y_ld rfl (fun w S => ld_bA (vs := [.slice A0 ((playS s (l.take k)).clock.length) c0, .slice A1 ((playS s (l.take k)).lives.length) c1, .slice A2 ((playS s (l.take k)).tallies.length) c2]) (i := 0) S rfl T27 rfl rfl)) ?_
    refine l_y (v := .agg #[.int .i64 0, .int .i64 0]) S (y_bd (ps := []) rfl (fun _ => by kernel_rfl)) ?_
    refine l_st (u := .agg #[.slice A0 ((playS s (l.take k)).clock.length) c0, .slice A1 ((playS s (l.take k)).lives.length) c1, .slice A2 ((playS s (l.take k)).tallies.length) c2]) (i := 1) (cs' := #[.slice A0 ((playS s (l.take k)).clock.length) c0, .slice A1 ((playS s (l.take k)).lives.length) c1, .slice A2 ((playS s (l.take k)).tallies.length) c2]) S rfl rfl rfl SZ27 rfl rfl rfl fun w112 S => ?_
    have S : St [] W rd rd67 [(g20, 27, #[.slice A0 ((playS s (l.take k)).clock.length) c0, .slice A1 ((playS s (l.take k)).lives.length) c1, .slice A2 ((playS s (l.take k)).tallies.length) c2]), (g22, 27, #[.slice A0 ((playS s (l.take k)).clock.length) c0, .slice A1 ((playS s (l.take k)).lives.length) c1, .slice A2 ((playS s (l.take k)).tallies.length) c2]), (g24, 33, #[.int .i64 0, .int .i64 0]), (g27, 33, #[.int .i64 ((wrongS s (s.clock.length : Int)).1), .int .i64 ((wrongS s (s.clock.length : Int)).2)]), (g40, 33, #[.int .i64 ((clockL s.clock l (s.clock.length : Int)).2.1), .int .i64 ((clockL s.clock l (s.clock.length : Int)).2.2)])] [] _ := S.rw' rfl rfl
    refine l_st (u := .agg #[.int .i64 0, .int .i64 0]) (i := 2) (cs' := #[.int .i64 0, .int .i64 0]) S rfl rfl rfl SZ33 rfl rfl rfl fun w113 S => ?_
    refine l_nil ?_
    refine n_seq ?_
    refine e_ret ?_
    refine ret2 (v := .agg #[.slice A0 ((playS s (l.take k)).clock.length) c0, .slice A1 ((playS s (l.take k)).lives.length) c1, .slice A2 ((playS s (l.take k)).tallies.length) c2]) (v' := .agg #[.int .i64 0, .int .i64 0]) rfl ⟨_, rfl, ld_bA (i := 1) (vs := [.slice A0 ((playS s (l.take k)).clock.length) c0, .slice A1 ((playS s (l.take k)).lives.length) c1, .slice A2 ((playS s (l.take k)).tallies.length) c2]) S rfl T27 rfl rfl⟩ ⟨_, rfl, ld_bA (i := 2) (vs := [.int .i64 0, .int .i64 0]) S rfl T33 rfl rfl⟩ ?_
    have ek : l.take k = l := List.take_of_length_le (by omega); rw [ek] at f0 f1 f2 ⊢
    rw [PlayS_3 hW hC]
    exact ⟨_, rfl, ⟨_, rfl, ⟨_, _, _, rfl, (fm f0 S.out), (fm f1 S.out), (fm f2 S.out)⟩⟩, S.below⟩
  · -- hC no
   refine l_y (v := .bool true) S (y_neT rfl rfl hC) ?_
   refine l_nil ?_
   refine n_seq ?_
   refine e_cT rfl ?_
   refine e_seq ?_
   refine e_a (fun w => St [] W rd rd33 [(g20, 27, #[.slice A8 s.clock.length c9, .slice A11 s.lives.length c12, .slice A14 s.tallies.length c15]), (g27, 33, #[.int .i64 ((wrongS s (s.clock.length : Int)).1), .int .i64 ((wrongS s (s.clock.length : Int)).2)]), (g40, 33, #[.int .i64 ((clockL s.clock l (s.clock.length : Int)).2.1), .int .i64 ((clockL s.clock l (s.clock.length : Int)).2.2)])] [] w) MX rfl ?_
   have S := S.drew; have sup114 := S.sup
   have SC : St [] W rd rd33 [(g20, 27, #[.slice A8 s.clock.length c9, .slice A11 s.lives.length c12, .slice A14 s.tallies.length c15]), (g27, 33, #[.int .i64 ((wrongS s (s.clock.length : Int)).1), .int .i64 ((wrongS s (s.clock.length : Int)).2)]), (g40, 33, #[.int .i64 ((clockL s.clock l (s.clock.length : Int)).2.1), .int .i64 ((clockL s.clock l (s.clock.length : Int)).2.2)])] [] _ := (((S.tk 5 0 rfl rfl).del 2).del 1).rw' rfl rfl
   refine a_take (v := .agg #[.slice none 0 0, .slice none 0 0, .slice none 0 0]) 0 rfl rfl (by kernel_rfl) (by kernel_rfl) (by kernel_rfl) SC rfl (y_bd (ps := []) rfl (fun _ => by kernel_rfl)) ?_
   refine a_take (v := .agg #[.int .i64 ((clockL s.clock l (s.clock.length : Int)).2.1), .int .i64 ((clockL s.clock l (s.clock.length : Int)).2.2)]) 1 rfl rfl (by kernel_rfl) (by kernel_rfl) (by kernel_rfl) SC rfl (y_ld rfl (fun w S => ld_bA (vs := [.int .i64 ((clockL s.clock l (s.clock.length : Int)).2.1), .int .i64 ((clockL s.clock l (s.clock.length : Int)).2.2)]) (i := 2) S rfl T33 rfl rfl)) ?_
   refine a_all (rs := [2]) (by kernel_rfl) rfl ?_
   refine aa_cons rfl ?_ ?_
   · -- operation 2
    refine l_st (u := .agg #[.slice none 0 0, .slice none 0 0, .slice none 0 0]) (i := 1) (cs' := #[.slice none 0 0, .slice none 0 0, .slice none 0 0]) S rfl rfl rfl SZ27 rfl rfl rfl fun w115 S => ?_
    refine l_nil ?_
    have SC : St [] W rd rd33 [(g20, 27, #[.slice A8 s.clock.length c9, .slice A11 s.lives.length c12, .slice A14 s.tallies.length c15]), (g27, 33, #[.int .i64 ((wrongS s (s.clock.length : Int)).1), .int .i64 ((wrongS s (s.clock.length : Int)).2)]), (g40, 33, #[.int .i64 ((clockL s.clock l (s.clock.length : Int)).2.1), .int .i64 ((clockL s.clock l (s.clock.length : Int)).2.2)])] [] _ := (((S.tk 5 0 rfl rfl).del 2).del 1).rw' rfl rfl
    refine n_lp (ak SC ?_)
    refine a_all (rs := [3]) (by kernel_rfl) rfl ?_
    refine aa_cons rfl ?_ ?_
    · -- operation 3
     refine l_st (u := .agg #[.int .i64 ((clockL s.clock l (s.clock.length : Int)).2.1), .int .i64 ((clockL s.clock l (s.clock.length : Int)).2.2)]) (i := 2) (cs' := #[.int .i64 ((clockL s.clock l (s.clock.length : Int)).2.1), .int .i64 ((clockL s.clock l (s.clock.length : Int)).2.2)]) S rfl rfl rfl SZ33 rfl rfl rfl fun w116 S => ?_
     refine l_nil ?_
     have SC : St [] W rd rd33 [(g20, 27, #[.slice A8 s.clock.length c9, .slice A11 s.lives.length c12, .slice A14 s.tallies.length c15]), (g27, 33, #[.int .i64 ((wrongS s (s.clock.length : Int)).1), .int .i64 ((wrongS s (s.clock.length : Int)).2)]), (g40, 33, #[.int .i64 ((clockL s.clock l (s.clock.length : Int)).2.1), .int .i64 ((clockL s.clock l (s.clock.length : Int)).2.2)])] [] _ := (((S.tk 5 0 rfl rfl).del 2).del 1).rw' rfl rfl
     refine n_lp (ak SC ?_)
     refine a_done (by kernel_rfl) ?_
     clear SC
     refine n_seq ?_
     refine e_ret ?_
     refine ret2 (v := .agg #[.slice none 0 0, .slice none 0 0, .slice none 0 0]) (v' := .agg #[.int .i64 ((clockL s.clock l (s.clock.length : Int)).2.1), .int .i64 ((clockL s.clock l (s.clock.length : Int)).2.2)]) rfl ⟨_, rfl, ld_bA (i := 1) (vs := [.slice none 0 0, .slice none 0 0, .slice none 0 0]) S rfl T27 rfl rfl⟩ ⟨_, rfl, ld_bA (i := 2) (vs := [.int .i64 ((clockL s.clock l (s.clock.length : Int)).2.1), .int .i64 ((clockL s.clock l (s.clock.length : Int)).2.2)]) S rfl T33 rfl rfl⟩ ?_
     rw [PlayS_2 hW hC]
     exact ⟨_, rfl, ⟨_, rfl, ⟨_, _, _, rfl, (SliceR.nil_ _), (SliceR.nil_ _), (SliceR.nil_ _)⟩⟩, S.below⟩
    exact aa_nil
   exact aa_nil
 · -- hW no
  refine l_y (v := .bool true) S (y_neT rfl rfl hW) ?_
  refine l_nil ?_
  refine n_seq ?_
  refine e_cT rfl ?_
  refine e_seq ?_
  refine e_a (fun w => St [] W rd rd [(g20, 27, #[.slice A8 s.clock.length c9, .slice A11 s.lives.length c12, .slice A14 s.tallies.length c15]), (g27, 33, #[.int .i64 ((wrongS s (s.clock.length : Int)).1), .int .i64 ((wrongS s (s.clock.length : Int)).2)])] [] w) MX rfl ?_
  have S := S.drew; have sup117 := S.sup
  have SC : St [] W rd rd [(g20, 27, #[.slice A8 s.clock.length c9, .slice A11 s.lives.length c12, .slice A14 s.tallies.length c15]), (g27, 33, #[.int .i64 ((wrongS s (s.clock.length : Int)).1), .int .i64 ((wrongS s (s.clock.length : Int)).2)])] [] _ := (((S.tk 4 0 rfl rfl).del 2).del 1).rw' rfl rfl
  refine a_take (v := .agg #[.slice none 0 0, .slice none 0 0, .slice none 0 0]) 0 rfl rfl (by kernel_rfl) (by kernel_rfl) (by kernel_rfl) SC rfl (y_bd (ps := []) rfl (fun _ => by kernel_rfl)) ?_
  refine a_take (v := .pointer (some ⟨g27, 0, none⟩)) 1 rfl rfl (by kernel_rfl) (by kernel_rfl) (by kernel_rfl) SC rfl (y_fb FA33_0 rfl rfl) ?_
  refine a_take (v := .int .i64 ((wrongS s (s.clock.length : Int)).1)) 2 rfl rfl (by kernel_rfl) (by kernel_rfl) (by kernel_rfl) SC rfl (y_ld rfl (fun w S => ld_b1 (i := 1) S rfl rfl T31)) ?_
  refine a_take (v := .agg #[.int .i64 ((wrongS s (s.clock.length : Int)).1), .int .i64 0]) 3 rfl rfl (by kernel_rfl) (by kernel_rfl) (by kernel_rfl) SC rfl (y_bd (ps := [(0, .int .i64 ((wrongS s (s.clock.length : Int)).1))]) rfl (fun _ => by kernel_rfl)) ?_
  refine a_all (rs := [4]) (by kernel_rfl) rfl ?_
  refine aa_cons rfl ?_ ?_
  · -- operation 4
   refine l_st (u := .agg #[.slice none 0 0, .slice none 0 0, .slice none 0 0]) (i := 1) (cs' := #[.slice none 0 0, .slice none 0 0, .slice none 0 0]) S rfl rfl rfl SZ27 rfl rfl rfl fun w118 S => ?_
   refine l_nil ?_
   have SC : St [] W rd rd [(g20, 27, #[.slice A8 s.clock.length c9, .slice A11 s.lives.length c12, .slice A14 s.tallies.length c15]), (g27, 33, #[.int .i64 ((wrongS s (s.clock.length : Int)).1), .int .i64 ((wrongS s (s.clock.length : Int)).2)])] [] _ := (((S.tk 4 0 rfl rfl).del 2).del 1).rw' rfl rfl
   refine n_lp (ak SC ?_)
   refine a_all (rs := [5]) (by kernel_rfl) rfl ?_
   refine aa_cons rfl ?_ ?_
   · -- operation 5
    refine l_st (u := .agg #[.int .i64 ((wrongS s (s.clock.length : Int)).1), .int .i64 0]) (i := 2) (cs' := #[.int .i64 ((wrongS s (s.clock.length : Int)).1), .int .i64 0]) S rfl rfl rfl SZ33 rfl rfl rfl fun w119 S => ?_
    refine l_nil ?_
    have SC : St [] W rd rd [(g20, 27, #[.slice A8 s.clock.length c9, .slice A11 s.lives.length c12, .slice A14 s.tallies.length c15]), (g27, 33, #[.int .i64 ((wrongS s (s.clock.length : Int)).1), .int .i64 ((wrongS s (s.clock.length : Int)).2)])] [] _ := (((S.tk 4 0 rfl rfl).del 2).del 1).rw' rfl rfl
    refine n_lp (ak SC ?_)
    refine a_done (by kernel_rfl) ?_
    clear SC
    refine n_seq ?_
    refine e_ret ?_
    refine ret2 (v := .agg #[.slice none 0 0, .slice none 0 0, .slice none 0 0]) (v' := .agg #[.int .i64 ((wrongS s (s.clock.length : Int)).1), .int .i64 0]) rfl ⟨_, rfl, ld_bA (i := 1) (vs := [.slice none 0 0, .slice none 0 0, .slice none 0 0]) S rfl T27 rfl rfl⟩ ⟨_, rfl, ld_bA (i := 2) (vs := [.int .i64 ((wrongS s (s.clock.length : Int)).1), .int .i64 0]) S rfl T33 rfl rfl⟩ ?_
    rw [PlayS_1 hW]
    exact ⟨_, rfl, ⟨_, rfl, ⟨_, _, _, rfl, (SliceR.nil_ _), (SliceR.nil_ _), (SliceR.nil_ _)⟩⟩, S.below⟩
   exact aa_nil
  exact aa_nil

set_option maxRecDepth 100000 in
theorem SStart_c (rd : Rd) (W : World) (hle : Rd.le rd (wrd W)) (n : Int) :
    Calls Try.prog 18 #[(.int .i64 n)] W (fun e w' => ∃ v', e = .returned v' ∧ AggR StateR (ext rd W w') v' (startG n) ∧ Below W.heap.size W w') := by
 have hmx : maxLen = 9223372036854775807 := rfl
 have S : St [] W rd rd [] [] W := St.start hle
 refine e_enter (args := [.int .i64 n]) 8 Try.func18 rfl rfl rfl ?_
 refine e_seq ?_
 refine e_reg ?_
 refine l_al (cs := #[.slice none 0 0, .slice none 0 0, .slice none 0 0]) S Z27 rfl fun g1 w2 S => ?_
 refine l_nil ?_
 refine n_seq ?_
 refine e_seq ?_
 refine e_reg ?_
 refine l_y (v := .int .i64 n) S (y_mv rfl) ?_
 refine l_y (v := .int .i64 (max n 0)) S (y_max rfl rfl) ?_
 refine l_y (v := .int .i64 (min (max n 0) 6)) S (y_min rfl rfl) ?_
 refine l_ms (m := (min (max n 0) 6).toNat) (size := 1) S K23 Z3 rfl rfl (by omega) (by omega) (by omega) (by simp only [maxLen]; omega) fun g3 w4 S => ?_
 have O5 : RowR 1 IntR rd ((madeCells (Value.int .i64 0).cells (((min (max n 0) 6).toNat) * 1)).toList) (List.replicate (min (max n 0) 6).toNat (0 : Int)) := made_ints _
 refine l_y (v := .agg #[.slice (some ⟨g3, 0, none⟩) ((min (max n 0) 6).toNat) ((min (max n 0) 6).toNat), .slice none 0 0, .slice none 0 0]) S (y_bd (ps := [(0, .slice (some ⟨g3, 0, none⟩) ((min (max n 0) 6).toNat) ((min (max n 0) 6).toNat))]) rfl (fun _ => by kernel_rfl)) ?_
 refine l_st (u := .agg #[.slice (some ⟨g3, 0, none⟩) ((min (max n 0) 6).toNat) ((min (max n 0) 6).toNat), .slice none 0 0, .slice none 0 0]) (i := 0) (cs' := #[.slice (some ⟨g3, 0, none⟩) ((min (max n 0) 6).toNat) ((min (max n 0) 6).toNat), .slice none 0 0, .slice none 0 0]) S rfl rfl rfl SZ27 rfl rfl rfl fun w6 S => ?_
 refine l_nil ?_
 refine n_seq ?_
 refine e_ret ?_
 refine ret1 (v := .agg #[.slice (some ⟨g3, 0, none⟩) ((min (max n 0) 6).toNat) ((min (max n 0) 6).toNat), .slice none 0 0, .slice none 0 0]) rfl ⟨_, rfl, ld_bA (i := 0) (vs := [.slice (some ⟨g3, 0, none⟩) ((min (max n 0) 6).toNat) ((min (max n 0) 6).toNat), .slice none 0 0, .slice none 0 0]) S rfl T27 rfl rfl⟩ ?_
 exact ⟨_, rfl, ⟨_, rfl, ⟨_, _, _, rfl, (S.rowOut (i := 0) rfl rfl (by simp [startG]) rfl O5), (SliceR.nil_ _), (SliceR.nil_ _)⟩⟩, S.below⟩
end Go.Proofs.Ytkjknlnhffmkkab
