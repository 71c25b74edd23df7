/- JoinLaws: in whatever order, however often. For every input; no condition. -/
import Derived.Test.YtkjknlnhffmkkabQOf5
import Derived.Test.YtkjknlnhffmkkabQClose4
import Derived.Test.YtkjknlnhffmkkabQLog
namespace Go.Proofs.Ytkjknlnhffmkkab
open Go.ChangeShapes Go.WideShapes Go.ChangeAt Go.RowKit
set_option linter.unusedVariables false
theorem laws_next {a b c : List Int} {n : Int} {k : Nat} {z : List Int} (h : ∀ y ∈ ([a, b, c] : List (List Int)).take k, wrongC y n = 0) (hz : ([a, b, c] : List (List Int))[k]? = some z) (hE : wrongC z n = 0) : ∀ y ∈ ([a, b, c] : List (List Int)).take (k + 1), wrongC y n = 0 := fun y hy => by
  rw [take_snoc hz] at hy
  rcases List.mem_append.1 hy with hy | hy
  · exact h y hy
  · rw [List.mem_singleton.1 hy]; exact hE
theorem laws_three {a b c : List Int} {n : Int} {k : Nat} (h : ∀ y ∈ ([a, b, c] : List (List Int)).take k, wrongC y n = 0) (hk : 3 ≤ k) : wrongC a n = 0 ∧ wrongC b n = 0 ∧ wrongC c n = 0 := by
  rw [List.take_of_length_le (by simpa using hk)] at h
  exact ⟨h a (by simp), h b (by simp), h c (by simp)⟩
set_option maxRecDepth 100000 in
set_option maxHeartbeats 8000000 in
theorem JoinLaws_calls (W : World) (v1 : Value) (l : List Upd) (q1 : UpdsR (wrd W) v1 l) (b1 : UpdsBd l) (n : Int) (hwn : (Lit.int IntKind.i64 n).wf = true) (v2 : Value) (a : List Int) (q2 : IntsR (wrd W) v2 a) (b2 : a.length * 8 ≤ reachBytes ∧ ∀ x ∈ a, (Lit.int IntKind.i64 x).wf = true) (v3 : Value) (b : List Int) (q3 : IntsR (wrd W) v3 b) (b3 : b.length * 8 ≤ reachBytes ∧ ∀ x ∈ b, (Lit.int IntKind.i64 x).wf = true) (v4 : Value) (c : List Int) (q4 : IntsR (wrd W) v4 c) (b4 : c.length * 8 ≤ reachBytes ∧ ∀ x ∈ c, (Lit.int IntKind.i64 x).wf = true) :
    Calls Try.prog 11 #[v1, (.int .i64 n), v2, v3, v4] W (fun e w' => e = .returned (.bool true) ∧ Below W.heap.size W w') := by
 obtain ⟨A1, c2, rfl, m3, m3'⟩ := q1.val
 obtain ⟨A4, c5, rfl, m6, m6'⟩ := q2.val
 obtain ⟨A7, c8, rfl, m9, m9'⟩ := q3.val
 obtain ⟨A10, c11, rfl, m12, m12'⟩ := q4.val
 have hmx : maxLen = 9223372036854775807 := rfl
 have S : St [] W (wrd W) (wrd W) [] [] W := St.start (Rd.le_refl _)
 refine e_enter (args := [.slice A1 l.length c2, .int .i64 n, .slice A4 a.length c5, .slice A7 b.length c8, .slice A10 c.length c11]) 161 Try.func11 rfl rfl rfl ?_
 refine e_seq ?_
 refine e_reg ?_
 refine l_y (v := .bool false) S (y_as rfl) ?_
 refine l_nil ?_
 refine n_seq ?_
 refine e_seq ?_
 refine e_seq ?_
 refine e_reg ?_
 refine l_c (en_f (vs := []) (CF 33 _) rfl rfl) (alive5_c _ _ S.le) ?_
 rintro e w13 ⟨rfl, k⟩
 have S := S.callq k; clear k
 refine ckd ?_
 refine l_y (v := .bool false) S (y_not rfl rfl) ?_
 refine l_nil ?_
 refine n_seq ?_
 refine e_cF rfl ?_
 refine e_skip ?_
 refine n_seq ?_
 refine e_seq ?_
 refine e_seq ?_
 refine e_reg ?_
 refine l_y (v := .slice A4 a.length c5) S (y_mv rfl) ?_
 refine l_y (v := .slice A7 b.length c8) S (y_mv rfl) ?_
 refine l_y (v := .slice A10 c.length c11) S (y_mv rfl) ?_
 refine l_bs (ps := [(0, .slice A4 a.length c5), (1, .slice A7 b.length c8), (2, .slice A10 c.length c11)]) (cs := #[.slice A4 a.length c5, .slice A7 b.length c8, .slice A10 c.length c11]) S U75 SZ23 Z23 rfl rfl rfl (by kernel_rfl) fun g14 w15 S => ?_
 obtain ⟨rd16, S, L17, Fz18⟩ := S.frz' (i := 0) rfl rfl
 replace q1 := fm q1 L17
 replace q2 := fm q2 L17
 replace q3 := fm q3 L17
 replace q4 := fm q4 L17
 have F19 := Fz18 (size := 1) (R := (SlC 1 IntR)) (xs := ([a, b, c] : List (List Int))) (n := 3) (c := 3) rfl (Nat.le_refl _) (by simp [maxLen]) ⟨[.slice A4 a.length c5], _, rfl, rfl, ⟨_, rfl, q2⟩, ⟨[.slice A7 b.length c8], _, rfl, rfl, ⟨_, rfl, q3⟩, ⟨[.slice A10 c.length c11], _, rfl, rfl, ⟨_, rfl, q4⟩, rfl⟩⟩⟩; clear Fz18
 refine l_y (v := .int .i64 3) S (y_len U75 rfl rfl) ?_
 refine l_y (v := .int .i64 0) S (y_mv rfl) ?_
 refine l_nil ?_
 refine n_seq ?_
 refine e_blk ?_
 refine e_trim [(0, .slice A1 l.length c2), (1, .int .i64 n), (2, .slice A4 a.length c5), (3, .slice A7 b.length c8), (4, .slice A10 c.length c11), (35, .slice (some ⟨g14, 0, none⟩) 3 3), (36, .int .i64 3), (37, .int .i64 (0 : Int))] ⟨⟨rfl, rfl⟩, ⟨rfl, rfl⟩, ⟨rfl, rfl⟩, ⟨rfl, rfl⟩, ⟨rfl, rfl⟩, ⟨rfl, rfl⟩, ⟨rfl, rfl⟩, ⟨ival (by first | rfl | omega), rfl⟩, trivial⟩ (fun junk => ?_)
 refine e_loop (fun (gh_ : Nat) ov w => match gh_ with | k => ∃ rd' junk, ov = [(0, .slice A1 l.length c2), (1, .int .i64 n), (2, .slice A4 a.length c5), (3, .slice A7 b.length c8), (4, .slice A10 c.length c11), (35, .slice (some ⟨g14, 0, none⟩) 3 3), (36, .int .i64 3), (37, .int .i64 (k : Int))] ++ junk ∧ St [] W (wrd W) rd' [] [] w ∧ Rd.le rd16 rd' ∧ k ≤ 3 ∧ (∀ y ∈ (([a, b, c] : List (List Int))).take k, wrongC y n = 0)) (fun gh_ => match gh_ with | k => 3 - k) 0 ⟨_, junk, rfl, (S.rw' rfl rfl), (Rd.le_refl _), (by omega), (by simp)⟩ ?_
 rintro k ov23 w21 ⟨rd20, junk, rfl, S, L22, hk, hW⟩
 replace q1 := fm q1 L22
 replace q2 := fm q2 L22
 replace q3 := fm q3 L22
 replace q4 := fm q4 L22
 replace F19 := fm F19 L22
 refine e_seq ?_
 refine e_reg ?_
 by_cases h24 : (k : Int) < 3
 · -- h24 yes
  refine l_y (v := .bool true) S (y_ltT rfl rfl h24) ?_
  refine l_nil ?_
  refine n_seq ?_
  refine e_seq ?_
  refine e_cT rfl ?_
  refine e_skip ?_
  refine n_seq ?_
  refine e_seq ?_
  refine e_blk ?_
  refine e_seq ?_
  refine e_reg ?_
  obtain ⟨z25, hz26⟩ : ∃ z, (([a, b, c] : List (List Int)))[k]? = some z := nth_of (by simp only [List.length_cons, List.length_nil]; omega)
  obtain ⟨p27, vs28, E29, nn30, r31, Y32⟩ := y_ia U75 SZ23 F19 hz26
  clear nn30
  obtain ⟨sv33, r31e, r31⟩ := r31; subst r31e
  obtain ⟨A34, c35, rfl, m36, m36'⟩ := r31.val
  refine l_y (v := p27) S (Y32 rfl rfl (by first | rfl | omega)) ?_
  refine l_y (v := .slice A34 z25.length c35) S (y_ld rfl (fun w S => ld_p1 S.le E29 rfl T23)) ?_
  refine l_y (v := .slice A34 z25.length c35) S (y_as rfl) ?_
  refine l_nil ?_
  refine n_seq ?_
  refine e_seq ?_
  refine e_reg ?_
  refine l_y (v := .slice A34 z25.length c35) S (y_mv rfl) ?_
  refine l_y (v := .int .i64 n) S (y_mv rfl) ?_
  refine l_c (en_f (vs := [.slice A34 z25.length c35, .int .i64 n]) (CF 34 _) rfl rfl) (Wrong_calls _ _ _ _ (fm r31 S.le)) ?_
  rintro e w37 ⟨rfl, rfl⟩
  refine ckd ?_
  by_cases hE : wrongC z25 n = 0
  · -- hE yes
   refine l_y (v := .bool false) S (y_neF rfl rfl hE) ?_
   refine l_nil ?_
   refine n_seq ?_
   refine e_cF rfl ?_
   refine e_skip ?_
   refine n_blk ?_
   refine n_seq ?_
   refine e_reg ?_
   refine l_y (v := .int .i64 ((k : Int) + 1)) S (y_add (r := (k : Int) + 1) rfl rfl (w64 (by omega) (by omega))) ?_
   refine l_y (v := .int .i64 ((k : Int) + 1)) S (y_mv rfl) ?_
   refine l_nil ?_
   refine n_lp ⟨(k + 1), _, fr_keep (m := [(0, .slice A1 l.length c2), (1, .int .i64 n), (2, .slice A4 a.length c5), (3, .slice A7 b.length c8), (4, .slice A10 c.length c11), (35, .slice (some ⟨g14, 0, none⟩) 3 3), (36, .int .i64 3), (37, .int .i64 ((k + 1 : Nat) : Int))]) ⟨⟨rfl, rfl⟩, ⟨rfl, rfl⟩, ⟨rfl, rfl⟩, ⟨rfl, rfl⟩, ⟨rfl, rfl⟩, ⟨rfl, rfl⟩, ⟨rfl, rfl⟩, ⟨ival (by first | rfl | omega), rfl⟩, trivial⟩, ⟨_, _, rfl, (S.tk 0 0 rfl rfl), (Rd.le_trans L22 (Rd.le_refl rd20)), (by omega), (laws_next hW hz26 hE)⟩, ?_⟩
   show _ < _; dsimp only; omega
  · -- hE no
   refine l_y (v := .bool true) S (y_neT rfl rfl hE) ?_
   refine l_nil ?_
   refine n_seq ?_
   refine e_cT rfl ?_
   refine e_seq ?_
   refine e_reg ?_
   refine l_y (v := .bool true) S (y_as rfl) ?_
   refine l_nil ?_
   refine n_seq ?_
   refine e_ret ?_
   refine ret1 (v := .bool true) rfl rfl ?_
   exact ⟨rfl, S.below⟩
 · -- h24 no
  refine l_y (v := .bool false) S (y_ltF rfl rfl h24) ?_
  refine l_nil ?_
  refine n_seq ?_
  refine e_seq ?_
  refine e_cF rfl ?_
  refine e_exit ?_
  refine x_seq ?_
  refine x_lp ?_
  refine x_hit ?_
  refine n_seq ?_
  refine e_seq ?_
  refine e_seq ?_
  refine e_reg ?_
  obtain ⟨hA, hB, hD⟩ := laws_three hW (by omega)
  have hna := wrongC_ok hA
  refine l_y (v := .int .i64 n) S (y_mv rfl) ?_
  refine l_ms (m := n.toNat) (size := 1) S K23 Z3 rfl rfl (by omega) (by omega) (by omega) (by simp only [maxLen]; omega) fun g38 w39 S => ?_
  have O40 : RowR 1 IntR rd20 ((madeCells (Value.int .i64 0).cells (n.toNat * 1)).toList) (List.replicate n.toNat (0 : Int)) := made_ints _
  obtain ⟨rd41, S, L42, F43⟩ := S.frzo' (i := 0) rfl rfl
  replace q1 := fm q1 L42
  replace q2 := fm q2 L42
  replace q3 := fm q3 L42
  replace q4 := fm q4 L42
  replace F19 := fm F19 L42
  replace O40 := rm O40 L42
  have F44 : SliceR 1 IntR rd41 (.slice (some ⟨g38, 0, none⟩) n.toNat n.toNat) (List.replicate n.toNat (0 : Int)) := F43 (by simp) O40; clear F43
  refine l_y (v := .slice A1 l.length c2) S (y_mv rfl) ?_
  refine l_y (v := .int .i64 n) S (y_mv rfl) ?_
  refine l_c (en_f (vs := [.slice (some ⟨g38, 0, none⟩) n.toNat n.toNat, .slice A1 l.length c2, .int .i64 n]) (CF 35 _) rfl rfl) (Clock_calls _ _ _ _ _ _ (fm F44 S.le) (fm q1 S.le)) ?_
  rintro e w47 ⟨r45, rfl, h46, k⟩
  obtain ⟨rd48, S, L49, N50, X51⟩ := S.call' k; clear k
  replace q1 := fm q1 L49
  replace q2 := fm q2 L49
  replace q3 := fm q3 L49
  replace q4 := fm q4 L49
  replace F19 := fm F19 L49
  replace F44 := fm F44 L49
  have h46 := fm h46 N50
  obtain ⟨A52, c53, rfl, m54, m54'⟩ := h46.val
  refine ckd ?_
  refine l_y (v := .tuple #[.slice A52 (((clockL (List.replicate n.toNat (0 : Int)) l n).1).length) c53, .agg #[.int .i64 ((clockL (List.replicate n.toNat (0 : Int)) l n).2.1), .int .i64 ((clockL (List.replicate n.toNat (0 : Int)) l n).2.2)]]) S (y_mv rfl) ?_
  refine l_y (v := .slice A52 (((clockL (List.replicate n.toNat (0 : Int)) l n).1).length) c53) S (y_ex rfl rfl) ?_
  refine l_y (v := .agg #[.int .i64 ((clockL (List.replicate n.toNat (0 : Int)) l n).2.1), .int .i64 ((clockL (List.replicate n.toNat (0 : Int)) l n).2.2)]) S (y_ex rfl rfl) ?_
  refine l_al (cs := #[.int .i64 0, .int .i64 0]) S Z33 rfl fun g55 w56 S => ?_
  refine l_y (v := .slice A52 (((clockL (List.replicate n.toNat (0 : Int)) l n).1).length) c53) S (y_as rfl) ?_
  refine l_st (u := .agg #[.int .i64 ((clockL (List.replicate n.toNat (0 : Int)) l n).2.1), .int .i64 ((clockL (List.replicate n.toNat (0 : Int)) l n).2.2)]) (i := 0) (cs' := #[.int .i64 ((clockL (List.replicate n.toNat (0 : Int)) l n).2.1), .int .i64 ((clockL (List.replicate n.toNat (0 : Int)) l n).2.2)]) S rfl rfl rfl SZ33 rfl rfl rfl fun w57 S => ?_
  refine l_nil ?_
  refine n_seq ?_
  refine e_seq ?_
  refine e_reg ?_
  refine l_y (v := .pointer (some ⟨g55, 0, none⟩)) S (y_fb FA33_0 rfl rfl) ?_
  refine l_y (v := .int .i64 ((clockL (List.replicate n.toNat (0 : Int)) l n).2.1)) S (y_ld rfl (fun w S => ld_b1 (i := 0) S rfl rfl T31)) ?_
  by_cases hC : (clockL (List.replicate n.toNat (0 : Int)) l n).2.1 = 0
  · -- hC yes
   refine l_y (v := .bool false) S (y_neF rfl rfl hC) ?_
   refine l_nil ?_
   refine n_seq ?_
   refine e_cF rfl ?_
   refine e_skip ?_
   refine n_seq ?_
   refine e_seq ?_
   refine e_reg ?_
   have hl3 := (clockL_ok hC).2.1
   refine l_y (v := .slice A1 l.length c2) S (y_mv rfl) ?_
   refine l_y (v := .slice A4 a.length c5) S (y_mv rfl) ?_
   refine l_y (v := .int .i64 n) S (y_mv rfl) ?_
   refine l_c (en_f (vs := [.slice A1 l.length c2, .slice A4 a.length c5, .int .i64 n]) (CF 36 _) rfl rfl) (Of_c _ _ S.le _ _ l a n q1 q2 hl3) ?_
   rintro e w58 ⟨v63, rfl, h64, k⟩
   obtain ⟨X, eX⟩ : ∃ z, z = (PlayS (startG n) (mineU a l)).1 := ⟨_, rfl⟩; rw [← eX] at h64
   obtain ⟨rd59, S, L60, N61, X62⟩ := S.call' k; clear k
   replace q1 := fm q1 L60
   replace q2 := fm q2 L60
   replace q3 := fm q3 L60
   replace q4 := fm q4 L60
   replace F19 := fm F19 L60
   replace F44 := fm F44 L60
   replace h46 := fm h46 L60
   replace h64 := am h64 X62
   obtain ⟨cs65, h64v, h64⟩ := h64; subst h64v
   obtain ⟨sv66, sv68, sv70, h64e, h67, h69, h71⟩ := h64; subst h64e
   obtain ⟨A72, c73, rfl, m74, m74'⟩ := h67.val
   obtain ⟨A75, c76, rfl, m77, m77'⟩ := h69.val
   obtain ⟨A78, c79, rfl, m80, m80'⟩ := h71.val
   refine ckd ?_
   refine l_y (v := .tuple #[.agg #[.slice A72 X.clock.length c73, .slice A75 X.lives.length c76, .slice A78 X.tallies.length c79], .bool (decide ((PlayS (startG n) (mineU a l)).2.1 = 0))]) S (y_mv rfl) ?_
   refine l_y (v := .agg #[.slice A72 X.clock.length c73, .slice A75 X.lives.length c76, .slice A78 X.tallies.length c79]) S (y_ex rfl rfl) ?_
   refine l_y (v := .bool (decide ((PlayS (startG n) (mineU a l)).2.1 = 0))) S (y_ex rfl rfl) ?_
   refine l_al (cs := #[.slice none 0 0, .slice none 0 0, .slice none 0 0]) S Z27 rfl fun g81 w82 S => ?_
   refine l_st (u := .agg #[.slice A72 X.clock.length c73, .slice A75 X.lives.length c76, .slice A78 X.tallies.length c79]) (i := 1) (cs' := #[.slice A72 X.clock.length c73, .slice A75 X.lives.length c76, .slice A78 X.tallies.length c79]) S rfl rfl rfl SZ27 rfl rfl rfl fun w83 S => ?_
   refine l_y (v := .bool (decide ((PlayS (startG n) (mineU a l)).2.1 = 0))) S (y_as rfl) ?_
   refine l_nil ?_
   refine n_seq ?_
   refine e_seq ?_
   refine e_reg ?_
   refine l_y (v := .slice A1 l.length c2) S (y_mv rfl) ?_
   refine l_y (v := .slice A7 b.length c8) S (y_mv rfl) ?_
   refine l_y (v := .int .i64 n) S (y_mv rfl) ?_
   refine l_c (en_f (vs := [.slice A1 l.length c2, .slice A7 b.length c8, .int .i64 n]) (CF 36 _) rfl rfl) (Of_c _ _ S.le _ _ l b n q1 q3 hl3) ?_
   rintro e w84 ⟨v89, rfl, h90, k⟩
   obtain ⟨Y, eY⟩ : ∃ z, z = (PlayS (startG n) (mineU b l)).1 := ⟨_, rfl⟩; rw [← eY] at h90
   obtain ⟨rd85, S, L86, N87, X88⟩ := S.call' k; clear k
   replace q1 := fm q1 L86
   replace q2 := fm q2 L86
   replace q3 := fm q3 L86
   replace q4 := fm q4 L86
   replace F19 := fm F19 L86
   replace F44 := fm F44 L86
   replace h46 := fm h46 L86
   replace h67 := fm h67 L86
   replace h69 := fm h69 L86
   replace h71 := fm h71 L86
   replace h90 := am h90 X88
   obtain ⟨cs91, h90v, h90⟩ := h90; subst h90v
   obtain ⟨sv92, sv94, sv96, h90e, h93, h95, h97⟩ := h90; subst h90e
   obtain ⟨A98, c99, rfl, m100, m100'⟩ := h93.val
   obtain ⟨A101, c102, rfl, m103, m103'⟩ := h95.val
   obtain ⟨A104, c105, rfl, m106, m106'⟩ := h97.val
   refine ckd ?_
   refine l_y (v := .tuple #[.agg #[.slice A98 Y.clock.length c99, .slice A101 Y.lives.length c102, .slice A104 Y.tallies.length c105], .bool (decide ((PlayS (startG n) (mineU b l)).2.1 = 0))]) S (y_mv rfl) ?_
   refine l_y (v := .agg #[.slice A98 Y.clock.length c99, .slice A101 Y.lives.length c102, .slice A104 Y.tallies.length c105]) S (y_ex rfl rfl) ?_
   refine l_y (v := .bool (decide ((PlayS (startG n) (mineU b l)).2.1 = 0))) S (y_ex rfl rfl) ?_
   refine l_al (cs := #[.slice none 0 0, .slice none 0 0, .slice none 0 0]) S Z27 rfl fun g107 w108 S => ?_
   refine l_st (u := .agg #[.slice A98 Y.clock.length c99, .slice A101 Y.lives.length c102, .slice A104 Y.tallies.length c105]) (i := 2) (cs' := #[.slice A98 Y.clock.length c99, .slice A101 Y.lives.length c102, .slice A104 Y.tallies.length c105]) S rfl rfl rfl SZ27 rfl rfl rfl fun w109 S => ?_
   refine l_y (v := .bool (decide ((PlayS (startG n) (mineU b l)).2.1 = 0))) S (y_as rfl) ?_
   refine l_nil ?_
   refine n_seq ?_
   refine e_trim [(0, .slice A1 l.length c2), (1, .int .i64 n), (4, .slice A10 c.length c11), (15, .pointer (some ⟨g81, 0, none⟩)), (16, .bool (decide ((PlayS (startG n) (mineU a l)).2.1 = 0))), (17, .pointer (some ⟨g107, 0, none⟩)), (18, .bool (decide ((PlayS (startG n) (mineU b l)).2.1 = 0)))] ⟨⟨rfl, rfl⟩, ⟨rfl, rfl⟩, ⟨rfl, rfl⟩, ⟨rfl, rfl⟩, ⟨rfl, rfl⟩, ⟨rfl, rfl⟩, ⟨rfl, rfl⟩, trivial⟩ (fun junk => ?_)
   refine e_seq ?_
   refine e_reg ?_
   refine l_y (v := .slice A1 l.length c2) S (y_mv rfl) ?_
   refine l_y (v := .slice A10 c.length c11) S (y_mv rfl) ?_
   refine l_y (v := .int .i64 n) S (y_mv rfl) ?_
   refine l_c (en_f (vs := [.slice A1 l.length c2, .slice A10 c.length c11, .int .i64 n]) (CF 36 _) rfl rfl) (Of_c _ _ S.le _ _ l c n q1 q4 hl3) ?_
   rintro e w110 ⟨v115, rfl, h116, k⟩
   obtain ⟨Z, eZ⟩ : ∃ z, z = (PlayS (startG n) (mineU c l)).1 := ⟨_, rfl⟩; rw [← eZ] at h116
   obtain ⟨rd111, S, L112, N113, X114⟩ := S.call' k; clear k
   replace q1 := fm q1 L112
   replace q4 := fm q4 L112
   replace h67 := fm h67 L112
   replace h69 := fm h69 L112
   replace h71 := fm h71 L112
   replace h93 := fm h93 L112
   replace h95 := fm h95 L112
   replace h97 := fm h97 L112
   replace h116 := am h116 X114
   obtain ⟨cs117, h116v, h116⟩ := h116; subst h116v
   obtain ⟨sv118, sv120, sv122, h116e, h119, h121, h123⟩ := h116; subst h116e
   obtain ⟨A124, c125, rfl, m126, m126'⟩ := h119.val
   obtain ⟨A127, c128, rfl, m129, m129'⟩ := h121.val
   obtain ⟨A130, c131, rfl, m132, m132'⟩ := h123.val
   refine ckd ?_
   refine l_y (v := .tuple #[.agg #[.slice A124 Z.clock.length c125, .slice A127 Z.lives.length c128, .slice A130 Z.tallies.length c131], .bool (decide ((PlayS (startG n) (mineU c l)).2.1 = 0))]) S (y_mv rfl) ?_
   refine l_y (v := .agg #[.slice A124 Z.clock.length c125, .slice A127 Z.lives.length c128, .slice A130 Z.tallies.length c131]) S (y_ex rfl rfl) ?_
   refine l_y (v := .bool (decide ((PlayS (startG n) (mineU c l)).2.1 = 0))) S (y_ex rfl rfl) ?_
   refine l_al (cs := #[.slice none 0 0, .slice none 0 0, .slice none 0 0]) S Z27 rfl fun g133 w134 S => ?_
   refine l_st (u := .agg #[.slice A124 Z.clock.length c125, .slice A127 Z.lives.length c128, .slice A130 Z.tallies.length c131]) (i := 3) (cs' := #[.slice A124 Z.clock.length c125, .slice A127 Z.lives.length c128, .slice A130 Z.tallies.length c131]) S rfl rfl rfl SZ27 rfl rfl rfl fun w135 S => ?_
   have S : St [] W (wrd W) rd111 [(g55, 33, #[.int .i64 ((clockL (List.replicate n.toNat (0 : Int)) l n).2.1), .int .i64 ((clockL (List.replicate n.toNat (0 : Int)) l n).2.2)]), (g81, 27, #[.slice A72 X.clock.length c73, .slice A75 X.lives.length c76, .slice A78 X.tallies.length c79]), (g107, 27, #[.slice A98 Y.clock.length c99, .slice A101 Y.lives.length c102, .slice A104 Y.tallies.length c105]), (g133, 27, #[.slice A124 Z.clock.length c125, .slice A127 Z.lives.length c128, .slice A130 Z.tallies.length c131])] [] _ := S.rw' rfl rfl
   refine l_y (v := .bool (decide ((PlayS (startG n) (mineU c l)).2.1 = 0))) S (y_as rfl) ?_
   refine l_nil ?_
   refine n_seq ?_
   refine e_seq ?_
   refine e_seq ?_
   refine e_reg ?_
   refine l_y (v := .bool (decide ((PlayS (startG n) (mineU a l)).2.1 = 0))) S (y_mv rfl) ?_
   rcases Bool.eq_false_or_eq_true (decide ((PlayS (startG n) (mineU a l)).2.1 = 0)) with hO | hO
   · -- hO True
    refine l_y (v := .bool false) S (y_not rfl (by rw [hO]; rfl)) ?_
    refine l_y (v := .bool false) S (y_mv rfl) ?_
    refine l_g (d' := 80) (v := .bool (decide ((PlayS (startG n) (mineU b l)).2.1 = 0))) S (y_mv rfl) rfl rfl ?_
    rcases Bool.eq_false_or_eq_true (decide ((PlayS (startG n) (mineU b l)).2.1 = 0)) with hI | hI
    · -- hI True
     refine l_g (d' := 80) (v := .bool false) S (y_not rfl (by rw [hI]; rfl)) rfl rfl ?_
     refine l_y (v := .bool false) S (y_pF rfl rfl) ?_
     refine l_y (v := .bool false) S (y_mv rfl) ?_
     refine l_g (d' := 84) (v := .bool (decide ((PlayS (startG n) (mineU c l)).2.1 = 0))) S (y_mv rfl) rfl rfl ?_
     rcases Bool.eq_false_or_eq_true (decide ((PlayS (startG n) (mineU c l)).2.1 = 0)) with hJ | hJ
     · -- hJ True
      refine l_g (d' := 84) (v := .bool false) S (y_not rfl (by rw [hJ]; rfl)) rfl rfl ?_
      refine l_y (v := .bool false) S (y_pF rfl rfl) ?_
      refine l_nil ?_
      refine n_seq ?_
      refine e_cF rfl ?_
      refine e_skip ?_
      refine n_seq ?_
      refine e_seq ?_
      refine e_reg ?_
      have U := laws_law hA hB hD hC hO hI hJ
      rw [← eX, ← eY, ← eZ] at U
      refine l_y (v := .agg #[.slice A72 X.clock.length c73, .slice A75 X.lives.length c76, .slice A78 X.tallies.length c79]) S (y_ld rfl (fun w S => ld_bA (vs := [.slice A72 X.clock.length c73, .slice A75 X.lives.length c76, .slice A78 X.tallies.length c79]) (i := 1) S rfl T27 rfl rfl)) ?_
      refine l_y (v := .agg #[.slice A98 Y.clock.length c99, .slice A101 Y.lives.length c102, .slice A104 Y.tallies.length c105]) S (y_ld rfl (fun w S => ld_bA (vs := [.slice A98 Y.clock.length c99, .slice A101 Y.lives.length c102, .slice A104 Y.tallies.length c105]) (i := 2) S rfl T27 rfl rfl)) ?_
      refine l_c (en_f (vs := [.agg #[.slice A72 X.clock.length c73, .slice A75 X.lives.length c76, .slice A78 X.tallies.length c79], .agg #[.slice A98 Y.clock.length c99, .slice A101 Y.lives.length c102, .slice A104 Y.tallies.length c105]]) (CF 31 _) rfl rfl) (Join_m _ _ S.le _ _ X Y (⟨_, rfl, ⟨_, _, _, rfl, h67, h69, h71⟩⟩ : AggR StateR rd111 _ X) (⟨_, rfl, ⟨_, _, _, rfl, h93, h95, h97⟩⟩ : AggR StateR rd111 _ Y)) ?_
      rintro e w136 ⟨v141, rfl, h142, k⟩
      obtain ⟨XY, eXY⟩ : ∃ z, z = (JoinS X Y).1 := ⟨_, rfl⟩; rw [← eXY] at h142
      obtain ⟨rd137, S, L138, N139, X140⟩ := S.call' k; clear k
      replace q1 := fm q1 L138
      replace q4 := fm q4 L138
      replace h67 := fm h67 L138
      replace h69 := fm h69 L138
      replace h71 := fm h71 L138
      replace h93 := fm h93 L138
      replace h95 := fm h95 L138
      replace h97 := fm h97 L138
      replace h119 := fm h119 L138
      replace h121 := fm h121 L138
      replace h123 := fm h123 L138
      replace h142 := am h142 X140
      obtain ⟨cs143, h142v, h142⟩ := h142; subst h142v
      obtain ⟨sv144, sv146, sv148, h142e, h145, h147, h149⟩ := h142; subst h142e
      obtain ⟨A150, c151, rfl, m152, m152'⟩ := h145.val
      obtain ⟨A153, c154, rfl, m155, m155'⟩ := h147.val
      obtain ⟨A156, c157, rfl, m158, m158'⟩ := h149.val
      refine ckd ?_
      refine l_y (v := .tuple #[.agg #[.slice A150 XY.clock.length c151, .slice A153 XY.lives.length c154, .slice A156 XY.tallies.length c157], .int .i64 ((JoinS X Y).2)]) S (y_mv rfl) ?_
      refine l_y (v := .agg #[.slice A150 XY.clock.length c151, .slice A153 XY.lives.length c154, .slice A156 XY.tallies.length c157]) S (y_ex rfl rfl) ?_
      refine l_y (v := .int .i64 ((JoinS X Y).2)) S (y_ex rfl rfl) ?_
      refine l_al (cs := #[.slice none 0 0, .slice none 0 0, .slice none 0 0]) S Z27 rfl fun g159 w160 S => ?_
      refine l_st (u := .agg #[.slice A150 XY.clock.length c151, .slice A153 XY.lives.length c154, .slice A156 XY.tallies.length c157]) (i := 4) (cs' := #[.slice A150 XY.clock.length c151, .slice A153 XY.lives.length c154, .slice A156 XY.tallies.length c157]) S rfl rfl rfl SZ27 rfl rfl rfl fun w161 S => ?_
      refine l_y (v := .int .i64 ((JoinS X Y).2)) S (y_as rfl) ?_
      refine l_nil ?_
      refine n_seq ?_
      refine e_trim [(15, .pointer (some ⟨g81, 0, none⟩)), (17, .pointer (some ⟨g107, 0, none⟩)), (19, .pointer (some ⟨g133, 0, none⟩)), (21, .pointer (some ⟨g159, 0, none⟩)), (22, .int .i64 ((JoinS X Y).2))] ⟨⟨rfl, rfl⟩, ⟨rfl, rfl⟩, ⟨rfl, rfl⟩, ⟨rfl, rfl⟩, ⟨rfl, rfl⟩, trivial⟩ (fun junk => ?_)
      refine e_seq ?_
      refine e_reg ?_
      refine l_y (v := .agg #[.slice A98 Y.clock.length c99, .slice A101 Y.lives.length c102, .slice A104 Y.tallies.length c105]) S (y_ld rfl (fun w S => ld_bA (vs := [.slice A98 Y.clock.length c99, .slice A101 Y.lives.length c102, .slice A104 Y.tallies.length c105]) (i := 2) S rfl T27 rfl rfl)) ?_
      refine l_y (v := .agg #[.slice A72 X.clock.length c73, .slice A75 X.lives.length c76, .slice A78 X.tallies.length c79]) S (y_ld rfl (fun w S => ld_bA (vs := [.slice A72 X.clock.length c73, .slice A75 X.lives.length c76, .slice A78 X.tallies.length c79]) (i := 1) S rfl T27 rfl rfl)) ?_
      refine l_c (en_f (vs := [.agg #[.slice A98 Y.clock.length c99, .slice A101 Y.lives.length c102, .slice A104 Y.tallies.length c105], .agg #[.slice A72 X.clock.length c73, .slice A75 X.lives.length c76, .slice A78 X.tallies.length c79]]) (CF 31 _) rfl rfl) (Join_m _ _ S.le _ _ Y X (⟨_, rfl, ⟨_, _, _, rfl, h93, h95, h97⟩⟩ : AggR StateR rd137 _ Y) (⟨_, rfl, ⟨_, _, _, rfl, h67, h69, h71⟩⟩ : AggR StateR rd137 _ X)) ?_
      rintro e w162 ⟨v167, rfl, h168, k⟩
      obtain ⟨YX, eYX⟩ : ∃ z, z = (JoinS Y X).1 := ⟨_, rfl⟩; rw [← eYX] at h168
      obtain ⟨rd163, S, L164, N165, X166⟩ := S.call' k; clear k
      replace h67 := fm h67 L164
      replace h69 := fm h69 L164
      replace h71 := fm h71 L164
      replace h93 := fm h93 L164
      replace h95 := fm h95 L164
      replace h97 := fm h97 L164
      replace h119 := fm h119 L164
      replace h121 := fm h121 L164
      replace h123 := fm h123 L164
      replace h145 := fm h145 L164
      replace h147 := fm h147 L164
      replace h149 := fm h149 L164
      replace h168 := am h168 X166
      obtain ⟨cs169, h168v, h168⟩ := h168; subst h168v
      obtain ⟨sv170, sv172, sv174, h168e, h171, h173, h175⟩ := h168; subst h168e
      obtain ⟨A176, c177, rfl, m178, m178'⟩ := h171.val
      obtain ⟨A179, c180, rfl, m181, m181'⟩ := h173.val
      obtain ⟨A182, c183, rfl, m184, m184'⟩ := h175.val
      refine ckd ?_
      refine l_y (v := .tuple #[.agg #[.slice A176 YX.clock.length c177, .slice A179 YX.lives.length c180, .slice A182 YX.tallies.length c183], .int .i64 ((JoinS Y X).2)]) S (y_mv rfl) ?_
      refine l_y (v := .agg #[.slice A176 YX.clock.length c177, .slice A179 YX.lives.length c180, .slice A182 YX.tallies.length c183]) S (y_ex rfl rfl) ?_
      refine l_y (v := .int .i64 ((JoinS Y X).2)) S (y_ex rfl rfl) ?_
      refine l_al (cs := #[.slice none 0 0, .slice none 0 0, .slice none 0 0]) S Z27 rfl fun g185 w186 S => ?_
      refine l_st (u := .agg #[.slice A176 YX.clock.length c177, .slice A179 YX.lives.length c180, .slice A182 YX.tallies.length c183]) (i := 5) (cs' := #[.slice A176 YX.clock.length c177, .slice A179 YX.lives.length c180, .slice A182 YX.tallies.length c183]) S rfl rfl rfl SZ27 rfl rfl rfl fun w187 S => ?_
      refine l_y (v := .int .i64 ((JoinS Y X).2)) S (y_as rfl) ?_
      refine l_nil ?_
      refine n_seq ?_
      refine e_seq ?_
      refine e_reg ?_
      refine l_y (v := .agg #[.slice A72 X.clock.length c73, .slice A75 X.lives.length c76, .slice A78 X.tallies.length c79]) S (y_ld rfl (fun w S => ld_bA (vs := [.slice A72 X.clock.length c73, .slice A75 X.lives.length c76, .slice A78 X.tallies.length c79]) (i := 1) S rfl T27 rfl rfl)) ?_
      refine l_y (v := .agg #[.slice A72 X.clock.length c73, .slice A75 X.lives.length c76, .slice A78 X.tallies.length c79]) S (y_ld rfl (fun w S => ld_bA (vs := [.slice A72 X.clock.length c73, .slice A75 X.lives.length c76, .slice A78 X.tallies.length c79]) (i := 1) S rfl T27 rfl rfl)) ?_
      refine l_c (en_f (vs := [.agg #[.slice A72 X.clock.length c73, .slice A75 X.lives.length c76, .slice A78 X.tallies.length c79], .agg #[.slice A72 X.clock.length c73, .slice A75 X.lives.length c76, .slice A78 X.tallies.length c79]]) (CF 31 _) rfl rfl) (Join_m _ _ S.le _ _ X X (⟨_, rfl, ⟨_, _, _, rfl, h67, h69, h71⟩⟩ : AggR StateR rd163 _ X) (⟨_, rfl, ⟨_, _, _, rfl, h67, h69, h71⟩⟩ : AggR StateR rd163 _ X)) ?_
      rintro e w188 ⟨v193, rfl, h194, k⟩
      obtain ⟨XX, eXX⟩ : ∃ z, z = (JoinS X X).1 := ⟨_, rfl⟩; rw [← eXX] at h194
      obtain ⟨rd189, S, L190, N191, X192⟩ := S.call' k; clear k
      replace h67 := fm h67 L190
      replace h69 := fm h69 L190
      replace h71 := fm h71 L190
      replace h93 := fm h93 L190
      replace h95 := fm h95 L190
      replace h97 := fm h97 L190
      replace h119 := fm h119 L190
      replace h121 := fm h121 L190
      replace h123 := fm h123 L190
      replace h145 := fm h145 L190
      replace h147 := fm h147 L190
      replace h149 := fm h149 L190
      replace h171 := fm h171 L190
      replace h173 := fm h173 L190
      replace h175 := fm h175 L190
      replace h194 := am h194 X192
      obtain ⟨cs195, h194v, h194⟩ := h194; subst h194v
      obtain ⟨sv196, sv198, sv200, h194e, h197, h199, h201⟩ := h194; subst h194e
      obtain ⟨A202, c203, rfl, m204, m204'⟩ := h197.val
      obtain ⟨A205, c206, rfl, m207, m207'⟩ := h199.val
      obtain ⟨A208, c209, rfl, m210, m210'⟩ := h201.val
      refine ckd ?_
      refine l_y (v := .tuple #[.agg #[.slice A202 XX.clock.length c203, .slice A205 XX.lives.length c206, .slice A208 XX.tallies.length c209], .int .i64 ((JoinS X X).2)]) S (y_mv rfl) ?_
      refine l_y (v := .agg #[.slice A202 XX.clock.length c203, .slice A205 XX.lives.length c206, .slice A208 XX.tallies.length c209]) S (y_ex rfl rfl) ?_
      refine l_y (v := .int .i64 ((JoinS X X).2)) S (y_ex rfl rfl) ?_
      refine l_al (cs := #[.slice none 0 0, .slice none 0 0, .slice none 0 0]) S Z27 rfl fun g211 w212 S => ?_
      refine l_st (u := .agg #[.slice A202 XX.clock.length c203, .slice A205 XX.lives.length c206, .slice A208 XX.tallies.length c209]) (i := 6) (cs' := #[.slice A202 XX.clock.length c203, .slice A205 XX.lives.length c206, .slice A208 XX.tallies.length c209]) S rfl rfl rfl SZ27 rfl rfl rfl fun w213 S => ?_
      refine l_y (v := .int .i64 ((JoinS X X).2)) S (y_as rfl) ?_
      refine l_nil ?_
      refine n_seq ?_
      refine e_seq ?_
      refine e_seq ?_
      refine e_reg ?_
      refine l_y (v := .int .i64 ((JoinS X Y).2)) S (y_mv rfl) ?_
      have h214 : (JoinS X Y).2 = 0 := U.xy
      refine l_y (v := .bool false) S (y_neF rfl rfl h214) ?_
      refine l_y (v := .bool false) S (y_mv rfl) ?_
      refine l_g (d' := 108) (v := .int .i64 ((JoinS Y X).2)) S (y_mv rfl) rfl rfl ?_
      have h215 : (JoinS Y X).2 = 0 := U.yx
      refine l_g (d' := 108) (v := .bool false) S (y_neF rfl rfl h215) rfl rfl ?_
      refine l_y (v := .bool false) S (y_pF rfl rfl) ?_
      refine l_y (v := .bool false) S (y_mv rfl) ?_
      refine l_g (d' := 112) (v := .int .i64 ((JoinS X X).2)) S (y_mv rfl) rfl rfl ?_
      have h216 : (JoinS X X).2 = 0 := U.xx
      refine l_g (d' := 112) (v := .bool false) S (y_neF rfl rfl h216) rfl rfl ?_
      refine l_y (v := .bool false) S (y_pF rfl rfl) ?_
      refine l_y (v := .bool false) S (y_mv rfl) ?_
      refine l_g (d' := 116) (v := .agg #[.slice A150 XY.clock.length c151, .slice A153 XY.lives.length c154, .slice A156 XY.tallies.length c157]) S (y_ld rfl (fun w S => ld_bA (vs := [.slice A150 XY.clock.length c151, .slice A153 XY.lives.length c154, .slice A156 XY.tallies.length c157]) (i := 4) S rfl T27 rfl rfl)) rfl rfl ?_
      refine l_g (d' := 116) (v := .agg #[.slice A176 YX.clock.length c177, .slice A179 YX.lives.length c180, .slice A182 YX.tallies.length c183]) S (y_ld rfl (fun w S => ld_bA (vs := [.slice A176 YX.clock.length c177, .slice A179 YX.lives.length c180, .slice A182 YX.tallies.length c183]) (i := 5) S rfl T27 rfl rfl)) rfl rfl ?_
      refine l_cg (d' := 116) (en_f (vs := [.agg #[.slice A150 XY.clock.length c151, .slice A153 XY.lives.length c154, .slice A156 XY.tallies.length c157], .agg #[.slice A176 YX.clock.length c177, .slice A179 YX.lives.length c180, .slice A182 YX.tallies.length c183]]) (CF 15 _) rfl rfl) rfl rfl (SSame_c _ _ S.le _ _ XY YX (⟨_, rfl, ⟨_, _, _, rfl, h145, h147, h149⟩⟩ : AggR StateR rd189 _ XY) (⟨_, rfl, ⟨_, _, _, rfl, h171, h173, h175⟩⟩ : AggR StateR rd189 _ YX)) ?_
      rintro e w217 ⟨rfl, k⟩
      have S := S.callq k; clear k
      have b218 : sameS XY YX = true := decide_eq_true (by rw [eXY, eYX]; exact U.comm)
      rw [b218]
      refine ckd ?_
      refine l_g (d' := 116) (v := .bool false) S (y_not rfl rfl) rfl rfl ?_
      refine l_y (v := .bool false) S (y_pF rfl rfl) ?_
      refine l_y (v := .bool false) S (y_mv rfl) ?_
      refine l_g (d' := 122) (v := .agg #[.slice A202 XX.clock.length c203, .slice A205 XX.lives.length c206, .slice A208 XX.tallies.length c209]) S (y_ld rfl (fun w S => ld_bA (vs := [.slice A202 XX.clock.length c203, .slice A205 XX.lives.length c206, .slice A208 XX.tallies.length c209]) (i := 6) S rfl T27 rfl rfl)) rfl rfl ?_
      refine l_g (d' := 122) (v := .agg #[.slice A72 X.clock.length c73, .slice A75 X.lives.length c76, .slice A78 X.tallies.length c79]) S (y_ld rfl (fun w S => ld_bA (vs := [.slice A72 X.clock.length c73, .slice A75 X.lives.length c76, .slice A78 X.tallies.length c79]) (i := 1) S rfl T27 rfl rfl)) rfl rfl ?_
      refine l_cg (d' := 122) (en_f (vs := [.agg #[.slice A202 XX.clock.length c203, .slice A205 XX.lives.length c206, .slice A208 XX.tallies.length c209], .agg #[.slice A72 X.clock.length c73, .slice A75 X.lives.length c76, .slice A78 X.tallies.length c79]]) (CF 15 _) rfl rfl) rfl rfl (SSame_c _ _ S.le _ _ XX X (⟨_, rfl, ⟨_, _, _, rfl, h197, h199, h201⟩⟩ : AggR StateR rd189 _ XX) (⟨_, rfl, ⟨_, _, _, rfl, h67, h69, h71⟩⟩ : AggR StateR rd189 _ X)) ?_
      rintro e w219 ⟨rfl, k⟩
      have S := S.callq k; clear k
      have b220 : sameS XX X = true := decide_eq_true (by rw [eXX]; exact U.self)
      rw [b220]
      refine ckd ?_
      refine l_g (d' := 122) (v := .bool false) S (y_not rfl rfl) rfl rfl ?_
      refine l_y (v := .bool false) S (y_pF rfl rfl) ?_
      refine l_nil ?_
      refine n_seq ?_
      refine e_trim [(15, .pointer (some ⟨g81, 0, none⟩)), (17, .pointer (some ⟨g107, 0, none⟩)), (19, .pointer (some ⟨g133, 0, none⟩)), (21, .pointer (some ⟨g159, 0, none⟩)), (22, .int .i64 ((JoinS X Y).2)), (24, .int .i64 ((JoinS Y X).2)), (26, .int .i64 ((JoinS X X).2)), (127, .bool false)] ⟨⟨rfl, rfl⟩, ⟨rfl, rfl⟩, ⟨rfl, rfl⟩, ⟨rfl, rfl⟩, ⟨rfl, rfl⟩, ⟨rfl, rfl⟩, ⟨rfl, rfl⟩, ⟨rfl, rfl⟩, trivial⟩ (fun junk => ?_)
      refine e_cF rfl ?_
      refine e_skip ?_
      refine n_seq ?_
      refine e_seq ?_
      refine e_reg ?_
      refine l_y (v := .agg #[.slice A98 Y.clock.length c99, .slice A101 Y.lives.length c102, .slice A104 Y.tallies.length c105]) S (y_ld rfl (fun w S => ld_bA (vs := [.slice A98 Y.clock.length c99, .slice A101 Y.lives.length c102, .slice A104 Y.tallies.length c105]) (i := 2) S rfl T27 rfl rfl)) ?_
      refine l_y (v := .agg #[.slice A124 Z.clock.length c125, .slice A127 Z.lives.length c128, .slice A130 Z.tallies.length c131]) S (y_ld rfl (fun w S => ld_bA (vs := [.slice A124 Z.clock.length c125, .slice A127 Z.lives.length c128, .slice A130 Z.tallies.length c131]) (i := 3) S rfl T27 rfl rfl)) ?_
      refine l_c (en_f (vs := [.agg #[.slice A98 Y.clock.length c99, .slice A101 Y.lives.length c102, .slice A104 Y.tallies.length c105], .agg #[.slice A124 Z.clock.length c125, .slice A127 Z.lives.length c128, .slice A130 Z.tallies.length c131]]) (CF 31 _) rfl rfl) (Join_m _ _ S.le _ _ Y Z (⟨_, rfl, ⟨_, _, _, rfl, h93, h95, h97⟩⟩ : AggR StateR rd189 _ Y) (⟨_, rfl, ⟨_, _, _, rfl, h119, h121, h123⟩⟩ : AggR StateR rd189 _ Z)) ?_
      rintro e w221 ⟨v226, rfl, h227, k⟩
      obtain ⟨YZ, eYZ⟩ : ∃ z, z = (JoinS Y Z).1 := ⟨_, rfl⟩; rw [← eYZ] at h227
      obtain ⟨rd222, S, L223, N224, X225⟩ := S.call' k; clear k
      replace h67 := fm h67 L223
      replace h69 := fm h69 L223
      replace h71 := fm h71 L223
      replace h93 := fm h93 L223
      replace h95 := fm h95 L223
      replace h97 := fm h97 L223
      replace h119 := fm h119 L223
      replace h121 := fm h121 L223
      replace h123 := fm h123 L223
      replace h145 := fm h145 L223
      replace h147 := fm h147 L223
      replace h149 := fm h149 L223
      replace h171 := fm h171 L223
      replace h173 := fm h173 L223
      replace h175 := fm h175 L223
      replace h197 := fm h197 L223
      replace h199 := fm h199 L223
      replace h201 := fm h201 L223
      replace h227 := am h227 X225
      obtain ⟨cs228, h227v, h227⟩ := h227; subst h227v
      obtain ⟨sv229, sv231, sv233, h227e, h230, h232, h234⟩ := h227; subst h227e
      obtain ⟨A235, c236, rfl, m237, m237'⟩ := h230.val
      obtain ⟨A238, c239, rfl, m240, m240'⟩ := h232.val
      obtain ⟨A241, c242, rfl, m243, m243'⟩ := h234.val
      refine ckd ?_
      refine l_y (v := .tuple #[.agg #[.slice A235 YZ.clock.length c236, .slice A238 YZ.lives.length c239, .slice A241 YZ.tallies.length c242], .int .i64 ((JoinS Y Z).2)]) S (y_mv rfl) ?_
      refine l_y (v := .agg #[.slice A235 YZ.clock.length c236, .slice A238 YZ.lives.length c239, .slice A241 YZ.tallies.length c242]) S (y_ex rfl rfl) ?_
      refine l_y (v := .int .i64 ((JoinS Y Z).2)) S (y_ex rfl rfl) ?_
      refine l_al (cs := #[.slice none 0 0, .slice none 0 0, .slice none 0 0]) S Z27 rfl fun g244 w245 S => ?_
      refine l_st (u := .agg #[.slice A235 YZ.clock.length c236, .slice A238 YZ.lives.length c239, .slice A241 YZ.tallies.length c242]) (i := 7) (cs' := #[.slice A235 YZ.clock.length c236, .slice A238 YZ.lives.length c239, .slice A241 YZ.tallies.length c242]) S rfl rfl rfl SZ27 rfl rfl rfl fun w246 S => ?_
      have S : St [] W (wrd W) rd222 [(g55, 33, #[.int .i64 ((clockL (List.replicate n.toNat (0 : Int)) l n).2.1), .int .i64 ((clockL (List.replicate n.toNat (0 : Int)) l n).2.2)]), (g81, 27, #[.slice A72 X.clock.length c73, .slice A75 X.lives.length c76, .slice A78 X.tallies.length c79]), (g107, 27, #[.slice A98 Y.clock.length c99, .slice A101 Y.lives.length c102, .slice A104 Y.tallies.length c105]), (g133, 27, #[.slice A124 Z.clock.length c125, .slice A127 Z.lives.length c128, .slice A130 Z.tallies.length c131]), (g159, 27, #[.slice A150 XY.clock.length c151, .slice A153 XY.lives.length c154, .slice A156 XY.tallies.length c157]), (g185, 27, #[.slice A176 YX.clock.length c177, .slice A179 YX.lives.length c180, .slice A182 YX.tallies.length c183]), (g211, 27, #[.slice A202 XX.clock.length c203, .slice A205 XX.lives.length c206, .slice A208 XX.tallies.length c209]), (g244, 27, #[.slice A235 YZ.clock.length c236, .slice A238 YZ.lives.length c239, .slice A241 YZ.tallies.length c242])] [] _ := S.rw' rfl rfl
      refine l_y (v := .int .i64 ((JoinS Y Z).2)) S (y_as rfl) ?_
      refine l_nil ?_
      refine n_seq ?_
      refine e_seq ?_
      refine e_reg ?_
      refine l_y (v := .agg #[.slice A150 XY.clock.length c151, .slice A153 XY.lives.length c154, .slice A156 XY.tallies.length c157]) S (y_ld rfl (fun w S => ld_bA (vs := [.slice A150 XY.clock.length c151, .slice A153 XY.lives.length c154, .slice A156 XY.tallies.length c157]) (i := 4) S rfl T27 rfl rfl)) ?_
      refine l_y (v := .agg #[.slice A124 Z.clock.length c125, .slice A127 Z.lives.length c128, .slice A130 Z.tallies.length c131]) S (y_ld rfl (fun w S => ld_bA (vs := [.slice A124 Z.clock.length c125, .slice A127 Z.lives.length c128, .slice A130 Z.tallies.length c131]) (i := 3) S rfl T27 rfl rfl)) ?_
      refine l_c (en_f (vs := [.agg #[.slice A150 XY.clock.length c151, .slice A153 XY.lives.length c154, .slice A156 XY.tallies.length c157], .agg #[.slice A124 Z.clock.length c125, .slice A127 Z.lives.length c128, .slice A130 Z.tallies.length c131]]) (CF 31 _) rfl rfl) (Join_m _ _ S.le _ _ XY Z (⟨_, rfl, ⟨_, _, _, rfl, h145, h147, h149⟩⟩ : AggR StateR rd222 _ XY) (⟨_, rfl, ⟨_, _, _, rfl, h119, h121, h123⟩⟩ : AggR StateR rd222 _ Z)) ?_
      rintro e w247 ⟨v252, rfl, h253, k⟩
      obtain ⟨XYZ, eXYZ⟩ : ∃ z, z = (JoinS XY Z).1 := ⟨_, rfl⟩; rw [← eXYZ] at h253
      obtain ⟨rd248, S, L249, N250, X251⟩ := S.call' k; clear k
      replace h67 := fm h67 L249
      replace h69 := fm h69 L249
      replace h71 := fm h71 L249
      replace h93 := fm h93 L249
      replace h95 := fm h95 L249
      replace h97 := fm h97 L249
      replace h119 := fm h119 L249
      replace h121 := fm h121 L249
      replace h123 := fm h123 L249
      replace h145 := fm h145 L249
      replace h147 := fm h147 L249
      replace h149 := fm h149 L249
      replace h171 := fm h171 L249
      replace h173 := fm h173 L249
      replace h175 := fm h175 L249
      replace h197 := fm h197 L249
      replace h199 := fm h199 L249
      replace h201 := fm h201 L249
      replace h230 := fm h230 L249
      replace h232 := fm h232 L249
      replace h234 := fm h234 L249
      replace h253 := am h253 X251
      obtain ⟨cs254, h253v, h253⟩ := h253; subst h253v
      obtain ⟨sv255, sv257, sv259, h253e, h256, h258, h260⟩ := h253; subst h253e
      obtain ⟨A261, c262, rfl, m263, m263'⟩ := h256.val
      obtain ⟨A264, c265, rfl, m266, m266'⟩ := h258.val
      obtain ⟨A267, c268, rfl, m269, m269'⟩ := h260.val
      refine ckd ?_
      refine l_y (v := .tuple #[.agg #[.slice A261 XYZ.clock.length c262, .slice A264 XYZ.lives.length c265, .slice A267 XYZ.tallies.length c268], .int .i64 ((JoinS XY Z).2)]) S (y_mv rfl) ?_
      refine l_y (v := .agg #[.slice A261 XYZ.clock.length c262, .slice A264 XYZ.lives.length c265, .slice A267 XYZ.tallies.length c268]) S (y_ex rfl rfl) ?_
      refine l_y (v := .int .i64 ((JoinS XY Z).2)) S (y_ex rfl rfl) ?_
      refine l_al (cs := #[.slice none 0 0, .slice none 0 0, .slice none 0 0]) S Z27 rfl fun g270 w271 S => ?_
      refine l_st (u := .agg #[.slice A261 XYZ.clock.length c262, .slice A264 XYZ.lives.length c265, .slice A267 XYZ.tallies.length c268]) (i := 8) (cs' := #[.slice A261 XYZ.clock.length c262, .slice A264 XYZ.lives.length c265, .slice A267 XYZ.tallies.length c268]) S rfl rfl rfl SZ27 rfl rfl rfl fun w272 S => ?_
      refine l_y (v := .int .i64 ((JoinS XY Z).2)) S (y_as rfl) ?_
      refine l_nil ?_
      refine n_seq ?_
      refine e_seq ?_
      refine e_reg ?_
      refine l_y (v := .agg #[.slice A72 X.clock.length c73, .slice A75 X.lives.length c76, .slice A78 X.tallies.length c79]) S (y_ld rfl (fun w S => ld_bA (vs := [.slice A72 X.clock.length c73, .slice A75 X.lives.length c76, .slice A78 X.tallies.length c79]) (i := 1) S rfl T27 rfl rfl)) ?_
      refine l_y (v := .agg #[.slice A235 YZ.clock.length c236, .slice A238 YZ.lives.length c239, .slice A241 YZ.tallies.length c242]) S (y_ld rfl (fun w S => ld_bA (vs := [.slice A235 YZ.clock.length c236, .slice A238 YZ.lives.length c239, .slice A241 YZ.tallies.length c242]) (i := 7) S rfl T27 rfl rfl)) ?_
      refine l_c (en_f (vs := [.agg #[.slice A72 X.clock.length c73, .slice A75 X.lives.length c76, .slice A78 X.tallies.length c79], .agg #[.slice A235 YZ.clock.length c236, .slice A238 YZ.lives.length c239, .slice A241 YZ.tallies.length c242]]) (CF 31 _) rfl rfl) (Join_m _ _ S.le _ _ X YZ (⟨_, rfl, ⟨_, _, _, rfl, h67, h69, h71⟩⟩ : AggR StateR rd248 _ X) (⟨_, rfl, ⟨_, _, _, rfl, h230, h232, h234⟩⟩ : AggR StateR rd248 _ YZ)) ?_
      rintro e w273 ⟨v278, rfl, h279, k⟩
      obtain ⟨XYZ2, eXYZ2⟩ : ∃ z, z = (JoinS X YZ).1 := ⟨_, rfl⟩; rw [← eXYZ2] at h279
      obtain ⟨rd274, S, L275, N276, X277⟩ := S.call' k; clear k
      replace h67 := fm h67 L275
      replace h69 := fm h69 L275
      replace h71 := fm h71 L275
      replace h93 := fm h93 L275
      replace h95 := fm h95 L275
      replace h97 := fm h97 L275
      replace h119 := fm h119 L275
      replace h121 := fm h121 L275
      replace h123 := fm h123 L275
      replace h145 := fm h145 L275
      replace h147 := fm h147 L275
      replace h149 := fm h149 L275
      replace h171 := fm h171 L275
      replace h173 := fm h173 L275
      replace h175 := fm h175 L275
      replace h197 := fm h197 L275
      replace h199 := fm h199 L275
      replace h201 := fm h201 L275
      replace h230 := fm h230 L275
      replace h232 := fm h232 L275
      replace h234 := fm h234 L275
      replace h256 := fm h256 L275
      replace h258 := fm h258 L275
      replace h260 := fm h260 L275
      replace h279 := am h279 X277
      obtain ⟨cs280, h279v, h279⟩ := h279; subst h279v
      obtain ⟨sv281, sv283, sv285, h279e, h282, h284, h286⟩ := h279; subst h279e
      obtain ⟨A287, c288, rfl, m289, m289'⟩ := h282.val
      obtain ⟨A290, c291, rfl, m292, m292'⟩ := h284.val
      obtain ⟨A293, c294, rfl, m295, m295'⟩ := h286.val
      refine ckd ?_
      refine l_y (v := .tuple #[.agg #[.slice A287 XYZ2.clock.length c288, .slice A290 XYZ2.lives.length c291, .slice A293 XYZ2.tallies.length c294], .int .i64 ((JoinS X YZ).2)]) S (y_mv rfl) ?_
      refine l_y (v := .agg #[.slice A287 XYZ2.clock.length c288, .slice A290 XYZ2.lives.length c291, .slice A293 XYZ2.tallies.length c294]) S (y_ex rfl rfl) ?_
      refine l_y (v := .int .i64 ((JoinS X YZ).2)) S (y_ex rfl rfl) ?_
      refine l_al (cs := #[.slice none 0 0, .slice none 0 0, .slice none 0 0]) S Z27 rfl fun g296 w297 S => ?_
      refine l_st (u := .agg #[.slice A287 XYZ2.clock.length c288, .slice A290 XYZ2.lives.length c291, .slice A293 XYZ2.tallies.length c294]) (i := 9) (cs' := #[.slice A287 XYZ2.clock.length c288, .slice A290 XYZ2.lives.length c291, .slice A293 XYZ2.tallies.length c294]) S rfl rfl rfl SZ27 rfl rfl rfl fun w298 S => ?_
      refine l_y (v := .int .i64 ((JoinS X YZ).2)) S (y_as rfl) ?_
      refine l_nil ?_
      refine n_seq ?_
      refine e_trim [(22, .int .i64 ((JoinS Y Z).2)), (24, .int .i64 ((JoinS XY Z).2)), (26, .int .i64 ((JoinS X YZ).2)), (28, .pointer (some ⟨g270, 0, none⟩)), (29, .pointer (some ⟨g296, 0, none⟩))] ⟨⟨rfl, rfl⟩, ⟨rfl, rfl⟩, ⟨rfl, rfl⟩, ⟨rfl, rfl⟩, ⟨rfl, rfl⟩, trivial⟩ (fun junk => ?_)
      refine e_seq ?_
      refine e_reg ?_
      refine l_y (v := .int .i64 ((JoinS Y Z).2)) S (y_mv rfl) ?_
      have h299 : (JoinS Y Z).2 = 0 := U.yz
      refine l_y (v := .bool true) S (y_eqT rfl rfl h299) ?_
      refine l_y (v := .bool true) S (y_mv rfl) ?_
      refine l_g (d' := 148) (v := .int .i64 ((JoinS XY Z).2)) S (y_mv rfl) rfl rfl ?_
      have h300 : (JoinS XY Z).2 = 0 := by rw [eXY]; exact U.l
      refine l_g (d' := 148) (v := .bool true) S (y_eqT rfl rfl h300) rfl rfl ?_
      refine l_y (v := .bool true) S (y_pT rfl rfl) ?_
      refine l_y (v := .bool true) S (y_mv rfl) ?_
      refine l_g (d' := 152) (v := .int .i64 ((JoinS X YZ).2)) S (y_mv rfl) rfl rfl ?_
      have h301 : (JoinS X YZ).2 = 0 := by rw [eYZ]; exact U.r
      refine l_g (d' := 152) (v := .bool true) S (y_eqT rfl rfl h301) rfl rfl ?_
      refine l_y (v := .bool true) S (y_pT rfl rfl) ?_
      refine l_y (v := .bool true) S (y_mv rfl) ?_
      refine l_g (d' := 156) (v := .agg #[.slice A261 XYZ.clock.length c262, .slice A264 XYZ.lives.length c265, .slice A267 XYZ.tallies.length c268]) S (y_ld rfl (fun w S => ld_bA (vs := [.slice A261 XYZ.clock.length c262, .slice A264 XYZ.lives.length c265, .slice A267 XYZ.tallies.length c268]) (i := 8) S rfl T27 rfl rfl)) rfl rfl ?_
      refine l_g (d' := 156) (v := .agg #[.slice A287 XYZ2.clock.length c288, .slice A290 XYZ2.lives.length c291, .slice A293 XYZ2.tallies.length c294]) S (y_ld rfl (fun w S => ld_bA (vs := [.slice A287 XYZ2.clock.length c288, .slice A290 XYZ2.lives.length c291, .slice A293 XYZ2.tallies.length c294]) (i := 9) S rfl T27 rfl rfl)) rfl rfl ?_
      refine l_cg (d' := 156) (en_f (vs := [.agg #[.slice A261 XYZ.clock.length c262, .slice A264 XYZ.lives.length c265, .slice A267 XYZ.tallies.length c268], .agg #[.slice A287 XYZ2.clock.length c288, .slice A290 XYZ2.lives.length c291, .slice A293 XYZ2.tallies.length c294]]) (CF 15 _) rfl rfl) rfl rfl (SSame_c _ _ S.le _ _ XYZ XYZ2 (⟨_, rfl, ⟨_, _, _, rfl, h256, h258, h260⟩⟩ : AggR StateR rd274 _ XYZ) (⟨_, rfl, ⟨_, _, _, rfl, h282, h284, h286⟩⟩ : AggR StateR rd274 _ XYZ2)) ?_
      rintro e w302 ⟨rfl, k⟩
      have S := S.callq k; clear k
      have b303 : sameS XYZ XYZ2 = true := decide_eq_true (by rw [eXYZ, eXYZ2, eXY, eYZ]; exact U.assoc)
      rw [b303]
      refine ckd ?_
      refine l_y (v := .bool true) S (y_pT rfl rfl) ?_
      refine l_y (v := .bool true) S (y_as rfl) ?_
      refine l_nil ?_
      refine n_seq ?_
      refine e_ret ?_
      refine ret1 (v := .bool true) rfl rfl ?_
      exact ⟨rfl, S.below⟩
     · -- hJ False
      refine l_g (d' := 84) (v := .bool true) S (y_not rfl (by rw [hJ]; rfl)) rfl rfl ?_
      refine l_y (v := .bool true) S (y_pF rfl rfl) ?_
      refine l_nil ?_
      refine n_seq ?_
      refine e_cT rfl ?_
      refine e_seq ?_
      refine e_reg ?_
      refine l_y (v := .bool true) S (y_as rfl) ?_
      refine l_nil ?_
      refine n_seq ?_
      refine e_ret ?_
      refine ret1 (v := .bool true) rfl rfl ?_
      exact ⟨rfl, S.below⟩
    · -- hI False
     refine l_g (d' := 80) (v := .bool true) S (y_not rfl (by rw [hI]; rfl)) rfl rfl ?_
     refine l_y (v := .bool true) S (y_pF rfl rfl) ?_
     refine l_y (v := .bool true) S (y_mv rfl) ?_
     refine l_s (d' := 84) rfl rfl ?_
     refine l_s (d' := 84) rfl rfl ?_
     refine l_y (v := .bool true) S (y_pT rfl rfl) ?_
     refine l_nil ?_
     refine n_seq ?_
     refine e_cT rfl ?_
     refine e_seq ?_
     refine e_reg ?_
     refine l_y (v := .bool true) S (y_as rfl) ?_
     refine l_nil ?_
     refine n_seq ?_
     refine e_ret ?_
     refine ret1 (v := .bool true) rfl rfl ?_
     exact ⟨rfl, S.below⟩
   · -- hO False
    refine l_y (v := .bool true) S (y_not rfl (by rw [hO]; rfl)) ?_
    refine l_y (v := .bool true) S (y_mv rfl) ?_
    refine l_s (d' := 80) rfl rfl ?_
    refine l_s (d' := 80) rfl rfl ?_
    refine l_y (v := .bool true) S (y_pT rfl rfl) ?_
    refine l_y (v := .bool true) S (y_mv rfl) ?_
    refine l_s (d' := 84) rfl rfl ?_
    refine l_s (d' := 84) rfl rfl ?_
    refine l_y (v := .bool true) S (y_pT rfl rfl) ?_
    refine l_nil ?_
    refine n_seq ?_
    refine e_cT rfl ?_
    refine e_seq ?_
    refine e_reg ?_
    refine l_y (v := .bool true) S (y_as rfl) ?_
    refine l_nil ?_
    refine n_seq ?_
    refine e_ret ?_
    refine ret1 (v := .bool true) rfl rfl ?_
    exact ⟨rfl, S.below⟩
  · -- hC no
   refine l_y (v := .bool true) S (y_neT rfl rfl hC) ?_
   refine l_nil ?_
   refine n_seq ?_
   refine e_cT rfl ?_
   refine e_seq ?_
   refine e_reg ?_
   refine l_y (v := .bool true) S (y_as rfl) ?_
   refine l_nil ?_
   refine n_seq ?_
   refine e_ret ?_
   refine ret1 (v := .bool true) rfl rfl ?_
   exact ⟨rfl, S.below⟩
set_option maxRecDepth 100000 in
theorem JoinLaws_lifted (os : Os) (started : os.Started) (H : Type) (enc : TypeId × Value → H) :
    ReturnsInHanded {} Try.checked os 11 .any (Rows.joinLawsSpec.pre6 enc Try.prog Try.f11 Rows.joinLawsRow.domain false) (Rows.joinLawsSpec.post enc Try.prog Try.f11 false true false false) := by
  refine returnsInHanded_of_change_sized (C := Try.checked) own_ started (by kernel_rfl) Try.func11
    (ChangeSpec.witness6 (enc := enc) (C := Try.checked) false ⟨#[], #[.slice none 0 0, .int .i64 0, .slice none 0 0, .slice none 0 0, .slice none 0 0], []⟩ 8 (by kernel_rfl) (by kernel_rfl) (by kernel_rfl) (by kernel_rfl)) ?_
  intro W base args ds gs before hval0 hW _ hsz0 _
  have hval : ∀ (j : Nat) t v, Try.f11.params[j]? = some t → args[j]? = some v → Value.okWide Try.prog W .any base t v := hval0
  have hsz : (DataW.weightsEach Try.prog (Try.f11.params.toList ++ Rows.joinLawsSpec.plain.varTypes Try.prog) (ds ++ gs)).all (· ≤ reachBytes) = true := hsz0
  have hW' := hW
  obtain ⟨p, q, hA0, hV, rfl, _, _⟩ := hW
  obtain ⟨rfl, rfl⟩ := trodVars_none hV
  have hA : DataW.TrodAll enc Try.prog W 0 (fun _ => true) true Try.f11.params.toList args.toList ds p := hA0
  rw [Try.params11] at hA hval hsz
  obtain ⟨v1, vs1, d1, ds1, p1, q1, e1, rfl, rfl, t1, r1⟩ := trodAll_cons hA
  obtain ⟨v2, vs2, d2, ds2, p2, q2, rfl, rfl, rfl, t2, r2⟩ := trodAll_cons r1
  obtain ⟨v3, vs3, d3, ds3, p3, q3, rfl, rfl, rfl, t3, r3⟩ := trodAll_cons r2
  obtain ⟨v4, vs4, d4, ds4, p4, q4, rfl, rfl, rfl, t4, r4⟩ := trodAll_cons r3
  obtain ⟨v5, vs5, d5, ds5, p5, q5, rfl, rfl, rfl, t5, r5⟩ := trodAll_cons r4
  obtain ⟨rfl, rfl, rfl⟩ := trodAll_nil r5
  obtain rfl : args = #[v1, v2, v3, v4, v5] := by cases args; simp_all
  obtain ⟨z1, hsz⟩ := weights_each hsz
  obtain ⟨z2, hsz⟩ := weights_each hsz
  obtain ⟨z3, hsz⟩ := weights_each hsz
  obtain ⟨z4, hsz⟩ := weights_each hsz
  obtain ⟨z5, hsz⟩ := weights_each hsz
  obtain ⟨a1, ha1, hb1⟩ := arg_slice Try.underlying36 op_upds (hval 0 _ v1 rfl rfl) t1 z1
  obtain ⟨n2, rfl, rfl, rfl, hw2⟩ := open_int Try.underlying3 (hval 1 _ v2 rfl rfl) t2
  obtain ⟨a3, ha3, hb3⟩ := arg_slice Try.underlying23 op_clock (hval 2 _ v3 rfl rfl) t3 z3
  obtain ⟨a4, ha4, hb4⟩ := arg_slice Try.underlying23 op_clock (hval 3 _ v4 rfl rfl) t4 z4
  obtain ⟨a5, ha5, hb5⟩ := arg_slice Try.underlying23 op_clock (hval 4 _ v5 rfl rfl) t5 z5
  refine (JoinLaws_calls W v1 a1 ha1 hb1 n2 hw2 v3 a3 ha3 hb3 v4 a4 ha4 hb4 v5 a5 ha5 hb5).mono fun e W' ⟨he, hbl⟩ => ?_
  subst he
  exact ⟨_, rfl, close_law laidOut (by kernel_rfl) rfl (fun gs h => by subst h; rfl) rfl (tb := 4) Try.underlying4 hW' hbl⟩

theorem JoinLaws_holds : Rows.JoinLawsSaid :=
  OpenClaim.holds_of_wide 11 Try.f11 rfl rfl rfl rfl rfl rfl rfl ⟨rfl, rfl, rfl, rfl, rfl⟩ rfl rfl rfl rfl rfl (by kernel_rfl) Try.func11 (by kernel_rfl)
    (of_decide_eq_true (by kernel_rfl)) (by unfold Func.isWrapper; first | (rw [if_pos (by decide +kernel)]; kernel_rfl) | (rw [if_neg (by decide +kernel)]; exact ⟨rfl, rfl⟩))
    (fun os started H enc _ => JoinLaws_lifted os started H enc)
#print axioms JoinLaws_holds
end Go.Proofs.Ytkjknlnhffmkkab
