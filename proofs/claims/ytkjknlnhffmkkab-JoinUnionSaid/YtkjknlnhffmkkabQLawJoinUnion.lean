/- JoinUnion: put together is played together. For every input; no condition. -/
import Derived.Test.YtkjknlnhffmkkabQOf5
import Derived.Test.YtkjknlnhffmkkabQClose4
import Derived.Test.YtkjknlnhffmkkabQLog
namespace Go.Proofs.Ytkjknlnhffmkkab
open Go.ChangeShapes Go.WideShapes Go.ChangeAt Go.RowKit
set_option linter.unusedVariables false
set_option maxRecDepth 100000 in
set_option maxHeartbeats 8000000 in
theorem JoinUnion_calls (W : World) (v1 : Value) (l : List Upd) (q1 : UpdsR (wrd W) v1 l) (b1 : UpdsBd l) (n : Int) (hwn : (Lit.int IntKind.i64 n).wf = true) (v2 : Value) (a : List Int) (q2 : IntsR (wrd W) v2 a) (b2 : a.length * 8 ≤ reachBytes ∧ ∀ x ∈ a, (Lit.int IntKind.i64 x).wf = true) (v3 : Value) (b : List Int) (q3 : IntsR (wrd W) v3 b) (b3 : b.length * 8 ≤ reachBytes ∧ ∀ x ∈ b, (Lit.int IntKind.i64 x).wf = true) :
    Calls Try.prog 10 #[v1, (.int .i64 n), v2, v3] W (fun e w' => e = .returned (.bool true) ∧ Below W.heap.size W w') := by
 obtain ⟨A1, c2, rfl, m3, m3'⟩ := q1.val
 obtain ⟨A4, c5, rfl, m6, m6'⟩ := q2.val
 obtain ⟨A7, c8, rfl, m9, m9'⟩ := q3.val
 have hmx : maxLen = 9223372036854775807 := rfl
 have S : St [] W (wrd W) (wrd W) [] [] W := St.start (Rd.le_refl _)
 refine e_enter (args := [.slice A1 l.length c2, .int .i64 n, .slice A4 a.length c5, .slice A7 b.length c8]) 87 Try.func10 rfl rfl rfl ?_
 refine e_seq ?_
 refine e_reg ?_
 refine l_y (v := .bool false) S (y_as rfl) ?_
 refine l_nil ?_
 refine n_seq ?_
 refine e_seq ?_
 refine e_seq ?_
 refine e_reg ?_
 refine l_c (en_f (vs := []) (CF 33 _) rfl rfl) (alive5_c _ _ S.le) ?_
 rintro e w10 ⟨rfl, k⟩
 have S := S.callq k; clear k
 refine ckd ?_
 refine l_y (v := .bool false) S (y_not rfl rfl) ?_
 refine l_nil ?_
 refine n_seq ?_
 refine e_cF rfl ?_
 refine e_skip ?_
 refine n_seq ?_
 refine e_seq ?_
 refine e_seq ?_
 refine e_reg ?_
 refine l_y (v := .slice A4 a.length c5) S (y_mv rfl) ?_
 refine l_y (v := .int .i64 n) S (y_mv rfl) ?_
 refine l_c (en_f (vs := [.slice A4 a.length c5, .int .i64 n]) (CF 34 _) rfl rfl) (Wrong_calls _ _ _ _ (fm q2 S.le)) ?_
 rintro e w11 ⟨rfl, rfl⟩
 refine ckd ?_
 by_cases hA : wrongC a n = 0
 · -- hA yes
  refine l_y (v := .bool false) S (y_neF rfl rfl hA) ?_
  refine l_y (v := .bool false) S (y_mv rfl) ?_
  refine l_g (d' := 25) (v := .slice A7 b.length c8) S (y_mv rfl) rfl rfl ?_
  refine l_g (d' := 25) (v := .int .i64 n) S (y_mv rfl) rfl rfl ?_
  refine l_cg (d' := 25) (en_f (vs := [.slice A7 b.length c8, .int .i64 n]) (CF 34 _) rfl rfl) rfl rfl (Wrong_calls _ _ _ _ (fm q3 S.le)) ?_
  rintro e w12 ⟨rfl, rfl⟩
  refine ckd ?_
  by_cases hB : wrongC b n = 0
  · -- hB yes
   refine l_g (d' := 25) (v := .bool false) S (y_neF rfl rfl hB) rfl rfl ?_
   refine l_y (v := .bool false) S (y_pF rfl rfl) ?_
   refine l_nil ?_
   refine n_seq ?_
   refine e_cF rfl ?_
   refine e_skip ?_
   refine n_seq ?_
   refine e_seq ?_
   refine e_seq ?_
   refine e_reg ?_
   have hna := wrongC_ok hA; have hnb := wrongC_ok hB
   refine l_y (v := .int .i64 n) S (y_mv rfl) ?_
   refine l_ms (m := n.toNat) (size := 1) S K23 Z3 rfl rfl (by omega) (by omega) (by omega) (by simp only [maxLen]; omega) fun g13 w14 S => ?_
   have O15 : RowR 1 IntR (wrd W) ((madeCells (Value.int .i64 0).cells (n.toNat * 1)).toList) (List.replicate n.toNat (0 : Int)) := made_ints _
   obtain ⟨rd16, S, L17, F18⟩ := S.frzo' (i := 0) rfl rfl
   replace q1 := fm q1 L17
   replace q2 := fm q2 L17
   replace q3 := fm q3 L17
   replace O15 := rm O15 L17
   have F19 : SliceR 1 IntR rd16 (.slice (some ⟨g13, 0, none⟩) n.toNat n.toNat) (List.replicate n.toNat (0 : Int)) := F18 (by simp) O15; clear F18
   refine l_y (v := .slice A1 l.length c2) S (y_mv rfl) ?_
   refine l_y (v := .int .i64 n) S (y_mv rfl) ?_
   refine l_c (en_f (vs := [.slice (some ⟨g13, 0, none⟩) n.toNat n.toNat, .slice A1 l.length c2, .int .i64 n]) (CF 35 _) rfl rfl) (Clock_calls _ _ _ _ _ _ (fm F19 S.le) (fm q1 S.le)) ?_
   rintro e w22 ⟨r20, rfl, h21, k⟩
   obtain ⟨rd23, S, L24, N25, X26⟩ := S.call' k; clear k
   replace q1 := fm q1 L24
   replace q2 := fm q2 L24
   replace q3 := fm q3 L24
   replace F19 := fm F19 L24
   have h21 := fm h21 N25
   obtain ⟨A27, c28, rfl, m29, m29'⟩ := h21.val
   refine ckd ?_
   refine l_y (v := .tuple #[.slice A27 (((clockL (List.replicate n.toNat (0 : Int)) l n).1).length) c28, .agg #[.int .i64 ((clockL (List.replicate n.toNat (0 : Int)) l n).2.1), .int .i64 ((clockL (List.replicate n.toNat (0 : Int)) l n).2.2)]]) S (y_mv rfl) ?_
   refine l_y (v := .slice A27 (((clockL (List.replicate n.toNat (0 : Int)) l n).1).length) c28) S (y_ex rfl rfl) ?_
   refine l_y (v := .agg #[.int .i64 ((clockL (List.replicate n.toNat (0 : Int)) l n).2.1), .int .i64 ((clockL (List.replicate n.toNat (0 : Int)) l n).2.2)]) S (y_ex rfl rfl) ?_
   refine l_al (cs := #[.int .i64 0, .int .i64 0]) S Z33 rfl fun g30 w31 S => ?_
   refine l_y (v := .slice A27 (((clockL (List.replicate n.toNat (0 : Int)) l n).1).length) c28) S (y_as rfl) ?_
   refine l_st (u := .agg #[.int .i64 ((clockL (List.replicate n.toNat (0 : Int)) l n).2.1), .int .i64 ((clockL (List.replicate n.toNat (0 : Int)) l n).2.2)]) (i := 0) (cs' := #[.int .i64 ((clockL (List.replicate n.toNat (0 : Int)) l n).2.1), .int .i64 ((clockL (List.replicate n.toNat (0 : Int)) l n).2.2)]) S rfl rfl rfl SZ33 rfl rfl rfl fun w32 S => ?_
   refine l_nil ?_
   refine n_seq ?_
   refine e_seq ?_
   refine e_reg ?_
   refine l_y (v := .pointer (some ⟨g30, 0, none⟩)) S (y_fb FA33_0 rfl rfl) ?_
   refine l_y (v := .int .i64 ((clockL (List.replicate n.toNat (0 : Int)) l n).2.1)) S (y_ld rfl (fun w S => ld_b1 (i := 0) S rfl rfl T31)) ?_
   by_cases hC : (clockL (List.replicate n.toNat (0 : Int)) l n).2.1 = 0
   · -- hC yes
    refine l_y (v := .bool false) S (y_neF rfl rfl hC) ?_
    refine l_nil ?_
    refine n_seq ?_
    refine e_trim [(0, .slice A1 l.length c2), (1, .int .i64 n), (2, .slice A4 a.length c5), (3, .slice A7 b.length c8), (8, .bool false), (41, .bool false)] ⟨⟨rfl, rfl⟩, ⟨rfl, rfl⟩, ⟨rfl, rfl⟩, ⟨rfl, rfl⟩, ⟨rfl, rfl⟩, ⟨rfl, rfl⟩, trivial⟩ (fun junk => ?_)
    refine e_cF rfl ?_
    refine e_skip ?_
    refine n_seq ?_
    refine e_seq ?_
    refine e_reg ?_
    have hl3 := (clockL_ok hC).2.1
    refine l_y (v := .slice A1 l.length c2) S (y_mv rfl) ?_
    refine l_y (v := .slice A4 a.length c5) S (y_mv rfl) ?_
    refine l_y (v := .int .i64 n) S (y_mv rfl) ?_
    refine l_c (en_f (vs := [.slice A1 l.length c2, .slice A4 a.length c5, .int .i64 n]) (CF 36 _) rfl rfl) (Of_c _ _ S.le _ _ l a n q1 q2 hl3) ?_
    rintro e w33 ⟨v38, rfl, h39, k⟩
    obtain ⟨rd34, S, L35, N36, X37⟩ := S.call' k; clear k
    replace q1 := fm q1 L35
    replace q2 := fm q2 L35
    replace q3 := fm q3 L35
    replace h39 := am h39 X37
    obtain ⟨cs40, h39v, h39⟩ := h39; subst h39v
    obtain ⟨sv41, sv43, sv45, h39e, h42, h44, h46⟩ := h39; subst h39e
    obtain ⟨A47, c48, rfl, m49, m49'⟩ := h42.val
    obtain ⟨A50, c51, rfl, m52, m52'⟩ := h44.val
    obtain ⟨A53, c54, rfl, m55, m55'⟩ := h46.val
    refine ckd ?_
    refine l_y (v := .tuple #[.agg #[.slice A47 (((PlayS (startG n) (mineU a l)).1.clock).length) c48, .slice A50 (((PlayS (startG n) (mineU a l)).1.lives).length) c51, .slice A53 (((PlayS (startG n) (mineU a l)).1.tallies).length) c54], .bool (decide ((PlayS (startG n) (mineU a l)).2.1 = 0))]) S (y_mv rfl) ?_
    refine l_y (v := .agg #[.slice A47 (((PlayS (startG n) (mineU a l)).1.clock).length) c48, .slice A50 (((PlayS (startG n) (mineU a l)).1.lives).length) c51, .slice A53 (((PlayS (startG n) (mineU a l)).1.tallies).length) c54]) S (y_ex rfl rfl) ?_
    refine l_y (v := .bool (decide ((PlayS (startG n) (mineU a l)).2.1 = 0))) S (y_ex rfl rfl) ?_
    refine l_al (cs := #[.slice none 0 0, .slice none 0 0, .slice none 0 0]) S Z27 rfl fun g56 w57 S => ?_
    refine l_st (u := .agg #[.slice A47 (((PlayS (startG n) (mineU a l)).1.clock).length) c48, .slice A50 (((PlayS (startG n) (mineU a l)).1.lives).length) c51, .slice A53 (((PlayS (startG n) (mineU a l)).1.tallies).length) c54]) (i := 1) (cs' := #[.slice A47 (((PlayS (startG n) (mineU a l)).1.clock).length) c48, .slice A50 (((PlayS (startG n) (mineU a l)).1.lives).length) c51, .slice A53 (((PlayS (startG n) (mineU a l)).1.tallies).length) c54]) S rfl rfl rfl SZ27 rfl rfl rfl fun w58 S => ?_
    refine l_y (v := .bool (decide ((PlayS (startG n) (mineU a l)).2.1 = 0))) S (y_as rfl) ?_
    refine l_nil ?_
    refine n_seq ?_
    refine e_seq ?_
    refine e_reg ?_
    refine l_y (v := .slice A1 l.length c2) S (y_mv rfl) ?_
    refine l_y (v := .slice A7 b.length c8) S (y_mv rfl) ?_
    refine l_y (v := .int .i64 n) S (y_mv rfl) ?_
    refine l_c (en_f (vs := [.slice A1 l.length c2, .slice A7 b.length c8, .int .i64 n]) (CF 36 _) rfl rfl) (Of_c _ _ S.le _ _ l b n q1 q3 hl3) ?_
    rintro e w59 ⟨v64, rfl, h65, k⟩
    obtain ⟨rd60, S, L61, N62, X63⟩ := S.call' k; clear k
    replace q1 := fm q1 L61
    replace q2 := fm q2 L61
    replace q3 := fm q3 L61
    replace h42 := fm h42 L61
    replace h44 := fm h44 L61
    replace h46 := fm h46 L61
    replace h65 := am h65 X63
    obtain ⟨cs66, h65v, h65⟩ := h65; subst h65v
    obtain ⟨sv67, sv69, sv71, h65e, h68, h70, h72⟩ := h65; subst h65e
    obtain ⟨A73, c74, rfl, m75, m75'⟩ := h68.val
    obtain ⟨A76, c77, rfl, m78, m78'⟩ := h70.val
    obtain ⟨A79, c80, rfl, m81, m81'⟩ := h72.val
    refine ckd ?_
    refine l_y (v := .tuple #[.agg #[.slice A73 (((PlayS (startG n) (mineU b l)).1.clock).length) c74, .slice A76 (((PlayS (startG n) (mineU b l)).1.lives).length) c77, .slice A79 (((PlayS (startG n) (mineU b l)).1.tallies).length) c80], .bool (decide ((PlayS (startG n) (mineU b l)).2.1 = 0))]) S (y_mv rfl) ?_
    refine l_y (v := .agg #[.slice A73 (((PlayS (startG n) (mineU b l)).1.clock).length) c74, .slice A76 (((PlayS (startG n) (mineU b l)).1.lives).length) c77, .slice A79 (((PlayS (startG n) (mineU b l)).1.tallies).length) c80]) S (y_ex rfl rfl) ?_
    refine l_y (v := .bool (decide ((PlayS (startG n) (mineU b l)).2.1 = 0))) S (y_ex rfl rfl) ?_
    refine l_al (cs := #[.slice none 0 0, .slice none 0 0, .slice none 0 0]) S Z27 rfl fun g82 w83 S => ?_
    refine l_st (u := .agg #[.slice A73 (((PlayS (startG n) (mineU b l)).1.clock).length) c74, .slice A76 (((PlayS (startG n) (mineU b l)).1.lives).length) c77, .slice A79 (((PlayS (startG n) (mineU b l)).1.tallies).length) c80]) (i := 2) (cs' := #[.slice A73 (((PlayS (startG n) (mineU b l)).1.clock).length) c74, .slice A76 (((PlayS (startG n) (mineU b l)).1.lives).length) c77, .slice A79 (((PlayS (startG n) (mineU b l)).1.tallies).length) c80]) S rfl rfl rfl SZ27 rfl rfl rfl fun w84 S => ?_
    refine l_y (v := .bool (decide ((PlayS (startG n) (mineU b l)).2.1 = 0))) S (y_as rfl) ?_
    refine l_nil ?_
    refine n_seq ?_
    refine e_seq ?_
    refine e_reg ?_
    refine l_y (v := .slice A1 l.length c2) S (y_mv rfl) ?_
    refine l_y (v := .slice A4 a.length c5) S (y_mv rfl) ?_
    refine l_y (v := .slice A7 b.length c8) S (y_mv rfl) ?_
    refine l_c (en_f (vs := [.slice A4 a.length c5, .slice A7 b.length c8]) (CF 37 _) rfl rfl) (Join_c _ _ _ _ _ (fm q2 S.le) (fm q3 S.le) (by omega)) ?_
    rintro e w87 ⟨r85, rfl, h86, k⟩
    obtain ⟨rd88, S, L89, N90, X91⟩ := S.call' k; clear k
    replace q1 := fm q1 L89
    replace q2 := fm q2 L89
    replace q3 := fm q3 L89
    replace h42 := fm h42 L89
    replace h44 := fm h44 L89
    replace h46 := fm h46 L89
    replace h68 := fm h68 L89
    replace h70 := fm h70 L89
    replace h72 := fm h72 L89
    have h86 := fm h86 N90
    obtain ⟨A92, c93, rfl, m94, m94'⟩ := h86.val
    refine ckd ?_
    refine l_y (v := .int .i64 n) S (y_mv rfl) ?_
    refine l_c (en_f (vs := [.slice A1 l.length c2, .slice A92 ((joinC a b).length) c93, .int .i64 n]) (CF 36 _) rfl rfl) (Of_c _ _ S.le _ _ l (joinC a b) n q1 h86 hl3) ?_
    rintro e w95 ⟨v100, rfl, h101, k⟩
    obtain ⟨rd96, S, L97, N98, X99⟩ := S.call' k; clear k
    replace q1 := fm q1 L97
    replace q2 := fm q2 L97
    replace q3 := fm q3 L97
    replace h42 := fm h42 L97
    replace h44 := fm h44 L97
    replace h46 := fm h46 L97
    replace h68 := fm h68 L97
    replace h70 := fm h70 L97
    replace h72 := fm h72 L97
    replace h86 := fm h86 L97
    replace h101 := am h101 X99
    obtain ⟨cs102, h101v, h101⟩ := h101; subst h101v
    obtain ⟨sv103, sv105, sv107, h101e, h104, h106, h108⟩ := h101; subst h101e
    obtain ⟨A109, c110, rfl, m111, m111'⟩ := h104.val
    obtain ⟨A112, c113, rfl, m114, m114'⟩ := h106.val
    obtain ⟨A115, c116, rfl, m117, m117'⟩ := h108.val
    refine ckd ?_
    refine l_y (v := .tuple #[.agg #[.slice A109 (((PlayS (startG n) (mineU (joinC a b) l)).1.clock).length) c110, .slice A112 (((PlayS (startG n) (mineU (joinC a b) l)).1.lives).length) c113, .slice A115 (((PlayS (startG n) (mineU (joinC a b) l)).1.tallies).length) c116], .bool (decide ((PlayS (startG n) (mineU (joinC a b) l)).2.1 = 0))]) S (y_mv rfl) ?_
    refine l_y (v := .agg #[.slice A109 (((PlayS (startG n) (mineU (joinC a b) l)).1.clock).length) c110, .slice A112 (((PlayS (startG n) (mineU (joinC a b) l)).1.lives).length) c113, .slice A115 (((PlayS (startG n) (mineU (joinC a b) l)).1.tallies).length) c116]) S (y_ex rfl rfl) ?_
    refine l_y (v := .bool (decide ((PlayS (startG n) (mineU (joinC a b) l)).2.1 = 0))) S (y_ex rfl rfl) ?_
    refine l_al (cs := #[.slice none 0 0, .slice none 0 0, .slice none 0 0]) S Z27 rfl fun g118 w119 S => ?_
    refine l_st (u := .agg #[.slice A109 (((PlayS (startG n) (mineU (joinC a b) l)).1.clock).length) c110, .slice A112 (((PlayS (startG n) (mineU (joinC a b) l)).1.lives).length) c113, .slice A115 (((PlayS (startG n) (mineU (joinC a b) l)).1.tallies).length) c116]) (i := 3) (cs' := #[.slice A109 (((PlayS (startG n) (mineU (joinC a b) l)).1.clock).length) c110, .slice A112 (((PlayS (startG n) (mineU (joinC a b) l)).1.lives).length) c113, .slice A115 (((PlayS (startG n) (mineU (joinC a b) l)).1.tallies).length) c116]) S rfl rfl rfl SZ27 rfl rfl rfl fun w120 S => ?_
    have S : St [] W (wrd W) rd96 [(g30, 33, #[.int .i64 ((clockL (List.replicate n.toNat (0 : Int)) l n).2.1), .int .i64 ((clockL (List.replicate n.toNat (0 : Int)) l n).2.2)]), (g56, 27, #[.slice A47 (((PlayS (startG n) (mineU a l)).1.clock).length) c48, .slice A50 (((PlayS (startG n) (mineU a l)).1.lives).length) c51, .slice A53 (((PlayS (startG n) (mineU a l)).1.tallies).length) c54]), (g82, 27, #[.slice A73 (((PlayS (startG n) (mineU b l)).1.clock).length) c74, .slice A76 (((PlayS (startG n) (mineU b l)).1.lives).length) c77, .slice A79 (((PlayS (startG n) (mineU b l)).1.tallies).length) c80]), (g118, 27, #[.slice A109 (((PlayS (startG n) (mineU (joinC a b) l)).1.clock).length) c110, .slice A112 (((PlayS (startG n) (mineU (joinC a b) l)).1.lives).length) c113, .slice A115 (((PlayS (startG n) (mineU (joinC a b) l)).1.tallies).length) c116])] [] _ := S.rw' rfl rfl
    refine l_y (v := .bool (decide ((PlayS (startG n) (mineU (joinC a b) l)).2.1 = 0))) S (y_as rfl) ?_
    refine l_nil ?_
    refine n_seq ?_
    refine e_trim [(8, .bool false), (11, .pointer (some ⟨g56, 0, none⟩)), (12, .bool (decide ((PlayS (startG n) (mineU a l)).2.1 = 0))), (13, .pointer (some ⟨g82, 0, none⟩)), (14, .bool (decide ((PlayS (startG n) (mineU b l)).2.1 = 0))), (15, .pointer (some ⟨g118, 0, none⟩)), (16, .bool (decide ((PlayS (startG n) (mineU (joinC a b) l)).2.1 = 0)))] ⟨⟨rfl, rfl⟩, ⟨rfl, rfl⟩, ⟨rfl, rfl⟩, ⟨rfl, rfl⟩, ⟨rfl, rfl⟩, ⟨rfl, rfl⟩, ⟨rfl, rfl⟩, trivial⟩ (fun junk => ?_)
    refine e_seq ?_
    refine e_seq ?_
    refine e_reg ?_
    refine l_y (v := .bool (decide ((PlayS (startG n) (mineU a l)).2.1 = 0))) S (y_mv rfl) ?_
    rcases Bool.eq_false_or_eq_true (decide ((PlayS (startG n) (mineU a l)).2.1 = 0)) with hO | hO
    · -- hO True
     refine l_y (v := .bool false) S (y_not rfl (by rw [hO]; rfl)) ?_
     refine l_y (v := .bool false) S (y_mv rfl) ?_
     refine l_g (d' := 67) (v := .bool (decide ((PlayS (startG n) (mineU b l)).2.1 = 0))) S (y_mv rfl) rfl rfl ?_
     rcases Bool.eq_false_or_eq_true (decide ((PlayS (startG n) (mineU b l)).2.1 = 0)) with hI | hI
     · -- hI True
      refine l_g (d' := 67) (v := .bool false) S (y_not rfl (by rw [hI]; rfl)) rfl rfl ?_
      refine l_y (v := .bool false) S (y_pF rfl rfl) ?_
      refine l_nil ?_
      refine n_seq ?_
      refine e_cF rfl ?_
      refine e_skip ?_
      refine n_seq ?_
      refine e_seq ?_
      refine e_reg ?_
      refine l_y (v := .agg #[.slice A47 (((PlayS (startG n) (mineU a l)).1.clock).length) c48, .slice A50 (((PlayS (startG n) (mineU a l)).1.lives).length) c51, .slice A53 (((PlayS (startG n) (mineU a l)).1.tallies).length) c54]) S (y_ld rfl (fun w S => ld_bA (vs := [.slice A47 (((PlayS (startG n) (mineU a l)).1.clock).length) c48, .slice A50 (((PlayS (startG n) (mineU a l)).1.lives).length) c51, .slice A53 (((PlayS (startG n) (mineU a l)).1.tallies).length) c54]) (i := 1) S rfl T27 rfl rfl)) ?_
      refine l_y (v := .agg #[.slice A73 (((PlayS (startG n) (mineU b l)).1.clock).length) c74, .slice A76 (((PlayS (startG n) (mineU b l)).1.lives).length) c77, .slice A79 (((PlayS (startG n) (mineU b l)).1.tallies).length) c80]) S (y_ld rfl (fun w S => ld_bA (vs := [.slice A73 (((PlayS (startG n) (mineU b l)).1.clock).length) c74, .slice A76 (((PlayS (startG n) (mineU b l)).1.lives).length) c77, .slice A79 (((PlayS (startG n) (mineU b l)).1.tallies).length) c80]) (i := 2) S rfl T27 rfl rfl)) ?_
      refine l_c (en_f (vs := [.agg #[.slice A47 (((PlayS (startG n) (mineU a l)).1.clock).length) c48, .slice A50 (((PlayS (startG n) (mineU a l)).1.lives).length) c51, .slice A53 (((PlayS (startG n) (mineU a l)).1.tallies).length) c54], .agg #[.slice A73 (((PlayS (startG n) (mineU b l)).1.clock).length) c74, .slice A76 (((PlayS (startG n) (mineU b l)).1.lives).length) c77, .slice A79 (((PlayS (startG n) (mineU b l)).1.tallies).length) c80]]) (CF 31 _) rfl rfl) (Join_m _ _ S.le _ _ ((PlayS (startG n) (mineU a l)).1) ((PlayS (startG n) (mineU b l)).1) (⟨_, rfl, ⟨_, _, _, rfl, h42, h44, h46⟩⟩ : AggR StateR rd96 _ ((PlayS (startG n) (mineU a l)).1)) (⟨_, rfl, ⟨_, _, _, rfl, h68, h70, h72⟩⟩ : AggR StateR rd96 _ ((PlayS (startG n) (mineU b l)).1))) ?_
      rintro e w121 ⟨v126, rfl, h127, k⟩
      obtain ⟨rd122, S, L123, N124, X125⟩ := S.call' k; clear k
      replace h42 := fm h42 L123
      replace h44 := fm h44 L123
      replace h46 := fm h46 L123
      replace h68 := fm h68 L123
      replace h70 := fm h70 L123
      replace h72 := fm h72 L123
      replace h104 := fm h104 L123
      replace h106 := fm h106 L123
      replace h108 := fm h108 L123
      replace h127 := am h127 X125
      obtain ⟨cs128, h127v, h127⟩ := h127; subst h127v
      obtain ⟨sv129, sv131, sv133, h127e, h130, h132, h134⟩ := h127; subst h127e
      obtain ⟨A135, c136, rfl, m137, m137'⟩ := h130.val
      obtain ⟨A138, c139, rfl, m140, m140'⟩ := h132.val
      obtain ⟨A141, c142, rfl, m143, m143'⟩ := h134.val
      refine ckd ?_
      refine l_y (v := .tuple #[.agg #[.slice A135 (((JoinS ((PlayS (startG n) (mineU a l)).1) ((PlayS (startG n) (mineU b l)).1)).1.clock).length) c136, .slice A138 (((JoinS ((PlayS (startG n) (mineU a l)).1) ((PlayS (startG n) (mineU b l)).1)).1.lives).length) c139, .slice A141 (((JoinS ((PlayS (startG n) (mineU a l)).1) ((PlayS (startG n) (mineU b l)).1)).1.tallies).length) c142], .int .i64 ((JoinS ((PlayS (startG n) (mineU a l)).1) ((PlayS (startG n) (mineU b l)).1)).2)]) S (y_mv rfl) ?_
      refine l_y (v := .agg #[.slice A135 (((JoinS ((PlayS (startG n) (mineU a l)).1) ((PlayS (startG n) (mineU b l)).1)).1.clock).length) c136, .slice A138 (((JoinS ((PlayS (startG n) (mineU a l)).1) ((PlayS (startG n) (mineU b l)).1)).1.lives).length) c139, .slice A141 (((JoinS ((PlayS (startG n) (mineU a l)).1) ((PlayS (startG n) (mineU b l)).1)).1.tallies).length) c142]) S (y_ex rfl rfl) ?_
      refine l_y (v := .int .i64 ((JoinS ((PlayS (startG n) (mineU a l)).1) ((PlayS (startG n) (mineU b l)).1)).2)) S (y_ex rfl rfl) ?_
      refine l_al (cs := #[.slice none 0 0, .slice none 0 0, .slice none 0 0]) S Z27 rfl fun g144 w145 S => ?_
      refine l_st (u := .agg #[.slice A135 (((JoinS ((PlayS (startG n) (mineU a l)).1) ((PlayS (startG n) (mineU b l)).1)).1.clock).length) c136, .slice A138 (((JoinS ((PlayS (startG n) (mineU a l)).1) ((PlayS (startG n) (mineU b l)).1)).1.lives).length) c139, .slice A141 (((JoinS ((PlayS (startG n) (mineU a l)).1) ((PlayS (startG n) (mineU b l)).1)).1.tallies).length) c142]) (i := 4) (cs' := #[.slice A135 (((JoinS ((PlayS (startG n) (mineU a l)).1) ((PlayS (startG n) (mineU b l)).1)).1.clock).length) c136, .slice A138 (((JoinS ((PlayS (startG n) (mineU a l)).1) ((PlayS (startG n) (mineU b l)).1)).1.lives).length) c139, .slice A141 (((JoinS ((PlayS (startG n) (mineU a l)).1) ((PlayS (startG n) (mineU b l)).1)).1.tallies).length) c142]) S rfl rfl rfl SZ27 rfl rfl rfl fun w146 S => ?_
      refine l_y (v := .int .i64 ((JoinS ((PlayS (startG n) (mineU a l)).1) ((PlayS (startG n) (mineU b l)).1)).2)) S (y_as rfl) ?_
      refine l_nil ?_
      refine n_seq ?_
      refine e_seq ?_
      refine e_reg ?_
      have b147 : decide ((PlayS (startG n) (mineU (joinC a b) l)).2.1 = 0) = true := (union_law hA hB hC hO hI).1
      refine l_y (v := .bool true) S (y_bv (y_mv rfl) b147) ?_
      refine l_y (v := .bool true) S (y_mv rfl) ?_
      refine l_g (d' := 78) (v := .int .i64 ((JoinS ((PlayS (startG n) (mineU a l)).1) ((PlayS (startG n) (mineU b l)).1)).2)) S (y_mv rfl) rfl rfl ?_
      have h148 : (JoinS ((PlayS (startG n) (mineU a l)).1) ((PlayS (startG n) (mineU b l)).1)).2 = 0 := by rw [(union_law hA hB hC hO hI).2]
      refine l_g (d' := 78) (v := .bool true) S (y_eqT rfl rfl h148) rfl rfl ?_
      refine l_y (v := .bool true) S (y_pT rfl rfl) ?_
      refine l_y (v := .bool true) S (y_mv rfl) ?_
      refine l_g (d' := 82) (v := .agg #[.slice A135 (((JoinS ((PlayS (startG n) (mineU a l)).1) ((PlayS (startG n) (mineU b l)).1)).1.clock).length) c136, .slice A138 (((JoinS ((PlayS (startG n) (mineU a l)).1) ((PlayS (startG n) (mineU b l)).1)).1.lives).length) c139, .slice A141 (((JoinS ((PlayS (startG n) (mineU a l)).1) ((PlayS (startG n) (mineU b l)).1)).1.tallies).length) c142]) S (y_ld rfl (fun w S => ld_bA (vs := [.slice A135 (((JoinS ((PlayS (startG n) (mineU a l)).1) ((PlayS (startG n) (mineU b l)).1)).1.clock).length) c136, .slice A138 (((JoinS ((PlayS (startG n) (mineU a l)).1) ((PlayS (startG n) (mineU b l)).1)).1.lives).length) c139, .slice A141 (((JoinS ((PlayS (startG n) (mineU a l)).1) ((PlayS (startG n) (mineU b l)).1)).1.tallies).length) c142]) (i := 4) S rfl T27 rfl rfl)) rfl rfl ?_
      refine l_g (d' := 82) (v := .agg #[.slice A109 (((PlayS (startG n) (mineU (joinC a b) l)).1.clock).length) c110, .slice A112 (((PlayS (startG n) (mineU (joinC a b) l)).1.lives).length) c113, .slice A115 (((PlayS (startG n) (mineU (joinC a b) l)).1.tallies).length) c116]) S (y_ld rfl (fun w S => ld_bA (vs := [.slice A109 (((PlayS (startG n) (mineU (joinC a b) l)).1.clock).length) c110, .slice A112 (((PlayS (startG n) (mineU (joinC a b) l)).1.lives).length) c113, .slice A115 (((PlayS (startG n) (mineU (joinC a b) l)).1.tallies).length) c116]) (i := 3) S rfl T27 rfl rfl)) rfl rfl ?_
      refine l_cg (d' := 82) (en_f (vs := [.agg #[.slice A135 (((JoinS ((PlayS (startG n) (mineU a l)).1) ((PlayS (startG n) (mineU b l)).1)).1.clock).length) c136, .slice A138 (((JoinS ((PlayS (startG n) (mineU a l)).1) ((PlayS (startG n) (mineU b l)).1)).1.lives).length) c139, .slice A141 (((JoinS ((PlayS (startG n) (mineU a l)).1) ((PlayS (startG n) (mineU b l)).1)).1.tallies).length) c142], .agg #[.slice A109 (((PlayS (startG n) (mineU (joinC a b) l)).1.clock).length) c110, .slice A112 (((PlayS (startG n) (mineU (joinC a b) l)).1.lives).length) c113, .slice A115 (((PlayS (startG n) (mineU (joinC a b) l)).1.tallies).length) c116]]) (CF 15 _) rfl rfl) rfl rfl (SSame_c _ _ S.le _ _ ((JoinS ((PlayS (startG n) (mineU a l)).1) ((PlayS (startG n) (mineU b l)).1)).1) ((PlayS (startG n) (mineU (joinC a b) l)).1) (⟨_, rfl, ⟨_, _, _, rfl, h130, h132, h134⟩⟩ : AggR StateR rd122 _ ((JoinS ((PlayS (startG n) (mineU a l)).1) ((PlayS (startG n) (mineU b l)).1)).1)) (⟨_, rfl, ⟨_, _, _, rfl, h104, h106, h108⟩⟩ : AggR StateR rd122 _ ((PlayS (startG n) (mineU (joinC a b) l)).1))) ?_
      rintro e w149 ⟨rfl, k⟩
      have S := S.callq k; clear k
      have b150 : sameS ((JoinS ((PlayS (startG n) (mineU a l)).1) ((PlayS (startG n) (mineU b l)).1)).1) ((PlayS (startG n) (mineU (joinC a b) l)).1) = true := by rw [(union_law hA hB hC hO hI).2]; exact decide_eq_true rfl
      rw [b150]
      refine ckd ?_
      refine l_y (v := .bool true) S (y_pT rfl rfl) ?_
      refine l_y (v := .bool true) S (y_as rfl) ?_
      refine l_nil ?_
      refine n_seq ?_
      refine e_trim [(8, .bool true)] ⟨⟨rfl, rfl⟩, trivial⟩ (fun junk => ?_)
      refine e_ret ?_
      refine ret1 (v := .bool true) rfl rfl ?_
      exact ⟨rfl, S.below⟩
     · -- hI False
      refine l_g (d' := 67) (v := .bool true) S (y_not rfl (by rw [hI]; rfl)) rfl rfl ?_
      refine l_y (v := .bool true) S (y_pF rfl rfl) ?_
      refine l_nil ?_
      refine n_seq ?_
      refine e_cT rfl ?_
      refine e_seq ?_
      refine e_reg ?_
      refine l_y (v := .bool true) S (y_as rfl) ?_
      refine l_nil ?_
      refine n_seq ?_
      refine e_ret ?_
      refine ret1 (v := .bool true) rfl rfl ?_
      exact ⟨rfl, S.below⟩
    · -- hO False
     refine l_y (v := .bool true) S (y_not rfl (by rw [hO]; rfl)) ?_
     refine l_y (v := .bool true) S (y_mv rfl) ?_
     refine l_s (d' := 67) rfl rfl ?_
     refine l_s (d' := 67) rfl rfl ?_
     refine l_y (v := .bool true) S (y_pT rfl rfl) ?_
     refine l_nil ?_
     refine n_seq ?_
     refine e_cT rfl ?_
     refine e_seq ?_
     refine e_reg ?_
     refine l_y (v := .bool true) S (y_as rfl) ?_
     refine l_nil ?_
     refine n_seq ?_
     refine e_ret ?_
     refine ret1 (v := .bool true) rfl rfl ?_
     exact ⟨rfl, S.below⟩
   · -- hC no
    refine l_y (v := .bool true) S (y_neT rfl rfl hC) ?_
    refine l_nil ?_
    refine n_seq ?_
    refine e_trim [(0, .slice A1 l.length c2), (1, .int .i64 n), (2, .slice A4 a.length c5), (3, .slice A7 b.length c8), (8, .bool false), (41, .bool true)] ⟨⟨rfl, rfl⟩, ⟨rfl, rfl⟩, ⟨rfl, rfl⟩, ⟨rfl, rfl⟩, ⟨rfl, rfl⟩, ⟨rfl, rfl⟩, trivial⟩ (fun junk => ?_)
    refine e_cT rfl ?_
    refine e_seq ?_
    refine e_reg ?_
    refine l_y (v := .bool true) S (y_as rfl) ?_
    refine l_nil ?_
    refine n_seq ?_
    refine e_ret ?_
    refine ret1 (v := .bool true) rfl rfl ?_
    exact ⟨rfl, S.below⟩
  · -- hB no
   refine l_g (d' := 25) (v := .bool true) S (y_neT rfl rfl hB) rfl rfl ?_
   refine l_y (v := .bool true) S (y_pF rfl rfl) ?_
   refine l_nil ?_
   refine n_seq ?_
   refine e_cT rfl ?_
   refine e_seq ?_
   refine e_reg ?_
   refine l_y (v := .bool true) S (y_as rfl) ?_
   refine l_nil ?_
   refine n_seq ?_
   refine e_ret ?_
   refine ret1 (v := .bool true) rfl rfl ?_
   exact ⟨rfl, S.below⟩
 · -- hA no
  refine l_y (v := .bool true) S (y_neT rfl rfl hA) ?_
  refine l_y (v := .bool true) S (y_mv rfl) ?_
  refine l_s (d' := 25) rfl rfl ?_
  refine l_s (d' := 25) rfl rfl ?_
  refine l_s (d' := 25) rfl rfl ?_
  refine l_s (d' := 25) rfl rfl ?_
  refine l_y (v := .bool true) S (y_pT rfl rfl) ?_
  refine l_nil ?_
  refine n_seq ?_
  refine e_cT rfl ?_
  refine e_seq ?_
  refine e_reg ?_
  refine l_y (v := .bool true) S (y_as rfl) ?_
  refine l_nil ?_
  refine n_seq ?_
  refine e_ret ?_
  refine ret1 (v := .bool true) rfl rfl ?_
  exact ⟨rfl, S.below⟩
set_option maxRecDepth 100000 in
theorem JoinUnion_lifted (os : Os) (started : os.Started) (H : Type) (enc : TypeId × Value → H) :
    ReturnsInHanded {} Try.checked os 10 .any (Rows.joinUnionSpec.pre6 enc Try.prog Try.f10 Rows.joinUnionRow.domain false) (Rows.joinUnionSpec.post enc Try.prog Try.f10 false true false false) := by
  refine returnsInHanded_of_change_sized (C := Try.checked) own_ started (by kernel_rfl) Try.func10
    (ChangeSpec.witness6 (enc := enc) (C := Try.checked) false ⟨#[], #[.slice none 0 0, .int .i64 0, .slice none 0 0, .slice none 0 0], []⟩ 8 (by kernel_rfl) (by kernel_rfl) (by kernel_rfl) (by kernel_rfl)) ?_
  intro W base args ds gs before hval0 hW _ hsz0 _
  have hval : ∀ (j : Nat) t v, Try.f10.params[j]? = some t → args[j]? = some v → Value.okWide Try.prog W .any base t v := hval0
  have hsz : (DataW.weightsEach Try.prog (Try.f10.params.toList ++ Rows.joinUnionSpec.plain.varTypes Try.prog) (ds ++ gs)).all (· ≤ reachBytes) = true := hsz0
  have hW' := hW
  obtain ⟨p, q, hA0, hV, rfl, _, _⟩ := hW
  obtain ⟨rfl, rfl⟩ := trodVars_none hV
  have hA : DataW.TrodAll enc Try.prog W 0 (fun _ => true) true Try.f10.params.toList args.toList ds p := hA0
  rw [Try.params10] at hA hval hsz
  obtain ⟨v1, vs1, d1, ds1, p1, q1, e1, rfl, rfl, t1, r1⟩ := trodAll_cons hA
  obtain ⟨v2, vs2, d2, ds2, p2, q2, rfl, rfl, rfl, t2, r2⟩ := trodAll_cons r1
  obtain ⟨v3, vs3, d3, ds3, p3, q3, rfl, rfl, rfl, t3, r3⟩ := trodAll_cons r2
  obtain ⟨v4, vs4, d4, ds4, p4, q4, rfl, rfl, rfl, t4, r4⟩ := trodAll_cons r3
  obtain ⟨rfl, rfl, rfl⟩ := trodAll_nil r4
  obtain rfl : args = #[v1, v2, v3, v4] := by cases args; simp_all
  obtain ⟨z1, hsz⟩ := weights_each hsz
  obtain ⟨z2, hsz⟩ := weights_each hsz
  obtain ⟨z3, hsz⟩ := weights_each hsz
  obtain ⟨z4, hsz⟩ := weights_each hsz
  obtain ⟨a1, ha1, hb1⟩ := arg_slice Try.underlying36 op_upds (hval 0 _ v1 rfl rfl) t1 z1
  obtain ⟨n2, rfl, rfl, rfl, hw2⟩ := open_int Try.underlying3 (hval 1 _ v2 rfl rfl) t2
  obtain ⟨a3, ha3, hb3⟩ := arg_slice Try.underlying23 op_clock (hval 2 _ v3 rfl rfl) t3 z3
  obtain ⟨a4, ha4, hb4⟩ := arg_slice Try.underlying23 op_clock (hval 3 _ v4 rfl rfl) t4 z4
  refine (JoinUnion_calls W v1 a1 ha1 hb1 n2 hw2 v3 a3 ha3 hb3 v4 a4 ha4 hb4).mono fun e W' ⟨he, hbl⟩ => ?_
  subst he
  exact ⟨_, rfl, close_law laidOut (by kernel_rfl) rfl (fun gs h => by subst h; rfl) rfl (tb := 4) Try.underlying4 hW' hbl⟩

theorem JoinUnion_holds : Rows.JoinUnionSaid :=
  OpenClaim.holds_of_wide 10 Try.f10 rfl rfl rfl rfl rfl rfl rfl ⟨rfl, rfl, rfl, rfl, rfl⟩ rfl rfl rfl rfl rfl (by kernel_rfl) Try.func10 (by kernel_rfl)
    (of_decide_eq_true (by kernel_rfl)) (by unfold Func.isWrapper; first | (rw [if_pos (by decide +kernel)]; kernel_rfl) | (rw [if_neg (by decide +kernel)]; exact ⟨rfl, rfl⟩))
    (fun os started H enc _ => JoinUnion_lifted os started H enc)
#print axioms JoinUnion_holds
end Go.Proofs.Ytkjknlnhffmkkab
