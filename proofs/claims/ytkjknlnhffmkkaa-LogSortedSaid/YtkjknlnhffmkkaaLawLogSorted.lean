/- LogSorted: in whatever order. For every input; no condition. -/
import Derived.Test.YtkjknlnhffmkkaaAlive3
import Derived.Test.YtkjknlnhffmkkaaSorted
import Derived.Test.YtkjknlnhffmkkaaSameLog
import Derived.Test.YtkjknlnhffmkkaaClock3
import Derived.Test.YtkjknlnhffmkkaaClose2
namespace Go.Proofs.Ytkjknlnhffmkkaa
open Go.ChangeShapes Go.WideShapes Go.ChangeAt Go.RowKit
set_option linter.unusedVariables false
theorem not_next2 {α : Type} {p : α → Prop} {l : List α} {k : Nat} {z : α} (h : ∀ y ∈ l.take k, ¬ p y) (hz : l[k]? = some z) (hne : ¬ p z) : ∀ y ∈ l.take (k + 1), ¬ p y := by
  rw [take_snoc hz]
  intro y hy
  rcases List.mem_append.1 hy with hy | hy
  · exact h y hy
  · rw [List.mem_singleton.1 hy]; exact hne
set_option maxRecDepth 100000 in
set_option maxHeartbeats 8000000 in
theorem LogSorted_calls (W : World) (v1 : Value) (base : List Int) (qa : IntsR (wrd W) v1 base) (b1 : ClockBd base) (v2 : Value) (l : List Upd) (qb : UpdsR (wrd W) v2 l) (b2 : UpdsBd l) (n : Int) (w3 : (Lit.int .i64 n).wf = true) :
    Calls Try.prog 14 #[v1, v2, (.int .i64 n)] W (fun e w' => e = .returned (.bool true) ∧ Below W.heap.size W w') := by
 obtain ⟨A1, c2, rfl, m3, m3'⟩ := qa.val
 obtain ⟨A4, c5, rfl, m6, m6'⟩ := qb.val
 have hmx : maxLen = 9223372036854775807 := rfl
 have S : St [] W (wrd W) (wrd W) [] [] W := St.start (Rd.le_refl _)
 refine e_enter (args := [.slice A1 base.length c2, .slice A4 l.length c5, .int .i64 n]) 110 Try.func14 rfl rfl rfl ?_
 refine e_seq ?_
 refine e_reg ?_
 refine l_y (v := .bool false) S (y_as rfl) ?_
 refine l_nil ?_
 refine n_seq ?_
 refine e_seq ?_
 refine e_seq ?_
 refine e_reg ?_
 refine l_c (en_f (vs := []) (CF 36 _) rfl rfl) (alive3_calls _) ?_
 rintro e w7 ⟨rfl, k⟩
 have S := S.callq k; clear k
 refine ckd ?_
 refine l_y (v := .bool false) S (y_not rfl rfl) ?_
 refine l_nil ?_
 refine n_seq ?_
 refine e_cF rfl ?_
 refine e_skip ?_
 refine n_seq ?_
 refine e_seq ?_
 refine e_reg ?_
 refine l_y (v := .slice A1 base.length c2) S (y_mv rfl) ?_
 refine l_y (v := .slice A4 l.length c5) S (y_mv rfl) ?_
 refine l_y (v := .int .i64 n) S (y_mv rfl) ?_
 refine l_c (en_f (vs := [.slice A1 base.length c2, .slice A4 l.length c5, .int .i64 n]) (CF 44 _) rfl rfl) (LSorted_c _ _ S.le _ _ base l n qa qb) ?_
 rintro e w8 ⟨v13, rfl, h14, k⟩
 obtain ⟨rd9, S, L10, N11, X12⟩ := S.call' k; clear k
 replace qa := fm qa L10
 replace qb := fm qb L10
 replace h14 := fm h14 X12
 obtain ⟨A15, c16, rfl, m17, m17'⟩ := h14.val
 refine ckd ?_
 refine l_y (v := .tuple #[.slice A15 (((SortL base l n).1).length) c16, .agg #[.int .i64 ((SortL base l n).2.1), .int .i64 ((SortL base l n).2.2)]]) S (y_mv rfl) ?_
 refine l_y (v := .slice A15 (((SortL base l n).1).length) c16) S (y_ex rfl rfl) ?_
 refine l_y (v := .agg #[.int .i64 ((SortL base l n).2.1), .int .i64 ((SortL base l n).2.2)]) S (y_ex rfl rfl) ?_
 refine l_al (cs := #[.int .i64 0, .int .i64 0]) S Z50 rfl fun g18 w19 S => ?_
 refine l_y (v := .slice A15 (((SortL base l n).1).length) c16) S (y_as rfl) ?_
 refine l_st (u := .agg #[.int .i64 ((SortL base l n).2.1), .int .i64 ((SortL base l n).2.2)]) (i := 0) (cs' := #[.int .i64 ((SortL base l n).2.1), .int .i64 ((SortL base l n).2.2)]) S rfl rfl rfl SZ50 rfl rfl rfl fun w20 S => ?_
 refine l_nil ?_
 refine n_seq ?_
 refine e_seq ?_
 refine e_seq ?_
 refine e_reg ?_
 refine l_y (v := .pointer (some ⟨g18, 0, none⟩)) S (y_fb FA50_0 rfl rfl) ?_
 refine l_y (v := .int .i64 ((SortL base l n).2.1)) S (y_ld rfl (fun w S => ld_b1 (i := 0) S rfl rfl T25)) ?_
 by_cases hE : (SortL base l n).2.1 = 0
 · -- hE yes
  refine l_y (v := .bool false) S (y_neF rfl rfl hE) ?_
  refine l_nil ?_
  refine n_seq ?_
  refine e_cF rfl ?_
  refine e_skip ?_
  refine n_seq ?_
  refine e_seq ?_
  refine e_reg ?_
  obtain ⟨q1, q2, q3, q4, q5, q6, q7⟩ := sorted_p hE
  refine l_y (v := .slice A1 base.length c2) S (y_mv rfl) ?_
  refine l_y (v := .slice A4 l.length c5) S (y_mv rfl) ?_
  refine l_y (v := .int .i64 n) S (y_mv rfl) ?_
  refine l_c (en_f (vs := [.slice A1 base.length c2, .slice A4 l.length c5, .int .i64 n]) (CF 37 _) rfl rfl) (Clock_calls _ _ _ _ _ _ (fm qa S.le) (fm qb S.le)) ?_
  rintro e w23 ⟨r21, rfl, h22, k⟩
  obtain ⟨rd24, S, L25, N26, X27⟩ := S.call' k; clear k
  replace qa := fm qa L25
  replace qb := fm qb L25
  replace h14 := fm h14 L25
  have h22 := fm h22 N26
  obtain ⟨A28, c29, rfl, m30, m30'⟩ := h22.val
  refine ckd ?_
  refine l_y (v := .tuple #[.slice A28 (((clockL base l n).1).length) c29, .agg #[.int .i64 ((clockL base l n).2.1), .int .i64 ((clockL base l n).2.2)]]) S (y_mv rfl) ?_
  refine l_y (v := .slice A28 (((clockL base l n).1).length) c29) S (y_ex rfl rfl) ?_
  refine l_y (v := .agg #[.int .i64 ((clockL base l n).2.1), .int .i64 ((clockL base l n).2.2)]) S (y_ex rfl rfl) ?_
  refine l_al (cs := #[.int .i64 0, .int .i64 0]) S Z50 rfl fun g31 w32 S => ?_
  refine l_y (v := .slice A28 (((clockL base l n).1).length) c29) S (y_as rfl) ?_
  refine l_st (u := .agg #[.int .i64 ((clockL base l n).2.1), .int .i64 ((clockL base l n).2.2)]) (i := 1) (cs' := #[.int .i64 ((clockL base l n).2.1), .int .i64 ((clockL base l n).2.2)]) S rfl rfl rfl SZ50 rfl rfl rfl fun w33 S => ?_
  refine l_nil ?_
  refine n_seq ?_
  refine e_trim [(0, .slice A1 base.length c2), (1, .slice A4 l.length c5), (2, .int .i64 n), (6, .bool false), (7, .slice A15 (((SortL base l n).1).length) c16), (10, .pointer (some ⟨g31, 0, none⟩)), (9, .slice A28 (((clockL base l n).1).length) c29)] ⟨⟨rfl, rfl⟩, ⟨rfl, rfl⟩, ⟨rfl, rfl⟩, ⟨rfl, rfl⟩, ⟨rfl, rfl⟩, ⟨rfl, rfl⟩, ⟨rfl, rfl⟩, trivial⟩ (fun junk => ?_)
  refine e_seq ?_
  refine e_reg ?_
  refine l_y (v := .slice A1 base.length c2) S (y_mv rfl) ?_
  refine l_y (v := .slice A15 (((SortL base l n).1).length) c16) S (y_mv rfl) ?_
  refine l_y (v := .int .i64 n) S (y_mv rfl) ?_
  refine l_c (en_f (vs := [.slice A1 base.length c2, .slice A15 (((SortL base l n).1).length) c16, .int .i64 n]) (CF 37 _) rfl rfl) (Clock_calls _ _ _ _ _ _ (fm qa S.le) (fm h14 S.le)) ?_
  rintro e w36 ⟨r34, rfl, h35, k⟩
  obtain ⟨rd37, S, L38, N39, X40⟩ := S.call' k; clear k
  replace qa := fm qa L38
  replace qb := fm qb L38
  replace h14 := fm h14 L38
  replace h22 := fm h22 L38
  have h35 := fm h35 N39
  obtain ⟨A41, c42, rfl, m43, m43'⟩ := h35.val
  refine ckd ?_
  refine l_y (v := .tuple #[.slice A41 (((clockL base ((SortL base l n).1) n).1).length) c42, .agg #[.int .i64 ((clockL base ((SortL base l n).1) n).2.1), .int .i64 ((clockL base ((SortL base l n).1) n).2.2)]]) S (y_mv rfl) ?_
  refine l_y (v := .slice A41 (((clockL base ((SortL base l n).1) n).1).length) c42) S (y_ex rfl rfl) ?_
  refine l_y (v := .agg #[.int .i64 ((clockL base ((SortL base l n).1) n).2.1), .int .i64 ((clockL base ((SortL base l n).1) n).2.2)]) S (y_ex rfl rfl) ?_
  refine l_al (cs := #[.int .i64 0, .int .i64 0]) S Z50 rfl fun g44 w45 S => ?_
  refine l_y (v := .slice A41 (((clockL base ((SortL base l n).1) n).1).length) c42) S (y_as rfl) ?_
  refine l_st (u := .agg #[.int .i64 ((clockL base ((SortL base l n).1) n).2.1), .int .i64 ((clockL base ((SortL base l n).1) n).2.2)]) (i := 2) (cs' := #[.int .i64 ((clockL base ((SortL base l n).1) n).2.1), .int .i64 ((clockL base ((SortL base l n).1) n).2.2)]) S rfl rfl rfl SZ50 rfl rfl rfl fun w46 S => ?_
  refine l_nil ?_
  refine n_seq ?_
  refine e_seq ?_
  refine e_reg ?_
  refine l_y (v := .slice A1 base.length c2) S (y_mv rfl) ?_
  refine l_y (v := .slice A15 (((SortL base l n).1).length) c16) S (y_mv rfl) ?_
  refine l_y (v := .int .i64 n) S (y_mv rfl) ?_
  refine l_c (en_f (vs := [.slice A1 base.length c2, .slice A15 (((SortL base l n).1).length) c16, .int .i64 n]) (CF 44 _) rfl rfl) (LSorted_c _ _ S.le _ _ base ((SortL base l n).1) n qa h14) ?_
  rintro e w47 ⟨v52, rfl, h53, k⟩
  obtain ⟨rd48, S, L49, N50, X51⟩ := S.call' k; clear k
  replace qa := fm qa L49
  replace qb := fm qb L49
  replace h14 := fm h14 L49
  replace h22 := fm h22 L49
  replace h35 := fm h35 L49
  replace h53 := fm h53 X51
  obtain ⟨A54, c55, rfl, m56, m56'⟩ := h53.val
  refine ckd ?_
  refine l_y (v := .tuple #[.slice A54 (((SortL base ((SortL base l n).1) n).1).length) c55, .agg #[.int .i64 ((SortL base ((SortL base l n).1) n).2.1), .int .i64 ((SortL base ((SortL base l n).1) n).2.2)]]) S (y_mv rfl) ?_
  refine l_y (v := .slice A54 (((SortL base ((SortL base l n).1) n).1).length) c55) S (y_ex rfl rfl) ?_
  refine l_y (v := .agg #[.int .i64 ((SortL base ((SortL base l n).1) n).2.1), .int .i64 ((SortL base ((SortL base l n).1) n).2.2)]) S (y_ex rfl rfl) ?_
  refine l_al (cs := #[.int .i64 0, .int .i64 0]) S Z50 rfl fun g57 w58 S => ?_
  refine l_y (v := .slice A54 (((SortL base ((SortL base l n).1) n).1).length) c55) S (y_as rfl) ?_
  refine l_st (u := .agg #[.int .i64 ((SortL base ((SortL base l n).1) n).2.1), .int .i64 ((SortL base ((SortL base l n).1) n).2.2)]) (i := 3) (cs' := #[.int .i64 ((SortL base ((SortL base l n).1) n).2.1), .int .i64 ((SortL base ((SortL base l n).1) n).2.2)]) S rfl rfl rfl SZ50 rfl rfl rfl fun w59 S => ?_
  refine l_nil ?_
  refine n_seq ?_
  refine e_seq ?_
  refine e_seq ?_
  refine e_reg ?_
  refine l_y (v := .pointer (some ⟨g31, 0, none⟩)) S (y_fb FA50_0 rfl rfl) ?_
  refine l_y (v := .int .i64 ((clockL base l n).2.1)) S (y_ld rfl (fun w S => ld_b1 (i := 1) S rfl rfl T25)) ?_
  have h60 : (clockL base l n).2.1 = 0 := q1
  refine l_y (v := .bool false) S (y_neF rfl rfl h60) ?_
  refine l_y (v := .bool false) S (y_mv rfl) ?_
  refine l_g (d' := 59) (v := .pointer (some ⟨g44, 0, none⟩)) S (y_fb FA50_0 rfl rfl) rfl rfl ?_
  refine l_g (d' := 59) (v := .int .i64 ((clockL base ((SortL base l n).1) n).2.1)) S (y_ld rfl (fun w S => ld_b1 (i := 2) S rfl rfl T25)) rfl rfl ?_
  have h61 : (clockL base ((SortL base l n).1) n).2.1 = 0 := q2
  refine l_g (d' := 59) (v := .bool false) S (y_neF rfl rfl h61) rfl rfl ?_
  refine l_y (v := .bool false) S (y_pF rfl rfl) ?_
  refine l_y (v := .bool false) S (y_mv rfl) ?_
  refine l_g (d' := 64) (v := .pointer (some ⟨g57, 0, none⟩)) S (y_fb FA50_0 rfl rfl) rfl rfl ?_
  refine l_g (d' := 64) (v := .int .i64 ((SortL base ((SortL base l n).1) n).2.1)) S (y_ld rfl (fun w S => ld_b1 (i := 3) S rfl rfl T25)) rfl rfl ?_
  have h62 : (SortL base ((SortL base l n).1) n).2.1 = 0 := q3
  refine l_g (d' := 64) (v := .bool false) S (y_neF rfl rfl h62) rfl rfl ?_
  refine l_y (v := .bool false) S (y_pF rfl rfl) ?_
  refine l_y (v := .bool false) S (y_mv rfl) ?_
  refine l_g (d' := 69) (v := .slice A28 (((clockL base l n).1).length) c29) S (y_mv rfl) rfl rfl ?_
  refine l_g (d' := 69) (v := .slice A41 (((clockL base ((SortL base l n).1) n).1).length) c42) S (y_mv rfl) rfl rfl ?_
  refine l_cg (d' := 69) (en_f (vs := [.slice A28 (((clockL base l n).1).length) c29, .slice A41 (((clockL base ((SortL base l n).1) n).1).length) c42]) (CF 18 _) rfl rfl) rfl rfl (Same_calls _ _ _ _ _ (fm h22 S.le) (fm h35 S.le)) ?_
  rintro e w63 ⟨rfl, k⟩
  have S := S.callq k; clear k
  have b64 : sameL ((clockL base l n).1) ((clockL base ((SortL base l n).1) n).1) = true := by rw [q4]; simp [sameL]
  rw [b64]
  refine ckd ?_
  refine l_g (d' := 69) (v := .bool false) S (y_not rfl rfl) rfl rfl ?_
  refine l_y (v := .bool false) S (y_pF rfl rfl) ?_
  refine l_y (v := .bool false) S (y_mv rfl) ?_
  refine l_g (d' := 75) (v := .slice A15 (((SortL base l n).1).length) c16) S (y_mv rfl) rfl rfl ?_
  refine l_g (d' := 75) (v := .slice A54 (((SortL base ((SortL base l n).1) n).1).length) c55) S (y_mv rfl) rfl rfl ?_
  refine l_cg (d' := 75) (en_f (vs := [.slice A15 (((SortL base l n).1).length) c16, .slice A54 (((SortL base ((SortL base l n).1) n).1).length) c55]) (CF 40 _) rfl rfl) rfl rfl (SameLog_c _ _ S.le _ _ ((SortL base l n).1) ((SortL base ((SortL base l n).1) n).1) h14 h53) ?_
  rintro e w65 ⟨rfl, k⟩
  have S := S.callq k; clear k
  have b66 : sameLg ((SortL base l n).1) ((SortL base ((SortL base l n).1) n).1) = true := by rw [q5]; simp [sameLg]
  rw [b66]
  refine ckd ?_
  refine l_g (d' := 75) (v := .bool false) S (y_not rfl rfl) rfl rfl ?_
  refine l_y (v := .bool false) S (y_pF rfl rfl) ?_
  refine l_y (v := .bool false) S (y_mv rfl) ?_
  refine l_g (d' := 81) (v := .slice A15 (((SortL base l n).1).length) c16) S (y_mv rfl) rfl rfl ?_
  refine l_g (d' := 81) (v := .int .i64 (((SortL base l n).1).length : Int)) S (y_len U48 rfl rfl) rfl rfl ?_
  refine l_g (d' := 81) (v := .slice A4 l.length c5) S (y_mv rfl) rfl rfl ?_
  refine l_g (d' := 81) (v := .int .i64 (l.length : Int)) S (y_len U48 rfl rfl) rfl rfl ?_
  have h67 : (((SortL base l n).1).length : Int) = (l.length : Int) := by rw [q6]
  refine l_g (d' := 81) (v := .bool false) S (y_neF rfl rfl h67) rfl rfl ?_
  refine l_y (v := .bool false) S (y_pF rfl rfl) ?_
  refine l_nil ?_
  refine n_seq ?_
  refine e_trim [(1, .slice A4 l.length c5), (6, .bool false), (7, .slice A15 (((SortL base l n).1).length) c16), (87, .bool false)] ⟨⟨rfl, rfl⟩, ⟨rfl, rfl⟩, ⟨rfl, rfl⟩, ⟨rfl, rfl⟩, trivial⟩ (fun junk => ?_)
  refine e_cF rfl ?_
  refine e_skip ?_
  refine n_seq ?_
  refine e_seq ?_
  refine e_seq ?_
  refine e_reg ?_
  refine l_y (v := .slice A4 l.length c5) S (y_mv rfl) ?_
  refine l_y (v := .int .i64 (l.length : Int)) S (y_len U48 rfl rfl) ?_
  refine l_y (v := .int .i64 0) S (y_mv rfl) ?_
  refine l_nil ?_
  refine n_seq ?_
  refine e_blk ?_
  refine e_trim [(7, .slice A15 (((SortL base l n).1).length) c16), (88, .slice A4 l.length c5), (89, .int .i64 (l.length : Int)), (90, .int .i64 (0 : Int))] ⟨⟨rfl, rfl⟩, ⟨rfl, rfl⟩, ⟨rfl, rfl⟩, ⟨ival (by first | rfl | omega), rfl⟩, trivial⟩ (fun junk => ?_)
  refine e_loop (fun (gh_ : Nat) ov w => match gh_ with | k => ∃ rd' junk, ov = [(7, .slice A15 (((SortL base l n).1).length) c16), (88, .slice A4 l.length c5), (89, .int .i64 (l.length : Int)), (90, .int .i64 (k : Int))] ++ junk ∧ St [] W (wrd W) rd' [(g18, 50, #[.int .i64 ((SortL base l n).2.1), .int .i64 ((SortL base l n).2.2)]), (g31, 50, #[.int .i64 ((clockL base l n).2.1), .int .i64 ((clockL base l n).2.2)]), (g44, 50, #[.int .i64 ((clockL base ((SortL base l n).1) n).2.1), .int .i64 ((clockL base ((SortL base l n).1) n).2.2)]), (g57, 50, #[.int .i64 ((SortL base ((SortL base l n).1) n).2.1), .int .i64 ((SortL base ((SortL base l n).1) n).2.2)])] [] w ∧ Rd.le rd48 rd' ∧ k ≤ l.length) (fun gh_ => match gh_ with | k => l.length - k) 0 ⟨_, junk, rfl, (S.rw' rfl rfl), (Rd.le_refl _), (by omega)⟩ ?_
  rintro k ov71 w69 ⟨rd68, junk, rfl, S, L70, hk⟩
  replace qb := fm qb L70
  replace h14 := fm h14 L70
  refine e_seq ?_
  refine e_reg ?_
  by_cases h72 : (k : Int) < (l.length : Int)
  · -- h72 yes
   refine l_y (v := .bool true) S (y_ltT rfl rfl h72) ?_
   refine l_nil ?_
   refine n_seq ?_
   refine e_seq ?_
   refine e_cT rfl ?_
   refine e_skip ?_
   refine n_seq ?_
   refine e_seq ?_
   refine e_blk ?_
   refine e_seq ?_
   refine e_reg ?_
   obtain ⟨z73, hz74⟩ : ∃ z, (l)[k]? = some z := nth_of (by first | assumption | omega)
   obtain ⟨p75, vs76, E77, nn78, r79, Y80⟩ := y_ia U48 SZ32 qb hz74
   clear nn78
   obtain ⟨sv81, r79e, h82⟩ := r79; subst r79e
   obtain ⟨A83, c84, rfl, m85, m85'⟩ := h82.val
   refine l_y (v := p75) S (Y80 rfl rfl (by first | rfl | omega)) ?_
   refine l_y (v := .agg #[.int .i64 z73.author, .slice A83 z73.seen.length c84, .int .i64 z73.kind, .int .i64 z73.key, .int .i64 z73.item]) S (y_ld rfl (fun w S => ld_pA (us := [.int .i64 z73.author, .slice A83 z73.seen.length c84, .int .i64 z73.kind, .int .i64 z73.key, .int .i64 z73.item]) S.le E77 T32 rfl rfl)) ?_
   refine l_al (cs := #[.int .i64 0, .slice none 0 0, .int .i64 0, .int .i64 0, .int .i64 0]) S Z32 rfl fun g86 w87 S => ?_
   refine l_st (u := .agg #[.int .i64 z73.author, .slice A83 z73.seen.length c84, .int .i64 z73.kind, .int .i64 z73.key, .int .i64 z73.item]) (i := 4) (cs' := #[.int .i64 z73.author, .slice A83 z73.seen.length c84, .int .i64 z73.kind, .int .i64 z73.key, .int .i64 z73.item]) S rfl rfl rfl SZ32 rfl rfl rfl fun w88 S => ?_
   refine l_nil ?_
   refine n_seq ?_
   refine e_seq ?_
   refine e_reg ?_
   refine l_y (v := .bool false) S (y_as rfl) ?_
   refine l_nil ?_
   refine n_seq ?_
   refine e_seq ?_
   refine e_seq ?_
   refine e_reg ?_
   refine l_y (v := .slice A15 (((SortL base l n).1).length) c16) S (y_mv rfl) ?_
   refine l_y (v := .int .i64 (((SortL base l n).1).length : Int)) S (y_len U48 rfl rfl) ?_
   refine l_y (v := .int .i64 0) S (y_mv rfl) ?_
   refine l_nil ?_
   refine n_seq ?_
   refine e_blk ?_
   refine e_trim [(7, .slice A15 (((SortL base l n).1).length) c16), (88, .slice A4 l.length c5), (89, .int .i64 (l.length : Int)), (90, .int .i64 (k : Int)), (91, .bool true), (92, p75), (93, .agg #[.int .i64 z73.author, .slice A83 z73.seen.length c84, .int .i64 z73.kind, .int .i64 z73.key, .int .i64 z73.item]), (16, .pointer (some ⟨g86, 0, none⟩)), (94, .slice A15 (((SortL base l n).1).length) c16), (95, .int .i64 (((SortL base l n).1).length : Int)), (96, .int .i64 (0 : Int)), (17, .bool false)] ⟨⟨rfl, rfl⟩, ⟨rfl, rfl⟩, ⟨rfl, rfl⟩, ⟨rfl, rfl⟩, ⟨rfl, rfl⟩, ⟨rfl, rfl⟩, ⟨rfl, rfl⟩, ⟨rfl, rfl⟩, ⟨rfl, rfl⟩, ⟨rfl, rfl⟩, ⟨ival (by first | rfl | omega), rfl⟩, ⟨rfl, rfl⟩, trivial⟩ (fun junk => ?_)
   refine e_loop (fun (gh_ : Nat × Bool) ov w => match gh_ with | (k2, b) => ∃ rd' junk, ov = [(7, .slice A15 (((SortL base l n).1).length) c16), (88, .slice A4 l.length c5), (89, .int .i64 (l.length : Int)), (90, .int .i64 (k : Int)), (91, .bool true), (92, p75), (93, .agg #[.int .i64 z73.author, .slice A83 z73.seen.length c84, .int .i64 z73.kind, .int .i64 z73.key, .int .i64 z73.item]), (16, .pointer (some ⟨g86, 0, none⟩)), (94, .slice A15 (((SortL base l n).1).length) c16), (95, .int .i64 (((SortL base l n).1).length : Int)), (96, .int .i64 (k2 : Int)), (17, .bool b)] ++ junk ∧ St [] W (wrd W) rd' [(g18, 50, #[.int .i64 ((SortL base l n).2.1), .int .i64 ((SortL base l n).2.2)]), (g31, 50, #[.int .i64 ((clockL base l n).2.1), .int .i64 ((clockL base l n).2.2)]), (g44, 50, #[.int .i64 ((clockL base ((SortL base l n).1) n).2.1), .int .i64 ((clockL base ((SortL base l n).1) n).2.2)]), (g57, 50, #[.int .i64 ((SortL base ((SortL base l n).1) n).2.1), .int .i64 ((SortL base ((SortL base l n).1) n).2.2)]), (g86, 32, #[.int .i64 z73.author, .slice A83 z73.seen.length c84, .int .i64 z73.kind, .int .i64 z73.key, .int .i64 z73.item])] [] w ∧ Rd.le rd68 rd' ∧ k2 ≤ (SortL base l n).1.length ∧ (b = false → ∀ v ∈ (SortL base l n).1.take k2, ¬ v = z73)) (fun gh_ => match gh_ with | (k2, b) => (SortL base l n).1.length - k2) (0, false) ⟨_, junk, rfl, (S.rw' rfl rfl), (Rd.le_refl _), (by omega), (by simp)⟩ ?_
   rintro ⟨k2, b⟩ ov92 w90 ⟨rd89, junk, rfl, S, L91, hk2, hno⟩
   replace qb := fm qb L91
   replace h14 := fm h14 L91
   replace h82 := fm h82 L91
   replace E77 := PtrC.mono E77 L91
   refine e_seq ?_
   refine e_reg ?_
   by_cases h93 : (k2 : Int) < (((SortL base l n).1).length : Int)
   · -- h93 yes
    refine l_y (v := .bool true) S (y_ltT rfl rfl h93) ?_
    refine l_nil ?_
    refine n_seq ?_
    refine e_seq ?_
    refine e_cT rfl ?_
    refine e_skip ?_
    refine n_seq ?_
    refine e_seq ?_
    refine e_blk ?_
    refine e_seq ?_
    refine e_reg ?_
    obtain ⟨z94, hz95⟩ : ∃ z, ((SortL base l n).1)[k2]? = some z := nth_of (by first | assumption | omega)
    obtain ⟨p96, vs97, E98, nn99, r100, Y101⟩ := y_ia U48 SZ32 h14 hz95
    clear nn99
    obtain ⟨sv102, r100e, h103⟩ := r100; subst r100e
    obtain ⟨A104, c105, rfl, m106, m106'⟩ := h103.val
    refine l_y (v := p96) S (Y101 rfl rfl (by first | rfl | omega)) ?_
    refine l_y (v := .agg #[.int .i64 z94.author, .slice A104 z94.seen.length c105, .int .i64 z94.kind, .int .i64 z94.key, .int .i64 z94.item]) S (y_ld rfl (fun w S => ld_pA (us := [.int .i64 z94.author, .slice A104 z94.seen.length c105, .int .i64 z94.kind, .int .i64 z94.key, .int .i64 z94.item]) S.le E98 T32 rfl rfl)) ?_
    refine l_al (cs := #[.int .i64 0, .slice none 0 0, .int .i64 0, .int .i64 0, .int .i64 0]) S Z32 rfl fun g107 w108 S => ?_
    refine l_st (u := .agg #[.int .i64 z94.author, .slice A104 z94.seen.length c105, .int .i64 z94.kind, .int .i64 z94.key, .int .i64 z94.item]) (i := 5) (cs' := #[.int .i64 z94.author, .slice A104 z94.seen.length c105, .int .i64 z94.kind, .int .i64 z94.key, .int .i64 z94.item]) S rfl rfl rfl SZ32 rfl rfl rfl fun w109 S => ?_
    refine l_nil ?_
    refine n_seq ?_
    refine e_reg ?_
    cases b
    · -- there False
     refine l_y (v := .bool false) S (y_mv rfl) ?_
     refine l_y (v := .bool false) S (y_mv rfl) ?_
     refine l_g (d' := 101) (v := .agg #[.int .i64 z73.author, .slice A83 z73.seen.length c84, .int .i64 z73.kind, .int .i64 z73.key, .int .i64 z73.item]) S (y_ld rfl (fun w S => ld_bA (vs := [.int .i64 z73.author, .slice A83 z73.seen.length c84, .int .i64 z73.kind, .int .i64 z73.key, .int .i64 z73.item]) (i := 4) S rfl T32 rfl rfl)) rfl rfl ?_
     refine l_g (d' := 101) (v := .agg #[.int .i64 z94.author, .slice A104 z94.seen.length c105, .int .i64 z94.kind, .int .i64 z94.key, .int .i64 z94.item]) S (y_ld rfl (fun w S => ld_bA (vs := [.int .i64 z94.author, .slice A104 z94.seen.length c105, .int .i64 z94.kind, .int .i64 z94.key, .int .i64 z94.item]) (i := 5) S rfl T32 rfl rfl)) rfl rfl ?_
     refine l_cg (d' := 101) (en_f (vs := [.agg #[.int .i64 z73.author, .slice A83 z73.seen.length c84, .int .i64 z73.kind, .int .i64 z73.key, .int .i64 z73.item], .agg #[.int .i64 z94.author, .slice A104 z94.seen.length c105, .int .i64 z94.kind, .int .i64 z94.key, .int .i64 z94.item]]) (CF 28 _) rfl rfl) rfl rfl (SameU_calls _ _ z73 z94 _ (am (⟨_, rfl, ⟨_, rfl, h82⟩⟩ : AggR UpdR rd89 _ z73) S.le) (am (⟨_, rfl, ⟨_, rfl, h103⟩⟩ : AggR UpdR rd89 _ z94) S.le)) ?_
     rintro e w110 ⟨rfl, k⟩
     have S := S.callq k; clear k
     cases hsu : sameU z73 z94
     · -- hsu False
      refine ckd ?_
      refine l_y (v := .bool false) S (y_pF rfl rfl) ?_
      refine l_y (v := .bool false) S (y_as rfl) ?_
      refine l_nil ?_
      refine n_blk ?_
      refine n_seq ?_
      refine e_reg ?_
      refine l_y (v := .int .i64 ((k2 : Int) + 1)) S (y_add (r := (k2 : Int) + 1) rfl rfl (w64 (by omega) (by omega))) ?_
      refine l_y (v := .int .i64 ((k2 : Int) + 1)) S (y_mv rfl) ?_
      refine l_nil ?_
      refine n_lp ⟨(k2 + 1, false), _, fr_keep (m := [(7, .slice A15 (((SortL base l n).1).length) c16), (88, .slice A4 l.length c5), (89, .int .i64 (l.length : Int)), (90, .int .i64 (k : Int)), (91, .bool true), (92, p75), (93, .agg #[.int .i64 z73.author, .slice A83 z73.seen.length c84, .int .i64 z73.kind, .int .i64 z73.key, .int .i64 z73.item]), (16, .pointer (some ⟨g86, 0, none⟩)), (94, .slice A15 (((SortL base l n).1).length) c16), (95, .int .i64 (((SortL base l n).1).length : Int)), (96, .int .i64 ((k2 + 1 : Nat) : Int)), (17, .bool false)]) ⟨⟨rfl, rfl⟩, ⟨rfl, rfl⟩, ⟨rfl, rfl⟩, ⟨rfl, rfl⟩, ⟨rfl, rfl⟩, ⟨rfl, rfl⟩, ⟨rfl, rfl⟩, ⟨rfl, rfl⟩, ⟨rfl, rfl⟩, ⟨rfl, rfl⟩, ⟨ival (by first | rfl | omega), rfl⟩, ⟨rfl, rfl⟩, trivial⟩, ⟨_, _, rfl, (S.tk 5 0 rfl rfl), (Rd.le_trans L91 (Rd.le_refl rd89)), (by omega), (fun _ => not_next2 (p := fun v => v = z73) (hno rfl) hz95 (fun e => by rw [e] at hsu; simp [sameU] at hsu))⟩, ?_⟩
      show _ < _; dsimp only; omega
     · -- hsu True
      refine ckd ?_
      refine l_y (v := .bool true) S (y_pF rfl rfl) ?_
      refine l_y (v := .bool true) S (y_as rfl) ?_
      refine l_nil ?_
      refine n_blk ?_
      refine n_seq ?_
      refine e_reg ?_
      refine l_y (v := .int .i64 ((k2 : Int) + 1)) S (y_add (r := (k2 : Int) + 1) rfl rfl (w64 (by omega) (by omega))) ?_
      refine l_y (v := .int .i64 ((k2 : Int) + 1)) S (y_mv rfl) ?_
      refine l_nil ?_
      refine n_lp ⟨(k2 + 1, true), _, fr_keep (m := [(7, .slice A15 (((SortL base l n).1).length) c16), (88, .slice A4 l.length c5), (89, .int .i64 (l.length : Int)), (90, .int .i64 (k : Int)), (91, .bool true), (92, p75), (93, .agg #[.int .i64 z73.author, .slice A83 z73.seen.length c84, .int .i64 z73.kind, .int .i64 z73.key, .int .i64 z73.item]), (16, .pointer (some ⟨g86, 0, none⟩)), (94, .slice A15 (((SortL base l n).1).length) c16), (95, .int .i64 (((SortL base l n).1).length : Int)), (96, .int .i64 ((k2 + 1 : Nat) : Int)), (17, .bool true)]) ⟨⟨rfl, rfl⟩, ⟨rfl, rfl⟩, ⟨rfl, rfl⟩, ⟨rfl, rfl⟩, ⟨rfl, rfl⟩, ⟨rfl, rfl⟩, ⟨rfl, rfl⟩, ⟨rfl, rfl⟩, ⟨rfl, rfl⟩, ⟨rfl, rfl⟩, ⟨ival (by first | rfl | omega), rfl⟩, ⟨rfl, rfl⟩, trivial⟩, ⟨_, _, rfl, (S.tk 5 0 rfl rfl), (Rd.le_trans L91 (Rd.le_refl rd89)), (by omega), (fun h => Bool.noConfusion h)⟩, ?_⟩
      show _ < _; dsimp only; omega
    · -- there True
     refine l_y (v := .bool true) S (y_mv rfl) ?_
     refine l_y (v := .bool true) S (y_mv rfl) ?_
     refine l_s (d' := 101) rfl rfl ?_
     refine l_s (d' := 101) rfl rfl ?_
     refine l_s (d' := 101) rfl rfl ?_
     refine l_y (v := .bool true) S (y_pT rfl rfl) ?_
     refine l_y (v := .bool true) S (y_as rfl) ?_
     refine l_nil ?_
     refine n_blk ?_
     refine n_seq ?_
     refine e_reg ?_
     refine l_y (v := .int .i64 ((k2 : Int) + 1)) S (y_add (r := (k2 : Int) + 1) rfl rfl (w64 (by omega) (by omega))) ?_
     refine l_y (v := .int .i64 ((k2 : Int) + 1)) S (y_mv rfl) ?_
     refine l_nil ?_
     refine n_lp ⟨(k2 + 1, true), _, fr_keep (m := [(7, .slice A15 (((SortL base l n).1).length) c16), (88, .slice A4 l.length c5), (89, .int .i64 (l.length : Int)), (90, .int .i64 (k : Int)), (91, .bool true), (92, p75), (93, .agg #[.int .i64 z73.author, .slice A83 z73.seen.length c84, .int .i64 z73.kind, .int .i64 z73.key, .int .i64 z73.item]), (16, .pointer (some ⟨g86, 0, none⟩)), (94, .slice A15 (((SortL base l n).1).length) c16), (95, .int .i64 (((SortL base l n).1).length : Int)), (96, .int .i64 ((k2 + 1 : Nat) : Int)), (17, .bool true)]) ⟨⟨rfl, rfl⟩, ⟨rfl, rfl⟩, ⟨rfl, rfl⟩, ⟨rfl, rfl⟩, ⟨rfl, rfl⟩, ⟨rfl, rfl⟩, ⟨rfl, rfl⟩, ⟨rfl, rfl⟩, ⟨rfl, rfl⟩, ⟨rfl, rfl⟩, ⟨ival (by first | rfl | omega), rfl⟩, ⟨rfl, rfl⟩, trivial⟩, ⟨_, _, rfl, (S.tk 5 0 rfl rfl), (Rd.le_trans L91 (Rd.le_refl rd89)), (by omega), (fun h => Bool.noConfusion h)⟩, ?_⟩
     show _ < _; dsimp only; omega
   · -- h93 no
    refine l_y (v := .bool false) S (y_ltF rfl rfl h93) ?_
    refine l_nil ?_
    refine n_seq ?_
    refine e_seq ?_
    refine e_cF rfl ?_
    refine e_exit ?_
    refine x_seq ?_
    refine x_lp ?_
    refine x_hit ?_
    refine n_seq ?_
    refine e_seq ?_
    refine e_reg ?_
    cases b
    · -- there False
     refine l_y (v := .bool false) S (y_mv rfl) ?_
     refine l_y (v := .bool true) S (y_not rfl rfl) ?_
     refine l_nil ?_
     refine n_seq ?_
     refine e_cT rfl ?_
     refine e_seq ?_
     refine e_reg ?_
     refine l_y (v := .bool false) S (y_as rfl) ?_
     refine l_nil ?_
     refine n_seq ?_
     refine e_ret ?_
     refine ret1 (v := .bool false) rfl rfl ?_
     exact absurd rfl (hno rfl _ (by rw [List.take_of_length_le (by omega)]; exact q7 _ (List.mem_of_getElem? hz74)))
    · -- there True
     refine l_y (v := .bool true) S (y_mv rfl) ?_
     refine l_y (v := .bool false) S (y_not rfl rfl) ?_
     refine l_nil ?_
     refine n_seq ?_
     refine e_cF rfl ?_
     refine e_skip ?_
     refine n_blk ?_
     refine n_seq ?_
     refine e_reg ?_
     refine l_y (v := .int .i64 ((k : Int) + 1)) S (y_add (r := (k : Int) + 1) rfl rfl (w64 (by omega) (by omega))) ?_
     refine l_y (v := .int .i64 ((k : Int) + 1)) S (y_mv rfl) ?_
     refine l_nil ?_
     refine n_lp ⟨(k + 1), _, fr_keep (m := [(7, .slice A15 (((SortL base l n).1).length) c16), (88, .slice A4 l.length c5), (89, .int .i64 (l.length : Int)), (90, .int .i64 ((k + 1 : Nat) : Int))]) ⟨⟨rfl, rfl⟩, ⟨rfl, rfl⟩, ⟨rfl, rfl⟩, ⟨ival (by first | rfl | omega), rfl⟩, trivial⟩, ⟨_, _, rfl, (S.tk 4 0 rfl rfl), (Rd.le_trans L70 (Rd.le_trans (Rd.le_refl rd68) L91)), (by omega)⟩, ?_⟩
     show _ < _; dsimp only; omega
  · -- h72 no
   refine l_y (v := .bool false) S (y_ltF rfl rfl h72) ?_
   refine l_nil ?_
   refine n_seq ?_
   refine e_seq ?_
   refine e_cF rfl ?_
   refine e_exit ?_
   refine x_seq ?_
   refine x_lp ?_
   refine x_hit ?_
   refine n_seq ?_
   refine e_seq ?_
   refine e_reg ?_
   refine l_y (v := .bool true) S (y_as rfl) ?_
   refine l_nil ?_
   refine n_seq ?_
   refine e_ret ?_
   refine ret1 (v := .bool true) rfl rfl ?_
   exact ⟨rfl, S.below⟩
 · -- hE no
  refine l_y (v := .bool true) S (y_neT rfl rfl hE) ?_
  refine l_nil ?_
  refine n_seq ?_
  refine e_cT rfl ?_
  refine e_seq ?_
  refine e_reg ?_
  refine l_y (v := .slice A15 (((SortL base l n).1).length) c16) S (y_mv rfl) ?_
  refine l_y (v := .int .i64 (((SortL base l n).1).length : Int)) S (y_len U48 rfl rfl) ?_
  have h111 : (((SortL base l n).1).length : Int) = 0 := by rw [SortL_len hE]; rfl
  refine l_y (v := .bool true) S (y_eqT rfl rfl h111) ?_
  refine l_y (v := .bool true) S (y_as rfl) ?_
  refine l_nil ?_
  refine n_seq ?_
  refine e_ret ?_
  refine ret1 (v := .bool true) rfl rfl ?_
  exact ⟨rfl, S.below⟩
set_option maxRecDepth 100000 in
theorem LogSorted_lifted (os : Os) (started : os.Started) (H : Type) (enc : TypeId × Value → H) :
    ReturnsInHanded {} Try.checked os 14 .any (Rows.logSortedSpec.pre6 enc Try.prog Try.f14 Rows.logSortedRow.domain false) (Rows.logSortedSpec.post enc Try.prog Try.f14 false true false false) := by
  refine returnsInHanded_of_change_sized (C := Try.checked) own_ started (by kernel_rfl) Try.func14
    (ChangeSpec.witness6 (enc := enc) (C := Try.checked) false ⟨#[], #[.slice none 0 0, .slice none 0 0, .int .i64 0], []⟩ 8 (by kernel_rfl) (by kernel_rfl) (by kernel_rfl) (by kernel_rfl)) ?_
  intro W base args ds gs before hval0 hW _ hsz0 _
  have hval : ∀ (j : Nat) t v, Try.f14.params[j]? = some t → args[j]? = some v → Value.okWide Try.prog W .any base t v := hval0
  have hsz : (DataW.weightsEach Try.prog (Try.f14.params.toList ++ Rows.logSortedSpec.plain.varTypes Try.prog) (ds ++ gs)).all (· ≤ reachBytes) = true := hsz0
  have hW' := hW
  obtain ⟨p, q, hA0, hV, rfl, _, _⟩ := hW
  obtain ⟨rfl, rfl⟩ := trodVars_none hV
  have hA : DataW.TrodAll enc Try.prog W 0 (fun _ => true) true Try.f14.params.toList args.toList ds p := hA0
  rw [Try.params14] at hA hval hsz
  obtain ⟨v1, vs1, d1, ds1, p1, q1, e1, rfl, rfl, t1, r1⟩ := trodAll_cons hA
  obtain ⟨v2, vs2, d2, ds2, p2, q2, rfl, rfl, rfl, t2, r2⟩ := trodAll_cons r1
  obtain ⟨v3, vs3, d3, ds3, p3, q3, rfl, rfl, rfl, t3, r3⟩ := trodAll_cons r2
  obtain ⟨rfl, rfl, rfl⟩ := trodAll_nil r3
  obtain rfl : args = #[v1, v2, v3] := by cases args; simp_all
  obtain ⟨z1, hsz⟩ := weights_each hsz
  obtain ⟨z2, hsz⟩ := weights_each hsz
  obtain ⟨z3, hsz⟩ := weights_each hsz
  obtain ⟨a1, ha1, hb1⟩ := arg_slice Try.underlying23 op_clock (hval 0 _ v1 rfl rfl) t1 z1
  obtain ⟨a2, ha2, hb2⟩ := arg_slice Try.underlying48 op_upds (hval 1 _ v2 rfl rfl) t2 z2
  obtain ⟨n3, rfl, rfl, rfl, hw3⟩ := open_int Try.underlying3 (hval 2 _ v3 rfl rfl) t3
  refine (LogSorted_calls W v1 a1 ha1 hb1 v2 a2 ha2 hb2 n3 hw3).mono fun e W' ⟨he, hbl⟩ => ?_
  subst he
  exact ⟨_, rfl, close_law laidOut (by kernel_rfl) rfl (fun gs h => by subst h; rfl) rfl (tb := 4) Try.underlying4 hW' hbl⟩

theorem LogSorted_holds : Rows.LogSortedSaid :=
  OpenClaim.holds_of_wide 14 Try.f14 rfl rfl rfl rfl rfl rfl rfl ⟨rfl, rfl, rfl, rfl, rfl⟩ rfl rfl rfl rfl rfl (by kernel_rfl) Try.func14 (by kernel_rfl)
    (of_decide_eq_true (by kernel_rfl)) (by unfold Func.isWrapper; first | (rw [if_pos (by decide +kernel)]; kernel_rfl) | (rw [if_neg (by decide +kernel)]; exact ⟨rfl, rfl⟩))
    (fun os started H enc _ => LogSorted_lifted os started H enc)
#print axioms LogSorted_holds
end Go.Proofs.Ytkjknlnhffmkkaa
