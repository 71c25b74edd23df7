/- What is wrong with an update: the program's answer and the reference's. -/
import Derived.Test.YtkjknlnhffmkkaaQClock3
import Derived.Test.YtkjknlnhffmkkaaQPl
import Derived.Test.YtkjknlnhffmkkaaQTy
namespace Go.Proofs.Ytkjknlnhffmkkaa
open Go.RowKit
set_option linter.unusedVariables false
theorem atI_nth {l : List Int} {k : Nat} {z : Int} (h : l[k]? = some z) : atI l k = z := by
  unfold atI; rw [List.getD, h]; rfl
set_option maxRecDepth 100000 in
set_option maxHeartbeats 4000000 in
theorem UWrong_calls (v : Value) (u : Upd) (n : Int) (W : World) (h : AggR UpdR (wrd W) v u) :
    Calls Try.prog 21 #[v, (.int .i64 n)] W (fun e w' => e = .returned (.int .i64 (wrongU u n)) ∧ Below W.heap.size W w') := by
 obtain ⟨vs1, he, h⟩ := h; subst he; obtain ⟨sv2, he, h3⟩ := h; subst he; obtain ⟨A4, c5, rfl, m6, m6'⟩ := h3.val; have hmx : maxLen = 9223372036854775807 := rfl; have S : St [] W (wrd W) (wrd W) [] [] W := St.start (Rd.le_refl _); refine e_enter (args := [.agg (kU u A4 c5), ni n]) 69 Try.func21 rfl rfl rfl ?_; refine er (l_bx (u := .agg (kU u A4 c5)) (cs := (kU u A4 c5)) S rfl rfl fun g7 w8 S => ly (ni 0) S Ya (ln (e_seq (er (ly (pa g7 1) S (Yb FA32_1) (ly (sc A4 u.seen.length c5) S (yb1 0 T23) (ly (ni n) S Ym ?_))))))); refine l_c (en_f (vs := [sc A4 u.seen.length c5, ni n]) (CF 16 _) rfl rfl) (Wrong_calls _ _ _ _ (fm h3 S.le)) ?_; rintro e w9 ⟨rfl, rfl⟩; refine ckd (ly (ni (wrongC u.seen n)) S Ya (ln (er (ly (ni (wrongC u.seen n)) S Ym ?_)))); by_cases hC : wrongC u.seen n = 0
 ·
  refine ly (.bool false) S (y_neF rfl rfl hC) (ln (e_cF rfl (e_skip (n_seq (e_seq (e_blk (er (ly (pa g7 0) S (Yb FA32_0) (ly (ni u.author) S (yb1 0 T3) ?_))))))))); by_cases h10 : u.author < 0
  ·
   refine ly (.bool true) S (y_ltT rfl rfl h10) (ly (.bool true) S Ym (ls 17 (ls 17 (ls 17 (ls 17 (ly (.bool true) S Yt (ly (.bool true) S Ym (ls 23 (ls 23 (ls 23 (ls 23 (ls 23 (ls 23 (ls 23 (ly (.bool true) S Yt ?_))))))))))))))); refine ly (.bool true) S Ya (ln (e_cT rfl (er (ly (ni 3) S Ya (ln (e_ret ?_)))))); refine ret1 (v := ni 3) rfl rfl ?_; refine ⟨rint ?_, S.below⟩
   (unfold wrongU; repeat' split) <;> omega
  refine ly (.bool false) S (y_ltF rfl rfl h10) (ly (.bool false) S Ym (lg 17 (pa g7 0) S (Yb FA32_0) (lg 17 (ni u.author) S (yb1 0 T3) (lg 17 (ni n) S Ym ?_)))); by_cases h11 : n ≤ u.author
  ·
   refine lg 17 (.bool true) S (y_geT rfl rfl h11) (ly (.bool true) S Yf (ly (.bool true) S Ym (ls 23 (ls 23 (ls 23 (ls 23 (ls 23 (ls 23 (ls 23 (ly (.bool true) S Yt (ly (.bool true) S Ya (ln (e_cT rfl (e_seq ?_)))))))))))))); refine e_reg (ly (ni 3) S Ya (ln (e_ret ?_))); refine ret1 (v := ni 3) rfl rfl ?_; refine ⟨rint ?_, S.below⟩
   (unfold wrongU; repeat' split) <;> omega
  refine lg 17 (.bool false) S (y_geF rfl rfl h11) (ly (.bool false) S Yf (ly (.bool false) S Ym (lg 23 (pa g7 1) S (Yb FA32_1) (lg 23 (sc A4 u.seen.length c5) S (yb1 0 T23) (lg 23 (pa g7 0) S (Yb FA32_0) (lg 23 (ni u.author) S (yb1 0 T3) ?_)))))); have hw := wrongC_ok hC; obtain ⟨z12, hz13⟩ : ∃ z, (u.seen)[u.author.toNat]? = some z := nth_of (by first | assumption | omega); have ha := atI_nth hz13; have hb := hw.2.2.2 _ (List.mem_of_getElem? hz13); obtain ⟨p14, vs15, E16, nn17, r18, Y19⟩ := y_ia U23 SZ3 h3 hz13; clear nn17; have r18 : vs15 = [ni z12] := r18; subst r18; refine lg 23 p14 S (Y19 rfl rfl (by first | rfl | omega)) (lg 23 (ni z12) S (yp1 E16 T3) ?_); by_cases h20 : z12 = 1000
  ·
   refine lg 23 (.bool true) S (y_eqT rfl rfl h20) (ly (.bool true) S Yf (ly (.bool true) S Ya (ln (e_cT rfl (er (ly (ni 3) S Ya (ln (e_ret ?_)))))))); refine ret1 (v := ni 3) rfl rfl ?_; refine ⟨rint ?_, S.below⟩
   (unfold wrongU; repeat' split) <;> omega
  refine lg 23 (.bool false) S (y_eqF rfl rfl h20) (ly (.bool false) S Yf (ly (.bool false) S Ya (ln (e_cF rfl (er (ly (pa g7 2) S (Yb FA32_2) (ly (ni u.kind) S (yb1 0 T3) ?_))))))); by_cases h21 : u.kind < 1
  ·
   refine ly (.bool true) S (y_ltT rfl rfl h21) (ly (.bool true) S Ym (ls 36 (ls 36 (ls 36 (ly (.bool true) S Yt (ly (.bool true) S Ya (ln (e_cT rfl (er (ly (ni 1) S Ya (ln (e_ret ?_)))))))))))); refine ret1 (v := ni 1) rfl rfl ?_; refine ⟨rint ?_, S.below⟩
   (unfold wrongU; repeat' split) <;> omega
  refine ly (.bool false) S (y_ltF rfl rfl h21) (ly (.bool false) S Ym (lg 36 (pa g7 2) S (Yb FA32_2) (lg 36 (ni u.kind) S (yb1 0 T3) ?_))); by_cases h22 : 5 < u.kind
  ·
   refine lg 36 (.bool true) S (y_gtT rfl rfl h22) (ly (.bool true) S Yf (ly (.bool true) S Ya (ln (e_cT rfl (er (ly (ni 1) S Ya (ln (e_ret ?_)))))))); refine ret1 (v := ni 1) rfl rfl ?_; refine ⟨rint ?_, S.below⟩
   (unfold wrongU; repeat' split) <;> omega
  refine lg 36 (.bool false) S (y_gtF rfl rfl h22) (ly (.bool false) S Yf (ly (.bool false) S Ya (ln (e_cF rfl (er (ly (pa g7 3) S (Yb FA32_3) (ly (ni u.key) S (yb1 0 T3) ?_))))))); by_cases h23 : u.key < 0
  ·
   refine ly (.bool true) S (y_ltT rfl rfl h23) (ly (.bool true) S Ym (ls 45 (ls 45 (ls 45 (ly (.bool true) S Yt (ly (.bool true) S Ym (ls 50 (ls 50 (ls 50 (ly (.bool true) S Yt (ly (.bool true) S Ym (ls 55 (ls 55 (ls 55 (ly (.bool true) S Yt ?_))))))))))))))); refine ly (.bool true) S Ya (ln (e_cT rfl (er (ly (ni 3) S Ya (ln (e_ret ?_)))))); refine ret1 (v := ni 3) rfl rfl ?_; refine ⟨rint ?_, S.below⟩
   (unfold wrongU; repeat' split) <;> omega
  refine ly (.bool false) S (y_ltF rfl rfl h23) (ly (.bool false) S Ym (lg 45 (pa g7 3) S (Yb FA32_3) (lg 45 (ni u.key) S (yb1 0 T3) ?_))); by_cases h24 : 15 < u.key
  ·
   refine lg 45 (.bool true) S (y_gtT rfl rfl h24) (ly (.bool true) S Yf (ly (.bool true) S Ym (ls 50 (ls 50 (ls 50 (ly (.bool true) S Yt (ly (.bool true) S Ym (ls 55 (ls 55 (ls 55 (ly (.bool true) S Yt (ly (.bool true) S Ya (ln (e_cT rfl ?_)))))))))))))); refine er (ly (ni 3) S Ya (ln (e_ret ?_))); refine ret1 (v := ni 3) rfl rfl ?_; refine ⟨rint ?_, S.below⟩
   (unfold wrongU; repeat' split) <;> omega
  refine lg 45 (.bool false) S (y_gtF rfl rfl h24) (ly (.bool false) S Yf (ly (.bool false) S Ym (lg 50 (pa g7 4) S (Yb FA32_4) (lg 50 (ni u.item) S (yb1 0 T3) ?_)))); by_cases h25 : u.item < (-1000)
  ·
   refine lg 50 (.bool true) S (y_ltT rfl rfl h25) (ly (.bool true) S Yf (ly (.bool true) S Ym (ls 55 (ls 55 (ls 55 (ly (.bool true) S Yt (ly (.bool true) S Ya (ln (e_cT rfl (er (ly (ni 3) S Ya (ln ?_)))))))))))); refine e_ret ?_; refine ret1 (v := ni 3) rfl rfl ?_; refine ⟨rint ?_, S.below⟩
   (unfold wrongU; repeat' split) <;> omega
  refine lg 50 (.bool false) S (y_ltF rfl rfl h25) (ly (.bool false) S Yf (ly (.bool false) S Ym (lg 55 (pa g7 4) S (Yb FA32_4) (lg 55 (ni u.item) S (yb1 0 T3) ?_)))); by_cases h26 : 1000 < u.item
  ·
   refine lg 55 (.bool true) S (y_gtT rfl rfl h26) (ly (.bool true) S Yf (ly (.bool true) S Ya (ln (e_cT rfl (er (ly (ni 3) S Ya (ln (e_ret ?_)))))))); refine ret1 (v := ni 3) rfl rfl ?_; refine ⟨rint ?_, S.below⟩
   (unfold wrongU; repeat' split) <;> omega
  refine lg 55 (.bool false) S (y_gtF rfl rfl h26) (ly (.bool false) S Yf (ly (.bool false) S Ya (ln (e_cF rfl (er (ly (pa g7 2) S (Yb FA32_2) (ly (ni u.kind) S (yb1 0 T3) ?_))))))); by_cases h27 : u.kind = 2
  ·
   refine ly (.bool true) S (y_eqT rfl rfl h27) (ly (.bool true) S Ym (lg 64 (pa g7 4) S (Yb FA32_4) (lg 64 (ni u.item) S (yb1 0 T3) ?_))); by_cases h28 : u.item = 0
   ·
    refine lg 64 (.bool false) S (y_neF rfl rfl h28) (ly (.bool false) S Yt (ly (.bool false) S Ya (ln (e_cF rfl (e_skip (n_blk (n_seq (er (ly (ni 0) S Ya (ln (e_ret ?_))))))))))); refine ret1 (v := ni 0) rfl rfl ?_; refine ⟨rint ?_, S.below⟩
    (unfold wrongU; repeat' split) <;> omega
   refine lg 64 (.bool true) S (y_neT rfl rfl h28) (ly (.bool true) S Yt (ly (.bool true) S Ya (ln (e_cT rfl (er (ly (ni 2) S Ya (ln (e_ret ?_)))))))); refine ret1 (v := ni 2) rfl rfl ?_; refine ⟨rint ?_, S.below⟩
   (unfold wrongU; repeat' split) <;> omega
  refine ly (.bool false) S (y_eqF rfl rfl h27) (ly (.bool false) S Ym (ls 64 (ls 64 (ls 64 (ly (.bool false) S Yf (ly (.bool false) S Ya (ln (e_cF rfl (e_skip (n_blk (n_seq (er (ly (ni 0) S Ya ?_))))))))))))); refine ln (e_ret ?_); refine ret1 (v := ni 0) rfl rfl ?_; refine ⟨rint ?_, S.below⟩
  (unfold wrongU; repeat' split) <;> omega
 refine ly (.bool true) S (y_neT rfl rfl hC) (ln (e_cT rfl (er (ly (ni (wrongC u.seen n)) S Ym (ly (ni (wrongC u.seen n)) S Ya (ln (e_ret ?_))))))); refine ret1 (v := ni (wrongC u.seen n)) rfl rfl ?_; refine ⟨rint ?_, S.below⟩
 (unfold wrongU; repeat' split) <;> omega
end Go.Proofs.Ytkjknlnhffmkkaa
