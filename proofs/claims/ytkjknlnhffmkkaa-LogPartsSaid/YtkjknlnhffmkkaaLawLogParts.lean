/- LogParts: one part behind the other. For every input; no condition. -/
import Derived.Test.YtkjknlnhffmkkaaAlive3
import Derived.Test.YtkjknlnhffmkkaaLogQ
import Derived.Test.YtkjknlnhffmkkaaTy
import Derived.Test.YtkjknlnhffmkkaaFault
import Derived.Test.YtkjknlnhffmkkaaAdapt
namespace Go.Proofs.Ytkjknlnhffmkkaa
open Go.ChangeShapes Go.WideShapes Go.ChangeAt Go.RowKit
set_option linter.unusedVariables false
theorem fault_t {x y : List Int × Int × Int} (h : x = y) (w : World) : (binOp .eql 50 (.agg #[.int .i64 x.2.1, .int .i64 x.2.2]) (.agg #[.int .i64 y.2.1, .int .i64 y.2.2])).run Try.prog w = .ok (.bool true) w := by
  subst h; rw [fault_eq]; simp
set_option maxRecDepth 100000 in
set_option maxHeartbeats 8000000 in
theorem LogParts_calls (W : World) (v1 : Value) (base : List Int) (h1 : IntsR (wrd W) v1 base) (b1 : ClockBd base) (v2 : Value) (l : List Upd) (h2 : UpdsR (wrd W) v2 l) (b2 : UpdsBd l) (n : Int) (w3 : (Lit.int .i64 n).wf = true) (at_ : Int) (w4 : (Lit.int .i64 at_).wf = true) :
    Calls Try.prog 10 #[v1, v2, (.int .i64 n), (.int .i64 at_)] W (fun e w' => e = .returned (.bool true) ∧ Below W.heap.size W w') := by
  obtain ⟨A1, c2, rfl, m3, m3'⟩ := h1.val
  obtain ⟨A4, c5, rfl, m6, m6'⟩ := h2.val
  have q0 := b2.1; have hrb := reachBytes_lt; obtain ⟨p0, p1, p2⟩ := clockL_place (base := base) (l := l) (n := n)
  have S : St W (wrd W) (wrd W) [] [] W := St.start (Rd.le_refl _)
  refine e_enter (args := [.slice A1 base.length c2, .slice A4 l.length c5, .int .i64 n, .int .i64 at_]) 91 Try.func10 rfl rfl rfl ?_
  refine e_seq ?_
  refine e_reg ?_
  refine l_y (v := .bool false) S (y_as rfl) ?_
  refine l_nil ?_
  refine n_seq ?_
  refine e_seq ?_
  refine e_seq ?_
  refine e_reg ?_
  refine l_c (en_f (vs := []) (CF 36 _) rfl rfl) (alive3_calls _) ?_
  rintro e w7 ⟨rfl, k⟩
  have S := S.callq k; clear k
  refine ckd ?_
  refine l_y (v := .bool false) S (y_not rfl rfl) ?_
  refine l_nil ?_
  refine n_seq ?_
  refine e_cF rfl ?_
  refine e_skip ?_
  refine n_seq ?_
  refine e_seq ?_
  refine e_reg ?_
  refine l_y (v := .slice A1 base.length c2) S (y_mv rfl) ?_
  refine l_y (v := .slice A4 l.length c5) S (y_mv rfl) ?_
  refine l_y (v := .int .i64 n) S (y_mv rfl) ?_
  refine l_c (en_f (vs := [.slice A1 base.length c2, .slice A4 l.length c5, .int .i64 n]) (CF 37 _) rfl rfl) (Clock_calls _ _ _ _ _ _ (fm h1 S.le) (fm h2 S.le)) ?_
  rintro e w10 ⟨r8, rfl, h9, k⟩
  obtain ⟨rd11, S, L12, N13, X14⟩ := S.call' k; clear k
  have h1 := fm h1 L12
  have h2 := fm h2 L12
  have h9 := fm h9 N13
  obtain ⟨A15, c16, rfl, m17, m17'⟩ := h9.val
  refine ckd ?_
  refine l_y (v := .tuple #[.slice A15 (((clockL base l n).1).length) c16, .agg #[.int .i64 ((clockL base l n).2.1), .int .i64 ((clockL base l n).2.2)]]) S (y_mv rfl) ?_
  refine l_y (v := .slice A15 (((clockL base l n).1).length) c16) S (y_ex rfl rfl) ?_
  refine l_y (v := .agg #[.int .i64 ((clockL base l n).2.1), .int .i64 ((clockL base l n).2.2)]) S (y_ex rfl rfl) ?_
  refine l_al (cs := #[.int .i64 0, .int .i64 0]) S Z50 rfl fun g18 w19 S => ?_
  refine l_y (v := .slice A15 (((clockL base l n).1).length) c16) S (y_as rfl) ?_
  refine l_st (u := .agg #[.int .i64 ((clockL base l n).2.1), .int .i64 ((clockL base l n).2.2)]) (i := 0) (cs' := #[.int .i64 ((clockL base l n).2.1), .int .i64 ((clockL base l n).2.2)]) S rfl rfl rfl SZ50 rfl rfl rfl fun w20 S => ?_
  refine l_nil ?_
  refine n_seq ?_
  refine e_seq ?_
  refine e_seq ?_
  refine e_reg ?_
  refine l_y (v := .int .i64 at_) S (y_mv rfl) ?_
  by_cases hA0 : at_ < 0
  · -- hA0 yes
    refine l_y (v := .bool true) S (y_ltT rfl rfl hA0) ?_
    refine l_y (v := .bool true) S (y_mv rfl) ?_
    refine l_s (d' := 26) rfl rfl ?_
    refine l_s (d' := 26) rfl rfl ?_
    refine l_s (d' := 26) rfl rfl ?_
    refine l_s (d' := 26) rfl rfl ?_
    refine l_y (v := .bool true) S (y_pT rfl rfl) ?_
    refine l_y (v := .bool true) S (y_mv rfl) ?_
    refine l_s (d' := 32) rfl rfl ?_
    refine l_s (d' := 32) rfl rfl ?_
    refine l_s (d' := 32) rfl rfl ?_
    refine l_y (v := .bool true) S (y_pT rfl rfl) ?_
    refine l_nil ?_
    refine n_seq ?_
    refine e_cT rfl ?_
    refine e_seq ?_
    refine e_reg ?_
    refine l_y (v := .bool true) S (y_as rfl) ?_
    refine l_nil ?_
    refine n_seq ?_
    refine e_ret ?_
    refine ret1 rfl rfl ?_
    exact ⟨rfl, S.below⟩
  · -- hA0 no
    refine l_y (v := .bool false) S (y_ltF rfl rfl hA0) ?_
    refine l_y (v := .bool false) S (y_mv rfl) ?_
    refine l_g (d' := 26) (v := .int .i64 at_) S (y_mv rfl) rfl rfl ?_
    refine l_g (d' := 26) (v := .slice A4 l.length c5) S (y_mv rfl) rfl rfl ?_
    refine l_g (d' := 26) (v := .int .i64 (l.length : Int)) S (y_len U48 rfl rfl) rfl rfl ?_
    by_cases hA1 : (l.length : Int) < at_
    · -- hA1 yes
      refine l_g (d' := 26) (v := .bool true) S (y_gtT rfl rfl hA1) rfl rfl ?_
      refine l_y (v := .bool true) S (y_pF rfl rfl) ?_
      refine l_y (v := .bool true) S (y_mv rfl) ?_
      refine l_s (d' := 32) rfl rfl ?_
      refine l_s (d' := 32) rfl rfl ?_
      refine l_s (d' := 32) rfl rfl ?_
      refine l_y (v := .bool true) S (y_pT rfl rfl) ?_
      refine l_nil ?_
      refine n_seq ?_
      refine e_cT rfl ?_
      refine e_seq ?_
      refine e_reg ?_
      refine l_y (v := .bool true) S (y_as rfl) ?_
      refine l_nil ?_
      refine n_seq ?_
      refine e_ret ?_
      refine ret1 rfl rfl ?_
      exact ⟨rfl, S.below⟩
    · -- hA1 no
      refine l_g (d' := 26) (v := .bool false) S (y_gtF rfl rfl hA1) rfl rfl ?_
      refine l_y (v := .bool false) S (y_pF rfl rfl) ?_
      refine l_y (v := .bool false) S (y_mv rfl) ?_
      refine l_g (d' := 32) (v := .pointer (some ⟨g18, 0, none⟩)) S (y_fb FA50_0 rfl rfl) rfl rfl ?_
      refine l_g (d' := 32) (v := .int .i64 ((clockL base l n).2.1)) S (y_ld rfl (fun w S => ld_b1 (i := 0) S rfl rfl T25)) rfl rfl ?_
      by_cases h5 : (clockL base l n).2.1 = 5
      · -- h5 yes
        refine l_g (d' := 32) (v := .bool true) S (y_eqT rfl rfl h5) rfl rfl ?_
        refine l_y (v := .bool true) S (y_pF rfl rfl) ?_
        refine l_nil ?_
        refine n_seq ?_
        refine e_cT rfl ?_
        refine e_seq ?_
        refine e_reg ?_
        refine l_y (v := .bool true) S (y_as rfl) ?_
        refine l_nil ?_
        refine n_seq ?_
        refine e_ret ?_
        refine ret1 rfl rfl ?_
        exact ⟨rfl, S.below⟩
      · -- h5 no
        refine l_g (d' := 32) (v := .bool false) S (y_eqF rfl rfl h5) rfl rfl ?_
        refine l_y (v := .bool false) S (y_pF rfl rfl) ?_
        refine l_nil ?_
        refine n_seq ?_
        refine e_cF rfl ?_
        refine e_skip ?_
        refine n_seq ?_
        refine e_seq ?_
        refine e_reg ?_
        refine l_y (v := .slice A1 base.length c2) S (y_mv rfl) ?_
        refine l_y (v := .slice A4 l.length c5) S (y_mv rfl) ?_
        refine l_y (v := .int .i64 at_) S (y_mv rfl) ?_
        obtain ⟨A21, c22, F23, Y24⟩ := y_sl (lo := 0) (hi := at_.toNat) U48 SZ32 h2 (by omega) (by first | exact Nat.le_refl _ | omega)
        rw [List.drop_zero] at F23
        refine l_y (v := .slice A21 (at_.toNat - 0) c22) S (Y24 rfl (.inl ⟨rfl, rfl⟩) (.inr ⟨_, _, _, rfl, rfl, (by first | rfl | omega)⟩)) ?_
        refine l_y (v := .int .i64 n) S (y_mv rfl) ?_
        refine l_c (en_f (vs := [.slice A1 base.length c2, .slice A21 (at_.toNat - 0) c22, .int .i64 n]) (CF 37 _) rfl rfl) (Clock_calls _ _ _ _ _ _ (fm h1 S.le) (fm F23 S.le)) ?_
        rintro e w27 ⟨r25, rfl, h26, k⟩
        obtain ⟨rd28, S, L29, N30, X31⟩ := S.call' k; clear k
        have h1 := fm h1 L29
        have h2 := fm h2 L29
        have h9 := fm h9 L29
        have F23 := fm F23 L29
        have h26 := fm h26 N30
        obtain ⟨A32, c33, rfl, m34, m34'⟩ := h26.val
        refine ckd ?_
        refine l_y (v := .tuple #[.slice A32 (((clockL base ((l).take at_.toNat) n).1).length) c33, .agg #[.int .i64 ((clockL base ((l).take at_.toNat) n).2.1), .int .i64 ((clockL base ((l).take at_.toNat) n).2.2)]]) S (y_mv rfl) ?_
        refine l_y (v := .slice A32 (((clockL base ((l).take at_.toNat) n).1).length) c33) S (y_ex rfl rfl) ?_
        refine l_y (v := .agg #[.int .i64 ((clockL base ((l).take at_.toNat) n).2.1), .int .i64 ((clockL base ((l).take at_.toNat) n).2.2)]) S (y_ex rfl rfl) ?_
        refine l_al (cs := #[.int .i64 0, .int .i64 0]) S Z50 rfl fun g35 w36 S => ?_
        refine l_y (v := .slice A32 (((clockL base ((l).take at_.toNat) n).1).length) c33) S (y_as rfl) ?_
        refine l_st (u := .agg #[.int .i64 ((clockL base ((l).take at_.toNat) n).2.1), .int .i64 ((clockL base ((l).take at_.toNat) n).2.2)]) (i := 1) (cs' := #[.int .i64 ((clockL base ((l).take at_.toNat) n).2.1), .int .i64 ((clockL base ((l).take at_.toNat) n).2.2)]) S rfl rfl rfl SZ50 rfl rfl rfl fun w37 S => ?_
        refine l_nil ?_
        refine n_seq ?_
        refine e_seq ?_
        refine e_seq ?_
        refine e_reg ?_
        refine l_y (v := .pointer (some ⟨g35, 0, none⟩)) S (y_fb FA50_0 rfl rfl) ?_
        refine l_y (v := .int .i64 ((clockL base ((l).take at_.toNat) n).2.1)) S (y_ld rfl (fun w S => ld_b1 (i := 1) S rfl rfl T25)) ?_
        by_cases hG : (clockL base ((l).take at_.toNat) n).2.1 = 0
        · -- hG yes
          refine l_y (v := .bool false) S (y_neF rfl rfl hG) ?_
          refine l_nil ?_
          refine n_seq ?_
          refine e_cF rfl ?_
          refine e_skip ?_
          refine n_seq ?_
          refine e_seq ?_
          refine e_reg ?_
          have hPO := parts_ok (k := at_.toNat) (by omega) h5 hG
          refine l_y (v := .slice A32 (((clockL base ((l).take at_.toNat) n).1).length) c33) S (y_mv rfl) ?_
          refine l_y (v := .slice A4 l.length c5) S (y_mv rfl) ?_
          refine l_y (v := .int .i64 at_) S (y_mv rfl) ?_
          obtain ⟨A38, c39, F40, Y41⟩ := y_sl (lo := at_.toNat) (hi := l.length) U48 SZ32 h2 (by omega) (by first | exact Nat.le_refl _ | omega)
          rw [List.take_length] at F40
          refine l_y (v := .slice A38 (l.length - at_.toNat) c39) S (Y41 rfl (.inr ⟨_, _, _, rfl, rfl, (by first | rfl | omega)⟩) (.inl ⟨rfl, rfl⟩)) ?_
          refine l_y (v := .int .i64 n) S (y_mv rfl) ?_
          refine l_c (en_f (vs := [.slice A32 (((clockL base ((l).take at_.toNat) n).1).length) c33, .slice A38 (l.length - at_.toNat) c39, .int .i64 n]) (CF 37 _) rfl rfl) (Clock_calls _ _ _ _ _ _ (fm h26 S.le) (fm F40 S.le)) ?_
          rintro e w44 ⟨r42, rfl, h43, k⟩
          obtain ⟨rd45, S, L46, N47, X48⟩ := S.call' k; clear k
          have h1 := fm h1 L46
          have h2 := fm h2 L46
          have h9 := fm h9 L46
          have F23 := fm F23 L46
          have h26 := fm h26 L46
          have F40 := fm F40 L46
          have h43 := fm h43 N47
          obtain ⟨A49, c50, rfl, m51, m51'⟩ := h43.val
          refine ckd ?_
          refine l_y (v := .tuple #[.slice A49 (((clockL ((clockL base ((l).take at_.toNat) n).1) ((l).drop at_.toNat) n).1).length) c50, .agg #[.int .i64 ((clockL ((clockL base ((l).take at_.toNat) n).1) ((l).drop at_.toNat) n).2.1), .int .i64 ((clockL ((clockL base ((l).take at_.toNat) n).1) ((l).drop at_.toNat) n).2.2)]]) S (y_mv rfl) ?_
          refine l_y (v := .slice A49 (((clockL ((clockL base ((l).take at_.toNat) n).1) ((l).drop at_.toNat) n).1).length) c50) S (y_ex rfl rfl) ?_
          refine l_y (v := .agg #[.int .i64 ((clockL ((clockL base ((l).take at_.toNat) n).1) ((l).drop at_.toNat) n).2.1), .int .i64 ((clockL ((clockL base ((l).take at_.toNat) n).1) ((l).drop at_.toNat) n).2.2)]) S (y_ex rfl rfl) ?_
          refine l_al (cs := #[.int .i64 0, .int .i64 0]) S Z50 rfl fun g52 w53 S => ?_
          refine l_y (v := .slice A49 (((clockL ((clockL base ((l).take at_.toNat) n).1) ((l).drop at_.toNat) n).1).length) c50) S (y_as rfl) ?_
          refine l_st (u := .agg #[.int .i64 ((clockL ((clockL base ((l).take at_.toNat) n).1) ((l).drop at_.toNat) n).2.1), .int .i64 ((clockL ((clockL base ((l).take at_.toNat) n).1) ((l).drop at_.toNat) n).2.2)]) (i := 2) (cs' := #[.int .i64 ((clockL ((clockL base ((l).take at_.toNat) n).1) ((l).drop at_.toNat) n).2.1), .int .i64 ((clockL ((clockL base ((l).take at_.toNat) n).1) ((l).drop at_.toNat) n).2.2)]) S rfl rfl rfl SZ50 rfl rfl rfl fun w54 S => ?_
          refine l_nil ?_
          refine n_seq ?_
          refine e_seq ?_
          refine e_seq ?_
          refine e_reg ?_
          refine l_y (v := .pointer (some ⟨g18, 0, none⟩)) S (y_fb FA50_0 rfl rfl) ?_
          refine l_y (v := .int .i64 ((clockL base l n).2.1)) S (y_ld rfl (fun w S => ld_b1 (i := 0) S rfl rfl T25)) ?_
          by_cases hE : (clockL base l n).2.1 = 0
          · -- hE yes
            refine l_y (v := .bool false) S (y_neF rfl rfl hE) ?_
            refine l_nil ?_
            refine n_seq ?_
            refine e_cF rfl ?_
            refine e_skip ?_
            refine n_seq ?_
            refine e_seq ?_
            refine e_reg ?_
            refine l_y (v := .pointer (some ⟨g52, 0, none⟩)) S (y_fb FA50_0 rfl rfl) ?_
            refine l_y (v := .int .i64 ((clockL ((clockL base ((l).take at_.toNat) n).1) ((l).drop at_.toNat) n).2.1)) S (y_ld rfl (fun w S => ld_b1 (i := 2) S rfl rfl T25)) ?_
            have h55 : (clockL ((clockL base ((l).take at_.toNat) n).1) ((l).drop at_.toNat) n).2.1 = 0 := hPO.2.1.trans hE
            refine l_y (v := .bool true) S (y_eqT rfl rfl h55) ?_
            refine l_y (v := .bool true) S (y_mv rfl) ?_
            refine l_g (d' := 81) (v := .slice A49 (((clockL ((clockL base ((l).take at_.toNat) n).1) ((l).drop at_.toNat) n).1).length) c50) S (y_mv rfl) rfl rfl ?_
            refine l_g (d' := 81) (v := .slice A15 (((clockL base l n).1).length) c16) S (y_mv rfl) rfl rfl ?_
            refine l_cg (d' := 81) (en_f (vs := [.slice A49 (((clockL ((clockL base ((l).take at_.toNat) n).1) ((l).drop at_.toNat) n).1).length) c50, .slice A15 (((clockL base l n).1).length) c16]) (CF 18 _) rfl rfl) rfl rfl (Same_calls _ _ _ _ _ (fm h43 S.le) (fm h9 S.le)) ?_
            rintro e w56 ⟨rfl, k⟩
            have S := S.callq k; clear k
            have b57 : sameL ((clockL ((clockL base ((l).take at_.toNat) n).1) ((l).drop at_.toNat) n).1) ((clockL base l n).1) = true := by rw [hPO.1]; simp [sameL]
            rw [b57]
            refine ckd ?_
            refine l_y (v := .bool true) S (y_pT rfl rfl) ?_
            refine l_y (v := .bool true) S (y_mv rfl) ?_
            have q1 := (clockL_len hE).2; have q2 := (clockL_len hG).2
            refine l_g (d' := 86) (v := .slice A15 (((clockL base l n).1).length) c16) S (y_mv rfl) rfl rfl ?_
            refine l_g (d' := 86) (v := .slice A32 (((clockL base ((l).take at_.toNat) n).1).length) c33) S (y_mv rfl) rfl rfl ?_
            refine l_cg (d' := 86) (en_f (vs := [.slice A15 (((clockL base l n).1).length) c16, .slice A32 (((clockL base ((l).take at_.toNat) n).1).length) c33]) (CF 17 _) rfl rfl) rfl rfl (Sees_calls _ _ _ _ _ (fm h9 S.le) (fm h26 S.le) (by omega)) ?_
            rintro e w58 ⟨rfl, k⟩
            have S := S.callq k; clear k
            have b59 : seesC ((clockL base l n).1) ((clockL base ((l).take at_.toNat) n).1) = true := hPO.2.2.2 hE
            rw [b59]
            refine ckd ?_
            refine l_y (v := .bool true) S (y_pT rfl rfl) ?_
            refine l_y (v := .bool true) S (y_as rfl) ?_
            refine l_nil ?_
            refine n_seq ?_
            refine e_ret ?_
            refine ret1 rfl rfl ?_
            exact ⟨rfl, S.below⟩
          · -- hE no
            refine l_y (v := .bool true) S (y_neT rfl rfl hE) ?_
            refine l_nil ?_
            refine n_seq ?_
            refine e_cT rfl ?_
            refine e_seq ?_
            refine e_reg ?_
            refine l_y (v := .pointer (some ⟨g52, 0, none⟩)) S (y_fb FA50_0 rfl rfl) ?_
            refine l_y (v := .int .i64 ((clockL ((clockL base ((l).take at_.toNat) n).1) ((l).drop at_.toNat) n).2.1)) S (y_ld rfl (fun w S => ld_b1 (i := 2) S rfl rfl T25)) ?_
            refine l_y (v := .pointer (some ⟨g18, 0, none⟩)) S (y_fb FA50_0 rfl rfl) ?_
            refine l_y (v := .int .i64 ((clockL base l n).2.1)) S (y_ld rfl (fun w S => ld_b1 (i := 0) S rfl rfl T25)) ?_
            have h60 : (clockL ((clockL base ((l).take at_.toNat) n).1) ((l).drop at_.toNat) n).2.1 = (clockL base l n).2.1 := hPO.2.1
            refine l_y (v := .bool true) S (y_eqT rfl rfl h60) ?_
            refine l_y (v := .bool true) S (y_mv rfl) ?_
            refine l_g (d' := 69) (v := .pointer (some ⟨g52, 1, none⟩)) S (y_fb FA50_1 rfl rfl) rfl rfl ?_
            refine l_g (d' := 69) (v := .int .i64 ((clockL ((clockL base ((l).take at_.toNat) n).1) ((l).drop at_.toNat) n).2.2)) S (y_ld rfl (fun w S => ld_b1 (i := 2) S rfl rfl T3)) rfl rfl ?_
            refine l_g (d' := 69) (v := .pointer (some ⟨g18, 1, none⟩)) S (y_fb FA50_1 rfl rfl) rfl rfl ?_
            refine l_g (d' := 69) (v := .int .i64 ((clockL base l n).2.2)) S (y_ld rfl (fun w S => ld_b1 (i := 0) S rfl rfl T3)) rfl rfl ?_
            refine l_g (d' := 69) (v := .int .i64 at_) S (y_mv rfl) rfl rfl ?_
            refine l_g (d' := 69) (v := .int .i64 (((clockL base l n).2.2) - at_)) S (y_sub (r := ((clockL base l n).2.2) - at_) rfl rfl (w64 (by omega) (by omega))) rfl rfl ?_
            have h61 : (clockL ((clockL base ((l).take at_.toNat) n).1) ((l).drop at_.toNat) n).2.2 = ((clockL base l n).2.2) - at_ := by have := hPO.2.2.1 hE; omega
            refine l_g (d' := 69) (v := .bool true) S (y_eqT rfl rfl h61) rfl rfl ?_
            refine l_y (v := .bool true) S (y_pT rfl rfl) ?_
            refine l_y (v := .bool true) S (y_as rfl) ?_
            refine l_nil ?_
            refine n_seq ?_
            refine e_ret ?_
            refine ret1 rfl rfl ?_
            exact ⟨rfl, S.below⟩
        · -- hG no
          refine l_y (v := .bool true) S (y_neT rfl rfl hG) ?_
          refine l_nil ?_
          refine n_seq ?_
          refine e_cT rfl ?_
          refine e_seq ?_
          refine e_reg ?_
          have hPB := parts_bad h5 hG
          refine l_y (v := .agg #[.int .i64 ((clockL base l n).2.1), .int .i64 ((clockL base l n).2.2)]) S (y_ld rfl (fun w S => ld_bA (vs := [.int .i64 ((clockL base l n).2.1), .int .i64 ((clockL base l n).2.2)]) (i := 0) S rfl T50 rfl rfl)) ?_
          refine l_y (v := .agg #[.int .i64 ((clockL base ((l).take at_.toNat) n).2.1), .int .i64 ((clockL base ((l).take at_.toNat) n).2.2)]) S (y_ld rfl (fun w S => ld_bA (vs := [.int .i64 ((clockL base ((l).take at_.toNat) n).2.1), .int .i64 ((clockL base ((l).take at_.toNat) n).2.2)]) (i := 1) S rfl T50 rfl rfl)) ?_
          refine l_y (v := .bool true) S (y_eqa (fun _ _ _ => by kernel_rfl) (fun w => fault_t hPB w) rfl rfl) ?_
          refine l_y (v := .bool true) S (y_as rfl) ?_
          refine l_nil ?_
          refine n_seq ?_
          refine e_ret ?_
          refine ret1 rfl rfl ?_
          exact ⟨rfl, S.below⟩
set_option maxRecDepth 100000 in
theorem LogParts_lifted (os : Os) (started : os.Started) (H : Type) (enc : TypeId × Value → H) :
    ReturnsInHanded {} Try.checked os 10 .any (Rows.logPartsSpec.pre6 enc Try.prog Try.f10 Rows.logPartsRow.domain false) (Rows.logPartsSpec.post enc Try.prog Try.f10 false true false false) := by
  refine returnsInHanded_of_change_sized (C := Try.checked) own_ started (by kernel_rfl) Try.func10
    (ChangeSpec.witness6 (enc := enc) (C := Try.checked) false ⟨#[], #[.slice none 0 0, .slice none 0 0, .int .i64 0, .int .i64 0], []⟩ 8 (by kernel_rfl) (by kernel_rfl) (by kernel_rfl) (by kernel_rfl)) ?_
  intro W base args ds gs before hval0 hW _ hsz0 _
  have hval : ∀ (j : Nat) t v, Try.f10.params[j]? = some t → args[j]? = some v → Value.okWide Try.prog W .any base t v := hval0
  have hsz : (DataW.weightsEach Try.prog (Try.f10.params.toList ++ Rows.logPartsSpec.plain.varTypes Try.prog) (ds ++ gs)).all (· ≤ reachBytes) = true := hsz0
  have hW' := hW
  obtain ⟨p, q, hA0, hV, rfl, _, _⟩ := hW
  obtain ⟨rfl, rfl⟩ := trodVars_none hV
  have hA : DataW.TrodAll enc Try.prog W 0 (fun _ => true) true Try.f10.params.toList args.toList ds p := hA0
  rw [Try.params10] at hA hval hsz
  obtain ⟨v1, vs1, d1, ds1, p1, q1, e1, rfl, rfl, t1, r1⟩ := trodAll_cons hA
  obtain ⟨v2, vs2, d2, ds2, p2, q2, rfl, rfl, rfl, t2, r2⟩ := trodAll_cons r1
  obtain ⟨v3, vs3, d3, ds3, p3, q3, rfl, rfl, rfl, t3, r3⟩ := trodAll_cons r2
  obtain ⟨v4, vs4, d4, ds4, p4, q4, rfl, rfl, rfl, t4, r4⟩ := trodAll_cons r3
  obtain ⟨rfl, rfl, rfl⟩ := trodAll_nil r4
  obtain rfl : args = #[v1, v2, v3, v4] := by cases args; simp_all
  obtain ⟨z1, hsz⟩ := weights_each hsz
  obtain ⟨z2, hsz⟩ := weights_each hsz
  obtain ⟨z3, hsz⟩ := weights_each hsz
  obtain ⟨z4, hsz⟩ := weights_each hsz
  obtain ⟨a1, ha1, hb1⟩ := arg_slice Try.underlying23 op_clock (hval 0 _ v1 rfl rfl) t1 z1
  obtain ⟨a2, ha2, hb2⟩ := arg_slice Try.underlying48 op_upds (hval 1 _ v2 rfl rfl) t2 z2
  obtain ⟨n3, rfl, rfl, rfl, hw3⟩ := open_int Try.underlying3 (hval 2 _ v3 rfl rfl) t3
  obtain ⟨n4, rfl, rfl, rfl, hw4⟩ := open_int Try.underlying3 (hval 3 _ v4 rfl rfl) t4
  refine (LogParts_calls W v1 a1 ha1 hb1 v2 a2 ha2 hb2 n3 hw3 n4 hw4).mono fun e W' ⟨he, hbl⟩ => ?_
  subst he
  exact ⟨_, rfl, close_law laidOut (by kernel_rfl) rfl (fun gs h => by subst h; rfl) rfl (tb := 4) Try.underlying4 hW' hbl⟩

theorem LogParts_holds : Rows.LogPartsSaid :=
  OpenClaim.holds_of_wide 10 Try.f10 rfl rfl rfl rfl rfl rfl rfl ⟨rfl, rfl, rfl, rfl, rfl⟩ rfl rfl rfl rfl rfl (by kernel_rfl) Try.func10 (by kernel_rfl)
    (of_decide_eq_true (by kernel_rfl)) (by unfold Func.isWrapper; first | (rw [if_pos (by decide +kernel)]; kernel_rfl) | (rw [if_neg (by decide +kernel)]; exact ⟨rfl, rfl⟩))
    (fun os started H enc _ => LogParts_lifted os started H enc)
#print axioms LogParts_holds
end Go.Proofs.Ytkjknlnhffmkkaa
