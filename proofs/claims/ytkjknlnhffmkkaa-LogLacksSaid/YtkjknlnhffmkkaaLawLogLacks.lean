/- LogLacks: who lacks what. For every input; no condition. -/
import Derived.Test.YtkjknlnhffmkkaaAlive3
import Derived.Test.YtkjknlnhffmkkaaLogQ
import Derived.Test.YtkjknlnhffmkkaaTy
import Derived.Test.YtkjknlnhffmkkaaClose2
import Derived.Test.YtkjknlnhffmkkaaAdapt
namespace Go.Proofs.Ytkjknlnhffmkkaa
open Go.ChangeShapes Go.WideShapes Go.ChangeAt Go.RowKit
set_option linter.unusedVariables false
theorem LogLacks_p1 {base c : List Int} {l : List Upd} {n : Int} (hE : (clockL base l n).2.1 = 0) (hC : wrongC c n = 0) (hS : seesC c base = true) : seesC c (clockL base l n).1 = true ↔ (lacksU l c).length = 0 := by
  obtain ⟨hw, hl, e⟩ := clockL_ok hE
  rw [e] at hE ⊢
  rw [lacks_empty]
  exact lacks_sees hC l base 0 hw hE hS
theorem LogLacks_p2 {base c : List Int} {l : List Upd} {n : Int} (hE : (clockL base l n).2.1 = 0) (hC : wrongC c n = 0) (hS : seesC c base = true) (hG : (clockL c (lacksU l c) n).2.1 = 0) : (clockL c (lacksU l c) n).1 = joinC c (clockL base l n).1 := by
  obtain ⟨hw, hl, e⟩ := clockL_ok hE
  obtain ⟨hw', hl', e'⟩ := clockL_ok hG
  rw [e] at hE ⊢
  rw [e'] at hG ⊢
  exact lacks_join l base c 0 0 hw hC hE hS hG
set_option maxRecDepth 100000 in
set_option maxHeartbeats 8000000 in
theorem LogLacks_calls (W : World) (v1 : Value) (base : List Int) (h1 : IntsR (wrd W) v1 base) (b1 : ClockBd base) (v2 : Value) (l : List Upd) (h2 : UpdsR (wrd W) v2 l) (b2 : UpdsBd l) (n : Int) (w3 : (Lit.int .i64 n).wf = true) (v4 : Value) (c : List Int) (h4 : IntsR (wrd W) v4 c) (b4 : ClockBd c) :
    Calls Try.prog 11 #[v1, v2, (.int .i64 n), v4] W (fun e w' => e = .returned (.bool true) ∧ Below W.heap.size W w') := by
  obtain ⟨A1, c2, rfl, m3, m3'⟩ := h1.val
  obtain ⟨A4, c5, rfl, m6, m6'⟩ := h2.val
  obtain ⟨A7, c8, rfl, m9, m9'⟩ := h4.val
  have q1 := b1.1; have q2 := b2.1; have q4 := b4.1; have hrb := reachBytes_lt
  have S : St W (wrd W) (wrd W) [] [] W := St.start (Rd.le_refl _)
  refine e_enter (args := [.slice A1 base.length c2, .slice A4 l.length c5, .int .i64 n, .slice A7 c.length c8]) 65 Try.func11 rfl rfl rfl ?_
  refine e_seq ?_
  refine e_reg ?_
  refine l_y (v := .bool false) S (y_as rfl) ?_
  refine l_nil ?_
  refine n_seq ?_
  refine e_seq ?_
  refine e_seq ?_
  refine e_reg ?_
  refine l_c (en_f (vs := []) (CF 36 _) rfl rfl) (alive3_calls _) ?_
  rintro e w10 ⟨rfl, k⟩
  have S := S.callq k; clear k
  refine ckd ?_
  refine l_y (v := .bool false) S (y_not rfl rfl) ?_
  refine l_nil ?_
  refine n_seq ?_
  refine e_cF rfl ?_
  refine e_skip ?_
  refine n_seq ?_
  refine e_seq ?_
  refine e_reg ?_
  refine l_y (v := .slice A1 base.length c2) S (y_mv rfl) ?_
  refine l_y (v := .slice A4 l.length c5) S (y_mv rfl) ?_
  refine l_y (v := .int .i64 n) S (y_mv rfl) ?_
  refine l_c (en_f (vs := [.slice A1 base.length c2, .slice A4 l.length c5, .int .i64 n]) (CF 37 _) rfl rfl) (Clock_calls _ _ _ _ _ _ (fm h1 S.le) (fm h2 S.le)) ?_
  rintro e w13 ⟨r11, rfl, h12, k⟩
  obtain ⟨rd14, S, L15, N16, X17⟩ := S.call' k; clear k
  have h1 := fm h1 L15
  have h2 := fm h2 L15
  have h4 := fm h4 L15
  have h12 := fm h12 N16
  obtain ⟨A18, c19, rfl, m20, m20'⟩ := h12.val
  refine ckd ?_
  refine l_y (v := .tuple #[.slice A18 (((clockL base l n).1).length) c19, .agg #[.int .i64 ((clockL base l n).2.1), .int .i64 ((clockL base l n).2.2)]]) S (y_mv rfl) ?_
  refine l_y (v := .slice A18 (((clockL base l n).1).length) c19) S (y_ex rfl rfl) ?_
  refine l_y (v := .agg #[.int .i64 ((clockL base l n).2.1), .int .i64 ((clockL base l n).2.2)]) S (y_ex rfl rfl) ?_
  refine l_al (cs := #[.int .i64 0, .int .i64 0]) S Z50 rfl fun g21 w22 S => ?_
  refine l_y (v := .slice A18 (((clockL base l n).1).length) c19) S (y_as rfl) ?_
  refine l_st (u := .agg #[.int .i64 ((clockL base l n).2.1), .int .i64 ((clockL base l n).2.2)]) (i := 0) (cs' := #[.int .i64 ((clockL base l n).2.1), .int .i64 ((clockL base l n).2.2)]) S rfl rfl rfl SZ50 rfl rfl rfl fun w23 S => ?_
  refine l_nil ?_
  refine n_seq ?_
  refine e_seq ?_
  refine e_seq ?_
  refine e_reg ?_
  refine l_y (v := .pointer (some ⟨g21, 0, none⟩)) S (y_fb FA50_0 rfl rfl) ?_
  refine l_y (v := .int .i64 ((clockL base l n).2.1)) S (y_ld rfl (fun w S => ld_b1 (i := 0) S rfl rfl T25)) ?_
  by_cases hE : (clockL base l n).2.1 = 0
  · -- hE yes
    refine l_y (v := .bool false) S (y_neF rfl rfl hE) ?_
    refine l_y (v := .bool false) S (y_mv rfl) ?_
    refine l_g (d' := 26) (v := .slice A7 c.length c8) S (y_mv rfl) rfl rfl ?_
    refine l_g (d' := 26) (v := .int .i64 n) S (y_mv rfl) rfl rfl ?_
    refine l_cg (d' := 26) (en_f (vs := [.slice A7 c.length c8, .int .i64 n]) (CF 16 _) rfl rfl) rfl rfl (Wrong_calls _ _ _ _ (fm h4 S.le)) ?_
    rintro e w24 ⟨rfl, rfl⟩
    refine ckd ?_
    by_cases hC : wrongC c n = 0
    · -- hC yes
      refine l_g (d' := 26) (v := .bool false) S (y_neF rfl rfl hC) rfl rfl ?_
      refine l_y (v := .bool false) S (y_pF rfl rfl) ?_
      refine l_y (v := .bool false) S (y_mv rfl) ?_
      refine l_g (d' := 32) (v := .slice A7 c.length c8) S (y_mv rfl) rfl rfl ?_
      refine l_g (d' := 32) (v := .slice A1 base.length c2) S (y_mv rfl) rfl rfl ?_
      refine l_cg (d' := 32) (en_f (vs := [.slice A7 c.length c8, .slice A1 base.length c2]) (CF 17 _) rfl rfl) rfl rfl (Sees_calls _ _ _ _ _ (fm h4 S.le) (fm h1 S.le) (by omega)) ?_
      rintro e w25 ⟨rfl, k⟩
      have S := S.callq k; clear k
      cases hS : seesC c base
      · -- hS False
        refine ckd ?_
        refine l_g (d' := 32) (v := .bool true) S (y_not rfl rfl) rfl rfl ?_
        refine l_y (v := .bool true) S (y_pF rfl rfl) ?_
        refine l_nil ?_
        refine n_seq ?_
        refine e_cT rfl ?_
        refine e_seq ?_
        refine e_reg ?_
        refine l_y (v := .bool true) S (y_as rfl) ?_
        refine l_nil ?_
        refine n_seq ?_
        refine e_ret ?_
        refine ret1 rfl rfl ?_
        exact ⟨rfl, S.below⟩
      · -- hS True
        refine ckd ?_
        refine l_g (d' := 32) (v := .bool false) S (y_not rfl rfl) rfl rfl ?_
        refine l_y (v := .bool false) S (y_pF rfl rfl) ?_
        refine l_nil ?_
        refine n_seq ?_
        refine e_cF rfl ?_
        refine e_skip ?_
        refine n_seq ?_
        refine e_seq ?_
        refine e_reg ?_
        refine l_y (v := .slice A4 l.length c5) S (y_mv rfl) ?_
        refine l_y (v := .slice A7 c.length c8) S (y_mv rfl) ?_
        refine l_c (en_f (vs := [.slice A4 l.length c5, .slice A7 c.length c8]) (CF 38 _) rfl rfl) (Lacks_c _ _ _ _ _ (fm h2 S.le) (fm h4 S.le) (by omega) (fun u hu => by have := (b2.2 u hu).1; have := reachBytes_lt; omega)) ?_
        rintro e w28 ⟨r26, rfl, h27, k⟩
        obtain ⟨rd29, S, L30, N31, X32⟩ := S.call' k; clear k
        have h1 := fm h1 L30
        have h2 := fm h2 L30
        have h4 := fm h4 L30
        have h12 := fm h12 L30
        have h27 := fm h27 N31
        obtain ⟨A33, c34, rfl, m35, m35'⟩ := h27.val
        refine ckd ?_
        refine l_y (v := .slice A33 ((lacksU l c).length) c34) S (y_as rfl) ?_
        refine l_nil ?_
        refine n_seq ?_
        refine e_seq ?_
        refine e_seq ?_
        refine e_reg ?_
        refine l_y (v := .slice A7 c.length c8) S (y_mv rfl) ?_
        refine l_y (v := .slice A18 (((clockL base l n).1).length) c19) S (y_mv rfl) ?_
        have q5 := (clockL_len hE).2
        refine l_c (en_f (vs := [.slice A7 c.length c8, .slice A18 (((clockL base l n).1).length) c19]) (CF 17 _) rfl rfl) (Sees_calls _ _ _ _ _ (fm h4 S.le) (fm h12 S.le) (by omega)) ?_
        rintro e w36 ⟨rfl, k⟩
        have S := S.callq k; clear k
        cases hA : seesC c ((clockL base l n).1)
        · -- hA False
          refine ckd ?_
          refine l_y (v := .slice A33 ((lacksU l c).length) c34) S (y_mv rfl) ?_
          refine l_y (v := .int .i64 ((lacksU l c).length : Int)) S (y_len U48 rfl rfl) ?_
          by_cases hN : ((lacksU l c).length : Int) = 0
          · -- hN yes
            refine l_y (v := .bool true) S (y_eqT rfl rfl hN) ?_
            refine l_y (v := .bool true) S (y_bn U4 rfl rfl rfl) ?_
            refine l_nil ?_
            refine n_seq ?_
            refine e_cT rfl ?_
            refine e_seq ?_
            refine e_reg ?_
            refine l_y (v := .bool false) S (y_as rfl) ?_
            refine l_nil ?_
            refine n_seq ?_
            refine e_ret ?_
            refine ret1 rfl rfl ?_
            exfalso; have hq := LogLacks_p1 hE hC hS; rw [hA] at hq; first | exact absurd (hq.2 (by omega)) (by simp) | exact hN (by have := hq.1 rfl; omega)
          · -- hN no
            refine l_y (v := .bool false) S (y_eqF rfl rfl hN) ?_
            refine l_y (v := .bool false) S (y_bn U4 rfl rfl rfl) ?_
            refine l_nil ?_
            refine n_seq ?_
            refine e_cF rfl ?_
            refine e_skip ?_
            refine n_seq ?_
            refine e_seq ?_
            refine e_reg ?_
            refine l_y (v := .slice A7 c.length c8) S (y_mv rfl) ?_
            refine l_y (v := .slice A33 ((lacksU l c).length) c34) S (y_mv rfl) ?_
            refine l_y (v := .int .i64 n) S (y_mv rfl) ?_
            refine l_c (en_f (vs := [.slice A7 c.length c8, .slice A33 ((lacksU l c).length) c34, .int .i64 n]) (CF 37 _) rfl rfl) (Clock_calls _ _ _ _ _ _ (fm h4 S.le) (fm h27 S.le)) ?_
            rintro e w39 ⟨r37, rfl, h38, k⟩
            obtain ⟨rd40, S, L41, N42, X43⟩ := S.call' k; clear k
            have h1 := fm h1 L41
            have h2 := fm h2 L41
            have h4 := fm h4 L41
            have h12 := fm h12 L41
            have h27 := fm h27 L41
            have h38 := fm h38 N42
            obtain ⟨A44, c45, rfl, m46, m46'⟩ := h38.val
            refine ckd ?_
            refine l_y (v := .tuple #[.slice A44 (((clockL c (lacksU l c) n).1).length) c45, .agg #[.int .i64 ((clockL c (lacksU l c) n).2.1), .int .i64 ((clockL c (lacksU l c) n).2.2)]]) S (y_mv rfl) ?_
            refine l_y (v := .slice A44 (((clockL c (lacksU l c) n).1).length) c45) S (y_ex rfl rfl) ?_
            refine l_y (v := .agg #[.int .i64 ((clockL c (lacksU l c) n).2.1), .int .i64 ((clockL c (lacksU l c) n).2.2)]) S (y_ex rfl rfl) ?_
            refine l_al (cs := #[.int .i64 0, .int .i64 0]) S Z50 rfl fun g47 w48 S => ?_
            refine l_y (v := .slice A44 (((clockL c (lacksU l c) n).1).length) c45) S (y_as rfl) ?_
            refine l_st (u := .agg #[.int .i64 ((clockL c (lacksU l c) n).2.1), .int .i64 ((clockL c (lacksU l c) n).2.2)]) (i := 1) (cs' := #[.int .i64 ((clockL c (lacksU l c) n).2.1), .int .i64 ((clockL c (lacksU l c) n).2.2)]) S rfl rfl rfl SZ50 rfl rfl rfl fun w49 S => ?_
            refine l_nil ?_
            refine n_seq ?_
            refine e_seq ?_
            refine e_reg ?_
            refine l_y (v := .pointer (some ⟨g47, 0, none⟩)) S (y_fb FA50_0 rfl rfl) ?_
            refine l_y (v := .int .i64 ((clockL c (lacksU l c) n).2.1)) S (y_ld rfl (fun w S => ld_b1 (i := 1) S rfl rfl T25)) ?_
            by_cases hG : (clockL c (lacksU l c) n).2.1 = 0
            · -- hG yes
              refine l_y (v := .bool false) S (y_neF rfl rfl hG) ?_
              refine l_y (v := .bool false) S (y_mv rfl) ?_
              refine l_g (d' := 58) (v := .slice A44 (((clockL c (lacksU l c) n).1).length) c45) S (y_mv rfl) rfl rfl ?_
              refine l_g (d' := 58) (v := .slice A7 c.length c8) S (y_mv rfl) rfl rfl ?_
              refine l_g (d' := 58) (v := .slice A18 (((clockL base l n).1).length) c19) S (y_mv rfl) rfl rfl ?_
              refine l_cg (d' := 58) (en_f (vs := [.slice A7 c.length c8, .slice A18 (((clockL base l n).1).length) c19]) (CF 19 _) rfl rfl) rfl rfl (Join_c _ _ _ _ _ (fm h4 S.le) (fm h12 S.le) (by omega)) ?_
              rintro e w52 ⟨r50, rfl, h51, k⟩
              obtain ⟨rd53, S, L54, N55, X56⟩ := S.call' k; clear k
              have h1 := fm h1 L54
              have h2 := fm h2 L54
              have h4 := fm h4 L54
              have h12 := fm h12 L54
              have h27 := fm h27 L54
              have h38 := fm h38 L54
              have h51 := fm h51 N55
              obtain ⟨A57, c58, rfl, m59, m59'⟩ := h51.val
              refine ckd ?_
              refine l_cg (d' := 58) (en_f (vs := [.slice A44 (((clockL c (lacksU l c) n).1).length) c45, .slice A57 ((joinC c ((clockL base l n).1)).length) c58]) (CF 18 _) rfl rfl) rfl rfl (Same_calls _ _ _ _ _ (fm h38 S.le) (fm h51 S.le)) ?_
              rintro e w60 ⟨rfl, k⟩
              have S := S.callq k; clear k
              cases hM : sameL ((clockL c (lacksU l c) n).1) (joinC c ((clockL base l n).1))
              · -- hM False
                exfalso; rw [LogLacks_p2 hE hC hS hG] at hM; simp [sameL] at hM
              · -- hM True
                refine ckd ?_
                refine l_y (v := .bool true) S (y_pF rfl rfl) ?_
                refine l_y (v := .bool true) S (y_as rfl) ?_
                refine l_nil ?_
                refine n_seq ?_
                refine e_ret ?_
                refine ret1 rfl rfl ?_
                exact ⟨rfl, S.below⟩
            · -- hG no
              refine l_y (v := .bool true) S (y_neT rfl rfl hG) ?_
              refine l_y (v := .bool true) S (y_mv rfl) ?_
              refine l_s (d' := 58) rfl rfl ?_
              refine l_s (d' := 58) rfl rfl ?_
              refine l_s (d' := 58) rfl rfl ?_
              refine l_s (d' := 58) rfl rfl ?_
              refine l_s (d' := 58) rfl rfl ?_
              refine l_y (v := .bool true) S (y_pT rfl rfl) ?_
              refine l_y (v := .bool true) S (y_as rfl) ?_
              refine l_nil ?_
              refine n_seq ?_
              refine e_ret ?_
              refine ret1 rfl rfl ?_
              exact ⟨rfl, S.below⟩
        · -- hA True
          refine ckd ?_
          refine l_y (v := .slice A33 ((lacksU l c).length) c34) S (y_mv rfl) ?_
          refine l_y (v := .int .i64 ((lacksU l c).length : Int)) S (y_len U48 rfl rfl) ?_
          by_cases hN : ((lacksU l c).length : Int) = 0
          · -- hN yes
            refine l_y (v := .bool true) S (y_eqT rfl rfl hN) ?_
            refine l_y (v := .bool false) S (y_bn U4 rfl rfl rfl) ?_
            refine l_nil ?_
            refine n_seq ?_
            refine e_cF rfl ?_
            refine e_skip ?_
            refine n_seq ?_
            refine e_seq ?_
            refine e_reg ?_
            refine l_y (v := .slice A7 c.length c8) S (y_mv rfl) ?_
            refine l_y (v := .slice A33 ((lacksU l c).length) c34) S (y_mv rfl) ?_
            refine l_y (v := .int .i64 n) S (y_mv rfl) ?_
            refine l_c (en_f (vs := [.slice A7 c.length c8, .slice A33 ((lacksU l c).length) c34, .int .i64 n]) (CF 37 _) rfl rfl) (Clock_calls _ _ _ _ _ _ (fm h4 S.le) (fm h27 S.le)) ?_
            rintro e w63 ⟨r61, rfl, h62, k⟩
            obtain ⟨rd64, S, L65, N66, X67⟩ := S.call' k; clear k
            have h1 := fm h1 L65
            have h2 := fm h2 L65
            have h4 := fm h4 L65
            have h12 := fm h12 L65
            have h27 := fm h27 L65
            have h62 := fm h62 N66
            obtain ⟨A68, c69, rfl, m70, m70'⟩ := h62.val
            refine ckd ?_
            refine l_y (v := .tuple #[.slice A68 (((clockL c (lacksU l c) n).1).length) c69, .agg #[.int .i64 ((clockL c (lacksU l c) n).2.1), .int .i64 ((clockL c (lacksU l c) n).2.2)]]) S (y_mv rfl) ?_
            refine l_y (v := .slice A68 (((clockL c (lacksU l c) n).1).length) c69) S (y_ex rfl rfl) ?_
            refine l_y (v := .agg #[.int .i64 ((clockL c (lacksU l c) n).2.1), .int .i64 ((clockL c (lacksU l c) n).2.2)]) S (y_ex rfl rfl) ?_
            refine l_al (cs := #[.int .i64 0, .int .i64 0]) S Z50 rfl fun g71 w72 S => ?_
            refine l_y (v := .slice A68 (((clockL c (lacksU l c) n).1).length) c69) S (y_as rfl) ?_
            refine l_st (u := .agg #[.int .i64 ((clockL c (lacksU l c) n).2.1), .int .i64 ((clockL c (lacksU l c) n).2.2)]) (i := 1) (cs' := #[.int .i64 ((clockL c (lacksU l c) n).2.1), .int .i64 ((clockL c (lacksU l c) n).2.2)]) S rfl rfl rfl SZ50 rfl rfl rfl fun w73 S => ?_
            refine l_nil ?_
            refine n_seq ?_
            refine e_seq ?_
            refine e_reg ?_
            refine l_y (v := .pointer (some ⟨g71, 0, none⟩)) S (y_fb FA50_0 rfl rfl) ?_
            refine l_y (v := .int .i64 ((clockL c (lacksU l c) n).2.1)) S (y_ld rfl (fun w S => ld_b1 (i := 1) S rfl rfl T25)) ?_
            by_cases hG : (clockL c (lacksU l c) n).2.1 = 0
            · -- hG yes
              refine l_y (v := .bool false) S (y_neF rfl rfl hG) ?_
              refine l_y (v := .bool false) S (y_mv rfl) ?_
              refine l_g (d' := 58) (v := .slice A68 (((clockL c (lacksU l c) n).1).length) c69) S (y_mv rfl) rfl rfl ?_
              refine l_g (d' := 58) (v := .slice A7 c.length c8) S (y_mv rfl) rfl rfl ?_
              refine l_g (d' := 58) (v := .slice A18 (((clockL base l n).1).length) c19) S (y_mv rfl) rfl rfl ?_
              refine l_cg (d' := 58) (en_f (vs := [.slice A7 c.length c8, .slice A18 (((clockL base l n).1).length) c19]) (CF 19 _) rfl rfl) rfl rfl (Join_c _ _ _ _ _ (fm h4 S.le) (fm h12 S.le) (by omega)) ?_
              rintro e w76 ⟨r74, rfl, h75, k⟩
              obtain ⟨rd77, S, L78, N79, X80⟩ := S.call' k; clear k
              have h1 := fm h1 L78
              have h2 := fm h2 L78
              have h4 := fm h4 L78
              have h12 := fm h12 L78
              have h27 := fm h27 L78
              have h62 := fm h62 L78
              have h75 := fm h75 N79
              obtain ⟨A81, c82, rfl, m83, m83'⟩ := h75.val
              refine ckd ?_
              refine l_cg (d' := 58) (en_f (vs := [.slice A68 (((clockL c (lacksU l c) n).1).length) c69, .slice A81 ((joinC c ((clockL base l n).1)).length) c82]) (CF 18 _) rfl rfl) rfl rfl (Same_calls _ _ _ _ _ (fm h62 S.le) (fm h75 S.le)) ?_
              rintro e w84 ⟨rfl, k⟩
              have S := S.callq k; clear k
              cases hM : sameL ((clockL c (lacksU l c) n).1) (joinC c ((clockL base l n).1))
              · -- hM False
                exfalso; rw [LogLacks_p2 hE hC hS hG] at hM; simp [sameL] at hM
              · -- hM True
                refine ckd ?_
                refine l_y (v := .bool true) S (y_pF rfl rfl) ?_
                refine l_y (v := .bool true) S (y_as rfl) ?_
                refine l_nil ?_
                refine n_seq ?_
                refine e_ret ?_
                refine ret1 rfl rfl ?_
                exact ⟨rfl, S.below⟩
            · -- hG no
              refine l_y (v := .bool true) S (y_neT rfl rfl hG) ?_
              refine l_y (v := .bool true) S (y_mv rfl) ?_
              refine l_s (d' := 58) rfl rfl ?_
              refine l_s (d' := 58) rfl rfl ?_
              refine l_s (d' := 58) rfl rfl ?_
              refine l_s (d' := 58) rfl rfl ?_
              refine l_s (d' := 58) rfl rfl ?_
              refine l_y (v := .bool true) S (y_pT rfl rfl) ?_
              refine l_y (v := .bool true) S (y_as rfl) ?_
              refine l_nil ?_
              refine n_seq ?_
              refine e_ret ?_
              refine ret1 rfl rfl ?_
              exact ⟨rfl, S.below⟩
          · -- hN no
            refine l_y (v := .bool false) S (y_eqF rfl rfl hN) ?_
            refine l_y (v := .bool true) S (y_bn U4 rfl rfl rfl) ?_
            refine l_nil ?_
            refine n_seq ?_
            refine e_cT rfl ?_
            refine e_seq ?_
            refine e_reg ?_
            refine l_y (v := .bool false) S (y_as rfl) ?_
            refine l_nil ?_
            refine n_seq ?_
            refine e_ret ?_
            refine ret1 rfl rfl ?_
            exfalso; have hq := LogLacks_p1 hE hC hS; rw [hA] at hq; first | exact absurd (hq.2 (by omega)) (by simp) | exact hN (by have := hq.1 rfl; omega)
    · -- hC no
      refine l_g (d' := 26) (v := .bool true) S (y_neT rfl rfl hC) rfl rfl ?_
      refine l_y (v := .bool true) S (y_pF rfl rfl) ?_
      refine l_y (v := .bool true) S (y_mv rfl) ?_
      refine l_s (d' := 32) rfl rfl ?_
      refine l_s (d' := 32) rfl rfl ?_
      refine l_s (d' := 32) rfl rfl ?_
      refine l_s (d' := 32) rfl rfl ?_
      refine l_y (v := .bool true) S (y_pT rfl rfl) ?_
      refine l_nil ?_
      refine n_seq ?_
      refine e_cT rfl ?_
      refine e_seq ?_
      refine e_reg ?_
      refine l_y (v := .bool true) S (y_as rfl) ?_
      refine l_nil ?_
      refine n_seq ?_
      refine e_ret ?_
      refine ret1 rfl rfl ?_
      exact ⟨rfl, S.below⟩
  · -- hE no
    refine l_y (v := .bool true) S (y_neT rfl rfl hE) ?_
    refine l_y (v := .bool true) S (y_mv rfl) ?_
    refine l_s (d' := 26) rfl rfl ?_
    refine l_s (d' := 26) rfl rfl ?_
    refine l_s (d' := 26) rfl rfl ?_
    refine l_s (d' := 26) rfl rfl ?_
    refine l_y (v := .bool true) S (y_pT rfl rfl) ?_
    refine l_y (v := .bool true) S (y_mv rfl) ?_
    refine l_s (d' := 32) rfl rfl ?_
    refine l_s (d' := 32) rfl rfl ?_
    refine l_s (d' := 32) rfl rfl ?_
    refine l_s (d' := 32) rfl rfl ?_
    refine l_y (v := .bool true) S (y_pT rfl rfl) ?_
    refine l_nil ?_
    refine n_seq ?_
    refine e_cT rfl ?_
    refine e_seq ?_
    refine e_reg ?_
    refine l_y (v := .bool true) S (y_as rfl) ?_
    refine l_nil ?_
    refine n_seq ?_
    refine e_ret ?_
    refine ret1 rfl rfl ?_
    exact ⟨rfl, S.below⟩
set_option maxRecDepth 100000 in
theorem LogLacks_lifted (os : Os) (started : os.Started) (H : Type) (enc : TypeId × Value → H) :
    ReturnsInHanded {} Try.checked os 11 .any (Rows.logLacksSpec.pre6 enc Try.prog Try.f11 Rows.logLacksRow.domain false) (Rows.logLacksSpec.post enc Try.prog Try.f11 false true false false) := by
  refine returnsInHanded_of_change_sized (C := Try.checked) own_ started (by kernel_rfl) Try.func11
    (ChangeSpec.witness6 (enc := enc) (C := Try.checked) false ⟨#[], #[.slice none 0 0, .slice none 0 0, .int .i64 0, .slice none 0 0], []⟩ 8 (by kernel_rfl) (by kernel_rfl) (by kernel_rfl) (by kernel_rfl)) ?_
  intro W base args ds gs before hval0 hW _ hsz0 _
  have hval : ∀ (j : Nat) t v, Try.f11.params[j]? = some t → args[j]? = some v → Value.okWide Try.prog W .any base t v := hval0
  have hsz : (DataW.weightsEach Try.prog (Try.f11.params.toList ++ Rows.logLacksSpec.plain.varTypes Try.prog) (ds ++ gs)).all (· ≤ reachBytes) = true := hsz0
  have hW' := hW
  obtain ⟨p, q, hA0, hV, rfl, _, _⟩ := hW
  obtain ⟨rfl, rfl⟩ := trodVars_none hV
  have hA : DataW.TrodAll enc Try.prog W 0 (fun _ => true) true Try.f11.params.toList args.toList ds p := hA0
  rw [Try.params11] at hA hval hsz
  obtain ⟨v1, vs1, d1, ds1, p1, q1, e1, rfl, rfl, t1, r1⟩ := trodAll_cons hA
  obtain ⟨v2, vs2, d2, ds2, p2, q2, rfl, rfl, rfl, t2, r2⟩ := trodAll_cons r1
  obtain ⟨v3, vs3, d3, ds3, p3, q3, rfl, rfl, rfl, t3, r3⟩ := trodAll_cons r2
  obtain ⟨v4, vs4, d4, ds4, p4, q4, rfl, rfl, rfl, t4, r4⟩ := trodAll_cons r3
  obtain ⟨rfl, rfl, rfl⟩ := trodAll_nil r4
  obtain rfl : args = #[v1, v2, v3, v4] := by cases args; simp_all
  obtain ⟨z1, hsz⟩ := weights_each hsz
  obtain ⟨z2, hsz⟩ := weights_each hsz
  obtain ⟨z3, hsz⟩ := weights_each hsz
  obtain ⟨z4, hsz⟩ := weights_each hsz
  obtain ⟨a1, ha1, hb1⟩ := arg_slice Try.underlying23 op_clock (hval 0 _ v1 rfl rfl) t1 z1
  obtain ⟨a2, ha2, hb2⟩ := arg_slice Try.underlying48 op_upds (hval 1 _ v2 rfl rfl) t2 z2
  obtain ⟨n3, rfl, rfl, rfl, hw3⟩ := open_int Try.underlying3 (hval 2 _ v3 rfl rfl) t3
  obtain ⟨a4, ha4, hb4⟩ := arg_slice Try.underlying23 op_clock (hval 3 _ v4 rfl rfl) t4 z4
  refine (LogLacks_calls W v1 a1 ha1 hb1 v2 a2 ha2 hb2 n3 hw3 v4 a4 ha4 hb4).mono fun e W' ⟨he, hbl⟩ => ?_
  subst he
  exact ⟨_, rfl, close_law laidOut (by kernel_rfl) rfl (fun gs h => by subst h; rfl) rfl (tb := 4) Try.underlying4 hW' hbl⟩

theorem LogLacks_holds : Rows.LogLacksSaid :=
  OpenClaim.holds_of_wide 11 Try.f11 rfl rfl rfl rfl rfl rfl rfl ⟨rfl, rfl, rfl, rfl, rfl⟩ rfl rfl rfl rfl rfl (by kernel_rfl) Try.func11 (by kernel_rfl)
    (of_decide_eq_true (by kernel_rfl)) (by unfold Func.isWrapper; first | (rw [if_pos (by decide +kernel)]; kernel_rfl) | (rw [if_neg (by decide +kernel)]; exact ⟨rfl, rfl⟩))
    (fun os started H enc _ => LogLacks_lifted os started H enc)
#print axioms LogLacks_holds
end Go.Proofs.Ytkjknlnhffmkkaa
