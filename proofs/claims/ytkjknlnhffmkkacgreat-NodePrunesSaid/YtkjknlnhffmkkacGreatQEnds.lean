/- what state.apply asks of a life: does the update end it -/
import Derived.Test.YtkjknlnhffmkkacGreatQPl
import Derived.Test.YtkjknlnhffmkkacGreatQCmp
import Derived.Test.YtkjknlnhffmkkacGreatQEg
import Derived.Test.YtkjknlnhffmkkacGreatQClock2
import Derived.Test.YtkjknlnhffmkkacGreatQClock3
namespace Go.Proofs.YtkjknlnhffmkkacGreat
open Go.RowKit
set_option linter.unusedVariables false
set_option maxRecDepth 100000 in
theorem Ends_c (rd : Rd) (W : World) (hle : Rd.le rd (wrd W)) (v ps pu sv : Value) (x : Live) (set : Bool) (u : Upd) (h : AggR LiveR rd v x) (hps : PtrC rd ps [.bool set]) (hpu : PtrC rd pu [.int .i64 u.author, sv, .int .i64 u.kind, .int .i64 u.key, .int .i64 u.item]) (hsv : SliceR 1 IntR rd sv u.seen) :
    Calls Tryz.prog 118 #[v, ps, pu] W (fun e w' => e = .returned (.bool (endsC set u x)) ∧ Below W.heap.size W w') := by
 obtain ⟨vs1, he, h⟩ := h; subst he
 have he : vs1 = [.bool x.set, ni x.key, ni x.item, ni x.author, ni x.seq] := h; subst he; clear h
 obtain ⟨A2, c3, rfl, m4, m4'⟩ := hsv.val
 have hmx : maxLen = 9223372036854775807 := rfl
 have S : St [] W rd rd [] [] W := St.start hle
 refine e_enter (args := [.agg #[.bool x.set, ni x.key, ni x.item, ni x.author, ni x.seq], ps, pu]) 36 Tryz.func118 rfl rfl rfl ?_
 refine e_seq ?_
 refine e_reg ?_
 refine l_bx (u := .agg #[.bool x.set, ni x.key, ni x.item, ni x.author, ni x.seq]) (cs := #[.bool x.set, ni x.key, ni x.item, ni x.author, ni x.seq]) S rfl rfl fun g5 w6 S => ?_
 refine l_y (v := .bool false) S (y_as rfl) ?_
 refine l_nil ?_
 refine n_seq ?_
 refine e_seq ?_
 refine e_reg ?_
 refine l_y (v := pa g5 0) S (y_fb FA104_0 rfl rfl) ?_
 rcases Bool.eq_false_or_eq_true x.set with b7 | b7
 ·
  refine l_y (v := .bool true) S (y_bv (y_ld rfl (fun w S => ld_b1 (i := 0) S rfl rfl T4)) b7) ?_
  rcases Bool.eq_false_or_eq_true set with b8 | b8
  ·
   refine l_y (v := .bool true) S (y_bv (y_ld rfl (fun w S => ld_p1 S.le hps rfl T4)) b8) ?_
   refine l_y (v := .bool true) S (y_be U4 rfl rfl rfl) ?_
   refine l_y (v := .bool true) S (y_mv rfl) ?_
   refine l_g (d' := 9) (v := pa g5 1) S (y_fb FA104_1 rfl rfl) rfl rfl ?_
   refine l_g (d' := 9) (v := ni x.key) S (y_ld rfl (fun w S => ld_b1 (i := 0) S rfl rfl T3)) rfl rfl ?_
   obtain ⟨p9, Ep9, Yp9⟩ := y_fp (us := [ni u.key, ni u.item]) FA42_3 hpu rfl
   refine l_g (d' := 9) (v := p9) S (Yp9 rfl) rfl rfl ?_
   refine l_g (d' := 9) (v := ni u.key) S (y_ld rfl (fun w S => ld_p1 S.le Ep9 rfl T3)) rfl rfl ?_
   by_cases h10 : x.key = u.key
   ·
    refine l_g (d' := 9) (v := .bool true) S (y_eqT rfl rfl h10) rfl rfl ?_
    refine l_y (v := .bool true) S (y_pT rfl rfl) ?_
    refine l_y (v := .bool true) S (y_mv rfl) ?_
    refine l_g (d' := 16) (v := .bool true) S (y_bv (y_ld rfl (fun w S => ld_p1 S.le hps rfl T4)) b8) rfl rfl ?_
    refine l_g (d' := 16) (v := .bool false) S (y_not rfl rfl) rfl rfl ?_
    refine l_g (d' := 16) (v := .bool false) S (y_mv rfl) rfl rfl ?_
    refine l_g (d' := 19) (v := pa g5 2) S (y_fb FA104_2 rfl rfl) rfl rfl ?_
    refine l_g (d' := 19) (v := ni x.item) S (y_ld rfl (fun w S => ld_b1 (i := 0) S rfl rfl T3)) rfl rfl ?_
    obtain ⟨p11, Ep11, Yp11⟩ := y_fp (us := [ni u.item]) FA42_4 hpu rfl
    refine l_g (d' := 19) (v := p11) S (Yp11 rfl) rfl rfl ?_
    refine l_g (d' := 19) (v := ni u.item) S (y_ld rfl (fun w S => ld_p1 S.le Ep11 rfl T3)) rfl rfl ?_
    by_cases h12 : x.item = u.item
    ·
     refine l_g (d' := 19) (v := .bool true) S (y_eqT rfl rfl h12) rfl rfl ?_
     refine l_g (d' := 16) (v := .bool true) S (y_pF rfl rfl) rfl rfl ?_
     refine l_y (v := .bool true) S (y_pT rfl rfl) ?_
     refine l_y (v := .bool true) S (y_mv rfl) ?_
     obtain ⟨p13, Ep13, Yp13⟩ := y_fp (us := [.slice A2 u.seen.length c3, ni u.kind, ni u.key, ni u.item]) FA42_1 hpu rfl
     refine l_g (d' := 27) (v := p13) S (Yp13 rfl) rfl rfl ?_
     refine l_g (d' := 27) (v := .slice A2 u.seen.length c3) S (y_ld rfl (fun w S => ld_p1 S.le Ep13 rfl T23)) rfl rfl ?_
     refine l_g (d' := 27) (v := pa g5 3) S (y_fb FA104_3 rfl rfl) rfl rfl ?_
     refine l_g (d' := 27) (v := ni x.author) S (y_ld rfl (fun w S => ld_b1 (i := 0) S rfl rfl T3)) rfl rfl ?_
     refine l_g (d' := 27) (v := pa g5 4) S (y_fb FA104_4 rfl rfl) rfl rfl ?_
     refine l_g (d' := 27) (v := ni x.seq) S (y_ld rfl (fun w S => ld_b1 (i := 0) S rfl rfl T3)) rfl rfl ?_
     refine l_cg (d' := 27) (en_f (vs := [.slice A2 u.seen.length c3, ni x.author, ni x.seq]) (CF 83 _) rfl rfl) rfl rfl (Has_calls _ _ _ _ _ (fm hsv S.le)) ?_
     rintro e w14 ⟨rfl, rfl⟩
     cases b15 : hasC u.seen x.author x.seq
     ·
      refine ckd ?_
      refine l_y (v := .bool false) S (y_pT rfl rfl) ?_
      refine l_y (v := .bool false) S (y_as rfl) ?_
      refine l_nil ?_
      refine n_seq ?_
      refine e_ret ?_
      refine ret1 (v := .bool false) rfl rfl ?_
      exact ⟨rbool (by unfold endsC; simp_all), S.below⟩
     refine ckd ?_
     refine l_y (v := .bool true) S (y_pT rfl rfl) ?_
     refine l_y (v := .bool true) S (y_as rfl) ?_
     refine l_nil ?_
     refine n_seq ?_
     refine e_ret ?_
     refine ret1 (v := .bool true) rfl rfl ?_
     exact ⟨rbool (by unfold endsC; simp_all), S.below⟩
    refine l_g (d' := 19) (v := .bool false) S (y_eqF rfl rfl h12) rfl rfl ?_
    refine l_g (d' := 16) (v := .bool false) S (y_pF rfl rfl) rfl rfl ?_
    refine l_y (v := .bool false) S (y_pT rfl rfl) ?_
    refine l_y (v := .bool false) S (y_mv rfl) ?_
    refine l_s (d' := 27) rfl rfl ?_
    refine l_s (d' := 27) rfl rfl ?_
    refine l_s (d' := 27) rfl rfl ?_
    refine l_s (d' := 27) rfl rfl ?_
    refine l_s (d' := 27) rfl rfl ?_
    refine l_s (d' := 27) rfl rfl ?_
    refine l_s (d' := 27) rfl rfl ?_
    refine l_y (v := .bool false) S (y_pF rfl rfl) ?_
    refine l_y (v := .bool false) S (y_as rfl) ?_
    refine l_nil ?_
    refine n_seq ?_
    refine e_ret ?_
    refine ret1 (v := .bool false) rfl rfl ?_
    exact ⟨rbool (by unfold endsC; simp_all), S.below⟩
   refine l_g (d' := 9) (v := .bool false) S (y_eqF rfl rfl h10) rfl rfl ?_
   refine l_y (v := .bool false) S (y_pT rfl rfl) ?_
   refine l_y (v := .bool false) S (y_mv rfl) ?_
   refine l_s (d' := 16) rfl rfl ?_
   refine l_s (d' := 16) rfl rfl ?_
   refine l_s (d' := 16) rfl rfl ?_
   refine l_su (d' := 19) rfl rfl ?_
   refine l_su (d' := 19) rfl rfl ?_
   refine l_su (d' := 19) rfl rfl ?_
   refine l_su (d' := 19) rfl rfl ?_
   refine l_su (d' := 19) rfl rfl ?_
   refine l_s (d' := 16) rfl rfl ?_
   refine l_y (v := .bool false) S (y_pF rfl rfl) ?_
   refine l_y (v := .bool false) S (y_mv rfl) ?_
   refine l_s (d' := 27) rfl rfl ?_
   refine l_s (d' := 27) rfl rfl ?_
   refine l_s (d' := 27) rfl rfl ?_
   refine l_s (d' := 27) rfl rfl ?_
   refine l_s (d' := 27) rfl rfl ?_
   refine l_s (d' := 27) rfl rfl ?_
   refine l_s (d' := 27) rfl rfl ?_
   refine l_y (v := .bool false) S (y_pF rfl rfl) ?_
   refine l_y (v := .bool false) S (y_as rfl) ?_
   refine l_nil ?_
   refine n_seq ?_
   refine e_ret ?_
   refine ret1 (v := .bool false) rfl rfl ?_
   exact ⟨rbool (by unfold endsC; simp_all), S.below⟩
  refine l_y (v := .bool false) S (y_bv (y_ld rfl (fun w S => ld_p1 S.le hps rfl T4)) b8) ?_
  refine l_y (v := .bool false) S (y_be U4 rfl rfl rfl) ?_
  refine l_y (v := .bool false) S (y_mv rfl) ?_
  refine l_s (d' := 9) rfl rfl ?_
  refine l_s (d' := 9) rfl rfl ?_
  refine l_s (d' := 9) rfl rfl ?_
  refine l_s (d' := 9) rfl rfl ?_
  refine l_s (d' := 9) rfl rfl ?_
  refine l_y (v := .bool false) S (y_pF rfl rfl) ?_
  refine l_y (v := .bool false) S (y_mv rfl) ?_
  refine l_s (d' := 16) rfl rfl ?_
  refine l_s (d' := 16) rfl rfl ?_
  refine l_s (d' := 16) rfl rfl ?_
  refine l_su (d' := 19) rfl rfl ?_
  refine l_su (d' := 19) rfl rfl ?_
  refine l_su (d' := 19) rfl rfl ?_
  refine l_su (d' := 19) rfl rfl ?_
  refine l_su (d' := 19) rfl rfl ?_
  refine l_s (d' := 16) rfl rfl ?_
  refine l_y (v := .bool false) S (y_pF rfl rfl) ?_
  refine l_y (v := .bool false) S (y_mv rfl) ?_
  refine l_s (d' := 27) rfl rfl ?_
  refine l_s (d' := 27) rfl rfl ?_
  refine l_s (d' := 27) rfl rfl ?_
  refine l_s (d' := 27) rfl rfl ?_
  refine l_s (d' := 27) rfl rfl ?_
  refine l_s (d' := 27) rfl rfl ?_
  refine l_s (d' := 27) rfl rfl ?_
  refine l_y (v := .bool false) S (y_pF rfl rfl) ?_
  refine l_y (v := .bool false) S (y_as rfl) ?_
  refine l_nil ?_
  refine n_seq ?_
  refine e_ret ?_
  refine ret1 (v := .bool false) rfl rfl ?_
  exact ⟨rbool (by unfold endsC; simp_all), S.below⟩
 refine l_y (v := .bool false) S (y_bv (y_ld rfl (fun w S => ld_b1 (i := 0) S rfl rfl T4)) b7) ?_
 rcases Bool.eq_false_or_eq_true set with b16 | b16
 ·
  refine l_y (v := .bool true) S (y_bv (y_ld rfl (fun w S => ld_p1 S.le hps rfl T4)) b16) ?_
  refine l_y (v := .bool false) S (y_be U4 rfl rfl rfl) ?_
  refine l_y (v := .bool false) S (y_mv rfl) ?_
  refine l_s (d' := 9) rfl rfl ?_
  refine l_s (d' := 9) rfl rfl ?_
  refine l_s (d' := 9) rfl rfl ?_
  refine l_s (d' := 9) rfl rfl ?_
  refine l_s (d' := 9) rfl rfl ?_
  refine l_y (v := .bool false) S (y_pF rfl rfl) ?_
  refine l_y (v := .bool false) S (y_mv rfl) ?_
  refine l_s (d' := 16) rfl rfl ?_
  refine l_s (d' := 16) rfl rfl ?_
  refine l_s (d' := 16) rfl rfl ?_
  refine l_su (d' := 19) rfl rfl ?_
  refine l_su (d' := 19) rfl rfl ?_
  refine l_su (d' := 19) rfl rfl ?_
  refine l_su (d' := 19) rfl rfl ?_
  refine l_su (d' := 19) rfl rfl ?_
  refine l_s (d' := 16) rfl rfl ?_
  refine l_y (v := .bool false) S (y_pF rfl rfl) ?_
  refine l_y (v := .bool false) S (y_mv rfl) ?_
  refine l_s (d' := 27) rfl rfl ?_
  refine l_s (d' := 27) rfl rfl ?_
  refine l_s (d' := 27) rfl rfl ?_
  refine l_s (d' := 27) rfl rfl ?_
  refine l_s (d' := 27) rfl rfl ?_
  refine l_s (d' := 27) rfl rfl ?_
  refine l_s (d' := 27) rfl rfl ?_
  refine l_y (v := .bool false) S (y_pF rfl rfl) ?_
  refine l_y (v := .bool false) S (y_as rfl) ?_
  refine l_nil ?_
  refine n_seq ?_
  refine e_ret ?_
  refine ret1 (v := .bool false) rfl rfl ?_
  exact ⟨rbool (by unfold endsC; simp_all), S.below⟩
 refine l_y (v := .bool false) S (y_bv (y_ld rfl (fun w S => ld_p1 S.le hps rfl T4)) b16) ?_
 refine l_y (v := .bool true) S (y_be U4 rfl rfl rfl) ?_
 refine l_y (v := .bool true) S (y_mv rfl) ?_
 refine l_g (d' := 9) (v := pa g5 1) S (y_fb FA104_1 rfl rfl) rfl rfl ?_
 refine l_g (d' := 9) (v := ni x.key) S (y_ld rfl (fun w S => ld_b1 (i := 0) S rfl rfl T3)) rfl rfl ?_
 obtain ⟨p17, Ep17, Yp17⟩ := y_fp (us := [ni u.key, ni u.item]) FA42_3 hpu rfl
 refine l_g (d' := 9) (v := p17) S (Yp17 rfl) rfl rfl ?_
 refine l_g (d' := 9) (v := ni u.key) S (y_ld rfl (fun w S => ld_p1 S.le Ep17 rfl T3)) rfl rfl ?_
 by_cases h18 : x.key = u.key
 ·
  refine l_g (d' := 9) (v := .bool true) S (y_eqT rfl rfl h18) rfl rfl ?_
  refine l_y (v := .bool true) S (y_pT rfl rfl) ?_
  refine l_y (v := .bool true) S (y_mv rfl) ?_
  refine l_g (d' := 16) (v := .bool false) S (y_bv (y_ld rfl (fun w S => ld_p1 S.le hps rfl T4)) b16) rfl rfl ?_
  refine l_g (d' := 16) (v := .bool true) S (y_not rfl rfl) rfl rfl ?_
  refine l_g (d' := 16) (v := .bool true) S (y_mv rfl) rfl rfl ?_
  refine l_s (d' := 19) rfl rfl ?_
  refine l_s (d' := 19) rfl rfl ?_
  refine l_s (d' := 19) rfl rfl ?_
  refine l_s (d' := 19) rfl rfl ?_
  refine l_s (d' := 19) rfl rfl ?_
  refine l_g (d' := 16) (v := .bool true) S (y_pT rfl rfl) rfl rfl ?_
  refine l_y (v := .bool true) S (y_pT rfl rfl) ?_
  refine l_y (v := .bool true) S (y_mv rfl) ?_
  obtain ⟨p19, Ep19, Yp19⟩ := y_fp (us := [.slice A2 u.seen.length c3, ni u.kind, ni u.key, ni u.item]) FA42_1 hpu rfl
  refine l_g (d' := 27) (v := p19) S (Yp19 rfl) rfl rfl ?_
  refine l_g (d' := 27) (v := .slice A2 u.seen.length c3) S (y_ld rfl (fun w S => ld_p1 S.le Ep19 rfl T23)) rfl rfl ?_
  refine l_g (d' := 27) (v := pa g5 3) S (y_fb FA104_3 rfl rfl) rfl rfl ?_
  refine l_g (d' := 27) (v := ni x.author) S (y_ld rfl (fun w S => ld_b1 (i := 0) S rfl rfl T3)) rfl rfl ?_
  refine l_g (d' := 27) (v := pa g5 4) S (y_fb FA104_4 rfl rfl) rfl rfl ?_
  refine l_g (d' := 27) (v := ni x.seq) S (y_ld rfl (fun w S => ld_b1 (i := 0) S rfl rfl T3)) rfl rfl ?_
  refine l_cg (d' := 27) (en_f (vs := [.slice A2 u.seen.length c3, ni x.author, ni x.seq]) (CF 83 _) rfl rfl) rfl rfl (Has_calls _ _ _ _ _ (fm hsv S.le)) ?_
  rintro e w20 ⟨rfl, rfl⟩
  cases b21 : hasC u.seen x.author x.seq
  ·
   refine ckd ?_
   refine l_y (v := .bool false) S (y_pT rfl rfl) ?_
   refine l_y (v := .bool false) S (y_as rfl) ?_
   refine l_nil ?_
   refine n_seq ?_
   refine e_ret ?_
   refine ret1 (v := .bool false) rfl rfl ?_
   exact ⟨rbool (by unfold endsC; simp_all), S.below⟩
  refine ckd ?_
  refine l_y (v := .bool true) S (y_pT rfl rfl) ?_
  refine l_y (v := .bool true) S (y_as rfl) ?_
  refine l_nil ?_
  refine n_seq ?_
  refine e_ret ?_
  refine ret1 (v := .bool true) rfl rfl ?_
  exact ⟨rbool (by unfold endsC; simp_all), S.below⟩
 refine l_g (d' := 9) (v := .bool false) S (y_eqF rfl rfl h18) rfl rfl ?_
 refine l_y (v := .bool false) S (y_pT rfl rfl) ?_
 refine l_y (v := .bool false) S (y_mv rfl) ?_
 refine l_s (d' := 16) rfl rfl ?_
 refine l_s (d' := 16) rfl rfl ?_
 refine l_s (d' := 16) rfl rfl ?_
 refine l_su (d' := 19) rfl rfl ?_
 refine l_su (d' := 19) rfl rfl ?_
 refine l_su (d' := 19) rfl rfl ?_
 refine l_su (d' := 19) rfl rfl ?_
 refine l_su (d' := 19) rfl rfl ?_
 refine l_s (d' := 16) rfl rfl ?_
 refine l_y (v := .bool false) S (y_pF rfl rfl) ?_
 refine l_y (v := .bool false) S (y_mv rfl) ?_
 refine l_s (d' := 27) rfl rfl ?_
 refine l_s (d' := 27) rfl rfl ?_
 refine l_s (d' := 27) rfl rfl ?_
 refine l_s (d' := 27) rfl rfl ?_
 refine l_s (d' := 27) rfl rfl ?_
 refine l_s (d' := 27) rfl rfl ?_
 refine l_s (d' := 27) rfl rfl ?_
 refine l_y (v := .bool false) S (y_pF rfl rfl) ?_
 refine l_y (v := .bool false) S (y_as rfl) ?_
 refine l_nil ?_
 refine n_seq ?_
 refine e_ret ?_
 refine ret1 (v := .bool false) rfl rfl ?_
 exact ⟨rbool (by unfold endsC; simp_all), S.below⟩
end Go.Proofs.YtkjknlnhffmkkacGreat
