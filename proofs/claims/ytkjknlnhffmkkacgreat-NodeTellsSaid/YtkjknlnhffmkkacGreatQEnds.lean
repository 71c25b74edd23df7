/- what state.apply asks of a life: does the update end it -/
import Derived.Test.YtkjknlnhffmkkacGreatQPl
import Derived.Test.YtkjknlnhffmkkacGreatQCmp
import Derived.Test.YtkjknlnhffmkkacGreatQEg
import Derived.Test.YtkjknlnhffmkkacGreatQClock2
import Derived.Test.YtkjknlnhffmkkacGreatQClock3
namespace Go.Proofs.YtkjknlnhffmkkacGreat
open Go.RowKit
set_option linter.unusedVariables false
set_option maxRecDepth 100000 in
theorem Ends_c (rd:Rd) (W:World) (hle:Rd.le rd (wrd W)) (v ps pu sv:Value) (x:Live) (set:Bool) (u:Upd) (h:AggR LiveR rd v x) (hps:PtrC rd ps [.bool set]) (hpu:PtrC rd pu [.int .i64 u.author,sv,.int .i64 u.kind,.int .i64 u.key,.int .i64 u.item]) (hsv:SliceR 1 IntR rd sv u.seen) :
    Calls Tryz.prog 118 #[v,ps,pu] W (fun e w' => e = .returned (.bool (endsC set u x)) ∧ Below W.heap.size W w'):=by
 obtain ⟨vs1,he,h⟩:=h;subst he;have he:vs1 = [.bool x.set,ni x.key,ni x.item,ni x.author,ni x.seq]:=h;subst he;clear h;obtain ⟨A2,c3,rfl,m4,m4'⟩:=hsv.val;have hmx:maxLen = 9223372036854775807:=rfl;have S:St [] W rd rd [] [] W:=St.start hle;refine e_enter (args:=[.agg (kL x),ps,pu]) 36 Tryz.func118 rfl rfl rfl ?_;refine er (l_bx (u:=.agg (kL x)) (cs:=(kL x)) S rfl rfl fun g5 w6 S => ly (.bool false) S Ya (ln (er (ly (pa g5 0) S (Yb FA104_0) ?_))))
 rcases Bool.eq_false_or_eq_true x.set with b7 | b7
 ·
  refine ly (.bool true) S (y_bv (yb1 0 T4) b7) ?_
  rcases Bool.eq_false_or_eq_true set with b8 | b8
  ·
   refine ly (.bool true) S (y_bv (yp1 hps T4) b8) (ly (.bool true) S (y_be U4 rfl rfl rfl) (ly (.bool true) S Ym (lg 9 (pa g5 1) S (Yb FA104_1) (lg 9 (ni x.key) S (yb1 0 T3) ?_))));obtain ⟨p9,Ep9,Yp9⟩:=y_fp (us:=[ni u.key,ni u.item]) FA42_3 hpu rfl;refine lg 9 p9 S (Yp9 rfl) (lg 9 (ni u.key) S (yp1 Ep9 T3) ?_);by_cases h10:x.key = u.key
   ·
    refine lg 9 (.bool true) S (y_eqT rfl rfl h10) (ly (.bool true) S Yt (ly (.bool true) S Ym (lg 16 (.bool true) S (y_bv (yp1 hps T4) b8) (lg 16 (.bool false) S (y_not rfl rfl) (lg 16 (.bool false) S Ym (lg 19 (pa g5 2) S (Yb FA104_2) (lg 19 (ni x.item) S (yb1 0 T3) ?_)))))));obtain ⟨p11,Ep11,Yp11⟩:=y_fp (us:=[ni u.item]) FA42_4 hpu rfl;refine lg 19 p11 S (Yp11 rfl) (lg 19 (ni u.item) S (yp1 Ep11 T3) ?_);by_cases h12:x.item = u.item
    ·
     refine lg 19 (.bool true) S (y_eqT rfl rfl h12) (lg 16 (.bool true) S Yf (ly (.bool true) S Yt (ly (.bool true) S Ym ?_)));obtain ⟨p13,Ep13,Yp13⟩:=y_fp (us:=[sc A2 u.seen.length c3,ni u.kind,ni u.key,ni u.item]) FA42_1 hpu rfl;refine lg 27 p13 S (Yp13 rfl) (lg 27 (sc A2 u.seen.length c3) S (yp1 Ep13 T23) (lg 27 (pa g5 3) S (Yb FA104_3) (lg 27 (ni x.author) S (yb1 0 T3) (lg 27 (pa g5 4) S (Yb FA104_4) (lg 27 (ni x.seq) S (yb1 0 T3) ?_)))));refine l_cg (d':=27) (en_f (vs:=[sc A2 u.seen.length c3,ni x.author,ni x.seq]) (CF 83 _) rfl rfl) rfl rfl (Has_calls _ _ _ _ _ (fm hsv S.le)) ?_;rintro e w14 ⟨rfl,rfl⟩
     cases b15:hasC u.seen x.author x.seq
     ·
      refine ckd (ly (.bool false) S Yt (ly (.bool false) S Ya (ln (e_ret ?_))));refine ret1 (v:=.bool false) rfl rfl ?_;exact ⟨rbool (by unfold endsC;simp_all),S.below⟩
     refine ckd (ly (.bool true) S Yt (ly (.bool true) S Ya (ln (e_ret ?_))));refine ret1 (v:=.bool true) rfl rfl ?_;exact ⟨rbool (by unfold endsC;simp_all),S.below⟩
    refine lg 19 (.bool false) S (y_eqF rfl rfl h12) (lg 16 (.bool false) S Yf (ly (.bool false) S Yt (ly (.bool false) S Ym (ls 27 (ls 27 (ls 27 (ls 27 (ls 27 (ls 27 (ls 27 (ly (.bool false) S Yf (ly (.bool false) S Ya (ln (e_ret ?_))))))))))))));refine ret1 (v:=.bool false) rfl rfl ?_;exact ⟨rbool (by unfold endsC;simp_all),S.below⟩
   refine lg 9 (.bool false) S (y_eqF rfl rfl h10) (ly (.bool false) S Yt (ly (.bool false) S Ym (ls 16 (ls 16 (ls 16 (l_su (d':=19) rfl rfl (l_su (d':=19) rfl rfl (l_su (d':=19) rfl rfl (l_su (d':=19) rfl rfl (l_su (d':=19) rfl rfl (ls 16 (ly (.bool false) S Yf (ly (.bool false) S Ym (ls 27 (ls 27 ?_)))))))))))))));refine ls 27 (ls 27 (ls 27 (ls 27 (ls 27 (ly (.bool false) S Yf (ly (.bool false) S Ya (ln (e_ret ?_))))))));refine ret1 (v:=.bool false) rfl rfl ?_;exact ⟨rbool (by unfold endsC;simp_all),S.below⟩
  refine ly (.bool false) S (y_bv (yp1 hps T4) b8) (ly (.bool false) S (y_be U4 rfl rfl rfl) (ly (.bool false) S Ym (ls 9 (ls 9 (ls 9 (ls 9 (ls 9 (ly (.bool false) S Yf (ly (.bool false) S Ym (ls 16 (ls 16 (ls 16 (l_su (d':=19) rfl rfl (l_su (d':=19) rfl rfl (l_su (d':=19) rfl rfl ?_)))))))))))))));refine l_su (d':=19) rfl rfl (l_su (d':=19) rfl rfl (ls 16 (ly (.bool false) S Yf (ly (.bool false) S Ym (ls 27 (ls 27 (ls 27 (ls 27 (ls 27 (ls 27 (ls 27 (ly (.bool false) S Yf (ly (.bool false) S Ya (ln ?_))))))))))))));refine e_ret ?_;refine ret1 (v:=.bool false) rfl rfl ?_;exact ⟨rbool (by unfold endsC;simp_all),S.below⟩
 refine ly (.bool false) S (y_bv (yb1 0 T4) b7) ?_
 rcases Bool.eq_false_or_eq_true set with b16 | b16
 ·
  refine ly (.bool true) S (y_bv (yp1 hps T4) b16) (ly (.bool false) S (y_be U4 rfl rfl rfl) (ly (.bool false) S Ym (ls 9 (ls 9 (ls 9 (ls 9 (ls 9 (ly (.bool false) S Yf (ly (.bool false) S Ym (ls 16 (ls 16 (ls 16 (l_su (d':=19) rfl rfl (l_su (d':=19) rfl rfl (l_su (d':=19) rfl rfl ?_)))))))))))))));refine l_su (d':=19) rfl rfl (l_su (d':=19) rfl rfl (ls 16 (ly (.bool false) S Yf (ly (.bool false) S Ym (ls 27 (ls 27 (ls 27 (ls 27 (ls 27 (ls 27 (ls 27 (ly (.bool false) S Yf (ly (.bool false) S Ya (ln ?_))))))))))))));refine e_ret ?_;refine ret1 (v:=.bool false) rfl rfl ?_;exact ⟨rbool (by unfold endsC;simp_all),S.below⟩
 refine ly (.bool false) S (y_bv (yp1 hps T4) b16) (ly (.bool true) S (y_be U4 rfl rfl rfl) (ly (.bool true) S Ym (lg 9 (pa g5 1) S (Yb FA104_1) (lg 9 (ni x.key) S (yb1 0 T3) ?_))));obtain ⟨p17,Ep17,Yp17⟩:=y_fp (us:=[ni u.key,ni u.item]) FA42_3 hpu rfl;refine lg 9 p17 S (Yp17 rfl) (lg 9 (ni u.key) S (yp1 Ep17 T3) ?_);by_cases h18:x.key = u.key
 ·
  refine lg 9 (.bool true) S (y_eqT rfl rfl h18) (ly (.bool true) S Yt (ly (.bool true) S Ym (lg 16 (.bool false) S (y_bv (yp1 hps T4) b16) (lg 16 (.bool true) S (y_not rfl rfl) (lg 16 (.bool true) S Ym (ls 19 (ls 19 (ls 19 (ls 19 (ls 19 (lg 16 (.bool true) S Yt (ly (.bool true) S Yt (ly (.bool true) S Ym ?_)))))))))))));obtain ⟨p19,Ep19,Yp19⟩:=y_fp (us:=[sc A2 u.seen.length c3,ni u.kind,ni u.key,ni u.item]) FA42_1 hpu rfl;refine lg 27 p19 S (Yp19 rfl) (lg 27 (sc A2 u.seen.length c3) S (yp1 Ep19 T23) (lg 27 (pa g5 3) S (Yb FA104_3) (lg 27 (ni x.author) S (yb1 0 T3) (lg 27 (pa g5 4) S (Yb FA104_4) (lg 27 (ni x.seq) S (yb1 0 T3) ?_)))));refine l_cg (d':=27) (en_f (vs:=[sc A2 u.seen.length c3,ni x.author,ni x.seq]) (CF 83 _) rfl rfl) rfl rfl (Has_calls _ _ _ _ _ (fm hsv S.le)) ?_;rintro e w20 ⟨rfl,rfl⟩
  cases b21:hasC u.seen x.author x.seq
  ·
   refine ckd (ly (.bool false) S Yt (ly (.bool false) S Ya (ln (e_ret ?_))));refine ret1 (v:=.bool false) rfl rfl ?_;exact ⟨rbool (by unfold endsC;simp_all),S.below⟩
  refine ckd (ly (.bool true) S Yt (ly (.bool true) S Ya (ln (e_ret ?_))));refine ret1 (v:=.bool true) rfl rfl ?_;exact ⟨rbool (by unfold endsC;simp_all),S.below⟩
 refine lg 9 (.bool false) S (y_eqF rfl rfl h18) (ly (.bool false) S Yt (ly (.bool false) S Ym (ls 16 (ls 16 (ls 16 (l_su (d':=19) rfl rfl (l_su (d':=19) rfl rfl (l_su (d':=19) rfl rfl (l_su (d':=19) rfl rfl (l_su (d':=19) rfl rfl (ls 16 (ly (.bool false) S Yf (ly (.bool false) S Ym (ls 27 (ls 27 ?_)))))))))))))));refine ls 27 (ls 27 (ls 27 (ls 27 (ls 27 (ly (.bool false) S Yf (ly (.bool false) S Ya (ln (e_ret ?_))))))));refine ret1 (v:=.bool false) rfl rfl ?_;exact ⟨rbool (by unfold endsC;simp_all),S.below⟩
end Go.Proofs.YtkjknlnhffmkkacGreat
