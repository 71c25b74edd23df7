/- pruneref1.SameLog. -/
import Derived.Test.YtkjknlnhffmkkacGreatQUpdate3
import Derived.Test.YtkjknlnhffmkkacGreatQEg
import Derived.Test.YtkjknlnhffmkkacGreatQTy
namespace Go.Proofs.YtkjknlnhffmkkacGreat
open Go.RowKit
set_option linter.unusedVariables false
def sameLg (a b:List Upd):Bool:=decide (a = b)
set_option maxRecDepth 100000 in
set_option maxHeartbeats 4000000 in
theorem SameLog_c (rd:Rd) (W:World) (hle:Rd.le rd (wrd W)) (v v2:Value) (a b:List Upd) (h:SliceR 5 UpdR rd v a) (h2:SliceR 5 UpdR rd v2 b) :
    Calls Tryz.prog 46 #[v,v2] W (fun e w' => e = .returned (.bool (sameLg a b)) ∧ Below W.heap.size W w'):=by
 obtain ⟨A1,c2,rfl,m3,m3'⟩:=h.val;obtain ⟨A4,c5,rfl,m6,m6'⟩:=h2.val;have hmx:maxLen = 9223372036854775807:=rfl;have S:St [] W rd rd [] [] W:=St.start hle;refine e_enter (args:=[sc A1 a.length c2,sc A4 b.length c5]) 27 Tryz.func46 rfl rfl rfl ?_;refine er (ly (.bool false) S Ya (ln (e_seq (er (ly (sc A1 a.length c2) S Ym (ly (ni (a.length:Int)) S (Yl U28) (ly (sc A4 b.length c5) S Ym (ly (ni (b.length:Int)) S (Yl U28) ?_))))))));by_cases hl:(a.length:Int) = (b.length:Int)
 ·
  refine ly (.bool false) S (y_neF rfl rfl hl) (ln (e_cF rfl (e_skip (n_seq (e_seq (er (ly (sc A1 a.length c2) S Ym (ly (ni (a.length:Int)) S (Yl U28) (ly (ni 0) S Ym (ln (e_blk ?_)))))))))));refine et [(0,sc A1 a.length c2),(1,sc A4 b.length c5),(12,ni (a.length:Int)),(13,ni (0:Int))] (fun junk => ?_);refine e_loop (fun (gh_:Nat) ov w => match gh_ with | k => ∃ rd' junk,ov = [(0,sc A1 a.length c2),(1,sc A4 b.length c5),(12,ni (a.length:Int)),(13,ni (k:Int))] ++ junk ∧ St [] W rd rd' [] [] w ∧ Rd.le rd rd' ∧ k ≤ a.length ∧ a.take k = b.take k) (fun gh_ => match gh_ with | k => a.length - k) 0 ⟨_,junk,rfl,(S.rw' rfl rfl),(Rd.le_refl _),(by omega),rfl⟩ ?_;rintro k ov10 w8 ⟨rd7,junk,rfl,S,L9,hk,hE⟩;replace h:=fm h L9;replace h2:=fm h2 L9;refine er ?_;by_cases h11:(k:Int) < (a.length:Int)
  ·
   refine ly (.bool true) S (y_ltT rfl rfl h11) (ln (e_seq (e_cT rfl (e_skip (n_seq (e_seq (e_blk (er (ly (ni (k:Int)) S Ym (ly (ni (k:Int)) S Ya (ln (e_seq ?_))))))))))));refine e_q MX (by kernel_rfl) S.drew ?_;refine qy (sc A1 a.length c2) Ym (qy (ni (k:Int)) Ym ?_);obtain ⟨z12,hz13⟩:∃ z,(a)[k]? = some z:=nth_of (by first | assumption | omega);obtain ⟨p14,vs15,E16,nn17,r18,Y19⟩:=y_ia U28 SZ42 h hz13;clear nn17;obtain ⟨sv20,r18e,h21⟩:=r18;subst r18e;obtain ⟨A22,c23,rfl,m24,m24'⟩:=h21.val;refine qy p14 (Y19 rfl rfl (by first | rfl | omega)) (qy (.agg (kU z12 A22 c23)) (ypA E16 T42) (qy (sc A4 b.length c5) Ym (qy (ni (k:Int)) Ym ?_)));obtain ⟨z25,hz26⟩:∃ z,(b)[k]? = some z:=nth_of (by first | assumption | omega);obtain ⟨p27,vs28,E29,nn30,r31,Y32⟩:=y_ia U28 SZ42 h2 hz26;clear nn30;obtain ⟨sv33,r31e,h34⟩:=r31;subst r31e;obtain ⟨A35,c36,rfl,m37,m37'⟩:=h34.val;refine qy p27 (Y32 rfl rfl (by first | rfl | omega)) (qy (.agg (kU z25 A35 c36)) (ypA E29 T42) ?_)
   cases hs_:sameU z12 z25
   ·
    refine q_c (v:=.bool false) (en_f (vs:=[.agg (kU z12 A22 c23),.agg (kU z25 A35 c36)]) (CF 85 _) rfl rfl) (fun w S => (SameU_calls _ _ z12 z25 _ (am (⟨_,rfl,⟨_,rfl,h21⟩⟩:AggR UpdR rd7 _ z12) S.le) (am (⟨_,rfl,⟨_,rfl,h34⟩⟩:AggR UpdR rd7 _ z25) S.le)).mono (by rintro e w' ⟨rfl,k⟩;exact ⟨rbool (by assumption),(S.callq k)⟩)) ?_;refine qy (.bool true) (y_not rfl rfl) (q_nil fun w38 S => n_seq (e_cT rfl (er (ly (.bool false) S Ya (ln (e_ret ?_))))));refine ret1 (v:=.bool false) rfl rfl ?_;exact ⟨rbool (decide_eq_false (by rintro rfl;first | exact hl rfl | simp_all [sameU])).symm,S.below⟩
   refine q_c (v:=.bool true) (en_f (vs:=[.agg (kU z12 A22 c23),.agg (kU z25 A35 c36)]) (CF 85 _) rfl rfl) (fun w S => (SameU_calls _ _ z12 z25 _ (am (⟨_,rfl,⟨_,rfl,h21⟩⟩:AggR UpdR rd7 _ z12) S.le) (am (⟨_,rfl,⟨_,rfl,h34⟩⟩:AggR UpdR rd7 _ z25) S.le)).mono (by rintro e w' ⟨rfl,k⟩;exact ⟨rbool (by assumption),(S.callq k)⟩)) ?_;refine qy (.bool false) (y_not rfl rfl) (q_nil fun w39 S => n_seq (e_cF rfl (e_skip (n_blk (nr (ly (ni ((k:Int) + 1)) S (y_add (r:=(k:Int) + 1) rfl rfl (w64 (by omega) (by omega))) (ly (ni ((k:Int) + 1)) S Ym (l_nil ?_))))))));refine n_lp ⟨(k + 1),_,fk,⟨_,_,rfl,(S.tk 0 0 rfl rfl),(Rd.le_trans L9 (Rd.le_refl rd7)),(by omega),(by rw [take_snoc hz13,take_snoc hz26,hE,of_decide_eq_true hs_])⟩,?_⟩
   show _ < _;dsimp only;omega
  refine ly (.bool false) S (y_ltF rfl rfl h11) (ln (e_seq (e_cF rfl (e_exit (x_seq (x_lp (x_hit (n_seq (er (ly (.bool true) S Ya (ln (e_ret ?_))))))))))));refine ret1 (v:=.bool true) rfl rfl ?_;exact ⟨rbool (decide_eq_true (by rwa [List.take_of_length_le (by omega),List.take_of_length_le (by omega)] at hE)).symm,S.below⟩
 refine ly (.bool true) S (y_neT rfl rfl hl) (ln (e_cT rfl (er (ly (.bool false) S Ya (ln (e_ret ?_))))));refine ret1 (v:=.bool false) rfl rfl ?_;exact ⟨rbool (decide_eq_false (by rintro rfl;first | exact hl rfl | simp_all [sameU])).symm,S.below⟩
end Go.Proofs.YtkjknlnhffmkkacGreat
