/- What stays in one state, asked of another one. -/
import Derived.Test.YtkjknlnhffmkkacGreatQPl
import Derived.Test.YtkjknlnhffmkkacGreatQCmp
import Derived.Test.YtkjknlnhffmkkacGreatQEqs
import Derived.Test.YtkjknlnhffmkkacGreatQEg
import Derived.Test.YtkjknlnhffmkkacGreatQClock2
import Derived.Test.YtkjknlnhffmkkacGreatQClock3
namespace Go.Proofs.YtkjknlnhffmkkacGreat
open Go.RowKit
set_option linter.unusedVariables false
theorem idx_next {l : List Live} {x z : Live} {k : Nat} (hb : ∀ (j : Nat) (y : Live), j < k → l[j]? = some y → decide (x = y) = false) (hz : l[k]? = some z) (h : ¬ x = z) : ∀ (j : Nat) (y : Live), j < k + 1 → l[j]? = some y → decide (x = y) = false := fun j y hj hy => by
  by_cases e : j = k
  · subst e; rw [hz] at hy; injection hy with hy; subst hy; exact decide_eq_false h
  · exact hb j y (by omega) hy
theorem contains_idx {l : List Live} {x : Live} : l.contains x = decide (0 ≤ idxF (fun y => decide (x = y)) l) := by
  rw [idxF_any, List.contains_eq_any_beq]; rfl
set_option maxRecDepth 100000 in
theorem IndexL_c (rd : Rd) (W : World) (hle : Rd.le rd (wrd W)) (v u : Value) (l : List Live) (x : Live) (h : SliceR 5 LiveR rd v l) (h2 : AggR LiveR rd u x) :
    Calls Tryz.prog 112 #[v, u] W (fun e w' => e = .returned (.int .i64 (idxF (fun y => decide (x = y)) l)) ∧ Below W.heap.size W w') := by
 obtain ⟨A1, c2, rfl, m3, m3'⟩ := h.val
 obtain ⟨vs4, h2e, h2⟩ := h2; subst h2e
 have h2e : vs4 = [.bool x.set, ni x.key, ni x.item, ni x.author, ni x.seq] := h2; subst h2e; clear h2
 have hmx : maxLen = 9223372036854775807 := rfl
 have S : St [] W rd rd [] [] W := St.start hle
 refine e_enter (args := [.slice A1 l.length c2, .agg #[.bool x.set, ni x.key, ni x.item, ni x.author, ni x.seq]]) 19 Tryz.func112 rfl rfl rfl ?_
 refine e_seq ?_
 refine e_reg ?_
 refine l_bx (u := .agg #[.bool x.set, ni x.key, ni x.item, ni x.author, ni x.seq]) (cs := #[.bool x.set, ni x.key, ni x.item, ni x.author, ni x.seq]) S rfl rfl fun g5 w6 S => ?_
 refine l_y (v := ni 0) S (y_as rfl) ?_
 refine l_nil ?_
 refine n_seq ?_
 refine e_seq ?_
 refine e_seq ?_
 refine e_reg ?_
 refine l_y (v := .slice A1 l.length c2) S (y_mv rfl) ?_
 refine l_y (v := ni (l.length : Int)) S (y_len U24 rfl rfl) ?_
 refine l_y (v := ni 0) S (y_mv rfl) ?_
 refine l_nil ?_
 refine n_seq ?_
 refine e_blk ?_
 refine e_trim [(0, .slice A1 l.length c2), (3, pa g5 0), (7, ni (l.length : Int)), (8, ni (0 : Int))] ⟨⟨rfl, rfl⟩, ⟨rfl, rfl⟩, ⟨rfl, rfl⟩, ⟨ival (by first | rfl | omega), rfl⟩, trivial⟩ (fun junk => ?_)
 refine e_loop (fun (gh_ : Nat) ov w => match gh_ with | k => ∃ rd' junk, ov = [(0, .slice A1 l.length c2), (3, pa g5 0), (7, ni (l.length : Int)), (8, ni (k : Int))] ++ junk ∧ St [] W rd rd' [(g5, 104, #[.bool x.set, ni x.key, ni x.item, ni x.author, ni x.seq])] [] w ∧ Rd.le rd rd' ∧ k ≤ l.length ∧ (∀ (j : Nat) (y : Live), j < k → l[j]? = some y → decide (x = y) = false)) (fun gh_ => match gh_ with | k => l.length - k) 0 ⟨_, junk, rfl, (S.rw' rfl rfl), (Rd.le_refl _), (by omega), (fun j y h => absurd h (by omega))⟩ ?_
 rintro k ov10 w8 ⟨rd7, junk, rfl, S, L9, hk, hb⟩
 replace h := fm h L9
 refine e_seq ?_
 refine e_reg ?_
 by_cases h11 : (k : Int) < (l.length : Int)
 ·
  refine l_y (v := .bool true) S (y_ltT rfl rfl h11) ?_
  refine l_nil ?_
  refine n_seq ?_
  refine e_seq ?_
  refine e_cT rfl ?_
  refine e_skip ?_
  refine n_seq ?_
  refine e_seq ?_
  refine e_blk ?_
  refine e_seq ?_
  refine e_reg ?_
  refine l_y (v := ni (k : Int)) S (y_mv rfl) ?_
  refine l_y (v := ni (k : Int)) S (y_as rfl) ?_
  refine l_nil ?_
  refine n_seq ?_
  refine e_seq ?_
  refine e_q MX (by kernel_rfl) S.drew ?_
  refine q_y (v := .agg #[.bool x.set, ni x.key, ni x.item, ni x.author, ni x.seq]) (y_ld rfl (fun w S => ld_bA (vs := [.bool x.set, ni x.key, ni x.item, ni x.author, ni x.seq]) (i := 0) S rfl T104 rfl rfl)) ?_
  refine q_y (v := .slice A1 l.length c2) (y_mv rfl) ?_
  refine q_y (v := ni (k : Int)) (y_mv rfl) ?_
  obtain ⟨z12, hz13⟩ : ∃ z, (l)[k]? = some z := nth_of (by first | assumption | omega)
  obtain ⟨p14, vs15, E16, nn17, r18, Y19⟩ := y_ia U24 SZ104 h hz13
  clear nn17
  have r18e : vs15 = [.bool z12.set, ni z12.key, ni z12.item, ni z12.author, ni z12.seq] := r18; subst r18e; clear r18
  refine q_y (v := p14) (Y19 rfl rfl (by first | rfl | omega)) ?_
  refine q_y (v := .agg #[.bool z12.set, ni z12.key, ni z12.item, ni z12.author, ni z12.seq]) (y_ld rfl (fun w S => ld_pA (us := [.bool z12.set, ni z12.key, ni z12.item, ni z12.author, ni z12.seq]) S.le E16 T104 rfl rfl)) ?_
  by_cases hxz : x = z12
  ·
   refine q_y (v := .bool true) (y_eqa (fun _ _ _ => by kernel_rfl) (fun w => Live_eqT w hxz) rfl rfl) ?_
   refine q_nil fun w20 S => ?_
   refine n_seq ?_
   refine e_cT rfl ?_
   refine e_seq ?_
   refine e_reg ?_
   refine l_y (v := ni (k : Int)) S (y_mv rfl) ?_
   refine l_y (v := ni (k : Int)) S (y_as rfl) ?_
   refine l_nil ?_
   refine n_seq ?_
   refine e_ret ?_
   refine ret1 (v := ni (k : Int)) rfl rfl ?_
   exact ⟨rint (idxF_hit hz13 (decide_eq_true hxz) hb).symm, S.below⟩
  refine q_y (v := .bool false) (y_eqa (fun _ _ _ => by kernel_rfl) (fun w => Live_eqF w hxz) rfl rfl) ?_
  refine q_nil fun w21 S => ?_
  refine n_seq ?_
  refine e_cF rfl ?_
  refine e_skip ?_
  refine n_blk ?_
  refine n_seq ?_
  refine e_reg ?_
  refine l_y (v := ni ((k : Int) + 1)) S (y_add (r := (k : Int) + 1) rfl rfl (w64 (by omega) (by omega))) ?_
  refine l_y (v := ni ((k : Int) + 1)) S (y_mv rfl) ?_
  refine l_nil ?_
  refine n_lp ⟨(k + 1), _, fr_keep (m := [(0, .slice A1 l.length c2), (3, pa g5 0), (7, ni (l.length : Int)), (8, ni ((k + 1 : Nat) : Int))]) ⟨⟨rfl, rfl⟩, ⟨rfl, rfl⟩, ⟨rfl, rfl⟩, ⟨ival (by first | rfl | omega), rfl⟩, trivial⟩, ⟨_, _, rfl, (S.tk 1 0 rfl rfl), (Rd.le_trans L9 (Rd.le_refl rd7)), (by omega), (idx_next hb hz13 hxz)⟩, ?_⟩
  show _ < _; dsimp only; omega
 refine l_y (v := .bool false) S (y_ltF rfl rfl h11) ?_
 refine l_nil ?_
 refine n_seq ?_
 refine e_seq ?_
 refine e_cF rfl ?_
 refine e_exit ?_
 refine x_seq ?_
 refine x_lp ?_
 refine x_hit ?_
 refine n_seq ?_
 refine e_seq ?_
 refine e_reg ?_
 refine l_y (v := ni (-1)) S (y_as rfl) ?_
 refine l_nil ?_
 refine n_seq ?_
 refine e_ret ?_
 refine ret1 (v := ni (-1)) rfl rfl ?_
 exact ⟨rint (idxF_none fun j y hj => hb j y (by have := (List.getElem?_eq_some_iff.1 hj).1; omega) hj).symm, S.below⟩

set_option maxRecDepth 100000 in
theorem ContainsL_c (rd : Rd) (W : World) (hle : Rd.le rd (wrd W)) (v u : Value) (l : List Live) (x : Live) (h : SliceR 5 LiveR rd v l) (h2 : AggR LiveR rd u x) :
    Calls Tryz.prog 79 #[v, u] W (fun e w' => e = .returned (.bool (l.contains x)) ∧ Below W.heap.size W w') := by
 obtain ⟨A1, c2, rfl, m3, m3'⟩ := h.val
 obtain ⟨vs4, h2e, h2⟩ := h2; subst h2e
 have h2e : vs4 = [.bool x.set, ni x.key, ni x.item, ni x.author, ni x.seq] := h2; subst h2e; clear h2
 have hmx : maxLen = 9223372036854775807 := rfl
 have S : St [] W rd rd [] [] W := St.start hle
 refine e_enter (args := [.slice A1 l.length c2, .agg #[.bool x.set, ni x.key, ni x.item, ni x.author, ni x.seq]]) 9 Tryz.func79 rfl rfl rfl ?_
 refine e_seq ?_
 refine e_reg ?_
 refine l_bx (u := .agg #[.bool x.set, ni x.key, ni x.item, ni x.author, ni x.seq]) (cs := #[.bool x.set, ni x.key, ni x.item, ni x.author, ni x.seq]) S rfl rfl fun g5 w6 S => ?_
 refine l_y (v := .bool false) S (y_as rfl) ?_
 refine l_nil ?_
 refine n_seq ?_
 refine e_seq ?_
 refine e_reg ?_
 refine l_y (v := .slice A1 l.length c2) S (y_mv rfl) ?_
 refine l_y (v := .agg #[.bool x.set, ni x.key, ni x.item, ni x.author, ni x.seq]) S (y_ld rfl (fun w S => ld_bA (vs := [.bool x.set, ni x.key, ni x.item, ni x.author, ni x.seq]) (i := 0) S rfl T104 rfl rfl)) ?_
 refine l_c (en_f (vs := [.slice A1 l.length c2, .agg #[.bool x.set, ni x.key, ni x.item, ni x.author, ni x.seq]]) (CF 112 _) rfl rfl) (IndexL_c _ _ S.le _ _ l x h (⟨_, rfl, rfl⟩ : AggR LiveR rd _ x)) ?_
 rintro e w7 ⟨rfl, k⟩
 have S := S.callq k; clear k
 refine ckd ?_
 by_cases h0 : 0 ≤ idxF (fun y => decide (x = y)) l
 ·
  refine l_y (v := .bool true) S (y_geT rfl rfl h0) ?_
  refine l_y (v := .bool true) S (y_as rfl) ?_
  refine l_nil ?_
  refine n_seq ?_
  refine e_ret ?_
  refine ret1 (v := .bool true) rfl rfl ?_
  exact ⟨rbool (by rw [contains_idx]; exact (decide_eq_true h0).symm), S.below⟩
 refine l_y (v := .bool false) S (y_geF rfl rfl h0) ?_
 refine l_y (v := .bool false) S (y_as rfl) ?_
 refine l_nil ?_
 refine n_seq ?_
 refine e_ret ?_
 refine ret1 (v := .bool false) rfl rfl ?_
 exact ⟨rbool (by rw [contains_idx]; exact (decide_eq_false h0).symm), S.below⟩

set_option maxRecDepth 100000 in
theorem Stays_c (rd : Rd) (W : World) (hle : Rd.le rd (wrd W)) (v p s1 s2 s3 : Value) (x : Live) (o : State) (h : AggR LiveR rd v x) (hp : PtrC rd p [s1, s2, s3]) (h1 : SliceR 1 IntR rd s1 o.clock) (h2 : SliceR 5 LiveR rd s2 o.lives) (h3 : SliceR 3 TallyR rd s3 o.tallies) :
    Calls Tryz.prog 78 #[v, p] W (fun e w' => e = .returned (.bool (staysL o x)) ∧ Below W.heap.size W w') := by
 obtain ⟨vs1, he, h⟩ := h; subst he
 have he : vs1 = [.bool x.set, ni x.key, ni x.item, ni x.author, ni x.seq] := h; subst he; clear h
 obtain ⟨A2, c3, rfl, m4, m4'⟩ := h1.val
 obtain ⟨A5, c6, rfl, m7, m7'⟩ := h2.val
 obtain ⟨A8, c9, rfl, m10, m10'⟩ := h3.val
 have hmx : maxLen = 9223372036854775807 := rfl
 have S : St [] W rd rd [] [] W := St.start hle
 refine e_enter (args := [.agg #[.bool x.set, ni x.key, ni x.item, ni x.author, ni x.seq], p]) 23 Tryz.func78 rfl rfl rfl ?_
 refine e_seq ?_
 refine e_reg ?_
 refine l_bx (u := .agg #[.bool x.set, ni x.key, ni x.item, ni x.author, ni x.seq]) (cs := #[.bool x.set, ni x.key, ni x.item, ni x.author, ni x.seq]) S rfl rfl fun g11 w12 S => ?_
 refine l_y (v := .bool false) S (y_as rfl) ?_
 refine l_nil ?_
 refine n_seq ?_
 refine e_seq ?_
 refine e_q MX (by kernel_rfl) S.drew ?_
 refine q_y (v := p) (y_mv rfl) ?_
 refine q_y (v := p) (PtrC.nc hp rfl) ?_
 obtain ⟨p13, Ep13, Yp13⟩ := y_fp (us := [.slice A5 o.lives.length c6, .slice A8 o.tallies.length c9]) FA27_1 hp rfl
 refine q_y (v := p13) (Yp13 rfl) ?_
 refine q_y (v := .slice A5 o.lives.length c6) (y_ld rfl (fun w S => ld_p1 S.le Ep13 rfl T24)) ?_
 refine q_y (v := .agg #[.bool x.set, ni x.key, ni x.item, ni x.author, ni x.seq]) (y_ld rfl (fun w S => ld_bA (vs := [.bool x.set, ni x.key, ni x.item, ni x.author, ni x.seq]) (i := 0) S rfl T104 rfl rfl)) ?_
 cases b14 : (o.lives).contains x
 ·
  refine q_c (v := .bool false) (en_f (vs := [.slice A5 o.lives.length c6, .agg #[.bool x.set, ni x.key, ni x.item, ni x.author, ni x.seq]]) (CF 79 _) rfl rfl) (fun w S => (ContainsL_c _ _ S.le _ _ o.lives x h2 (⟨_, rfl, rfl⟩ : AggR LiveR rd _ x)).mono (by rintro e w' ⟨rfl, k⟩; exact ⟨rbool (by assumption), (S.callq k)⟩)) ?_
  refine q_y (v := .bool false) (y_mv rfl) ?_
  refine q_g (d' := 11) (v := p) (y_mv rfl) rfl rfl ?_
  refine q_g (d' := 11) (v := p) (PtrC.nc hp rfl) rfl rfl ?_
  obtain ⟨p15, Ep15, Yp15⟩ := y_fp (us := [.slice A2 o.clock.length c3, .slice A5 o.lives.length c6, .slice A8 o.tallies.length c9]) FA27_0 hp rfl
  refine q_g (d' := 11) (v := p15) (Yp15 rfl) rfl rfl ?_
  refine q_g (d' := 11) (v := .slice A2 o.clock.length c3) (y_ld rfl (fun w S => ld_p1 S.le Ep15 rfl T23)) rfl rfl ?_
  refine q_g (d' := 11) (v := pa g11 3) (y_fb FA104_3 rfl rfl) rfl rfl ?_
  refine q_g (d' := 11) (v := ni x.author) (y_ld rfl (fun w S => ld_b1 (i := 0) S rfl rfl T3)) rfl rfl ?_
  refine q_g (d' := 11) (v := pa g11 4) (y_fb FA104_4 rfl rfl) rfl rfl ?_
  refine q_g (d' := 11) (v := ni x.seq) (y_ld rfl (fun w S => ld_b1 (i := 0) S rfl rfl T3)) rfl rfl ?_
  cases b16 : hasC o.clock x.author x.seq
  ·
   refine q_cg (d' := 11) (v := .bool false) (en_f (vs := [.slice A2 o.clock.length c3, ni x.author, ni x.seq]) (CF 83 _) rfl rfl) rfl rfl (fun w S => (Has_calls _ _ _ _ _ (fm h1 S.le)).mono (by rintro e w' ⟨rfl, rfl⟩; exact ⟨rbool (by assumption), S⟩)) ?_
   refine q_g (d' := 11) (v := .bool true) (y_not rfl rfl) rfl rfl ?_
   refine q_y (v := .bool true) (y_pF rfl rfl) ?_
   refine q_y (v := .bool true) (y_as rfl) ?_
   refine q_nil fun w17 S => ?_
   refine n_seq ?_
   refine e_ret ?_
   refine ret1 (v := .bool true) rfl rfl ?_
   exact ⟨rbool (by unfold staysL; simp_all), S.below⟩
  refine q_cg (d' := 11) (v := .bool true) (en_f (vs := [.slice A2 o.clock.length c3, ni x.author, ni x.seq]) (CF 83 _) rfl rfl) rfl rfl (fun w S => (Has_calls _ _ _ _ _ (fm h1 S.le)).mono (by rintro e w' ⟨rfl, rfl⟩; exact ⟨rbool (by assumption), S⟩)) ?_
  refine q_g (d' := 11) (v := .bool false) (y_not rfl rfl) rfl rfl ?_
  refine q_y (v := .bool false) (y_pF rfl rfl) ?_
  refine q_y (v := .bool false) (y_as rfl) ?_
  refine q_nil fun w18 S => ?_
  refine n_seq ?_
  refine e_ret ?_
  refine ret1 (v := .bool false) rfl rfl ?_
  exact ⟨rbool (by unfold staysL; simp_all), S.below⟩
 refine q_c (v := .bool true) (en_f (vs := [.slice A5 o.lives.length c6, .agg #[.bool x.set, ni x.key, ni x.item, ni x.author, ni x.seq]]) (CF 79 _) rfl rfl) (fun w S => (ContainsL_c _ _ S.le _ _ o.lives x h2 (⟨_, rfl, rfl⟩ : AggR LiveR rd _ x)).mono (by rintro e w' ⟨rfl, k⟩; exact ⟨rbool (by assumption), (S.callq k)⟩)) ?_
 refine q_y (v := .bool true) (y_mv rfl) ?_
 refine q_s (d' := 11) rfl rfl ?_
 refine q_s (d' := 11) rfl rfl ?_
 refine q_s (d' := 11) rfl rfl ?_
 refine q_s (d' := 11) rfl rfl ?_
 refine q_s (d' := 11) rfl rfl ?_
 refine q_s (d' := 11) rfl rfl ?_
 refine q_s (d' := 11) rfl rfl ?_
 refine q_s (d' := 11) rfl rfl ?_
 refine q_s (d' := 11) rfl rfl ?_
 refine q_s (d' := 11) rfl rfl ?_
 refine q_y (v := .bool true) (y_pT rfl rfl) ?_
 refine q_y (v := .bool true) (y_as rfl) ?_
 refine q_nil fun w19 S => ?_
 refine n_seq ?_
 refine e_ret ?_
 refine ret1 (v := .bool true) rfl rfl ?_
 exact ⟨rbool (by unfold staysL; simp_all), S.below⟩
end Go.Proofs.YtkjknlnhffmkkacGreat
