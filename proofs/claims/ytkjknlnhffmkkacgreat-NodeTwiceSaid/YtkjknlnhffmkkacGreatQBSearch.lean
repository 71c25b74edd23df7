/- slices.BinarySearchFunc at lives and tallies. -/
import Derived.Test.YtkjknlnhffmkkacGreatQCmp
namespace Go.Proofs.YtkjknlnhffmkkacGreat
open Go.RowKit
set_option linter.unusedVariables false
section
variable {α : Type} {l : List α} {f : α → Int} {k : Nat} {z : α}
theorem bs_lo (hm : ∀ (a b : Nat) y z, a ≤ b → l[a]? = some y → l[b]? = some z → f z < 0 → f y < 0) (hz : l[k]? = some z) (hc : f z < 0) : ∀ (a : Nat) y, a < k + 1 → l[a]? = some y → f y < 0 := fun a y ha hy => hm a k y z (by omega) hy hz hc
theorem bs_hi (hm : ∀ (a b : Nat) y z, a ≤ b → l[a]? = some y → l[b]? = some z → f z < 0 → f y < 0) (hz : l[k]? = some z) (hc : ¬ f z < 0) : ∀ (a : Nat) y, k ≤ a → l[a]? = some y → 0 ≤ f y := fun a y ha hy => by
  rcases Int.lt_or_le (f y) 0 with h | h
  · exact absurd (hm k a z y ha hz hy h) hc
  · exact h
end
set_option maxRecDepth 100000 in
theorem BsL_c (rd : Rd) (W : World) (hle : Rd.le rd (wrd W)) (v u : Value) (l : List Live) (t : Live) (h : SliceR 5 LiveR rd v l) (h2 : AggR LiveR rd u t) (hbig : l.length ≤ 4611686018427387904) (hmono : ∀ (a b : Nat) y z, a ≤ b → l[a]? = some y → l[b]? = some z → ordL z t < 0 → ordL y t < 0) :
    Calls Tryz.prog 119 #[v, u, (.func (.func 86) #[] #[])] W (fun e w' => ∃ (i : Nat) (b : Bool), e = .returned (.tuple #[.int .i64 i, .bool b]) ∧ i ≤ l.length ∧ (∀ (a : Nat) y, a < i → l[a]? = some y → ordL y t < 0) ∧ (∀ (a : Nat) y, i ≤ a → l[a]? = some y → 0 ≤ ordL y t) ∧ (b = true → ∃ z, l[i]? = some z ∧ ordL z t = 0) ∧ (b = false → ∀ z, l[i]? = some z → ordL z t ≠ 0) ∧ Below W.heap.size W w') := by
 obtain ⟨A1, c2, rfl, m3, m3'⟩ := h.val
 obtain ⟨vs4, h2e, h2⟩ := h2; subst h2e
 have h2e : vs4 = [.bool t.set, ni t.key, ni t.item, ni t.author, ni t.seq] := h2; subst h2e; clear h2
 have hmx : maxLen = 9223372036854775807 := rfl
 have S : St [] W rd rd [] [] W := St.start hle
 refine e_enter (args := [.slice A1 l.length c2, .agg #[.bool t.set, ni t.key, ni t.item, ni t.author, ni t.seq], .func (.func 86) #[] #[]]) 49 Tryz.func119 rfl rfl rfl ?_
 refine e_seq ?_
 refine e_reg ?_
 refine l_bx (u := .agg #[.bool t.set, ni t.key, ni t.item, ni t.author, ni t.seq]) (cs := #[.bool t.set, ni t.key, ni t.item, ni t.author, ni t.seq]) S rfl rfl fun g5 w6 S => ?_
 refine l_y (v := ni 0) S (y_as rfl) ?_
 refine l_y (v := .bool false) S (y_as rfl) ?_
 refine l_nil ?_
 refine n_seq ?_
 refine e_seq ?_
 refine e_reg ?_
 refine l_y (v := .slice A1 l.length c2) S (y_mv rfl) ?_
 refine l_y (v := ni (l.length : Int)) S (y_len U24 rfl rfl) ?_
 refine l_y (v := ni (l.length : Int)) S (y_as rfl) ?_
 refine l_nil ?_
 refine n_seq ?_
 refine e_seq ?_
 refine e_reg ?_
 refine l_y (v := ni (l.length : Int)) S (y_mv rfl) ?_
 refine l_y (v := ni 0) S (y_as rfl) ?_
 refine l_y (v := ni (l.length : Int)) S (y_as rfl) ?_
 refine l_nil ?_
 refine n_seq ?_
 refine e_seq ?_
 refine e_blk ?_
 refine e_trim [(0, .slice A1 l.length c2), (2, .func (.func 86) #[] #[]), (4, pa g5 0), (6, ni 0), (7, .bool false), (8, ni (l.length : Int)), (9, ni (0 : Int)), (10, ni ((l.length : Nat) : Int))] ⟨⟨rfl, rfl⟩, ⟨rfl, rfl⟩, ⟨rfl, rfl⟩, ⟨rfl, rfl⟩, ⟨rfl, rfl⟩, ⟨rfl, rfl⟩, ⟨ival (by first | rfl | omega), rfl⟩, ⟨ival (by first | rfl | omega), rfl⟩, trivial⟩ (fun junk => ?_)
 refine e_loop (fun (gh_ : Nat × Nat) ov w => match gh_ with | (i, j) => ∃ rd' junk, ov = [(0, .slice A1 l.length c2), (2, .func (.func 86) #[] #[]), (4, pa g5 0), (6, ni 0), (7, .bool false), (8, ni (l.length : Int)), (9, ni (i : Int)), (10, ni (j : Int))] ++ junk ∧ St [] W rd rd' [(g5, 104, #[.bool t.set, ni t.key, ni t.item, ni t.author, ni t.seq])] [] w ∧ Rd.le rd rd' ∧ i ≤ j ∧ j ≤ l.length ∧ (∀ (a : Nat) y, a < i → l[a]? = some y → ordL y t < 0) ∧ (∀ (a : Nat) y, j ≤ a → l[a]? = some y → 0 ≤ ordL y t)) (fun gh_ => match gh_ with | (i, j) => j - i) (0, l.length) ⟨_, junk, rfl, (S.rw' rfl rfl), (Rd.le_refl _), (by omega), (by omega), (fun a y h => absurd h (Nat.not_lt_zero _)), (fun a y h hy => absurd (List.getElem?_eq_some_iff.1 hy).1 (by omega))⟩ ?_
 rintro ⟨i, j⟩ ov10 w8 ⟨rd7, junk, rfl, S, L9, hij, hj, ha, hb⟩
 replace h := fm h L9
 refine e_seq ?_
 refine e_seq ?_
 refine e_reg ?_
 refine l_y (v := ni (i : Int)) S (y_mv rfl) ?_
 refine l_y (v := ni (j : Int)) S (y_mv rfl) ?_
 by_cases hlt : (i : Int) < (j : Int)
 ·
  refine l_y (v := .bool true) S (y_ltT rfl rfl hlt) ?_
  refine l_nil ?_
  refine n_seq ?_
  refine e_cT rfl ?_
  refine e_skip ?_
  refine n_seq ?_
  refine e_blk ?_
  refine e_seq ?_
  refine e_reg ?_
  refine l_y (v := ni (i : Int)) S (y_mv rfl) ?_
  refine l_y (v := ni (j : Int)) S (y_mv rfl) ?_
  refine l_y (v := ni ((i : Int) + (j : Int))) S (y_add (r := (i : Int) + (j : Int)) rfl rfl (w64 (by omega) (by omega))) ?_
  refine l_y (v := .int .u64 ((i : Int) + (j : Int))) S (y_cv rfl (cv_int (r := (i : Int) + (j : Int)) U3 U167 (IntWalk.u64_in _ (by omega)))) ?_
  refine l_y (v := .int .u64 (((i : Int) + (j : Int)) / 2)) S (y_shr (n := 1) (r := ((i : Int) + (j : Int)) / 2) rfl rfl (by decide) (rfl)) ?_
  refine l_y (v := ni (((i : Int) + (j : Int)) / 2)) S (y_cv rfl (cv_int (r := ((i : Int) + (j : Int)) / 2) U167 U3 (w64 (by omega) (by omega)))) ?_
  refine l_y (v := ni (((i : Int) + (j : Int)) / 2)) S (y_as rfl) ?_
  refine l_nil ?_
  refine n_seq ?_
  refine e_seq ?_
  refine e_a (fun w => St [] W rd rd7 [(g5, 104, #[.bool t.set, ni t.key, ni t.item, ni t.author, ni t.seq])] [] w) MX rfl ?_
  have S := S.drew; have sup11 := S.sup
  have SC := (S.tk 1 0 rfl rfl)
  refine a_tk (v := .func (.func 86) #[] #[]) 0 rfl rfl SC rfl (y_mv rfl) ?_
  refine a_tk (v := .slice A1 l.length c2) 1 rfl rfl SC rfl (y_mv rfl) ?_
  refine a_tk (v := ni (((i : Int) + (j : Int)) / 2)) 2 rfl rfl SC rfl (y_mv rfl) ?_
  obtain ⟨z12, hz13⟩ : ∃ z, (l)[((i + j) / 2)]? = some z := nth_of (by first | assumption | omega)
  obtain ⟨p14, vs15, E16, nn17, r18, Y19⟩ := y_ia U24 SZ104 h hz13
  clear nn17
  have r18e : vs15 = [.bool z12.set, ni z12.key, ni z12.item, ni z12.author, ni z12.seq] := r18; subst r18e; clear r18
  refine a_tk (v := p14) 3 rfl rfl SC rfl (Y19 rfl rfl (by first | rfl | omega)) ?_
  refine a_tk (v := .agg #[.bool z12.set, ni z12.key, ni z12.item, ni z12.author, ni z12.seq]) 4 rfl rfl SC rfl (y_ld rfl (fun w S => ld_pA (us := [.bool z12.set, ni z12.key, ni z12.item, ni z12.author, ni z12.seq]) S.le E16 T104 rfl rfl)) ?_
  refine a_tk (v := .agg #[.bool t.set, ni t.key, ni t.item, ni t.author, ni t.seq]) 5 rfl rfl SC rfl (y_ld rfl (fun w S => ld_bA (vs := [.bool t.set, ni t.key, ni t.item, ni t.author, ni t.seq]) (i := 0) S rfl T104 rfl rfl)) ?_
  refine a_all (rs := [6]) (by kernel_rfl) rfl ?_
  refine aa_cons rfl ?_ ?_
  ·
   refine l_c (en_f (vs := [.agg #[.bool z12.set, ni z12.key, ni z12.item, ni z12.author, ni z12.seq], .agg #[.bool t.set, ni t.key, ni t.item, ni t.author, ni t.seq]]) (CF 86 _) rfl rfl) (Order_c _ _ S.le _ _ _ _ (⟨_, rfl, rfl⟩ : AggR LiveR rd7 _ z12) (⟨_, rfl, rfl⟩ : AggR LiveR rd7 _ t)) ?_
   rintro e w20 ⟨rfl, k⟩
   have S := S.callq k; clear k
   refine ckd ?_
   refine l_nil ?_
   have SC := (S.tk 1 0 rfl rfl)
   refine n_lp (ak SC ?_)
   by_cases hc : ordL z12 t < 0
   ·
    refine a_tk (v := .bool true) 7 rfl rfl SC rfl (y_ltT rfl rfl hc) ?_
    refine a_done (by kernel_rfl) ?_
    clear SC
    refine n_seq ?_
    refine e_cT rfl ?_
    refine e_reg ?_
    refine l_y (v := ni (((i : Int) + (j : Int)) / 2)) S (y_mv rfl) ?_
    refine l_y (v := ni ((((i : Int) + (j : Int)) / 2) + 1)) S (y_add (r := (((i : Int) + (j : Int)) / 2) + 1) rfl rfl (w64 (by omega) (by omega))) ?_
    refine l_y (v := ni ((((i : Int) + (j : Int)) / 2) + 1)) S (y_as rfl) ?_
    refine l_nil ?_
    refine n_blk ?_
    refine n_lp ⟨(((i + j) / 2 + 1), j), _, fr_keep (m := [(0, .slice A1 l.length c2), (2, .func (.func 86) #[] #[]), (4, pa g5 0), (6, ni 0), (7, .bool false), (8, ni (l.length : Int)), (9, ni ((((i + j) / 2 + 1) : Nat) : Int)), (10, ni (j : Int))]) ⟨⟨rfl, rfl⟩, ⟨rfl, rfl⟩, ⟨rfl, rfl⟩, ⟨rfl, rfl⟩, ⟨rfl, rfl⟩, ⟨rfl, rfl⟩, ⟨ival (by first | rfl | omega), rfl⟩, ⟨rfl, rfl⟩, trivial⟩, ⟨_, _, rfl, (S.tk 1 0 rfl rfl), (Rd.le_trans L9 (Rd.le_refl rd7)), (by omega), (by omega), (bs_lo hmono hz13 hc), hb⟩, ?_⟩
    show _ < _; dsimp only; omega
   refine a_tk (v := .bool false) 7 rfl rfl SC rfl (y_ltF rfl rfl hc) ?_
   refine a_done (by kernel_rfl) ?_
   clear SC
   refine n_seq ?_
   refine e_cF rfl ?_
   refine e_reg ?_
   refine l_y (v := ni (((i : Int) + (j : Int)) / 2)) S (y_mv rfl) ?_
   refine l_y (v := ni (((i : Int) + (j : Int)) / 2)) S (y_as rfl) ?_
   refine l_nil ?_
   refine n_blk ?_
   refine n_lp ⟨(i, ((i + j) / 2)), _, fr_keep (m := [(0, .slice A1 l.length c2), (2, .func (.func 86) #[] #[]), (4, pa g5 0), (6, ni 0), (7, .bool false), (8, ni (l.length : Int)), (9, ni (i : Int)), (10, ni ((((i + j) / 2) : Nat) : Int))]) ⟨⟨rfl, rfl⟩, ⟨rfl, rfl⟩, ⟨rfl, rfl⟩, ⟨rfl, rfl⟩, ⟨rfl, rfl⟩, ⟨rfl, rfl⟩, ⟨rfl, rfl⟩, ⟨ival (by first | rfl | omega), rfl⟩, trivial⟩, ⟨_, _, rfl, (S.tk 1 0 rfl rfl), (Rd.le_trans L9 (Rd.le_refl rd7)), (by omega), (by omega), ha, (bs_hi hmono hz13 hc)⟩, ?_⟩
   show _ < _; dsimp only; omega
  exact aa_nil
 refine l_y (v := .bool false) S (y_ltF rfl rfl hlt) ?_
 refine l_nil ?_
 refine n_seq ?_
 refine e_cF rfl ?_
 refine e_exit ?_
 refine x_seq ?_
 refine x_lp ?_
 refine x_hit ?_
 refine n_seq ?_
 refine e_seq ?_
 refine e_a (fun w => St [] W rd rd7 [(g5, 104, #[.bool t.set, ni t.key, ni t.item, ni t.author, ni t.seq])] [] w) MX rfl ?_
 have S := S.drew; have sup21 := S.sup
 have SC := (S.tk 1 0 rfl rfl)
 refine a_tk (v := ni (i : Int)) 0 rfl rfl SC rfl (y_mv rfl) ?_
 refine a_tk (v := ni (i : Int)) 1 rfl rfl SC rfl (y_mv rfl) ?_
 refine a_tk (v := ni (l.length : Int)) 2 rfl rfl SC rfl (y_mv rfl) ?_
 by_cases h22 : (i : Int) < (l.length : Int)
 ·
  refine a_tk (v := .bool true) 3 rfl rfl SC rfl (y_ltT rfl rfl h22) ?_
  refine a_tk (v := .bool true) 4 rfl rfl SC rfl (y_mv rfl) ?_
  refine a_tkg (d' := 39) (v := .func (.func 86) #[] #[]) 5 rfl rfl SC rfl rfl rfl (y_mv rfl) ?_
  refine a_tkg (d' := 39) (v := .slice A1 l.length c2) 6 rfl rfl SC rfl rfl rfl (y_mv rfl) ?_
  refine a_tkg (d' := 39) (v := ni (i : Int)) 7 rfl rfl SC rfl rfl rfl (y_mv rfl) ?_
  obtain ⟨z23, hz24⟩ : ∃ z, (l)[i]? = some z := nth_of (by first | assumption | omega)
  obtain ⟨p25, vs26, E27, nn28, r29, Y30⟩ := y_ia U24 SZ104 h hz24
  clear nn28
  have r29e : vs26 = [.bool z23.set, ni z23.key, ni z23.item, ni z23.author, ni z23.seq] := r29; subst r29e; clear r29
  refine a_tkg (d' := 39) (v := p25) 8 rfl rfl SC rfl rfl rfl (Y30 rfl rfl (by first | rfl | omega)) ?_
  refine a_tkg (d' := 39) (v := .agg #[.bool z23.set, ni z23.key, ni z23.item, ni z23.author, ni z23.seq]) 9 rfl rfl SC rfl rfl rfl (y_ld rfl (fun w S => ld_pA (us := [.bool z23.set, ni z23.key, ni z23.item, ni z23.author, ni z23.seq]) S.le E27 T104 rfl rfl)) ?_
  refine a_tkg (d' := 39) (v := .agg #[.bool t.set, ni t.key, ni t.item, ni t.author, ni t.seq]) 10 rfl rfl SC rfl rfl rfl (y_ld rfl (fun w S => ld_bA (vs := [.bool t.set, ni t.key, ni t.item, ni t.author, ni t.seq]) (i := 0) S rfl T104 rfl rfl)) ?_
  refine a_all (rs := [11]) (by kernel_rfl) rfl ?_
  refine aa_cons rfl ?_ ?_
  ·
   refine l_cg (d' := 39) (en_f (vs := [.agg #[.bool z23.set, ni z23.key, ni z23.item, ni z23.author, ni z23.seq], .agg #[.bool t.set, ni t.key, ni t.item, ni t.author, ni t.seq]]) (CF 86 _) rfl rfl) rfl rfl (Order_c _ _ S.le _ _ _ _ (⟨_, rfl, rfl⟩ : AggR LiveR rd7 _ z23) (⟨_, rfl, rfl⟩ : AggR LiveR rd7 _ t)) ?_
   rintro e w31 ⟨rfl, k⟩
   have S := S.callq k; clear k
   refine ckd ?_
   refine l_nil ?_
   have SC := (S.tk 1 0 rfl rfl)
   refine n_lp (ak SC ?_)
   by_cases heq : ordL z23 t = 0
   ·
    refine a_tkg (d' := 39) (v := .bool true) 12 rfl rfl SC rfl rfl rfl (y_eqT rfl rfl heq) ?_
    refine a_tk (v := .bool true) 13 rfl rfl SC rfl (y_pT rfl rfl) ?_
    refine a_tk (v := ni (i : Int)) 14 rfl rfl SC rfl (y_as rfl) ?_
    refine a_tk (v := .bool true) 15 rfl rfl SC rfl (y_as rfl) ?_
    refine a_done (by kernel_rfl) ?_
    clear SC
    refine n_seq ?_
    refine e_ret ?_
    refine ret2 (v := ni (i : Int)) (v' := .bool true) rfl rfl rfl ?_
    obtain rfl : i = j := by omega
    exact ⟨i, true, rfl, by omega, ha, hb, fun _ => ⟨_, hz24, heq⟩, fun h => by (cases h), S.below⟩
   refine a_tkg (d' := 39) (v := .bool false) 12 rfl rfl SC rfl rfl rfl (y_eqF rfl rfl heq) ?_
   refine a_tk (v := .bool false) 13 rfl rfl SC rfl (y_pT rfl rfl) ?_
   refine a_tk (v := ni (i : Int)) 14 rfl rfl SC rfl (y_as rfl) ?_
   refine a_tk (v := .bool false) 15 rfl rfl SC rfl (y_as rfl) ?_
   refine a_done (by kernel_rfl) ?_
   clear SC
   refine n_seq ?_
   refine e_ret ?_
   refine ret2 (v := ni (i : Int)) (v' := .bool false) rfl rfl rfl ?_
   obtain rfl : i = j := by omega
   exact ⟨i, false, rfl, by omega, ha, hb, fun h => by (cases h), fun _ y hy => by (rw [hz24] at hy; cases hy; exact heq), S.below⟩
  exact aa_nil
 refine a_tk (v := .bool false) 3 rfl rfl SC rfl (y_ltF rfl rfl h22) ?_
 refine a_tk (v := .bool false) 4 rfl rfl SC rfl (y_mv rfl) ?_
 refine a_sk (d' := 39) 5 rfl rfl SC rfl rfl rfl ?_
 refine a_sk (d' := 39) 6 rfl rfl SC rfl rfl rfl ?_
 refine a_sk (d' := 39) 7 rfl rfl SC rfl rfl rfl ?_
 refine a_sk (d' := 39) 8 rfl rfl SC rfl rfl rfl ?_
 refine a_sk (d' := 39) 9 rfl rfl SC rfl rfl rfl ?_
 refine a_sk (d' := 39) 10 rfl rfl SC rfl rfl rfl ?_
 refine a_sk (d' := 39) 11 rfl rfl SC rfl rfl rfl ?_
 refine a_sk (d' := 39) 12 rfl rfl SC rfl rfl rfl ?_
 refine a_tk (v := .bool false) 13 rfl rfl SC rfl (y_pF rfl rfl) ?_
 refine a_tk (v := ni (i : Int)) 14 rfl rfl SC rfl (y_as rfl) ?_
 refine a_tk (v := .bool false) 15 rfl rfl SC rfl (y_as rfl) ?_
 refine a_done (by kernel_rfl) ?_
 clear SC
 refine n_seq ?_
 refine e_ret ?_
 refine ret2 (v := ni (i : Int)) (v' := .bool false) rfl rfl rfl ?_
 obtain rfl : i = j := by omega
 exact ⟨i, false, rfl, by omega, ha, hb, fun h => by (cases h), fun _ z hz => absurd (List.getElem?_eq_some_iff.1 hz).1 (by omega), S.below⟩

set_option maxRecDepth 100000 in
theorem BsT_c (rd : Rd) (W : World) (hle : Rd.le rd (wrd W)) (v u : Value) (l : List Tally) (t : Tally) (h : SliceR 3 TallyR rd v l) (h2 : AggR TallyR rd u t) (hbig : l.length ≤ 4611686018427387904) (hmono : ∀ (a b : Nat) y z, a ≤ b → l[a]? = some y → l[b]? = some z → ordT z t < 0 → ordT y t < 0) :
    Calls Tryz.prog 130 #[v, u, (.func (.func 87) #[] #[])] W (fun e w' => ∃ (i : Nat) (b : Bool), e = .returned (.tuple #[.int .i64 i, .bool b]) ∧ i ≤ l.length ∧ (∀ (a : Nat) y, a < i → l[a]? = some y → ordT y t < 0) ∧ (∀ (a : Nat) y, i ≤ a → l[a]? = some y → 0 ≤ ordT y t) ∧ (b = true → ∃ z, l[i]? = some z ∧ ordT z t = 0) ∧ (b = false → ∀ z, l[i]? = some z → ordT z t ≠ 0) ∧ Below W.heap.size W w') := by
 obtain ⟨A1, c2, rfl, m3, m3'⟩ := h.val
 obtain ⟨vs4, h2e, h2⟩ := h2; subst h2e
 have h2e : vs4 = [ni t.key, ni t.author, ni t.sum] := h2; subst h2e; clear h2
 have hmx : maxLen = 9223372036854775807 := rfl
 have S : St [] W rd rd [] [] W := St.start hle
 refine e_enter (args := [.slice A1 l.length c2, .agg #[ni t.key, ni t.author, ni t.sum], .func (.func 87) #[] #[]]) 49 Tryz.func130 rfl rfl rfl ?_
 refine e_seq ?_
 refine e_reg ?_
 refine l_bx (u := .agg #[ni t.key, ni t.author, ni t.sum]) (cs := #[ni t.key, ni t.author, ni t.sum]) S rfl rfl fun g5 w6 S => ?_
 refine l_y (v := ni 0) S (y_as rfl) ?_
 refine l_y (v := .bool false) S (y_as rfl) ?_
 refine l_nil ?_
 refine n_seq ?_
 refine e_seq ?_
 refine e_reg ?_
 refine l_y (v := .slice A1 l.length c2) S (y_mv rfl) ?_
 refine l_y (v := ni (l.length : Int)) S (y_len U25 rfl rfl) ?_
 refine l_y (v := ni (l.length : Int)) S (y_as rfl) ?_
 refine l_nil ?_
 refine n_seq ?_
 refine e_seq ?_
 refine e_reg ?_
 refine l_y (v := ni (l.length : Int)) S (y_mv rfl) ?_
 refine l_y (v := ni 0) S (y_as rfl) ?_
 refine l_y (v := ni (l.length : Int)) S (y_as rfl) ?_
 refine l_nil ?_
 refine n_seq ?_
 refine e_seq ?_
 refine e_blk ?_
 refine e_trim [(0, .slice A1 l.length c2), (2, .func (.func 87) #[] #[]), (4, pa g5 0), (6, ni 0), (7, .bool false), (8, ni (l.length : Int)), (9, ni (0 : Int)), (10, ni ((l.length : Nat) : Int))] ⟨⟨rfl, rfl⟩, ⟨rfl, rfl⟩, ⟨rfl, rfl⟩, ⟨rfl, rfl⟩, ⟨rfl, rfl⟩, ⟨rfl, rfl⟩, ⟨ival (by first | rfl | omega), rfl⟩, ⟨ival (by first | rfl | omega), rfl⟩, trivial⟩ (fun junk => ?_)
 refine e_loop (fun (gh_ : Nat × Nat) ov w => match gh_ with | (i, j) => ∃ rd' junk, ov = [(0, .slice A1 l.length c2), (2, .func (.func 87) #[] #[]), (4, pa g5 0), (6, ni 0), (7, .bool false), (8, ni (l.length : Int)), (9, ni (i : Int)), (10, ni (j : Int))] ++ junk ∧ St [] W rd rd' [(g5, 106, #[ni t.key, ni t.author, ni t.sum])] [] w ∧ Rd.le rd rd' ∧ i ≤ j ∧ j ≤ l.length ∧ (∀ (a : Nat) y, a < i → l[a]? = some y → ordT y t < 0) ∧ (∀ (a : Nat) y, j ≤ a → l[a]? = some y → 0 ≤ ordT y t)) (fun gh_ => match gh_ with | (i, j) => j - i) (0, l.length) ⟨_, junk, rfl, (S.rw' rfl rfl), (Rd.le_refl _), (by omega), (by omega), (fun a y h => absurd h (Nat.not_lt_zero _)), (fun a y h hy => absurd (List.getElem?_eq_some_iff.1 hy).1 (by omega))⟩ ?_
 rintro ⟨i, j⟩ ov10 w8 ⟨rd7, junk, rfl, S, L9, hij, hj, ha, hb⟩
 replace h := fm h L9
 refine e_seq ?_
 refine e_seq ?_
 refine e_reg ?_
 refine l_y (v := ni (i : Int)) S (y_mv rfl) ?_
 refine l_y (v := ni (j : Int)) S (y_mv rfl) ?_
 by_cases hlt : (i : Int) < (j : Int)
 ·
  refine l_y (v := .bool true) S (y_ltT rfl rfl hlt) ?_
  refine l_nil ?_
  refine n_seq ?_
  refine e_cT rfl ?_
  refine e_skip ?_
  refine n_seq ?_
  refine e_blk ?_
  refine e_seq ?_
  refine e_reg ?_
  refine l_y (v := ni (i : Int)) S (y_mv rfl) ?_
  refine l_y (v := ni (j : Int)) S (y_mv rfl) ?_
  refine l_y (v := ni ((i : Int) + (j : Int))) S (y_add (r := (i : Int) + (j : Int)) rfl rfl (w64 (by omega) (by omega))) ?_
  refine l_y (v := .int .u64 ((i : Int) + (j : Int))) S (y_cv rfl (cv_int (r := (i : Int) + (j : Int)) U3 U167 (IntWalk.u64_in _ (by omega)))) ?_
  refine l_y (v := .int .u64 (((i : Int) + (j : Int)) / 2)) S (y_shr (n := 1) (r := ((i : Int) + (j : Int)) / 2) rfl rfl (by decide) (rfl)) ?_
  refine l_y (v := ni (((i : Int) + (j : Int)) / 2)) S (y_cv rfl (cv_int (r := ((i : Int) + (j : Int)) / 2) U167 U3 (w64 (by omega) (by omega)))) ?_
  refine l_y (v := ni (((i : Int) + (j : Int)) / 2)) S (y_as rfl) ?_
  refine l_nil ?_
  refine n_seq ?_
  refine e_seq ?_
  refine e_a (fun w => St [] W rd rd7 [(g5, 106, #[ni t.key, ni t.author, ni t.sum])] [] w) MX rfl ?_
  have S := S.drew; have sup11 := S.sup
  have SC := (S.tk 1 0 rfl rfl)
  refine a_tk (v := .func (.func 87) #[] #[]) 0 rfl rfl SC rfl (y_mv rfl) ?_
  refine a_tk (v := .slice A1 l.length c2) 1 rfl rfl SC rfl (y_mv rfl) ?_
  refine a_tk (v := ni (((i : Int) + (j : Int)) / 2)) 2 rfl rfl SC rfl (y_mv rfl) ?_
  obtain ⟨z12, hz13⟩ : ∃ z, (l)[((i + j) / 2)]? = some z := nth_of (by first | assumption | omega)
  obtain ⟨p14, vs15, E16, nn17, r18, Y19⟩ := y_ia U25 SZ106 h hz13
  clear nn17
  have r18e : vs15 = [ni z12.key, ni z12.author, ni z12.sum] := r18; subst r18e; clear r18
  refine a_tk (v := p14) 3 rfl rfl SC rfl (Y19 rfl rfl (by first | rfl | omega)) ?_
  refine a_tk (v := .agg #[ni z12.key, ni z12.author, ni z12.sum]) 4 rfl rfl SC rfl (y_ld rfl (fun w S => ld_pA (us := [ni z12.key, ni z12.author, ni z12.sum]) S.le E16 T106 rfl rfl)) ?_
  refine a_tk (v := .agg #[ni t.key, ni t.author, ni t.sum]) 5 rfl rfl SC rfl (y_ld rfl (fun w S => ld_bA (vs := [ni t.key, ni t.author, ni t.sum]) (i := 0) S rfl T106 rfl rfl)) ?_
  refine a_all (rs := [6]) (by kernel_rfl) rfl ?_
  refine aa_cons rfl ?_ ?_
  ·
   refine l_c (en_f (vs := [.agg #[ni z12.key, ni z12.author, ni z12.sum], .agg #[ni t.key, ni t.author, ni t.sum]]) (CF 87 _) rfl rfl) (Tally_c _ _ S.le _ _ _ _ (⟨_, rfl, rfl⟩ : AggR TallyR rd7 _ z12) (⟨_, rfl, rfl⟩ : AggR TallyR rd7 _ t)) ?_
   rintro e w20 ⟨rfl, k⟩
   have S := S.callq k; clear k
   refine ckd ?_
   refine l_nil ?_
   have SC := (S.tk 1 0 rfl rfl)
   refine n_lp (ak SC ?_)
   by_cases hc : ordT z12 t < 0
   ·
    refine a_tk (v := .bool true) 7 rfl rfl SC rfl (y_ltT rfl rfl hc) ?_
    refine a_done (by kernel_rfl) ?_
    clear SC
    refine n_seq ?_
    refine e_cT rfl ?_
    refine e_reg ?_
    refine l_y (v := ni (((i : Int) + (j : Int)) / 2)) S (y_mv rfl) ?_
    refine l_y (v := ni ((((i : Int) + (j : Int)) / 2) + 1)) S (y_add (r := (((i : Int) + (j : Int)) / 2) + 1) rfl rfl (w64 (by omega) (by omega))) ?_
    refine l_y (v := ni ((((i : Int) + (j : Int)) / 2) + 1)) S (y_as rfl) ?_
    refine l_nil ?_
    refine n_blk ?_
    refine n_lp ⟨(((i + j) / 2 + 1), j), _, fr_keep (m := [(0, .slice A1 l.length c2), (2, .func (.func 87) #[] #[]), (4, pa g5 0), (6, ni 0), (7, .bool false), (8, ni (l.length : Int)), (9, ni ((((i + j) / 2 + 1) : Nat) : Int)), (10, ni (j : Int))]) ⟨⟨rfl, rfl⟩, ⟨rfl, rfl⟩, ⟨rfl, rfl⟩, ⟨rfl, rfl⟩, ⟨rfl, rfl⟩, ⟨rfl, rfl⟩, ⟨ival (by first | rfl | omega), rfl⟩, ⟨rfl, rfl⟩, trivial⟩, ⟨_, _, rfl, (S.tk 1 0 rfl rfl), (Rd.le_trans L9 (Rd.le_refl rd7)), (by omega), (by omega), (bs_lo hmono hz13 hc), hb⟩, ?_⟩
    show _ < _; dsimp only; omega
   refine a_tk (v := .bool false) 7 rfl rfl SC rfl (y_ltF rfl rfl hc) ?_
   refine a_done (by kernel_rfl) ?_
   clear SC
   refine n_seq ?_
   refine e_cF rfl ?_
   refine e_reg ?_
   refine l_y (v := ni (((i : Int) + (j : Int)) / 2)) S (y_mv rfl) ?_
   refine l_y (v := ni (((i : Int) + (j : Int)) / 2)) S (y_as rfl) ?_
   refine l_nil ?_
   refine n_blk ?_
   refine n_lp ⟨(i, ((i + j) / 2)), _, fr_keep (m := [(0, .slice A1 l.length c2), (2, .func (.func 87) #[] #[]), (4, pa g5 0), (6, ni 0), (7, .bool false), (8, ni (l.length : Int)), (9, ni (i : Int)), (10, ni ((((i + j) / 2) : Nat) : Int))]) ⟨⟨rfl, rfl⟩, ⟨rfl, rfl⟩, ⟨rfl, rfl⟩, ⟨rfl, rfl⟩, ⟨rfl, rfl⟩, ⟨rfl, rfl⟩, ⟨rfl, rfl⟩, ⟨ival (by first | rfl | omega), rfl⟩, trivial⟩, ⟨_, _, rfl, (S.tk 1 0 rfl rfl), (Rd.le_trans L9 (Rd.le_refl rd7)), (by omega), (by omega), ha, (bs_hi hmono hz13 hc)⟩, ?_⟩
   show _ < _; dsimp only; omega
  exact aa_nil
 refine l_y (v := .bool false) S (y_ltF rfl rfl hlt) ?_
 refine l_nil ?_
 refine n_seq ?_
 refine e_cF rfl ?_
 refine e_exit ?_
 refine x_seq ?_
 refine x_lp ?_
 refine x_hit ?_
 refine n_seq ?_
 refine e_seq ?_
 refine e_a (fun w => St [] W rd rd7 [(g5, 106, #[ni t.key, ni t.author, ni t.sum])] [] w) MX rfl ?_
 have S := S.drew; have sup21 := S.sup
 have SC := (S.tk 1 0 rfl rfl)
 refine a_tk (v := ni (i : Int)) 0 rfl rfl SC rfl (y_mv rfl) ?_
 refine a_tk (v := ni (i : Int)) 1 rfl rfl SC rfl (y_mv rfl) ?_
 refine a_tk (v := ni (l.length : Int)) 2 rfl rfl SC rfl (y_mv rfl) ?_
 by_cases h22 : (i : Int) < (l.length : Int)
 ·
  refine a_tk (v := .bool true) 3 rfl rfl SC rfl (y_ltT rfl rfl h22) ?_
  refine a_tk (v := .bool true) 4 rfl rfl SC rfl (y_mv rfl) ?_
  refine a_tkg (d' := 39) (v := .func (.func 87) #[] #[]) 5 rfl rfl SC rfl rfl rfl (y_mv rfl) ?_
  refine a_tkg (d' := 39) (v := .slice A1 l.length c2) 6 rfl rfl SC rfl rfl rfl (y_mv rfl) ?_
  refine a_tkg (d' := 39) (v := ni (i : Int)) 7 rfl rfl SC rfl rfl rfl (y_mv rfl) ?_
  obtain ⟨z23, hz24⟩ : ∃ z, (l)[i]? = some z := nth_of (by first | assumption | omega)
  obtain ⟨p25, vs26, E27, nn28, r29, Y30⟩ := y_ia U25 SZ106 h hz24
  clear nn28
  have r29e : vs26 = [ni z23.key, ni z23.author, ni z23.sum] := r29; subst r29e; clear r29
  refine a_tkg (d' := 39) (v := p25) 8 rfl rfl SC rfl rfl rfl (Y30 rfl rfl (by first | rfl | omega)) ?_
  refine a_tkg (d' := 39) (v := .agg #[ni z23.key, ni z23.author, ni z23.sum]) 9 rfl rfl SC rfl rfl rfl (y_ld rfl (fun w S => ld_pA (us := [ni z23.key, ni z23.author, ni z23.sum]) S.le E27 T106 rfl rfl)) ?_
  refine a_tkg (d' := 39) (v := .agg #[ni t.key, ni t.author, ni t.sum]) 10 rfl rfl SC rfl rfl rfl (y_ld rfl (fun w S => ld_bA (vs := [ni t.key, ni t.author, ni t.sum]) (i := 0) S rfl T106 rfl rfl)) ?_
  refine a_all (rs := [11]) (by kernel_rfl) rfl ?_
  refine aa_cons rfl ?_ ?_
  ·
   refine l_cg (d' := 39) (en_f (vs := [.agg #[ni z23.key, ni z23.author, ni z23.sum], .agg #[ni t.key, ni t.author, ni t.sum]]) (CF 87 _) rfl rfl) rfl rfl (Tally_c _ _ S.le _ _ _ _ (⟨_, rfl, rfl⟩ : AggR TallyR rd7 _ z23) (⟨_, rfl, rfl⟩ : AggR TallyR rd7 _ t)) ?_
   rintro e w31 ⟨rfl, k⟩
   have S := S.callq k; clear k
   refine ckd ?_
   refine l_nil ?_
   have SC := (S.tk 1 0 rfl rfl)
   refine n_lp (ak SC ?_)
   by_cases heq : ordT z23 t = 0
   ·
    refine a_tkg (d' := 39) (v := .bool true) 12 rfl rfl SC rfl rfl rfl (y_eqT rfl rfl heq) ?_
    refine a_tk (v := .bool true) 13 rfl rfl SC rfl (y_pT rfl rfl) ?_
    refine a_tk (v := ni (i : Int)) 14 rfl rfl SC rfl (y_as rfl) ?_
    refine a_tk (v := .bool true) 15 rfl rfl SC rfl (y_as rfl) ?_
    refine a_done (by kernel_rfl) ?_
    clear SC
    refine n_seq ?_
    refine e_ret ?_
    refine ret2 (v := ni (i : Int)) (v' := .bool true) rfl rfl rfl ?_
    obtain rfl : i = j := by omega
    exact ⟨i, true, rfl, by omega, ha, hb, fun _ => ⟨_, hz24, heq⟩, fun h => by (cases h), S.below⟩
   refine a_tkg (d' := 39) (v := .bool false) 12 rfl rfl SC rfl rfl rfl (y_eqF rfl rfl heq) ?_
   refine a_tk (v := .bool false) 13 rfl rfl SC rfl (y_pT rfl rfl) ?_
   refine a_tk (v := ni (i : Int)) 14 rfl rfl SC rfl (y_as rfl) ?_
   refine a_tk (v := .bool false) 15 rfl rfl SC rfl (y_as rfl) ?_
   refine a_done (by kernel_rfl) ?_
   clear SC
   refine n_seq ?_
   refine e_ret ?_
   refine ret2 (v := ni (i : Int)) (v' := .bool false) rfl rfl rfl ?_
   obtain rfl : i = j := by omega
   exact ⟨i, false, rfl, by omega, ha, hb, fun h => by (cases h), fun _ y hy => by (rw [hz24] at hy; cases hy; exact heq), S.below⟩
  exact aa_nil
 refine a_tk (v := .bool false) 3 rfl rfl SC rfl (y_ltF rfl rfl h22) ?_
 refine a_tk (v := .bool false) 4 rfl rfl SC rfl (y_mv rfl) ?_
 refine a_sk (d' := 39) 5 rfl rfl SC rfl rfl rfl ?_
 refine a_sk (d' := 39) 6 rfl rfl SC rfl rfl rfl ?_
 refine a_sk (d' := 39) 7 rfl rfl SC rfl rfl rfl ?_
 refine a_sk (d' := 39) 8 rfl rfl SC rfl rfl rfl ?_
 refine a_sk (d' := 39) 9 rfl rfl SC rfl rfl rfl ?_
 refine a_sk (d' := 39) 10 rfl rfl SC rfl rfl rfl ?_
 refine a_sk (d' := 39) 11 rfl rfl SC rfl rfl rfl ?_
 refine a_sk (d' := 39) 12 rfl rfl SC rfl rfl rfl ?_
 refine a_tk (v := .bool false) 13 rfl rfl SC rfl (y_pF rfl rfl) ?_
 refine a_tk (v := ni (i : Int)) 14 rfl rfl SC rfl (y_as rfl) ?_
 refine a_tk (v := .bool false) 15 rfl rfl SC rfl (y_as rfl) ?_
 refine a_done (by kernel_rfl) ?_
 clear SC
 refine n_seq ?_
 refine e_ret ?_
 refine ret2 (v := ni (i : Int)) (v' := .bool false) rfl rfl rfl ?_
 obtain rfl : i = j := by omega
 exact ⟨i, false, rfl, by omega, ha, hb, fun h => by (cases h), fun _ z hz => absurd (List.getElem?_eq_some_iff.1 hz).1 (by omega), S.below⟩
end Go.Proofs.YtkjknlnhffmkkacGreat
