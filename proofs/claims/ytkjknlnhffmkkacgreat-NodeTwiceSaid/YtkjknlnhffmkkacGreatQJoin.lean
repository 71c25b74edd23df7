/- join.Join. -/
import Derived.Test.YtkjknlnhffmkkacGreatQStays
import Derived.Test.YtkjknlnhffmkkacGreatQSortF
import Derived.Test.YtkjknlnhffmkkacGreatQSt2
import Derived.Test.YtkjknlnhffmkkacGreatQPl
import Derived.Test.YtkjknlnhffmkkacGreatQEg
import Derived.Test.YtkjknlnhffmkkacGreatQAdapt
namespace Go.Proofs.YtkjknlnhffmkkacGreat
open Go.RowKit
set_option linter.unusedVariables false
theorem sortL_len (l : List Live) : (sortL l).length = l.length := by simpa [sortL] using (foldl_ins_perm (f := ordL) l []).length_eq
theorem sortT_len (l : List Tally) : (sortT l).length = l.length := by simpa [sortT] using (foldl_ins_perm (f := ordT) l []).length_eq
theorem join_next {a b : State} {n : Int} {k : Nat} {z : State} (h : ∀ y ∈ ([a, b] : List State).take k, (wrongS y n).1 = 0) (hz : ([a, b] : List State)[k]? = some z) (hE : (wrongS z n).1 = 0) : ∀ y ∈ ([a, b] : List State).take (k + 1), (wrongS y n).1 = 0 := fun y hy => by
  rw [take_snoc hz] at hy
  rcases List.mem_append.1 hy with hy | hy
  · exact h y hy
  · rw [List.mem_singleton.1 hy]; exact hE
theorem join_right {a b : State} {n : Int} {k : Nat} (h : ∀ y ∈ ([a, b] : List State).take k, (wrongS y n).1 = 0) (hk : 2 ≤ k) : RightS a n ∧ RightS b n := by
  rw [List.take_of_length_le (by simpa using hk)] at h
  exact ⟨wrongS_iff.1 (h a (by simp)), wrongS_iff.1 (h b (by simp))⟩
theorem join_bad {a b : State} {k : Nat} {z : State} (h : ∀ y ∈ ([a, b] : List State).take k, (wrongS y (a.clock.length : Int)).1 = 0) (hz : ([a, b] : List State)[k]? = some z) (hE : ¬ (wrongS z (a.clock.length : Int)).1 = 0) : JoinS a b = (zeroS, (wrongS z (a.clock.length : Int)).1) := by
  unfold JoinS lenI
  match k, hz with
  | 0, hz => simp at hz; subst hz; rw [if_pos hE]
  | 1, hz => simp at hz; subst hz; rw [if_neg (fun e => e (h a (by simp))), if_pos hE]
  | k + 2, hz => simp at hz
theorem fil_yes {α : Type} {l o : List α} {p : α → Bool} {k : Nat} {z : α} (ho : o = (l.take k).filter p) (hz : l[k]? = some z) (h : p z = true) : o ++ [z] = (l.take (k + 1)).filter p := by rw [take_snoc hz, List.filter_append, ho]; simp [h]
theorem fil_no {α : Type} {l o : List α} {p : α → Bool} {k : Nat} {z : α} (ho : o = (l.take k).filter p) (hz : l[k]? = some z) (h : p z = false) : o = (l.take (k + 1)).filter p := by rw [take_snoc hz, List.filter_append, ho]; simp [h]
theorem fil_yes' {α : Type} {l o A : List α} {p : α → Bool} {k : Nat} {z : α} (ho : o = A ++ (l.take k).filter p) (hz : l[k]? = some z) (h : p z = true) : o ++ [z] = A ++ (l.take (k + 1)).filter p := by rw [take_snoc hz, List.filter_append, ho]; simp [h]
theorem fil_no' {α : Type} {l o A : List α} {p : α → Bool} {k : Nat} {z : α} (ho : o = A ++ (l.take k).filter p) (hz : l[k]? = some z) (h : p z = false) : o = A ++ (l.take (k + 1)).filter p := by rw [take_snoc hz, List.filter_append, ho]; simp [h]
section
variable {a : State} {l o A : List Live} {k : Nat} {z : Live}
theorem fold_yes (ho : o = (l.take k).foldl (fun out x => if (staysL a x && !out.contains x) = true then out ++ [x] else out) A) (hz : l[k]? = some z) (h1 : staysL a z = true) (h2 : o.contains z = false) : o ++ [z] = (l.take (k + 1)).foldl (fun out x => if (staysL a x && !out.contains x) = true then out ++ [x] else out) A := by
  rw [foldl_take hz, ← ho, h1, h2]; rfl
theorem fold_no1 (ho : o = (l.take k).foldl (fun out x => if (staysL a x && !out.contains x) = true then out ++ [x] else out) A) (hz : l[k]? = some z) (h1 : staysL a z = false) : o = (l.take (k + 1)).foldl (fun out x => if (staysL a x && !out.contains x) = true then out ++ [x] else out) A := by
  rw [foldl_take hz, ← ho, h1]; rfl
theorem fold_no2 (ho : o = (l.take k).foldl (fun out x => if (staysL a x && !out.contains x) = true then out ++ [x] else out) A) (hz : l[k]? = some z) (h1 : staysL a z = true) (h2 : o.contains z = true) : o = (l.take (k + 1)).foldl (fun out x => if (staysL a x && !out.contains x) = true then out ++ [x] else out) A := by
  rw [foldl_take hz, ← ho, h1, h2]; rfl
end
theorem joinf_len {a : State} : ∀ (l A : List Live), (l.foldl (fun out x => if (staysL a x && !out.contains x) = true then out ++ [x] else out) A).length ≤ A.length + l.length
  | [], A => Nat.le_refl _
  | x :: l, A => by
    rw [List.foldl_cons]
    refine Nat.le_trans (joinf_len l _) ?_
    split
    · simp; omega
    · simp only [List.length_cons]; omega
section
variable {a b : State} {n : Int} {p : List Live} {u : List Tally}
theorem joinS_eq (ra : RightS a n) (rb : RightS b n) (hp : p = joinL a b) (hu : u = joinT a b) : JoinS a b = (⟨joinC a.clock b.clock, sortL p, sortT u⟩, 0) := by rw [JoinS_of ra rb, hp, hu]; rfl
theorem join_nodup (ra : RightS a n) (rb : RightS b n) (hp : p = joinL a b) : p.Nodup := by rw [hp]; exact (joinL_ok ra rb).1
theorem join_dist (ra : RightS a n) (rb : RightS b n) (hu : u = joinT a b) : DistT u := by rw [hu]; exact joinT_dist ra rb
end
set_option maxRecDepth 100000 in
set_option maxHeartbeats 16000000 in
theorem Join_m (rd : Rd) (W : World) (hle : Rd.le rd (wrd W)) (v v2 : Value) (a b : State) (h : AggR StateR rd v a) (h2 : AggR StateR rd v2 b) :
    Calls Tryz.prog 42 #[v, v2] W (fun e w' => ∃ v', e = .returned (.tuple #[v', .int .i64 (JoinS a b).2]) ∧ AggR StateR (ext rd W w') v' (JoinS a b).1 ∧ Below W.heap.size W w') := by
 obtain ⟨vs1, he, h⟩ := h; subst he
 obtain ⟨sv2, sv4, sv6, he, h3, h5, h7⟩ := h; subst he
 obtain ⟨A8, c9, rfl, m10, m10'⟩ := h3.val
 obtain ⟨A11, c12, rfl, m13, m13'⟩ := h5.val
 obtain ⟨A14, c15, rfl, m16, m16'⟩ := h7.val
 obtain ⟨vs17, h2e, h2⟩ := h2; subst h2e
 obtain ⟨sv18, sv20, sv22, h2e, h19, h21, h23⟩ := h2; subst h2e
 obtain ⟨A24, c25, rfl, m26, m26'⟩ := h19.val
 obtain ⟨A27, c28, rfl, m29, m29'⟩ := h21.val
 obtain ⟨A30, c31, rfl, m32, m32'⟩ := h23.val
 have hmx : maxLen = 9223372036854775807 := rfl
 have S : St [] W rd rd [] [] W := St.start hle
 refine e_enter (args := [.agg #[.slice A8 a.clock.length c9, .slice A11 a.lives.length c12, .slice A14 a.tallies.length c15], .agg #[.slice A24 b.clock.length c25, .slice A27 b.lives.length c28, .slice A30 b.tallies.length c31]]) 141 Tryz.func42 rfl rfl rfl ?_
 refine e_seq ?_
 refine e_reg ?_
 refine l_bx (u := .agg #[.slice A8 a.clock.length c9, .slice A11 a.lives.length c12, .slice A14 a.tallies.length c15]) (cs := #[.slice A8 a.clock.length c9, .slice A11 a.lives.length c12, .slice A14 a.tallies.length c15]) S rfl rfl fun g33 w34 S => ?_
 refine l_bx (u := .agg #[.slice A24 b.clock.length c25, .slice A27 b.lives.length c28, .slice A30 b.tallies.length c31]) (cs := #[.slice A24 b.clock.length c25, .slice A27 b.lives.length c28, .slice A30 b.tallies.length c31]) S rfl rfl fun g35 w36 S => ?_
 refine l_al (cs := #[.slice none 0 0, .slice none 0 0, .slice none 0 0]) S Z27 rfl fun g37 w38 S => ?_
 refine l_y (v := ni 0) S (y_as rfl) ?_
 obtain ⟨rd39, S, L40, FP41⟩ := S.frzp (i := 0) rfl rfl
 replace h3 := fm h3 L40
 replace h5 := fm h5 L40
 replace h7 := fm h7 L40
 replace h19 := fm h19 L40
 replace h21 := fm h21 L40
 replace h23 := fm h23 L40
 obtain ⟨rd42, S, L43, FP44⟩ := S.frzp (i := 0) rfl rfl
 replace h3 := fm h3 L43
 replace h5 := fm h5 L43
 replace h7 := fm h7 L43
 replace h19 := fm h19 L43
 replace h21 := fm h21 L43
 replace h23 := fm h23 L43
 replace FP41 := PtrC.mono FP41 L43
 refine l_nil ?_
 refine n_seq ?_
 refine e_seq ?_
 refine e_reg ?_
 obtain ⟨p45, Ep45, Yp45⟩ := y_fp (us := [.slice A8 a.clock.length c9, .slice A11 a.lives.length c12, .slice A14 a.tallies.length c15]) FA27_0 FP41 rfl
 refine l_y (v := p45) S (Yp45 rfl) ?_
 refine l_y (v := .slice A8 a.clock.length c9) S (y_ld rfl (fun w S => ld_p1 S.le Ep45 rfl T23)) ?_
 refine l_y (v := ni (a.clock.length : Int)) S (y_len U23 rfl rfl) ?_
 refine l_y (v := ni (a.clock.length : Int)) S (y_as rfl) ?_
 refine l_nil ?_
 refine n_seq ?_
 refine e_seq ?_
 refine e_seq ?_
 refine e_reg ?_
 refine l_y (v := .agg #[.slice A8 a.clock.length c9, .slice A11 a.lives.length c12, .slice A14 a.tallies.length c15]) S (y_ld rfl (fun w S => ld_pA (us := [.slice A8 a.clock.length c9, .slice A11 a.lives.length c12, .slice A14 a.tallies.length c15]) S.le FP41 T27 rfl rfl)) ?_
 refine l_y (v := .agg #[.slice A24 b.clock.length c25, .slice A27 b.lives.length c28, .slice A30 b.tallies.length c31]) S (y_ld rfl (fun w S => ld_pA (us := [.slice A24 b.clock.length c25, .slice A27 b.lives.length c28, .slice A30 b.tallies.length c31]) S.le FP44 T27 rfl rfl)) ?_
 refine l_bs (ps := [(0, .agg #[.slice A8 a.clock.length c9, .slice A11 a.lives.length c12, .slice A14 a.tallies.length c15]), (1, .agg #[.slice A24 b.clock.length c25, .slice A27 b.lives.length c28, .slice A30 b.tallies.length c31])]) (cs := #[.slice A8 a.clock.length c9, .slice A11 a.lives.length c12, .slice A14 a.tallies.length c15, .slice A24 b.clock.length c25, .slice A27 b.lives.length c28, .slice A30 b.tallies.length c31]) S U119 SZ27 Z27 rfl rfl rfl (by kernel_rfl) fun g46 w47 S => ?_
 obtain ⟨rd48, S, L49, Fz50⟩ := S.frz' (i := 1) rfl rfl
 replace h3 := fm h3 L49
 replace h5 := fm h5 L49
 replace h7 := fm h7 L49
 replace h19 := fm h19 L49
 replace h21 := fm h21 L49
 replace h23 := fm h23 L49
 replace FP41 := PtrC.mono FP41 L49
 replace FP44 := PtrC.mono FP44 L49
 replace Ep45 := PtrC.mono Ep45 L49
 have F51 := Fz50 (size := 3) (R := StateR) (xs := ([a, b] : List State)) (n := 2) (c := 2) rfl (Nat.le_refl _) (by simp [maxLen]) ⟨[.slice A8 a.clock.length c9, .slice A11 a.lives.length c12, .slice A14 a.tallies.length c15], _, rfl, rfl, ⟨_, _, _, rfl, h3, h5, h7⟩, ⟨[.slice A24 b.clock.length c25, .slice A27 b.lives.length c28, .slice A30 b.tallies.length c31], _, rfl, rfl, ⟨_, _, _, rfl, h19, h21, h23⟩, rfl⟩⟩; clear Fz50
 refine l_y (v := ni 2) S (y_len U119 rfl rfl) ?_
 refine l_y (v := ni 0) S (y_mv rfl) ?_
 refine l_nil ?_
 refine n_seq ?_
 refine e_blk ?_
 refine e_trim [(2, .pointer (some ⟨g33, 0, none⟩)), (3, .pointer (some ⟨g35, 0, none⟩)), (4, pa g37 0), (6, ni (a.clock.length : Int)), (24, .slice (some ⟨g46, 0, none⟩) 2 2), (25, ni 2), (26, ni (0 : Int))] ⟨⟨rfl, rfl⟩, ⟨rfl, rfl⟩, ⟨rfl, rfl⟩, ⟨rfl, rfl⟩, ⟨rfl, rfl⟩, ⟨rfl, rfl⟩, ⟨ival (by first | rfl | omega), rfl⟩, trivial⟩ (fun junk => ?_)
 refine e_loop (fun (gh_ : Nat) ov w => match gh_ with | k => ∃ rd' junk, ov = [(2, .pointer (some ⟨g33, 0, none⟩)), (3, .pointer (some ⟨g35, 0, none⟩)), (4, pa g37 0), (6, ni (a.clock.length : Int)), (24, .slice (some ⟨g46, 0, none⟩) 2 2), (25, ni 2), (26, ni (k : Int))] ++ junk ∧ St [] W rd rd' [(g37, 27, #[.slice none 0 0, .slice none 0 0, .slice none 0 0])] [] w ∧ Rd.le rd48 rd' ∧ k ≤ 2 ∧ (∀ y ∈ (([a, b] : List State)).take k, (wrongS y (a.clock.length : Int)).1 = 0)) (fun gh_ => match gh_ with | k => 2 - k) 0 ⟨_, junk, rfl, (S.rw' rfl rfl), (Rd.le_refl _), (by omega), (by simp)⟩ ?_
 rintro k ov55 w53 ⟨rd52, junk, rfl, S, L54, hk, hW⟩
 replace h3 := fm h3 L54
 replace h5 := fm h5 L54
 replace h7 := fm h7 L54
 replace h19 := fm h19 L54
 replace h21 := fm h21 L54
 replace h23 := fm h23 L54
 replace FP41 := PtrC.mono FP41 L54
 replace FP44 := PtrC.mono FP44 L54
 replace F51 := fm F51 L54
 refine e_seq ?_
 refine e_reg ?_
 by_cases h56 : (k : Int) < 2
 ·
  refine l_y (v := .bool true) S (y_ltT rfl rfl h56) ?_
  refine l_nil ?_
  refine n_seq ?_
  refine e_seq ?_
  refine e_cT rfl ?_
  refine e_skip ?_
  refine n_seq ?_
  refine e_seq ?_
  refine e_blk ?_
  refine e_seq ?_
  refine e_reg ?_
  obtain ⟨z57, hz58⟩ : ∃ z, (([a, b] : List State))[k]? = some z := nth_of (by simp only [List.length_cons, List.length_nil]; omega)
  obtain ⟨p59, vs60, E61, nn62, r63, Y64⟩ := y_ia U119 SZ27 F51 hz58
  clear nn62
  obtain ⟨sv65, sv67, sv69, r63e, h66, h68, h70⟩ := r63; subst r63e
  obtain ⟨A71, c72, rfl, m73, m73'⟩ := h66.val
  obtain ⟨A74, c75, rfl, m76, m76'⟩ := h68.val
  obtain ⟨A77, c78, rfl, m79, m79'⟩ := h70.val
  refine l_y (v := p59) S (Y64 rfl rfl (by first | rfl | omega)) ?_
  refine l_y (v := .agg #[.slice A71 z57.clock.length c72, .slice A74 z57.lives.length c75, .slice A77 z57.tallies.length c78]) S (y_ld rfl (fun w S => ld_pA (us := [.slice A71 z57.clock.length c72, .slice A74 z57.lives.length c75, .slice A77 z57.tallies.length c78]) S.le E61 T27 rfl rfl)) ?_
  refine l_al (cs := #[.slice none 0 0, .slice none 0 0, .slice none 0 0]) S Z27 rfl fun g80 w81 S => ?_
  refine l_st (u := .agg #[.slice A71 z57.clock.length c72, .slice A74 z57.lives.length c75, .slice A77 z57.tallies.length c78]) (i := 1) (cs' := #[.slice A71 z57.clock.length c72, .slice A74 z57.lives.length c75, .slice A77 z57.tallies.length c78]) S rfl rfl rfl SZ27 rfl rfl rfl fun w82 S => ?_
  refine l_nil ?_
  refine n_seq ?_
  refine e_seq ?_
  refine e_reg ?_
  refine l_y (v := .agg #[.slice A71 z57.clock.length c72, .slice A74 z57.lives.length c75, .slice A77 z57.tallies.length c78]) S (y_ld rfl (fun w S => ld_bA (vs := [.slice A71 z57.clock.length c72, .slice A74 z57.lives.length c75, .slice A77 z57.tallies.length c78]) (i := 1) S rfl T27 rfl rfl)) ?_
  refine l_y (v := ni (a.clock.length : Int)) S (y_mv rfl) ?_
  refine l_c (en_f (vs := [.agg #[.slice A71 z57.clock.length c72, .slice A74 z57.lives.length c75, .slice A77 z57.tallies.length c78], ni (a.clock.length : Int)]) (CF 48 _) rfl rfl) (SWrong_c _ _ S.le _ z57 (a.clock.length : Int) (⟨_, rfl, ⟨_, _, _, rfl, h66, h68, h70⟩⟩ : AggR StateR rd52 _ z57)) ?_
  rintro e w83 ⟨rfl, k⟩
  have S := S.callq k; clear k
  refine ckd ?_
  refine l_al (cs := #[ni 0, ni 0]) S Z84 rfl fun g84 w85 S => ?_
  refine l_st (u := .agg #[ni ((wrongS z57 (a.clock.length : Int)).1), ni ((wrongS z57 (a.clock.length : Int)).2)]) (i := 2) (cs' := #[ni ((wrongS z57 (a.clock.length : Int)).1), ni ((wrongS z57 (a.clock.length : Int)).2)]) S rfl rfl rfl SZ84 rfl rfl rfl fun w86 S => ?_
  refine l_nil ?_
  refine n_seq ?_
  refine e_seq ?_
  refine e_reg ?_
  refine l_y (v := pa g84 0) S (y_fb FA84_0 rfl rfl) ?_
  refine l_y (v := ni ((wrongS z57 (a.clock.length : Int)).1)) S (y_ld rfl (fun w S => ld_b1 (i := 2) S rfl rfl T35)) ?_
  by_cases hE : (wrongS z57 (a.clock.length : Int)).1 = 0
  ·
   refine l_y (v := .bool false) S (y_neF rfl rfl hE) ?_
   refine l_nil ?_
   refine n_seq ?_
   refine e_cF rfl ?_
   refine e_skip ?_
   refine n_blk ?_
   refine n_seq ?_
   refine e_reg ?_
   refine l_y (v := ni ((k : Int) + 1)) S (y_add (r := (k : Int) + 1) rfl rfl (w64 (by omega) (by omega))) ?_
   refine l_y (v := ni ((k : Int) + 1)) S (y_mv rfl) ?_
   refine l_nil ?_
   refine n_lp ⟨(k + 1), _, fr_keep (m := [(2, .pointer (some ⟨g33, 0, none⟩)), (3, .pointer (some ⟨g35, 0, none⟩)), (4, pa g37 0), (6, ni (a.clock.length : Int)), (24, .slice (some ⟨g46, 0, none⟩) 2 2), (25, ni 2), (26, ni ((k + 1 : Nat) : Int))]) ⟨⟨rfl, rfl⟩, ⟨rfl, rfl⟩, ⟨rfl, rfl⟩, ⟨rfl, rfl⟩, ⟨rfl, rfl⟩, ⟨rfl, rfl⟩, ⟨ival (by first | rfl | omega), rfl⟩, trivial⟩, ⟨_, _, rfl, (S.tk 1 0 rfl rfl), (Rd.le_trans L54 (Rd.le_refl rd52)), (by omega), (join_next hW hz58 hE)⟩, ?_⟩
   show _ < _; dsimp only; omega
  refine l_y (v := .bool true) S (y_neT rfl rfl hE) ?_
  refine l_nil ?_
  refine n_seq ?_
  refine e_cT rfl ?_
  refine e_seq ?_
  refine e_a (fun w => St [] W rd rd52 [(g80, 27, #[.slice A71 z57.clock.length c72, .slice A74 z57.lives.length c75, .slice A77 z57.tallies.length c78]), (g84, 84, #[ni ((wrongS z57 (a.clock.length : Int)).1), ni ((wrongS z57 (a.clock.length : Int)).2)])] [] w) MX rfl ?_
  have S := S.drew; have sup87 := S.sup
  have SC := ((S.tk 3 0 rfl rfl).del 0)
  refine a_tk (v := .agg #[.slice none 0 0, .slice none 0 0, .slice none 0 0]) 0 rfl rfl SC rfl (y_bd (ps := []) rfl (fun _ => by kernel_rfl)) ?_
  refine a_tk (v := pa g84 0) 1 rfl rfl SC rfl (y_fb FA84_0 rfl rfl) ?_
  refine a_tk (v := ni ((wrongS z57 (a.clock.length : Int)).1)) 2 rfl rfl SC rfl (y_ld rfl (fun w S => ld_b1 (i := 1) S rfl rfl T35)) ?_
  refine a_all (rs := [3]) (by kernel_rfl) rfl ?_
  refine aa_cons rfl ?_ ?_
  ·
   refine l_st (u := .agg #[.slice none 0 0, .slice none 0 0, .slice none 0 0]) (i := 0) (cs' := #[.slice none 0 0, .slice none 0 0, .slice none 0 0]) S rfl rfl rfl SZ27 rfl rfl rfl fun w88 S => ?_
   refine l_nil ?_
   have SC := ((S.tk 3 0 rfl rfl).del 0)
   refine n_lp (ak SC ?_)
   refine a_tk (v := ni ((wrongS z57 (a.clock.length : Int)).1)) 4 rfl rfl SC rfl (y_as rfl) ?_
   refine a_done (by kernel_rfl) ?_
   clear SC
   refine n_seq ?_
   refine e_ret ?_
   refine ret2 (v := .agg #[.slice none 0 0, .slice none 0 0, .slice none 0 0]) (v' := ni ((wrongS z57 (a.clock.length : Int)).1)) rfl ⟨_, rfl, ld_bA (i := 0) (vs := [.slice none 0 0, .slice none 0 0, .slice none 0 0]) S rfl T27 rfl rfl⟩ rfl ?_
   rw [join_bad hW hz58 hE]
   exact ⟨_, rfl, ⟨_, rfl, ⟨_, _, _, rfl, (SliceR.nil_ _), (SliceR.nil_ _), (SliceR.nil_ _)⟩⟩, S.below⟩
  exact aa_nil
 refine l_y (v := .bool false) S (y_ltF rfl rfl h56) ?_
 refine l_nil ?_
 refine n_seq ?_
 refine e_seq ?_
 refine e_cF rfl ?_
 refine e_exit ?_
 refine x_seq ?_
 refine x_lp ?_
 refine x_hit ?_
 refine n_seq ?_
 refine e_seq ?_
 refine e_reg ?_
 obtain ⟨ra, rb⟩ := join_right hW (by omega); have hca := ra.clock_len; have hcb := rb.clock_len; have hla := wrongC_ok ra.c; have hlb := wrongC_ok rb.c
 obtain ⟨p89, Ep89, Yp89⟩ := y_fp (us := [.slice A8 a.clock.length c9, .slice A11 a.lives.length c12, .slice A14 a.tallies.length c15]) FA27_0 FP41 rfl
 refine l_y (v := p89) S (Yp89 rfl) ?_
 refine l_y (v := .slice A8 a.clock.length c9) S (y_ld rfl (fun w S => ld_p1 S.le Ep89 rfl T23)) ?_
 obtain ⟨p90, Ep90, Yp90⟩ := y_fp (us := [.slice A24 b.clock.length c25, .slice A27 b.lives.length c28, .slice A30 b.tallies.length c31]) FA27_0 FP44 rfl
 refine l_y (v := p90) S (Yp90 rfl) ?_
 refine l_y (v := .slice A24 b.clock.length c25) S (y_ld rfl (fun w S => ld_p1 S.le Ep90 rfl T23)) ?_
 refine l_c (en_f (vs := [.slice A8 a.clock.length c9, .slice A24 b.clock.length c25]) (CF 31 _) rfl rfl) (Join_c _ _ _ _ _ (fm h3 S.le) (fm h19 S.le) (by omega)) ?_
 rintro e w93 ⟨r91, rfl, h92, k⟩
 obtain ⟨rd94, S, L95, N96, X97⟩ := S.call' k; clear k
 replace h3 := fm h3 L95
 replace h5 := fm h5 L95
 replace h7 := fm h7 L95
 replace h19 := fm h19 L95
 replace h21 := fm h21 L95
 replace h23 := fm h23 L95
 replace FP41 := PtrC.mono FP41 L95
 replace FP44 := PtrC.mono FP44 L95
 replace F51 := fm F51 L95
 replace Ep89 := PtrC.mono Ep89 L95
 replace Ep90 := PtrC.mono Ep90 L95
 have h92 := fm h92 N96
 obtain ⟨A98, c99, rfl, m100, m100'⟩ := h92.val
 refine ckd ?_
 refine l_y (v := .agg #[.slice A98 ((joinC a.clock b.clock).length) c99, .slice none 0 0, .slice none 0 0]) S (y_bd (ps := [(0, .slice A98 ((joinC a.clock b.clock).length) c99)]) rfl (fun _ => by kernel_rfl)) ?_
 refine l_al (cs := #[.slice none 0 0, .slice none 0 0, .slice none 0 0]) S Z27 rfl fun g101 w102 S => ?_
 refine l_st (u := .agg #[.slice A98 ((joinC a.clock b.clock).length) c99, .slice none 0 0, .slice none 0 0]) (i := 1) (cs' := #[.slice A98 ((joinC a.clock b.clock).length) c99, .slice none 0 0, .slice none 0 0]) S rfl rfl rfl SZ27 rfl rfl rfl fun w103 S => ?_
 refine l_nil ?_
 refine n_seq ?_
 refine e_seq ?_
 refine e_seq ?_
 refine e_reg ?_
 obtain ⟨p104, Ep104, Yp104⟩ := y_fp (us := [.slice A11 a.lives.length c12, .slice A14 a.tallies.length c15]) FA27_1 FP41 rfl
 refine l_y (v := p104) S (Yp104 rfl) ?_
 refine l_y (v := .slice A11 a.lives.length c12) S (y_ld rfl (fun w S => ld_p1 S.le Ep104 rfl T24)) ?_
 refine l_y (v := ni (a.lives.length : Int)) S (y_len U24 rfl rfl) ?_
 refine l_y (v := ni 0) S (y_mv rfl) ?_
 refine l_nil ?_
 refine n_seq ?_
 refine e_blk ?_
 have S := S.ownNil 104 5
 have O105 : RowR 5 LiveR rd94 [] [] := rfl
 refine e_trim [(2, .pointer (some ⟨g33, 0, none⟩)), (3, .pointer (some ⟨g35, 0, none⟩)), (4, pa g37 0), (10, pa g101 0), (47, .slice A11 a.lives.length c12), (48, ni (a.lives.length : Int)), (49, ni (0 : Int))] ⟨⟨rfl, rfl⟩, ⟨rfl, rfl⟩, ⟨rfl, rfl⟩, ⟨rfl, rfl⟩, ⟨rfl, rfl⟩, ⟨rfl, rfl⟩, ⟨ival (by first | rfl | omega), rfl⟩, trivial⟩ (fun junk => ?_)
 refine e_loop (fun (gh_ : Nat × (List Live) × (Option Addr) × Nat × Nat × (List Value)) ov w => match gh_ with | (k, o, AO, nO, cO, xsO) => ∃ rd' junk, ov = [(2, .pointer (some ⟨g33, 0, none⟩)), (3, .pointer (some ⟨g35, 0, none⟩)), (4, pa g37 0), (10, pa g101 0), (47, .slice A11 a.lives.length c12), (48, ni (a.lives.length : Int)), (49, ni (k : Int))] ++ junk ∧ St [] W rd rd' [(g37, 27, #[.slice none 0 0, .slice none 0 0, .slice none 0 0]), (g101, 27, #[.slice A98 ((joinC a.clock b.clock).length) c99, .slice AO nO cO, .slice none 0 0])] [⟨104, 5, .slice AO nO cO, nO, xsO⟩] w ∧ Rd.le rd94 rd' ∧ (RowR 5 LiveR rd' xsO o ∧ nO = o.length) ∧ k ≤ (a.lives).length ∧ o = (a.lives.take k).filter (staysL b)) (fun gh_ => match gh_ with | (k, o, AO, nO, cO, xsO) => (a.lives).length - k) (0, [], none, 0, 0, []) ⟨_, junk, rfl, (S.rw' rfl rfl), (Rd.le_refl _), ⟨O105, (by first | rfl | assumption | omega)⟩, (by omega), (by simp)⟩ ?_
 rintro ⟨k, o, AO, nO, cO, xsO⟩ ov109 w107 ⟨rd106, junk, rfl, S, L108, ⟨OO, on110⟩, hko, ho⟩
 replace h3 := fm h3 L108
 replace h5 := fm h5 L108
 replace h7 := fm h7 L108
 replace h19 := fm h19 L108
 replace h21 := fm h21 L108
 replace h23 := fm h23 L108
 replace FP41 := PtrC.mono FP41 L108
 replace FP44 := PtrC.mono FP44 L108
 replace h92 := fm h92 L108
 have hbo : o.length ≤ 400000000 := by rw [ho]; exact Nat.le_trans (List.length_filter_le _ _) (Nat.le_trans (List.length_take_le' _ _) ra.lives_len)
 refine e_seq ?_
 refine e_reg ?_
 by_cases h111 : (k : Int) < (a.lives.length : Int)
 ·
  refine l_y (v := .bool true) S (y_ltT rfl rfl h111) ?_
  refine l_nil ?_
  refine n_seq ?_
  refine e_seq ?_
  refine e_cT rfl ?_
  refine e_skip ?_
  refine n_seq ?_
  refine e_seq ?_
  refine e_blk ?_
  refine e_seq ?_
  refine e_reg ?_
  obtain ⟨z112, hz113⟩ : ∃ z, (a.lives)[k]? = some z := nth_of (by first | assumption | omega)
  obtain ⟨p114, vs115, E116, nn117, r118, Y119⟩ := y_ia U24 SZ104 h5 hz113
  clear nn117
  have r118e : vs115 = [.bool z112.set, ni z112.key, ni z112.item, ni z112.author, ni z112.seq] := r118; subst r118e; clear r118
  refine l_y (v := p114) S (Y119 rfl rfl (by first | rfl | omega)) ?_
  refine l_y (v := .agg #[.bool z112.set, ni z112.key, ni z112.item, ni z112.author, ni z112.seq]) S (y_ld rfl (fun w S => ld_pA (us := [.bool z112.set, ni z112.key, ni z112.item, ni z112.author, ni z112.seq]) S.le E116 T104 rfl rfl)) ?_
  refine l_al (cs := #[.bool false, ni 0, ni 0, ni 0, ni 0]) S Z104 rfl fun g120 w121 S => ?_
  refine l_st (u := .agg #[.bool z112.set, ni z112.key, ni z112.item, ni z112.author, ni z112.seq]) (i := 2) (cs' := #[.bool z112.set, ni z112.key, ni z112.item, ni z112.author, ni z112.seq]) S rfl rfl rfl SZ104 rfl rfl rfl fun w122 S => ?_
  refine l_nil ?_
  refine n_seq ?_
  refine e_seq ?_
  refine e_reg ?_
  refine l_y (v := .agg #[.bool z112.set, ni z112.key, ni z112.item, ni z112.author, ni z112.seq]) S (y_ld rfl (fun w S => ld_bA (vs := [.bool z112.set, ni z112.key, ni z112.item, ni z112.author, ni z112.seq]) (i := 2) S rfl T104 rfl rfl)) ?_
  refine l_c (en_f (vs := [.agg #[.bool z112.set, ni z112.key, ni z112.item, ni z112.author, ni z112.seq], .pointer (some ⟨g35, 0, none⟩)]) (CF 78 _) rfl rfl) (Stays_c _ _ S.le _ _ _ _ _ z112 b (⟨_, rfl, rfl⟩ : AggR LiveR rd106 _ z112) FP44 h19 h21 h23) ?_
  rintro e w123 ⟨rfl, k⟩
  have S := S.callq k; clear k
  cases hs : staysL b z112
  ·
   refine ckd ?_
   refine l_nil ?_
   refine n_seq ?_
   refine e_cF rfl ?_
   refine e_skip ?_
   refine n_blk ?_
   refine n_seq ?_
   refine e_reg ?_
   refine l_y (v := ni ((k : Int) + 1)) S (y_add (r := (k : Int) + 1) rfl rfl (w64 (by omega) (by omega))) ?_
   refine l_y (v := ni ((k : Int) + 1)) S (y_mv rfl) ?_
   refine l_nil ?_
   refine n_lp ⟨(k + 1, o, AO, nO, cO, xsO), _, fr_keep (m := [(2, .pointer (some ⟨g33, 0, none⟩)), (3, .pointer (some ⟨g35, 0, none⟩)), (4, pa g37 0), (10, pa g101 0), (47, .slice A11 a.lives.length c12), (48, ni (a.lives.length : Int)), (49, ni ((k + 1 : Nat) : Int))]) ⟨⟨rfl, rfl⟩, ⟨rfl, rfl⟩, ⟨rfl, rfl⟩, ⟨rfl, rfl⟩, ⟨rfl, rfl⟩, ⟨rfl, rfl⟩, ⟨ival (by first | rfl | omega), rfl⟩, trivial⟩, ⟨_, _, rfl, (S.tk 2 1 rfl rfl), (Rd.le_trans L108 (Rd.le_refl rd106)), ⟨OO, (by first | assumption | omega)⟩, (by omega), (fil_no ho hz113 hs)⟩, ?_⟩
   show _ < _; dsimp only; omega
  refine ckd ?_
  refine l_nil ?_
  refine n_seq ?_
  refine e_cT rfl ?_
  refine e_reg ?_
  refine l_y (v := pa g101 1) S (y_fb FA27_1 rfl rfl) ?_
  refine l_y (v := .slice AO nO cO) S (y_ld rfl (fun w S => ld_b1 (i := 1) S rfl rfl T24)) ?_
  refine l_y (v := .agg #[.bool z112.set, ni z112.key, ni z112.item, ni z112.author, ni z112.seq]) S (y_ld rfl (fun w S => ld_bA (vs := [.bool z112.set, ni z112.key, ni z112.item, ni z112.author, ni z112.seq]) (i := 2) S rfl T104 rfl rfl)) ?_
  refine l_bs (ps := [(0, .agg #[.bool z112.set, ni z112.key, ni z112.item, ni z112.author, ni z112.seq])]) (cs := #[.bool z112.set, ni z112.key, ni z112.item, ni z112.author, ni z112.seq]) S U24 SZ104 Z104 rfl rfl rfl (by kernel_rfl) fun g124 w125 S => ?_
  refine l_ap (e' := 0) (i := 0) (i' := 3) S K24 rfl rfl rfl rfl rfl rfl rfl (by simp only [maxLen]; omega) (by first | omega | (dsimp only; omega)) fun v126 w127 S => ?_
  have OO := RowR.push (x := z112) (cs := [.bool z112.set, ni z112.key, ni z112.item, ni z112.author, ni z112.seq]) OO rfl rfl
  obtain ⟨A128, c129, m130e, m130, m130'⟩ : ∃ A c, v126 = .slice A (nO + 1) c ∧ (nO + 1) ≤ c ∧ c ≤ maxLen := own_len S (i := 0) rfl; subst m130e
  refine l_y (v := pa g101 1) S (y_fb FA27_1 rfl rfl) ?_
  refine l_st (u := .slice A128 (nO + 1) c129) (i := 1) (cs' := #[.slice A98 ((joinC a.clock b.clock).length) c99, .slice A128 (nO + 1) c129, .slice none 0 0]) S rfl rfl rfl SZ24 rfl rfl rfl fun w131 S => ?_
  refine l_nil ?_
  refine n_blk ?_
  refine n_seq ?_
  refine e_reg ?_
  refine l_y (v := ni ((k : Int) + 1)) S (y_add (r := (k : Int) + 1) rfl rfl (w64 (by omega) (by omega))) ?_
  refine l_y (v := ni ((k : Int) + 1)) S (y_mv rfl) ?_
  refine l_nil ?_
  refine n_lp ⟨(k + 1, o ++ [z112], A128, nO + 1, c129, (xsO ++ [.bool z112.set, ni z112.key, ni z112.item, ni z112.author, ni z112.seq])), _, fr_keep (m := [(2, .pointer (some ⟨g33, 0, none⟩)), (3, .pointer (some ⟨g35, 0, none⟩)), (4, pa g37 0), (10, pa g101 0), (47, .slice A11 a.lives.length c12), (48, ni (a.lives.length : Int)), (49, ni ((k + 1 : Nat) : Int))]) ⟨⟨rfl, rfl⟩, ⟨rfl, rfl⟩, ⟨rfl, rfl⟩, ⟨rfl, rfl⟩, ⟨rfl, rfl⟩, ⟨rfl, rfl⟩, ⟨ival (by first | rfl | omega), rfl⟩, trivial⟩, ⟨_, _, rfl, (S.tk 2 1 rfl rfl), (Rd.le_trans L108 (Rd.le_refl rd106)), ⟨OO, (by simp; omega)⟩, (by omega), (fil_yes ho hz113 hs)⟩, ?_⟩
  show _ < _; dsimp only; omega
 refine l_y (v := .bool false) S (y_ltF rfl rfl h111) ?_
 refine l_nil ?_
 refine n_seq ?_
 refine e_seq ?_
 refine e_cF rfl ?_
 refine e_exit ?_
 refine x_seq ?_
 refine x_lp ?_
 refine x_hit ?_
 refine n_seq ?_
 refine e_seq ?_
 refine e_seq ?_
 refine e_reg ?_
 obtain ⟨p132, Ep132, Yp132⟩ := y_fp (us := [.slice A27 b.lives.length c28, .slice A30 b.tallies.length c31]) FA27_1 FP44 rfl
 refine l_y (v := p132) S (Yp132 rfl) ?_
 refine l_y (v := .slice A27 b.lives.length c28) S (y_ld rfl (fun w S => ld_p1 S.le Ep132 rfl T24)) ?_
 refine l_y (v := ni (b.lives.length : Int)) S (y_len U24 rfl rfl) ?_
 refine l_y (v := ni 0) S (y_mv rfl) ?_
 refine l_nil ?_
 refine n_seq ?_
 refine e_blk ?_
 refine e_trim [(2, .pointer (some ⟨g33, 0, none⟩)), (3, .pointer (some ⟨g35, 0, none⟩)), (4, pa g37 0), (10, pa g101 0), (63, .slice A27 b.lives.length c28), (64, ni (b.lives.length : Int)), (65, ni (0 : Int))] ⟨⟨rfl, rfl⟩, ⟨rfl, rfl⟩, ⟨rfl, rfl⟩, ⟨rfl, rfl⟩, ⟨rfl, rfl⟩, ⟨rfl, rfl⟩, ⟨ival (by first | rfl | omega), rfl⟩, trivial⟩ (fun junk => ?_)
 refine e_loop (fun (gh_ : Nat × (List Live) × (Option Addr) × Nat × Nat × (List Value)) ov w => match gh_ with | (k, p, AP, nP, cP, xsP) => ∃ rd' junk, ov = [(2, .pointer (some ⟨g33, 0, none⟩)), (3, .pointer (some ⟨g35, 0, none⟩)), (4, pa g37 0), (10, pa g101 0), (63, .slice A27 b.lives.length c28), (64, ni (b.lives.length : Int)), (65, ni (k : Int))] ++ junk ∧ St [] W rd rd' [(g37, 27, #[.slice none 0 0, .slice none 0 0, .slice none 0 0]), (g101, 27, #[.slice A98 ((joinC a.clock b.clock).length) c99, .slice AP nP cP, .slice none 0 0])] [⟨104, 5, .slice AP nP cP, nP, xsP⟩] w ∧ Rd.le rd106 rd' ∧ (RowR 5 LiveR rd' xsP p ∧ nP = p.length) ∧ k ≤ (b.lives).length ∧ p = (b.lives.take k).foldl (fun out x => if (staysL a x && !out.contains x) = true then out ++ [x] else out) (a.lives.filter (staysL b))) (fun gh_ => match gh_ with | (k, p, AP, nP, cP, xsP) => (b.lives).length - k) (0, o, AO, nO, cO, xsO) ⟨_, junk, rfl, (S.rw' rfl rfl), (Rd.le_refl _), ⟨OO, (by first | rfl | assumption | omega)⟩, (by omega), (by rw [ho, List.take_of_length_le (by omega)]; rfl)⟩ ?_
 rintro ⟨k, p, AP, nP, cP, xsP⟩ ov136 w134 ⟨rd133, junk, rfl, S, L135, ⟨OP, on137⟩, hkp, hp⟩
 replace h3 := fm h3 L135
 replace h5 := fm h5 L135
 replace h7 := fm h7 L135
 replace h19 := fm h19 L135
 replace h21 := fm h21 L135
 replace h23 := fm h23 L135
 replace FP41 := PtrC.mono FP41 L135
 replace FP44 := PtrC.mono FP44 L135
 replace h92 := fm h92 L135
 have hbp : p.length ≤ 800000000 := by rw [hp]; exact Nat.le_trans (joinf_len _ _) (by have := ra.lives_len; have := rb.lives_len; have := List.length_filter_le (staysL b) a.lives; have := List.length_take_le' k b.lives; omega)
 refine e_seq ?_
 refine e_reg ?_
 by_cases h138 : (k : Int) < (b.lives.length : Int)
 ·
  refine l_y (v := .bool true) S (y_ltT rfl rfl h138) ?_
  refine l_nil ?_
  refine n_seq ?_
  refine e_seq ?_
  refine e_cT rfl ?_
  refine e_skip ?_
  refine n_seq ?_
  refine e_seq ?_
  refine e_blk ?_
  refine e_seq ?_
  refine e_reg ?_
  obtain ⟨z139, hz140⟩ : ∃ z, (b.lives)[k]? = some z := nth_of (by first | assumption | omega)
  obtain ⟨p141, vs142, E143, nn144, r145, Y146⟩ := y_ia U24 SZ104 h21 hz140
  clear nn144
  have r145e : vs142 = [.bool z139.set, ni z139.key, ni z139.item, ni z139.author, ni z139.seq] := r145; subst r145e; clear r145
  refine l_y (v := p141) S (Y146 rfl rfl (by first | rfl | omega)) ?_
  refine l_y (v := .agg #[.bool z139.set, ni z139.key, ni z139.item, ni z139.author, ni z139.seq]) S (y_ld rfl (fun w S => ld_pA (us := [.bool z139.set, ni z139.key, ni z139.item, ni z139.author, ni z139.seq]) S.le E143 T104 rfl rfl)) ?_
  refine l_al (cs := #[.bool false, ni 0, ni 0, ni 0, ni 0]) S Z104 rfl fun g147 w148 S => ?_
  refine l_st (u := .agg #[.bool z139.set, ni z139.key, ni z139.item, ni z139.author, ni z139.seq]) (i := 2) (cs' := #[.bool z139.set, ni z139.key, ni z139.item, ni z139.author, ni z139.seq]) S rfl rfl rfl SZ104 rfl rfl rfl fun w149 S => ?_
  refine l_nil ?_
  refine n_seq ?_
  refine e_seq ?_
  refine e_reg ?_
  refine l_y (v := .agg #[.bool z139.set, ni z139.key, ni z139.item, ni z139.author, ni z139.seq]) S (y_ld rfl (fun w S => ld_bA (vs := [.bool z139.set, ni z139.key, ni z139.item, ni z139.author, ni z139.seq]) (i := 2) S rfl T104 rfl rfl)) ?_
  refine l_c (en_f (vs := [.agg #[.bool z139.set, ni z139.key, ni z139.item, ni z139.author, ni z139.seq], .pointer (some ⟨g33, 0, none⟩)]) (CF 78 _) rfl rfl) (Stays_c _ _ S.le _ _ _ _ _ z139 a (⟨_, rfl, rfl⟩ : AggR LiveR rd133 _ z139) FP41 h3 h5 h7) ?_
  rintro e w150 ⟨rfl, k⟩
  have S := S.callq k; clear k
  cases hs2 : staysL a z139
  ·
   refine ckd ?_
   refine l_y (v := .bool false) S (y_mv rfl) ?_
   refine l_s (d' := 71) rfl rfl ?_
   refine l_s (d' := 71) rfl rfl ?_
   refine l_s (d' := 71) rfl rfl ?_
   refine l_s (d' := 71) rfl rfl ?_
   refine l_s (d' := 71) rfl rfl ?_
   refine l_y (v := .bool false) S (y_pF rfl rfl) ?_
   refine l_nil ?_
   refine n_seq ?_
   refine e_cF rfl ?_
   refine e_skip ?_
   refine n_blk ?_
   refine n_seq ?_
   refine e_reg ?_
   refine l_y (v := ni ((k : Int) + 1)) S (y_add (r := (k : Int) + 1) rfl rfl (w64 (by omega) (by omega))) ?_
   refine l_y (v := ni ((k : Int) + 1)) S (y_mv rfl) ?_
   refine l_nil ?_
   refine n_lp ⟨(k + 1, p, AP, nP, cP, xsP), _, fr_keep (m := [(2, .pointer (some ⟨g33, 0, none⟩)), (3, .pointer (some ⟨g35, 0, none⟩)), (4, pa g37 0), (10, pa g101 0), (63, .slice A27 b.lives.length c28), (64, ni (b.lives.length : Int)), (65, ni ((k + 1 : Nat) : Int))]) ⟨⟨rfl, rfl⟩, ⟨rfl, rfl⟩, ⟨rfl, rfl⟩, ⟨rfl, rfl⟩, ⟨rfl, rfl⟩, ⟨rfl, rfl⟩, ⟨ival (by first | rfl | omega), rfl⟩, trivial⟩, ⟨_, _, rfl, (S.tk 2 1 rfl rfl), (Rd.le_trans L135 (Rd.le_refl rd133)), ⟨OP, (by first | assumption | omega)⟩, (by omega), (fold_no1 hp hz140 hs2)⟩, ?_⟩
   show _ < _; dsimp only; omega
  refine ckd ?_
  refine l_y (v := .bool true) S (y_mv rfl) ?_
  refine l_g (d' := 71) (v := pa g101 1) S (y_fb FA27_1 rfl rfl) rfl rfl ?_
  refine l_g (d' := 71) (v := .slice AP nP cP) S (y_ld rfl (fun w S => ld_b1 (i := 1) S rfl rfl T24)) rfl rfl ?_
  refine l_g (d' := 71) (v := .agg #[.bool z139.set, ni z139.key, ni z139.item, ni z139.author, ni z139.seq]) S (y_ld rfl (fun w S => ld_bA (vs := [.bool z139.set, ni z139.key, ni z139.item, ni z139.author, ni z139.seq]) (i := 2) S rfl T104 rfl rfl)) rfl rfl ?_
  refine l_cg (d' := 71) (en_f (vs := [.slice AP nP cP, .agg #[.bool z139.set, ni z139.key, ni z139.item, ni z139.author, ni z139.seq]]) (CF 79 _) rfl rfl) rfl rfl (ContainsL_c (wrd _) _ (Rd.le_refl _) _ _ p z139 (S.rowS (n := 0) (i := 0) rfl rfl (by first | rfl | assumption | omega) rfl OP) (am (⟨_, rfl, rfl⟩ : AggR LiveR rd133 _ z139) S.le)) ?_
  rintro e w151 ⟨rfl, k⟩
  have S := S.callq k; clear k
  cases hc : (p).contains z139
  ·
   refine ckd ?_
   refine l_g (d' := 71) (v := .bool true) S (y_not rfl rfl) rfl rfl ?_
   refine l_y (v := .bool true) S (y_pT rfl rfl) ?_
   refine l_nil ?_
   refine n_seq ?_
   refine e_cT rfl ?_
   refine e_reg ?_
   refine l_y (v := pa g101 1) S (y_fb FA27_1 rfl rfl) ?_
   refine l_y (v := .slice AP nP cP) S (y_ld rfl (fun w S => ld_b1 (i := 1) S rfl rfl T24)) ?_
   refine l_y (v := .agg #[.bool z139.set, ni z139.key, ni z139.item, ni z139.author, ni z139.seq]) S (y_ld rfl (fun w S => ld_bA (vs := [.bool z139.set, ni z139.key, ni z139.item, ni z139.author, ni z139.seq]) (i := 2) S rfl T104 rfl rfl)) ?_
   refine l_bs (ps := [(0, .agg #[.bool z139.set, ni z139.key, ni z139.item, ni z139.author, ni z139.seq])]) (cs := #[.bool z139.set, ni z139.key, ni z139.item, ni z139.author, ni z139.seq]) S U24 SZ104 Z104 rfl rfl rfl (by kernel_rfl) fun g152 w153 S => ?_
   refine l_ap (e' := 0) (i := 0) (i' := 3) S K24 rfl rfl rfl rfl rfl rfl rfl (by simp only [maxLen]; omega) (by first | omega | (dsimp only; omega)) fun v154 w155 S => ?_
   have OP := RowR.push (x := z139) (cs := [.bool z139.set, ni z139.key, ni z139.item, ni z139.author, ni z139.seq]) OP rfl rfl
   obtain ⟨A156, c157, m158e, m158, m158'⟩ : ∃ A c, v154 = .slice A (nP + 1) c ∧ (nP + 1) ≤ c ∧ c ≤ maxLen := own_len S (i := 0) rfl; subst m158e
   refine l_y (v := pa g101 1) S (y_fb FA27_1 rfl rfl) ?_
   refine l_st (u := .slice A156 (nP + 1) c157) (i := 1) (cs' := #[.slice A98 ((joinC a.clock b.clock).length) c99, .slice A156 (nP + 1) c157, .slice none 0 0]) S rfl rfl rfl SZ24 rfl rfl rfl fun w159 S => ?_
   refine l_nil ?_
   refine n_blk ?_
   refine n_seq ?_
   refine e_reg ?_
   refine l_y (v := ni ((k : Int) + 1)) S (y_add (r := (k : Int) + 1) rfl rfl (w64 (by omega) (by omega))) ?_
   refine l_y (v := ni ((k : Int) + 1)) S (y_mv rfl) ?_
   refine l_nil ?_
   refine n_lp ⟨(k + 1, p ++ [z139], A156, nP + 1, c157, (xsP ++ [.bool z139.set, ni z139.key, ni z139.item, ni z139.author, ni z139.seq])), _, fr_keep (m := [(2, .pointer (some ⟨g33, 0, none⟩)), (3, .pointer (some ⟨g35, 0, none⟩)), (4, pa g37 0), (10, pa g101 0), (63, .slice A27 b.lives.length c28), (64, ni (b.lives.length : Int)), (65, ni ((k + 1 : Nat) : Int))]) ⟨⟨rfl, rfl⟩, ⟨rfl, rfl⟩, ⟨rfl, rfl⟩, ⟨rfl, rfl⟩, ⟨rfl, rfl⟩, ⟨rfl, rfl⟩, ⟨ival (by first | rfl | omega), rfl⟩, trivial⟩, ⟨_, _, rfl, (S.tk 2 1 rfl rfl), (Rd.le_trans L135 (Rd.le_refl rd133)), ⟨OP, (by simp; omega)⟩, (by omega), (fold_yes hp hz140 hs2 hc)⟩, ?_⟩
   show _ < _; dsimp only; omega
  refine ckd ?_
  refine l_g (d' := 71) (v := .bool false) S (y_not rfl rfl) rfl rfl ?_
  refine l_y (v := .bool false) S (y_pT rfl rfl) ?_
  refine l_nil ?_
  refine n_seq ?_
  refine e_cF rfl ?_
  refine e_skip ?_
  refine n_blk ?_
  refine n_seq ?_
  refine e_reg ?_
  refine l_y (v := ni ((k : Int) + 1)) S (y_add (r := (k : Int) + 1) rfl rfl (w64 (by omega) (by omega))) ?_
  refine l_y (v := ni ((k : Int) + 1)) S (y_mv rfl) ?_
  refine l_nil ?_
  refine n_lp ⟨(k + 1, p, AP, nP, cP, xsP), _, fr_keep (m := [(2, .pointer (some ⟨g33, 0, none⟩)), (3, .pointer (some ⟨g35, 0, none⟩)), (4, pa g37 0), (10, pa g101 0), (63, .slice A27 b.lives.length c28), (64, ni (b.lives.length : Int)), (65, ni ((k + 1 : Nat) : Int))]) ⟨⟨rfl, rfl⟩, ⟨rfl, rfl⟩, ⟨rfl, rfl⟩, ⟨rfl, rfl⟩, ⟨rfl, rfl⟩, ⟨rfl, rfl⟩, ⟨ival (by first | rfl | omega), rfl⟩, trivial⟩, ⟨_, _, rfl, (S.tk 2 1 rfl rfl), (Rd.le_trans L135 (Rd.le_refl rd133)), ⟨OP, (by first | assumption | omega)⟩, (by omega), (fold_no2 hp hz140 hs2 hc)⟩, ?_⟩
  show _ < _; dsimp only; omega
 refine l_y (v := .bool false) S (y_ltF rfl rfl h138) ?_
 refine l_nil ?_
 refine n_seq ?_
 refine e_seq ?_
 refine e_cF rfl ?_
 refine e_exit ?_
 refine x_seq ?_
 refine x_lp ?_
 refine x_hit ?_
 refine n_seq ?_
 refine e_seq ?_
 refine e_seq ?_
 refine e_reg ?_
 obtain ⟨p160, Ep160, Yp160⟩ := y_fp (us := [.slice A14 a.tallies.length c15]) FA27_2 FP41 rfl
 refine l_y (v := p160) S (Yp160 rfl) ?_
 refine l_y (v := .slice A14 a.tallies.length c15) S (y_ld rfl (fun w S => ld_p1 S.le Ep160 rfl T25)) ?_
 refine l_y (v := ni (a.tallies.length : Int)) S (y_len U25 rfl rfl) ?_
 refine l_y (v := ni 0) S (y_mv rfl) ?_
 refine l_nil ?_
 refine n_seq ?_
 refine e_blk ?_
 have S := S.ownNil 106 3
 have O161 : RowR 3 TallyR rd133 [] [] := rfl
 refine e_trim [(2, .pointer (some ⟨g33, 0, none⟩)), (3, .pointer (some ⟨g35, 0, none⟩)), (4, pa g37 0), (10, pa g101 0), (86, .slice A14 a.tallies.length c15), (87, ni (a.tallies.length : Int)), (88, ni (0 : Int))] ⟨⟨rfl, rfl⟩, ⟨rfl, rfl⟩, ⟨rfl, rfl⟩, ⟨rfl, rfl⟩, ⟨rfl, rfl⟩, ⟨rfl, rfl⟩, ⟨ival (by first | rfl | omega), rfl⟩, trivial⟩ (fun junk => ?_)
 refine e_loop (fun (gh_ : Nat × (List Tally) × (Option Addr) × Nat × Nat × (List Value)) ov w => match gh_ with | (k, t, AT, nT, cT, xsT) => ∃ rd' junk, ov = [(2, .pointer (some ⟨g33, 0, none⟩)), (3, .pointer (some ⟨g35, 0, none⟩)), (4, pa g37 0), (10, pa g101 0), (86, .slice A14 a.tallies.length c15), (87, ni (a.tallies.length : Int)), (88, ni (k : Int))] ++ junk ∧ St [] W rd rd' [(g37, 27, #[.slice none 0 0, .slice none 0 0, .slice none 0 0]), (g101, 27, #[.slice A98 ((joinC a.clock b.clock).length) c99, .slice AP nP cP, .slice AT nT cT])] [⟨104, 5, .slice AP nP cP, nP, xsP⟩, ⟨106, 3, .slice AT nT cT, nT, xsT⟩] w ∧ Rd.le rd133 rd' ∧ (RowR 3 TallyR rd' xsT t ∧ nT = t.length) ∧ k ≤ (a.tallies).length ∧ t = (a.tallies.take k).filter (fun t : Tally => decide (atI b.clock t.author.toNat ≤ atI a.clock t.author.toNat))) (fun gh_ => match gh_ with | (k, t, AT, nT, cT, xsT) => (a.tallies).length - k) (0, [], none, 0, 0, []) ⟨_, junk, rfl, (S.rw' rfl rfl), (Rd.le_refl _), ⟨O161, (by first | rfl | assumption | omega)⟩, (by omega), (by simp)⟩ ?_
 rintro ⟨k, t, AT, nT, cT, xsT⟩ ov165 w163 ⟨rd162, junk, rfl, S, L164, ⟨OT, on166⟩, hkt, ht⟩
 replace h3 := fm h3 L164
 replace h5 := fm h5 L164
 replace h7 := fm h7 L164
 replace h19 := fm h19 L164
 replace h21 := fm h21 L164
 replace h23 := fm h23 L164
 replace FP41 := PtrC.mono FP41 L164
 replace FP44 := PtrC.mono FP44 L164
 replace h92 := fm h92 L164
 replace OP := rm OP L164
 have hbt : t.length ≤ 96 := by rw [ht]; exact Nat.le_trans (List.length_filter_le _ _) (Nat.le_trans (List.length_take_le' _ _) ra.tallies_len)
 refine e_seq ?_
 refine e_reg ?_
 by_cases h167 : (k : Int) < (a.tallies.length : Int)
 ·
  refine l_y (v := .bool true) S (y_ltT rfl rfl h167) ?_
  refine l_nil ?_
  refine n_seq ?_
  refine e_seq ?_
  refine e_cT rfl ?_
  refine e_skip ?_
  refine n_seq ?_
  refine e_seq ?_
  refine e_blk ?_
  refine e_seq ?_
  refine e_reg ?_
  obtain ⟨z168, hz169⟩ : ∃ z, (a.tallies)[k]? = some z := nth_of (by first | assumption | omega)
  have hto := ra.t _ (List.mem_of_getElem? hz169); have hta0 := hto.a0; have hta1 := hto.a1
  obtain ⟨p170, vs171, E172, nn173, r174, Y175⟩ := y_ia U25 SZ106 h7 hz169
  clear nn173
  have r174e : vs171 = [ni z168.key, ni z168.author, ni z168.sum] := r174; subst r174e; clear r174
  refine l_y (v := p170) S (Y175 rfl rfl (by first | rfl | omega)) ?_
  refine l_y (v := .agg #[ni z168.key, ni z168.author, ni z168.sum]) S (y_ld rfl (fun w S => ld_pA (us := [ni z168.key, ni z168.author, ni z168.sum]) S.le E172 T106 rfl rfl)) ?_
  refine l_al (cs := #[ni 0, ni 0, ni 0]) S Z106 rfl fun g176 w177 S => ?_
  refine l_st (u := .agg #[ni z168.key, ni z168.author, ni z168.sum]) (i := 2) (cs' := #[ni z168.key, ni z168.author, ni z168.sum]) S rfl rfl rfl SZ106 rfl rfl rfl fun w178 S => ?_
  refine l_nil ?_
  refine n_seq ?_
  refine e_seq ?_
  refine e_q MX (by kernel_rfl) S.drew ?_
  obtain ⟨p179, Ep179, Yp179⟩ := y_fp (us := [.slice A8 a.clock.length c9, .slice A11 a.lives.length c12, .slice A14 a.tallies.length c15]) FA27_0 FP41 rfl
  refine q_y (v := p179) (Yp179 rfl) ?_
  refine q_y (v := .slice A8 a.clock.length c9) (y_ld rfl (fun w S => ld_p1 S.le Ep179 rfl T23)) ?_
  refine q_y (v := pa g176 1) (y_fb FA106_1 rfl rfl) ?_
  refine q_y (v := ni z168.author) (y_ld rfl (fun w S => ld_b1 (i := 2) S rfl rfl T3)) ?_
  obtain ⟨z180, hz181⟩ : ∃ z, (a.clock)[z168.author.toNat]? = some z := nth_of (by omega)
  have := atI_nth hz181
  obtain ⟨p182, vs183, E184, nn185, r186, Y187⟩ := y_ia U23 SZ3 h3 hz181
  clear nn185
  have r186 : vs183 = [ni z180] := r186; subst r186
  refine q_y (v := p182) (Y187 rfl rfl (by first | rfl | omega)) ?_
  refine q_y (v := ni z180) (y_ld rfl (fun w S => ld_p1 S.le E184 rfl T3)) ?_
  obtain ⟨p188, Ep188, Yp188⟩ := y_fp (us := [.slice A24 b.clock.length c25, .slice A27 b.lives.length c28, .slice A30 b.tallies.length c31]) FA27_0 FP44 rfl
  refine q_y (v := p188) (Yp188 rfl) ?_
  refine q_y (v := .slice A24 b.clock.length c25) (y_ld rfl (fun w S => ld_p1 S.le Ep188 rfl T23)) ?_
  refine q_y (v := pa g176 1) (y_fb FA106_1 rfl rfl) ?_
  refine q_y (v := ni z168.author) (y_ld rfl (fun w S => ld_b1 (i := 2) S rfl rfl T3)) ?_
  obtain ⟨z189, hz190⟩ : ∃ z, (b.clock)[z168.author.toNat]? = some z := nth_of (by omega)
  have := atI_nth hz190
  obtain ⟨p191, vs192, E193, nn194, r195, Y196⟩ := y_ia U23 SZ3 h19 hz190
  clear nn194
  have r195 : vs192 = [ni z189] := r195; subst r195
  refine q_y (v := p191) (Y196 rfl rfl (by first | rfl | omega)) ?_
  refine q_y (v := ni z189) (y_ld rfl (fun w S => ld_p1 S.le E193 rfl T3)) ?_
  by_cases h197 : z189 ≤ z180
  ·
   refine q_y (v := .bool true) (y_geT rfl rfl h197) ?_
   refine q_nil fun w198 S => ?_
   refine n_seq ?_
   refine e_cT rfl ?_
   refine e_reg ?_
   refine l_y (v := pa g101 2) S (y_fb FA27_2 rfl rfl) ?_
   refine l_y (v := .slice AT nT cT) S (y_ld rfl (fun w S => ld_b1 (i := 1) S rfl rfl T25)) ?_
   refine l_y (v := .agg #[ni z168.key, ni z168.author, ni z168.sum]) S (y_ld rfl (fun w S => ld_bA (vs := [ni z168.key, ni z168.author, ni z168.sum]) (i := 2) S rfl T106 rfl rfl)) ?_
   refine l_bs (ps := [(0, .agg #[ni z168.key, ni z168.author, ni z168.sum])]) (cs := #[ni z168.key, ni z168.author, ni z168.sum]) S U25 SZ106 Z106 rfl rfl rfl (by kernel_rfl) fun g199 w200 S => ?_
   refine l_ap (e' := 0) (i := 1) (i' := 3) S K25 rfl rfl rfl rfl rfl rfl rfl (by simp only [maxLen]; omega) (by first | omega | (dsimp only; omega)) fun v201 w202 S => ?_
   have OT := RowR.push (x := z168) (cs := [ni z168.key, ni z168.author, ni z168.sum]) OT rfl rfl
   obtain ⟨A203, c204, m205e, m205, m205'⟩ : ∃ A c, v201 = .slice A (nT + 1) c ∧ (nT + 1) ≤ c ∧ c ≤ maxLen := own_len S (i := 1) rfl; subst m205e
   refine l_y (v := pa g101 2) S (y_fb FA27_2 rfl rfl) ?_
   refine l_st (u := .slice A203 (nT + 1) c204) (i := 1) (cs' := #[.slice A98 ((joinC a.clock b.clock).length) c99, .slice AP nP cP, .slice A203 (nT + 1) c204]) S rfl rfl rfl SZ25 rfl rfl rfl fun w206 S => ?_
   refine l_nil ?_
   refine n_blk ?_
   refine n_seq ?_
   refine e_reg ?_
   refine l_y (v := ni ((k : Int) + 1)) S (y_add (r := (k : Int) + 1) rfl rfl (w64 (by omega) (by omega))) ?_
   refine l_y (v := ni ((k : Int) + 1)) S (y_mv rfl) ?_
   refine l_nil ?_
   refine n_lp ⟨(k + 1, t ++ [z168], A203, nT + 1, c204, (xsT ++ [ni z168.key, ni z168.author, ni z168.sum])), _, fr_keep (m := [(2, .pointer (some ⟨g33, 0, none⟩)), (3, .pointer (some ⟨g35, 0, none⟩)), (4, pa g37 0), (10, pa g101 0), (86, .slice A14 a.tallies.length c15), (87, ni (a.tallies.length : Int)), (88, ni ((k + 1 : Nat) : Int))]) ⟨⟨rfl, rfl⟩, ⟨rfl, rfl⟩, ⟨rfl, rfl⟩, ⟨rfl, rfl⟩, ⟨rfl, rfl⟩, ⟨rfl, rfl⟩, ⟨ival (by first | rfl | omega), rfl⟩, trivial⟩, ⟨_, _, rfl, (S.tk 2 2 rfl rfl), (Rd.le_trans L164 (Rd.le_refl rd162)), ⟨OT, (by simp; omega)⟩, (by omega), (fil_yes ht hz169 (decide_eq_true (by omega)))⟩, ?_⟩
   show _ < _; dsimp only; omega
  refine q_y (v := .bool false) (y_geF rfl rfl h197) ?_
  refine q_nil fun w207 S => ?_
  refine n_seq ?_
  refine e_cF rfl ?_
  refine e_skip ?_
  refine n_blk ?_
  refine n_seq ?_
  refine e_reg ?_
  refine l_y (v := ni ((k : Int) + 1)) S (y_add (r := (k : Int) + 1) rfl rfl (w64 (by omega) (by omega))) ?_
  refine l_y (v := ni ((k : Int) + 1)) S (y_mv rfl) ?_
  refine l_nil ?_
  refine n_lp ⟨(k + 1, t, AT, nT, cT, xsT), _, fr_keep (m := [(2, .pointer (some ⟨g33, 0, none⟩)), (3, .pointer (some ⟨g35, 0, none⟩)), (4, pa g37 0), (10, pa g101 0), (86, .slice A14 a.tallies.length c15), (87, ni (a.tallies.length : Int)), (88, ni ((k + 1 : Nat) : Int))]) ⟨⟨rfl, rfl⟩, ⟨rfl, rfl⟩, ⟨rfl, rfl⟩, ⟨rfl, rfl⟩, ⟨rfl, rfl⟩, ⟨rfl, rfl⟩, ⟨ival (by first | rfl | omega), rfl⟩, trivial⟩, ⟨_, _, rfl, (S.tk 2 2 rfl rfl), (Rd.le_trans L164 (Rd.le_refl rd162)), ⟨OT, (by first | assumption | omega)⟩, (by omega), (fil_no ht hz169 (decide_eq_false (by omega)))⟩, ?_⟩
  show _ < _; dsimp only; omega
 refine l_y (v := .bool false) S (y_ltF rfl rfl h167) ?_
 refine l_nil ?_
 refine n_seq ?_
 refine e_seq ?_
 refine e_cF rfl ?_
 refine e_exit ?_
 refine x_seq ?_
 refine x_lp ?_
 refine x_hit ?_
 refine n_seq ?_
 refine e_seq ?_
 refine e_seq ?_
 refine e_reg ?_
 obtain ⟨p208, Ep208, Yp208⟩ := y_fp (us := [.slice A30 b.tallies.length c31]) FA27_2 FP44 rfl
 refine l_y (v := p208) S (Yp208 rfl) ?_
 refine l_y (v := .slice A30 b.tallies.length c31) S (y_ld rfl (fun w S => ld_p1 S.le Ep208 rfl T25)) ?_
 refine l_y (v := ni (b.tallies.length : Int)) S (y_len U25 rfl rfl) ?_
 refine l_y (v := ni 0) S (y_mv rfl) ?_
 refine l_nil ?_
 refine n_seq ?_
 refine e_blk ?_
 refine e_trim [(2, .pointer (some ⟨g33, 0, none⟩)), (3, .pointer (some ⟨g35, 0, none⟩)), (4, pa g37 0), (10, pa g101 0), (113, .slice A30 b.tallies.length c31), (114, ni (b.tallies.length : Int)), (115, ni (0 : Int))] ⟨⟨rfl, rfl⟩, ⟨rfl, rfl⟩, ⟨rfl, rfl⟩, ⟨rfl, rfl⟩, ⟨rfl, rfl⟩, ⟨rfl, rfl⟩, ⟨ival (by first | rfl | omega), rfl⟩, trivial⟩ (fun junk => ?_)
 refine e_loop (fun (gh_ : Nat × (List Tally) × (Option Addr) × Nat × Nat × (List Value)) ov w => match gh_ with | (k, u, AU, nU, cU, xsU) => ∃ rd' junk, ov = [(2, .pointer (some ⟨g33, 0, none⟩)), (3, .pointer (some ⟨g35, 0, none⟩)), (4, pa g37 0), (10, pa g101 0), (113, .slice A30 b.tallies.length c31), (114, ni (b.tallies.length : Int)), (115, ni (k : Int))] ++ junk ∧ St [] W rd rd' [(g37, 27, #[.slice none 0 0, .slice none 0 0, .slice none 0 0]), (g101, 27, #[.slice A98 ((joinC a.clock b.clock).length) c99, .slice AP nP cP, .slice AU nU cU])] [⟨104, 5, .slice AP nP cP, nP, xsP⟩, ⟨106, 3, .slice AU nU cU, nU, xsU⟩] w ∧ Rd.le rd162 rd' ∧ (RowR 3 TallyR rd' xsU u ∧ nU = u.length) ∧ k ≤ (b.tallies).length ∧ u = (a.tallies.filter (fun t : Tally => decide (atI b.clock t.author.toNat ≤ atI a.clock t.author.toNat))) ++ (b.tallies.take k).filter (fun t : Tally => decide (atI a.clock t.author.toNat < atI b.clock t.author.toNat))) (fun gh_ => match gh_ with | (k, u, AU, nU, cU, xsU) => (b.tallies).length - k) (0, t, AT, nT, cT, xsT) ⟨_, junk, rfl, (S.rw' rfl rfl), (Rd.le_refl _), ⟨OT, (by first | rfl | assumption | omega)⟩, (by omega), (by rw [ht, List.take_of_length_le (by omega)]; simp)⟩ ?_
 rintro ⟨k, u, AU, nU, cU, xsU⟩ ov212 w210 ⟨rd209, junk, rfl, S, L211, ⟨OU, on213⟩, hku, hu⟩
 replace h3 := fm h3 L211
 replace h5 := fm h5 L211
 replace h7 := fm h7 L211
 replace h19 := fm h19 L211
 replace h21 := fm h21 L211
 replace h23 := fm h23 L211
 replace FP41 := PtrC.mono FP41 L211
 replace FP44 := PtrC.mono FP44 L211
 replace h92 := fm h92 L211
 replace OP := rm OP L211
 have hbu : u.length ≤ 192 := by rw [hu, List.length_append]; have := ra.tallies_len; have := rb.tallies_len; have := List.length_filter_le (fun t : Tally => decide (atI b.clock t.author.toNat ≤ atI a.clock t.author.toNat)) a.tallies; have := List.length_filter_le (fun t : Tally => decide (atI a.clock t.author.toNat < atI b.clock t.author.toNat)) (b.tallies.take k); have := List.length_take_le' k b.tallies; omega
 refine e_seq ?_
 refine e_reg ?_
 by_cases h214 : (k : Int) < (b.tallies.length : Int)
 ·
  refine l_y (v := .bool true) S (y_ltT rfl rfl h214) ?_
  refine l_nil ?_
  refine n_seq ?_
  refine e_seq ?_
  refine e_cT rfl ?_
  refine e_skip ?_
  refine n_seq ?_
  refine e_seq ?_
  refine e_blk ?_
  refine e_seq ?_
  refine e_reg ?_
  obtain ⟨z215, hz216⟩ : ∃ z, (b.tallies)[k]? = some z := nth_of (by first | assumption | omega)
  have hto := rb.t _ (List.mem_of_getElem? hz216); have hta0 := hto.a0; have hta1 := hto.a1
  obtain ⟨p217, vs218, E219, nn220, r221, Y222⟩ := y_ia U25 SZ106 h23 hz216
  clear nn220
  have r221e : vs218 = [ni z215.key, ni z215.author, ni z215.sum] := r221; subst r221e; clear r221
  refine l_y (v := p217) S (Y222 rfl rfl (by first | rfl | omega)) ?_
  refine l_y (v := .agg #[ni z215.key, ni z215.author, ni z215.sum]) S (y_ld rfl (fun w S => ld_pA (us := [ni z215.key, ni z215.author, ni z215.sum]) S.le E219 T106 rfl rfl)) ?_
  refine l_al (cs := #[ni 0, ni 0, ni 0]) S Z106 rfl fun g223 w224 S => ?_
  refine l_st (u := .agg #[ni z215.key, ni z215.author, ni z215.sum]) (i := 2) (cs' := #[ni z215.key, ni z215.author, ni z215.sum]) S rfl rfl rfl SZ106 rfl rfl rfl fun w225 S => ?_
  refine l_nil ?_
  refine n_seq ?_
  refine e_seq ?_
  refine e_q MX (by kernel_rfl) S.drew ?_
  obtain ⟨p226, Ep226, Yp226⟩ := y_fp (us := [.slice A24 b.clock.length c25, .slice A27 b.lives.length c28, .slice A30 b.tallies.length c31]) FA27_0 FP44 rfl
  refine q_y (v := p226) (Yp226 rfl) ?_
  refine q_y (v := .slice A24 b.clock.length c25) (y_ld rfl (fun w S => ld_p1 S.le Ep226 rfl T23)) ?_
  refine q_y (v := pa g223 1) (y_fb FA106_1 rfl rfl) ?_
  refine q_y (v := ni z215.author) (y_ld rfl (fun w S => ld_b1 (i := 2) S rfl rfl T3)) ?_
  obtain ⟨z227, hz228⟩ : ∃ z, (b.clock)[z215.author.toNat]? = some z := nth_of (by omega)
  have := atI_nth hz228
  obtain ⟨p229, vs230, E231, nn232, r233, Y234⟩ := y_ia U23 SZ3 h19 hz228
  clear nn232
  have r233 : vs230 = [ni z227] := r233; subst r233
  refine q_y (v := p229) (Y234 rfl rfl (by first | rfl | omega)) ?_
  refine q_y (v := ni z227) (y_ld rfl (fun w S => ld_p1 S.le E231 rfl T3)) ?_
  obtain ⟨p235, Ep235, Yp235⟩ := y_fp (us := [.slice A8 a.clock.length c9, .slice A11 a.lives.length c12, .slice A14 a.tallies.length c15]) FA27_0 FP41 rfl
  refine q_y (v := p235) (Yp235 rfl) ?_
  refine q_y (v := .slice A8 a.clock.length c9) (y_ld rfl (fun w S => ld_p1 S.le Ep235 rfl T23)) ?_
  refine q_y (v := pa g223 1) (y_fb FA106_1 rfl rfl) ?_
  refine q_y (v := ni z215.author) (y_ld rfl (fun w S => ld_b1 (i := 2) S rfl rfl T3)) ?_
  obtain ⟨z236, hz237⟩ : ∃ z, (a.clock)[z215.author.toNat]? = some z := nth_of (by omega)
  have := atI_nth hz237
  obtain ⟨p238, vs239, E240, nn241, r242, Y243⟩ := y_ia U23 SZ3 h3 hz237
  clear nn241
  have r242 : vs239 = [ni z236] := r242; subst r242
  refine q_y (v := p238) (Y243 rfl rfl (by first | rfl | omega)) ?_
  refine q_y (v := ni z236) (y_ld rfl (fun w S => ld_p1 S.le E240 rfl T3)) ?_
  by_cases h244 : z236 < z227
  ·
   refine q_y (v := .bool true) (y_gtT rfl rfl h244) ?_
   refine q_nil fun w245 S => ?_
   refine n_seq ?_
   refine e_cT rfl ?_
   refine e_reg ?_
   refine l_y (v := pa g101 2) S (y_fb FA27_2 rfl rfl) ?_
   refine l_y (v := .slice AU nU cU) S (y_ld rfl (fun w S => ld_b1 (i := 1) S rfl rfl T25)) ?_
   refine l_y (v := .agg #[ni z215.key, ni z215.author, ni z215.sum]) S (y_ld rfl (fun w S => ld_bA (vs := [ni z215.key, ni z215.author, ni z215.sum]) (i := 2) S rfl T106 rfl rfl)) ?_
   refine l_bs (ps := [(0, .agg #[ni z215.key, ni z215.author, ni z215.sum])]) (cs := #[ni z215.key, ni z215.author, ni z215.sum]) S U25 SZ106 Z106 rfl rfl rfl (by kernel_rfl) fun g246 w247 S => ?_
   refine l_ap (e' := 0) (i := 1) (i' := 3) S K25 rfl rfl rfl rfl rfl rfl rfl (by simp only [maxLen]; omega) (by first | omega | (dsimp only; omega)) fun v248 w249 S => ?_
   have OU := RowR.push (x := z215) (cs := [ni z215.key, ni z215.author, ni z215.sum]) OU rfl rfl
   obtain ⟨A250, c251, m252e, m252, m252'⟩ : ∃ A c, v248 = .slice A (nU + 1) c ∧ (nU + 1) ≤ c ∧ c ≤ maxLen := own_len S (i := 1) rfl; subst m252e
   refine l_y (v := pa g101 2) S (y_fb FA27_2 rfl rfl) ?_
   refine l_st (u := .slice A250 (nU + 1) c251) (i := 1) (cs' := #[.slice A98 ((joinC a.clock b.clock).length) c99, .slice AP nP cP, .slice A250 (nU + 1) c251]) S rfl rfl rfl SZ25 rfl rfl rfl fun w253 S => ?_
   refine l_nil ?_
   refine n_blk ?_
   refine n_seq ?_
   refine e_reg ?_
   refine l_y (v := ni ((k : Int) + 1)) S (y_add (r := (k : Int) + 1) rfl rfl (w64 (by omega) (by omega))) ?_
   refine l_y (v := ni ((k : Int) + 1)) S (y_mv rfl) ?_
   refine l_nil ?_
   refine n_lp ⟨(k + 1, u ++ [z215], A250, nU + 1, c251, (xsU ++ [ni z215.key, ni z215.author, ni z215.sum])), _, fr_keep (m := [(2, .pointer (some ⟨g33, 0, none⟩)), (3, .pointer (some ⟨g35, 0, none⟩)), (4, pa g37 0), (10, pa g101 0), (113, .slice A30 b.tallies.length c31), (114, ni (b.tallies.length : Int)), (115, ni ((k + 1 : Nat) : Int))]) ⟨⟨rfl, rfl⟩, ⟨rfl, rfl⟩, ⟨rfl, rfl⟩, ⟨rfl, rfl⟩, ⟨rfl, rfl⟩, ⟨rfl, rfl⟩, ⟨ival (by first | rfl | omega), rfl⟩, trivial⟩, ⟨_, _, rfl, (S.tk 2 2 rfl rfl), (Rd.le_trans L211 (Rd.le_refl rd209)), ⟨OU, (by simp; omega)⟩, (by omega), (fil_yes' hu hz216 (decide_eq_true (by omega)))⟩, ?_⟩
   show _ < _; dsimp only; omega
  refine q_y (v := .bool false) (y_gtF rfl rfl h244) ?_
  refine q_nil fun w254 S => ?_
  refine n_seq ?_
  refine e_cF rfl ?_
  refine e_skip ?_
  refine n_blk ?_
  refine n_seq ?_
  refine e_reg ?_
  refine l_y (v := ni ((k : Int) + 1)) S (y_add (r := (k : Int) + 1) rfl rfl (w64 (by omega) (by omega))) ?_
  refine l_y (v := ni ((k : Int) + 1)) S (y_mv rfl) ?_
  refine l_nil ?_
  refine n_lp ⟨(k + 1, u, AU, nU, cU, xsU), _, fr_keep (m := [(2, .pointer (some ⟨g33, 0, none⟩)), (3, .pointer (some ⟨g35, 0, none⟩)), (4, pa g37 0), (10, pa g101 0), (113, .slice A30 b.tallies.length c31), (114, ni (b.tallies.length : Int)), (115, ni ((k + 1 : Nat) : Int))]) ⟨⟨rfl, rfl⟩, ⟨rfl, rfl⟩, ⟨rfl, rfl⟩, ⟨rfl, rfl⟩, ⟨rfl, rfl⟩, ⟨rfl, rfl⟩, ⟨ival (by first | rfl | omega), rfl⟩, trivial⟩, ⟨_, _, rfl, (S.tk 2 2 rfl rfl), (Rd.le_trans L211 (Rd.le_refl rd209)), ⟨OU, (by first | assumption | omega)⟩, (by omega), (fil_no' hu hz216 (decide_eq_false (by omega)))⟩, ?_⟩
  show _ < _; dsimp only; omega
 refine l_y (v := .bool false) S (y_ltF rfl rfl h214) ?_
 refine l_nil ?_
 refine n_seq ?_
 refine e_seq ?_
 refine e_cF rfl ?_
 refine e_exit ?_
 refine x_seq ?_
 refine x_lp ?_
 refine x_hit ?_
 refine n_seq ?_
 refine e_seq ?_
 refine e_reg ?_
 refine l_y (v := .agg #[.slice A98 ((joinC a.clock b.clock).length) c99, .slice AP nP cP, .slice AU nU cU]) S (y_ld rfl (fun w S => ld_bA (vs := [.slice A98 ((joinC a.clock b.clock).length) c99, .slice AP nP cP, .slice AU nU cU]) (i := 1) S rfl T27 rfl rfl)) ?_
 have S := S.toEndO (i := 0) rfl
 have S := S.toEndO (i := 0) rfl
 refine l_c (en_f (vs := [.agg #[.slice A98 ((joinC a.clock b.clock).length) c99, .slice AP nP cP, .slice AU nU cU]]) (CF 80 _) rfl rfl) (JSorted_m _ _ _ _ _ _ _ _ _ _ _ _ _ _ p u (S.give (bxk := [(g37, 27, #[.slice none 0 0, .slice none 0 0, .slice none 0 0]), (g101, 27, #[.slice A98 ((joinC a.clock b.clock).length) c99, .slice AP nP cP, .slice AU nU cU])]) (bx0 := []) (owk := []) (ow0 := [⟨104, 5, .slice AP nP cP, nP, xsP⟩, ⟨106, 3, .slice AU nU cU, nU, xsU⟩]) rfl rfl) OP OU (join_nodup ra rb (by rw [hp, List.take_of_length_le (by omega)]; rfl)) (join_dist ra rb (by rw [hu, List.take_of_length_le (by omega)]; rfl)) (by omega) (by omega)) ?_
 rintro e w255 ⟨xs256, xs257, rfl, k, O258, O259⟩
 have L260 := k.sup
 have S := S.comp (bxk := [(g37, 27, #[.slice none 0 0, .slice none 0 0, .slice none 0 0]), (g101, 27, #[.slice A98 ((joinC a.clock b.clock).length) c99, .slice AP nP cP, .slice AU nU cU])]) (bx0 := []) (owk := []) (ow0 := [⟨104, 5, .slice AP nP cP, nP, xsP⟩, ⟨106, 3, .slice AU nU cU, nU, xsU⟩]) rfl rfl k; clear k
 replace h3 := fm h3 L260
 replace h5 := fm h5 L260
 replace h7 := fm h7 L260
 replace h19 := fm h19 L260
 replace h21 := fm h21 L260
 replace h23 := fm h23 L260
 replace FP41 := PtrC.mono FP41 L260
 replace FP44 := PtrC.mono FP44 L260
 replace h92 := fm h92 L260
 refine ckd ?_
 refine l_st (u := .agg #[.slice A98 ((joinC a.clock b.clock).length) c99, .slice AP nP cP, .slice AU nU cU]) (i := 0) (cs' := #[.slice A98 ((joinC a.clock b.clock).length) c99, .slice AP nP cP, .slice AU nU cU]) S rfl rfl rfl SZ27 rfl rfl rfl fun w261 S => ?_
 refine l_y (v := ni 0) S (y_as rfl) ?_
 refine l_nil ?_
 refine n_seq ?_
 refine e_ret ?_
 refine ret2 (v := .agg #[.slice A98 ((joinC a.clock b.clock).length) c99, .slice AP nP cP, .slice AU nU cU]) (v' := ni 0) rfl ⟨_, rfl, ld_bA (i := 0) (vs := [.slice A98 ((joinC a.clock b.clock).length) c99, .slice AP nP cP, .slice AU nU cU]) S rfl T27 rfl rfl⟩ rfl ?_
 have ej := joinS_eq (p := p) (u := u) ra rb (by rw [hp, List.take_of_length_le (by omega)]; rfl) (by rw [hu, List.take_of_length_le (by omega)]; rfl)
 rw [ej]
 exact ⟨_, rfl, ⟨_, rfl, ⟨_, _, _, rfl, (fm h92 S.out), (S.rowOut (i := 0) rfl rfl ((show nP = (p).length by first | rfl | assumption | omega).trans (sortL_len _).symm) rfl O258), (S.rowOut (i := 1) rfl rfl ((show nU = (u).length by first | rfl | assumption | omega).trans (sortT_len _).symm) rfl O259)⟩⟩, S.below⟩
end Go.Proofs.YtkjknlnhffmkkacGreat
