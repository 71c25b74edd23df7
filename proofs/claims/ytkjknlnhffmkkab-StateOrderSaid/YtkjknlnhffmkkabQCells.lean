/- state.cells. -/
import Derived.Test.YtkjknlnhffmkkabQPl
import Derived.Test.YtkjknlnhffmkkabQEg
import Derived.Test.YtkjknlnhffmkkabQApply2
namespace Go.Proofs.Ytkjknlnhffmkkab
open Go.RowKit
set_option linter.unusedVariables false
/-- cells on the way: the last one's items may still grow -/
def CellsI (rd : Rd) (cs : List Cell) (nO : Nat) (xsO : List Value) (vI : Value) (nI : Nat) (xsI : List Value) : Prop := (cs = [] ∧ nO = 0 ∧ xsO = []) ∨ ∃ F xsF key its y, cs = F ++ [⟨key, its⟩] ∧ nO = F.length + 1 ∧ xsO = xsF ++ [.int .i64 key, vI] ∧ RowR 2 CellR rd xsF F ∧ RowR 1 IntR rd xsI its ∧ nI = its.length ∧ its[its.length - 1]? = some y
theorem CellsI.mono {rd rd' : Rd} {cs : List Cell} {nO nI : Nat} {xsO xsI : List Value} {vI : Value} (h : CellsI rd cs nO xsO vI nI xsI) (k : Rd.le rd rd') : CellsI rd' cs nO xsO vI nI xsI := by
  rcases h with h | ⟨F, xsF, key, its, y, a, b, c, d, e, f, g⟩
  · exact .inl h
  · exact .inr ⟨F, xsF, key, its, y, a, b, c, rm d k, rm e k, f, g⟩
section
variable {xsF : List Value} {n j : Nat} {a b c : Value}
theorem row_last0 (h : xsF.length = n * 2) : (xsF ++ [a, b])[n * 2 + 0]? = some a := by rw [List.getElem?_append_right (by omega)]; simp [h]
theorem row_last1 (h : xsF.length = n * 2) : (xsF ++ [a, b])[n * 2 + 1]? = some b := by rw [List.getElem?_append_right (by omega)]; simp [h]
theorem row_set1 (h : xsF.length = n * 2) : (xsF ++ [a, b]).take (n * 2 + 1) ++ [c] ++ (xsF ++ [a, b]).drop (n * 2 + 1 + 1) = xsF ++ [a, c] := by
  have e : xsF ++ [a, b] = (xsF ++ [a]) ++ [b] := by simp
  have l : (xsF ++ [a]).length = n * 2 + 1 := by simp [h]
  rw [e, ← l, List.take_left, List.drop_eq_nil_of_le (by simp)]; simp
end
theorem rowI_get {rd : Rd} {l : List Int} {xs : List Value} {k : Nat} {y : Int} (h : RowR 1 IntR rd xs l) (hk : l[k]? = some y) : xs[k * 1]? = some (.int .i64 y) := by
  have e : ∀ {l : List Int} {xs : List Value}, RowR 1 IntR rd xs l → xs = l.map (Value.int .i64) := by
    intro l
    induction l with
    | nil => intro xs h; exact h
    | cons a l ih => rintro xs ⟨cs, rest, e, h1, h2, h3⟩; have h2 : cs = [.int .i64 a] := h2; subst e h2; rw [ih h3]; rfl
  rw [e h, Nat.mul_one, List.getElem?_map, hk]; rfl
set_option maxRecDepth 100000 in
set_option maxHeartbeats 8000000 in
theorem Cells_f (rd : Rd) (W : World) (hle : Rd.le rd (wrd W)) (v : Value) (l : List Live) (h : SliceR 5 LiveR rd v l) (hb : l.length ≤ 400000000) :
    Calls Try.prog 52 #[v, (.bool false)] W (fun e w' => ∃ v', e = .returned v' ∧ SliceR 2 CellR (ext rd W w') v' (cellsL l false) ∧ Below W.heap.size W w') := by
 obtain ⟨A1, c2, rfl, m3, m3'⟩ := h.val
 have hmx : maxLen = 9223372036854775807 := rfl
 have S : St [] W rd rd [] [] W := St.start hle
 refine e_enter (args := [.slice A1 l.length c2, .bool false]) 75 Try.func52 rfl rfl rfl ?_
 refine e_seq ?_
 refine e_reg ?_
 refine l_y (v := .slice none 0 0) S (y_as rfl) ?_
 refine l_nil ?_
 refine n_seq ?_
 refine e_seq ?_
 refine e_reg ?_
 refine l_y (v := .slice none 0 0) S (y_as rfl) ?_
 refine l_nil ?_
 refine n_seq ?_
 refine e_seq ?_
 refine e_seq ?_
 refine e_reg ?_
 refine l_y (v := .slice A1 l.length c2) S (y_mv rfl) ?_
 refine l_y (v := .int .i64 (l.length : Int)) S (y_len U24 rfl rfl) ?_
 refine l_y (v := .int .i64 0) S (y_mv rfl) ?_
 refine l_nil ?_
 refine n_seq ?_
 refine e_blk ?_
 have S := (S.ownNil 55 2).ownNil 3 1
 refine e_trim [(1, .bool false), (4, .slice none 0 0), (10, .slice A1 l.length c2), (11, .int .i64 (l.length : Int)), (12, .int .i64 (0 : Int)), (5, .slice none 0 0)] ⟨⟨rfl, rfl⟩, ⟨rfl, rfl⟩, ⟨rfl, rfl⟩, ⟨rfl, rfl⟩, ⟨ival (by first | rfl | omega), rfl⟩, ⟨rfl, rfl⟩, trivial⟩ (fun junk => ?_)
 refine e_loop (fun (gh_ : Nat × (Option Addr) × Nat × Nat × (List Value) × (Option Addr) × Nat × Nat × (List Value)) ov w => match gh_ with | (k, AO, nO, cO, xsO, AI, nI, cI, xsI) => ∃ rd' junk, ov = [(1, .bool false), (4, .slice none 0 0), (10, .slice A1 l.length c2), (11, .int .i64 (l.length : Int)), (12, .int .i64 (k : Int)), (5, .slice AO nO cO)] ++ junk ∧ St [] W rd rd' [] [⟨55, 2, .slice AO nO cO, nO, xsO⟩, ⟨3, 1, .slice AI nI cI, nI, xsI⟩] w ∧ Rd.le rd rd' ∧ CellsI rd' (cellsL (l.take k) false) nO xsO (.slice AI nI cI) nI xsI ∧ k ≤ l.length ∧ nO ≤ k ∧ nI ≤ k) (fun gh_ => match gh_ with | (k, AO, nO, cO, xsO, AI, nI, cI, xsI) => l.length - k) (0, none, 0, 0, [], none, 0, 0, []) ⟨_, junk, rfl, (S.rw' rfl rfl), (Rd.le_refl _), (.inl ⟨rfl, rfl, rfl⟩), (by omega), (by omega), (by omega)⟩ ?_
 rintro ⟨k, AO, nO, cO, xsO, AI, nI, cI, xsI⟩ ov7 w5 ⟨rd4, junk, rfl, S, L6, HC, hk, hno, hni⟩
 replace h := fm h L6
 refine e_seq ?_
 refine e_reg ?_
 by_cases h8 : (k : Int) < (l.length : Int)
 · -- h8 yes
  refine l_y (v := .bool true) S (y_ltT rfl rfl h8) ?_
  refine l_nil ?_
  refine n_seq ?_
  refine e_seq ?_
  refine e_cT rfl ?_
  refine e_skip ?_
  refine n_seq ?_
  refine e_seq ?_
  refine e_blk ?_
  refine e_seq ?_
  refine e_reg ?_
  obtain ⟨z9, hz10⟩ : ∃ z, (l)[k]? = some z := nth_of (by first | assumption | omega)
  obtain ⟨p11, vs12, E13, nn14, r15, Y16⟩ := y_ia U24 SZ62 h hz10
  clear nn14
  have r15e : vs12 = [.bool z9.set, .int .i64 z9.key, .int .i64 z9.item, .int .i64 z9.author, .int .i64 z9.seq] := r15; subst r15e; clear r15
  refine l_y (v := p11) S (Y16 rfl rfl (by first | rfl | omega)) ?_
  refine l_y (v := .agg #[.bool z9.set, .int .i64 z9.key, .int .i64 z9.item, .int .i64 z9.author, .int .i64 z9.seq]) S (y_ld rfl (fun w S => ld_pA (us := [.bool z9.set, .int .i64 z9.key, .int .i64 z9.item, .int .i64 z9.author, .int .i64 z9.seq]) S.le E13 T62 rfl rfl)) ?_
  refine l_al (cs := #[.bool false, .int .i64 0, .int .i64 0, .int .i64 0, .int .i64 0]) S Z62 rfl fun g17 w18 S => ?_
  refine l_st (u := .agg #[.bool z9.set, .int .i64 z9.key, .int .i64 z9.item, .int .i64 z9.author, .int .i64 z9.seq]) (i := 0) (cs' := #[.bool z9.set, .int .i64 z9.key, .int .i64 z9.item, .int .i64 z9.author, .int .i64 z9.seq]) S rfl rfl rfl SZ62 rfl rfl rfl fun w19 S => ?_
  refine l_nil ?_
  refine n_seq ?_
  refine e_seq ?_
  refine e_seq ?_
  refine e_reg ?_
  refine l_y (v := .pointer (some ⟨g17, 0, none⟩)) S (y_fb FA62_0 rfl rfl) ?_
  rcases Bool.eq_false_or_eq_true z9.set with b20 | b20
  · -- b20 True
   refine l_y (v := .bool true) S (y_bv (y_ld rfl (fun w S => ld_b1 (i := 0) S rfl rfl T4)) b20) ?_
   refine l_y (v := .bool false) S (y_mv rfl) ?_
   refine l_y (v := .bool true) S (y_bn U4 rfl rfl rfl) ?_
   refine l_nil ?_
   refine n_seq ?_
   refine e_cT rfl ?_
   refine e_exit ?_
   refine x_seq ?_
   refine x_hit ?_
   refine n_seq ?_
   refine e_reg ?_
   refine l_y (v := .int .i64 ((k : Int) + 1)) S (y_add (r := (k : Int) + 1) rfl rfl (w64 (by omega) (by omega))) ?_
   refine l_y (v := .int .i64 ((k : Int) + 1)) S (y_mv rfl) ?_
   refine l_nil ?_
   refine n_lp ⟨(k + 1, AO, nO, cO, xsO, AI, nI, cI, xsI), _, fr_keep (m := [(1, .bool false), (4, .slice none 0 0), (10, .slice A1 l.length c2), (11, .int .i64 (l.length : Int)), (12, .int .i64 ((k + 1 : Nat) : Int)), (5, .slice AO nO cO)]) ⟨⟨rfl, rfl⟩, ⟨rfl, rfl⟩, ⟨rfl, rfl⟩, ⟨rfl, rfl⟩, ⟨ival (by first | rfl | omega), rfl⟩, ⟨rfl, rfl⟩, trivial⟩, ⟨_, _, rfl, (S.tk 0 2 rfl rfl), (Rd.le_trans L6 (Rd.le_refl rd4)), (by rw [cells_take hz10, step_skip (by rw [b20]; decide)]; exact HC), (by omega), (by first | omega | (simp; omega)), (by first | omega | (simp; omega))⟩, ?_⟩
   show _ < _; dsimp only; omega
  · -- b20 False
   refine l_y (v := .bool false) S (y_bv (y_ld rfl (fun w S => ld_b1 (i := 0) S rfl rfl T4)) b20) ?_
   refine l_y (v := .bool false) S (y_mv rfl) ?_
   refine l_y (v := .bool false) S (y_bn U4 rfl rfl rfl) ?_
   refine l_nil ?_
   refine n_seq ?_
   refine e_cF rfl ?_
   refine e_skip ?_
   refine n_seq ?_
   refine e_seq ?_
   refine e_reg ?_
   rcases HC with ⟨hcs, rfl, rfl⟩ | ⟨F, xsF, key, its, y, hcs, rfl, rfl, hF, OI, rfl, hy⟩
   · -- none yet
    refine l_y (v := .slice AO 0 cO) S (y_mv rfl) ?_
    refine l_y (v := .int .i64 0) S (y_len U41 rfl rfl) ?_
    refine l_y (v := .int .i64 (-1)) S (y_sub (r := (-1)) rfl rfl (rfl)) ?_
    refine l_y (v := .int .i64 (-1)) S (y_as rfl) ?_
    refine l_nil ?_
    refine n_seq ?_
    refine e_seq ?_
    refine e_seq ?_
    refine e_q MX (by kernel_rfl) S.drew ?_
    -- draws
    refine q_y (v := .int .i64 (-1)) (y_mv rfl) ?_
    refine q_y (v := .bool true) (y_ltT rfl rfl (by decide)) ?_
    refine q_y (v := .bool true) (y_mv rfl) ?_
    refine q_s (d' := 25) rfl rfl ?_
    refine q_s (d' := 25) rfl rfl ?_
    refine q_s (d' := 25) rfl rfl ?_
    refine q_s (d' := 25) rfl rfl ?_
    refine q_s (d' := 25) rfl rfl ?_
    refine q_s (d' := 25) rfl rfl ?_
    refine q_s (d' := 25) rfl rfl ?_
    refine q_s (d' := 25) rfl rfl ?_
    refine q_y (v := .bool true) (y_pT rfl rfl) ?_
    refine q_nil fun w21 S => ?_
    refine n_seq ?_
    refine e_trim [(1, .bool false), (4, .slice none 0 0), (10, .slice A1 l.length c2), (11, .int .i64 (l.length : Int)), (12, .int .i64 (k : Int)), (5, .slice AO 0 cO), (13, .bool true), (14, p11), (15, .agg #[.bool z9.set, .int .i64 z9.key, .int .i64 z9.item, .int .i64 z9.author, .int .i64 z9.seq]), (7, .pointer (some ⟨g17, 0, none⟩)), (16, .pointer (some ⟨g17, 0, none⟩)), (17, .bool false), (18, .bool false), (19, .bool false), (20, .slice AO 0 cO), (21, .int .i64 0), (22, .int .i64 (-1)), (8, .int .i64 (-1)), (23, .int .i64 (-1)), (24, .bool true), (25, .bool true), (26, undef), (27, undef), (28, undef), (29, undef), (30, undef), (31, undef), (32, undef), (33, undef), (34, .bool true)] ⟨⟨rfl, rfl⟩, ⟨rfl, rfl⟩, ⟨rfl, rfl⟩, ⟨rfl, rfl⟩, ⟨rfl, rfl⟩, ⟨rfl, rfl⟩, ⟨rfl, rfl⟩, ⟨rfl, rfl⟩, ⟨rfl, rfl⟩, ⟨rfl, rfl⟩, ⟨rfl, rfl⟩, ⟨rfl, rfl⟩, ⟨rfl, rfl⟩, ⟨rfl, rfl⟩, ⟨rfl, rfl⟩, ⟨rfl, rfl⟩, ⟨rfl, rfl⟩, ⟨rfl, rfl⟩, ⟨rfl, rfl⟩, ⟨rfl, rfl⟩, ⟨rfl, rfl⟩, ⟨rfl, rfl⟩, ⟨rfl, rfl⟩, ⟨rfl, rfl⟩, ⟨rfl, rfl⟩, ⟨rfl, rfl⟩, ⟨rfl, rfl⟩, ⟨rfl, rfl⟩, ⟨rfl, rfl⟩, ⟨rfl, rfl⟩, trivial⟩ (fun junk => ?_)
    refine e_cT rfl ?_
    refine e_seq ?_
    refine e_reg ?_
    refine l_y (v := .slice AO 0 cO) S (y_mv rfl) ?_
    refine l_y (v := .pointer (some ⟨g17, 1, none⟩)) S (y_fb FA62_1 rfl rfl) ?_
    refine l_y (v := .int .i64 z9.key) S (y_ld rfl (fun w S => ld_b1 (i := 0) S rfl rfl T3)) ?_
    refine l_y (v := .pointer (some ⟨g17, 2, none⟩)) S (y_fb FA62_2 rfl rfl) ?_
    refine l_y (v := .int .i64 z9.item) S (y_ld rfl (fun w S => ld_b1 (i := 0) S rfl rfl T3)) ?_
    refine l_bs (ps := [(0, .int .i64 z9.item)]) (cs := #[.int .i64 z9.item]) S U22 SZ3 Z3 rfl rfl rfl (by kernel_rfl) fun g22 w23 S => ?_
    refine l_y (v := .agg #[.int .i64 z9.key, .slice (some ⟨g22, 0, none⟩) 1 1]) S (y_bd (ps := [(0, .int .i64 z9.key), (1, .slice (some ⟨g22, 0, none⟩) 1 1)]) rfl (fun _ => by kernel_rfl)) ?_
    refine l_bs (ps := [(0, .agg #[.int .i64 z9.key, .slice (some ⟨g22, 0, none⟩) 1 1])]) (cs := #[.int .i64 z9.key, .slice (some ⟨g22, 0, none⟩) 1 1]) S U41 SZ55 Z55 rfl rfl rfl (by kernel_rfl) fun g24 w25 S => ?_
    have S := S.boxOwn (i := 1) rfl 1 1 1 rfl rfl (by simp [maxLen])
    have S := S.delo 1
    replace S := S.rw' (bx' := [(g17, 62, #[.bool z9.set, .int .i64 z9.key, .int .i64 z9.item, .int .i64 z9.author, .int .i64 z9.seq]), (g24, 55, #[.int .i64 z9.key, .slice (some ⟨g22, 0, none⟩) 1 1])]) (ow' := [⟨55, 2, .slice AO 0 cO, 0, []⟩, ⟨3, 1, .slice (some ⟨g22, 0, none⟩) 1 1, 1, [.int .i64 z9.item]⟩]) rfl rfl
    refine l_ap (e' := 0) (i := 0) (i' := 1) S K41 rfl rfl rfl rfl rfl rfl rfl (by simp only [maxLen]; omega) (by dsimp only; omega) fun v26 w27 S => ?_
    obtain ⟨A28, c29, m30e, m30, m30'⟩ : ∃ A c, v26 = .slice A (0 + 1) c ∧ (0 + 1) ≤ c ∧ c ≤ maxLen := own_len S (i := 0) rfl; subst m30e
    refine l_y (v := .slice A28 (0 + 1) c29) S (y_as rfl) ?_
    refine l_nil ?_
    refine n_seq ?_
    refine e_exit ?_
    refine x_seq ?_
    refine x_hit ?_
    refine n_seq ?_
    refine e_reg ?_
    refine l_y (v := .int .i64 ((k : Int) + 1)) S (y_add (r := (k : Int) + 1) rfl rfl (w64 (by omega) (by omega))) ?_
    refine l_y (v := .int .i64 ((k : Int) + 1)) S (y_mv rfl) ?_
    refine l_nil ?_
    refine n_lp ⟨(k + 1, A28, (0 + 1), c29, [] ++ [.int .i64 z9.key, .slice (some ⟨g22, 0, none⟩) 1 1], (some ⟨g22, 0, none⟩), 1, 1, [.int .i64 z9.item]), _, fr_keep (m := [(1, .bool false), (4, .slice none 0 0), (10, .slice A1 l.length c2), (11, .int .i64 (l.length : Int)), (12, .int .i64 ((k + 1 : Nat) : Int)), (5, .slice A28 (0 + 1) c29)]) ⟨⟨rfl, rfl⟩, ⟨rfl, rfl⟩, ⟨rfl, rfl⟩, ⟨rfl, rfl⟩, ⟨ival (by first | rfl | omega), rfl⟩, ⟨rfl, rfl⟩, trivial⟩, ⟨_, _, rfl, (S.tk 0 2 rfl rfl), (Rd.le_trans L6 (Rd.le_refl rd4)), (.inr ⟨[], [], z9.key, [z9.item], z9.item, by rw [cells_take hz10, hcs, step_first b20]; rfl, rfl, rfl, rfl, (rowInts _ [z9.item]), rfl, rfl⟩), (by omega), (by first | omega | (simp; omega)), (by first | omega | (simp; omega))⟩, ?_⟩
    show _ < _; dsimp only; omega
   · -- some
    have hil := (List.getElem?_eq_some_iff.1 hy).1; have hxl := hF.len
    obtain ⟨gO, rfl⟩ := own_atA S (i := 0) rfl rfl (Nat.succ_ne_zero _)
    obtain ⟨gI, rfl⟩ := own_atA S (i := 1) rfl rfl (show its.length ≠ 0 by omega)
    refine l_y (v := .slice (some ⟨gO, 0, none⟩) (F.length + 1) cO) S (y_mv rfl) ?_
    refine l_y (v := .int .i64 ((F.length + 1 : Nat) : Int)) S (y_len U41 rfl rfl) ?_
    refine l_y (v := .int .i64 (F.length : Int)) S (y_sub (r := (F.length : Int)) rfl rfl (w64 (by omega) (by omega) |>.trans (by omega))) ?_
    refine l_y (v := .int .i64 (F.length : Int)) S (y_as rfl) ?_
    refine l_nil ?_
    refine n_seq ?_
    refine e_seq ?_
    refine e_seq ?_
    refine e_q MX (by kernel_rfl) S.drew ?_
    -- draws
    refine q_y (v := .int .i64 (F.length : Int)) (y_mv rfl) ?_
    have h31 : ¬ ((F.length : Int) < 0) := by omega
    refine q_y (v := .bool false) (y_ltF rfl rfl h31) ?_
    refine q_y (v := .bool false) (y_mv rfl) ?_
    refine q_g (d' := 25) (v := .slice (some ⟨gO, 0, none⟩) (F.length + 1) cO) (y_mv rfl) rfl rfl ?_
    refine q_g (d' := 25) (v := .int .i64 (F.length : Int)) (y_mv rfl) rfl rfl ?_
    refine q_g (d' := 25) (v := .pointer (some ⟨gO, F.length * 2, none⟩)) (y_ibs (k := F.length) U41 SZ55 (Nat.lt_succ_self _) (Nat.zero_add _) rfl rfl (by first | rfl | omega)) rfl rfl ?_
    refine q_g (d' := 25) (v := .pointer (some ⟨gO, F.length * 2 + 0, none⟩)) (y_fb FA55_0 rfl rfl) rfl rfl ?_
    refine q_g (d' := 25) (v := .int .i64 key) (y_ld rfl (fun w S => ld_o1 (i := 0) S rfl rfl T3 (row_last0 hxl))) rfl rfl ?_
    refine q_g (d' := 25) (v := .pointer (some ⟨g17, 1, none⟩)) (y_fb FA62_1 rfl rfl) rfl rfl ?_
    refine q_g (d' := 25) (v := .int .i64 z9.key) (y_ld rfl (fun w S => ld_b1 (i := 0) S rfl rfl T3)) rfl rfl ?_
    by_cases hk2 : key = z9.key
    · -- hk2 yes
     refine q_g (d' := 25) (v := .bool false) (y_neF rfl rfl hk2) rfl rfl ?_
     refine q_y (v := .bool false) (y_pF rfl rfl) ?_
     refine q_nil fun w32 S => ?_
     refine n_seq ?_
     refine e_trim [(1, .bool false), (4, .slice none 0 0), (10, .slice A1 l.length c2), (11, .int .i64 (l.length : Int)), (12, .int .i64 (k : Int)), (5, .slice (some ⟨gO, 0, none⟩) (F.length + 1) cO), (13, .bool true), (14, p11), (15, .agg #[.bool z9.set, .int .i64 z9.key, .int .i64 z9.item, .int .i64 z9.author, .int .i64 z9.seq]), (7, .pointer (some ⟨g17, 0, none⟩)), (16, .pointer (some ⟨g17, 0, none⟩)), (17, .bool false), (18, .bool false), (19, .bool false), (20, .slice (some ⟨gO, 0, none⟩) (F.length + 1) cO), (21, .int .i64 ((F.length + 1 : Nat) : Int)), (22, .int .i64 (F.length : Int)), (8, .int .i64 (F.length : Int)), (23, .int .i64 (F.length : Int)), (24, .bool false), (25, .bool false), (26, .slice (some ⟨gO, 0, none⟩) (F.length + 1) cO), (27, .int .i64 (F.length : Int)), (28, .pointer (some ⟨gO, F.length * 2, none⟩)), (29, .pointer (some ⟨gO, F.length * 2 + 0, none⟩)), (30, .int .i64 key), (31, .pointer (some ⟨g17, 1, none⟩)), (32, .int .i64 z9.key), (33, .bool false), (34, .bool false)] ⟨⟨rfl, rfl⟩, ⟨rfl, rfl⟩, ⟨rfl, rfl⟩, ⟨rfl, rfl⟩, ⟨rfl, rfl⟩, ⟨rfl, rfl⟩, ⟨rfl, rfl⟩, ⟨rfl, rfl⟩, ⟨rfl, rfl⟩, ⟨rfl, rfl⟩, ⟨rfl, rfl⟩, ⟨rfl, rfl⟩, ⟨rfl, rfl⟩, ⟨rfl, rfl⟩, ⟨rfl, rfl⟩, ⟨rfl, rfl⟩, ⟨rfl, rfl⟩, ⟨rfl, rfl⟩, ⟨rfl, rfl⟩, ⟨rfl, rfl⟩, ⟨rfl, rfl⟩, ⟨rfl, rfl⟩, ⟨rfl, rfl⟩, ⟨rfl, rfl⟩, ⟨rfl, rfl⟩, ⟨rfl, rfl⟩, ⟨rfl, rfl⟩, ⟨rfl, rfl⟩, ⟨rfl, rfl⟩, ⟨rfl, rfl⟩, trivial⟩ (fun junk => ?_)
     refine e_cF rfl ?_
     refine e_skip ?_
     refine n_seq ?_
     refine e_seq ?_
     refine e_reg ?_
     refine l_y (v := .slice (some ⟨gO, 0, none⟩) (F.length + 1) cO) S (y_mv rfl) ?_
     refine l_y (v := .int .i64 (F.length : Int)) S (y_mv rfl) ?_
     refine l_y (v := .pointer (some ⟨gO, F.length * 2, none⟩)) S (y_ibs (k := F.length) U41 SZ55 (Nat.lt_succ_self _) (Nat.zero_add _) rfl rfl (by first | rfl | omega)) ?_
     refine l_y (v := .pointer (some ⟨gO, F.length * 2, none⟩)) S (y_as rfl) ?_
     refine l_nil ?_
     refine n_seq ?_
     refine e_seq ?_
     refine e_q MX (by kernel_rfl) S.drew ?_
     -- draws
     refine q_y (v := .pointer (some ⟨gO, F.length * 2, none⟩)) (y_mv rfl) ?_
     refine q_y (v := .pointer (some ⟨gO, F.length * 2, none⟩)) (y_nc rfl) ?_
     refine q_y (v := .pointer (some ⟨gO, F.length * 2 + 1, none⟩)) (y_fb FA55_1 rfl rfl) ?_
     refine q_y (v := .slice (some ⟨gI, 0, none⟩) its.length cI) (y_ld rfl (fun w S => ld_o1 (i := 0) S rfl rfl T22 (row_last1 hxl))) ?_
     refine q_y (v := .pointer (some ⟨gO, F.length * 2, none⟩)) (y_mv rfl) ?_
     refine q_y (v := .pointer (some ⟨gO, F.length * 2, none⟩)) (y_nc rfl) ?_
     refine q_y (v := .pointer (some ⟨gO, F.length * 2 + 1, none⟩)) (y_fb FA55_1 rfl rfl) ?_
     refine q_y (v := .slice (some ⟨gI, 0, none⟩) its.length cI) (y_ld rfl (fun w S => ld_o1 (i := 0) S rfl rfl T22 (row_last1 hxl))) ?_
     refine q_y (v := .int .i64 (its.length : Int)) (y_len U22 rfl rfl) ?_
     refine q_y (v := .int .i64 ((its.length - 1 : Nat) : Int)) (y_sub (r := ((its.length - 1 : Nat) : Int)) rfl rfl ((w64 (by omega) (by omega)).trans (by omega))) ?_
     refine q_y (v := .pointer (some ⟨gI, (its.length - 1) * 1, none⟩)) (y_ibs (k := (its.length - 1)) U22 SZ3 (by omega) (Nat.zero_add _) rfl rfl (by first | rfl | omega)) ?_
     refine q_y (v := .int .i64 y) (y_ld rfl (fun w S => ld_o1 (i := 1) S rfl rfl T3 (rowI_get OI hy))) ?_
     refine q_y (v := .pointer (some ⟨g17, 2, none⟩)) (y_fb FA62_2 rfl rfl) ?_
     refine q_y (v := .int .i64 z9.item) (y_ld rfl (fun w S => ld_b1 (i := 0) S rfl rfl T3)) ?_
     by_cases hit : y = z9.item
     · -- hit yes
      refine q_y (v := .bool false) (y_neF rfl rfl hit) ?_
      refine q_nil fun w33 S => ?_
      refine n_seq ?_
      refine e_cF rfl ?_
      refine e_skip ?_
      refine n_blk ?_
      refine n_seq ?_
      refine e_reg ?_
      refine l_y (v := .int .i64 ((k : Int) + 1)) S (y_add (r := (k : Int) + 1) rfl rfl (w64 (by omega) (by omega))) ?_
      refine l_y (v := .int .i64 ((k : Int) + 1)) S (y_mv rfl) ?_
      refine l_nil ?_
      refine n_lp ⟨(k + 1, (some ⟨gO, 0, none⟩), (F.length + 1), cO, (xsF ++ [.int .i64 key, .slice (some ⟨gI, 0, none⟩) its.length cI]), (some ⟨gI, 0, none⟩), its.length, cI, xsI), _, fr_keep (m := [(1, .bool false), (4, .slice none 0 0), (10, .slice A1 l.length c2), (11, .int .i64 (l.length : Int)), (12, .int .i64 ((k + 1 : Nat) : Int)), (5, .slice (some ⟨gO, 0, none⟩) (F.length + 1) cO)]) ⟨⟨rfl, rfl⟩, ⟨rfl, rfl⟩, ⟨rfl, rfl⟩, ⟨rfl, rfl⟩, ⟨ival (by first | rfl | omega), rfl⟩, ⟨rfl, rfl⟩, trivial⟩, ⟨_, _, rfl, (S.tk 0 2 rfl rfl), (Rd.le_trans L6 (Rd.le_refl rd4)), (.inr ⟨F, xsF, key, its, y, by rw [cells_take hz10, hcs, step_same b20 hk2 hy hit], rfl, rfl, hF, OI, rfl, hy⟩), (by omega), (by first | omega | (simp; omega)), (by first | omega | (simp; omega))⟩, ?_⟩
      show _ < _; dsimp only; omega
     · -- hit no
      refine q_y (v := .bool true) (y_neT rfl rfl hit) ?_
      refine q_nil fun w34 S => ?_
      refine n_seq ?_
      refine e_cT rfl ?_
      refine e_a (fun w => St [] W rd rd4 [(g17, 62, #[.bool z9.set, .int .i64 z9.key, .int .i64 z9.item, .int .i64 z9.author, .int .i64 z9.seq])] [] w) MX rfl ?_
      have S := S.drew; have sup35 := S.sup
      have SC : St [] W rd rd4 [(g17, 62, #[.bool z9.set, .int .i64 z9.key, .int .i64 z9.item, .int .i64 z9.author, .int .i64 z9.seq])] [] _ := (S.tk 1 0 rfl rfl).rw' rfl rfl
      refine a_take (v := .pointer (some ⟨gO, F.length * 2, none⟩)) 0 rfl rfl (by kernel_rfl) (by kernel_rfl) (by kernel_rfl) SC rfl (y_mv rfl) ?_
      refine a_take (v := .pointer (some ⟨gO, F.length * 2, none⟩)) 1 rfl rfl (by kernel_rfl) (by kernel_rfl) (by kernel_rfl) SC rfl (y_mv rfl) ?_
      refine a_take (v := .pointer (some ⟨gO, F.length * 2, none⟩)) 2 rfl rfl (by kernel_rfl) (by kernel_rfl) (by kernel_rfl) SC rfl (y_nc rfl) ?_
      refine a_take (v := .pointer (some ⟨gO, F.length * 2 + 1, none⟩)) 3 rfl rfl (by kernel_rfl) (by kernel_rfl) (by kernel_rfl) SC rfl (y_fb FA55_1 rfl rfl) ?_
      refine a_take (v := .pointer (some ⟨g17, 2, none⟩)) 5 rfl rfl (by kernel_rfl) (by kernel_rfl) (by kernel_rfl) SC rfl (y_fb FA62_2 rfl rfl) ?_
      refine a_take (v := .int .i64 z9.item) 6 rfl rfl (by kernel_rfl) (by kernel_rfl) (by kernel_rfl) SC rfl (y_ld rfl (fun w S => ld_b1 (i := 0) S rfl rfl T3)) ?_
      refine a_all (rs := [4, 7]) (by kernel_rfl) rfl ?_
      refine aa_cons rfl ?_ ?_
      · -- operation 4
       refine l_y (v := .slice (some ⟨gI, 0, none⟩) its.length cI) S (y_ld rfl (fun w S => ld_o1 (i := 0) S rfl rfl T22 (row_last1 hxl))) ?_
       refine l_nil ?_
       have SC : St [] W rd rd4 [(g17, 62, #[.bool z9.set, .int .i64 z9.key, .int .i64 z9.item, .int .i64 z9.author, .int .i64 z9.seq])] [] _ := (S.tk 1 0 rfl rfl).rw' rfl rfl
       refine n_lp (ak SC ?_)
       refine a_all (rs := [7]) (by kernel_rfl) rfl ?_
       refine aa_cons rfl ?_ ?_
       · -- operation 7
        refine l_bs (ps := [(0, .int .i64 z9.item)]) (cs := #[.int .i64 z9.item]) S U22 SZ3 Z3 rfl rfl rfl (by kernel_rfl) fun g36 w37 S => ?_
        refine l_nil ?_
        have SC : St [] W rd rd4 [(g17, 62, #[.bool z9.set, .int .i64 z9.key, .int .i64 z9.item, .int .i64 z9.author, .int .i64 z9.seq])] [] _ := (S.tk 1 0 rfl rfl).rw' rfl rfl
        refine n_lp (ak SC ?_)
        refine a_all (rs := [8]) (by kernel_rfl) rfl ?_
        refine aa_cons rfl ?_ ?_
        · -- operation 8
         refine l_ap (e' := 0) (i := 1) (i' := 1) S K22 rfl rfl rfl rfl rfl rfl rfl (by simp only [maxLen]; omega) (by first | omega | (dsimp only; omega)) fun v38 w39 S => ?_
         have OI := RowR.push (x := z9.item) (cs := [.int .i64 z9.item]) OI rfl rfl
         obtain ⟨A40, c41, m42e, m42, m42'⟩ : ∃ A c, v38 = .slice A (its.length + 1) c ∧ (its.length + 1) ≤ c ∧ c ≤ maxLen := own_len S (i := 1) rfl; subst m42e
         refine l_nil ?_
         have SC : St [] W rd rd4 [(g17, 62, #[.bool z9.set, .int .i64 z9.key, .int .i64 z9.item, .int .i64 z9.author, .int .i64 z9.seq])] [] _ := (S.tk 1 0 rfl rfl).rw' rfl rfl
         refine n_lp (ak SC ?_)
         refine a_take (v := .pointer (some ⟨gO, F.length * 2, none⟩)) 9 rfl rfl (by kernel_rfl) (by kernel_rfl) (by kernel_rfl) SC rfl (y_nc rfl) ?_
         refine a_take (v := .pointer (some ⟨gO, F.length * 2 + 1, none⟩)) 10 rfl rfl (by kernel_rfl) (by kernel_rfl) (by kernel_rfl) SC rfl (y_fb FA55_1 rfl rfl) ?_
         refine a_all (rs := [11]) (by kernel_rfl) rfl ?_
         refine aa_cons rfl ?_ ?_
         · -- operation 11
          refine l_so (u := .slice A40 (its.length + 1) c41) (i := 0) (xs' := (xsF ++ [.int .i64 key, .slice A40 (its.length + 1) c41])) S rfl rfl rfl rfl SZ22 (show _ + 1 ≤ List.length _ by simp; omega) rfl (row_set1 hxl) fun w43 S => ?_
          refine l_nil ?_
          have SC : St [] W rd rd4 [(g17, 62, #[.bool z9.set, .int .i64 z9.key, .int .i64 z9.item, .int .i64 z9.author, .int .i64 z9.seq])] [] _ := (S.tk 1 0 rfl rfl).rw' rfl rfl
          refine n_lp (ak SC ?_)
          refine a_done (by kernel_rfl) ?_
          clear SC
          refine n_blk ?_
          refine n_seq ?_
          refine e_trim [(1, .bool false), (4, .slice none 0 0), (10, .slice A1 l.length c2), (11, .int .i64 (l.length : Int)), (12, .int .i64 (k : Int)), (5, .slice (some ⟨gO, 0, none⟩) (F.length + 1) cO), (13, .bool true), (14, p11), (15, .agg #[.bool z9.set, .int .i64 z9.key, .int .i64 z9.item, .int .i64 z9.author, .int .i64 z9.seq]), (7, .pointer (some ⟨g17, 0, none⟩)), (16, .pointer (some ⟨g17, 0, none⟩)), (17, .bool false), (18, .bool false), (19, .bool false), (20, .slice (some ⟨gO, 0, none⟩) (F.length + 1) cO), (21, .int .i64 ((F.length + 1 : Nat) : Int)), (22, .int .i64 (F.length : Int)), (8, .int .i64 (F.length : Int)), (23, .int .i64 (F.length : Int)), (24, .bool false), (25, .bool false), (26, .slice (some ⟨gO, 0, none⟩) (F.length + 1) cO), (27, .int .i64 (F.length : Int)), (28, .pointer (some ⟨gO, F.length * 2, none⟩)), (29, .pointer (some ⟨gO, F.length * 2 + 0, none⟩)), (30, .int .i64 key), (31, .pointer (some ⟨g17, 1, none⟩)), (32, .int .i64 z9.key), (33, .bool false), (34, .bool false), (44, .slice (some ⟨gO, 0, none⟩) (F.length + 1) cO), (45, .int .i64 (F.length : Int)), (46, .pointer (some ⟨gO, F.length * 2, none⟩)), (9, .pointer (some ⟨gO, F.length * 2, none⟩)), (47, .pointer (some ⟨gO, F.length * 2, none⟩)), (48, .pointer (some ⟨gO, F.length * 2, none⟩)), (49, .pointer (some ⟨gO, F.length * 2 + 1, none⟩)), (50, .slice (some ⟨gI, 0, none⟩) its.length cI), (51, .pointer (some ⟨gO, F.length * 2, none⟩)), (52, .pointer (some ⟨gO, F.length * 2, none⟩)), (53, .pointer (some ⟨gO, F.length * 2 + 1, none⟩)), (54, .slice (some ⟨gI, 0, none⟩) its.length cI), (55, .int .i64 (its.length : Int)), (56, .int .i64 ((its.length - 1 : Nat) : Int)), (57, .pointer (some ⟨gI, (its.length - 1) * 1, none⟩)), (58, .int .i64 y), (59, .pointer (some ⟨g17, 2, none⟩)), (60, .int .i64 z9.item), (61, .bool true), (62, .pointer (some ⟨gO, F.length * 2, none⟩)), (63, .pointer (some ⟨gO, F.length * 2, none⟩)), (64, .pointer (some ⟨gO, F.length * 2, none⟩)), (65, .pointer (some ⟨gO, F.length * 2 + 1, none⟩)), (67, .pointer (some ⟨g17, 2, none⟩)), (68, .int .i64 z9.item), (66, .slice (some ⟨gI, 0, none⟩) its.length cI), (69, .slice (some ⟨g36, 0, none⟩) 1 1), (70, .slice A40 (its.length + 1) c41), (71, .pointer (some ⟨gO, F.length * 2, none⟩)), (72, .pointer (some ⟨gO, F.length * 2 + 1, none⟩))] ⟨⟨rfl, rfl⟩, ⟨rfl, rfl⟩, ⟨rfl, rfl⟩, ⟨rfl, rfl⟩, ⟨rfl, rfl⟩, ⟨rfl, rfl⟩, ⟨rfl, rfl⟩, ⟨rfl, rfl⟩, ⟨rfl, rfl⟩, ⟨rfl, rfl⟩, ⟨rfl, rfl⟩, ⟨rfl, rfl⟩, ⟨rfl, rfl⟩, ⟨rfl, rfl⟩, ⟨rfl, rfl⟩, ⟨rfl, rfl⟩, ⟨rfl, rfl⟩, ⟨rfl, rfl⟩, ⟨rfl, rfl⟩, ⟨rfl, rfl⟩, ⟨rfl, rfl⟩, ⟨rfl, rfl⟩, ⟨rfl, rfl⟩, ⟨rfl, rfl⟩, ⟨rfl, rfl⟩, ⟨rfl, rfl⟩, ⟨rfl, rfl⟩, ⟨rfl, rfl⟩, ⟨rfl, rfl⟩, ⟨rfl, rfl⟩, ⟨rfl, rfl⟩, ⟨rfl, rfl⟩, ⟨rfl, rfl⟩, ⟨rfl, rfl⟩, ⟨rfl, rfl⟩, ⟨rfl, rfl⟩, ⟨rfl, rfl⟩, ⟨rfl, rfl⟩, ⟨rfl, rfl⟩, ⟨rfl, rfl⟩, ⟨rfl, rfl⟩, ⟨rfl, rfl⟩, ⟨rfl, rfl⟩, ⟨rfl, rfl⟩, ⟨rfl, rfl⟩, ⟨rfl, rfl⟩, ⟨rfl, rfl⟩, ⟨rfl, rfl⟩, ⟨rfl, rfl⟩, ⟨rfl, rfl⟩, ⟨rfl, rfl⟩, ⟨rfl, rfl⟩, ⟨rfl, rfl⟩, ⟨rfl, rfl⟩, ⟨rfl, rfl⟩, ⟨rfl, rfl⟩, ⟨rfl, rfl⟩, ⟨rfl, rfl⟩, ⟨rfl, rfl⟩, ⟨rfl, rfl⟩, trivial⟩ (fun junk => ?_)
          refine e_reg ?_
          refine l_y (v := .int .i64 ((k : Int) + 1)) S (y_add (r := (k : Int) + 1) rfl rfl (w64 (by omega) (by omega))) ?_
          refine l_y (v := .int .i64 ((k : Int) + 1)) S (y_mv rfl) ?_
          refine l_nil ?_
          refine n_lp ⟨(k + 1, (some ⟨gO, 0, none⟩), (F.length + 1), cO, (xsF ++ [.int .i64 key, .slice A40 (its.length + 1) c41]), A40, (its.length + 1), c41, (xsI ++ [.int .i64 z9.item])), _, fr_keep (m := [(1, .bool false), (4, .slice none 0 0), (10, .slice A1 l.length c2), (11, .int .i64 (l.length : Int)), (12, .int .i64 ((k + 1 : Nat) : Int)), (5, .slice (some ⟨gO, 0, none⟩) (F.length + 1) cO)]) ⟨⟨rfl, rfl⟩, ⟨rfl, rfl⟩, ⟨rfl, rfl⟩, ⟨rfl, rfl⟩, ⟨ival (by first | rfl | omega), rfl⟩, ⟨rfl, rfl⟩, trivial⟩, ⟨_, _, rfl, (S.tk 0 2 rfl rfl), (Rd.le_trans L6 (Rd.le_refl rd4)), (.inr ⟨F, xsF, key, its ++ [z9.item], z9.item, by rw [cells_take hz10, hcs, step_add b20 hk2 hy hit], rfl, rfl, hF, OI, by simp, by simp⟩), (by omega), (by first | omega | (simp; omega)), (by first | omega | (simp; omega))⟩, ?_⟩
          show _ < _; dsimp only; omega
         exact aa_nil
        exact aa_nil
       exact aa_nil
      refine aa_cons rfl ?_ ?_
      · -- operation 7
       refine l_bs (ps := [(0, .int .i64 z9.item)]) (cs := #[.int .i64 z9.item]) S U22 SZ3 Z3 rfl rfl rfl (by kernel_rfl) fun g44 w45 S => ?_
       refine l_nil ?_
       have SC : St [] W rd rd4 [(g17, 62, #[.bool z9.set, .int .i64 z9.key, .int .i64 z9.item, .int .i64 z9.author, .int .i64 z9.seq])] [] _ := (S.tk 1 0 rfl rfl).rw' rfl rfl
       refine n_lp (ak SC ?_)
       refine a_all (rs := [4]) (by kernel_rfl) rfl ?_
       refine aa_cons rfl ?_ ?_
       · -- operation 4
        refine l_y (v := .slice (some ⟨gI, 0, none⟩) its.length cI) S (y_ld rfl (fun w S => ld_o1 (i := 0) S rfl rfl T22 (row_last1 hxl))) ?_
        refine l_nil ?_
        have SC : St [] W rd rd4 [(g17, 62, #[.bool z9.set, .int .i64 z9.key, .int .i64 z9.item, .int .i64 z9.author, .int .i64 z9.seq])] [] _ := (S.tk 1 0 rfl rfl).rw' rfl rfl
        refine n_lp (ak SC ?_)
        refine a_all (rs := [8]) (by kernel_rfl) rfl ?_
        refine aa_cons rfl ?_ ?_
        · -- operation 8
         refine l_ap (e' := 0) (i := 1) (i' := 1) S K22 rfl rfl rfl rfl rfl rfl rfl (by simp only [maxLen]; omega) (by first | omega | (dsimp only; omega)) fun v46 w47 S => ?_
         have OI := RowR.push (x := z9.item) (cs := [.int .i64 z9.item]) OI rfl rfl
         obtain ⟨A48, c49, m50e, m50, m50'⟩ : ∃ A c, v46 = .slice A (its.length + 1) c ∧ (its.length + 1) ≤ c ∧ c ≤ maxLen := own_len S (i := 1) rfl; subst m50e
         refine l_nil ?_
         have SC : St [] W rd rd4 [(g17, 62, #[.bool z9.set, .int .i64 z9.key, .int .i64 z9.item, .int .i64 z9.author, .int .i64 z9.seq])] [] _ := (S.tk 1 0 rfl rfl).rw' rfl rfl
         refine n_lp (ak SC ?_)
         refine a_take (v := .pointer (some ⟨gO, F.length * 2, none⟩)) 9 rfl rfl (by kernel_rfl) (by kernel_rfl) (by kernel_rfl) SC rfl (y_nc rfl) ?_
         refine a_take (v := .pointer (some ⟨gO, F.length * 2 + 1, none⟩)) 10 rfl rfl (by kernel_rfl) (by kernel_rfl) (by kernel_rfl) SC rfl (y_fb FA55_1 rfl rfl) ?_
         refine a_all (rs := [11]) (by kernel_rfl) rfl ?_
         refine aa_cons rfl ?_ ?_
         · -- operation 11
          refine l_so (u := .slice A48 (its.length + 1) c49) (i := 0) (xs' := (xsF ++ [.int .i64 key, .slice A48 (its.length + 1) c49])) S rfl rfl rfl rfl SZ22 (show _ + 1 ≤ List.length _ by simp; omega) rfl (row_set1 hxl) fun w51 S => ?_
          refine l_nil ?_
          have SC : St [] W rd rd4 [(g17, 62, #[.bool z9.set, .int .i64 z9.key, .int .i64 z9.item, .int .i64 z9.author, .int .i64 z9.seq])] [] _ := (S.tk 1 0 rfl rfl).rw' rfl rfl
          refine n_lp (ak SC ?_)
          refine a_done (by kernel_rfl) ?_
          clear SC
          refine n_blk ?_
          refine n_seq ?_
          refine e_trim [(1, .bool false), (4, .slice none 0 0), (10, .slice A1 l.length c2), (11, .int .i64 (l.length : Int)), (12, .int .i64 (k : Int)), (5, .slice (some ⟨gO, 0, none⟩) (F.length + 1) cO), (13, .bool true), (14, p11), (15, .agg #[.bool z9.set, .int .i64 z9.key, .int .i64 z9.item, .int .i64 z9.author, .int .i64 z9.seq]), (7, .pointer (some ⟨g17, 0, none⟩)), (16, .pointer (some ⟨g17, 0, none⟩)), (17, .bool false), (18, .bool false), (19, .bool false), (20, .slice (some ⟨gO, 0, none⟩) (F.length + 1) cO), (21, .int .i64 ((F.length + 1 : Nat) : Int)), (22, .int .i64 (F.length : Int)), (8, .int .i64 (F.length : Int)), (23, .int .i64 (F.length : Int)), (24, .bool false), (25, .bool false), (26, .slice (some ⟨gO, 0, none⟩) (F.length + 1) cO), (27, .int .i64 (F.length : Int)), (28, .pointer (some ⟨gO, F.length * 2, none⟩)), (29, .pointer (some ⟨gO, F.length * 2 + 0, none⟩)), (30, .int .i64 key), (31, .pointer (some ⟨g17, 1, none⟩)), (32, .int .i64 z9.key), (33, .bool false), (34, .bool false), (44, .slice (some ⟨gO, 0, none⟩) (F.length + 1) cO), (45, .int .i64 (F.length : Int)), (46, .pointer (some ⟨gO, F.length * 2, none⟩)), (9, .pointer (some ⟨gO, F.length * 2, none⟩)), (47, .pointer (some ⟨gO, F.length * 2, none⟩)), (48, .pointer (some ⟨gO, F.length * 2, none⟩)), (49, .pointer (some ⟨gO, F.length * 2 + 1, none⟩)), (50, .slice (some ⟨gI, 0, none⟩) its.length cI), (51, .pointer (some ⟨gO, F.length * 2, none⟩)), (52, .pointer (some ⟨gO, F.length * 2, none⟩)), (53, .pointer (some ⟨gO, F.length * 2 + 1, none⟩)), (54, .slice (some ⟨gI, 0, none⟩) its.length cI), (55, .int .i64 (its.length : Int)), (56, .int .i64 ((its.length - 1 : Nat) : Int)), (57, .pointer (some ⟨gI, (its.length - 1) * 1, none⟩)), (58, .int .i64 y), (59, .pointer (some ⟨g17, 2, none⟩)), (60, .int .i64 z9.item), (61, .bool true), (62, .pointer (some ⟨gO, F.length * 2, none⟩)), (63, .pointer (some ⟨gO, F.length * 2, none⟩)), (64, .pointer (some ⟨gO, F.length * 2, none⟩)), (65, .pointer (some ⟨gO, F.length * 2 + 1, none⟩)), (67, .pointer (some ⟨g17, 2, none⟩)), (68, .int .i64 z9.item), (69, .slice (some ⟨g44, 0, none⟩) 1 1), (66, .slice (some ⟨gI, 0, none⟩) its.length cI), (70, .slice A48 (its.length + 1) c49), (71, .pointer (some ⟨gO, F.length * 2, none⟩)), (72, .pointer (some ⟨gO, F.length * 2 + 1, none⟩))] ⟨⟨rfl, rfl⟩, ⟨rfl, rfl⟩, ⟨rfl, rfl⟩, ⟨rfl, rfl⟩, ⟨rfl, rfl⟩, ⟨rfl, rfl⟩, ⟨rfl, rfl⟩, ⟨rfl, rfl⟩, ⟨rfl, rfl⟩, ⟨rfl, rfl⟩, ⟨rfl, rfl⟩, ⟨rfl, rfl⟩, ⟨rfl, rfl⟩, ⟨rfl, rfl⟩, ⟨rfl, rfl⟩, ⟨rfl, rfl⟩, ⟨rfl, rfl⟩, ⟨rfl, rfl⟩, ⟨rfl, rfl⟩, ⟨rfl, rfl⟩, ⟨rfl, rfl⟩, ⟨rfl, rfl⟩, ⟨rfl, rfl⟩, ⟨rfl, rfl⟩, ⟨rfl, rfl⟩, ⟨rfl, rfl⟩, ⟨rfl, rfl⟩, ⟨rfl, rfl⟩, ⟨rfl, rfl⟩, ⟨rfl, rfl⟩, ⟨rfl, rfl⟩, ⟨rfl, rfl⟩, ⟨rfl, rfl⟩, ⟨rfl, rfl⟩, ⟨rfl, rfl⟩, ⟨rfl, rfl⟩, ⟨rfl, rfl⟩, ⟨rfl, rfl⟩, ⟨rfl, rfl⟩, ⟨rfl, rfl⟩, ⟨rfl, rfl⟩, ⟨rfl, rfl⟩, ⟨rfl, rfl⟩, ⟨rfl, rfl⟩, ⟨rfl, rfl⟩, ⟨rfl, rfl⟩, ⟨rfl, rfl⟩, ⟨rfl, rfl⟩, ⟨rfl, rfl⟩, ⟨rfl, rfl⟩, ⟨rfl, rfl⟩, ⟨rfl, rfl⟩, ⟨rfl, rfl⟩, ⟨rfl, rfl⟩, ⟨rfl, rfl⟩, ⟨rfl, rfl⟩, ⟨rfl, rfl⟩, ⟨rfl, rfl⟩, ⟨rfl, rfl⟩, ⟨rfl, rfl⟩, trivial⟩ (fun junk => ?_)
          refine e_reg ?_
          refine l_y (v := .int .i64 ((k : Int) + 1)) S (y_add (r := (k : Int) + 1) rfl rfl (w64 (by omega) (by omega))) ?_
          refine l_y (v := .int .i64 ((k : Int) + 1)) S (y_mv rfl) ?_
          refine l_nil ?_
          refine n_lp ⟨(k + 1, (some ⟨gO, 0, none⟩), (F.length + 1), cO, (xsF ++ [.int .i64 key, .slice A48 (its.length + 1) c49]), A48, (its.length + 1), c49, (xsI ++ [.int .i64 z9.item])), _, fr_keep (m := [(1, .bool false), (4, .slice none 0 0), (10, .slice A1 l.length c2), (11, .int .i64 (l.length : Int)), (12, .int .i64 ((k + 1 : Nat) : Int)), (5, .slice (some ⟨gO, 0, none⟩) (F.length + 1) cO)]) ⟨⟨rfl, rfl⟩, ⟨rfl, rfl⟩, ⟨rfl, rfl⟩, ⟨rfl, rfl⟩, ⟨ival (by first | rfl | omega), rfl⟩, ⟨rfl, rfl⟩, trivial⟩, ⟨_, _, rfl, (S.tk 0 2 rfl rfl), (Rd.le_trans L6 (Rd.le_refl rd4)), (.inr ⟨F, xsF, key, its ++ [z9.item], z9.item, by rw [cells_take hz10, hcs, step_add b20 hk2 hy hit], rfl, rfl, hF, OI, by simp, by simp⟩), (by omega), (by first | omega | (simp; omega)), (by first | omega | (simp; omega))⟩, ?_⟩
          show _ < _; dsimp only; omega
         exact aa_nil
        exact aa_nil
       exact aa_nil
      exact aa_nil
    · -- hk2 no
     refine q_g (d' := 25) (v := .bool true) (y_neT rfl rfl hk2) rfl rfl ?_
     refine q_y (v := .bool true) (y_pF rfl rfl) ?_
     refine q_nil fun w52 S => ?_
     refine n_seq ?_
     refine e_trim [(1, .bool false), (4, .slice none 0 0), (10, .slice A1 l.length c2), (11, .int .i64 (l.length : Int)), (12, .int .i64 (k : Int)), (5, .slice (some ⟨gO, 0, none⟩) (F.length + 1) cO), (13, .bool true), (14, p11), (15, .agg #[.bool z9.set, .int .i64 z9.key, .int .i64 z9.item, .int .i64 z9.author, .int .i64 z9.seq]), (7, .pointer (some ⟨g17, 0, none⟩)), (16, .pointer (some ⟨g17, 0, none⟩)), (17, .bool false), (18, .bool false), (19, .bool false), (20, .slice (some ⟨gO, 0, none⟩) (F.length + 1) cO), (21, .int .i64 ((F.length + 1 : Nat) : Int)), (22, .int .i64 (F.length : Int)), (8, .int .i64 (F.length : Int)), (23, .int .i64 (F.length : Int)), (24, .bool false), (25, .bool false), (26, .slice (some ⟨gO, 0, none⟩) (F.length + 1) cO), (27, .int .i64 (F.length : Int)), (28, .pointer (some ⟨gO, F.length * 2, none⟩)), (29, .pointer (some ⟨gO, F.length * 2 + 0, none⟩)), (30, .int .i64 key), (31, .pointer (some ⟨g17, 1, none⟩)), (32, .int .i64 z9.key), (33, .bool true), (34, .bool true)] ⟨⟨rfl, rfl⟩, ⟨rfl, rfl⟩, ⟨rfl, rfl⟩, ⟨rfl, rfl⟩, ⟨rfl, rfl⟩, ⟨rfl, rfl⟩, ⟨rfl, rfl⟩, ⟨rfl, rfl⟩, ⟨rfl, rfl⟩, ⟨rfl, rfl⟩, ⟨rfl, rfl⟩, ⟨rfl, rfl⟩, ⟨rfl, rfl⟩, ⟨rfl, rfl⟩, ⟨rfl, rfl⟩, ⟨rfl, rfl⟩, ⟨rfl, rfl⟩, ⟨rfl, rfl⟩, ⟨rfl, rfl⟩, ⟨rfl, rfl⟩, ⟨rfl, rfl⟩, ⟨rfl, rfl⟩, ⟨rfl, rfl⟩, ⟨rfl, rfl⟩, ⟨rfl, rfl⟩, ⟨rfl, rfl⟩, ⟨rfl, rfl⟩, ⟨rfl, rfl⟩, ⟨rfl, rfl⟩, ⟨rfl, rfl⟩, trivial⟩ (fun junk => ?_)
     refine e_cT rfl ?_
     refine e_seq ?_
     refine e_reg ?_
     refine l_y (v := .slice (some ⟨gO, 0, none⟩) (F.length + 1) cO) S (y_mv rfl) ?_
     refine l_y (v := .pointer (some ⟨g17, 1, none⟩)) S (y_fb FA62_1 rfl rfl) ?_
     refine l_y (v := .int .i64 z9.key) S (y_ld rfl (fun w S => ld_b1 (i := 0) S rfl rfl T3)) ?_
     refine l_y (v := .pointer (some ⟨g17, 2, none⟩)) S (y_fb FA62_2 rfl rfl) ?_
     refine l_y (v := .int .i64 z9.item) S (y_ld rfl (fun w S => ld_b1 (i := 0) S rfl rfl T3)) ?_
     refine l_bs (ps := [(0, .int .i64 z9.item)]) (cs := #[.int .i64 z9.item]) S U22 SZ3 Z3 rfl rfl rfl (by kernel_rfl) fun g53 w54 S => ?_
     refine l_y (v := .agg #[.int .i64 z9.key, .slice (some ⟨g53, 0, none⟩) 1 1]) S (y_bd (ps := [(0, .int .i64 z9.key), (1, .slice (some ⟨g53, 0, none⟩) 1 1)]) rfl (fun _ => by kernel_rfl)) ?_
     refine l_bs (ps := [(0, .agg #[.int .i64 z9.key, .slice (some ⟨g53, 0, none⟩) 1 1])]) (cs := #[.int .i64 z9.key, .slice (some ⟨g53, 0, none⟩) 1 1]) S U41 SZ55 Z55 rfl rfl rfl (by kernel_rfl) fun g55 w56 S => ?_
     have S := S.boxOwn (i := 1) rfl 1 1 1 rfl rfl (by simp [maxLen])
     obtain ⟨rd57, S, L58, hIt0⟩ := S.frzo' (i := 1) rfl rfl
     replace OI := rm OI L58
     replace hF := rm hF L58
     replace h := fm h L58
     replace E13 := PtrC.mono E13 L58
     have hIt : SliceR 1 IntR rd57 (.slice (some ⟨gI, 0, none⟩) its.length cI) its := hIt0 rfl OI; clear hIt0
     replace S := S.rw' (bx' := [(g17, 62, #[.bool z9.set, .int .i64 z9.key, .int .i64 z9.item, .int .i64 z9.author, .int .i64 z9.seq]), (g55, 55, #[.int .i64 z9.key, .slice (some ⟨g53, 0, none⟩) 1 1])]) (ow' := [⟨55, 2, .slice (some ⟨gO, 0, none⟩) (F.length + 1) cO, F.length + 1, xsF ++ [.int .i64 key, .slice (some ⟨gI, 0, none⟩) its.length cI]⟩, ⟨3, 1, .slice (some ⟨g53, 0, none⟩) 1 1, 1, [.int .i64 z9.item]⟩]) rfl rfl
     refine l_ap (e' := 0) (i := 0) (i' := 1) S K41 rfl rfl rfl rfl rfl rfl rfl (by simp only [maxLen]; omega) (by dsimp only; omega) fun v59 w60 S => ?_
     obtain ⟨A61, c62, m63e, m63, m63'⟩ : ∃ A c, v59 = .slice A (F.length + 1 + 1) c ∧ (F.length + 1 + 1) ≤ c ∧ c ≤ maxLen := own_len S (i := 0) rfl; subst m63e
     refine l_y (v := .slice A61 (F.length + 1 + 1) c62) S (y_as rfl) ?_
     refine l_nil ?_
     refine n_seq ?_
     refine e_exit ?_
     refine x_seq ?_
     refine x_hit ?_
     refine n_seq ?_
     refine e_reg ?_
     refine l_y (v := .int .i64 ((k : Int) + 1)) S (y_add (r := (k : Int) + 1) rfl rfl (w64 (by omega) (by omega))) ?_
     refine l_y (v := .int .i64 ((k : Int) + 1)) S (y_mv rfl) ?_
     refine l_nil ?_
     refine n_lp ⟨(k + 1, A61, (F.length + 1 + 1), c62, ((xsF ++ [.int .i64 key, .slice (some ⟨gI, 0, none⟩) its.length cI]) ++ [.int .i64 z9.key, .slice (some ⟨g53, 0, none⟩) 1 1]), (some ⟨g53, 0, none⟩), 1, 1, [.int .i64 z9.item]), _, fr_keep (m := [(1, .bool false), (4, .slice none 0 0), (10, .slice A1 l.length c2), (11, .int .i64 (l.length : Int)), (12, .int .i64 ((k + 1 : Nat) : Int)), (5, .slice A61 (F.length + 1 + 1) c62)]) ⟨⟨rfl, rfl⟩, ⟨rfl, rfl⟩, ⟨rfl, rfl⟩, ⟨rfl, rfl⟩, ⟨ival (by first | rfl | omega), rfl⟩, ⟨rfl, rfl⟩, trivial⟩, ⟨_, _, rfl, (S.tk 0 2 rfl rfl), (Rd.le_trans L6 (Rd.le_trans (Rd.le_refl rd4) L58)), (.inr ⟨F ++ [⟨key, its⟩], xsF ++ [.int .i64 key, .slice (some ⟨gI, 0, none⟩) its.length cI], z9.key, [z9.item], z9.item, by rw [cells_take hz10, hcs, step_new b20 hk2], by simp, rfl, RowR.push hF rfl ⟨_, rfl, hIt⟩, (rowInts _ [z9.item]), rfl, rfl⟩), (by omega), (by first | omega | (simp; omega)), (by first | omega | (simp; omega))⟩, ?_⟩
     show _ < _; dsimp only; omega
 · -- h8 no
  refine l_y (v := .bool false) S (y_ltF rfl rfl h8) ?_
  refine l_nil ?_
  refine n_seq ?_
  refine e_seq ?_
  refine e_cF rfl ?_
  refine e_exit ?_
  refine x_seq ?_
  refine x_lp ?_
  refine x_hit ?_
  refine n_seq ?_
  refine e_seq ?_
  refine e_reg ?_
  rcases HC with ⟨hcs, rfl, rfl⟩ | ⟨F, xsF, key, its, y, hcs, rfl, rfl, hF, OI, rfl, hy⟩
  · -- none yet
   have hrow : RowR 2 CellR rd4 [] ([] : List Cell) := rfl
   refine l_y (v := .slice AO 0 cO) S (y_mv rfl) ?_
   refine l_y (v := .slice AO 0 cO) S (y_as rfl) ?_
   refine l_nil ?_
   refine n_seq ?_
   refine e_ret ?_
   refine ret1 (v := .slice AO 0 cO) rfl rfl ?_
   have ek : l.take k = l := List.take_of_length_le (by omega); rw [ek] at hcs
   exact ⟨_, rfl, hcs ▸ S.rowOut (i := 0) rfl rfl rfl rfl hrow, S.below⟩
  · -- some
   have hil := (List.getElem?_eq_some_iff.1 hy).1; have hxl := hF.len
   obtain ⟨gO, rfl⟩ := own_atA S (i := 0) rfl rfl (Nat.succ_ne_zero _)
   obtain ⟨gI, rfl⟩ := own_atA S (i := 1) rfl rfl (show its.length ≠ 0 by omega)
   obtain ⟨rd64, S, L65, hIt0⟩ := S.frzo' (i := 1) rfl rfl
   replace OI := rm OI L65
   replace hF := rm hF L65
   replace h := fm h L65
   have hIt : SliceR 1 IntR rd64 (.slice (some ⟨gI, 0, none⟩) its.length cI) its := hIt0 rfl OI; clear hIt0
   have hrow : RowR 2 CellR rd64 (xsF ++ [.int .i64 key, .slice (some ⟨gI, 0, none⟩) its.length cI]) (F ++ [(⟨key, its⟩ : Cell)]) := RowR.push hF rfl ⟨_, rfl, hIt⟩
   refine l_y (v := .slice (some ⟨gO, 0, none⟩) (F.length + 1) cO) S (y_mv rfl) ?_
   refine l_y (v := .slice (some ⟨gO, 0, none⟩) (F.length + 1) cO) S (y_as rfl) ?_
   refine l_nil ?_
   refine n_seq ?_
   refine e_ret ?_
   refine ret1 (v := .slice (some ⟨gO, 0, none⟩) (F.length + 1) cO) rfl rfl ?_
   have ek : l.take k = l := List.take_of_length_le (by omega); rw [ek] at hcs
   exact ⟨_, rfl, hcs ▸ S.rowOut (i := 0) rfl rfl (by simp) rfl hrow, S.below⟩

set_option maxRecDepth 100000 in
set_option maxHeartbeats 8000000 in
theorem Cells_t (rd : Rd) (W : World) (hle : Rd.le rd (wrd W)) (v : Value) (l : List Live) (h : SliceR 5 LiveR rd v l) (hb : l.length ≤ 400000000) :
    Calls Try.prog 52 #[v, (.bool true)] W (fun e w' => ∃ v', e = .returned v' ∧ SliceR 2 CellR (ext rd W w') v' (cellsL l true) ∧ Below W.heap.size W w') := by
 obtain ⟨A1, c2, rfl, m3, m3'⟩ := h.val
 have hmx : maxLen = 9223372036854775807 := rfl
 have S : St [] W rd rd [] [] W := St.start hle
 refine e_enter (args := [.slice A1 l.length c2, .bool true]) 75 Try.func52 rfl rfl rfl ?_
 refine e_seq ?_
 refine e_reg ?_
 refine l_y (v := .slice none 0 0) S (y_as rfl) ?_
 refine l_nil ?_
 refine n_seq ?_
 refine e_seq ?_
 refine e_reg ?_
 refine l_y (v := .slice none 0 0) S (y_as rfl) ?_
 refine l_nil ?_
 refine n_seq ?_
 refine e_seq ?_
 refine e_seq ?_
 refine e_reg ?_
 refine l_y (v := .slice A1 l.length c2) S (y_mv rfl) ?_
 refine l_y (v := .int .i64 (l.length : Int)) S (y_len U24 rfl rfl) ?_
 refine l_y (v := .int .i64 0) S (y_mv rfl) ?_
 refine l_nil ?_
 refine n_seq ?_
 refine e_blk ?_
 have S := (S.ownNil 55 2).ownNil 3 1
 refine e_trim [(1, .bool true), (4, .slice none 0 0), (10, .slice A1 l.length c2), (11, .int .i64 (l.length : Int)), (12, .int .i64 (0 : Int)), (5, .slice none 0 0)] ⟨⟨rfl, rfl⟩, ⟨rfl, rfl⟩, ⟨rfl, rfl⟩, ⟨rfl, rfl⟩, ⟨ival (by first | rfl | omega), rfl⟩, ⟨rfl, rfl⟩, trivial⟩ (fun junk => ?_)
 refine e_loop (fun (gh_ : Nat × (Option Addr) × Nat × Nat × (List Value) × (Option Addr) × Nat × Nat × (List Value)) ov w => match gh_ with | (k, AO, nO, cO, xsO, AI, nI, cI, xsI) => ∃ rd' junk, ov = [(1, .bool true), (4, .slice none 0 0), (10, .slice A1 l.length c2), (11, .int .i64 (l.length : Int)), (12, .int .i64 (k : Int)), (5, .slice AO nO cO)] ++ junk ∧ St [] W rd rd' [] [⟨55, 2, .slice AO nO cO, nO, xsO⟩, ⟨3, 1, .slice AI nI cI, nI, xsI⟩] w ∧ Rd.le rd rd' ∧ CellsI rd' (cellsL (l.take k) true) nO xsO (.slice AI nI cI) nI xsI ∧ k ≤ l.length ∧ nO ≤ k ∧ nI ≤ k) (fun gh_ => match gh_ with | (k, AO, nO, cO, xsO, AI, nI, cI, xsI) => l.length - k) (0, none, 0, 0, [], none, 0, 0, []) ⟨_, junk, rfl, (S.rw' rfl rfl), (Rd.le_refl _), (.inl ⟨rfl, rfl, rfl⟩), (by omega), (by omega), (by omega)⟩ ?_
 rintro ⟨k, AO, nO, cO, xsO, AI, nI, cI, xsI⟩ ov7 w5 ⟨rd4, junk, rfl, S, L6, HC, hk, hno, hni⟩
 replace h := fm h L6
 refine e_seq ?_
 refine e_reg ?_
 by_cases h8 : (k : Int) < (l.length : Int)
 · -- h8 yes
  refine l_y (v := .bool true) S (y_ltT rfl rfl h8) ?_
  refine l_nil ?_
  refine n_seq ?_
  refine e_seq ?_
  refine e_cT rfl ?_
  refine e_skip ?_
  refine n_seq ?_
  refine e_seq ?_
  refine e_blk ?_
  refine e_seq ?_
  refine e_reg ?_
  obtain ⟨z9, hz10⟩ : ∃ z, (l)[k]? = some z := nth_of (by first | assumption | omega)
  obtain ⟨p11, vs12, E13, nn14, r15, Y16⟩ := y_ia U24 SZ62 h hz10
  clear nn14
  have r15e : vs12 = [.bool z9.set, .int .i64 z9.key, .int .i64 z9.item, .int .i64 z9.author, .int .i64 z9.seq] := r15; subst r15e; clear r15
  refine l_y (v := p11) S (Y16 rfl rfl (by first | rfl | omega)) ?_
  refine l_y (v := .agg #[.bool z9.set, .int .i64 z9.key, .int .i64 z9.item, .int .i64 z9.author, .int .i64 z9.seq]) S (y_ld rfl (fun w S => ld_pA (us := [.bool z9.set, .int .i64 z9.key, .int .i64 z9.item, .int .i64 z9.author, .int .i64 z9.seq]) S.le E13 T62 rfl rfl)) ?_
  refine l_al (cs := #[.bool false, .int .i64 0, .int .i64 0, .int .i64 0, .int .i64 0]) S Z62 rfl fun g17 w18 S => ?_
  refine l_st (u := .agg #[.bool z9.set, .int .i64 z9.key, .int .i64 z9.item, .int .i64 z9.author, .int .i64 z9.seq]) (i := 0) (cs' := #[.bool z9.set, .int .i64 z9.key, .int .i64 z9.item, .int .i64 z9.author, .int .i64 z9.seq]) S rfl rfl rfl SZ62 rfl rfl rfl fun w19 S => ?_
  refine l_nil ?_
  refine n_seq ?_
  refine e_seq ?_
  refine e_seq ?_
  refine e_reg ?_
  refine l_y (v := .pointer (some ⟨g17, 0, none⟩)) S (y_fb FA62_0 rfl rfl) ?_
  rcases Bool.eq_false_or_eq_true z9.set with b20 | b20
  · -- b20 True
   refine l_y (v := .bool true) S (y_bv (y_ld rfl (fun w S => ld_b1 (i := 0) S rfl rfl T4)) b20) ?_
   refine l_y (v := .bool true) S (y_mv rfl) ?_
   refine l_y (v := .bool false) S (y_bn U4 rfl rfl rfl) ?_
   refine l_nil ?_
   refine n_seq ?_
   refine e_cF rfl ?_
   refine e_skip ?_
   refine n_seq ?_
   refine e_seq ?_
   refine e_reg ?_
   rcases HC with ⟨hcs, rfl, rfl⟩ | ⟨F, xsF, key, its, y, hcs, rfl, rfl, hF, OI, rfl, hy⟩
   · -- none yet
    refine l_y (v := .slice AO 0 cO) S (y_mv rfl) ?_
    refine l_y (v := .int .i64 0) S (y_len U41 rfl rfl) ?_
    refine l_y (v := .int .i64 (-1)) S (y_sub (r := (-1)) rfl rfl (rfl)) ?_
    refine l_y (v := .int .i64 (-1)) S (y_as rfl) ?_
    refine l_nil ?_
    refine n_seq ?_
    refine e_seq ?_
    refine e_seq ?_
    refine e_q MX (by kernel_rfl) S.drew ?_
    -- draws
    refine q_y (v := .int .i64 (-1)) (y_mv rfl) ?_
    refine q_y (v := .bool true) (y_ltT rfl rfl (by decide)) ?_
    refine q_y (v := .bool true) (y_mv rfl) ?_
    refine q_s (d' := 25) rfl rfl ?_
    refine q_s (d' := 25) rfl rfl ?_
    refine q_s (d' := 25) rfl rfl ?_
    refine q_s (d' := 25) rfl rfl ?_
    refine q_s (d' := 25) rfl rfl ?_
    refine q_s (d' := 25) rfl rfl ?_
    refine q_s (d' := 25) rfl rfl ?_
    refine q_s (d' := 25) rfl rfl ?_
    refine q_y (v := .bool true) (y_pT rfl rfl) ?_
    refine q_nil fun w21 S => ?_
    refine n_seq ?_
    refine e_trim [(1, .bool true), (4, .slice none 0 0), (10, .slice A1 l.length c2), (11, .int .i64 (l.length : Int)), (12, .int .i64 (k : Int)), (5, .slice AO 0 cO), (13, .bool true), (14, p11), (15, .agg #[.bool z9.set, .int .i64 z9.key, .int .i64 z9.item, .int .i64 z9.author, .int .i64 z9.seq]), (7, .pointer (some ⟨g17, 0, none⟩)), (16, .pointer (some ⟨g17, 0, none⟩)), (17, .bool true), (18, .bool true), (19, .bool false), (20, .slice AO 0 cO), (21, .int .i64 0), (22, .int .i64 (-1)), (8, .int .i64 (-1)), (23, .int .i64 (-1)), (24, .bool true), (25, .bool true), (26, undef), (27, undef), (28, undef), (29, undef), (30, undef), (31, undef), (32, undef), (33, undef), (34, .bool true)] ⟨⟨rfl, rfl⟩, ⟨rfl, rfl⟩, ⟨rfl, rfl⟩, ⟨rfl, rfl⟩, ⟨rfl, rfl⟩, ⟨rfl, rfl⟩, ⟨rfl, rfl⟩, ⟨rfl, rfl⟩, ⟨rfl, rfl⟩, ⟨rfl, rfl⟩, ⟨rfl, rfl⟩, ⟨rfl, rfl⟩, ⟨rfl, rfl⟩, ⟨rfl, rfl⟩, ⟨rfl, rfl⟩, ⟨rfl, rfl⟩, ⟨rfl, rfl⟩, ⟨rfl, rfl⟩, ⟨rfl, rfl⟩, ⟨rfl, rfl⟩, ⟨rfl, rfl⟩, ⟨rfl, rfl⟩, ⟨rfl, rfl⟩, ⟨rfl, rfl⟩, ⟨rfl, rfl⟩, ⟨rfl, rfl⟩, ⟨rfl, rfl⟩, ⟨rfl, rfl⟩, ⟨rfl, rfl⟩, ⟨rfl, rfl⟩, trivial⟩ (fun junk => ?_)
    refine e_cT rfl ?_
    refine e_seq ?_
    refine e_reg ?_
    refine l_y (v := .slice AO 0 cO) S (y_mv rfl) ?_
    refine l_y (v := .pointer (some ⟨g17, 1, none⟩)) S (y_fb FA62_1 rfl rfl) ?_
    refine l_y (v := .int .i64 z9.key) S (y_ld rfl (fun w S => ld_b1 (i := 0) S rfl rfl T3)) ?_
    refine l_y (v := .pointer (some ⟨g17, 2, none⟩)) S (y_fb FA62_2 rfl rfl) ?_
    refine l_y (v := .int .i64 z9.item) S (y_ld rfl (fun w S => ld_b1 (i := 0) S rfl rfl T3)) ?_
    refine l_bs (ps := [(0, .int .i64 z9.item)]) (cs := #[.int .i64 z9.item]) S U22 SZ3 Z3 rfl rfl rfl (by kernel_rfl) fun g22 w23 S => ?_
    refine l_y (v := .agg #[.int .i64 z9.key, .slice (some ⟨g22, 0, none⟩) 1 1]) S (y_bd (ps := [(0, .int .i64 z9.key), (1, .slice (some ⟨g22, 0, none⟩) 1 1)]) rfl (fun _ => by kernel_rfl)) ?_
    refine l_bs (ps := [(0, .agg #[.int .i64 z9.key, .slice (some ⟨g22, 0, none⟩) 1 1])]) (cs := #[.int .i64 z9.key, .slice (some ⟨g22, 0, none⟩) 1 1]) S U41 SZ55 Z55 rfl rfl rfl (by kernel_rfl) fun g24 w25 S => ?_
    have S := S.boxOwn (i := 1) rfl 1 1 1 rfl rfl (by simp [maxLen])
    have S := S.delo 1
    replace S := S.rw' (bx' := [(g17, 62, #[.bool z9.set, .int .i64 z9.key, .int .i64 z9.item, .int .i64 z9.author, .int .i64 z9.seq]), (g24, 55, #[.int .i64 z9.key, .slice (some ⟨g22, 0, none⟩) 1 1])]) (ow' := [⟨55, 2, .slice AO 0 cO, 0, []⟩, ⟨3, 1, .slice (some ⟨g22, 0, none⟩) 1 1, 1, [.int .i64 z9.item]⟩]) rfl rfl
    refine l_ap (e' := 0) (i := 0) (i' := 1) S K41 rfl rfl rfl rfl rfl rfl rfl (by simp only [maxLen]; omega) (by dsimp only; omega) fun v26 w27 S => ?_
    obtain ⟨A28, c29, m30e, m30, m30'⟩ : ∃ A c, v26 = .slice A (0 + 1) c ∧ (0 + 1) ≤ c ∧ c ≤ maxLen := own_len S (i := 0) rfl; subst m30e
    refine l_y (v := .slice A28 (0 + 1) c29) S (y_as rfl) ?_
    refine l_nil ?_
    refine n_seq ?_
    refine e_exit ?_
    refine x_seq ?_
    refine x_hit ?_
    refine n_seq ?_
    refine e_reg ?_
    refine l_y (v := .int .i64 ((k : Int) + 1)) S (y_add (r := (k : Int) + 1) rfl rfl (w64 (by omega) (by omega))) ?_
    refine l_y (v := .int .i64 ((k : Int) + 1)) S (y_mv rfl) ?_
    refine l_nil ?_
    refine n_lp ⟨(k + 1, A28, (0 + 1), c29, [] ++ [.int .i64 z9.key, .slice (some ⟨g22, 0, none⟩) 1 1], (some ⟨g22, 0, none⟩), 1, 1, [.int .i64 z9.item]), _, fr_keep (m := [(1, .bool true), (4, .slice none 0 0), (10, .slice A1 l.length c2), (11, .int .i64 (l.length : Int)), (12, .int .i64 ((k + 1 : Nat) : Int)), (5, .slice A28 (0 + 1) c29)]) ⟨⟨rfl, rfl⟩, ⟨rfl, rfl⟩, ⟨rfl, rfl⟩, ⟨rfl, rfl⟩, ⟨ival (by first | rfl | omega), rfl⟩, ⟨rfl, rfl⟩, trivial⟩, ⟨_, _, rfl, (S.tk 0 2 rfl rfl), (Rd.le_trans L6 (Rd.le_refl rd4)), (.inr ⟨[], [], z9.key, [z9.item], z9.item, by rw [cells_take hz10, hcs, step_first b20]; rfl, rfl, rfl, rfl, (rowInts _ [z9.item]), rfl, rfl⟩), (by omega), (by first | omega | (simp; omega)), (by first | omega | (simp; omega))⟩, ?_⟩
    show _ < _; dsimp only; omega
   · -- some
    have hil := (List.getElem?_eq_some_iff.1 hy).1; have hxl := hF.len
    obtain ⟨gO, rfl⟩ := own_atA S (i := 0) rfl rfl (Nat.succ_ne_zero _)
    obtain ⟨gI, rfl⟩ := own_atA S (i := 1) rfl rfl (show its.length ≠ 0 by omega)
    refine l_y (v := .slice (some ⟨gO, 0, none⟩) (F.length + 1) cO) S (y_mv rfl) ?_
    refine l_y (v := .int .i64 ((F.length + 1 : Nat) : Int)) S (y_len U41 rfl rfl) ?_
    refine l_y (v := .int .i64 (F.length : Int)) S (y_sub (r := (F.length : Int)) rfl rfl (w64 (by omega) (by omega) |>.trans (by omega))) ?_
    refine l_y (v := .int .i64 (F.length : Int)) S (y_as rfl) ?_
    refine l_nil ?_
    refine n_seq ?_
    refine e_seq ?_
    refine e_seq ?_
    refine e_q MX (by kernel_rfl) S.drew ?_
    -- draws
    refine q_y (v := .int .i64 (F.length : Int)) (y_mv rfl) ?_
    have h31 : ¬ ((F.length : Int) < 0) := by omega
    refine q_y (v := .bool false) (y_ltF rfl rfl h31) ?_
    refine q_y (v := .bool false) (y_mv rfl) ?_
    refine q_g (d' := 25) (v := .slice (some ⟨gO, 0, none⟩) (F.length + 1) cO) (y_mv rfl) rfl rfl ?_
    refine q_g (d' := 25) (v := .int .i64 (F.length : Int)) (y_mv rfl) rfl rfl ?_
    refine q_g (d' := 25) (v := .pointer (some ⟨gO, F.length * 2, none⟩)) (y_ibs (k := F.length) U41 SZ55 (Nat.lt_succ_self _) (Nat.zero_add _) rfl rfl (by first | rfl | omega)) rfl rfl ?_
    refine q_g (d' := 25) (v := .pointer (some ⟨gO, F.length * 2 + 0, none⟩)) (y_fb FA55_0 rfl rfl) rfl rfl ?_
    refine q_g (d' := 25) (v := .int .i64 key) (y_ld rfl (fun w S => ld_o1 (i := 0) S rfl rfl T3 (row_last0 hxl))) rfl rfl ?_
    refine q_g (d' := 25) (v := .pointer (some ⟨g17, 1, none⟩)) (y_fb FA62_1 rfl rfl) rfl rfl ?_
    refine q_g (d' := 25) (v := .int .i64 z9.key) (y_ld rfl (fun w S => ld_b1 (i := 0) S rfl rfl T3)) rfl rfl ?_
    by_cases hk2 : key = z9.key
    · -- hk2 yes
     refine q_g (d' := 25) (v := .bool false) (y_neF rfl rfl hk2) rfl rfl ?_
     refine q_y (v := .bool false) (y_pF rfl rfl) ?_
     refine q_nil fun w32 S => ?_
     refine n_seq ?_
     refine e_trim [(1, .bool true), (4, .slice none 0 0), (10, .slice A1 l.length c2), (11, .int .i64 (l.length : Int)), (12, .int .i64 (k : Int)), (5, .slice (some ⟨gO, 0, none⟩) (F.length + 1) cO), (13, .bool true), (14, p11), (15, .agg #[.bool z9.set, .int .i64 z9.key, .int .i64 z9.item, .int .i64 z9.author, .int .i64 z9.seq]), (7, .pointer (some ⟨g17, 0, none⟩)), (16, .pointer (some ⟨g17, 0, none⟩)), (17, .bool true), (18, .bool true), (19, .bool false), (20, .slice (some ⟨gO, 0, none⟩) (F.length + 1) cO), (21, .int .i64 ((F.length + 1 : Nat) : Int)), (22, .int .i64 (F.length : Int)), (8, .int .i64 (F.length : Int)), (23, .int .i64 (F.length : Int)), (24, .bool false), (25, .bool false), (26, .slice (some ⟨gO, 0, none⟩) (F.length + 1) cO), (27, .int .i64 (F.length : Int)), (28, .pointer (some ⟨gO, F.length * 2, none⟩)), (29, .pointer (some ⟨gO, F.length * 2 + 0, none⟩)), (30, .int .i64 key), (31, .pointer (some ⟨g17, 1, none⟩)), (32, .int .i64 z9.key), (33, .bool false), (34, .bool false)] ⟨⟨rfl, rfl⟩, ⟨rfl, rfl⟩, ⟨rfl, rfl⟩, ⟨rfl, rfl⟩, ⟨rfl, rfl⟩, ⟨rfl, rfl⟩, ⟨rfl, rfl⟩, ⟨rfl, rfl⟩, ⟨rfl, rfl⟩, ⟨rfl, rfl⟩, ⟨rfl, rfl⟩, ⟨rfl, rfl⟩, ⟨rfl, rfl⟩, ⟨rfl, rfl⟩, ⟨rfl, rfl⟩, ⟨rfl, rfl⟩, ⟨rfl, rfl⟩, ⟨rfl, rfl⟩, ⟨rfl, rfl⟩, ⟨rfl, rfl⟩, ⟨rfl, rfl⟩, ⟨rfl, rfl⟩, ⟨rfl, rfl⟩, ⟨rfl, rfl⟩, ⟨rfl, rfl⟩, ⟨rfl, rfl⟩, ⟨rfl, rfl⟩, ⟨rfl, rfl⟩, ⟨rfl, rfl⟩, ⟨rfl, rfl⟩, trivial⟩ (fun junk => ?_)
     refine e_cF rfl ?_
     refine e_skip ?_
     refine n_seq ?_
     refine e_seq ?_
     refine e_reg ?_
     refine l_y (v := .slice (some ⟨gO, 0, none⟩) (F.length + 1) cO) S (y_mv rfl) ?_
     refine l_y (v := .int .i64 (F.length : Int)) S (y_mv rfl) ?_
     refine l_y (v := .pointer (some ⟨gO, F.length * 2, none⟩)) S (y_ibs (k := F.length) U41 SZ55 (Nat.lt_succ_self _) (Nat.zero_add _) rfl rfl (by first | rfl | omega)) ?_
     refine l_y (v := .pointer (some ⟨gO, F.length * 2, none⟩)) S (y_as rfl) ?_
     refine l_nil ?_
     refine n_seq ?_
     refine e_seq ?_
     refine e_q MX (by kernel_rfl) S.drew ?_
     -- draws
     refine q_y (v := .pointer (some ⟨gO, F.length * 2, none⟩)) (y_mv rfl) ?_
     refine q_y (v := .pointer (some ⟨gO, F.length * 2, none⟩)) (y_nc rfl) ?_
     refine q_y (v := .pointer (some ⟨gO, F.length * 2 + 1, none⟩)) (y_fb FA55_1 rfl rfl) ?_
     refine q_y (v := .slice (some ⟨gI, 0, none⟩) its.length cI) (y_ld rfl (fun w S => ld_o1 (i := 0) S rfl rfl T22 (row_last1 hxl))) ?_
     refine q_y (v := .pointer (some ⟨gO, F.length * 2, none⟩)) (y_mv rfl) ?_
     refine q_y (v := .pointer (some ⟨gO, F.length * 2, none⟩)) (y_nc rfl) ?_
     refine q_y (v := .pointer (some ⟨gO, F.length * 2 + 1, none⟩)) (y_fb FA55_1 rfl rfl) ?_
     refine q_y (v := .slice (some ⟨gI, 0, none⟩) its.length cI) (y_ld rfl (fun w S => ld_o1 (i := 0) S rfl rfl T22 (row_last1 hxl))) ?_
     refine q_y (v := .int .i64 (its.length : Int)) (y_len U22 rfl rfl) ?_
     refine q_y (v := .int .i64 ((its.length - 1 : Nat) : Int)) (y_sub (r := ((its.length - 1 : Nat) : Int)) rfl rfl ((w64 (by omega) (by omega)).trans (by omega))) ?_
     refine q_y (v := .pointer (some ⟨gI, (its.length - 1) * 1, none⟩)) (y_ibs (k := (its.length - 1)) U22 SZ3 (by omega) (Nat.zero_add _) rfl rfl (by first | rfl | omega)) ?_
     refine q_y (v := .int .i64 y) (y_ld rfl (fun w S => ld_o1 (i := 1) S rfl rfl T3 (rowI_get OI hy))) ?_
     refine q_y (v := .pointer (some ⟨g17, 2, none⟩)) (y_fb FA62_2 rfl rfl) ?_
     refine q_y (v := .int .i64 z9.item) (y_ld rfl (fun w S => ld_b1 (i := 0) S rfl rfl T3)) ?_
     by_cases hit : y = z9.item
     · -- hit yes
      refine q_y (v := .bool false) (y_neF rfl rfl hit) ?_
      refine q_nil fun w33 S => ?_
      refine n_seq ?_
      refine e_cF rfl ?_
      refine e_skip ?_
      refine n_blk ?_
      refine n_seq ?_
      refine e_reg ?_
      refine l_y (v := .int .i64 ((k : Int) + 1)) S (y_add (r := (k : Int) + 1) rfl rfl (w64 (by omega) (by omega))) ?_
      refine l_y (v := .int .i64 ((k : Int) + 1)) S (y_mv rfl) ?_
      refine l_nil ?_
      refine n_lp ⟨(k + 1, (some ⟨gO, 0, none⟩), (F.length + 1), cO, (xsF ++ [.int .i64 key, .slice (some ⟨gI, 0, none⟩) its.length cI]), (some ⟨gI, 0, none⟩), its.length, cI, xsI), _, fr_keep (m := [(1, .bool true), (4, .slice none 0 0), (10, .slice A1 l.length c2), (11, .int .i64 (l.length : Int)), (12, .int .i64 ((k + 1 : Nat) : Int)), (5, .slice (some ⟨gO, 0, none⟩) (F.length + 1) cO)]) ⟨⟨rfl, rfl⟩, ⟨rfl, rfl⟩, ⟨rfl, rfl⟩, ⟨rfl, rfl⟩, ⟨ival (by first | rfl | omega), rfl⟩, ⟨rfl, rfl⟩, trivial⟩, ⟨_, _, rfl, (S.tk 0 2 rfl rfl), (Rd.le_trans L6 (Rd.le_refl rd4)), (.inr ⟨F, xsF, key, its, y, by rw [cells_take hz10, hcs, step_same b20 hk2 hy hit], rfl, rfl, hF, OI, rfl, hy⟩), (by omega), (by first | omega | (simp; omega)), (by first | omega | (simp; omega))⟩, ?_⟩
      show _ < _; dsimp only; omega
     · -- hit no
      refine q_y (v := .bool true) (y_neT rfl rfl hit) ?_
      refine q_nil fun w34 S => ?_
      refine n_seq ?_
      refine e_cT rfl ?_
      refine e_a (fun w => St [] W rd rd4 [(g17, 62, #[.bool z9.set, .int .i64 z9.key, .int .i64 z9.item, .int .i64 z9.author, .int .i64 z9.seq])] [] w) MX rfl ?_
      have S := S.drew; have sup35 := S.sup
      have SC : St [] W rd rd4 [(g17, 62, #[.bool z9.set, .int .i64 z9.key, .int .i64 z9.item, .int .i64 z9.author, .int .i64 z9.seq])] [] _ := (S.tk 1 0 rfl rfl).rw' rfl rfl
      refine a_take (v := .pointer (some ⟨gO, F.length * 2, none⟩)) 0 rfl rfl (by kernel_rfl) (by kernel_rfl) (by kernel_rfl) SC rfl (y_mv rfl) ?_
      refine a_take (v := .pointer (some ⟨gO, F.length * 2, none⟩)) 1 rfl rfl (by kernel_rfl) (by kernel_rfl) (by kernel_rfl) SC rfl (y_mv rfl) ?_
      refine a_take (v := .pointer (some ⟨gO, F.length * 2, none⟩)) 2 rfl rfl (by kernel_rfl) (by kernel_rfl) (by kernel_rfl) SC rfl (y_nc rfl) ?_
      refine a_take (v := .pointer (some ⟨gO, F.length * 2 + 1, none⟩)) 3 rfl rfl (by kernel_rfl) (by kernel_rfl) (by kernel_rfl) SC rfl (y_fb FA55_1 rfl rfl) ?_
      refine a_take (v := .pointer (some ⟨g17, 2, none⟩)) 5 rfl rfl (by kernel_rfl) (by kernel_rfl) (by kernel_rfl) SC rfl (y_fb FA62_2 rfl rfl) ?_
      refine a_take (v := .int .i64 z9.item) 6 rfl rfl (by kernel_rfl) (by kernel_rfl) (by kernel_rfl) SC rfl (y_ld rfl (fun w S => ld_b1 (i := 0) S rfl rfl T3)) ?_
      refine a_all (rs := [4, 7]) (by kernel_rfl) rfl ?_
      refine aa_cons rfl ?_ ?_
      · -- operation 4
       refine l_y (v := .slice (some ⟨gI, 0, none⟩) its.length cI) S (y_ld rfl (fun w S => ld_o1 (i := 0) S rfl rfl T22 (row_last1 hxl))) ?_
       refine l_nil ?_
       have SC : St [] W rd rd4 [(g17, 62, #[.bool z9.set, .int .i64 z9.key, .int .i64 z9.item, .int .i64 z9.author, .int .i64 z9.seq])] [] _ := (S.tk 1 0 rfl rfl).rw' rfl rfl
       refine n_lp (ak SC ?_)
       refine a_all (rs := [7]) (by kernel_rfl) rfl ?_
       refine aa_cons rfl ?_ ?_
       · -- operation 7
        refine l_bs (ps := [(0, .int .i64 z9.item)]) (cs := #[.int .i64 z9.item]) S U22 SZ3 Z3 rfl rfl rfl (by kernel_rfl) fun g36 w37 S => ?_
        refine l_nil ?_
        have SC : St [] W rd rd4 [(g17, 62, #[.bool z9.set, .int .i64 z9.key, .int .i64 z9.item, .int .i64 z9.author, .int .i64 z9.seq])] [] _ := (S.tk 1 0 rfl rfl).rw' rfl rfl
        refine n_lp (ak SC ?_)
        refine a_all (rs := [8]) (by kernel_rfl) rfl ?_
        refine aa_cons rfl ?_ ?_
        · -- operation 8
         refine l_ap (e' := 0) (i := 1) (i' := 1) S K22 rfl rfl rfl rfl rfl rfl rfl (by simp only [maxLen]; omega) (by first | omega | (dsimp only; omega)) fun v38 w39 S => ?_
         have OI := RowR.push (x := z9.item) (cs := [.int .i64 z9.item]) OI rfl rfl
         obtain ⟨A40, c41, m42e, m42, m42'⟩ : ∃ A c, v38 = .slice A (its.length + 1) c ∧ (its.length + 1) ≤ c ∧ c ≤ maxLen := own_len S (i := 1) rfl; subst m42e
         refine l_nil ?_
         have SC : St [] W rd rd4 [(g17, 62, #[.bool z9.set, .int .i64 z9.key, .int .i64 z9.item, .int .i64 z9.author, .int .i64 z9.seq])] [] _ := (S.tk 1 0 rfl rfl).rw' rfl rfl
         refine n_lp (ak SC ?_)
         refine a_take (v := .pointer (some ⟨gO, F.length * 2, none⟩)) 9 rfl rfl (by kernel_rfl) (by kernel_rfl) (by kernel_rfl) SC rfl (y_nc rfl) ?_
         refine a_take (v := .pointer (some ⟨gO, F.length * 2 + 1, none⟩)) 10 rfl rfl (by kernel_rfl) (by kernel_rfl) (by kernel_rfl) SC rfl (y_fb FA55_1 rfl rfl) ?_
         refine a_all (rs := [11]) (by kernel_rfl) rfl ?_
         refine aa_cons rfl ?_ ?_
         · -- operation 11
          refine l_so (u := .slice A40 (its.length + 1) c41) (i := 0) (xs' := (xsF ++ [.int .i64 key, .slice A40 (its.length + 1) c41])) S rfl rfl rfl rfl SZ22 (show _ + 1 ≤ List.length _ by simp; omega) rfl (row_set1 hxl) fun w43 S => ?_
          refine l_nil ?_
          have SC : St [] W rd rd4 [(g17, 62, #[.bool z9.set, .int .i64 z9.key, .int .i64 z9.item, .int .i64 z9.author, .int .i64 z9.seq])] [] _ := (S.tk 1 0 rfl rfl).rw' rfl rfl
          refine n_lp (ak SC ?_)
          refine a_done (by kernel_rfl) ?_
          clear SC
          refine n_blk ?_
          refine n_seq ?_
          refine e_trim [(1, .bool true), (4, .slice none 0 0), (10, .slice A1 l.length c2), (11, .int .i64 (l.length : Int)), (12, .int .i64 (k : Int)), (5, .slice (some ⟨gO, 0, none⟩) (F.length + 1) cO), (13, .bool true), (14, p11), (15, .agg #[.bool z9.set, .int .i64 z9.key, .int .i64 z9.item, .int .i64 z9.author, .int .i64 z9.seq]), (7, .pointer (some ⟨g17, 0, none⟩)), (16, .pointer (some ⟨g17, 0, none⟩)), (17, .bool true), (18, .bool true), (19, .bool false), (20, .slice (some ⟨gO, 0, none⟩) (F.length + 1) cO), (21, .int .i64 ((F.length + 1 : Nat) : Int)), (22, .int .i64 (F.length : Int)), (8, .int .i64 (F.length : Int)), (23, .int .i64 (F.length : Int)), (24, .bool false), (25, .bool false), (26, .slice (some ⟨gO, 0, none⟩) (F.length + 1) cO), (27, .int .i64 (F.length : Int)), (28, .pointer (some ⟨gO, F.length * 2, none⟩)), (29, .pointer (some ⟨gO, F.length * 2 + 0, none⟩)), (30, .int .i64 key), (31, .pointer (some ⟨g17, 1, none⟩)), (32, .int .i64 z9.key), (33, .bool false), (34, .bool false), (44, .slice (some ⟨gO, 0, none⟩) (F.length + 1) cO), (45, .int .i64 (F.length : Int)), (46, .pointer (some ⟨gO, F.length * 2, none⟩)), (9, .pointer (some ⟨gO, F.length * 2, none⟩)), (47, .pointer (some ⟨gO, F.length * 2, none⟩)), (48, .pointer (some ⟨gO, F.length * 2, none⟩)), (49, .pointer (some ⟨gO, F.length * 2 + 1, none⟩)), (50, .slice (some ⟨gI, 0, none⟩) its.length cI), (51, .pointer (some ⟨gO, F.length * 2, none⟩)), (52, .pointer (some ⟨gO, F.length * 2, none⟩)), (53, .pointer (some ⟨gO, F.length * 2 + 1, none⟩)), (54, .slice (some ⟨gI, 0, none⟩) its.length cI), (55, .int .i64 (its.length : Int)), (56, .int .i64 ((its.length - 1 : Nat) : Int)), (57, .pointer (some ⟨gI, (its.length - 1) * 1, none⟩)), (58, .int .i64 y), (59, .pointer (some ⟨g17, 2, none⟩)), (60, .int .i64 z9.item), (61, .bool true), (62, .pointer (some ⟨gO, F.length * 2, none⟩)), (63, .pointer (some ⟨gO, F.length * 2, none⟩)), (64, .pointer (some ⟨gO, F.length * 2, none⟩)), (65, .pointer (some ⟨gO, F.length * 2 + 1, none⟩)), (67, .pointer (some ⟨g17, 2, none⟩)), (68, .int .i64 z9.item), (66, .slice (some ⟨gI, 0, none⟩) its.length cI), (69, .slice (some ⟨g36, 0, none⟩) 1 1), (70, .slice A40 (its.length + 1) c41), (71, .pointer (some ⟨gO, F.length * 2, none⟩)), (72, .pointer (some ⟨gO, F.length * 2 + 1, none⟩))] ⟨⟨rfl, rfl⟩, ⟨rfl, rfl⟩, ⟨rfl, rfl⟩, ⟨rfl, rfl⟩, ⟨rfl, rfl⟩, ⟨rfl, rfl⟩, ⟨rfl, rfl⟩, ⟨rfl, rfl⟩, ⟨rfl, rfl⟩, ⟨rfl, rfl⟩, ⟨rfl, rfl⟩, ⟨rfl, rfl⟩, ⟨rfl, rfl⟩, ⟨rfl, rfl⟩, ⟨rfl, rfl⟩, ⟨rfl, rfl⟩, ⟨rfl, rfl⟩, ⟨rfl, rfl⟩, ⟨rfl, rfl⟩, ⟨rfl, rfl⟩, ⟨rfl, rfl⟩, ⟨rfl, rfl⟩, ⟨rfl, rfl⟩, ⟨rfl, rfl⟩, ⟨rfl, rfl⟩, ⟨rfl, rfl⟩, ⟨rfl, rfl⟩, ⟨rfl, rfl⟩, ⟨rfl, rfl⟩, ⟨rfl, rfl⟩, ⟨rfl, rfl⟩, ⟨rfl, rfl⟩, ⟨rfl, rfl⟩, ⟨rfl, rfl⟩, ⟨rfl, rfl⟩, ⟨rfl, rfl⟩, ⟨rfl, rfl⟩, ⟨rfl, rfl⟩, ⟨rfl, rfl⟩, ⟨rfl, rfl⟩, ⟨rfl, rfl⟩, ⟨rfl, rfl⟩, ⟨rfl, rfl⟩, ⟨rfl, rfl⟩, ⟨rfl, rfl⟩, ⟨rfl, rfl⟩, ⟨rfl, rfl⟩, ⟨rfl, rfl⟩, ⟨rfl, rfl⟩, ⟨rfl, rfl⟩, ⟨rfl, rfl⟩, ⟨rfl, rfl⟩, ⟨rfl, rfl⟩, ⟨rfl, rfl⟩, ⟨rfl, rfl⟩, ⟨rfl, rfl⟩, ⟨rfl, rfl⟩, ⟨rfl, rfl⟩, ⟨rfl, rfl⟩, ⟨rfl, rfl⟩, trivial⟩ (fun junk => ?_)
          refine e_reg ?_
          refine l_y (v := .int .i64 ((k : Int) + 1)) S (y_add (r := (k : Int) + 1) rfl rfl (w64 (by omega) (by omega))) ?_
          refine l_y (v := .int .i64 ((k : Int) + 1)) S (y_mv rfl) ?_
          refine l_nil ?_
          refine n_lp ⟨(k + 1, (some ⟨gO, 0, none⟩), (F.length + 1), cO, (xsF ++ [.int .i64 key, .slice A40 (its.length + 1) c41]), A40, (its.length + 1), c41, (xsI ++ [.int .i64 z9.item])), _, fr_keep (m := [(1, .bool true), (4, .slice none 0 0), (10, .slice A1 l.length c2), (11, .int .i64 (l.length : Int)), (12, .int .i64 ((k + 1 : Nat) : Int)), (5, .slice (some ⟨gO, 0, none⟩) (F.length + 1) cO)]) ⟨⟨rfl, rfl⟩, ⟨rfl, rfl⟩, ⟨rfl, rfl⟩, ⟨rfl, rfl⟩, ⟨ival (by first | rfl | omega), rfl⟩, ⟨rfl, rfl⟩, trivial⟩, ⟨_, _, rfl, (S.tk 0 2 rfl rfl), (Rd.le_trans L6 (Rd.le_refl rd4)), (.inr ⟨F, xsF, key, its ++ [z9.item], z9.item, by rw [cells_take hz10, hcs, step_add b20 hk2 hy hit], rfl, rfl, hF, OI, by simp, by simp⟩), (by omega), (by first | omega | (simp; omega)), (by first | omega | (simp; omega))⟩, ?_⟩
          show _ < _; dsimp only; omega
         exact aa_nil
        exact aa_nil
       exact aa_nil
      refine aa_cons rfl ?_ ?_
      · -- operation 7
       refine l_bs (ps := [(0, .int .i64 z9.item)]) (cs := #[.int .i64 z9.item]) S U22 SZ3 Z3 rfl rfl rfl (by kernel_rfl) fun g44 w45 S => ?_
       refine l_nil ?_
       have SC : St [] W rd rd4 [(g17, 62, #[.bool z9.set, .int .i64 z9.key, .int .i64 z9.item, .int .i64 z9.author, .int .i64 z9.seq])] [] _ := (S.tk 1 0 rfl rfl).rw' rfl rfl
       refine n_lp (ak SC ?_)
       refine a_all (rs := [4]) (by kernel_rfl) rfl ?_
       refine aa_cons rfl ?_ ?_
       · -- operation 4
        refine l_y (v := .slice (some ⟨gI, 0, none⟩) its.length cI) S (y_ld rfl (fun w S => ld_o1 (i := 0) S rfl rfl T22 (row_last1 hxl))) ?_
        refine l_nil ?_
        have SC : St [] W rd rd4 [(g17, 62, #[.bool z9.set, .int .i64 z9.key, .int .i64 z9.item, .int .i64 z9.author, .int .i64 z9.seq])] [] _ := (S.tk 1 0 rfl rfl).rw' rfl rfl
        refine n_lp (ak SC ?_)
        refine a_all (rs := [8]) (by kernel_rfl) rfl ?_
        refine aa_cons rfl ?_ ?_
        · -- operation 8
         refine l_ap (e' := 0) (i := 1) (i' := 1) S K22 rfl rfl rfl rfl rfl rfl rfl (by simp only [maxLen]; omega) (by first | omega | (dsimp only; omega)) fun v46 w47 S => ?_
         have OI := RowR.push (x := z9.item) (cs := [.int .i64 z9.item]) OI rfl rfl
         obtain ⟨A48, c49, m50e, m50, m50'⟩ : ∃ A c, v46 = .slice A (its.length + 1) c ∧ (its.length + 1) ≤ c ∧ c ≤ maxLen := own_len S (i := 1) rfl; subst m50e
         refine l_nil ?_
         have SC : St [] W rd rd4 [(g17, 62, #[.bool z9.set, .int .i64 z9.key, .int .i64 z9.item, .int .i64 z9.author, .int .i64 z9.seq])] [] _ := (S.tk 1 0 rfl rfl).rw' rfl rfl
         refine n_lp (ak SC ?_)
         refine a_take (v := .pointer (some ⟨gO, F.length * 2, none⟩)) 9 rfl rfl (by kernel_rfl) (by kernel_rfl) (by kernel_rfl) SC rfl (y_nc rfl) ?_
         refine a_take (v := .pointer (some ⟨gO, F.length * 2 + 1, none⟩)) 10 rfl rfl (by kernel_rfl) (by kernel_rfl) (by kernel_rfl) SC rfl (y_fb FA55_1 rfl rfl) ?_
         refine a_all (rs := [11]) (by kernel_rfl) rfl ?_
         refine aa_cons rfl ?_ ?_
         · -- operation 11
          refine l_so (u := .slice A48 (its.length + 1) c49) (i := 0) (xs' := (xsF ++ [.int .i64 key, .slice A48 (its.length + 1) c49])) S rfl rfl rfl rfl SZ22 (show _ + 1 ≤ List.length _ by simp; omega) rfl (row_set1 hxl) fun w51 S => ?_
          refine l_nil ?_
          have SC : St [] W rd rd4 [(g17, 62, #[.bool z9.set, .int .i64 z9.key, .int .i64 z9.item, .int .i64 z9.author, .int .i64 z9.seq])] [] _ := (S.tk 1 0 rfl rfl).rw' rfl rfl
          refine n_lp (ak SC ?_)
          refine a_done (by kernel_rfl) ?_
          clear SC
          refine n_blk ?_
          refine n_seq ?_
          refine e_trim [(1, .bool true), (4, .slice none 0 0), (10, .slice A1 l.length c2), (11, .int .i64 (l.length : Int)), (12, .int .i64 (k : Int)), (5, .slice (some ⟨gO, 0, none⟩) (F.length + 1) cO), (13, .bool true), (14, p11), (15, .agg #[.bool z9.set, .int .i64 z9.key, .int .i64 z9.item, .int .i64 z9.author, .int .i64 z9.seq]), (7, .pointer (some ⟨g17, 0, none⟩)), (16, .pointer (some ⟨g17, 0, none⟩)), (17, .bool true), (18, .bool true), (19, .bool false), (20, .slice (some ⟨gO, 0, none⟩) (F.length + 1) cO), (21, .int .i64 ((F.length + 1 : Nat) : Int)), (22, .int .i64 (F.length : Int)), (8, .int .i64 (F.length : Int)), (23, .int .i64 (F.length : Int)), (24, .bool false), (25, .bool false), (26, .slice (some ⟨gO, 0, none⟩) (F.length + 1) cO), (27, .int .i64 (F.length : Int)), (28, .pointer (some ⟨gO, F.length * 2, none⟩)), (29, .pointer (some ⟨gO, F.length * 2 + 0, none⟩)), (30, .int .i64 key), (31, .pointer (some ⟨g17, 1, none⟩)), (32, .int .i64 z9.key), (33, .bool false), (34, .bool false), (44, .slice (some ⟨gO, 0, none⟩) (F.length + 1) cO), (45, .int .i64 (F.length : Int)), (46, .pointer (some ⟨gO, F.length * 2, none⟩)), (9, .pointer (some ⟨gO, F.length * 2, none⟩)), (47, .pointer (some ⟨gO, F.length * 2, none⟩)), (48, .pointer (some ⟨gO, F.length * 2, none⟩)), (49, .pointer (some ⟨gO, F.length * 2 + 1, none⟩)), (50, .slice (some ⟨gI, 0, none⟩) its.length cI), (51, .pointer (some ⟨gO, F.length * 2, none⟩)), (52, .pointer (some ⟨gO, F.length * 2, none⟩)), (53, .pointer (some ⟨gO, F.length * 2 + 1, none⟩)), (54, .slice (some ⟨gI, 0, none⟩) its.length cI), (55, .int .i64 (its.length : Int)), (56, .int .i64 ((its.length - 1 : Nat) : Int)), (57, .pointer (some ⟨gI, (its.length - 1) * 1, none⟩)), (58, .int .i64 y), (59, .pointer (some ⟨g17, 2, none⟩)), (60, .int .i64 z9.item), (61, .bool true), (62, .pointer (some ⟨gO, F.length * 2, none⟩)), (63, .pointer (some ⟨gO, F.length * 2, none⟩)), (64, .pointer (some ⟨gO, F.length * 2, none⟩)), (65, .pointer (some ⟨gO, F.length * 2 + 1, none⟩)), (67, .pointer (some ⟨g17, 2, none⟩)), (68, .int .i64 z9.item), (69, .slice (some ⟨g44, 0, none⟩) 1 1), (66, .slice (some ⟨gI, 0, none⟩) its.length cI), (70, .slice A48 (its.length + 1) c49), (71, .pointer (some ⟨gO, F.length * 2, none⟩)), (72, .pointer (some ⟨gO, F.length * 2 + 1, none⟩))] ⟨⟨rfl, rfl⟩, ⟨rfl, rfl⟩, ⟨rfl, rfl⟩, ⟨rfl, rfl⟩, ⟨rfl, rfl⟩, ⟨rfl, rfl⟩, ⟨rfl, rfl⟩, ⟨rfl, rfl⟩, ⟨rfl, rfl⟩, ⟨rfl, rfl⟩, ⟨rfl, rfl⟩, ⟨rfl, rfl⟩, ⟨rfl, rfl⟩, ⟨rfl, rfl⟩, ⟨rfl, rfl⟩, ⟨rfl, rfl⟩, ⟨rfl, rfl⟩, ⟨rfl, rfl⟩, ⟨rfl, rfl⟩, ⟨rfl, rfl⟩, ⟨rfl, rfl⟩, ⟨rfl, rfl⟩, ⟨rfl, rfl⟩, ⟨rfl, rfl⟩, ⟨rfl, rfl⟩, ⟨rfl, rfl⟩, ⟨rfl, rfl⟩, ⟨rfl, rfl⟩, ⟨rfl, rfl⟩, ⟨rfl, rfl⟩, ⟨rfl, rfl⟩, ⟨rfl, rfl⟩, ⟨rfl, rfl⟩, ⟨rfl, rfl⟩, ⟨rfl, rfl⟩, ⟨rfl, rfl⟩, ⟨rfl, rfl⟩, ⟨rfl, rfl⟩, ⟨rfl, rfl⟩, ⟨rfl, rfl⟩, ⟨rfl, rfl⟩, ⟨rfl, rfl⟩, ⟨rfl, rfl⟩, ⟨rfl, rfl⟩, ⟨rfl, rfl⟩, ⟨rfl, rfl⟩, ⟨rfl, rfl⟩, ⟨rfl, rfl⟩, ⟨rfl, rfl⟩, ⟨rfl, rfl⟩, ⟨rfl, rfl⟩, ⟨rfl, rfl⟩, ⟨rfl, rfl⟩, ⟨rfl, rfl⟩, ⟨rfl, rfl⟩, ⟨rfl, rfl⟩, ⟨rfl, rfl⟩, ⟨rfl, rfl⟩, ⟨rfl, rfl⟩, ⟨rfl, rfl⟩, trivial⟩ (fun junk => ?_)
          refine e_reg ?_
          refine l_y (v := .int .i64 ((k : Int) + 1)) S (y_add (r := (k : Int) + 1) rfl rfl (w64 (by omega) (by omega))) ?_
          refine l_y (v := .int .i64 ((k : Int) + 1)) S (y_mv rfl) ?_
          refine l_nil ?_
          refine n_lp ⟨(k + 1, (some ⟨gO, 0, none⟩), (F.length + 1), cO, (xsF ++ [.int .i64 key, .slice A48 (its.length + 1) c49]), A48, (its.length + 1), c49, (xsI ++ [.int .i64 z9.item])), _, fr_keep (m := [(1, .bool true), (4, .slice none 0 0), (10, .slice A1 l.length c2), (11, .int .i64 (l.length : Int)), (12, .int .i64 ((k + 1 : Nat) : Int)), (5, .slice (some ⟨gO, 0, none⟩) (F.length + 1) cO)]) ⟨⟨rfl, rfl⟩, ⟨rfl, rfl⟩, ⟨rfl, rfl⟩, ⟨rfl, rfl⟩, ⟨ival (by first | rfl | omega), rfl⟩, ⟨rfl, rfl⟩, trivial⟩, ⟨_, _, rfl, (S.tk 0 2 rfl rfl), (Rd.le_trans L6 (Rd.le_refl rd4)), (.inr ⟨F, xsF, key, its ++ [z9.item], z9.item, by rw [cells_take hz10, hcs, step_add b20 hk2 hy hit], rfl, rfl, hF, OI, by simp, by simp⟩), (by omega), (by first | omega | (simp; omega)), (by first | omega | (simp; omega))⟩, ?_⟩
          show _ < _; dsimp only; omega
         exact aa_nil
        exact aa_nil
       exact aa_nil
      exact aa_nil
    · -- hk2 no
     refine q_g (d' := 25) (v := .bool true) (y_neT rfl rfl hk2) rfl rfl ?_
     refine q_y (v := .bool true) (y_pF rfl rfl) ?_
     refine q_nil fun w52 S => ?_
     refine n_seq ?_
     refine e_trim [(1, .bool true), (4, .slice none 0 0), (10, .slice A1 l.length c2), (11, .int .i64 (l.length : Int)), (12, .int .i64 (k : Int)), (5, .slice (some ⟨gO, 0, none⟩) (F.length + 1) cO), (13, .bool true), (14, p11), (15, .agg #[.bool z9.set, .int .i64 z9.key, .int .i64 z9.item, .int .i64 z9.author, .int .i64 z9.seq]), (7, .pointer (some ⟨g17, 0, none⟩)), (16, .pointer (some ⟨g17, 0, none⟩)), (17, .bool true), (18, .bool true), (19, .bool false), (20, .slice (some ⟨gO, 0, none⟩) (F.length + 1) cO), (21, .int .i64 ((F.length + 1 : Nat) : Int)), (22, .int .i64 (F.length : Int)), (8, .int .i64 (F.length : Int)), (23, .int .i64 (F.length : Int)), (24, .bool false), (25, .bool false), (26, .slice (some ⟨gO, 0, none⟩) (F.length + 1) cO), (27, .int .i64 (F.length : Int)), (28, .pointer (some ⟨gO, F.length * 2, none⟩)), (29, .pointer (some ⟨gO, F.length * 2 + 0, none⟩)), (30, .int .i64 key), (31, .pointer (some ⟨g17, 1, none⟩)), (32, .int .i64 z9.key), (33, .bool true), (34, .bool true)] ⟨⟨rfl, rfl⟩, ⟨rfl, rfl⟩, ⟨rfl, rfl⟩, ⟨rfl, rfl⟩, ⟨rfl, rfl⟩, ⟨rfl, rfl⟩, ⟨rfl, rfl⟩, ⟨rfl, rfl⟩, ⟨rfl, rfl⟩, ⟨rfl, rfl⟩, ⟨rfl, rfl⟩, ⟨rfl, rfl⟩, ⟨rfl, rfl⟩, ⟨rfl, rfl⟩, ⟨rfl, rfl⟩, ⟨rfl, rfl⟩, ⟨rfl, rfl⟩, ⟨rfl, rfl⟩, ⟨rfl, rfl⟩, ⟨rfl, rfl⟩, ⟨rfl, rfl⟩, ⟨rfl, rfl⟩, ⟨rfl, rfl⟩, ⟨rfl, rfl⟩, ⟨rfl, rfl⟩, ⟨rfl, rfl⟩, ⟨rfl, rfl⟩, ⟨rfl, rfl⟩, ⟨rfl, rfl⟩, ⟨rfl, rfl⟩, trivial⟩ (fun junk => ?_)
     refine e_cT rfl ?_
     refine e_seq ?_
     refine e_reg ?_
     refine l_y (v := .slice (some ⟨gO, 0, none⟩) (F.length + 1) cO) S (y_mv rfl) ?_
     refine l_y (v := .pointer (some ⟨g17, 1, none⟩)) S (y_fb FA62_1 rfl rfl) ?_
     refine l_y (v := .int .i64 z9.key) S (y_ld rfl (fun w S => ld_b1 (i := 0) S rfl rfl T3)) ?_
     refine l_y (v := .pointer (some ⟨g17, 2, none⟩)) S (y_fb FA62_2 rfl rfl) ?_
     refine l_y (v := .int .i64 z9.item) S (y_ld rfl (fun w S => ld_b1 (i := 0) S rfl rfl T3)) ?_
     refine l_bs (ps := [(0, .int .i64 z9.item)]) (cs := #[.int .i64 z9.item]) S U22 SZ3 Z3 rfl rfl rfl (by kernel_rfl) fun g53 w54 S => ?_
     refine l_y (v := .agg #[.int .i64 z9.key, .slice (some ⟨g53, 0, none⟩) 1 1]) S (y_bd (ps := [(0, .int .i64 z9.key), (1, .slice (some ⟨g53, 0, none⟩) 1 1)]) rfl (fun _ => by kernel_rfl)) ?_
     refine l_bs (ps := [(0, .agg #[.int .i64 z9.key, .slice (some ⟨g53, 0, none⟩) 1 1])]) (cs := #[.int .i64 z9.key, .slice (some ⟨g53, 0, none⟩) 1 1]) S U41 SZ55 Z55 rfl rfl rfl (by kernel_rfl) fun g55 w56 S => ?_
     have S := S.boxOwn (i := 1) rfl 1 1 1 rfl rfl (by simp [maxLen])
     obtain ⟨rd57, S, L58, hIt0⟩ := S.frzo' (i := 1) rfl rfl
     replace OI := rm OI L58
     replace hF := rm hF L58
     replace h := fm h L58
     replace E13 := PtrC.mono E13 L58
     have hIt : SliceR 1 IntR rd57 (.slice (some ⟨gI, 0, none⟩) its.length cI) its := hIt0 rfl OI; clear hIt0
     replace S := S.rw' (bx' := [(g17, 62, #[.bool z9.set, .int .i64 z9.key, .int .i64 z9.item, .int .i64 z9.author, .int .i64 z9.seq]), (g55, 55, #[.int .i64 z9.key, .slice (some ⟨g53, 0, none⟩) 1 1])]) (ow' := [⟨55, 2, .slice (some ⟨gO, 0, none⟩) (F.length + 1) cO, F.length + 1, xsF ++ [.int .i64 key, .slice (some ⟨gI, 0, none⟩) its.length cI]⟩, ⟨3, 1, .slice (some ⟨g53, 0, none⟩) 1 1, 1, [.int .i64 z9.item]⟩]) rfl rfl
     refine l_ap (e' := 0) (i := 0) (i' := 1) S K41 rfl rfl rfl rfl rfl rfl rfl (by simp only [maxLen]; omega) (by dsimp only; omega) fun v59 w60 S => ?_
     obtain ⟨A61, c62, m63e, m63, m63'⟩ : ∃ A c, v59 = .slice A (F.length + 1 + 1) c ∧ (F.length + 1 + 1) ≤ c ∧ c ≤ maxLen := own_len S (i := 0) rfl; subst m63e
     refine l_y (v := .slice A61 (F.length + 1 + 1) c62) S (y_as rfl) ?_
     refine l_nil ?_
     refine n_seq ?_
     refine e_exit ?_
     refine x_seq ?_
     refine x_hit ?_
     refine n_seq ?_
     refine e_reg ?_
     refine l_y (v := .int .i64 ((k : Int) + 1)) S (y_add (r := (k : Int) + 1) rfl rfl (w64 (by omega) (by omega))) ?_
     refine l_y (v := .int .i64 ((k : Int) + 1)) S (y_mv rfl) ?_
     refine l_nil ?_
     refine n_lp ⟨(k + 1, A61, (F.length + 1 + 1), c62, ((xsF ++ [.int .i64 key, .slice (some ⟨gI, 0, none⟩) its.length cI]) ++ [.int .i64 z9.key, .slice (some ⟨g53, 0, none⟩) 1 1]), (some ⟨g53, 0, none⟩), 1, 1, [.int .i64 z9.item]), _, fr_keep (m := [(1, .bool true), (4, .slice none 0 0), (10, .slice A1 l.length c2), (11, .int .i64 (l.length : Int)), (12, .int .i64 ((k + 1 : Nat) : Int)), (5, .slice A61 (F.length + 1 + 1) c62)]) ⟨⟨rfl, rfl⟩, ⟨rfl, rfl⟩, ⟨rfl, rfl⟩, ⟨rfl, rfl⟩, ⟨ival (by first | rfl | omega), rfl⟩, ⟨rfl, rfl⟩, trivial⟩, ⟨_, _, rfl, (S.tk 0 2 rfl rfl), (Rd.le_trans L6 (Rd.le_trans (Rd.le_refl rd4) L58)), (.inr ⟨F ++ [⟨key, its⟩], xsF ++ [.int .i64 key, .slice (some ⟨gI, 0, none⟩) its.length cI], z9.key, [z9.item], z9.item, by rw [cells_take hz10, hcs, step_new b20 hk2], by simp, rfl, RowR.push hF rfl ⟨_, rfl, hIt⟩, (rowInts _ [z9.item]), rfl, rfl⟩), (by omega), (by first | omega | (simp; omega)), (by first | omega | (simp; omega))⟩, ?_⟩
     show _ < _; dsimp only; omega
  · -- b20 False
   refine l_y (v := .bool false) S (y_bv (y_ld rfl (fun w S => ld_b1 (i := 0) S rfl rfl T4)) b20) ?_
   refine l_y (v := .bool true) S (y_mv rfl) ?_
   refine l_y (v := .bool true) S (y_bn U4 rfl rfl rfl) ?_
   refine l_nil ?_
   refine n_seq ?_
   refine e_cT rfl ?_
   refine e_exit ?_
   refine x_seq ?_
   refine x_hit ?_
   refine n_seq ?_
   refine e_reg ?_
   refine l_y (v := .int .i64 ((k : Int) + 1)) S (y_add (r := (k : Int) + 1) rfl rfl (w64 (by omega) (by omega))) ?_
   refine l_y (v := .int .i64 ((k : Int) + 1)) S (y_mv rfl) ?_
   refine l_nil ?_
   refine n_lp ⟨(k + 1, AO, nO, cO, xsO, AI, nI, cI, xsI), _, fr_keep (m := [(1, .bool true), (4, .slice none 0 0), (10, .slice A1 l.length c2), (11, .int .i64 (l.length : Int)), (12, .int .i64 ((k + 1 : Nat) : Int)), (5, .slice AO nO cO)]) ⟨⟨rfl, rfl⟩, ⟨rfl, rfl⟩, ⟨rfl, rfl⟩, ⟨rfl, rfl⟩, ⟨ival (by first | rfl | omega), rfl⟩, ⟨rfl, rfl⟩, trivial⟩, ⟨_, _, rfl, (S.tk 0 2 rfl rfl), (Rd.le_trans L6 (Rd.le_refl rd4)), (by rw [cells_take hz10, step_skip (by rw [b20]; decide)]; exact HC), (by omega), (by first | omega | (simp; omega)), (by first | omega | (simp; omega))⟩, ?_⟩
   show _ < _; dsimp only; omega
 · -- h8 no
  refine l_y (v := .bool false) S (y_ltF rfl rfl h8) ?_
  refine l_nil ?_
  refine n_seq ?_
  refine e_seq ?_
  refine e_cF rfl ?_
  refine e_exit ?_
  refine x_seq ?_
  refine x_lp ?_
  refine x_hit ?_
  refine n_seq ?_
  refine e_seq ?_
  refine e_reg ?_
  rcases HC with ⟨hcs, rfl, rfl⟩ | ⟨F, xsF, key, its, y, hcs, rfl, rfl, hF, OI, rfl, hy⟩
  · -- none yet
   have hrow : RowR 2 CellR rd4 [] ([] : List Cell) := rfl
   refine l_y (v := .slice AO 0 cO) S (y_mv rfl) ?_
   refine l_y (v := .slice AO 0 cO) S (y_as rfl) ?_
   refine l_nil ?_
   refine n_seq ?_
   refine e_ret ?_
   refine ret1 (v := .slice AO 0 cO) rfl rfl ?_
   have ek : l.take k = l := List.take_of_length_le (by omega); rw [ek] at hcs
   exact ⟨_, rfl, hcs ▸ S.rowOut (i := 0) rfl rfl rfl rfl hrow, S.below⟩
  · -- some
   have hil := (List.getElem?_eq_some_iff.1 hy).1; have hxl := hF.len
   obtain ⟨gO, rfl⟩ := own_atA S (i := 0) rfl rfl (Nat.succ_ne_zero _)
   obtain ⟨gI, rfl⟩ := own_atA S (i := 1) rfl rfl (show its.length ≠ 0 by omega)
   obtain ⟨rd64, S, L65, hIt0⟩ := S.frzo' (i := 1) rfl rfl
   replace OI := rm OI L65
   replace hF := rm hF L65
   replace h := fm h L65
   have hIt : SliceR 1 IntR rd64 (.slice (some ⟨gI, 0, none⟩) its.length cI) its := hIt0 rfl OI; clear hIt0
   have hrow : RowR 2 CellR rd64 (xsF ++ [.int .i64 key, .slice (some ⟨gI, 0, none⟩) its.length cI]) (F ++ [(⟨key, its⟩ : Cell)]) := RowR.push hF rfl ⟨_, rfl, hIt⟩
   refine l_y (v := .slice (some ⟨gO, 0, none⟩) (F.length + 1) cO) S (y_mv rfl) ?_
   refine l_y (v := .slice (some ⟨gO, 0, none⟩) (F.length + 1) cO) S (y_as rfl) ?_
   refine l_nil ?_
   refine n_seq ?_
   refine e_ret ?_
   refine ret1 (v := .slice (some ⟨gO, 0, none⟩) (F.length + 1) cO) rfl rfl ?_
   have ek : l.take k = l := List.take_of_length_le (by omega); rw [ek] at hcs
   exact ⟨_, rfl, hcs ▸ S.rowOut (i := 0) rfl rfl (by simp) rfl hrow, S.below⟩
theorem Cells_c (rd : Rd) (W : World) (hle : Rd.le rd (wrd W)) (v : Value) (l : List Live) (set : Bool) (h : SliceR 5 LiveR rd v l) (hb : l.length ≤ 400000000) :
    Calls Try.prog 52 #[v, .bool set] W (fun e w' => ∃ v', e = .returned v' ∧ SliceR 2 CellR (ext rd W w') v' (cellsL l set) ∧ Below W.heap.size W w') := by
  cases set
  · exact Cells_f rd W hle v l h hb
  · exact Cells_t rd W hle v l h hb
end Go.Proofs.Ytkjknlnhffmkkab
