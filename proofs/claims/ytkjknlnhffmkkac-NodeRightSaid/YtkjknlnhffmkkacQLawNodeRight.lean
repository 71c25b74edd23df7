/- NodeRight: who does a thing stays right. For every input; no condition. -/
import Derived.Test.YtkjknlnhffmkkacQAlive6
import Derived.Test.YtkjknlnhffmkkacQCloseN
namespace Go.Proofs.Ytkjknlnhffmkkac
open Go.ChangeShapes Go.WideShapes Go.ChangeAt Go.RowKit
set_option linter.unusedVariables false
structure RightP (d x : Node) : Prop where
  r : wrongN x = 0
  s : seesC x.state.clock d.state.clock = true
  b : seesC x.base d.base = true
  l : x.state.clock.length ≤ 6 ∧ x.base.length ≤ 6
theorem RightP.of {d x : Node} {n : Int} (h : RightN x n) (s : seesC x.state.clock d.state.clock = true) (b : seesC x.base d.base = true) : RightP d x := ⟨h.ok, s, b, by have := h.len; omega⟩
theorem prune_zero {d : Node} (h : wrongN d = 0) : (PruneN d).2 = 0 := by rw [PruneN_of (wrongN_iff.1 h)]
theorem right_three {d : Node} {u : Upd} {f : Int} {p : Parcel} {k : Nat} {x : Node} {e : Int} (h : wrongN d = 0) (hx : ([(IssueN d u).1, (TakeN d f p).1, (PruneN d).1] : List Node)[k]? = some x) (he : ([(IssueN d u).2, (TakeN d f p).2, (PruneN d).2] : List Int)[k]? = some e) (h0 : e = 0) : RightP d x := by
  subst h0
  have r := wrongN_iff.1 h
  match k, hx, he with
  | 0, hx, he =>
    obtain ⟨a, b, c, _⟩ := (IssueN_ok (Option.some.inj he)).right
    obtain rfl := Option.some.inj hx
    exact RightP.of a b (by rw [c]; exact seesC_refl _)
  | 1, hx, he =>
    obtain ⟨a, b, c, _⟩ := (TakeN_ok (Option.some.inj he)).right
    obtain rfl := Option.some.inj hx
    exact RightP.of a b c
  | 2, hx, he =>
    obtain rfl := Option.some.inj hx
    rw [PruneN_of r]
    obtain ⟨a, b⟩ := pruned_right r
    exact RightP.of a (seesC_refl _) b
  | k + 3, hx, he => simp at hx
set_option maxRecDepth 100000 in
set_option maxHeartbeats 8000000 in
theorem NodeRight_calls (W : World) (v1 : Value) (d : Node) (qa : AggR NodeR (wrd W) v1 d) (b1 : NodeBd d) (v2 : Value) (u : Upd) (qb : AggR UpdR (wrd W) v2 u) (b2 : UpdBd1 u) (f : Int) (hwf : (Lit.int IntKind.i64 f).wf = true) (v3 : Value) (p : Parcel) (qc : AggR ParcelR (wrd W) v3 p) (b3 : ParcelBd p) :
    Calls Try.prog 4 #[v1, v2, (.int .i64 f), v3] W (fun e w' => e = .returned (.bool true) ∧ Below W.heap.size W w') := by
 obtain ⟨vs1, qae, qa⟩ := qa; subst qae
 obtain ⟨sv2, sv4, sv6, sv8, sv10, sv12, qae, h3, h5, h7, h9, h11, h13⟩ := qa; subst qae
 obtain ⟨A14, c15, rfl, m16, m16'⟩ := h3.val
 obtain ⟨A17, c18, rfl, m19, m19'⟩ := h5.val
 obtain ⟨A20, c21, rfl, m22, m22'⟩ := h7.val
 obtain ⟨A23, c24, rfl, m25, m25'⟩ := h9.val
 obtain ⟨A26, c27, rfl, m28, m28'⟩ := h11.val
 obtain ⟨A29, c30, rfl, m31, m31'⟩ := h13.val
 obtain ⟨vs32, qbe, qb⟩ := qb; subst qbe
 obtain ⟨sv33, qbe, h34⟩ := qb; subst qbe
 obtain ⟨A35, c36, rfl, m37, m37'⟩ := h34.val
 obtain ⟨vs38, qce, qc⟩ := qc; subst qce
 obtain ⟨sv39, sv41, sv43, sv45, sv47, qce, h40, h42, h44, h46, h48⟩ := qc; subst qce
 obtain ⟨A49, c50, rfl, m51, m51'⟩ := h40.val
 obtain ⟨A52, c53, rfl, m54, m54'⟩ := h42.val
 obtain ⟨A55, c56, rfl, m57, m57'⟩ := h44.val
 obtain ⟨A58, c59, rfl, m60, m60'⟩ := h46.val
 obtain ⟨A61, c62, rfl, m63, m63'⟩ := h48.val
 have hmx : maxLen = 9223372036854775807 := rfl
 have S : St [] W (wrd W) (wrd W) [] [] W := St.start (Rd.le_refl _)
 refine e_enter (args := [.agg #[ni d.self, .slice A14 d.state.clock.length c15, .slice A17 d.state.lives.length c18, .slice A20 d.state.tallies.length c21, .slice A23 d.base.length c24, .slice A26 d.log.length c27, .slice A29 d.known.length c30], .agg #[ni u.author, .slice A35 u.seen.length c36, ni u.kind, ni u.key, ni u.item], ni f, .agg #[.bool p.whole, .slice A49 p.state.clock.length c50, .slice A52 p.state.lives.length c53, .slice A55 p.state.tallies.length c56, .slice A58 p.updates.length c59, .slice A61 p.clock.length c62]]) 82 Try.func4 rfl rfl rfl ?_
 refine e_seq ?_
 refine e_reg ?_
 refine l_bx (u := .agg #[ni d.self, .slice A14 d.state.clock.length c15, .slice A17 d.state.lives.length c18, .slice A20 d.state.tallies.length c21, .slice A23 d.base.length c24, .slice A26 d.log.length c27, .slice A29 d.known.length c30]) (cs := #[ni d.self, .slice A14 d.state.clock.length c15, .slice A17 d.state.lives.length c18, .slice A20 d.state.tallies.length c21, .slice A23 d.base.length c24, .slice A26 d.log.length c27, .slice A29 d.known.length c30]) S rfl rfl fun g64 w65 S => ?_
 refine l_bx (u := .agg #[ni u.author, .slice A35 u.seen.length c36, ni u.kind, ni u.key, ni u.item]) (cs := #[ni u.author, .slice A35 u.seen.length c36, ni u.kind, ni u.key, ni u.item]) S rfl rfl fun g66 w67 S => ?_
 refine l_bx (u := .agg #[.bool p.whole, .slice A49 p.state.clock.length c50, .slice A52 p.state.lives.length c53, .slice A55 p.state.tallies.length c56, .slice A58 p.updates.length c59, .slice A61 p.clock.length c62]) (cs := #[.bool p.whole, .slice A49 p.state.clock.length c50, .slice A52 p.state.lives.length c53, .slice A55 p.state.tallies.length c56, .slice A58 p.updates.length c59, .slice A61 p.clock.length c62]) S rfl rfl fun g68 w69 S => ?_
 refine l_y (v := .bool false) S (y_as rfl) ?_
 refine l_nil ?_
 refine n_seq ?_
 refine e_seq ?_
 refine e_seq ?_
 refine e_reg ?_
 refine l_c (en_f (vs := []) (CF 5 _) rfl rfl) (alive6_c _ _ S.le) ?_
 rintro e w70 ⟨rfl, k⟩
 have S := S.callq k; clear k
 refine ckd ?_
 refine l_y (v := .bool false) S (y_not rfl rfl) ?_
 refine l_nil ?_
 refine n_seq ?_
 refine e_cF rfl ?_
 refine e_skip ?_
 refine n_seq ?_
 refine e_seq ?_
 refine e_seq ?_
 refine e_reg ?_
 refine l_y (v := .agg #[ni d.self, .slice A14 d.state.clock.length c15, .slice A17 d.state.lives.length c18, .slice A20 d.state.tallies.length c21, .slice A23 d.base.length c24, .slice A26 d.log.length c27, .slice A29 d.known.length c30]) S (y_ld rfl (fun w S => ld_bA (vs := [ni d.self, .slice A14 d.state.clock.length c15, .slice A17 d.state.lives.length c18, .slice A20 d.state.tallies.length c21, .slice A23 d.base.length c24, .slice A26 d.log.length c27, .slice A29 d.known.length c30]) (i := 0) S rfl T31 rfl rfl)) ?_
 refine l_c (en_f (vs := [.agg #[ni d.self, .slice A14 d.state.clock.length c15, .slice A17 d.state.lives.length c18, .slice A20 d.state.tallies.length c21, .slice A23 d.base.length c24, .slice A26 d.log.length c27, .slice A29 d.known.length c30]]) (CF 11 _) rfl rfl) (NWrong_c _ _ S.le _ d (⟨_, rfl, ⟨_, _, _, _, _, _, rfl, h3, h5, h7, h9, h11, h13⟩⟩ : AggR NodeR (wrd W) _ d)) ?_
 rintro e w71 ⟨rfl, k⟩
 have S := S.callq k; clear k
 refine ckd ?_
 by_cases hW : wrongN d = 0
 ·
  refine l_y (v := .bool false) S (y_neF rfl rfl hW) ?_
  refine l_nil ?_
  refine n_seq ?_
  refine e_cF rfl ?_
  refine e_skip ?_
  refine n_seq ?_
  refine e_seq ?_
  refine e_reg ?_
  have hr := wrongN_iff.1 hW
  have hl6 := hr.len
  refine l_y (v := .agg #[ni d.self, .slice A14 d.state.clock.length c15, .slice A17 d.state.lives.length c18, .slice A20 d.state.tallies.length c21, .slice A23 d.base.length c24, .slice A26 d.log.length c27, .slice A29 d.known.length c30]) S (y_ld rfl (fun w S => ld_bA (vs := [ni d.self, .slice A14 d.state.clock.length c15, .slice A17 d.state.lives.length c18, .slice A20 d.state.tallies.length c21, .slice A23 d.base.length c24, .slice A26 d.log.length c27, .slice A29 d.known.length c30]) (i := 0) S rfl T31 rfl rfl)) ?_
  refine l_y (v := .agg #[ni u.author, .slice A35 u.seen.length c36, ni u.kind, ni u.key, ni u.item]) S (y_ld rfl (fun w S => ld_bA (vs := [ni u.author, .slice A35 u.seen.length c36, ni u.kind, ni u.key, ni u.item]) (i := 1) S rfl T33 rfl rfl)) ?_
  refine l_c (en_f (vs := [.agg #[ni d.self, .slice A14 d.state.clock.length c15, .slice A17 d.state.lives.length c18, .slice A20 d.state.tallies.length c21, .slice A23 d.base.length c24, .slice A26 d.log.length c27, .slice A29 d.known.length c30], .agg #[ni u.author, .slice A35 u.seen.length c36, ni u.kind, ni u.key, ni u.item]]) (CF 6 _) rfl rfl) (NIssue_c _ _ S.le _ _ d u _ (⟨_, rfl, ⟨_, _, _, _, _, _, rfl, h3, h5, h7, h9, h11, h13⟩⟩ : AggR NodeR (wrd W) _ d) (⟨_, rfl, ⟨_, rfl, h34⟩⟩ : AggR UpdR (wrd W) _ u)) ?_
  rintro e w72 ⟨v77, rfl, h78, k⟩
  obtain ⟨rd73, S, L74, N75, X76⟩ := S.call' k; clear k
  replace h3 := fm h3 L74
  replace h5 := fm h5 L74
  replace h7 := fm h7 L74
  replace h9 := fm h9 L74
  replace h11 := fm h11 L74
  replace h13 := fm h13 L74
  replace h34 := fm h34 L74
  replace h40 := fm h40 L74
  replace h42 := fm h42 L74
  replace h44 := fm h44 L74
  replace h46 := fm h46 L74
  replace h48 := fm h48 L74
  replace h78 := am h78 X76
  obtain ⟨cs79, h78v, h78⟩ := h78; subst h78v
  obtain ⟨sv80, sv82, sv84, sv86, sv88, sv90, h78e, h81, h83, h85, h87, h89, h91⟩ := h78; subst h78e
  obtain ⟨A92, c93, rfl, m94, m94'⟩ := h81.val
  obtain ⟨A95, c96, rfl, m97, m97'⟩ := h83.val
  obtain ⟨A98, c99, rfl, m100, m100'⟩ := h85.val
  obtain ⟨A101, c102, rfl, m103, m103'⟩ := h87.val
  obtain ⟨A104, c105, rfl, m106, m106'⟩ := h89.val
  obtain ⟨A107, c108, rfl, m109, m109'⟩ := h91.val
  refine ckd ?_
  refine l_y (v := .tuple #[.agg #[ni ((IssueN d u).1.self), .slice A92 (((IssueN d u).1.state.clock).length) c93, .slice A95 (((IssueN d u).1.state.lives).length) c96, .slice A98 (((IssueN d u).1.state.tallies).length) c99, .slice A101 (((IssueN d u).1.base).length) c102, .slice A104 (((IssueN d u).1.log).length) c105, .slice A107 (((IssueN d u).1.known).length) c108], ni ((IssueN d u).2)]) S (y_mv rfl) ?_
  refine l_y (v := .agg #[ni ((IssueN d u).1.self), .slice A92 (((IssueN d u).1.state.clock).length) c93, .slice A95 (((IssueN d u).1.state.lives).length) c96, .slice A98 (((IssueN d u).1.state.tallies).length) c99, .slice A101 (((IssueN d u).1.base).length) c102, .slice A104 (((IssueN d u).1.log).length) c105, .slice A107 (((IssueN d u).1.known).length) c108]) S (y_ex rfl rfl) ?_
  refine l_y (v := ni ((IssueN d u).2)) S (y_ex rfl rfl) ?_
  refine l_al (cs := #[ni 0, .slice none 0 0, .slice none 0 0, .slice none 0 0, .slice none 0 0, .slice none 0 0, .slice none 0 0]) S Z31 rfl fun g110 w111 S => ?_
  refine l_st (u := .agg #[ni ((IssueN d u).1.self), .slice A92 (((IssueN d u).1.state.clock).length) c93, .slice A95 (((IssueN d u).1.state.lives).length) c96, .slice A98 (((IssueN d u).1.state.tallies).length) c99, .slice A101 (((IssueN d u).1.base).length) c102, .slice A104 (((IssueN d u).1.log).length) c105, .slice A107 (((IssueN d u).1.known).length) c108]) (i := 3) (cs' := #[ni ((IssueN d u).1.self), .slice A92 (((IssueN d u).1.state.clock).length) c93, .slice A95 (((IssueN d u).1.state.lives).length) c96, .slice A98 (((IssueN d u).1.state.tallies).length) c99, .slice A101 (((IssueN d u).1.base).length) c102, .slice A104 (((IssueN d u).1.log).length) c105, .slice A107 (((IssueN d u).1.known).length) c108]) S rfl rfl rfl SZ31 rfl rfl rfl fun w112 S => ?_
  refine l_y (v := ni ((IssueN d u).2)) S (y_as rfl) ?_
  refine l_nil ?_
  refine n_seq ?_
  refine e_seq ?_
  refine e_reg ?_
  refine l_y (v := .agg #[ni d.self, .slice A14 d.state.clock.length c15, .slice A17 d.state.lives.length c18, .slice A20 d.state.tallies.length c21, .slice A23 d.base.length c24, .slice A26 d.log.length c27, .slice A29 d.known.length c30]) S (y_ld rfl (fun w S => ld_bA (vs := [ni d.self, .slice A14 d.state.clock.length c15, .slice A17 d.state.lives.length c18, .slice A20 d.state.tallies.length c21, .slice A23 d.base.length c24, .slice A26 d.log.length c27, .slice A29 d.known.length c30]) (i := 0) S rfl T31 rfl rfl)) ?_
  refine l_y (v := ni f) S (y_mv rfl) ?_
  refine l_y (v := .agg #[.bool p.whole, .slice A49 p.state.clock.length c50, .slice A52 p.state.lives.length c53, .slice A55 p.state.tallies.length c56, .slice A58 p.updates.length c59, .slice A61 p.clock.length c62]) S (y_ld rfl (fun w S => ld_bA (vs := [.bool p.whole, .slice A49 p.state.clock.length c50, .slice A52 p.state.lives.length c53, .slice A55 p.state.tallies.length c56, .slice A58 p.updates.length c59, .slice A61 p.clock.length c62]) (i := 2) S rfl T45 rfl rfl)) ?_
  refine l_c (en_f (vs := [.agg #[ni d.self, .slice A14 d.state.clock.length c15, .slice A17 d.state.lives.length c18, .slice A20 d.state.tallies.length c21, .slice A23 d.base.length c24, .slice A26 d.log.length c27, .slice A29 d.known.length c30], ni f, .agg #[.bool p.whole, .slice A49 p.state.clock.length c50, .slice A52 p.state.lives.length c53, .slice A55 p.state.tallies.length c56, .slice A58 p.updates.length c59, .slice A61 p.clock.length c62]]) (CF 12 _) rfl rfl) (NTake_c _ _ S.le _ _ d f p (⟨_, rfl, ⟨_, _, _, _, _, _, rfl, h3, h5, h7, h9, h11, h13⟩⟩ : AggR NodeR rd73 _ d) (⟨_, rfl, ⟨_, _, _, _, _, rfl, h40, h42, h44, h46, h48⟩⟩ : AggR ParcelR rd73 _ p)) ?_
  rintro e w113 ⟨v118, rfl, h119, k⟩
  obtain ⟨rd114, S, L115, N116, X117⟩ := S.call' k; clear k
  replace h3 := fm h3 L115
  replace h5 := fm h5 L115
  replace h7 := fm h7 L115
  replace h9 := fm h9 L115
  replace h11 := fm h11 L115
  replace h13 := fm h13 L115
  replace h34 := fm h34 L115
  replace h40 := fm h40 L115
  replace h42 := fm h42 L115
  replace h44 := fm h44 L115
  replace h46 := fm h46 L115
  replace h48 := fm h48 L115
  replace h81 := fm h81 L115
  replace h83 := fm h83 L115
  replace h85 := fm h85 L115
  replace h87 := fm h87 L115
  replace h89 := fm h89 L115
  replace h91 := fm h91 L115
  replace h119 := am h119 X117
  obtain ⟨cs120, h119v, h119⟩ := h119; subst h119v
  obtain ⟨sv121, sv123, sv125, sv127, sv129, sv131, h119e, h122, h124, h126, h128, h130, h132⟩ := h119; subst h119e
  obtain ⟨A133, c134, rfl, m135, m135'⟩ := h122.val
  obtain ⟨A136, c137, rfl, m138, m138'⟩ := h124.val
  obtain ⟨A139, c140, rfl, m141, m141'⟩ := h126.val
  obtain ⟨A142, c143, rfl, m144, m144'⟩ := h128.val
  obtain ⟨A145, c146, rfl, m147, m147'⟩ := h130.val
  obtain ⟨A148, c149, rfl, m150, m150'⟩ := h132.val
  refine ckd ?_
  refine l_y (v := .tuple #[.agg #[ni ((TakeN d f p).1.self), .slice A133 (((TakeN d f p).1.state.clock).length) c134, .slice A136 (((TakeN d f p).1.state.lives).length) c137, .slice A139 (((TakeN d f p).1.state.tallies).length) c140, .slice A142 (((TakeN d f p).1.base).length) c143, .slice A145 (((TakeN d f p).1.log).length) c146, .slice A148 (((TakeN d f p).1.known).length) c149], ni ((TakeN d f p).2)]) S (y_mv rfl) ?_
  refine l_y (v := .agg #[ni ((TakeN d f p).1.self), .slice A133 (((TakeN d f p).1.state.clock).length) c134, .slice A136 (((TakeN d f p).1.state.lives).length) c137, .slice A139 (((TakeN d f p).1.state.tallies).length) c140, .slice A142 (((TakeN d f p).1.base).length) c143, .slice A145 (((TakeN d f p).1.log).length) c146, .slice A148 (((TakeN d f p).1.known).length) c149]) S (y_ex rfl rfl) ?_
  refine l_y (v := ni ((TakeN d f p).2)) S (y_ex rfl rfl) ?_
  refine l_al (cs := #[ni 0, .slice none 0 0, .slice none 0 0, .slice none 0 0, .slice none 0 0, .slice none 0 0, .slice none 0 0]) S Z31 rfl fun g151 w152 S => ?_
  refine l_st (u := .agg #[ni ((TakeN d f p).1.self), .slice A133 (((TakeN d f p).1.state.clock).length) c134, .slice A136 (((TakeN d f p).1.state.lives).length) c137, .slice A139 (((TakeN d f p).1.state.tallies).length) c140, .slice A142 (((TakeN d f p).1.base).length) c143, .slice A145 (((TakeN d f p).1.log).length) c146, .slice A148 (((TakeN d f p).1.known).length) c149]) (i := 4) (cs' := #[ni ((TakeN d f p).1.self), .slice A133 (((TakeN d f p).1.state.clock).length) c134, .slice A136 (((TakeN d f p).1.state.lives).length) c137, .slice A139 (((TakeN d f p).1.state.tallies).length) c140, .slice A142 (((TakeN d f p).1.base).length) c143, .slice A145 (((TakeN d f p).1.log).length) c146, .slice A148 (((TakeN d f p).1.known).length) c149]) S rfl rfl rfl SZ31 rfl rfl rfl fun w153 S => ?_
  refine l_y (v := ni ((TakeN d f p).2)) S (y_as rfl) ?_
  refine l_nil ?_
  refine n_seq ?_
  refine e_seq ?_
  refine e_reg ?_
  refine l_y (v := .agg #[ni d.self, .slice A14 d.state.clock.length c15, .slice A17 d.state.lives.length c18, .slice A20 d.state.tallies.length c21, .slice A23 d.base.length c24, .slice A26 d.log.length c27, .slice A29 d.known.length c30]) S (y_ld rfl (fun w S => ld_bA (vs := [ni d.self, .slice A14 d.state.clock.length c15, .slice A17 d.state.lives.length c18, .slice A20 d.state.tallies.length c21, .slice A23 d.base.length c24, .slice A26 d.log.length c27, .slice A29 d.known.length c30]) (i := 0) S rfl T31 rfl rfl)) ?_
  refine l_c (en_f (vs := [.agg #[ni d.self, .slice A14 d.state.clock.length c15, .slice A17 d.state.lives.length c18, .slice A20 d.state.tallies.length c21, .slice A23 d.base.length c24, .slice A26 d.log.length c27, .slice A29 d.known.length c30]]) (CF 13 _) rfl rfl) (NPrune_c _ _ S.le _ d (⟨_, rfl, ⟨_, _, _, _, _, _, rfl, h3, h5, h7, h9, h11, h13⟩⟩ : AggR NodeR rd114 _ d)) ?_
  rintro e w154 ⟨v159, rfl, h160, k⟩
  obtain ⟨rd155, S, L156, N157, X158⟩ := S.call' k; clear k
  replace h3 := fm h3 L156
  replace h5 := fm h5 L156
  replace h7 := fm h7 L156
  replace h9 := fm h9 L156
  replace h11 := fm h11 L156
  replace h13 := fm h13 L156
  replace h34 := fm h34 L156
  replace h40 := fm h40 L156
  replace h42 := fm h42 L156
  replace h44 := fm h44 L156
  replace h46 := fm h46 L156
  replace h48 := fm h48 L156
  replace h81 := fm h81 L156
  replace h83 := fm h83 L156
  replace h85 := fm h85 L156
  replace h87 := fm h87 L156
  replace h89 := fm h89 L156
  replace h91 := fm h91 L156
  replace h122 := fm h122 L156
  replace h124 := fm h124 L156
  replace h126 := fm h126 L156
  replace h128 := fm h128 L156
  replace h130 := fm h130 L156
  replace h132 := fm h132 L156
  replace h160 := am h160 X158
  obtain ⟨cs161, h160v, h160⟩ := h160; subst h160v
  obtain ⟨sv162, sv164, sv166, sv168, sv170, sv172, h160e, h163, h165, h167, h169, h171, h173⟩ := h160; subst h160e
  obtain ⟨A174, c175, rfl, m176, m176'⟩ := h163.val
  obtain ⟨A177, c178, rfl, m179, m179'⟩ := h165.val
  obtain ⟨A180, c181, rfl, m182, m182'⟩ := h167.val
  obtain ⟨A183, c184, rfl, m185, m185'⟩ := h169.val
  obtain ⟨A186, c187, rfl, m188, m188'⟩ := h171.val
  obtain ⟨A189, c190, rfl, m191, m191'⟩ := h173.val
  refine ckd ?_
  refine l_y (v := .tuple #[.agg #[ni ((PruneN d).1.self), .slice A174 (((PruneN d).1.state.clock).length) c175, .slice A177 (((PruneN d).1.state.lives).length) c178, .slice A180 (((PruneN d).1.state.tallies).length) c181, .slice A183 (((PruneN d).1.base).length) c184, .slice A186 (((PruneN d).1.log).length) c187, .slice A189 (((PruneN d).1.known).length) c190], ni ((PruneN d).2)]) S (y_mv rfl) ?_
  refine l_y (v := .agg #[ni ((PruneN d).1.self), .slice A174 (((PruneN d).1.state.clock).length) c175, .slice A177 (((PruneN d).1.state.lives).length) c178, .slice A180 (((PruneN d).1.state.tallies).length) c181, .slice A183 (((PruneN d).1.base).length) c184, .slice A186 (((PruneN d).1.log).length) c187, .slice A189 (((PruneN d).1.known).length) c190]) S (y_ex rfl rfl) ?_
  refine l_y (v := ni ((PruneN d).2)) S (y_ex rfl rfl) ?_
  refine l_al (cs := #[ni 0, .slice none 0 0, .slice none 0 0, .slice none 0 0, .slice none 0 0, .slice none 0 0, .slice none 0 0]) S Z31 rfl fun g192 w193 S => ?_
  refine l_st (u := .agg #[ni ((PruneN d).1.self), .slice A174 (((PruneN d).1.state.clock).length) c175, .slice A177 (((PruneN d).1.state.lives).length) c178, .slice A180 (((PruneN d).1.state.tallies).length) c181, .slice A183 (((PruneN d).1.base).length) c184, .slice A186 (((PruneN d).1.log).length) c187, .slice A189 (((PruneN d).1.known).length) c190]) (i := 5) (cs' := #[ni ((PruneN d).1.self), .slice A174 (((PruneN d).1.state.clock).length) c175, .slice A177 (((PruneN d).1.state.lives).length) c178, .slice A180 (((PruneN d).1.state.tallies).length) c181, .slice A183 (((PruneN d).1.base).length) c184, .slice A186 (((PruneN d).1.log).length) c187, .slice A189 (((PruneN d).1.known).length) c190]) S rfl rfl rfl SZ31 rfl rfl rfl fun w194 S => ?_
  refine l_y (v := ni ((PruneN d).2)) S (y_as rfl) ?_
  refine l_nil ?_
  refine n_seq ?_
  refine e_seq ?_
  refine e_seq ?_
  refine e_reg ?_
  refine l_y (v := .agg #[ni ((IssueN d u).1.self), .slice A92 (((IssueN d u).1.state.clock).length) c93, .slice A95 (((IssueN d u).1.state.lives).length) c96, .slice A98 (((IssueN d u).1.state.tallies).length) c99, .slice A101 (((IssueN d u).1.base).length) c102, .slice A104 (((IssueN d u).1.log).length) c105, .slice A107 (((IssueN d u).1.known).length) c108]) S (y_ld rfl (fun w S => ld_bA (vs := [ni ((IssueN d u).1.self), .slice A92 (((IssueN d u).1.state.clock).length) c93, .slice A95 (((IssueN d u).1.state.lives).length) c96, .slice A98 (((IssueN d u).1.state.tallies).length) c99, .slice A101 (((IssueN d u).1.base).length) c102, .slice A104 (((IssueN d u).1.log).length) c105, .slice A107 (((IssueN d u).1.known).length) c108]) (i := 3) S rfl T31 rfl rfl)) ?_
  refine l_y (v := .agg #[ni ((TakeN d f p).1.self), .slice A133 (((TakeN d f p).1.state.clock).length) c134, .slice A136 (((TakeN d f p).1.state.lives).length) c137, .slice A139 (((TakeN d f p).1.state.tallies).length) c140, .slice A142 (((TakeN d f p).1.base).length) c143, .slice A145 (((TakeN d f p).1.log).length) c146, .slice A148 (((TakeN d f p).1.known).length) c149]) S (y_ld rfl (fun w S => ld_bA (vs := [ni ((TakeN d f p).1.self), .slice A133 (((TakeN d f p).1.state.clock).length) c134, .slice A136 (((TakeN d f p).1.state.lives).length) c137, .slice A139 (((TakeN d f p).1.state.tallies).length) c140, .slice A142 (((TakeN d f p).1.base).length) c143, .slice A145 (((TakeN d f p).1.log).length) c146, .slice A148 (((TakeN d f p).1.known).length) c149]) (i := 4) S rfl T31 rfl rfl)) ?_
  refine l_y (v := .agg #[ni ((PruneN d).1.self), .slice A174 (((PruneN d).1.state.clock).length) c175, .slice A177 (((PruneN d).1.state.lives).length) c178, .slice A180 (((PruneN d).1.state.tallies).length) c181, .slice A183 (((PruneN d).1.base).length) c184, .slice A186 (((PruneN d).1.log).length) c187, .slice A189 (((PruneN d).1.known).length) c190]) S (y_ld rfl (fun w S => ld_bA (vs := [ni ((PruneN d).1.self), .slice A174 (((PruneN d).1.state.clock).length) c175, .slice A177 (((PruneN d).1.state.lives).length) c178, .slice A180 (((PruneN d).1.state.tallies).length) c181, .slice A183 (((PruneN d).1.base).length) c184, .slice A186 (((PruneN d).1.log).length) c187, .slice A189 (((PruneN d).1.known).length) c190]) (i := 5) S rfl T31 rfl rfl)) ?_
  refine l_bs (ps := [(0, .agg #[ni ((IssueN d u).1.self), .slice A92 (((IssueN d u).1.state.clock).length) c93, .slice A95 (((IssueN d u).1.state.lives).length) c96, .slice A98 (((IssueN d u).1.state.tallies).length) c99, .slice A101 (((IssueN d u).1.base).length) c102, .slice A104 (((IssueN d u).1.log).length) c105, .slice A107 (((IssueN d u).1.known).length) c108]), (1, .agg #[ni ((TakeN d f p).1.self), .slice A133 (((TakeN d f p).1.state.clock).length) c134, .slice A136 (((TakeN d f p).1.state.lives).length) c137, .slice A139 (((TakeN d f p).1.state.tallies).length) c140, .slice A142 (((TakeN d f p).1.base).length) c143, .slice A145 (((TakeN d f p).1.log).length) c146, .slice A148 (((TakeN d f p).1.known).length) c149]), (2, .agg #[ni ((PruneN d).1.self), .slice A174 (((PruneN d).1.state.clock).length) c175, .slice A177 (((PruneN d).1.state.lives).length) c178, .slice A180 (((PruneN d).1.state.tallies).length) c181, .slice A183 (((PruneN d).1.base).length) c184, .slice A186 (((PruneN d).1.log).length) c187, .slice A189 (((PruneN d).1.known).length) c190])]) (cs := #[ni ((IssueN d u).1.self), .slice A92 (((IssueN d u).1.state.clock).length) c93, .slice A95 (((IssueN d u).1.state.lives).length) c96, .slice A98 (((IssueN d u).1.state.tallies).length) c99, .slice A101 (((IssueN d u).1.base).length) c102, .slice A104 (((IssueN d u).1.log).length) c105, .slice A107 (((IssueN d u).1.known).length) c108, ni ((TakeN d f p).1.self), .slice A133 (((TakeN d f p).1.state.clock).length) c134, .slice A136 (((TakeN d f p).1.state.lives).length) c137, .slice A139 (((TakeN d f p).1.state.tallies).length) c140, .slice A142 (((TakeN d f p).1.base).length) c143, .slice A145 (((TakeN d f p).1.log).length) c146, .slice A148 (((TakeN d f p).1.known).length) c149, ni ((PruneN d).1.self), .slice A174 (((PruneN d).1.state.clock).length) c175, .slice A177 (((PruneN d).1.state.lives).length) c178, .slice A180 (((PruneN d).1.state.tallies).length) c181, .slice A183 (((PruneN d).1.base).length) c184, .slice A186 (((PruneN d).1.log).length) c187, .slice A189 (((PruneN d).1.known).length) c190]) S U49 SZ31 Z31 rfl rfl rfl (by kernel_rfl) fun g195 w196 S => ?_
  obtain ⟨rd197, S, L198, Fz199⟩ := S.frz' (i := 6) rfl rfl
  replace h3 := fm h3 L198
  replace h5 := fm h5 L198
  replace h7 := fm h7 L198
  replace h9 := fm h9 L198
  replace h11 := fm h11 L198
  replace h13 := fm h13 L198
  replace h34 := fm h34 L198
  replace h40 := fm h40 L198
  replace h42 := fm h42 L198
  replace h44 := fm h44 L198
  replace h46 := fm h46 L198
  replace h48 := fm h48 L198
  replace h81 := fm h81 L198
  replace h83 := fm h83 L198
  replace h85 := fm h85 L198
  replace h87 := fm h87 L198
  replace h89 := fm h89 L198
  replace h91 := fm h91 L198
  replace h122 := fm h122 L198
  replace h124 := fm h124 L198
  replace h126 := fm h126 L198
  replace h128 := fm h128 L198
  replace h130 := fm h130 L198
  replace h132 := fm h132 L198
  replace h163 := fm h163 L198
  replace h165 := fm h165 L198
  replace h167 := fm h167 L198
  replace h169 := fm h169 L198
  replace h171 := fm h171 L198
  replace h173 := fm h173 L198
  have F200 := Fz199 (size := 7) (R := NodeR) (xs := ([(IssueN d u).1, (TakeN d f p).1, (PruneN d).1] : List Node)) (n := 3) (c := 3) rfl (Nat.le_refl _) (by simp [maxLen]) ⟨[ni ((IssueN d u).1.self), .slice A92 (((IssueN d u).1.state.clock).length) c93, .slice A95 (((IssueN d u).1.state.lives).length) c96, .slice A98 (((IssueN d u).1.state.tallies).length) c99, .slice A101 (((IssueN d u).1.base).length) c102, .slice A104 (((IssueN d u).1.log).length) c105, .slice A107 (((IssueN d u).1.known).length) c108], _, rfl, rfl, ⟨_, _, _, _, _, _, rfl, h81, h83, h85, h87, h89, h91⟩, ⟨[ni ((TakeN d f p).1.self), .slice A133 (((TakeN d f p).1.state.clock).length) c134, .slice A136 (((TakeN d f p).1.state.lives).length) c137, .slice A139 (((TakeN d f p).1.state.tallies).length) c140, .slice A142 (((TakeN d f p).1.base).length) c143, .slice A145 (((TakeN d f p).1.log).length) c146, .slice A148 (((TakeN d f p).1.known).length) c149], _, rfl, rfl, ⟨_, _, _, _, _, _, rfl, h122, h124, h126, h128, h130, h132⟩, ⟨[ni ((PruneN d).1.self), .slice A174 (((PruneN d).1.state.clock).length) c175, .slice A177 (((PruneN d).1.state.lives).length) c178, .slice A180 (((PruneN d).1.state.tallies).length) c181, .slice A183 (((PruneN d).1.base).length) c184, .slice A186 (((PruneN d).1.log).length) c187, .slice A189 (((PruneN d).1.known).length) c190], _, rfl, rfl, ⟨_, _, _, _, _, _, rfl, h163, h165, h167, h169, h171, h173⟩, rfl⟩⟩⟩; clear Fz199
  refine l_y (v := ni 3) S (y_len U49 rfl rfl) ?_
  refine l_y (v := ni 0) S (y_mv rfl) ?_
  refine l_nil ?_
  refine n_seq ?_
  refine e_blk ?_
  refine e_trim [(4, pa g64 0), (10, ni ((IssueN d u).2)), (12, ni ((TakeN d f p).2)), (14, ni ((PruneN d).2)), (43, .slice (some ⟨g195, 0, none⟩) 3 3), (44, ni 3), (45, ni (0 : Int))] ⟨⟨rfl, rfl⟩, ⟨rfl, rfl⟩, ⟨rfl, rfl⟩, ⟨rfl, rfl⟩, ⟨rfl, rfl⟩, ⟨rfl, rfl⟩, ⟨ival (by first | rfl | omega), rfl⟩, trivial⟩ (fun junk => ?_)
  refine e_loop (fun (gh_ : Nat) ov w => match gh_ with | k => ∃ rd' junk, ov = [(4, pa g64 0), (10, ni ((IssueN d u).2)), (12, ni ((TakeN d f p).2)), (14, ni ((PruneN d).2)), (43, .slice (some ⟨g195, 0, none⟩) 3 3), (44, ni 3), (45, ni (k : Int))] ++ junk ∧ St [] W (wrd W) rd' [(g64, 31, #[ni d.self, .slice A14 d.state.clock.length c15, .slice A17 d.state.lives.length c18, .slice A20 d.state.tallies.length c21, .slice A23 d.base.length c24, .slice A26 d.log.length c27, .slice A29 d.known.length c30]), (g66, 33, #[ni u.author, .slice A35 u.seen.length c36, ni u.kind, ni u.key, ni u.item]), (g68, 45, #[.bool p.whole, .slice A49 p.state.clock.length c50, .slice A52 p.state.lives.length c53, .slice A55 p.state.tallies.length c56, .slice A58 p.updates.length c59, .slice A61 p.clock.length c62]), (g110, 31, #[ni ((IssueN d u).1.self), .slice A92 (((IssueN d u).1.state.clock).length) c93, .slice A95 (((IssueN d u).1.state.lives).length) c96, .slice A98 (((IssueN d u).1.state.tallies).length) c99, .slice A101 (((IssueN d u).1.base).length) c102, .slice A104 (((IssueN d u).1.log).length) c105, .slice A107 (((IssueN d u).1.known).length) c108]), (g151, 31, #[ni ((TakeN d f p).1.self), .slice A133 (((TakeN d f p).1.state.clock).length) c134, .slice A136 (((TakeN d f p).1.state.lives).length) c137, .slice A139 (((TakeN d f p).1.state.tallies).length) c140, .slice A142 (((TakeN d f p).1.base).length) c143, .slice A145 (((TakeN d f p).1.log).length) c146, .slice A148 (((TakeN d f p).1.known).length) c149]), (g192, 31, #[ni ((PruneN d).1.self), .slice A174 (((PruneN d).1.state.clock).length) c175, .slice A177 (((PruneN d).1.state.lives).length) c178, .slice A180 (((PruneN d).1.state.tallies).length) c181, .slice A183 (((PruneN d).1.base).length) c184, .slice A186 (((PruneN d).1.log).length) c187, .slice A189 (((PruneN d).1.known).length) c190])] [] w ∧ Rd.le rd197 rd' ∧ k ≤ 3) (fun gh_ => match gh_ with | k => 3 - k) 0 ⟨_, junk, rfl, (S.rw' rfl rfl), (Rd.le_refl _), (by omega)⟩ ?_
  rintro k ov204 w202 ⟨rd201, junk, rfl, S, L203, hk⟩
  replace h3 := fm h3 L203
  replace h5 := fm h5 L203
  replace h7 := fm h7 L203
  replace h9 := fm h9 L203
  replace h11 := fm h11 L203
  replace h13 := fm h13 L203
  replace h34 := fm h34 L203
  replace h40 := fm h40 L203
  replace h42 := fm h42 L203
  replace h44 := fm h44 L203
  replace h46 := fm h46 L203
  replace h48 := fm h48 L203
  replace h81 := fm h81 L203
  replace h83 := fm h83 L203
  replace h85 := fm h85 L203
  replace h87 := fm h87 L203
  replace h89 := fm h89 L203
  replace h91 := fm h91 L203
  replace h122 := fm h122 L203
  replace h124 := fm h124 L203
  replace h126 := fm h126 L203
  replace h128 := fm h128 L203
  replace h130 := fm h130 L203
  replace h132 := fm h132 L203
  replace h163 := fm h163 L203
  replace h165 := fm h165 L203
  replace h167 := fm h167 L203
  replace h169 := fm h169 L203
  replace h171 := fm h171 L203
  replace h173 := fm h173 L203
  replace F200 := fm F200 L203
  refine e_seq ?_
  refine e_reg ?_
  by_cases h205 : (k : Int) < 3
  ·
   refine l_y (v := .bool true) S (y_ltT rfl rfl h205) ?_
   refine l_nil ?_
   refine n_seq ?_
   refine e_seq ?_
   refine e_cT rfl ?_
   refine e_skip ?_
   refine n_seq ?_
   refine e_seq ?_
   refine e_blk ?_
   refine e_seq ?_
   refine e_reg ?_
   refine l_y (v := ni (k : Int)) S (y_mv rfl) ?_
   obtain ⟨z206, hz207⟩ : ∃ z, (([(IssueN d u).1, (TakeN d f p).1, (PruneN d).1] : List Node))[k]? = some z := nth_of (by simp only [List.length_cons, List.length_nil]; omega)
   obtain ⟨p208, vs209, E210, nn211, r212, Y213⟩ := y_ia U49 SZ31 F200 hz207
   clear nn211
   obtain ⟨sv214, sv216, sv218, sv220, sv222, sv224, r212e, h215, h217, h219, h221, h223, h225⟩ := r212; subst r212e
   obtain ⟨A226, c227, rfl, m228, m228'⟩ := h215.val
   obtain ⟨A229, c230, rfl, m231, m231'⟩ := h217.val
   obtain ⟨A232, c233, rfl, m234, m234'⟩ := h219.val
   obtain ⟨A235, c236, rfl, m237, m237'⟩ := h221.val
   obtain ⟨A238, c239, rfl, m240, m240'⟩ := h223.val
   obtain ⟨A241, c242, rfl, m243, m243'⟩ := h225.val
   refine l_y (v := p208) S (Y213 rfl rfl (by first | rfl | omega)) ?_
   refine l_y (v := .agg #[ni z206.self, .slice A226 z206.state.clock.length c227, .slice A229 z206.state.lives.length c230, .slice A232 z206.state.tallies.length c233, .slice A235 z206.base.length c236, .slice A238 z206.log.length c239, .slice A241 z206.known.length c242]) S (y_ld rfl (fun w S => ld_pA (us := [ni z206.self, .slice A226 z206.state.clock.length c227, .slice A229 z206.state.lives.length c230, .slice A232 z206.state.tallies.length c233, .slice A235 z206.base.length c236, .slice A238 z206.log.length c239, .slice A241 z206.known.length c242]) S.le E210 T31 rfl rfl)) ?_
   refine l_al (cs := #[ni 0, .slice none 0 0, .slice none 0 0, .slice none 0 0, .slice none 0 0, .slice none 0 0, .slice none 0 0]) S Z31 rfl fun g244 w245 S => ?_
   refine l_y (v := ni (k : Int)) S (y_as rfl) ?_
   refine l_st (u := .agg #[ni z206.self, .slice A226 z206.state.clock.length c227, .slice A229 z206.state.lives.length c230, .slice A232 z206.state.tallies.length c233, .slice A235 z206.base.length c236, .slice A238 z206.log.length c239, .slice A241 z206.known.length c242]) (i := 6) (cs' := #[ni z206.self, .slice A226 z206.state.clock.length c227, .slice A229 z206.state.lives.length c230, .slice A232 z206.state.tallies.length c233, .slice A235 z206.base.length c236, .slice A238 z206.log.length c239, .slice A241 z206.known.length c242]) S rfl rfl rfl SZ31 rfl rfl rfl fun w246 S => ?_
   have S : St [] W (wrd W) rd201 [(g64, 31, #[ni d.self, .slice A14 d.state.clock.length c15, .slice A17 d.state.lives.length c18, .slice A20 d.state.tallies.length c21, .slice A23 d.base.length c24, .slice A26 d.log.length c27, .slice A29 d.known.length c30]), (g66, 33, #[ni u.author, .slice A35 u.seen.length c36, ni u.kind, ni u.key, ni u.item]), (g68, 45, #[.bool p.whole, .slice A49 p.state.clock.length c50, .slice A52 p.state.lives.length c53, .slice A55 p.state.tallies.length c56, .slice A58 p.updates.length c59, .slice A61 p.clock.length c62]), (g110, 31, #[ni ((IssueN d u).1.self), .slice A92 (((IssueN d u).1.state.clock).length) c93, .slice A95 (((IssueN d u).1.state.lives).length) c96, .slice A98 (((IssueN d u).1.state.tallies).length) c99, .slice A101 (((IssueN d u).1.base).length) c102, .slice A104 (((IssueN d u).1.log).length) c105, .slice A107 (((IssueN d u).1.known).length) c108]), (g151, 31, #[ni ((TakeN d f p).1.self), .slice A133 (((TakeN d f p).1.state.clock).length) c134, .slice A136 (((TakeN d f p).1.state.lives).length) c137, .slice A139 (((TakeN d f p).1.state.tallies).length) c140, .slice A142 (((TakeN d f p).1.base).length) c143, .slice A145 (((TakeN d f p).1.log).length) c146, .slice A148 (((TakeN d f p).1.known).length) c149]), (g192, 31, #[ni ((PruneN d).1.self), .slice A174 (((PruneN d).1.state.clock).length) c175, .slice A177 (((PruneN d).1.state.lives).length) c178, .slice A180 (((PruneN d).1.state.tallies).length) c181, .slice A183 (((PruneN d).1.base).length) c184, .slice A186 (((PruneN d).1.log).length) c187, .slice A189 (((PruneN d).1.known).length) c190]), (g244, 31, #[ni z206.self, .slice A226 z206.state.clock.length c227, .slice A229 z206.state.lives.length c230, .slice A232 z206.state.tallies.length c233, .slice A235 z206.base.length c236, .slice A238 z206.log.length c239, .slice A241 z206.known.length c242])] [] _ := S.rw' rfl rfl
   refine l_nil ?_
   refine n_seq ?_
   refine e_seq ?_
   refine e_seq ?_
   refine e_reg ?_
   refine l_y (v := ni ((IssueN d u).2)) S (y_mv rfl) ?_
   refine l_y (v := ni ((TakeN d f p).2)) S (y_mv rfl) ?_
   refine l_y (v := ni ((PruneN d).2)) S (y_mv rfl) ?_
   refine l_bs (ps := [(0, ni ((IssueN d u).2)), (1, ni ((TakeN d f p).2)), (2, ni ((PruneN d).2))]) (cs := #[ni ((IssueN d u).2), ni ((TakeN d f p).2), ni ((PruneN d).2)]) S U50 SZ35 Z35 rfl rfl rfl (by kernel_rfl) fun g247 w248 S => ?_
   obtain ⟨rd249, S, L250, Fz251⟩ := S.frz' (i := 7) rfl rfl
   replace h3 := fm h3 L250
   replace h5 := fm h5 L250
   replace h7 := fm h7 L250
   replace h9 := fm h9 L250
   replace h11 := fm h11 L250
   replace h13 := fm h13 L250
   replace h34 := fm h34 L250
   replace h40 := fm h40 L250
   replace h42 := fm h42 L250
   replace h44 := fm h44 L250
   replace h46 := fm h46 L250
   replace h48 := fm h48 L250
   replace h81 := fm h81 L250
   replace h83 := fm h83 L250
   replace h85 := fm h85 L250
   replace h87 := fm h87 L250
   replace h89 := fm h89 L250
   replace h91 := fm h91 L250
   replace h122 := fm h122 L250
   replace h124 := fm h124 L250
   replace h126 := fm h126 L250
   replace h128 := fm h128 L250
   replace h130 := fm h130 L250
   replace h132 := fm h132 L250
   replace h163 := fm h163 L250
   replace h165 := fm h165 L250
   replace h167 := fm h167 L250
   replace h169 := fm h169 L250
   replace h171 := fm h171 L250
   replace h173 := fm h173 L250
   replace F200 := fm F200 L250
   replace h215 := fm h215 L250
   replace h217 := fm h217 L250
   replace h219 := fm h219 L250
   replace h221 := fm h221 L250
   replace h223 := fm h223 L250
   replace h225 := fm h225 L250
   replace E210 := PtrC.mono E210 L250
   have F252 := Fz251 (size := 1) (R := IntR) (xs := ([(IssueN d u).2, (TakeN d f p).2, (PruneN d).2] : List Int)) (n := 3) (c := 3) rfl (Nat.le_refl _) (by simp [maxLen]) (rowInts _ ([(IssueN d u).2, (TakeN d f p).2, (PruneN d).2] : List Int)); clear Fz251
   refine l_y (v := ni (k : Int)) S (y_mv rfl) ?_
   obtain ⟨z253, hz254⟩ : ∃ z, (([(IssueN d u).2, (TakeN d f p).2, (PruneN d).2] : List Int))[k]? = some z := nth_of (by simp only [List.length_cons, List.length_nil]; omega)
   have hR := right_three hW hz207 hz254
   obtain ⟨p255, vs256, E257, nn258, r259, Y260⟩ := y_ia U50 SZ35 F252 hz254
   clear nn258
   have r259 : vs256 = [ni z253] := r259; subst r259
   refine l_y (v := p255) S (Y260 rfl rfl (by first | rfl | omega)) ?_
   refine l_y (v := ni z253) S (y_ld rfl (fun w S => ld_p1 S.le E257 rfl T35)) ?_
   by_cases h0 : z253 = 0
   ·
    refine l_y (v := .bool false) S (y_neF rfl rfl h0) ?_
    refine l_nil ?_
    refine n_seq ?_
    refine e_cF rfl ?_
    refine e_skip ?_
    refine n_seq ?_
    refine e_seq ?_
    refine e_reg ?_
    refine l_y (v := .agg #[ni z206.self, .slice A226 z206.state.clock.length c227, .slice A229 z206.state.lives.length c230, .slice A232 z206.state.tallies.length c233, .slice A235 z206.base.length c236, .slice A238 z206.log.length c239, .slice A241 z206.known.length c242]) S (y_ld rfl (fun w S => ld_bA (vs := [ni z206.self, .slice A226 z206.state.clock.length c227, .slice A229 z206.state.lives.length c230, .slice A232 z206.state.tallies.length c233, .slice A235 z206.base.length c236, .slice A238 z206.log.length c239, .slice A241 z206.known.length c242]) (i := 6) S rfl T31 rfl rfl)) ?_
    refine l_c (en_f (vs := [.agg #[ni z206.self, .slice A226 z206.state.clock.length c227, .slice A229 z206.state.lives.length c230, .slice A232 z206.state.tallies.length c233, .slice A235 z206.base.length c236, .slice A238 z206.log.length c239, .slice A241 z206.known.length c242]]) (CF 11 _) rfl rfl) (NWrong_c _ _ S.le _ z206 (⟨_, rfl, ⟨_, _, _, _, _, _, rfl, h215, h217, h219, h221, h223, h225⟩⟩ : AggR NodeR rd249 _ z206)) ?_
    rintro e w261 ⟨rfl, k⟩
    have S := S.callq k; clear k
    refine ckd ?_
    have h262 : wrongN z206 = 0 := (hR h0).r
    refine l_y (v := .bool false) S (y_neF rfl rfl h262) ?_
    refine l_y (v := .bool false) S (y_mv rfl) ?_
    have hcl := (hR h0).l
    refine l_g (d' := 61) (v := pa g244 1) S (y_fb FA31_1 rfl rfl) rfl rfl ?_
    refine l_g (d' := 61) (v := pa g244 1) S (y_fb FA27_0 rfl rfl) rfl rfl ?_
    refine l_g (d' := 61) (v := .slice A226 z206.state.clock.length c227) S (y_ld rfl (fun w S => ld_b1 (i := 6) S rfl rfl T23)) rfl rfl ?_
    refine l_g (d' := 61) (v := pa g64 1) S (y_fb FA31_1 rfl rfl) rfl rfl ?_
    refine l_g (d' := 61) (v := pa g64 1) S (y_fb FA27_0 rfl rfl) rfl rfl ?_
    refine l_g (d' := 61) (v := .slice A14 d.state.clock.length c15) S (y_ld rfl (fun w S => ld_b1 (i := 0) S rfl rfl T23)) rfl rfl ?_
    refine l_cg (d' := 61) (en_f (vs := [.slice A226 z206.state.clock.length c227, .slice A14 d.state.clock.length c15]) (CF 14 _) rfl rfl) rfl rfl (Sees_calls _ _ _ _ _ (fm h215 S.le) (fm h3 S.le) (by omega)) ?_
    rintro e w263 ⟨rfl, k⟩
    have S := S.callq k; clear k
    have b264 : seesC z206.state.clock d.state.clock = true := (hR h0).s
    rw [b264]
    refine ckd ?_
    refine l_g (d' := 61) (v := .bool false) S (y_not rfl rfl) rfl rfl ?_
    refine l_y (v := .bool false) S (y_pF rfl rfl) ?_
    refine l_y (v := .bool false) S (y_mv rfl) ?_
    refine l_g (d' := 71) (v := pa g244 4) S (y_fb FA31_2 rfl rfl) rfl rfl ?_
    refine l_g (d' := 71) (v := .slice A235 z206.base.length c236) S (y_ld rfl (fun w S => ld_b1 (i := 6) S rfl rfl T23)) rfl rfl ?_
    refine l_g (d' := 71) (v := pa g64 4) S (y_fb FA31_2 rfl rfl) rfl rfl ?_
    refine l_g (d' := 71) (v := .slice A23 d.base.length c24) S (y_ld rfl (fun w S => ld_b1 (i := 0) S rfl rfl T23)) rfl rfl ?_
    refine l_cg (d' := 71) (en_f (vs := [.slice A235 z206.base.length c236, .slice A23 d.base.length c24]) (CF 14 _) rfl rfl) rfl rfl (Sees_calls _ _ _ _ _ (fm h221 S.le) (fm h9 S.le) (by omega)) ?_
    rintro e w265 ⟨rfl, k⟩
    have S := S.callq k; clear k
    have b266 : seesC z206.base d.base = true := (hR h0).b
    rw [b266]
    refine ckd ?_
    refine l_g (d' := 71) (v := .bool false) S (y_not rfl rfl) rfl rfl ?_
    refine l_y (v := .bool false) S (y_pF rfl rfl) ?_
    refine l_nil ?_
    refine n_seq ?_
    refine e_cF rfl ?_
    refine e_skip ?_
    refine n_blk ?_
    refine n_seq ?_
    refine e_reg ?_
    refine l_y (v := ni ((k : Int) + 1)) S (y_add (r := (k : Int) + 1) rfl rfl (w64 (by omega) (by omega))) ?_
    refine l_y (v := ni ((k : Int) + 1)) S (y_mv rfl) ?_
    refine l_nil ?_
    refine n_lp ⟨(k + 1), _, fr_keep (m := [(4, pa g64 0), (10, ni ((IssueN d u).2)), (12, ni ((TakeN d f p).2)), (14, ni ((PruneN d).2)), (43, .slice (some ⟨g195, 0, none⟩) 3 3), (44, ni 3), (45, ni ((k + 1 : Nat) : Int))]) ⟨⟨rfl, rfl⟩, ⟨rfl, rfl⟩, ⟨rfl, rfl⟩, ⟨rfl, rfl⟩, ⟨rfl, rfl⟩, ⟨rfl, rfl⟩, ⟨ival (by first | rfl | omega), rfl⟩, trivial⟩, ⟨_, _, rfl, (S.tk 6 0 rfl rfl), (Rd.le_trans L203 (Rd.le_trans (Rd.le_refl rd201) L250)), (by omega)⟩, ?_⟩
    show _ < _; dsimp only; omega
   refine l_y (v := .bool true) S (y_neT rfl rfl h0) ?_
   refine l_nil ?_
   refine n_seq ?_
   refine e_cT rfl ?_
   refine e_exit ?_
   refine x_seq ?_
   refine x_hit ?_
   refine n_seq ?_
   refine e_reg ?_
   refine l_y (v := ni ((k : Int) + 1)) S (y_add (r := (k : Int) + 1) rfl rfl (w64 (by omega) (by omega))) ?_
   refine l_y (v := ni ((k : Int) + 1)) S (y_mv rfl) ?_
   refine l_nil ?_
   refine n_lp ⟨(k + 1), _, fr_keep (m := [(4, pa g64 0), (10, ni ((IssueN d u).2)), (12, ni ((TakeN d f p).2)), (14, ni ((PruneN d).2)), (43, .slice (some ⟨g195, 0, none⟩) 3 3), (44, ni 3), (45, ni ((k + 1 : Nat) : Int))]) ⟨⟨rfl, rfl⟩, ⟨rfl, rfl⟩, ⟨rfl, rfl⟩, ⟨rfl, rfl⟩, ⟨rfl, rfl⟩, ⟨rfl, rfl⟩, ⟨ival (by first | rfl | omega), rfl⟩, trivial⟩, ⟨_, _, rfl, (S.tk 6 0 rfl rfl), (Rd.le_trans L203 (Rd.le_trans (Rd.le_refl rd201) L250)), (by omega)⟩, ?_⟩
   show _ < _; dsimp only; omega
  refine l_y (v := .bool false) S (y_ltF rfl rfl h205) ?_
  refine l_nil ?_
  refine n_seq ?_
  refine e_seq ?_
  refine e_cF rfl ?_
  refine e_exit ?_
  refine x_seq ?_
  refine x_lp ?_
  refine x_hit ?_
  refine n_seq ?_
  refine e_seq ?_
  refine e_reg ?_
  refine l_y (v := ni ((PruneN d).2)) S (y_mv rfl) ?_
  have h267 : (PruneN d).2 = 0 := prune_zero hW
  refine l_y (v := .bool true) S (y_eqT rfl rfl h267) ?_
  refine l_y (v := .bool true) S (y_as rfl) ?_
  refine l_nil ?_
  refine n_seq ?_
  refine e_ret ?_
  refine ret1 (v := .bool true) rfl rfl ?_
  exact ⟨rfl, S.below⟩
 refine l_y (v := .bool true) S (y_neT rfl rfl hW) ?_
 refine l_nil ?_
 refine n_seq ?_
 refine e_cT rfl ?_
 refine e_seq ?_
 refine e_reg ?_
 refine l_y (v := .bool true) S (y_as rfl) ?_
 refine l_nil ?_
 refine n_seq ?_
 refine e_ret ?_
 refine ret1 (v := .bool true) rfl rfl ?_
 exact ⟨rfl, S.below⟩
set_option maxRecDepth 100000 in
theorem NodeRight_lifted (os : Os) (started : os.Started) (H : Type) (enc : TypeId × Value → H) :
    ReturnsInHanded {} Try.checked os 4 .any (Rows.nodeRightSpec.pre6 enc Try.prog Try.f4 Rows.nodeRightRow.domain false) (Rows.nodeRightSpec.post enc Try.prog Try.f4 false true false false) := by
  refine returnsInHanded_of_change_sized (C := Try.checked) own_ started (by kernel_rfl) Try.func4
    (ChangeSpec.witness6 (enc := enc) (C := Try.checked) false ⟨#[], #[.agg #[.int .i64 0, .slice none 0 0, .slice none 0 0, .slice none 0 0, .slice none 0 0, .slice none 0 0, .slice none 0 0], .agg #[.int .i64 0, .slice none 0 0, .int .i64 0, .int .i64 0, .int .i64 0], .int .i64 0, .agg #[.bool false, .slice none 0 0, .slice none 0 0, .slice none 0 0, .slice none 0 0, .slice none 0 0]], []⟩ 8 (by kernel_rfl) (by kernel_rfl) (by kernel_rfl) (by kernel_rfl)) ?_
  intro W base args ds gs before hval0 hW _ hsz0 _
  have hval : ∀ (j : Nat) t v, Try.f4.params[j]? = some t → args[j]? = some v → Value.okWide Try.prog W .any base t v := hval0
  have hsz : (DataW.weightsEach Try.prog (Try.f4.params.toList ++ Rows.nodeRightSpec.plain.varTypes Try.prog) (ds ++ gs)).all (· ≤ reachBytes) = true := hsz0
  have hW' := hW
  obtain ⟨p, q, hA0, hV, rfl, _, _⟩ := hW
  obtain ⟨rfl, rfl⟩ := trodVars_none hV
  have hA : DataW.TrodAll enc Try.prog W 0 (fun _ => true) true Try.f4.params.toList args.toList ds p := hA0
  rw [Try.params4] at hA hval hsz
  obtain ⟨v1, vs1, d1, ds1, p1, q1, e1, rfl, rfl, t1, r1⟩ := trodAll_cons hA
  obtain ⟨v2, vs2, d2, ds2, p2, q2, rfl, rfl, rfl, t2, r2⟩ := trodAll_cons r1
  obtain ⟨v3, vs3, d3, ds3, p3, q3, rfl, rfl, rfl, t3, r3⟩ := trodAll_cons r2
  obtain ⟨v4, vs4, d4, ds4, p4, q4, rfl, rfl, rfl, t4, r4⟩ := trodAll_cons r3
  obtain ⟨rfl, rfl, rfl⟩ := trodAll_nil r4
  obtain rfl : args = #[v1, v2, v3, v4] := by cases args; simp_all
  obtain ⟨z1, hsz⟩ := weights_each hsz
  obtain ⟨z2, hsz⟩ := weights_each hsz
  obtain ⟨z3, hsz⟩ := weights_each hsz
  obtain ⟨z4, hsz⟩ := weights_each hsz
  obtain ⟨a1, ha1, hb1⟩ := arg_agg Try.underlying31 op_node (hval 0 _ v1 rfl rfl) t1 z1
  obtain ⟨a2, ha2, hb2⟩ := arg_agg Try.underlying33 op_upd (hval 1 _ v2 rfl rfl) t2 z2
  obtain ⟨n3, rfl, rfl, rfl, hw3⟩ := open_int Try.underlying3 (hval 2 _ v3 rfl rfl) t3
  obtain ⟨a4, ha4, hb4⟩ := arg_agg Try.underlying45 op_parcel (hval 3 _ v4 rfl rfl) t4 z4
  refine (NodeRight_calls W v1 a1 ha1 hb1 v2 a2 ha2 hb2 n3 hw3 v4 a4 ha4 hb4).mono fun e W' ⟨he, hbl⟩ => ?_
  subst he
  exact ⟨_, rfl, close_law laidOut (by kernel_rfl) rfl (fun gs h => by subst h; rfl) rfl (tb := 4) Try.underlying4 hW' hbl⟩

theorem NodeRight_holds : Rows.NodeRightSaid :=
  OpenClaim.holds_of_wide 4 Try.f4 rfl rfl rfl rfl rfl rfl rfl ⟨rfl, rfl, rfl, rfl, rfl⟩ rfl rfl rfl rfl rfl (by kernel_rfl) Try.func4 (by kernel_rfl)
    (of_decide_eq_true (by kernel_rfl)) (by unfold Func.isWrapper; first | (rw [if_pos (by decide +kernel)]; kernel_rfl) | (rw [if_neg (by decide +kernel)]; exact ⟨rfl, rfl⟩))
    (fun os started H enc _ => NodeRight_lifted os started H enc)
#print axioms NodeRight_holds
end Go.Proofs.Ytkjknlnhffmkkac
