/- world.do over all rows at once. -/
import Derived.Test.YtkjknlnhffmkkabGreatQWorldB
import Derived.Test.YtkjknlnhffmkkabGreatQEg
namespace Go.Proofs.YtkjknlnhffmkkabGreat
open Go.RowKit
set_option linter.unusedVariables false
theorem pick_ab {m : Nat} (hm : 1 ≤ m) (p q : Int) : ∃ a b, a < m ∧ b < m ∧ (0 ≤ p → p < m → p = (a : Int)) ∧ (0 ≤ q → q < m → q = (b : Int)) := by
  have h : ∀ p : Int, ∃ a, a < m ∧ (0 ≤ p → p < m → p = (a : Int)) := fun p => by
    by_cases h : 0 ≤ p ∧ p < m
    · exact ⟨p.toNat, by omega, fun _ _ => by omega⟩
    · exact ⟨0, by omega, fun h1 h2 => absurd ⟨h1, h2⟩ h⟩
  obtain ⟨a, h1, h2⟩ := h p
  obtain ⟨b, h3, h4⟩ := h q
  exact ⟨a, b, h1, h3, h2, h4⟩
theorem St.newX {W w : World} {r0 rd rl : Rd} {bxk bx0 : List BxE} {owk ow0 : List OwE} (S : St [] W r0 rd (bxk ++ bx0) (owk ++ ow0) w) (h : Rd.le rl (wrd W)) : ∀ g ∈ blks bx0 ow0, ∀ o, rl g o = none := fun g hg o => by
  cases e : rl g o with
  | none => rfl
  | some v =>
    have hlt := blk_lt (h _ _ _ e)
    rcases blks_mem hg with ⟨p, hp, rfl⟩ | ⟨q, hq, e2⟩
    · rcases (S.box p (List.mem_append_right _ hp)).1 with k | k
      · omega
      · cases k
    · rcases ((S.own q (List.mem_append_right _ hq)).2 g e2).1 with k | k
      · omega
      · cases k
abbrev rowN' (gN n cN : Nat) (xs : List Value) : OwE := ⟨64, 7, .slice (some ⟨gN, 0, none⟩) n cN, n, xs⟩
abbrev rowV' (gV n cV : Nat) (vI : Nat → Value) : OwE := ⟨74, 1, .slice (some ⟨gV, 0, none⟩) n cV, n, (List.range n).map vI⟩
abbrev boxW' (gW gN gV n cN cV : Nat) : List BxE := [(gW, 71, #[.slice (some ⟨gN, 0, none⟩) n cN, .slice (some ⟨gV, 0, none⟩) n cV])]
abbrev rowsW' (n : Nat) (vI : Nat → Value) (pr : PrF) : List OwE := rowsW 88 91 n vI pr
set_option maxHeartbeats 2000000 in
theorem DoAll_c {X : List Nat} (rd : Rd) (W : World) (gW gN gV m cN cV B : Nat) (x : World') (vI : Nat → Value) (pr : PrF) (xsN : List Value) (hn : x.nodes.length = m) (hV : ∀ y, y < m → ∃ g c, vI y = .slice (some ⟨g, 0, none⟩) m c) (hm : 1 ≤ m) (hB : B ≤ 1000)
    (S0 : St X W rd rd (boxW' gW gN gV m cN cV) ([rowN' gN m cN xsN, rowV' gV m cV vI] ++ rowsW' m vI pr) W) (ON : RowR 7 NodeR rd xsN x.nodes) (hW : WayOk rd B m pr x.way) (d : Do) (p : Value) (rl : Rd) (As : Option Addr) (cs : Nat) (hls : Rd.le rl (wrd W)) (hlX : ∀ g ∈ blks (boxW' gW gN gV m cN cV) ([rowN' gN m cN xsN, rowV' gV m cV vI] ++ rowsW' m vI pr), ∀ o, rl g o = none)
    (hs : SliceR 1 IntR rl (.slice As d.update.seen.length cs) d.update.seen) (hp : PtrC rl p [.int .i64 d.kind, .int .i64 d.n, .int .i64 d.to, .int .i64 d.update.author, .slice As d.update.seen.length cs, .int .i64 d.update.kind, .int .i64 d.update.key, .int .i64 d.update.item]) :
    Calls Tryz.prog 18 #[(pa gW 0), p] W (fun e w' => ∃ rd' xsN' pr', e = .returned (.int .i64 (stepW x d).2) ∧ St X W rd rd' (boxW' gW gN gV m cN cV) ([rowN' gN m cN xsN', rowV' gV m cV vI] ++ rowsW' m vI pr') w' ∧ RowR 7 NodeR rd' xsN' (stepW x d).1.nodes ∧ (stepW x d).1.nodes.length = m ∧ WayOk rd' (B + 1) m pr' (stepW x d).1.way) := by
  obtain ⟨a, b, ha, hb, hna, hnb⟩ := pick_ab hm d.n d.to
  obtain ⟨gI, cI, hI⟩ := hV a ha
  have P := hW.p a ha b hb
  have hperm : ∀ xs : List Value, ∀ l1 l2 : OwE, ([rowN' gN m cN xs, rowV' gV m cV vI] ++ restW 88 91 m vI pr a b ++ [l1, l2]).Perm (restW 88 91 m vI pr a b ++ [rowN' gN m cN xs, rowV' gV m cV vI, l1, l2]) := fun xs l1 l2 => by
    have h := (List.perm_append_comm (l₁ := [rowN' gN m cN xs, rowV' gV m cV vI]) (l₂ := restW 88 91 m vI pr a b)).append_right [l1, l2]
    rw [List.append_assoc (restW 88 91 m vI pr a b)] at h
    exact h
  have hp1 : ([rowN' gN m cN xsN, rowV' gV m cV vI] ++ rowsW' m vI pr).Perm (restW 88 91 m vI pr a b ++ [rowN' gN m cN xsN, rowV' gV m cV vI, rowI 88 m vI pr a, rowP 91 (pr (a, b))]) := by
    refine List.Perm.trans ?_ (hperm xsN _ _)
    rw [List.append_assoc]
    exact List.Perm.append_left _ (rows_pick ha hb)
  have S := S0.permO hp1.symm
  obtain ⟨hkn, At, ct, htv, hlc, hlm⟩ := P.t.len
  have hT : TailV 6 (pr (a, b)).v (pr (a, b)).n (pr (a, b)).k (.slice At (wyL x.way a b).length ct) := by rw [P.l, ← htv]; exact P.t
  have hIx : (tvs m pr a)[b]? = some (.slice At (wyL x.way a b).length ct) := by rw [tvs_get hb, htv, P.l]
  have S1 : St X W rd rd ([] ++ boxW' gW gN gV m cN cV) (restW 88 91 m vI pr a b ++ [rowN' gN m cN xsN, rowV' gV m cV vI, ⟨88, 1, .slice (some ⟨gI, 0, none⟩) m cI, m, tvs m pr a⟩, ⟨91, 6, (pr (a, b)).v, (pr (a, b)).n, (pr (a, b)).xs⟩]) W := by
    have h := S
    unfold rowI rowP at h
    rw [hI] at h
    exact h
  refine (WDo_m rd W gW gN gV gI m cN cV cI a b (pr (a, b)).n (pr (a, b)).k ct x (wyL x.way a b) (pr (a, b)).v At xsN ((List.range m).map vI) (tvs m pr a) (pr (a, b)).xs ha hb hn rfl P.l (Nat.le_trans P.b hB) hW.l hW.r (by simp) (tvs_len m pr a) (S1.give rfl rfl) ON
    (by rw [List.getElem?_map, List.getElem?_range ha, Option.map_some, hI]) hIx hT P.r d p rl As cs hls (fun g hg => ?_) hs hp hna hnb).mono ?_
  · rcases blks_mem hg with ⟨q, hq, rfl⟩ | ⟨q, hq, e⟩
    · exact hlX _ (blks_box hq)
    · have h1 : q.v.ownBlock = some g := e
      have h2 : ∃ q', q' ∈ restW 88 91 m vI pr a b ++ [rowN' gN m cN xsN, rowV' gV m cV vI, rowI 88 m vI pr a, rowP 91 (pr (a, b))] ∧ q'.v.ownBlock = some g := by
        simp only [List.mem_cons, List.not_mem_nil, or_false] at hq
        rcases hq with rfl | rfl | rfl | rfl
        · exact ⟨_, List.mem_append_right _ (by simp), h1⟩
        · exact ⟨_, List.mem_append_right _ (by simp), h1⟩
        · exact ⟨rowI 88 m vI pr a, List.mem_append_right _ (by simp), by show (vI a).ownBlock = _; rw [hI]; exact h1⟩
        · exact ⟨rowP 91 (pr (a, b)), List.mem_append_right _ (by simp), h1⟩
      obtain ⟨q', h3, h4⟩ := h2
      exact hlX g (blks_own (hp1.mem_iff.2 h3) h4)
  · rintro e w' ⟨rd', xsN', xsI', pv', pn', pk', xsP', At', ct', rfl, k, hS⟩
    have L := k.sup
    have S2 := S1.comp (bxk := []) (bx0 := boxW' gW gN gV m cN cV) (owk := restW 88 91 m vI pr a b) rfl rfl k
    obtain ⟨y, hy⟩ : ∃ y : PRow, y = ⟨pv', pn', pk', xsP', .slice At' (wyL (stepW x d).1.way a b).length ct'⟩ := ⟨_, rfl⟩
    have S3 : St X W rd rd' (boxW' gW gN gV m cN cV) ([rowN' gN m cN xsN', rowV' gV m cV vI] ++ restW 88 91 m vI pr a b ++ [⟨88, 1, vI a, m, (tvs m pr a).set b y.tv⟩, rowP 91 y]) w' := by
      refine St.permO (ow := restW 88 91 m vI pr a b ++ [rowN' gN m cN xsN', rowV' gV m cV vI, ⟨88, 1, vI a, m, (tvs m pr a).set b y.tv⟩, rowP 91 y]) ?_ (hperm xsN' _ _)
      rw [hI, hy]
      have h := S2
      rw [hS.i] at h
      exact h
    have S4 := St.putW S3 ha hb
    rw [fuV_same] at S4
    refine ⟨rd', xsN', _, rfl, S4, hS.nodes, hS.len, ?_⟩
    rw [hS.way]
    refine (hW.mono L (Nat.le_succ B)).put ha hb ?_
    rw [hy]
    exact ⟨hS.t, hS.p, by have := hS.bd; have := P.b; show pn' ≤ B + 1; omega, hS.l⟩
end Go.Proofs.YtkjknlnhffmkkabGreat
