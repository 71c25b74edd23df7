/- slices.Insert of one entry, at structs. -/
import Derived.Test.YtkjknlnhffmkkacGreatQPl
import Derived.Test.YtkjknlnhffmkkacGreatQEg
import Derived.Test.YtkjknlnhffmkkacGreatQTy
namespace Go.Proofs.YtkjknlnhffmkkacGreat
open Go.RowKit
set_option linter.unusedVariables false
theorem ins_hold {cur : Array Value} {k j : Nat} {u : Value} (h : (cur.toList.take k)[j]? = some u) : cur[0 + j]? = some u := by
  rw [Nat.zero_add]
  rw [List.getElem?_take] at h
  split at h
  · simpa using h
  · cases h
theorem ins_src {cur : Array Value} {a k j : Nat} {u : Value} (h : ((cur.toList.drop a).take k)[j]? = some u) : cur[a + j]? = some u := by
  rw [List.getElem?_take] at h
  split at h
  · rw [List.getElem?_drop] at h; simpa using h
  · cases h
theorem ins_one {cur : Array Value} {a k n : Nat} (h : ∀ u ∈ cur.toList.take n, u.oneCell' = true) (hk : a + k ≤ n) : ∀ u ∈ (cur.toList.drop a).take k, u.oneCell' = true := fun u hu => by
  refine h u ?_
  have e : (cur.toList.drop a).take k = ((cur.toList.take n).drop a).take k := by
    rw [List.drop_take, List.take_take, Nat.min_eq_left (by omega)]
  rw [e] at hu
  exact List.mem_of_mem_drop (List.mem_of_mem_take hu)
theorem over_list {A : Array Value} {o : Nat} {x : List Value} : (over A o x).toList = A.toList.take o ++ x ++ A.toList.drop (o + x.length) := by unfold over; simp
theorem ins_up {A : Array Value} {p x y : List Value} {a o1 o2 N : Nat} (h1 : A.toList.take a = p) (ha : p.length = a) (e1 : o1 = a) (e2 : o2 = a + x.length) (eN : N = a + x.length + y.length) (hs : a + x.length + y.length ≤ A.size) : (over (over A o1 x) o2 y).toList.take N = p ++ x ++ y := by
  subst e1 e2 eN
  rw [over_list, over_list, h1]
  have hp : (p ++ x).length = o1 + x.length := by rw [List.length_append, ha]
  have e : (p ++ x ++ A.toList.drop (o1 + x.length)).take (o1 + x.length) = p ++ x := by rw [← hp]; exact List.take_left
  rw [e]
  have hq : (p ++ x ++ y).length = o1 + x.length + y.length := by rw [List.length_append, hp]
  rw [← hq]; exact List.take_left
theorem ins_dn {A : Array Value} {x y : List Value} {a o1 o2 N : Nat} (e1 : o1 = a) (e2 : o2 = a + x.length) (eN : N = a + x.length + y.length) (hs : a + x.length + y.length ≤ A.size) : (over (over A o2 y) o1 x).toList.take N = A.toList.take a ++ x ++ y := by
  subst e1 e2 eN
  have hA : A.toList.length = A.size := rfl
  have hl : (A.toList.take (o1 + x.length)).length = o1 + x.length := by rw [List.length_take]; omega
  rw [over_list, over_list]
  have e1 : (A.toList.take (o1 + x.length) ++ y ++ A.toList.drop (o1 + x.length + y.length)).take o1 = A.toList.take o1 := by
    rw [List.append_assoc, List.take_append_of_le_length (by rw [hl]; omega), List.take_take, Nat.min_eq_left (Nat.le_add_right _ _)]
  have e2 : (A.toList.take (o1 + x.length) ++ y ++ A.toList.drop (o1 + x.length + y.length)).drop (o1 + x.length) = y ++ A.toList.drop (o1 + x.length + y.length) := by
    rw [List.append_assoc]
    have h := List.drop_left (l₁ := A.toList.take (o1 + x.length)) (l₂ := y ++ A.toList.drop (o1 + x.length + y.length))
    rwa [hl] at h
  rw [e1, e2]
  have hp : (A.toList.take o1).length = o1 := by rw [List.length_take]; omega
  have hq : (A.toList.take o1 ++ x ++ y).length = o1 + x.length + y.length := by rw [List.length_append, List.length_append, hp]
  rw [← List.append_assoc, ← hq]; exact List.take_left
theorem ins_end {cur csv : Array Value} {i n z : Nat} (h : i = n) : cur.toList.take (n * z) ++ csv.toList = cur.toList.take (i * z) ++ csv.toList ++ (cur.toList.drop (i * z)).take ((n - i) * z) := by subst h; simp
theorem ins_blk {X : List Nat} {W w : World} {r0 rd : Rd} {bx : List BxE} {q : OwE} {gv : Nat} {Tv : TypeId} {csv : Array Value} (S : St X W r0 rd bx [q] w) (hb : (gv, Tv, csv) ∈ bx) : ∀ g', q.v.ownBlock = some g' → g' ≠ gv ∧ (W.heap.size ≤ g' ∨ g' ∈ X) := fun g' e => by
  have hm : q ∈ [q] := List.mem_singleton.2 rfl
  exact ⟨fun h => S.d3 _ hb _ hm (by rw [e, h]), ((S.own _ hm).2 g' e).1⟩
theorem ins_fin {W w : World} {r0 rd : Rd} {bx : List BxE} {T z N n g gv : Nat} {v : Value} {xs L : List Value} {Tv : TypeId} {csv : Array Value} (S : St [g, gv] W r0 rd bx [⟨T, z, v, N, xs⟩] w) (hN : N = n + 1) (hx : xs = L) (hb : (gv, Tv, csv) ∈ bx) :
    ∃ v', Ending.returned v = .returned v' ∧ w.ownsRow 0 T z v' (n + 1) L ∧ (∀ g', v'.ownBlock = some g' → g' = g ∨ W.heap.size ≤ g') ∧ Frm [g, gv] W w := by
  subst hN hx
  refine ⟨v, rfl, (S.own _ (List.mem_singleton.2 rfl)).1, fun g' e => ?_, S.fr⟩
  obtain ⟨h1, h2⟩ := ins_blk S hb g' e
  rcases h2 with h | h
  · exact .inr h
  · simp only [List.mem_cons, List.not_mem_nil, or_false] at h
    exact .inl (h.resolve_right h1)
theorem ins_fin0 {W w : World} {r0 rd : Rd} {bx : List BxE} {T z N n gv : Nat} {v : Value} {xs L : List Value} {Tv : TypeId} {csv : Array Value} (S : St [gv] W r0 rd bx [⟨T, z, v, N, xs⟩] w) (hN : N = n + 1) (hx : xs = L) (hb : (gv, Tv, csv) ∈ bx) :
    ∃ v', Ending.returned v = .returned v' ∧ w.ownsRow 0 T z v' (n + 1) L ∧ (∀ g', v'.ownBlock = some g' → False ∨ W.heap.size ≤ g') ∧ Frm [gv] W w := by
  subst hN hx
  refine ⟨v, rfl, (S.own _ (List.mem_singleton.2 rfl)).1, fun g' e => ?_, S.fr⟩
  obtain ⟨h1, h2⟩ := ins_blk S hb g' e
  rcases h2 with h | h
  · exact .inr h
  · exact absurd (List.mem_singleton.1 h) h1
set_option maxRecDepth 100000 in
theorem InsT_b (W : World) (g gv n cap i : Nat) (cur csv : Array Value) (hg : W.heap[g]? = some (.cells cur 106 (0, 0))) (hgv : W.heap[gv]? = some (.cells csv 106 (0, 0))) (hne : g ≠ gv) (hcs : cur.size = cap * 3) (hcv : csv.size = 3) (h1c : ∀ u ∈ cur.toList.take (n * 3), u.oneCell' = true) (h1v : csv.toList.all Value.oneCell' = true) (hcap : n ≤ cap) (hm : cap ≤ maxLen) (hi : i ≤ n) (hlen : n + 1 ≤ maxLen) (hby : (n + 1) * 24 ≤ 140737488355328) :
    Calls Tryz.prog 132 #[(.slice (some ⟨g, 0, none⟩) n cap), (.int .i64 (i : Int)), (.slice (some ⟨gv, 0, none⟩) 1 1)] W (fun e w' => ∃ v', e = .returned v' ∧ w'.ownsRow 0 106 3 v' (n + 1) (cur.toList.take (i * 3) ++ csv.toList ++ (cur.toList.drop (i * 3)).take ((n - i) * 3)) ∧ (∀ g', v'.ownBlock = some g' → g' = g ∨ W.heap.size ≤ g') ∧ Frm [g, gv] W w') := by
 have hmx : maxLen = 9223372036854775807 := rfl
 obtain ⟨rd, hle, hrd⟩ : ∃ rd : Rd, Rd.le rd (wrd W) ∧ ∀ g o, rd g o = none := ⟨fun _ _ => none, fun _ _ _ h => by (cases h), fun _ _ => rfl⟩
 have S : St [g, gv] W rd rd [(g, 106, cur), (gv, 106, csv)] [] W := St.startX hle (by intro p hp; simp only [List.mem_cons, List.not_mem_nil, or_false] at hp; rcases hp with rfl | rfl <;> first | exact ⟨by simp, hg, hrd g⟩ | exact ⟨by simp, hgv, hrd gv⟩) (by simp [hne])
 refine e_enter (args := [.slice (some ⟨g, 0, none⟩) n cap, ni (i : Int), .slice (some ⟨gv, 0, none⟩) 1 1]) 95 Tryz.func132 rfl rfl rfl ?_
 refine e_seq ?_
 refine e_reg ?_
 refine l_y (v := .slice none 0 0) S (y_as rfl) ?_
 refine l_nil ?_
 refine n_seq ?_
 refine e_seq ?_
 refine e_reg ?_
 refine l_y (v := .slice (some ⟨g, 0, none⟩) n cap) S (y_mv rfl) ?_
 refine l_y (v := ni (i : Int)) S (y_mv rfl) ?_
 obtain ⟨o1, ho2, Y3⟩ := y_slb (g := g) (o := 0) (n := n) (c := cap) (lo := i) (hi := n) U25 SZ106 (by omega) (by omega)
 refine l_y (v := .slice (some ⟨g, o1, none⟩) (n - i) (cap - i)) S (Y3 rfl (.inr ⟨_, _, _, rfl, rfl, (by first | rfl | omega)⟩) (.inl ⟨rfl, rfl⟩)) ?_
 refine l_nil ?_
 refine n_seq ?_
 refine e_seq ?_
 refine e_reg ?_
 refine l_y (v := .slice (some ⟨gv, 0, none⟩) 1 1) S (y_mv rfl) ?_
 refine l_y (v := ni 1) S (y_len U25 rfl rfl) ?_
 refine l_y (v := ni 1) S (y_as rfl) ?_
 refine l_nil ?_
 refine n_seq ?_
 refine e_seq ?_
 refine e_seq ?_
 refine e_reg ?_
 refine l_y (v := ni 1) S (y_mv rfl) ?_
 refine l_y (v := .bool false) S (y_eqF rfl rfl (by decide)) ?_
 refine l_nil ?_
 refine n_seq ?_
 refine e_cF rfl ?_
 refine e_skip ?_
 refine n_seq ?_
 refine e_seq ?_
 refine e_reg ?_
 refine l_y (v := .slice (some ⟨g, 0, none⟩) n cap) S (y_mv rfl) ?_
 refine l_y (v := ni (n : Int)) S (y_len U25 rfl rfl) ?_
 refine l_y (v := ni (n : Int)) S (y_as rfl) ?_
 refine l_nil ?_
 refine n_seq ?_
 refine e_seq ?_
 refine e_seq ?_
 refine e_reg ?_
 refine l_y (v := ni (i : Int)) S (y_mv rfl) ?_
 refine l_y (v := ni (n : Int)) S (y_mv rfl) ?_
 by_cases hin : (i : Int) = (n : Int)
 ·
  refine l_y (v := .bool true) S (y_eqT rfl rfl hin) ?_
  refine l_nil ?_
  refine n_seq ?_
  refine e_cT rfl ?_
  refine e_seq ?_
  refine e_reg ?_
  refine l_y (v := .slice (some ⟨g, 0, none⟩) n cap) S (y_mv rfl) ?_
  refine l_y (v := .slice (some ⟨gv, 0, none⟩) 1 1) S (y_mv rfl) ?_
  have S := S.boxOwn2 (i := 0) rfl 3 n cap (cur.toList.take (n * 3)) hcs hcap rfl hm
  refine l_ap (e' := 0) (i := 0) (i' := 0) S K25 rfl rfl rfl rfl rfl (hcv.trans rfl) h1v hlen hby fun v4 w5 S => ?_
  refine l_y (v := v4) S (y_as rfl) ?_
  refine l_nil ?_
  refine n_seq ?_
  refine e_ret ?_
  refine ret1 (v := v4) rfl rfl ?_
  exact ins_fin S rfl (ins_end (by omega)) (List.mem_singleton.2 rfl)
 refine l_y (v := .bool false) S (y_eqF rfl rfl hin) ?_
 refine l_nil ?_
 refine n_seq ?_
 refine e_cF rfl ?_
 refine e_skip ?_
 refine n_seq ?_
 refine e_seq ?_
 refine e_seq ?_
 refine e_reg ?_
 refine l_y (v := ni (n : Int)) S (y_mv rfl) ?_
 refine l_y (v := ni 1) S (y_mv rfl) ?_
 refine l_y (v := ni ((n : Int) + 1)) S (y_add (r := (n : Int) + 1) rfl rfl (w64 (by omega) (by omega))) ?_
 refine l_y (v := .slice (some ⟨g, 0, none⟩) n cap) S (y_mv rfl) ?_
 refine l_y (v := ni (cap : Int)) S (y_cap U25 rfl rfl) ?_
 by_cases hc : (cap : Int) < (n : Int) + 1
 ·
  refine l_y (v := .bool true) S (y_gtT rfl rfl hc) ?_
  refine l_nil ?_
  refine n_seq ?_
  refine e_cT rfl ?_
  refine e_seq ?_
  refine e_reg ?_
  refine l_y (v := .slice (some ⟨g, 0, none⟩) n cap) S (y_mv rfl) ?_
  refine l_y (v := ni (i : Int)) S (y_mv rfl) ?_
  refine l_y (v := .slice (some ⟨g, 0, none⟩) i cap) S (y_slb0 (hi := i) U25 SZ106 (by omega) rfl (.inr ⟨_, _, _, rfl, rfl, (by first | rfl | omega)⟩)) ?_
  refine l_y (v := ni (n : Int)) S (y_mv rfl) ?_
  refine l_y (v := ni 1) S (y_mv rfl) ?_
  refine l_y (v := ni ((n : Int) + 1)) S (y_add (r := (n : Int) + 1) rfl rfl (w64 (by omega) (by omega))) ?_
  refine l_y (v := ni (i : Int)) S (y_mv rfl) ?_
  refine l_y (v := ni (((n : Int) + 1) - (i : Int))) S (y_sub (r := ((n : Int) + 1) - (i : Int)) rfl rfl (w64 (by omega) (by omega))) ?_
  obtain ⟨olds6, olds6e⟩ : ∃ z, z = cur.toList.take (i * 3) := ⟨_, rfl⟩
  refine l_apz (m := (n + 1 - i)) (olds := olds6) (i := 0) S K25 U3 rfl rfl (by omega) rfl (by subst olds6e; simp [hcs]; omega) (fun j u hu => by subst olds6e; exact ins_hold hu) (by omega) (by omega) (by omega) (by rw [show i + (n + 1 - i) = n + 1 by omega]; exact hby) fun g7 cz8 cap9 w10 hcz8 tcz8 ecap9 mcap9 S bg7 => ?_
  refine l_y (v := .slice (some ⟨g7, 0, none⟩) (i + (n + 1 - i)) cap9) S (y_as rfl) ?_
  refine l_nil ?_
  refine n_seq ?_
  refine e_seq ?_
  refine e_reg ?_
  refine l_y (v := .slice (some ⟨g7, 0, none⟩) (i + (n + 1 - i)) cap9) S (y_mv rfl) ?_
  refine l_y (v := ni (i : Int)) S (y_mv rfl) ?_
  obtain ⟨o11, ho12, Y13⟩ := y_slb (g := g7) (o := 0) (n := i + (n + 1 - i)) (c := cap9) (lo := i) (hi := i + (n + 1 - i)) U25 SZ106 (by omega) (by omega)
  refine l_y (v := .slice (some ⟨g7, o11, none⟩) ((i + (n + 1 - i)) - i) (cap9 - i)) S (Y13 rfl (.inr ⟨_, _, _, rfl, rfl, (by first | rfl | omega)⟩) (.inl ⟨rfl, rfl⟩)) ?_
  refine l_y (v := .slice (some ⟨gv, 0, none⟩) 1 1) S (y_mv rfl) ?_
  obtain ⟨news15, news15e⟩ : ∃ z, z = csv.toList := ⟨_, rfl⟩
  have h45 := ho12 (by omega); have l45 : news15.length = 3 := by subst news15e; simp [hcv]
  refine l_cp (m := 1) (news := news15) (i := 2) (i' := 1) S U25 SZ106 rfl rfl rfl rfl (by simp only [Nat.min_def]; split <;> omega) (by omega) (fun j u hu => by subst news15e; simpa using hu) (by subst news15e; exact fun u hu => List.all_eq_true.1 h1v u hu) (by omega) fun w14 S => ?_
  refine l_nil ?_
  refine n_seq ?_
  refine e_seq ?_
  refine e_a (fun w => St [g, gv] W rd rd [(g, 106, cur), (gv, 106, csv)] [] w) MX rfl ?_
  have S := S.drew; have sup16 := S.sup
  have SC := ((S.tk 3 0 rfl rfl).del 2)
  refine a_tk (v := .slice (some ⟨g7, 0, none⟩) (i + (n + 1 - i)) cap9) 0 rfl rfl SC rfl (y_mv rfl) ?_
  refine a_tk (v := ni (i : Int)) 1 rfl rfl SC rfl (y_mv rfl) ?_
  refine a_tk (v := ni 1) 2 rfl rfl SC rfl (y_mv rfl) ?_
  refine a_tk (v := ni ((i : Int) + 1)) 3 rfl rfl SC rfl (y_add (r := (i : Int) + 1) rfl rfl (w64 (by omega) (by omega))) ?_
  obtain ⟨o17, ho18, Y19⟩ := y_slb (g := g7) (o := 0) (n := i + (n + 1 - i)) (c := cap9) (lo := (i + 1)) (hi := i + (n + 1 - i)) U25 SZ106 (by omega) (by omega)
  refine a_tk (v := .slice (some ⟨g7, o17, none⟩) ((i + (n + 1 - i)) - (i + 1)) (cap9 - (i + 1))) 4 rfl rfl SC rfl (Y19 rfl (.inr ⟨_, _, _, rfl, rfl, (by first | rfl | omega)⟩) (.inl ⟨rfl, rfl⟩)) ?_
  refine a_tk (v := .slice (some ⟨g, 0, none⟩) n cap) 5 rfl rfl SC rfl (y_mv rfl) ?_
  refine a_tk (v := ni (i : Int)) 6 rfl rfl SC rfl (y_mv rfl) ?_
  obtain ⟨o20, ho21, Y22⟩ := y_slb (g := g) (o := 0) (n := n) (c := cap) (lo := i) (hi := n) U25 SZ106 (by omega) (by omega)
  refine a_tk (v := .slice (some ⟨g, o20, none⟩) (n - i) (cap - i)) 7 rfl rfl SC rfl (Y22 rfl (.inr ⟨_, _, _, rfl, rfl, (by first | rfl | omega)⟩) (.inl ⟨rfl, rfl⟩)) ?_
  refine a_all (rs := [8]) (by kernel_rfl) rfl ?_
  refine aa_cons rfl ?_ ?_
  ·
   obtain ⟨news24, news24e⟩ : ∃ z, z = (cur.toList.drop (i * 3)).take ((n - i) * 3) := ⟨_, rfl⟩
   have h54 := ho18 (by omega); have l54 : news24.length = (n - i) * 3 := (by subst news24e; simp [hcs]; omega)
   have s54 := over_size (cs := cz8) (j := o11) (vs := news15) (by omega)
   refine l_cp (m := (n - i)) (news := news24) (i := 2) (i' := 0) S U25 SZ106 rfl rfl rfl rfl (by simp only [Nat.min_def]; split <;> omega) l54 (fun j u hu => by subst news24e; rw [ho21 (by omega), Nat.zero_add]; exact ins_src hu) (by subst news24e; exact ins_one h1c (by omega)) (by omega) fun w23 S => ?_
   refine l_nil ?_
   have SC := ((S.tk 3 0 rfl rfl).del 2)
   refine n_lp (ak SC ?_)
   refine a_done (by kernel_rfl) ?_
   clear SC
   refine n_seq ?_
   refine e_seq ?_
   refine e_reg ?_
   refine l_y (v := .slice (some ⟨g7, 0, none⟩) (i + (n + 1 - i)) cap9) S (y_mv rfl) ?_
   refine l_y (v := .slice (some ⟨g7, 0, none⟩) (i + (n + 1 - i)) cap9) S (y_as rfl) ?_
   refine l_nil ?_
   refine n_seq ?_
   refine e_ret ?_
   refine ret1 (v := .slice (some ⟨g7, 0, none⟩) (i + (n + 1 - i)) cap9) rfl rfl ?_
   have s55 := over_size (cs := over cz8 o11 news15) (j := o17) (vs := news24) (by omega)
   have lod : olds6.length = i * 3 := by subst olds6e; simp [hcs]; omega
   have S := S.boxOwn2 (i := 2) rfl 3 (i + (n + 1 - i)) cap9 (olds6 ++ news15 ++ news24) (by omega) ecap9 (ins_up (a := i * 3) tcz8 lod (by omega) (by omega) (by omega) (by omega)) mcap9
   exact ins_fin S (by omega) (by subst olds6e news15e news24e; rfl) (List.Mem.tail _ (List.Mem.head _))
  exact aa_nil
 refine l_y (v := .bool false) S (y_gtF rfl rfl hc) ?_
 refine l_nil ?_
 refine n_seq ?_
 refine e_cF rfl ?_
 refine e_skip ?_
 refine n_seq ?_
 refine e_seq ?_
 refine e_reg ?_
 refine l_y (v := .slice (some ⟨g, 0, none⟩) n cap) S (y_mv rfl) ?_
 refine l_y (v := ni (n : Int)) S (y_mv rfl) ?_
 refine l_y (v := ni 1) S (y_mv rfl) ?_
 refine l_y (v := ni ((n : Int) + 1)) S (y_add (r := (n : Int) + 1) rfl rfl (w64 (by omega) (by omega))) ?_
 refine l_y (v := .slice (some ⟨g, 0, none⟩) (n + 1) cap) S (y_slb0 (hi := (n + 1)) U25 SZ106 (by omega) rfl (.inr ⟨_, _, _, rfl, rfl, (by first | rfl | omega)⟩)) ?_
 refine l_y (v := .slice (some ⟨g, 0, none⟩) (n + 1) cap) S (y_as rfl) ?_
 refine l_nil ?_
 refine n_seq ?_
 refine e_seq ?_
 refine e_seq ?_
 refine e_reg ?_
 refine l_y (v := .slice (some ⟨gv, 0, none⟩) 1 1) S (y_mv rfl) ?_
 refine l_y (v := .slice (some ⟨g, 0, none⟩) (n + 1) cap) S (y_mv rfl) ?_
 refine l_y (v := ni (i : Int)) S (y_mv rfl) ?_
 refine l_y (v := ni 1) S (y_mv rfl) ?_
 refine l_y (v := ni ((i : Int) + 1)) S (y_add (r := (i : Int) + 1) rfl rfl (w64 (by omega) (by omega))) ?_
 obtain ⟨o25, ho26, Y27⟩ := y_slb (g := g) (o := 0) (n := (n + 1)) (c := cap) (lo := (i + 1)) (hi := (n + 1)) U25 SZ106 (by omega) (by omega)
 refine l_y (v := .slice (some ⟨g, o25, none⟩) ((n + 1) - (i + 1)) (cap - (i + 1))) S (Y27 rfl (.inr ⟨_, _, _, rfl, rfl, (by first | rfl | omega)⟩) (.inl ⟨rfl, rfl⟩)) ?_
 refine l_t (v := .bool false) (.inl (y_ovl (i := 0) (i' := 1) (t := 25) (tR := 4) S Tryz.func152 (by kernel_rfl) (by kernel_rfl) (by kernel_rfl) (by kernel_rfl) U25 SZ106 rfl rfl rfl rfl rfl (fun e => hne e.symm) (by omega))) ?_
 refine l_y (v := .bool true) S (y_not rfl rfl) ?_
 refine l_nil ?_
 refine n_seq ?_
 refine e_cT rfl ?_
 refine e_seq ?_
 refine e_a (fun w => St [g, gv] W rd rd [(gv, 106, csv)] [] w) MX rfl ?_
 have S := S.drew; have sup28 := S.sup
 have SC := ((S.tk 2 0 rfl rfl).del 0)
 refine a_tk (v := .slice (some ⟨g, 0, none⟩) (n + 1) cap) 0 rfl rfl SC rfl (y_mv rfl) ?_
 refine a_tk (v := ni (i : Int)) 1 rfl rfl SC rfl (y_mv rfl) ?_
 refine a_tk (v := ni 1) 2 rfl rfl SC rfl (y_mv rfl) ?_
 refine a_tk (v := ni ((i : Int) + 1)) 3 rfl rfl SC rfl (y_add (r := (i : Int) + 1) rfl rfl (w64 (by omega) (by omega))) ?_
 obtain ⟨o29, ho30, Y31⟩ := y_slb (g := g) (o := 0) (n := (n + 1)) (c := cap) (lo := (i + 1)) (hi := (n + 1)) U25 SZ106 (by omega) (by omega)
 refine a_tk (v := .slice (some ⟨g, o29, none⟩) ((n + 1) - (i + 1)) (cap - (i + 1))) 4 rfl rfl SC rfl (Y31 rfl (.inr ⟨_, _, _, rfl, rfl, (by first | rfl | omega)⟩) (.inl ⟨rfl, rfl⟩)) ?_
 refine a_tk (v := .slice (some ⟨g, 0, none⟩) (n + 1) cap) 5 rfl rfl SC rfl (y_mv rfl) ?_
 refine a_tk (v := ni (i : Int)) 6 rfl rfl SC rfl (y_mv rfl) ?_
 obtain ⟨o32, ho33, Y34⟩ := y_slb (g := g) (o := 0) (n := (n + 1)) (c := cap) (lo := i) (hi := (n + 1)) U25 SZ106 (by omega) (by omega)
 refine a_tk (v := .slice (some ⟨g, o32, none⟩) ((n + 1) - i) (cap - i)) 7 rfl rfl SC rfl (Y34 rfl (.inr ⟨_, _, _, rfl, rfl, (by first | rfl | omega)⟩) (.inl ⟨rfl, rfl⟩)) ?_
 refine a_all (rs := [8]) (by kernel_rfl) rfl ?_
 refine aa_cons rfl ?_ ?_
 ·
  obtain ⟨news36, news36e⟩ : ∃ z, z = (cur.toList.drop (i * 3)).take ((n - i) * 3) := ⟨_, rfl⟩
  have h77 := ho30 (by omega); have l77 : news36.length = (n - i) * 3 := (by subst news36e; simp [hcs]; omega)
  refine l_cp (m := (n - i)) (news := news36) (i := 0) (i' := 0) S U25 SZ106 rfl rfl rfl rfl (by simp only [Nat.min_def]; split <;> omega) l77 (fun j u hu => by subst news36e; rw [ho33 (by omega), Nat.zero_add]; exact ins_src hu) (by subst news36e; exact ins_one h1c (by omega)) (by omega) fun w35 S => ?_
  refine l_nil ?_
  have SC := ((S.tk 2 0 rfl rfl).del 0)
  refine n_lp (ak SC ?_)
  refine a_done (by kernel_rfl) ?_
  clear SC
  refine n_seq ?_
  refine e_seq ?_
  refine e_reg ?_
  refine l_y (v := .slice (some ⟨g, 0, none⟩) (n + 1) cap) S (y_mv rfl) ?_
  refine l_y (v := ni (i : Int)) S (y_mv rfl) ?_
  obtain ⟨o37, ho38, Y39⟩ := y_slb (g := g) (o := 0) (n := (n + 1)) (c := cap) (lo := i) (hi := (n + 1)) U25 SZ106 (by omega) (by omega)
  refine l_y (v := .slice (some ⟨g, o37, none⟩) ((n + 1) - i) (cap - i)) S (Y39 rfl (.inr ⟨_, _, _, rfl, rfl, (by first | rfl | omega)⟩) (.inl ⟨rfl, rfl⟩)) ?_
  refine l_y (v := .slice (some ⟨gv, 0, none⟩) 1 1) S (y_mv rfl) ?_
  obtain ⟨news41, news41e⟩ : ∃ z, z = csv.toList := ⟨_, rfl⟩
  have h82 := ho38 (by omega); have l82 : news41.length = 3 := by subst news41e; simp [hcv]
  have s77 := over_size (cs := cur) (j := o29) (vs := news36) (by omega)
  refine l_cp (m := 1) (news := news41) (i := 0) (i' := 1) S U25 SZ106 rfl rfl rfl rfl (by simp only [Nat.min_def]; split <;> omega) (by omega) (fun j u hu => by subst news41e; simpa using hu) (by subst news41e; exact fun u hu => List.all_eq_true.1 h1v u hu) (by omega) fun w40 S => ?_
  refine l_nil ?_
  refine n_seq ?_
  refine e_seq ?_
  refine e_reg ?_
  refine l_y (v := .slice (some ⟨g, 0, none⟩) (n + 1) cap) S (y_mv rfl) ?_
  refine l_y (v := .slice (some ⟨g, 0, none⟩) (n + 1) cap) S (y_as rfl) ?_
  refine l_nil ?_
  refine n_seq ?_
  refine e_ret ?_
  refine ret1 (v := .slice (some ⟨g, 0, none⟩) (n + 1) cap) rfl rfl ?_
  have s82 := over_size (cs := over cur o29 news36) (j := o37) (vs := news41) (by omega)
  have S := S.boxOwn2 (i := 0) rfl 3 (n + 1) cap (cur.toList.take (i * 3) ++ news41 ++ news36) (by omega) (by omega) (ins_dn (a := i * 3) (by omega) (by omega) (by omega) (by omega)) hm
  exact ins_fin S rfl (by subst news41e news36e; rfl) (List.mem_singleton.2 rfl)
 exact aa_nil

set_option maxRecDepth 100000 in
theorem InsT_n (W : World) (gv : Nat) (csv : Array Value) (hgv : W.heap[gv]? = some (.cells csv 106 (0, 0))) (hcv : csv.size = 3) (h1v : csv.toList.all Value.oneCell' = true) :
    Calls Tryz.prog 132 #[(.slice none 0 0), (.int .i64 0), (.slice (some ⟨gv, 0, none⟩) 1 1)] W (fun e w' => ∃ v', e = .returned v' ∧ w'.ownsRow 0 106 3 v' (0 + 1) ([] ++ csv.toList) ∧ (∀ g', v'.ownBlock = some g' → False ∨ W.heap.size ≤ g') ∧ Frm [gv] W w') := by
 have hmx : maxLen = 9223372036854775807 := rfl
 obtain ⟨rd, hle, hrd⟩ : ∃ rd : Rd, Rd.le rd (wrd W) ∧ ∀ g o, rd g o = none := ⟨fun _ _ => none, fun _ _ _ h => by (cases h), fun _ _ => rfl⟩
 have S : St [gv] W rd rd [(gv, 106, csv)] [] W := St.startX hle (by intro p hp; simp only [List.mem_cons, List.not_mem_nil, or_false] at hp; rcases hp with rfl <;> first | exact ⟨by simp, hgv, hrd gv⟩) (by simp)
 refine e_enter (args := [.slice none 0 0, ni 0, .slice (some ⟨gv, 0, none⟩) 1 1]) 95 Tryz.func132 rfl rfl rfl ?_
 refine e_seq ?_
 refine e_reg ?_
 refine l_y (v := .slice none 0 0) S (y_as rfl) ?_
 refine l_nil ?_
 refine n_seq ?_
 refine e_seq ?_
 refine e_reg ?_
 refine l_y (v := .slice none 0 0) S (y_mv rfl) ?_
 refine l_y (v := ni 0) S (y_mv rfl) ?_
 refine l_y (v := .slice none 0 0) S (y_sln U25 SZ106 rfl (.inr ⟨_, _, rfl, rfl⟩) (.inl rfl)) ?_
 refine l_nil ?_
 refine n_seq ?_
 refine e_seq ?_
 refine e_reg ?_
 refine l_y (v := .slice (some ⟨gv, 0, none⟩) 1 1) S (y_mv rfl) ?_
 refine l_y (v := ni 1) S (y_len U25 rfl rfl) ?_
 refine l_y (v := ni 1) S (y_as rfl) ?_
 refine l_nil ?_
 refine n_seq ?_
 refine e_seq ?_
 refine e_seq ?_
 refine e_reg ?_
 refine l_y (v := ni 1) S (y_mv rfl) ?_
 refine l_y (v := .bool false) S (y_eqF rfl rfl (by decide)) ?_
 refine l_nil ?_
 refine n_seq ?_
 refine e_cF rfl ?_
 refine e_skip ?_
 refine n_seq ?_
 refine e_seq ?_
 refine e_reg ?_
 refine l_y (v := .slice none 0 0) S (y_mv rfl) ?_
 refine l_y (v := ni 0) S (y_len U25 rfl rfl) ?_
 refine l_y (v := ni 0) S (y_as rfl) ?_
 refine l_nil ?_
 refine n_seq ?_
 refine e_seq ?_
 refine e_seq ?_
 refine e_reg ?_
 refine l_y (v := ni 0) S (y_mv rfl) ?_
 refine l_y (v := ni 0) S (y_mv rfl) ?_
 refine l_y (v := .bool true) S (y_eqT rfl rfl (by decide)) ?_
 refine l_nil ?_
 refine n_seq ?_
 refine e_cT rfl ?_
 refine e_seq ?_
 refine e_reg ?_
 refine l_y (v := .slice none 0 0) S (y_mv rfl) ?_
 refine l_y (v := .slice (some ⟨gv, 0, none⟩) 1 1) S (y_mv rfl) ?_
 have S := S.ownNil 106 3
 refine l_ap (e' := 0) (i := 0) (i' := 0) S K25 rfl rfl rfl rfl rfl (hcv.trans rfl) h1v (by simp only [maxLen]; omega) (by dsimp only; omega) fun v1 w2 S => ?_
 refine l_y (v := v1) S (y_as rfl) ?_
 refine l_nil ?_
 refine n_seq ?_
 refine e_ret ?_
 refine ret1 (v := v1) rfl rfl ?_
 exact ins_fin0 S rfl rfl (List.mem_singleton.2 rfl)

theorem InsT_c (W : World) (v : Value) (n i gv : Nat) (xs : List Value) (csv : Array Value) (hv : W.ownsRow 0 106 3 v n xs) (hgv : W.heap[gv]? = some (.cells csv 106 (0, 0))) (hne : v.ownBlock ≠ some gv) (hcv : csv.size = 3) (h1x : ∀ u ∈ xs, u.oneCell' = true) (h1v : csv.toList.all Value.oneCell' = true) (hi : i ≤ n) (hlen : n + 1 ≤ maxLen) (hby : (n + 1) * 24 ≤ 140737488355328) :
    Calls Tryz.prog 132 #[v, (.int .i64 (i : Int)), (.slice (some ⟨gv, 0, none⟩) 1 1)] W fun e w' => ∃ v', e = .returned v' ∧ w'.ownsRow 0 106 3 v' (n + 1) (xs.take (i * 3) ++ csv.toList ++ xs.drop (i * 3)) ∧ (∀ g', v'.ownBlock = some g' → v.ownBlock = some g' ∨ W.heap.size ≤ g') ∧ Frm (gv :: v.ownBlock.toList) W w' := by
  rcases hv.2 with ⟨rfl, rfl⟩ | ⟨g, cap, cur, rfl, _, hg, hc, hm, hs, rfl⟩
  · have hx : xs = [] := List.eq_nil_of_length_eq_zero (by simpa using hv.1)
    subst hx
    obtain rfl : i = 0 := by omega
    exact (InsT_n W gv csv hgv hcv h1v).mono fun e w' ⟨v', h1, h2, h3, h4⟩ => ⟨v', h1, by simpa using h2, fun g' k => (h3 g' k).elim (fun h => h.elim) .inr, h4⟩
  · refine (InsT_b W g gv n cap i cur csv hg hgv (fun e => hne (by rw [e]; rfl)) hs hcv h1x h1v hc hm hi hlen hby).mono fun e w' ⟨v', h1, h2, h3, h4⟩ => ⟨v', h1, ?_, fun g' k => (h3 g' k).imp (fun h => by rw [h]; rfl) id, ⟨h4.os, h4.tape, h4.output, h4.size, fun b hb hX => h4.block b hb (fun h => hX ?_)⟩⟩
    · have e1 : (cur.toList.take (n * 3)).take (i * 3) = cur.toList.take (i * 3) := by rw [List.take_take, Nat.min_eq_left (by omega)]
      have e2 : (cur.toList.take (n * 3)).drop (i * 3) = (cur.toList.drop (i * 3)).take ((n - i) * 3) := by rw [List.drop_take]; congr 1; omega
      rw [e1, e2]; exact h2
    · show b ∈ [gv, g]
      simp only [List.mem_cons, List.not_mem_nil, or_false] at h ⊢; exact h.symm

set_option maxRecDepth 100000 in
theorem InsL_b (W : World) (g gv n cap i : Nat) (cur csv : Array Value) (hg : W.heap[g]? = some (.cells cur 104 (0, 0))) (hgv : W.heap[gv]? = some (.cells csv 104 (0, 0))) (hne : g ≠ gv) (hcs : cur.size = cap * 5) (hcv : csv.size = 5) (h1c : ∀ u ∈ cur.toList.take (n * 5), u.oneCell' = true) (h1v : csv.toList.all Value.oneCell' = true) (hcap : n ≤ cap) (hm : cap ≤ maxLen) (hi : i ≤ n) (hlen : n + 1 ≤ maxLen) (hby : (n + 1) * 40 ≤ 140737488355328) :
    Calls Tryz.prog 120 #[(.slice (some ⟨g, 0, none⟩) n cap), (.int .i64 (i : Int)), (.slice (some ⟨gv, 0, none⟩) 1 1)] W (fun e w' => ∃ v', e = .returned v' ∧ w'.ownsRow 0 104 5 v' (n + 1) (cur.toList.take (i * 5) ++ csv.toList ++ (cur.toList.drop (i * 5)).take ((n - i) * 5)) ∧ (∀ g', v'.ownBlock = some g' → g' = g ∨ W.heap.size ≤ g') ∧ Frm [g, gv] W w') := by
 have hmx : maxLen = 9223372036854775807 := rfl
 obtain ⟨rd, hle, hrd⟩ : ∃ rd : Rd, Rd.le rd (wrd W) ∧ ∀ g o, rd g o = none := ⟨fun _ _ => none, fun _ _ _ h => by (cases h), fun _ _ => rfl⟩
 have S : St [g, gv] W rd rd [(g, 104, cur), (gv, 104, csv)] [] W := St.startX hle (by intro p hp; simp only [List.mem_cons, List.not_mem_nil, or_false] at hp; rcases hp with rfl | rfl <;> first | exact ⟨by simp, hg, hrd g⟩ | exact ⟨by simp, hgv, hrd gv⟩) (by simp [hne])
 refine e_enter (args := [.slice (some ⟨g, 0, none⟩) n cap, ni (i : Int), .slice (some ⟨gv, 0, none⟩) 1 1]) 95 Tryz.func120 rfl rfl rfl ?_
 refine e_seq ?_
 refine e_reg ?_
 refine l_y (v := .slice none 0 0) S (y_as rfl) ?_
 refine l_nil ?_
 refine n_seq ?_
 refine e_seq ?_
 refine e_reg ?_
 refine l_y (v := .slice (some ⟨g, 0, none⟩) n cap) S (y_mv rfl) ?_
 refine l_y (v := ni (i : Int)) S (y_mv rfl) ?_
 obtain ⟨o1, ho2, Y3⟩ := y_slb (g := g) (o := 0) (n := n) (c := cap) (lo := i) (hi := n) U24 SZ104 (by omega) (by omega)
 refine l_y (v := .slice (some ⟨g, o1, none⟩) (n - i) (cap - i)) S (Y3 rfl (.inr ⟨_, _, _, rfl, rfl, (by first | rfl | omega)⟩) (.inl ⟨rfl, rfl⟩)) ?_
 refine l_nil ?_
 refine n_seq ?_
 refine e_seq ?_
 refine e_reg ?_
 refine l_y (v := .slice (some ⟨gv, 0, none⟩) 1 1) S (y_mv rfl) ?_
 refine l_y (v := ni 1) S (y_len U24 rfl rfl) ?_
 refine l_y (v := ni 1) S (y_as rfl) ?_
 refine l_nil ?_
 refine n_seq ?_
 refine e_seq ?_
 refine e_seq ?_
 refine e_reg ?_
 refine l_y (v := ni 1) S (y_mv rfl) ?_
 refine l_y (v := .bool false) S (y_eqF rfl rfl (by decide)) ?_
 refine l_nil ?_
 refine n_seq ?_
 refine e_cF rfl ?_
 refine e_skip ?_
 refine n_seq ?_
 refine e_seq ?_
 refine e_reg ?_
 refine l_y (v := .slice (some ⟨g, 0, none⟩) n cap) S (y_mv rfl) ?_
 refine l_y (v := ni (n : Int)) S (y_len U24 rfl rfl) ?_
 refine l_y (v := ni (n : Int)) S (y_as rfl) ?_
 refine l_nil ?_
 refine n_seq ?_
 refine e_seq ?_
 refine e_seq ?_
 refine e_reg ?_
 refine l_y (v := ni (i : Int)) S (y_mv rfl) ?_
 refine l_y (v := ni (n : Int)) S (y_mv rfl) ?_
 by_cases hin : (i : Int) = (n : Int)
 ·
  refine l_y (v := .bool true) S (y_eqT rfl rfl hin) ?_
  refine l_nil ?_
  refine n_seq ?_
  refine e_cT rfl ?_
  refine e_seq ?_
  refine e_reg ?_
  refine l_y (v := .slice (some ⟨g, 0, none⟩) n cap) S (y_mv rfl) ?_
  refine l_y (v := .slice (some ⟨gv, 0, none⟩) 1 1) S (y_mv rfl) ?_
  have S := S.boxOwn2 (i := 0) rfl 5 n cap (cur.toList.take (n * 5)) hcs hcap rfl hm
  refine l_ap (e' := 0) (i := 0) (i' := 0) S K24 rfl rfl rfl rfl rfl (hcv.trans rfl) h1v hlen hby fun v4 w5 S => ?_
  refine l_y (v := v4) S (y_as rfl) ?_
  refine l_nil ?_
  refine n_seq ?_
  refine e_ret ?_
  refine ret1 (v := v4) rfl rfl ?_
  exact ins_fin S rfl (ins_end (by omega)) (List.mem_singleton.2 rfl)
 refine l_y (v := .bool false) S (y_eqF rfl rfl hin) ?_
 refine l_nil ?_
 refine n_seq ?_
 refine e_cF rfl ?_
 refine e_skip ?_
 refine n_seq ?_
 refine e_seq ?_
 refine e_seq ?_
 refine e_reg ?_
 refine l_y (v := ni (n : Int)) S (y_mv rfl) ?_
 refine l_y (v := ni 1) S (y_mv rfl) ?_
 refine l_y (v := ni ((n : Int) + 1)) S (y_add (r := (n : Int) + 1) rfl rfl (w64 (by omega) (by omega))) ?_
 refine l_y (v := .slice (some ⟨g, 0, none⟩) n cap) S (y_mv rfl) ?_
 refine l_y (v := ni (cap : Int)) S (y_cap U24 rfl rfl) ?_
 by_cases hc : (cap : Int) < (n : Int) + 1
 ·
  refine l_y (v := .bool true) S (y_gtT rfl rfl hc) ?_
  refine l_nil ?_
  refine n_seq ?_
  refine e_cT rfl ?_
  refine e_seq ?_
  refine e_reg ?_
  refine l_y (v := .slice (some ⟨g, 0, none⟩) n cap) S (y_mv rfl) ?_
  refine l_y (v := ni (i : Int)) S (y_mv rfl) ?_
  refine l_y (v := .slice (some ⟨g, 0, none⟩) i cap) S (y_slb0 (hi := i) U24 SZ104 (by omega) rfl (.inr ⟨_, _, _, rfl, rfl, (by first | rfl | omega)⟩)) ?_
  refine l_y (v := ni (n : Int)) S (y_mv rfl) ?_
  refine l_y (v := ni 1) S (y_mv rfl) ?_
  refine l_y (v := ni ((n : Int) + 1)) S (y_add (r := (n : Int) + 1) rfl rfl (w64 (by omega) (by omega))) ?_
  refine l_y (v := ni (i : Int)) S (y_mv rfl) ?_
  refine l_y (v := ni (((n : Int) + 1) - (i : Int))) S (y_sub (r := ((n : Int) + 1) - (i : Int)) rfl rfl (w64 (by omega) (by omega))) ?_
  obtain ⟨olds6, olds6e⟩ : ∃ z, z = cur.toList.take (i * 5) := ⟨_, rfl⟩
  refine l_apz (m := (n + 1 - i)) (olds := olds6) (i := 0) S K24 U3 rfl rfl (by omega) rfl (by subst olds6e; simp [hcs]; omega) (fun j u hu => by subst olds6e; exact ins_hold hu) (by omega) (by omega) (by omega) (by rw [show i + (n + 1 - i) = n + 1 by omega]; exact hby) fun g7 cz8 cap9 w10 hcz8 tcz8 ecap9 mcap9 S bg7 => ?_
  refine l_y (v := .slice (some ⟨g7, 0, none⟩) (i + (n + 1 - i)) cap9) S (y_as rfl) ?_
  refine l_nil ?_
  refine n_seq ?_
  refine e_seq ?_
  refine e_reg ?_
  refine l_y (v := .slice (some ⟨g7, 0, none⟩) (i + (n + 1 - i)) cap9) S (y_mv rfl) ?_
  refine l_y (v := ni (i : Int)) S (y_mv rfl) ?_
  obtain ⟨o11, ho12, Y13⟩ := y_slb (g := g7) (o := 0) (n := i + (n + 1 - i)) (c := cap9) (lo := i) (hi := i + (n + 1 - i)) U24 SZ104 (by omega) (by omega)
  refine l_y (v := .slice (some ⟨g7, o11, none⟩) ((i + (n + 1 - i)) - i) (cap9 - i)) S (Y13 rfl (.inr ⟨_, _, _, rfl, rfl, (by first | rfl | omega)⟩) (.inl ⟨rfl, rfl⟩)) ?_
  refine l_y (v := .slice (some ⟨gv, 0, none⟩) 1 1) S (y_mv rfl) ?_
  obtain ⟨news15, news15e⟩ : ∃ z, z = csv.toList := ⟨_, rfl⟩
  have h45 := ho12 (by omega); have l45 : news15.length = 5 := by subst news15e; simp [hcv]
  refine l_cp (m := 1) (news := news15) (i := 2) (i' := 1) S U24 SZ104 rfl rfl rfl rfl (by simp only [Nat.min_def]; split <;> omega) (by omega) (fun j u hu => by subst news15e; simpa using hu) (by subst news15e; exact fun u hu => List.all_eq_true.1 h1v u hu) (by omega) fun w14 S => ?_
  refine l_nil ?_
  refine n_seq ?_
  refine e_seq ?_
  refine e_a (fun w => St [g, gv] W rd rd [(g, 104, cur), (gv, 104, csv)] [] w) MX rfl ?_
  have S := S.drew; have sup16 := S.sup
  have SC := ((S.tk 3 0 rfl rfl).del 2)
  refine a_tk (v := .slice (some ⟨g7, 0, none⟩) (i + (n + 1 - i)) cap9) 0 rfl rfl SC rfl (y_mv rfl) ?_
  refine a_tk (v := ni (i : Int)) 1 rfl rfl SC rfl (y_mv rfl) ?_
  refine a_tk (v := ni 1) 2 rfl rfl SC rfl (y_mv rfl) ?_
  refine a_tk (v := ni ((i : Int) + 1)) 3 rfl rfl SC rfl (y_add (r := (i : Int) + 1) rfl rfl (w64 (by omega) (by omega))) ?_
  obtain ⟨o17, ho18, Y19⟩ := y_slb (g := g7) (o := 0) (n := i + (n + 1 - i)) (c := cap9) (lo := (i + 1)) (hi := i + (n + 1 - i)) U24 SZ104 (by omega) (by omega)
  refine a_tk (v := .slice (some ⟨g7, o17, none⟩) ((i + (n + 1 - i)) - (i + 1)) (cap9 - (i + 1))) 4 rfl rfl SC rfl (Y19 rfl (.inr ⟨_, _, _, rfl, rfl, (by first | rfl | omega)⟩) (.inl ⟨rfl, rfl⟩)) ?_
  refine a_tk (v := .slice (some ⟨g, 0, none⟩) n cap) 5 rfl rfl SC rfl (y_mv rfl) ?_
  refine a_tk (v := ni (i : Int)) 6 rfl rfl SC rfl (y_mv rfl) ?_
  obtain ⟨o20, ho21, Y22⟩ := y_slb (g := g) (o := 0) (n := n) (c := cap) (lo := i) (hi := n) U24 SZ104 (by omega) (by omega)
  refine a_tk (v := .slice (some ⟨g, o20, none⟩) (n - i) (cap - i)) 7 rfl rfl SC rfl (Y22 rfl (.inr ⟨_, _, _, rfl, rfl, (by first | rfl | omega)⟩) (.inl ⟨rfl, rfl⟩)) ?_
  refine a_all (rs := [8]) (by kernel_rfl) rfl ?_
  refine aa_cons rfl ?_ ?_
  ·
   obtain ⟨news24, news24e⟩ : ∃ z, z = (cur.toList.drop (i * 5)).take ((n - i) * 5) := ⟨_, rfl⟩
   have h54 := ho18 (by omega); have l54 : news24.length = (n - i) * 5 := (by subst news24e; simp [hcs]; omega)
   have s54 := over_size (cs := cz8) (j := o11) (vs := news15) (by omega)
   refine l_cp (m := (n - i)) (news := news24) (i := 2) (i' := 0) S U24 SZ104 rfl rfl rfl rfl (by simp only [Nat.min_def]; split <;> omega) l54 (fun j u hu => by subst news24e; rw [ho21 (by omega), Nat.zero_add]; exact ins_src hu) (by subst news24e; exact ins_one h1c (by omega)) (by omega) fun w23 S => ?_
   refine l_nil ?_
   have SC := ((S.tk 3 0 rfl rfl).del 2)
   refine n_lp (ak SC ?_)
   refine a_done (by kernel_rfl) ?_
   clear SC
   refine n_seq ?_
   refine e_seq ?_
   refine e_reg ?_
   refine l_y (v := .slice (some ⟨g7, 0, none⟩) (i + (n + 1 - i)) cap9) S (y_mv rfl) ?_
   refine l_y (v := .slice (some ⟨g7, 0, none⟩) (i + (n + 1 - i)) cap9) S (y_as rfl) ?_
   refine l_nil ?_
   refine n_seq ?_
   refine e_ret ?_
   refine ret1 (v := .slice (some ⟨g7, 0, none⟩) (i + (n + 1 - i)) cap9) rfl rfl ?_
   have s55 := over_size (cs := over cz8 o11 news15) (j := o17) (vs := news24) (by omega)
   have lod : olds6.length = i * 5 := by subst olds6e; simp [hcs]; omega
   have S := S.boxOwn2 (i := 2) rfl 5 (i + (n + 1 - i)) cap9 (olds6 ++ news15 ++ news24) (by omega) ecap9 (ins_up (a := i * 5) tcz8 lod (by omega) (by omega) (by omega) (by omega)) mcap9
   exact ins_fin S (by omega) (by subst olds6e news15e news24e; rfl) (List.Mem.tail _ (List.Mem.head _))
  exact aa_nil
 refine l_y (v := .bool false) S (y_gtF rfl rfl hc) ?_
 refine l_nil ?_
 refine n_seq ?_
 refine e_cF rfl ?_
 refine e_skip ?_
 refine n_seq ?_
 refine e_seq ?_
 refine e_reg ?_
 refine l_y (v := .slice (some ⟨g, 0, none⟩) n cap) S (y_mv rfl) ?_
 refine l_y (v := ni (n : Int)) S (y_mv rfl) ?_
 refine l_y (v := ni 1) S (y_mv rfl) ?_
 refine l_y (v := ni ((n : Int) + 1)) S (y_add (r := (n : Int) + 1) rfl rfl (w64 (by omega) (by omega))) ?_
 refine l_y (v := .slice (some ⟨g, 0, none⟩) (n + 1) cap) S (y_slb0 (hi := (n + 1)) U24 SZ104 (by omega) rfl (.inr ⟨_, _, _, rfl, rfl, (by first | rfl | omega)⟩)) ?_
 refine l_y (v := .slice (some ⟨g, 0, none⟩) (n + 1) cap) S (y_as rfl) ?_
 refine l_nil ?_
 refine n_seq ?_
 refine e_seq ?_
 refine e_seq ?_
 refine e_reg ?_
 refine l_y (v := .slice (some ⟨gv, 0, none⟩) 1 1) S (y_mv rfl) ?_
 refine l_y (v := .slice (some ⟨g, 0, none⟩) (n + 1) cap) S (y_mv rfl) ?_
 refine l_y (v := ni (i : Int)) S (y_mv rfl) ?_
 refine l_y (v := ni 1) S (y_mv rfl) ?_
 refine l_y (v := ni ((i : Int) + 1)) S (y_add (r := (i : Int) + 1) rfl rfl (w64 (by omega) (by omega))) ?_
 obtain ⟨o25, ho26, Y27⟩ := y_slb (g := g) (o := 0) (n := (n + 1)) (c := cap) (lo := (i + 1)) (hi := (n + 1)) U24 SZ104 (by omega) (by omega)
 refine l_y (v := .slice (some ⟨g, o25, none⟩) ((n + 1) - (i + 1)) (cap - (i + 1))) S (Y27 rfl (.inr ⟨_, _, _, rfl, rfl, (by first | rfl | omega)⟩) (.inl ⟨rfl, rfl⟩)) ?_
 refine l_t (v := .bool false) (.inl (y_ovl (i := 0) (i' := 1) (t := 24) (tR := 4) S Tryz.func128 (by kernel_rfl) (by kernel_rfl) (by kernel_rfl) (by kernel_rfl) U24 SZ104 rfl rfl rfl rfl rfl (fun e => hne e.symm) (by omega))) ?_
 refine l_y (v := .bool true) S (y_not rfl rfl) ?_
 refine l_nil ?_
 refine n_seq ?_
 refine e_cT rfl ?_
 refine e_seq ?_
 refine e_a (fun w => St [g, gv] W rd rd [(gv, 104, csv)] [] w) MX rfl ?_
 have S := S.drew; have sup28 := S.sup
 have SC := ((S.tk 2 0 rfl rfl).del 0)
 refine a_tk (v := .slice (some ⟨g, 0, none⟩) (n + 1) cap) 0 rfl rfl SC rfl (y_mv rfl) ?_
 refine a_tk (v := ni (i : Int)) 1 rfl rfl SC rfl (y_mv rfl) ?_
 refine a_tk (v := ni 1) 2 rfl rfl SC rfl (y_mv rfl) ?_
 refine a_tk (v := ni ((i : Int) + 1)) 3 rfl rfl SC rfl (y_add (r := (i : Int) + 1) rfl rfl (w64 (by omega) (by omega))) ?_
 obtain ⟨o29, ho30, Y31⟩ := y_slb (g := g) (o := 0) (n := (n + 1)) (c := cap) (lo := (i + 1)) (hi := (n + 1)) U24 SZ104 (by omega) (by omega)
 refine a_tk (v := .slice (some ⟨g, o29, none⟩) ((n + 1) - (i + 1)) (cap - (i + 1))) 4 rfl rfl SC rfl (Y31 rfl (.inr ⟨_, _, _, rfl, rfl, (by first | rfl | omega)⟩) (.inl ⟨rfl, rfl⟩)) ?_
 refine a_tk (v := .slice (some ⟨g, 0, none⟩) (n + 1) cap) 5 rfl rfl SC rfl (y_mv rfl) ?_
 refine a_tk (v := ni (i : Int)) 6 rfl rfl SC rfl (y_mv rfl) ?_
 obtain ⟨o32, ho33, Y34⟩ := y_slb (g := g) (o := 0) (n := (n + 1)) (c := cap) (lo := i) (hi := (n + 1)) U24 SZ104 (by omega) (by omega)
 refine a_tk (v := .slice (some ⟨g, o32, none⟩) ((n + 1) - i) (cap - i)) 7 rfl rfl SC rfl (Y34 rfl (.inr ⟨_, _, _, rfl, rfl, (by first | rfl | omega)⟩) (.inl ⟨rfl, rfl⟩)) ?_
 refine a_all (rs := [8]) (by kernel_rfl) rfl ?_
 refine aa_cons rfl ?_ ?_
 ·
  obtain ⟨news36, news36e⟩ : ∃ z, z = (cur.toList.drop (i * 5)).take ((n - i) * 5) := ⟨_, rfl⟩
  have h77 := ho30 (by omega); have l77 : news36.length = (n - i) * 5 := (by subst news36e; simp [hcs]; omega)
  refine l_cp (m := (n - i)) (news := news36) (i := 0) (i' := 0) S U24 SZ104 rfl rfl rfl rfl (by simp only [Nat.min_def]; split <;> omega) l77 (fun j u hu => by subst news36e; rw [ho33 (by omega), Nat.zero_add]; exact ins_src hu) (by subst news36e; exact ins_one h1c (by omega)) (by omega) fun w35 S => ?_
  refine l_nil ?_
  have SC := ((S.tk 2 0 rfl rfl).del 0)
  refine n_lp (ak SC ?_)
  refine a_done (by kernel_rfl) ?_
  clear SC
  refine n_seq ?_
  refine e_seq ?_
  refine e_reg ?_
  refine l_y (v := .slice (some ⟨g, 0, none⟩) (n + 1) cap) S (y_mv rfl) ?_
  refine l_y (v := ni (i : Int)) S (y_mv rfl) ?_
  obtain ⟨o37, ho38, Y39⟩ := y_slb (g := g) (o := 0) (n := (n + 1)) (c := cap) (lo := i) (hi := (n + 1)) U24 SZ104 (by omega) (by omega)
  refine l_y (v := .slice (some ⟨g, o37, none⟩) ((n + 1) - i) (cap - i)) S (Y39 rfl (.inr ⟨_, _, _, rfl, rfl, (by first | rfl | omega)⟩) (.inl ⟨rfl, rfl⟩)) ?_
  refine l_y (v := .slice (some ⟨gv, 0, none⟩) 1 1) S (y_mv rfl) ?_
  obtain ⟨news41, news41e⟩ : ∃ z, z = csv.toList := ⟨_, rfl⟩
  have h82 := ho38 (by omega); have l82 : news41.length = 5 := by subst news41e; simp [hcv]
  have s77 := over_size (cs := cur) (j := o29) (vs := news36) (by omega)
  refine l_cp (m := 1) (news := news41) (i := 0) (i' := 1) S U24 SZ104 rfl rfl rfl rfl (by simp only [Nat.min_def]; split <;> omega) (by omega) (fun j u hu => by subst news41e; simpa using hu) (by subst news41e; exact fun u hu => List.all_eq_true.1 h1v u hu) (by omega) fun w40 S => ?_
  refine l_nil ?_
  refine n_seq ?_
  refine e_seq ?_
  refine e_reg ?_
  refine l_y (v := .slice (some ⟨g, 0, none⟩) (n + 1) cap) S (y_mv rfl) ?_
  refine l_y (v := .slice (some ⟨g, 0, none⟩) (n + 1) cap) S (y_as rfl) ?_
  refine l_nil ?_
  refine n_seq ?_
  refine e_ret ?_
  refine ret1 (v := .slice (some ⟨g, 0, none⟩) (n + 1) cap) rfl rfl ?_
  have s82 := over_size (cs := over cur o29 news36) (j := o37) (vs := news41) (by omega)
  have S := S.boxOwn2 (i := 0) rfl 5 (n + 1) cap (cur.toList.take (i * 5) ++ news41 ++ news36) (by omega) (by omega) (ins_dn (a := i * 5) (by omega) (by omega) (by omega) (by omega)) hm
  exact ins_fin S rfl (by subst news41e news36e; rfl) (List.mem_singleton.2 rfl)
 exact aa_nil

set_option maxRecDepth 100000 in
theorem InsL_n (W : World) (gv : Nat) (csv : Array Value) (hgv : W.heap[gv]? = some (.cells csv 104 (0, 0))) (hcv : csv.size = 5) (h1v : csv.toList.all Value.oneCell' = true) :
    Calls Tryz.prog 120 #[(.slice none 0 0), (.int .i64 0), (.slice (some ⟨gv, 0, none⟩) 1 1)] W (fun e w' => ∃ v', e = .returned v' ∧ w'.ownsRow 0 104 5 v' (0 + 1) ([] ++ csv.toList) ∧ (∀ g', v'.ownBlock = some g' → False ∨ W.heap.size ≤ g') ∧ Frm [gv] W w') := by
 have hmx : maxLen = 9223372036854775807 := rfl
 obtain ⟨rd, hle, hrd⟩ : ∃ rd : Rd, Rd.le rd (wrd W) ∧ ∀ g o, rd g o = none := ⟨fun _ _ => none, fun _ _ _ h => by (cases h), fun _ _ => rfl⟩
 have S : St [gv] W rd rd [(gv, 104, csv)] [] W := St.startX hle (by intro p hp; simp only [List.mem_cons, List.not_mem_nil, or_false] at hp; rcases hp with rfl <;> first | exact ⟨by simp, hgv, hrd gv⟩) (by simp)
 refine e_enter (args := [.slice none 0 0, ni 0, .slice (some ⟨gv, 0, none⟩) 1 1]) 95 Tryz.func120 rfl rfl rfl ?_
 refine e_seq ?_
 refine e_reg ?_
 refine l_y (v := .slice none 0 0) S (y_as rfl) ?_
 refine l_nil ?_
 refine n_seq ?_
 refine e_seq ?_
 refine e_reg ?_
 refine l_y (v := .slice none 0 0) S (y_mv rfl) ?_
 refine l_y (v := ni 0) S (y_mv rfl) ?_
 refine l_y (v := .slice none 0 0) S (y_sln U24 SZ104 rfl (.inr ⟨_, _, rfl, rfl⟩) (.inl rfl)) ?_
 refine l_nil ?_
 refine n_seq ?_
 refine e_seq ?_
 refine e_reg ?_
 refine l_y (v := .slice (some ⟨gv, 0, none⟩) 1 1) S (y_mv rfl) ?_
 refine l_y (v := ni 1) S (y_len U24 rfl rfl) ?_
 refine l_y (v := ni 1) S (y_as rfl) ?_
 refine l_nil ?_
 refine n_seq ?_
 refine e_seq ?_
 refine e_seq ?_
 refine e_reg ?_
 refine l_y (v := ni 1) S (y_mv rfl) ?_
 refine l_y (v := .bool false) S (y_eqF rfl rfl (by decide)) ?_
 refine l_nil ?_
 refine n_seq ?_
 refine e_cF rfl ?_
 refine e_skip ?_
 refine n_seq ?_
 refine e_seq ?_
 refine e_reg ?_
 refine l_y (v := .slice none 0 0) S (y_mv rfl) ?_
 refine l_y (v := ni 0) S (y_len U24 rfl rfl) ?_
 refine l_y (v := ni 0) S (y_as rfl) ?_
 refine l_nil ?_
 refine n_seq ?_
 refine e_seq ?_
 refine e_seq ?_
 refine e_reg ?_
 refine l_y (v := ni 0) S (y_mv rfl) ?_
 refine l_y (v := ni 0) S (y_mv rfl) ?_
 refine l_y (v := .bool true) S (y_eqT rfl rfl (by decide)) ?_
 refine l_nil ?_
 refine n_seq ?_
 refine e_cT rfl ?_
 refine e_seq ?_
 refine e_reg ?_
 refine l_y (v := .slice none 0 0) S (y_mv rfl) ?_
 refine l_y (v := .slice (some ⟨gv, 0, none⟩) 1 1) S (y_mv rfl) ?_
 have S := S.ownNil 104 5
 refine l_ap (e' := 0) (i := 0) (i' := 0) S K24 rfl rfl rfl rfl rfl (hcv.trans rfl) h1v (by simp only [maxLen]; omega) (by dsimp only; omega) fun v1 w2 S => ?_
 refine l_y (v := v1) S (y_as rfl) ?_
 refine l_nil ?_
 refine n_seq ?_
 refine e_ret ?_
 refine ret1 (v := v1) rfl rfl ?_
 exact ins_fin0 S rfl rfl (List.mem_singleton.2 rfl)

theorem InsL_c (W : World) (v : Value) (n i gv : Nat) (xs : List Value) (csv : Array Value) (hv : W.ownsRow 0 104 5 v n xs) (hgv : W.heap[gv]? = some (.cells csv 104 (0, 0))) (hne : v.ownBlock ≠ some gv) (hcv : csv.size = 5) (h1x : ∀ u ∈ xs, u.oneCell' = true) (h1v : csv.toList.all Value.oneCell' = true) (hi : i ≤ n) (hlen : n + 1 ≤ maxLen) (hby : (n + 1) * 40 ≤ 140737488355328) :
    Calls Tryz.prog 120 #[v, (.int .i64 (i : Int)), (.slice (some ⟨gv, 0, none⟩) 1 1)] W fun e w' => ∃ v', e = .returned v' ∧ w'.ownsRow 0 104 5 v' (n + 1) (xs.take (i * 5) ++ csv.toList ++ xs.drop (i * 5)) ∧ (∀ g', v'.ownBlock = some g' → v.ownBlock = some g' ∨ W.heap.size ≤ g') ∧ Frm (gv :: v.ownBlock.toList) W w' := by
  rcases hv.2 with ⟨rfl, rfl⟩ | ⟨g, cap, cur, rfl, _, hg, hc, hm, hs, rfl⟩
  · have hx : xs = [] := List.eq_nil_of_length_eq_zero (by simpa using hv.1)
    subst hx
    obtain rfl : i = 0 := by omega
    exact (InsL_n W gv csv hgv hcv h1v).mono fun e w' ⟨v', h1, h2, h3, h4⟩ => ⟨v', h1, by simpa using h2, fun g' k => (h3 g' k).elim (fun h => h.elim) .inr, h4⟩
  · refine (InsL_b W g gv n cap i cur csv hg hgv (fun e => hne (by rw [e]; rfl)) hs hcv h1x h1v hc hm hi hlen hby).mono fun e w' ⟨v', h1, h2, h3, h4⟩ => ⟨v', h1, ?_, fun g' k => (h3 g' k).imp (fun h => by rw [h]; rfl) id, ⟨h4.os, h4.tape, h4.output, h4.size, fun b hb hX => h4.block b hb (fun h => hX ?_)⟩⟩
    · have e1 : (cur.toList.take (n * 5)).take (i * 5) = cur.toList.take (i * 5) := by rw [List.take_take, Nat.min_eq_left (by omega)]
      have e2 : (cur.toList.take (n * 5)).drop (i * 5) = (cur.toList.drop (i * 5)).take ((n - i) * 5) := by rw [List.drop_take]; congr 1; omega
      rw [e1, e2]; exact h2
    · show b ∈ [gv, g]
      simp only [List.mem_cons, List.not_mem_nil, or_false] at h ⊢; exact h.symm
end Go.Proofs.YtkjknlnhffmkkacGreat
