/- Steps that slices.Insert takes on a row known whole: copy, append of noughts, overlaps. And: a call that may write rows of its caller's. Plain theorems over any program; no condition. -/
import Derived.Test.YtkjknlnhffmkkaaEngB
import Derived.Lib.AppendZerosOnto
import Derived.Lib.Overlaps
import Derived.Laws.Externs
namespace Go.Proofs.Ytkjknlnhffmkkaa
open Go.RowKit
set_option linter.unusedVariables false

section
variable {X X' : List Nat} {W w w' : World} {r0 rd : Rd} {bx : List BxE} {ow : List OwE}
/-- behind a call that may write some blocks: what lies elsewhere is as it was -/
theorem St.frm (S : St X W r0 rd bx ow w) (F : Frm X' w w') (hX : ∀ g ∈ X', (W.heap.size ≤ g ∨ g ∈ X) ∧ ∀ o, rd g o = none) (hb : ∀ p ∈ bx, p.1 ∉ X') (ho : ∀ q ∈ ow, ∀ g, q.v.ownBlock = some g → g ∉ X') : St X W r0 rd bx ow w' := by
  have keepB : ∀ g, g < w.heap.size → g ∉ X' → w'.heap[g]? = w.heap[g]? := fun g h1 h2 => F.block g h1 h2
  refine ⟨⟨F.os.trans S.fr.os, F.tape.trans S.fr.tape, F.output.trans S.fr.output, Nat.le_trans S.fr.size F.size, fun b hb' hbX => ?_⟩, S.sub, S.sup, fun b o v e => ?_, fun p hp => ⟨(S.box p hp).1, ?_, (S.box p hp).2.2⟩, fun q hq => ⟨⟨(S.own q hq).1.1, ?_⟩, (S.own q hq).2⟩, S.d1, S.d2, S.d3⟩
  · refine (keepB b (Nat.lt_of_lt_of_le hb' S.base_le) fun h => ?_).trans (S.fr.block b hb' hbX)
    rcases (hX b h).1 with k | k
    · omega
    · exact hbX k
  · have h1 : b ∉ X' := fun h => by have := (hX b h).2 o; rw [e] at this; cases this
    have h2 := S.le _ _ _ e
    exact (World.cell?_of_block (w := w) (a := ⟨b, o, none⟩) (keepB b (blk_lt h2) h1)).trans h2
  · rw [keepB p.1 (S.lt_box hp) (hb p hp)]; exact (S.box p hp).2.1
  · rcases (S.own q hq).1.2 with h | ⟨g, cap, cur, h1, h2, h3, h4⟩
    · exact .inl h
    · have hg : q.v.ownBlock = some g := by rw [h1]; rfl
      exact .inr ⟨g, cap, cur, h1, h2, (keepB g ((S.own q hq).1.lt g hg).2 (ho q hq g hg)).trans h3, h4⟩
/-- a row that stands behind such a call -/
theorem St.ownPut (S : St X W r0 rd bx ow w) {q : OwE} (hq : w.ownsRow 0 q.e q.size q.v q.n q.xs) (h1 : ∀ g, q.v.ownBlock = some g → (W.heap.size ≤ g ∨ g ∈ X) ∧ ∀ o, rd g o = none) (h2 : ∀ p ∈ bx, q.v.ownBlock ≠ some p.1) (h3 : ∀ p ∈ ow, p.v.ownBlock = none ∨ p.v.ownBlock ≠ q.v.ownBlock) : St X W r0 rd bx (ow ++ [q]) w := by
  refine ⟨S.fr, S.sub, S.sup, S.le, S.box, fun p hp => ?_, S.d1, ?_, fun p hp r hr => ?_⟩
  · rcases List.mem_append.1 hp with h | h
    · exact S.own p h
    · obtain rfl := List.mem_singleton.1 h; exact ⟨hq, h1⟩
  · rw [List.pairwise_append]
    refine ⟨S.d2, List.pairwise_singleton _ _, fun p hp r hr => ?_⟩
    obtain rfl := List.mem_singleton.1 hr; exact h3 p hp
  · rcases List.mem_append.1 hr with h | h
    · exact S.d3 p hp r h
    · obtain rfl := List.mem_singleton.1 h; exact h2 p hp
/-- a new block that is known whole -/
theorem St.boxPut (S : St X W r0 rd bx ow w) (k : Below w.heap.size w w') {g : Nat} {T : TypeId} {cs : Array Value} (hg : w.heap.size ≤ g) (hc : w'.heap[g]? = some (.cells cs T (0, 0))) : St X W r0 rd (bx ++ [(g, T, cs)]) ow w' := by
  have S' := S.callq k
  refine ⟨S'.fr, S'.sub, S'.sup, S'.le, fun p hp => ?_, S'.own, ?_, S'.d2, fun p hp q hq => ?_⟩
  · rcases List.mem_append.1 hp with h | h
    · exact S'.box p h
    · obtain rfl := List.mem_singleton.1 h
      exact ⟨.inl (Nat.le_trans S.base_le hg), hc, fun o => S.free hg o⟩
  · rw [List.pairwise_append]
    refine ⟨S.d1, List.pairwise_singleton _ _, fun p hp q hq => ?_⟩
    obtain rfl := List.mem_singleton.1 hq
    have := S.lt_box hp
    dsimp only; omega
  · rcases List.mem_append.1 hp with h | h
    · exact S'.d3 p h q hq
    · obtain rfl := List.mem_singleton.1 h
      intro e
      have := ((S.own q hq).1.lt _ e).2
      dsimp only at this; omega
/-- a row of the call's own, behind a call that wrote it (and wrote over one block more) -/
theorem St.mutB (S : St X W r0 rd bx ow w) {j : Nat} {q q' : OwE} {i gv : Nat} {Tv : TypeId} {csv : Array Value} (hj : ow[j]? = some q) (hi : bx[i]? = some (gv, Tv, csv)) (F : Frm X' w w') (hX : ∀ g ∈ X', q.v.ownBlock = some g ∨ g = gv) (hq : w'.ownsRow 0 q'.e q'.size q'.v q'.n q'.xs)
    (hb : ∀ g, q'.v.ownBlock = some g → q.v.ownBlock = some g ∨ w.heap.size ≤ g) : St X W r0 rd (bx.eraseIdx i) (ow.eraseIdx j ++ [q']) w' := by
  have hm := List.mem_of_getElem? hj
  have hmi := List.mem_of_getElem? hi
  have hB := S.box _ hmi
  have S2 := ((S.del i).delo j).frm F (fun g hg => ?_) (fun p hp hpX => ?_) (fun r hr g hg hgX => ?_)
  · refine S2.ownPut hq (fun g hg => ?_) (fun p hp e => ?_) (fun p hp => ?_)
    · rcases hb g hg with h | h
      · exact (S.own _ hm).2 g h
      · exact ⟨.inl (Nat.le_trans S.base_le h), fun o => S.free h o⟩
    · have hp' := List.mem_of_mem_eraseIdx hp
      rcases hb _ e with h | h
      · exact S.d3 p hp' q hm h
      · have := S.lt_box hp'; omega
    · obtain ⟨k, hk, hpk⟩ := mem_erase hp
      rcases own_ne S hj hpk hk with h | h
      · exact .inl h
      · cases hpb : p.v.ownBlock with
        | none => exact .inl rfl
        | some g =>
          refine .inr fun e => ?_
          rcases hb g e.symm with h' | h'
          · exact h (by rw [hpb, h'])
          · have := ((S.own p (List.mem_of_mem_eraseIdx hp)).1.lt g hpb).2; omega
  · rcases hX g hg with h | h
    · exact (S.own _ hm).2 g h
    · subst h; exact ⟨hB.1, hB.2.2⟩
  · obtain ⟨k, hk, hpk⟩ := mem_erase hp
    rcases hX _ hpX with h | h
    · exact S.d3 p (List.mem_of_getElem? hpk) q hm h
    · exact box_ne S hi hpk hk h
  · obtain ⟨k, hk, hrk⟩ := mem_erase hr
    rcases hX _ hgX with h | h
    · rcases own_ne S hj hrk hk with h' | h'
      · rw [h'] at hg; cases hg
      · exact h' (by rw [hg, h])
    · subst h; exact S.d3 _ hmi r (List.mem_of_getElem? hrk) hg
theorem St.mut (S : St X W r0 rd bx ow w) {j : Nat} {q q' : OwE} (hj : ow[j]? = some q) (F : Frm X' w w') (hX : ∀ g ∈ X', q.v.ownBlock = some g) (hq : w'.ownsRow 0 q'.e q'.size q'.v q'.n q'.xs)
    (hb : ∀ g, q'.v.ownBlock = some g → q.v.ownBlock = some g ∨ w.heap.size ≤ g) : St X W r0 rd bx (ow.eraseIdx j ++ [q']) w' := by
  have hm := List.mem_of_getElem? hj
  have S2 := (S.delo j).frm F (fun g hg => (S.own _ hm).2 g (hX g hg)) (fun p hp hpX => S.d3 p hp q hm (hX _ hpX)) (fun r hr g hg hgX => ?_)
  · refine S2.ownPut hq (fun g hg => ?_) (fun p hp e => ?_) (fun p hp => ?_)
    · rcases hb g hg with h | h
      · exact (S.own _ hm).2 g h
      · exact ⟨.inl (Nat.le_trans S.base_le h), fun o => S.free h o⟩
    · rcases hb _ e with h | h
      · exact S.d3 p hp q hm h
      · have := S.lt_box hp; omega
    · obtain ⟨k, hk, hpk⟩ := mem_erase hp
      rcases own_ne S hj hpk hk with h | h
      · exact .inl h
      · cases hpb : p.v.ownBlock with
        | none => exact .inl rfl
        | some g =>
          refine .inr fun e => ?_
          rcases hb g e.symm with h' | h'
          · exact h (by rw [hpb, h'])
          · have := ((S.own p (List.mem_of_mem_eraseIdx hp)).1.lt g hpb).2; omega
  · obtain ⟨k, hk, hrk⟩ := mem_erase hr
    rcases own_ne S hj hrk hk with h' | h'
    · rw [h'] at hg; cases hg
    · exact h' (by rw [hg, hX g hgX])
/-- blocks that are known whole, behind a call that made a row of the first of them, or of a new one -/
theorem St.boxMut (S : St X W r0 rd bx ow w) {i j g gv : Nat} {T Tv : TypeId} {cs csv : Array Value} {q' : OwE} (hi : bx[i]? = some (g, T, cs)) (hj : bx[j]? = some (gv, Tv, csv)) (hij : i < j) (F : Frm [g, gv] w w') (hq : w'.ownsRow 0 q'.e q'.size q'.v q'.n q'.xs) (hb : ∀ k, q'.v.ownBlock = some k → k = g ∨ w.heap.size ≤ k) :
    St X W r0 rd ((bx.eraseIdx j).eraseIdx i) (ow ++ [q']) w' := by
  have hi' : (bx.eraseIdx j)[i]? = some (g, T, cs) := by rw [List.getElem?_eraseIdx, if_pos hij]; exact hi
  have hm := List.mem_of_getElem? hi
  have hmj := List.mem_of_getElem? hj
  have S1 := (S.del j).del i
  have hsub : ∀ p ∈ (bx.eraseIdx j).eraseIdx i, p ∈ bx ∧ p.1 ≠ g ∧ p.1 ≠ gv := fun p hp => by
    obtain ⟨k, hk, hpk⟩ := mem_erase hp
    have h1 := box_ne (S.del j) hi' hpk hk
    obtain ⟨k', hk', hpk'⟩ := mem_erase (List.mem_of_getElem? hpk)
    exact ⟨List.mem_of_getElem? hpk', h1, box_ne S hj hpk' hk'⟩
  have S2 := S1.frm F (fun k hk => by
    simp only [List.mem_cons, List.not_mem_nil, or_false] at hk
    rcases hk with rfl | rfl
    · exact ⟨(S.box _ hm).1, (S.box _ hm).2.2⟩
    · exact ⟨(S.box _ hmj).1, (S.box _ hmj).2.2⟩) (fun p hp => by
    have := hsub p hp
    simp only [List.mem_cons, List.not_mem_nil, or_false, not_or]; exact this.2) (fun r hr k hk => by
    simp only [List.mem_cons, List.not_mem_nil, or_false, not_or]
    exact ⟨fun e => S.d3 _ hm r hr (by rw [hk, e]), fun e => S.d3 _ hmj r hr (by rw [hk, e])⟩)
  refine S2.ownPut hq (fun k hk => ?_) (fun p hp e => ?_) (fun p hp => ?_)
  · rcases hb k hk with h | h
    · subst h; exact ⟨(S.box _ hm).1, (S.box _ hm).2.2⟩
    · exact ⟨.inl (Nat.le_trans S.base_le h), fun o => S.free h o⟩
  · rcases hb _ e with h | h
    · exact (hsub p hp).2.1 h
    · have := S.lt_box (hsub p hp).1; omega
  · cases hpb : p.v.ownBlock with
    | none => exact .inl rfl
    | some k =>
      refine .inr fun e => ?_
      rcases hb k e.symm with h | h
      · subst h; exact S.d3 _ hm p hp hpb
      · have := ((S.own p hp).1.lt k hpb).2; omega
theorem St.box1Mut (S : St X W r0 rd bx ow w) {i gv : Nat} {Tv : TypeId} {csv : Array Value} {q' : OwE} (hi : bx[i]? = some (gv, Tv, csv)) (F : Frm [gv] w w') (hq : w'.ownsRow 0 q'.e q'.size q'.v q'.n q'.xs) (hb : ∀ k, q'.v.ownBlock = some k → False ∨ w.heap.size ≤ k) :
    St X W r0 rd (bx.eraseIdx i) (ow ++ [q']) w' := by
  have hm := List.mem_of_getElem? hi
  have S2 := (S.del i).frm F (fun k hk => by
    rw [List.mem_singleton.1 hk]; exact ⟨(S.box _ hm).1, (S.box _ hm).2.2⟩) (fun p hp h => by
    obtain ⟨k, hk, hpk⟩ := mem_erase hp
    exact box_ne S hi hpk hk (List.mem_singleton.1 h)) (fun r hr k hk h => S.d3 _ hm r hr (by rw [hk, List.mem_singleton.1 h]))
  have hb' : ∀ k, q'.v.ownBlock = some k → w.heap.size ≤ k := fun k hk => (hb k hk).elim (fun h => h.elim) id
  refine S2.ownPut hq (fun k hk => ⟨.inl (Nat.le_trans S.base_le (hb' k hk)), fun o => S.free (hb' k hk) o⟩) (fun p hp e => ?_) (fun p hp => ?_)
  · have := hb' _ e
    have := S.lt_box (List.mem_of_mem_eraseIdx hp); omega
  · cases hpb : p.v.ownBlock with
    | none => exact .inl rfl
    | some k => exact .inr fun e => by have := hb' k e.symm; have := ((S.own p hp).1.lt k hpb).2; omega
/-- a block that is known whole, behind a call that wrote it -/
theorem St.boxCall (S : St X W r0 rd bx ow w) {i g : Nat} {T : TypeId} {cs cs' : Array Value} (hi : bx[i]? = some (g, T, cs)) (F : Frm [g] w w') (hg : w'.heap[g]? = some (.cells cs' T (0, 0))) : St X W r0 rd (bx.set i (g, T, cs')) ow w' :=
  S.wrote hi ⟨F.os, F.tape, F.output, F.size, fun k hk hne => F.block k hk (fun h => hne (by rw [List.mem_singleton.1 h]))⟩ hg
/-- while a call writes a row of the call's own: the rest stands -/
theorem St.muted (S : St X W r0 rd bx ow w) {j : Nat} {q : OwE} (hj : ow[j]? = some q) (F : Frm q.v.ownBlock.toList w w') : St X W r0 rd bx (ow.eraseIdx j) w' := by
  have hm := List.mem_of_getElem? hj
  have hX : ∀ g ∈ q.v.ownBlock.toList, q.v.ownBlock = some g := fun g h => by simpa using h
  refine (S.delo j).frm F (fun g hg => (S.own _ hm).2 g (hX g hg)) (fun p hp hpX => S.d3 p hp q hm (hX _ hpX)) (fun r hr g hg hgX => ?_)
  obtain ⟨k, hk, hrk⟩ := mem_erase hr
  rcases own_ne S hj hrk hk with h' | h'
  · rw [h'] at hg; cases hg
  · exact h' (by rw [hg, hX g hgX])
theorem St.boxPtr (S : St X W r0 rd bx ow w) {i g : Nat} {T : TypeId} {cs : Array Value} (hi : bx[i]? = some (g, T, cs)) : PtrC (wrd w) (.pointer (some ⟨g, 0, none⟩)) cs.toList := ⟨g, 0, rfl, fun j u hu => by
  show w.cell? ⟨g, 0 + j, none⟩ = some u
  rw [Nat.zero_add, S.cell hi]; simpa using hu⟩
theorem OwnsL.perm {B : Nat} {l l' : List OwE} (h : OwnsL B w l) (p : l.Perm l') : OwnsL B w l' := ⟨fun q hq => h.1 q (p.mem_iff.2 hq), (p.pairwise_iff fun {x y} h => by
  rcases h with h | h
  · cases hy : y.v.ownBlock with
    | none => exact .inl rfl
    | some k => exact .inr (by rw [h]; simp)
  · exact .inr fun e => h e.symm).1 h.2⟩
/-- a row of the caller's, at the beginning of a call that may write it -/
theorem St.startO (h : Rd.le r0 (wrd W)) {q : OwE} (hq : W.ownsRow 0 q.e q.size q.v q.n q.xs) (hX : ∀ g, q.v.ownBlock = some g → g ∈ X ∧ ∀ o, r0 g o = none) : St X W r0 r0 [] [q] W :=
  ⟨Frm.refl _ _, fun _ _ _ _ h => h, Rd.le_refl _, h, by simp, fun p hp => by
    obtain rfl := List.mem_singleton.1 hp; exact ⟨hq, fun g hg => ⟨.inr (hX g hg).1, (hX g hg).2⟩⟩, .nil, List.pairwise_singleton _ _, by simp⟩
/-- one entry put in -/
theorem RowR.ins {α : Type} {size : Nat} {R : CR α} {xs cs : List Value} {l : List α} {x : α} (hr : RowR size R rd xs l) {i : Nat} (hi : i ≤ l.length) (hc : cs.length = size) (hx : R rd cs x) : RowR size R rd (xs.take (i * size) ++ cs ++ xs.drop (i * size)) (l.take i ++ [x] ++ l.drop i) :=
  ((hr.take i).push hc hx).append (hr.drop i hi)
end
section
variable {P : Program} {Q : Exit → Act → World → Prop} {X : List Nat} {W w w' : World} {r0 rd : Rd} {bx : List BxE} {ow : List OwE} {n d : Nat} {l : Ov} {t ty : TypeId} {pos : String} {af : Array Edge} {v : Value} {v0 x y : Operand} {g i j : Nat} {T : TypeId} {cs : Array Value} {rest : List Oper} {ops : Array Oper}
theorem run_copy_rows (w : World) (dT sT ty elem : TypeId) (g o dLen dCap : Nat) (a : Addr) (sLen sCap m size : Nat) (cur : Array Value) (t : TypeId) (cs : List Value)
    (hu : P.underlying dT = some (.slice elem)) (hs : ∀ w, (sizeOf elem).run P w = .ok size w) (hg : w.heap[g]? = some (.cells cur t (0, 0))) (hm : Nat.min sLen dLen = m) (hn : cs.length = m * size)
    (hsrc : ∀ j v, cs[j]? = some v → w.cell? (a.add j) = some v) (hfit : o + cs.length ≤ cur.size) (h1 : ∀ v ∈ cs, v.oneCell' = true) :
    (Builtin.copy_ #[dT, sT] ty #[.slice (some ⟨g, o, none⟩) dLen dCap, .slice (some a) sLen sCap]).run P w = .ok (goInt m) (w.setRow g (over cur o cs)) := by
  have hl := run_loadCells_list (P := P) w a cs hsrc
  have hst := run_storeCells_at P g o t cs 0 cur w hg (by simpa using hfit) h1
  simp [Builtin.copy_, run_underlying hu, Builtin.lenOf, Builtin.firstCells, hs, hm, ← hn, hl, hst, over]
/-- copy, of cells that lie in a block of the call's own -/
theorem l_cp {el : TypeId} {size m nd cd o ns cn i' gx ox : Nat} {Tx : TypeId} {csx : Array Value} {news : List Value} (S : St X W r0 rd bx ow w) (hu : P.underlying t = some (.slice el)) (hz : ∀ w, (sizeOf el).run P w = .ok size w) (hx : ev n l x = .slice (some ⟨g, o, none⟩) nd cd) (hy : ev n l y = .slice (some ⟨gx, ox, none⟩) ns cn) (hi : bx[i]? = some (g, T, cs)) (hix : bx[i']? = some (gx, Tx, csx))
    (hm : Nat.min ns nd = m) (hn : news.length = m * size) (hnews : ∀ j u, news[j]? = some u → csx[ox + j]? = some u) (h1 : ∀ u ∈ news, u.oneCell' = true) (hf : o + m * size ≤ cs.size)
    (h : ∀ w', St X W r0 rd (bx.set i (g, T, over cs o news)) ow w' → WL P ops Q rest (fr n ((d, goInt m) :: l)) w') : WL P ops Q (⟨some d, .call ⟨.builtin .copy, #[x, y], #[t, t]⟩, ty, pos, af, none⟩ :: rest) (fr n l) w := by
  have hg := (S.box _ (List.mem_of_getElem? hi)).2.1
  have hrun := run_copy_rows (P := P) w t t ty el g o nd cd ⟨gx, ox, none⟩ ns cn m size cs T news hu hz hg hm hn (fun j u hu => by rw [Addr.add_mid, S.cell hix]; exact hnews j u hu) (by omega) h1
  refine l_t (.inl ?_) (h _ (S.wrote hi (grownBy_setRow w g _) (setRow_heap w g cs _ T _ hg)))
  simp [execOp, resolve, invoke, builtin, hx, hy, hrun]
/-- append of noughts where there is no room -/
theorem l_apz {el tn : TypeId} {size bytes k c o m : Nat} {kn kq : IntKind} {q : Int} {s : Operand} {olds : List Value} (S : St X W r0 rd bx ow w) (K : ElemOk P t el size bytes) (htn : P.underlying tn = some (.int kn)) (hs : ev n l s = .slice (some ⟨g, o, none⟩) k c) (hx : ev n l x = .int kq q) (hq : q = m) (hi : bx[i]? = some (g, T, cs))
    (ho : olds.length = k * size) (holds : ∀ j u, olds[j]? = some u → cs[o + j]? = some u) (h0 : 0 < m) (hr : c < k + m) (hlen : k + m ≤ maxLen) (hby : (k + m) * bytes ≤ 140737488355328)
    (h : ∀ g' cz cap' w', cz.size = cap' * size → cz.toList.take (k * size) = olds → k + m ≤ cap' → cap' ≤ maxLen → St X W r0 rd (bx ++ [(g', el, cz)]) ow w' → W.heap.size ≤ g' → WL P ops Q rest (fr n ((d, .slice (some ⟨g', 0, none⟩) (k + m) cap') :: l)) w') : WL P ops Q (⟨some d, .call ⟨.builtin .append, #[s, x], #[t, tn]⟩, ty, pos, af, none⟩ :: rest) (fr n l) w := by
  subst hq
  obtain ⟨inf, z, ht, hin, hz, hsize, hbyt, hzs, hsz⟩ := K.ex
  have hold : (Builtin.firstCells inf.size k (.slice (some ⟨g, o, none⟩) k c)).run P w.drew = .ok olds.toArray w.drew := by
    rw [hsize]
    exact run_firstCells_some w.drew size k ⟨g, o, none⟩ k c olds ho (fun j u hu => by rw [Addr.add_mid]; exact (S.cell hi (o + j)).trans (holds j u hu))
  have hrun := Lib.run_append_grow_zeros (P := P) w t tn ty el inf z kq kn ht htn hin hz (some ⟨g, o, none⟩) k c olds hold m h0 (by omega) hr (by simp only [maxLen] at hlen; omega) (by rw [hbyt]; exact Nat.le_trans (Nat.mul_le_mul_right bytes (Nat.le_add_left m k)) (by omega)) (by rw [hbyt]; exact growslice_fits hr hby)
  have hge := grownCap_ge w (k + m) c el
  have hcm : grownCap w (k + m) c el ≤ maxLen := grownCap_le_maxLen w (k + m) c el hlen
  obtain ⟨arr, harr⟩ : ∃ arr, arr = olds.toArray ++ Builtin.zeroCells z.cells m ++ Builtin.zeroCells z.cells (grownCap w (k + m) c el - (k + m)) := ⟨_, rfl⟩
  rw [← harr] at hrun
  refine l_t (w' := w.drew.alloc (.cells arr el)) (.inl ?_) (h w.heap.size arr _ _ ?_ ?_ hge hcm (S.boxPut (w' := w.drew.alloc (.cells arr el)) ⟨rfl, rfl, rfl, by simp, fun k hk => heap_alloc_old w.drew _ hk⟩ (Nat.le_refl _) (heap_alloc_new w.drew _)) S.base_le)
  · simp [execOp, resolve, invoke, builtin, hs, hx, hrun]
  · rw [harr]; simp only [Array.size_append, List.size_toArray, size_zeroCells, hzs, ho, ← Nat.add_mul]
    congr 1; omega
  · rw [harr]; simp only [Array.toList_append, List.append_assoc, ← ho]
    exact List.take_left
/-- slices.overlaps, of two blocks of the call's own -/
theorem y_ovl {f : FuncId} {fn : Func} {tR el : TypeId} {size la ca lb cb i' gx ox o : Nat} {Tx : TypeId} {csx : Array Value} {ts : Array TypeId} (S : St X W r0 rd bx ow w) (hf : P.funcs[f]? = some fn) (hname : (fn.name == "runtime.NumGoroutine") = false) (hb : fn.body.isNone = true) (hnx : Extern.findNext fn = none) (he : Extern.find fn = some (Extern.SlicesOverlaps.overlaps #[t, t] #[tR])) (hu : P.underlying t = some (.slice el)) (hz : ∀ w, (sizeOf el).run P w = .ok size w)
    (hfx : ev n l v0 = .func (.func f) #[] #[]) (hx : ev n l x = .slice (some ⟨gx, ox, none⟩) la ca) (hy : ev n l y = .slice (some ⟨g, o, none⟩) lb cb) (hi : bx[i]? = some (g, T, cs)) (hix : bx[i']? = some (gx, Tx, csx)) (hne : gx ≠ g) (hcs : cs.size ≠ 0) :
    (execOp (ev n l) ⟨some d, .call ⟨.value v0, #[x, y], ts⟩, ty, pos, af, none⟩).run P w = .ok (.value (.bool false)) w := by
  have h1 := (S.box _ (List.mem_of_getElem? hi)).2.1
  have h2 := (S.box _ (List.mem_of_getElem? hix)).2.1
  have hrun := run_callFunc_extern hf hname hb hnx he #[.slice (some ⟨gx, ox, none⟩) la ca, .slice (some ⟨g, o, none⟩) lb cb] w
  rw [Lib.run_overlaps_apart (P := P) w t tR el hu size hz ⟨gx, ox, none⟩ ⟨g, o, none⟩ la ca lb cb hne Tx T csx.size cs.size (by simp [World.shape?, h2]) (by simp [World.shape?, h1]) hcs (by simp [World.frozen?, h2]) (by simp [World.frozen?, h2])] at hrun
  simp [execOp, resolve, invoke, Deferred.ofValue, hfx, hx, hy, hrun]
theorem y_sln {C : World → Prop} {el : TypeId} {e : Operand → Value} {d : Option Tmp} {gd : Option (Nat × Bool)} {ol oh : Option Operand} {size : Nat} (hu : P.underlying t = some (.slice el)) (hs : ∀ w, (sizeOf el).run P w = .ok size w) (hx : e x = .slice none 0 0)
    (hol : ol = none ∨ ∃ y k, ol = some y ∧ e y = .int k 0) (hoh : oh = none ∨ ∃ y k, oh = some y ∧ e y = .int k 0) : Yv P C e ⟨d, .slice t x ol oh none, ty, pos, af, gd⟩ (.slice none 0 0) := fun w _ => by
  have e2 : (Instr.sliceBounds true 0 0 (ol.map e) (oh.map e) none).run P w = .ok (0, 0, 0) w := by
    unfold Instr.sliceBounds
    rcases hol with rfl | ⟨y, k, rfl, hy⟩ <;> rcases hoh with rfl | ⟨y', k', rfl, hy'⟩
    · simp
    · simp [hy', Instr.sliceBound, asIntOf]
    · simp [hy, Instr.sliceBound, asIntOf]
    · simp [hy, hy', Instr.sliceBound, asIntOf]
  simp [execOp, hx, Instr.sliceAt, Instr.slice, run_underlying hu, e2, hs]
end
section
variable {P : Program} {Q : Exit → Act → World → Prop} {C : World → Prop} {Qa : Act → Prop} {w : World} {n d j d' : Nat} {l : Ov} {b : Bool} {o : Oper} {op : Op} {ty : TypeId} {pos : String} {af : Array Edge} {rest : List Oper} {ops : Array Oper}
theorem yielded_un (hd : (ops[j]?).bind (·.dst) = some d) (hb : lk n l d = undef) : yielded ops (bld n l) j = none := by
  unfold yielded
  rw [hd]
  have e := bld_get n l d
  rw [hb, Array.getD_eq_getD_getElem?] at e
  simp only [Option.bind_some]
  rcases h : (bld n l)[d]? with _ | x
  · rfl
  · rw [h] at e; simp only [Option.getD_some] at e; subst e; rfl
/-- an operation whose guard itself was passed over -/
theorem l_su (hd : (ops.toList[j]?).bind (·.dst) = some d') (hb : lk n l d' = undef) (h : WL P ops Q rest (fr n ((d, undef) :: l)) w) : WL P ops Q (⟨some d, op, ty, pos, af, some (j, b)⟩ :: rest) (fr n l) w := ⟨by
  refine wpList_step fun K hK => ?_
  have hw : Region.wanted (⟨some d, op, ty, pos, af, some (j, b)⟩ : Oper) (yielded ops (fr n l).tmps) = false := by
    show (yielded ops (bld n l) j == some b) = false
    rw [yielded_un (by rwa [Array.getElem?_toList] at hd) hb]; rfl
  rw [if_neg (by rw [hw]; simp), put_fr]
  exact hK _ _ h.1⟩
theorem q_su (hd : (ops.toList[j]?).bind (·.dst) = some d') (hb : lk n l d' = undef) (h : WQ P ops C Qa rest (fr n ((d, undef) :: l))) : WQ P ops C Qa (⟨some d, op, ty, pos, af, some (j, b)⟩ :: rest) (fr n l) := ⟨by
  refine wpQuiet_step fun K hK => ?_
  have hw : Region.wanted (⟨some d, op, ty, pos, af, some (j, b)⟩ : Oper) (yielded ops (fr n l).tmps) = false := by
    show (yielded ops (bld n l) j == some b) = false
    rw [yielded_un (by rwa [Array.getElem?_toList] at hd) hb]; rfl
  rw [if_neg (by rw [hw]; simp), put_fr]
  exact hK _ h.1⟩
end
end Go.Proofs.Ytkjknlnhffmkkaa
