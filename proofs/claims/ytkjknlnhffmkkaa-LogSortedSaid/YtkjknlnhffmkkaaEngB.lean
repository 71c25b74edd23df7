/- Steps on a row that is known whole: slicing, append in place, clear, element addresses, stores at any place. Plain theorems over any program; no condition. -/
import Derived.Test.YtkjknlnhffmkkaaEngA
namespace Go.Proofs.Ytkjknlnhffmkkaa
open Go.RowKit
set_option linter.unusedVariables false

section
variable {X : List Nat} {W w w' : World} {r0 rd : Rd} {bx : List BxE} {ow : List OwE}
theorem Frm.step {W0 : World} (h : Frm X W0 W) (k : Below W.heap.size W w) : Frm X W0 w :=
  ⟨k.os.trans h.os, k.tape.trans h.tape, k.output.trans h.output, Nat.le_trans h.size k.size, fun b hb hX => (k.block b (Nat.lt_of_lt_of_le hb h.size)).trans (h.block b hb hX)⟩
/-- a row that is known whole, read -/
theorem St.boxSl {α : Type} {size : Nat} {R : CR α} [GoodR R] {l : List α} (S : St X W r0 rd bx ow w) {i g n cap : Nat} {T : TypeId} {cs : Array Value} (hi : bx[i]? = some (g, T, cs)) (hn : n = l.length) (hc : n ≤ cap) (hm : cap ≤ maxLen) (hr : RowR size R rd (cs.toList.take (n * size)) l) : SliceR size R (wrd w) (.slice (some ⟨g, 0, none⟩) n cap) l := by
  subst hn
  refine ⟨_, _, _, rfl, hc, hm, rm hr S.le, fun _ => ⟨g, 0, rfl, fun j u hu => ?_⟩⟩
  show w.cell? ⟨g, 0 + j, none⟩ = some u
  rw [Nat.zero_add, S.cell hi]
  rw [List.getElem?_take] at hu
  split at hu
  · simpa using hu
  · cases hu
/-- element k of a row that is known whole -/
theorem row_get {α : Type} {size : Nat} {R : CR α} {rd : Rd} {n k : Nat} {cs : Array Value} {l : List α} {z : α} (hr : RowR size R rd (cs.toList.take (n * size)) l) (hz : l[k]? = some z) : ∃ vs, vs.length = size ∧ R rd vs z ∧ ∀ m u, vs[m]? = some u → cs[k * size + m]? = some u := by
  obtain ⟨vs, h1, h2, h3⟩ := hr.get k hz
  refine ⟨vs, h1, h2, fun m u hu => ?_⟩
  have := h3 m u hu
  rw [List.getElem?_take] at this
  split at this
  · simpa using this
  · cases this
/-- the beginning of a call that may write blocks of its caller's -/
theorem St.startX (h : Rd.le r0 (wrd W)) {bx : List BxE} (hb : ∀ p ∈ bx, p.1 ∈ X ∧ W.heap[p.1]? = some (.cells p.2.2 p.2.1 (0, 0)) ∧ ∀ o, r0 p.1 o = none) (hd : bx.Pairwise fun p q => p.1 ≠ q.1) : St X W r0 r0 bx [] W :=
  ⟨Frm.refl _ _, fun _ _ _ _ h => h, Rd.le_refl _, h, fun p hp => ⟨.inr (hb p hp).1, (hb p hp).2⟩, by simp, hd, .nil, by simp⟩
/-- an owned row, as a block that is known whole -/
theorem St.ownBox (S : St X W r0 rd bx ow w) {j : Nat} {q : OwE} (hj : ow[j]? = some q) (hn : q.v ≠ .slice none 0 0) : ∃ g cap cur, q.v = .slice (some ⟨g, 0, none⟩) q.n cap ∧ cur.size = cap * q.size ∧ cur.toList.take (q.n * q.size) = q.xs ∧ q.n ≤ cap ∧ cap ≤ maxLen ∧ St X W r0 rd (bx ++ [(g, q.e, cur)]) (ow.eraseIdx j) w := by
  have hm := List.mem_of_getElem? hj
  have h0 := S.own q hm
  rcases h0.1.2 with ⟨h1, _⟩ | ⟨g, cap, cur, h1, h2, h3, h4, h5, h6, h7⟩
  · exact absurd h1 hn
  · have hg : q.v.ownBlock = some g := by rw [h1]; rfl
    refine ⟨g, cap, cur, h1, h6, h7, h4, h5, S.fr, S.sub, S.sup, S.le, fun p hp => ?_, fun p hp => S.own p (List.mem_of_mem_eraseIdx hp), ?_, pairwise_erase S.d2, fun p hp r hr => ?_⟩
    · rcases List.mem_append.1 hp with h | h
      · exact S.box p h
      · obtain rfl := List.mem_singleton.1 h
        exact ⟨(h0.2 g hg).1, h3, (h0.2 g hg).2⟩
    · rw [List.pairwise_append]
      refine ⟨S.d1, List.pairwise_singleton _ _, fun p hp r hr => ?_⟩
      obtain rfl := List.mem_singleton.1 hr
      exact fun e => S.d3 p hp q hm (by rw [hg, e])
    · rcases List.mem_append.1 hp with h | h
      · exact S.d3 p h r (List.mem_of_mem_eraseIdx hr)
      · obtain rfl := List.mem_singleton.1 h
        obtain ⟨k, hn, hk⟩ := mem_erase hr
        rcases own_ne S hj hk hn with h | h
        · rw [h]; simp
        · rw [hg] at h; exact h
/-- a block that is known whole becomes a row that may grow -/
theorem St.boxOwn2 (S : St X W r0 rd bx ow w) {i g : Nat} {T : TypeId} {cs : Array Value} (hi : bx[i]? = some (g, T, cs)) (size n c : Nat) (xs : List Value) (hs : cs.size = c * size) (hn : n ≤ c) (hx : cs.toList.take (n * size) = xs) (hm : c ≤ maxLen) :
    St X W r0 rd (bx.eraseIdx i) (ow ++ [⟨T, size, .slice (some ⟨g, 0, none⟩) n c, n, xs⟩]) w := by
  subst hx
  have S' := S.del i
  have hm' := List.mem_of_getElem? hi
  have hb := S.box _ hm'
  refine ⟨S'.fr, S'.sub, S'.sup, S'.le, S'.box, fun q hq => ?_, S'.d1, ?_, fun p hp q hq => ?_⟩
  · rcases List.mem_append.1 hq with h | h
    · exact S.own q h
    · obtain rfl := List.mem_singleton.1 h
      refine ⟨⟨?_, .inr ⟨g, c, cs, rfl, Nat.zero_le _, hb.2.1, hn, hm, hs, rfl⟩⟩, fun k hk => ?_⟩
      · have : n * size ≤ c * size := Nat.mul_le_mul_right _ hn
        rw [List.length_take, Array.length_toList, hs]; dsimp only; omega
      · simp only [Value.ownBlock] at hk; injection hk with hk; subst hk; exact ⟨hb.1, hb.2.2⟩
  · rw [List.pairwise_append]
    refine ⟨S.d2, List.pairwise_singleton _ _, fun p hp q hq => ?_⟩
    obtain rfl := List.mem_singleton.1 hq
    exact .inr (fun e => S.d3 _ hm' p hp (by rw [e]; rfl))
  · rcases List.mem_append.1 hq with h | h
    · exact S'.d3 p hp q h
    · obtain rfl := List.mem_singleton.1 h
      obtain ⟨j, hn, hj⟩ := mem_erase hp
      have := box_ne S hi hj hn
      simp only [Value.ownBlock]
      intro e; injection e with e; exact this e.symm
end
section
variable {P : Program} {C : World → Prop} {X : List Nat} {W w w' : World} {r0 rd : Rd} {bx : List BxE} {ow : List OwE} {t ty el : TypeId} {g o n c lo hi size k : Nat} {T : TypeId} {cs cs' : Array Value}
/-- slicing a row that is known whole -/
theorem y_slb (hu : P.underlying t = some (.slice el)) (hs : ∀ w, (sizeOf el).run P w = .ok size w) (h1 : lo ≤ hi) (h2 : hi ≤ c) :
    ∃ o', (lo < c → o' = o + lo * size) ∧ ∀ {C : World → Prop} {e : Operand → Value} {d : Option Tmp} {ty : TypeId} {pos : String} {af : Array Edge} {gd : Option (Nat × Bool)} {x : Operand} {ol oh : Option Operand}, e x = .slice (some ⟨g, o, none⟩) n c →
      (ol = none ∧ lo = 0 ∨ ∃ y k q, ol = some y ∧ e y = .int k q ∧ q = lo) → (oh = none ∧ hi = n ∨ ∃ y k q, oh = some y ∧ e y = .int k q ∧ q = hi) → Yv P C e ⟨d, .slice t x ol oh none, ty, pos, af, gd⟩ (.slice (some ⟨g, o', none⟩) (hi - lo) (c - lo)) := by
  refine ⟨if c = lo then o else o + lo * size, fun h => by rw [if_neg (by omega)], fun {C e d ty pos af gd x ol oh} hx hol hoh w _ => ?_⟩
  have e2 : (Instr.sliceBounds true n c (ol.map e) (oh.map e) none).run P w = .ok (lo, hi, c) w := by
    unfold Instr.sliceBounds
    rcases hol with ⟨rfl, rfl⟩ | ⟨y, k, q, rfl, hy, rfl⟩ <;> rcases hoh with ⟨rfl, rfl⟩ | ⟨y', k', q', rfl, hy', rfl⟩
    · simp
    · simp [hy', Instr.sliceBound, asIntOf, show hi ≤ c by omega]
    · simp [hy, Instr.sliceBound, asIntOf, h1]
    · simp [hy, hy', Instr.sliceBound, asIntOf, show hi ≤ c by omega, h1]
  by_cases hc : c = lo
  · subst hc
    simp [execOp, hx, Instr.sliceAt, Instr.slice, run_underlying hu, e2, hs]
  · simp [execOp, hx, Instr.sliceAt, Instr.slice, run_underlying hu, e2, hs, hc, Addr.add_mid]
theorem y_slb0 {e : Operand → Value} {d : Option Tmp} {pos : String} {af : Array Edge} {gd : Option (Nat × Bool)} {x : Operand} {oh : Option Operand} (hu : P.underlying t = some (.slice el)) (hs : ∀ w, (sizeOf el).run P w = .ok size w) (h2 : hi ≤ c) (hx : e x = .slice (some ⟨g, o, none⟩) n c)
    (hoh : oh = none ∧ hi = n ∨ ∃ y k q, oh = some y ∧ e y = .int k q ∧ q = hi) : Yv P C e ⟨d, .slice t x none oh none, ty, pos, af, gd⟩ (.slice (some ⟨g, o, none⟩) hi c) := fun w _ => by
  have e2 : (Instr.sliceBounds true n c none (oh.map e) none).run P w = .ok (0, hi, c) w := by
    unfold Instr.sliceBounds
    rcases hoh with ⟨rfl, rfl⟩ | ⟨y', k', q', rfl, hy', rfl⟩
    · simp
    · simp [hy', Instr.sliceBound, asIntOf, show hi ≤ c by omega]
  simp [execOp, hx, Instr.sliceAt, Instr.slice, run_underlying hu, e2, hs]
  intro _; simp [Addr.add]
/-- a slice of three bounds: that they hold -/
theorem y_sl3 {A : Option Addr} {mx : Nat} (hu : P.underlying t = some (.slice el)) (hs : ∀ w, (sizeOf el).run P w = .ok size w) (h1 : lo ≤ hi) (h2 : hi ≤ mx) (h3 : mx ≤ c) :
    ∃ v, ∀ {C : World → Prop} {e : Operand → Value} {d : Option Tmp} {ty : TypeId} {pos : String} {af : Array Edge} {gd : Option (Nat × Bool)} {x yl yh ym : Operand} {kl kh km : IntKind} {ql qh qm : Int}, e x = .slice A n c → e yl = .int kl ql → ql = lo → e yh = .int kh qh → qh = hi → e ym = .int km qm → qm = mx → Yv P C e ⟨d, .slice t x (some yl) (some yh) (some ym), ty, pos, af, gd⟩ v := by
  refine ⟨.slice (if mx = lo then A else A.map (·.add (lo * size))) (hi - lo) (mx - lo), fun {C e d ty pos af gd x yl yh ym kl kh km ql qh qm} hx hl el' hh eh hm em w _ => ?_⟩
  subst el' eh em
  have e2 : (Instr.sliceBounds true n c (some (e yl)) (some (e yh)) (some (e ym))).run P w = .ok (lo, hi, mx) w := by
    simp [Instr.sliceBounds, hl, hh, hm, Instr.sliceBound, asIntOf, h1, h2, h3]
  simp [execOp, hx, Instr.sliceAt, Instr.slice, run_underlying hu, e2, hs]
/-- cap -/
theorem y_cap {e : Operand → Value} {d : Option Tmp} {pos : String} {af : Array Edge} {gd : Option (Nat × Bool)} {x : Operand} {A : Option Addr} {ts : Array TypeId} (ht : P.underlying t = some (.slice el)) (hts : ts[0]? = some t) (h : e x = .slice A n c) : Yv P C e ⟨d, .call ⟨.builtin .cap, #[x], ts⟩, ty, pos, af, gd⟩ (.int .i64 c) := fun w _ => by
  simp [execOp, resolve, invoke, builtin, h, hts, Builtin.cap_, goInt, run_underlying ht]
/-- an element's address in a row that is known whole -/
theorem y_ibs {e : Operand → Value} {d : Option Tmp} {pos : String} {af : Array Edge} {gd : Option (Nat × Bool)} {x y : Operand} {kk : IntKind} {q : Int} {o' : Nat} (hu : P.underlying t = some (.slice el)) (hs : ∀ w, (sizeOf el).run P w = .ok size w) (hk : k < n) (ho : o + k * size = o')
    (hx : e x = .slice (some ⟨g, o, none⟩) n c) (hy : e y = .int kk q) (hq : q = k) : Yv P C e ⟨d, .indexAddr t x y, ty, pos, af, gd⟩ (.pointer (some ⟨g, o', none⟩)) := fun w _ => by
  subst hq ho
  simp [execOp, hx, hy, Instr.indexAt, asIntOf, run_underlying hu, hs, hk, Addr.add_mid]
theorem ld_bs {i j kz : Nat} {vs : List Value} (S : St X W r0 rd bx ow w) (hi : bx[i]? = some (g, T, cs)) (ht : TyA P t kz) (hk : vs.length = kz) (hv : ∀ m u, vs[m]? = some u → cs[j + m]? = some u) : Ld P w t (.pointer (some ⟨g, j, none⟩)) (.agg vs.toArray) :=
  ld_A ht hk fun m u hu => by rw [S.cell hi]; exact hv m u hu
theorem ld_bs1 {i j : Nat} {v : Value} (S : St X W r0 rd bx ow w) (hi : bx[i]? = some (g, T, cs)) (ht : Ty1 P t) (hv : cs[j]? = some v) : Ld P w t (.pointer (some ⟨g, j, none⟩)) v := ld_1 ht (by rw [S.cell hi]; exact hv)
end
section
variable {P : Program} {Q : Exit → Act → World → Prop} {X : List Nat} {W w w' : World} {r0 rd : Rd} {bx : List BxE} {ow : List OwE} {n d : Nat} {l : Ov} {t ty : TypeId} {pos : String} {af : Array Edge} {v : Value} {x y : Operand} {g i j : Nat} {T : TypeId} {cs : Array Value} {rest : List Oper} {ops : Array Oper}
theorem over_size {cs : Array Value} {j : Nat} {vs : List Value} (h : j + vs.length ≤ cs.size) : (over cs j vs).size = cs.size := by
  unfold over; simp; omega
/-- a store at any place of a block of the call's own -/
theorem l_sp {u : Value} (S : St X W r0 rd bx ow w) (hx : ev n l x = .pointer (some ⟨g, j, none⟩)) (hy : ev n l y = u) (hi : bx[i]? = some (g, T, cs)) (hs : ∀ w, (sizeOf t).run P w = .ok u.cells.size w) (hj : j + u.cells.size ≤ cs.size)
    (h1 : u.cells.toList.all Value.oneCell' = true) (h : ∀ w', St X W r0 rd (bx.set i (g, T, over cs j u.cells.toList)) ow w' → WL P ops Q rest (fr n l) w') : WL P ops Q (⟨none, .store t x y, ty, pos, af, none⟩ :: rest) (fr n l) w := by
  have hg := (S.box _ (List.mem_of_getElem? hi)).2.1
  have hr := run_storeAt (P := P) (t := t) hg hs (Nat.ble_eq_true_of_le hj) (fun c hc => List.all_eq_true.1 h1 c (by simpa using hc))
  refine l_tn (w' := w.setRow g (over cs j u.cells.toList)) (.inr ⟨rfl, ?_⟩) (h _ (S.wrote hi (grownBy_setRow w g _) (setRow_heap w g cs _ T _ hg)))
  simp [execOp, hx, hy, hr]
/-- append in place, of cells that lie in a block of the call's own -/
theorem l_apr {el : TypeId} {size bytes m k c cx i' gx ox : Nat} {Tx : TypeId} {csx : Array Value} {s : Operand} {news : List Value} (S : St X W r0 rd bx ow w) (K : ElemOk P t el size bytes) (hs : ev n l s = .slice (some ⟨g, 0, none⟩) k c) (hx : ev n l x = .slice (some ⟨gx, ox, none⟩) m cx) (hi : bx[i]? = some (g, el, cs)) (hix : bx[i']? = some (gx, Tx, csx))
    (hn : news.length = m * size) (hnews : ∀ j u, news[j]? = some u → csx[ox + j]? = some u) (h1 : ∀ u ∈ news, u.oneCell' = true) (hr : k + m ≤ c) (hf : k * size + m * size ≤ cs.size)
    (h : ∀ w', St X W r0 rd (bx.set i (g, el, over cs (k * size) news)) ow w' → WL P ops Q rest (fr n ((d, .slice (some ⟨g, 0, none⟩) (k + m) c) :: l)) w') : WL P ops Q (⟨some d, .call ⟨.builtin .append, #[s, x], #[t, t]⟩, ty, pos, af, none⟩ :: rest) (fr n l) w := by
  obtain ⟨inf, z, ht, hin, hz, hsize, hbyt, hzs, hsz⟩ := K.ex
  subst hsize
  have hg := (S.box _ (List.mem_of_getElem? hi)).2.1
  have hrun := run_append_room (P := P) w t ty el inf ht hin g k c cs hg ⟨gx, ox, none⟩ m cx news hn (fun j u hu => by rw [Addr.add_mid, S.cell hix]; exact hnews j u hu) h1 hr (by omega)
  refine l_t (.inl ?_) (h _ (S.wrote hi (grownBy_setRow w g _) (setRow_heap w g cs _ el _ hg)))
  simp [execOp, resolve, invoke, builtin, hs, hx, hrun, over]
/-- clear -/
theorem l_cl {el : TypeId} {size bytes m c o : Nat} {z : Value} (S : St X W r0 rd bx ow w) (K : ElemOk P t el size bytes) (hz : ∀ w, (zeroValue el).run P w = .ok z w) (hzz : z.cells.toList.all Value.oneCell' = true) (hx : ev n l x = .slice (some ⟨g, o, none⟩) m c) (hi : bx[i]? = some (g, T, cs)) (hf : 0 < m → o + m * size ≤ cs.size)
    (h : ∀ w' zs, zs.length = m * size → St X W r0 rd (bx.set i (g, T, if m = 0 then cs else over cs o zs)) ow w' → WL P ops Q rest (fr n l) w') : WL P ops Q (⟨none, .call ⟨.builtin .clear, #[x], #[t]⟩, ty, pos, af, none⟩ :: rest) (fr n l) w := by
  obtain ⟨inf, z', ht, hin, hz', hsize, hbyt, hzs, hsz⟩ := K.ex
  have hzz' : z' = z := by
    have h1 := hz w
    unfold zeroValue typeInfo at h1
    simp [hin, hz'] at h1
    exact h1
  subst hzz'
  have hg := (S.box _ (List.mem_of_getElem? hi)).2.1
  by_cases hm : m = 0
  · subst hm
    refine l_tn (w' := w) (v := .tuple #[]) (.inl ?_) (h _ [] (by simp) (by
      rw [if_pos rfl]
      have : bx.set i (g, T, cs) = bx := by
        apply List.ext_getElem?
        intro j
        rw [List.getElem?_set]
        split
        · rename_i e; subst e; rw [hi]; rw [if_pos (List.getElem?_eq_some_iff.1 hi).1]
        · rfl
      rw [this]; exact S))
    simp [execOp, resolve, invoke, builtin, hx, Builtin.clear_, run_underlying ht]
  · have hlen : (Builtin.zeroCells z'.cells m).toList.length = m * size := by simp [Builtin.zeroCells, hzs]
    have h2 := run_storeCells_at (P := P) g o T (Builtin.zeroCells z'.cells m).toList 0 cs w hg (by simp only [Nat.add_zero]; rw [hlen]; exact hf (by omega)) (fun v hv => by
      simp only [Builtin.zeroCells, Array.toList_map, List.mem_map] at hv
      obtain ⟨a, _, rfl⟩ := hv
      have hlt : a % z'.cells.size < z'.cells.size := Nat.mod_lt _ (by omega)
      rw [getElem!_pos z'.cells (a % z'.cells.size) hlt]
      exact List.all_eq_true.1 hzz _ (by simp))
    simp only [Nat.add_zero] at h2
    refine l_tn (w' := w.setRow g (over cs o (Builtin.zeroCells z'.cells m).toList)) (v := .tuple #[]) (.inl ?_) (h _ _ hlen (by rw [if_neg hm]; exact S.wrote hi (grownBy_setRow w g _) (setRow_heap w g cs _ T _ hg)))
    obtain ⟨m', rfl⟩ : ∃ m', m = m' + 1 := ⟨m - 1, by omega⟩
    simp [execOp, resolve, invoke, builtin, hx, Builtin.clear_, run_underlying ht, hz, h2, over]
end
end Go.Proofs.Ytkjknlnhffmkkaa
