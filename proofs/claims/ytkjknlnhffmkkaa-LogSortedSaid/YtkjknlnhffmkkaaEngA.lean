/- Regions that draw their order and write: what is only read is taken first; the rest in each order that may come. Plain theorems over any program; no condition. -/
import Derived.Test.YtkjknlnhffmkkaaEngQ
import Derived.OrdersHeld
namespace Go.Proofs.Ytkjknlnhffmkkaa
open Go.RowKit
set_option linter.unusedVariables false

section
variable {P : Program} {Q : Exit → Act → World → Prop} {s : List Kf} {w : World} {n : Nat} {l : Ov} {ops : Array Oper} {C : World → Prop}
structure AL (P : Program) (ops : Array Oper) (Q : Exit → Act → World → Prop) (C : World → Prop) (fuel : Nat) (listed : Array Bool) (a : Act) (w : World) : Prop where
  out : wpAnyH P .any ops Q C fuel listed a w
theorem e_a {id k : Nat} {a : Act} (C : World → Prop) (hm : P.follows .mixedOrders = true) (hk : ops.toList.length = k) (h : AL P ops (stk P Q s) C k (Array.replicate k false) a w.drew) : (Code.region id ops true).wp P (stk P Q s) a w :=
  wp_region_held hm (by subst hk; simpa using h.out)
theorem panic_put (hQ : ∀ c a d v w, Q (.panic c) (a.put d v) w → Q (.panic c) a w) : ∀ (s : List Kf) c a d v w, stk P Q s (.panic c) (a.put d v) w → stk P Q s (.panic c) a w
  | [], c, a, d, v, w, h => hQ c a d v w h
  | .seq _ :: s, c, a, d, v, w, h => panic_put hQ s c a d v w h
  | .blk _ :: s, c, a, d, v, w, h => panic_put hQ s c a d v w h
  | .lp _ :: s, c, a, d, v, w, h => panic_put hQ s c a d v w h
theorem panic_body {fn : Func} {R : Ending → World → Prop} : ∀ c a d v w, bodyPost P fn R (.panic c) (Act.put a d v) w → bodyPost P fn R (.panic c) a w := fun c a d v w h => by
  cases d <;> exact h
/-- an operation that only reads, taken first -/
theorem a_take {fn : Func} {R : Ending → World → Prop} {fuel : Nat} {listed : Array Bool} {o : Oper} {d : Nat} {v : Value} (i : Nat) (hi : ops.toList[i]? = some o) (hd : o.dst = some d) (hs : Region.noSelect ops = true) (hf : Region.free .any ops listed i = true) (hr : (Region.ready .any ops listed).contains i = true)
    (S : C w) (hg : o.guard = none) (Y : Yv P C (ev n l) o v) (h : AL P ops (stk P (bodyPost P fn R) s) C fuel (listed.setIfInBounds i true) (fr n ((d, v) :: l)) w) : AL P ops (stk P (bodyPost P fn R) s) C (fuel + 1) listed (fr n l) w :=
  ⟨wpAnyH_take (by rw [← Array.getElem?_toList]; exact hi) hs hf hr (fun c a w => panic_put panic_body s c a _ _ w) (.inl ⟨by unfold Region.wanted; rw [hg], fun w hS => by rw [eval_fr]; exact Y w hS⟩) S (by rw [put_fr, hd]; exact h.out)⟩
theorem a_takeg {fn : Func} {R : Ending → World → Prop} {fuel : Nat} {listed : Array Bool} {o : Oper} {d j d' : Nat} {b : Bool} {v : Value} (i : Nat) (hi : ops.toList[i]? = some o) (hd : o.dst = some d) (hs : Region.noSelect ops = true) (hf : Region.free .any ops listed i = true) (hr : (Region.ready .any ops listed).contains i = true)
    (S : C w) (hg : o.guard = some (j, b)) (hj : (ops.toList[j]?).bind (·.dst) = some d') (hb : lk n l d' = .bool b) (Y : Yv P C (ev n l) o v) (h : AL P ops (stk P (bodyPost P fn R) s) C fuel (listed.setIfInBounds i true) (fr n ((d, v) :: l)) w) : AL P ops (stk P (bodyPost P fn R) s) C (fuel + 1) listed (fr n l) w :=
  ⟨wpAnyH_take (by rw [← Array.getElem?_toList]; exact hi) hs hf hr (fun c a w => panic_put panic_body s c a _ _ w) (.inl ⟨by
    unfold Region.wanted; rw [hg]; show (yielded ops (bld n l) j == some b) = true
    rw [yielded_at (by rw [← Array.getElem?_toList]; exact hj) hb]; simp, fun w hS => by rw [eval_fr]; exact Y w hS⟩) S (by rw [put_fr, hd]; exact h.out)⟩
theorem a_skip {fn : Func} {R : Ending → World → Prop} {fuel : Nat} {listed : Array Bool} {o : Oper} {d j d' : Nat} {b : Bool} (i : Nat) (hi : ops.toList[i]? = some o) (hd : o.dst = some d) (hs : Region.noSelect ops = true) (hf : Region.free .any ops listed i = true) (hr : (Region.ready .any ops listed).contains i = true)
    (S : C w) (hg : o.guard = some (j, b)) (hj : (ops.toList[j]?).bind (·.dst) = some d') (hb : lk n l d' = .bool (!b)) (h : AL P ops (stk P (bodyPost P fn R) s) C fuel (listed.setIfInBounds i true) (fr n ((d, undef) :: l)) w) : AL P ops (stk P (bodyPost P fn R) s) C (fuel + 1) listed (fr n l) w :=
  ⟨wpAnyH_take (by rw [← Array.getElem?_toList]; exact hi) hs hf hr (fun c a w => panic_put panic_body s c a _ _ w) (.inr ⟨by
    unfold Region.wanted; rw [hg]; show (yielded ops (bld n l) j == some b) = false
    rw [yielded_at (by rw [← Array.getElem?_toList]; exact hj) hb]; cases b <;> rfl, rfl⟩) S (by rw [put_fr, hd]; exact h.out)⟩
/-- all have come up -/
theorem a_done {fuel : Nat} {listed : Array Bool} {a : Act} (hr : Region.ready .any ops listed = []) (h : stk P Q s .normal a w) : AL P ops (stk P Q s) C fuel listed a w := ⟨wpAnyH_done hr h fuel⟩
/-- one that acts: as a list of one -/
theorem wpOp_of_list {i : Nat} {o : Oper} {a : Act} {K : Act → World → Prop} {Q : Exit → Act → World → Prop} (hi : ops[i]? = some o) (h : wpList P ops (Exit.then K Q) [o] a w) : wpOp P ops Q i K a w := by
  unfold wpOp
  simp only [hi]
  unfold wpList at h
  split
  · rename_i hw
    rw [if_pos hw] at h
    rcases h with h | ⟨h1, h2⟩
    · left
      unfold Oper.wp at h ⊢
      unfold Oper.upon at h ⊢
      split at h
      · exact h
      · exact h
      · exact h
      · refine h.mono fun e w' he => ?_
        cases e <;> exact he
      · exact h
      · exact h
      · exact h
    · right
      exact ⟨h1, h2⟩
  · rename_i hw
    rw [if_neg hw] at h
    exact h
def Ak (P : Program) (ops : Array Oper) (Q : Exit → Act → World → Prop) (C : World → Prop) (fuel : Nat) (listed : Array Bool) (a : Act) (w : World) : Prop := C w ∧ wpAnyH P .any ops Q C fuel listed a w
theorem ak {fuel : Nat} {listed : Array Bool} {a : Act} (hC : C w) (h : AL P ops Q C fuel listed a w) : Ak P ops Q C fuel listed a w := ⟨hC, h.out⟩
/-- the operations that may come up, one after another -/
def AA (P : Program) (ops : Array Oper) (Q : Exit → Act → World → Prop) (C : World → Prop) (s : List Kf) (fuel : Nat) (listed : Array Bool) (a : Act) (w : World) (rs : List Nat) : Prop :=
  ∀ i ∈ rs, wpOp P ops (stk P Q s) i (fun a' w' => C w' ∧ wpAnyH P .any ops (stk P Q s) C fuel (listed.setIfInBounds i true) a' w') a w
theorem a_all {fuel : Nat} {listed : Array Bool} {a : Act} {rs : List Nat} (hr : Region.ready .any ops listed = rs) (hne : rs.isEmpty = false) (h : AA P ops Q C s fuel listed a w rs) : AL P ops (stk P Q s) C (fuel + 1) listed a w :=
  ⟨wpAnyH_all hr (by intro e; subst e; cases hne) h⟩
theorem aa_nil {fuel : Nat} {listed : Array Bool} {a : Act} : AA P ops Q C s fuel listed a w [] := fun i hi => by cases hi
theorem aa_cons {fuel i : Nat} {listed : Array Bool} {a : Act} {rs : List Nat} {o : Oper} (hi : ops.toList[i]? = some o) (h : WL P ops (stk P Q (.lp (Ak P ops (stk P Q s) C fuel (listed.setIfInBounds i true)) :: s)) [o] a w)
    (h2 : AA P ops Q C s fuel listed a w rs) : AA P ops Q C s fuel listed a w (i :: rs) := fun j hj => by
  rcases List.mem_cons.1 hj with rfl | hj
  · exact wpOp_of_list (by rw [← Array.getElem?_toList]; exact hi) h.out
  · exact h2 j hj
end
section
variable {X : List Nat} {W w w' : World} {r0 rd rd' : Rd} {bx bx' : List BxE} {ow ow' : List OwE}
theorem St.del (S : St X W r0 rd bx ow w) (i : Nat) : St X W r0 rd (bx.eraseIdx i) ow w :=
  ⟨S.fr, S.sub, S.sup, S.le, fun p hp => S.box p (List.mem_of_mem_eraseIdx hp), S.own, pairwise_erase S.d1, S.d2, fun p hp => S.d3 p (List.mem_of_mem_eraseIdx hp)⟩
theorem St.delo (S : St X W r0 rd bx ow w) (i : Nat) : St X W r0 rd bx (ow.eraseIdx i) w :=
  ⟨S.fr, S.sub, S.sup, S.le, S.box, fun p hp => S.own p (List.mem_of_mem_eraseIdx hp), S.d1, pairwise_erase S.d2, fun p hp q hq => S.d3 p hp q (List.mem_of_mem_eraseIdx hq)⟩
theorem none_le {r r' : Rd} (h : Rd.le r r') {b o : Nat} (k : r' b o = none) : r b o = none := by
  cases e : r b o with
  | none => rfl
  | some v => rw [h _ _ _ e] at k; cases k
theorem St.weak (S : St X W r0 rd' bx ow w) (h0 : Rd.le r0 rd) (h : Rd.le rd rd') : St X W r0 rd bx ow w :=
  ⟨S.fr, fun b o v hb e => S.sub b o v hb (h _ _ _ e), h0, Rd.le_trans h S.le, fun p hp => ⟨(S.box p hp).1, (S.box p hp).2.1, fun o => none_le h ((S.box p hp).2.2 o)⟩,
    fun q hq => ⟨(S.own q hq).1, fun g hg => ⟨((S.own q hq).2 g hg).1, fun o => none_le h (((S.own q hq).2 g hg).2 o)⟩⟩, S.d1, S.d2, S.d3⟩
/-- rows that a call hands back for its caller to own -/
def OwnsL (B : Nat) (w : World) (l : List OwE) : Prop := (∀ q ∈ l, w.ownsRow B q.e q.size q.v q.n q.xs) ∧ l.Pairwise fun p q => p.v.ownBlock = none ∨ p.v.ownBlock ≠ q.v.ownBlock
theorem St.ownsL (S : St [] W r0 rd bx ow w) : OwnsL W.heap.size w ow := ⟨fun q hq => by
  obtain ⟨i, hi⟩ := List.getElem?_of_mem hq
  exact S.ownB hi, S.d2⟩
theorem St.ownAddL (S : St X W r0 rd bx ow w) (k : Below w.heap.size w w') {l : List OwE} (h : OwnsL w.heap.size w' l) : St X W r0 rd bx (ow ++ l) w' := by
  have S' := S.callq k
  have hge : ∀ q ∈ l, ∀ g, q.v.ownBlock = some g → w.heap.size ≤ g := fun q hq g hg => ((h.1 q hq).lt g hg).1
  refine ⟨S'.fr, S'.sub, S'.sup, S'.le, S'.box, fun q hq => ?_, S'.d1, ?_, fun p hp q hq => ?_⟩
  · rcases List.mem_append.1 hq with hq | hq
    · exact S'.own q hq
    · have h0 := h.1 q hq
      refine ⟨⟨h0.1, ?_⟩, fun g hg => ⟨.inl (Nat.le_trans S.base_le (hge q hq g hg)), fun o => S.free (hge q hq g hg) o⟩⟩
      rcases h0.2 with h1 | ⟨g, cap, cur, a, b, r⟩
      · exact .inl h1
      · exact .inr ⟨g, cap, cur, a, Nat.zero_le _, r⟩
  · rw [List.pairwise_append]
    refine ⟨S.d2, h.2, fun p hp q hq => ?_⟩
    cases hpb : p.v.ownBlock with
    | none => exact .inl rfl
    | some k => exact .inr fun e => by have := ((S.own p hp).1.lt k hpb).2; have := hge q hq k e.symm; omega
  · rcases List.mem_append.1 hq with hq | hq
    · exact S'.d3 p hp q hq
    · intro e
      have := hge q hq _ e
      have := S.lt_box hp
      omega
/-- a block that was built becomes a row that may grow -/
theorem St.boxOwn (S : St X W r0 rd bx ow w) {i g : Nat} {T : TypeId} {cs : Array Value} (hi : bx[i]? = some (g, T, cs)) (size n c : Nat) (hs : cs.size = n * size) (hc : c = n) (hm : n ≤ maxLen) :
    St X W r0 rd (bx.eraseIdx i) (ow ++ [⟨T, size, .slice (some ⟨g, 0, none⟩) n c, n, cs.toList⟩]) w := by
  subst hc
  have S' := S.del i
  have hm' := List.mem_of_getElem? hi
  have hb := S.box _ hm'
  refine ⟨S'.fr, S'.sub, S'.sup, S'.le, S'.box, fun q hq => ?_, S'.d1, ?_, fun p hp q hq => ?_⟩
  · rcases List.mem_append.1 hq with h | h
    · exact S.own q h
    · obtain rfl := List.mem_singleton.1 h
      refine ⟨⟨by simpa using hs, .inr ⟨g, c, cs, rfl, Nat.zero_le _, hb.2.1, Nat.le_refl _, hm, hs, ?_⟩⟩, fun k hk => ?_⟩
      · rw [← hs]; exact List.take_of_length_le (by simp)
      · simp only [Value.ownBlock] at hk; injection hk with hk; subst hk; exact ⟨hb.1, hb.2.2⟩
  · rw [List.pairwise_append]
    refine ⟨S.d2, List.pairwise_singleton _ _, fun p hp q hq => ?_⟩
    obtain rfl := List.mem_singleton.1 hq
    exact .inr (fun e => S.d3 _ hm' p hp (by rw [e]; rfl))
  · rcases List.mem_append.1 hq with h | h
    · exact S'.d3 p hp q h
    · obtain rfl := List.mem_singleton.1 h
      obtain ⟨j, hn, hj⟩ := mem_erase hp
      have := box_ne S hi hj hn
      simp only [Value.ownBlock]
      intro e; injection e with e; exact this e.symm
end
section
variable {P : Program} {C : World → Prop} {e : Operand → Value} {d : Option Tmp} {t ty yt el : TypeId} {pos : String} {af : Array Edge} {g : Option (Nat × Bool)} {x y : Operand} {A : Option Addr} {n c : Nat} {v : Value}
/-- a slice held against nil -/
theorem snil_run (ht : P.underlying t = some (.slice el)) (w : World) : (Op.equalIn Op.maxDepth t (.slice A n c) (.slice none 0 0)).run P w = .ok A.isNone w := by
  show (Op.equalIn (9999 + 1) t (.slice A n c) (.slice none 0 0)).run P w = _
  unfold Op.equalIn
  cases A <;> simp [run_underlying ht]
theorem y_se (ht : P.underlying t = some (.slice el)) (h1 : e x = .slice A n c) (h2 : e y = .slice none 0 0) {r : Bool} (h : A.isNone = r) : Yv P C e ⟨d, .binOp .eql t x y yt, ty, pos, af, g⟩ (.bool r) := fun w _ => by
  subst h; simp [execOp, h1, h2, eqGuard, binOp, Op.equal, snil_run ht]
theorem y_sn (ht : P.underlying t = some (.slice el)) (h1 : e x = .slice A n c) (h2 : e y = .slice none 0 0) {r : Bool} (h : (!A.isNone) = r) : Yv P C e ⟨d, .binOp .neq t x y yt, ty, pos, af, g⟩ (.bool r) := fun w _ => by
  subst h; simp [execOp, h1, h2, eqGuard, binOp, Op.equal, snil_run ht]
end
section
variable {P : Program} {Q : Exit → Act → World → Prop} {X : List Nat} {W w w' : World} {r0 rd : Rd} {bx : List BxE} {ow : List OwE} {n d : Nat} {l : Ov} {t ty el : TypeId} {pos : String} {af : Array Edge} {x y : Operand} {rest : List Oper} {ops : Array Oper}
/-- make of a slice of noughts -/
theorem l_ms {m bytes size : Nat} {p q : Int} {z : Value} (S : St X W r0 rd bx ow w) (K : ElemOk P t el size bytes) (hz : ∀ w, (zeroValue el).run P w = .ok z w) (hx : ev n l x = .int .i64 p) (hy : ev n l y = .int .i64 q) (h1 : p = m) (h2 : q = m) (hb : m * bytes ≤ 140737488355328) (hm : m ≤ maxLen)
    (h : ∀ g w', St X W r0 rd bx (ow ++ [⟨el, size, .slice (some ⟨g, 0, none⟩) m m, m, (madeCells z.cells (m * size)).toList⟩]) w' → WL P ops Q rest (fr n ((d, .slice (some ⟨g, 0, none⟩) m m) :: l)) w') : WL P ops Q (⟨some d, .makeSlice t x y, ty, pos, af, none⟩ :: rest) (fr n l) w := by
  subst h1 h2
  obtain ⟨i, z', ht, hi, hz', hsize, hby, hzs, hsz⟩ := K.ex
  have hzz : z' = z := by
    have h1 := hz w
    unfold zeroValue typeInfo at h1
    simp [hi, hz'] at h1
    exact h1
  subst hzz
  obtain ⟨w', hrun, hown, hgr⟩ := run_make_full (P := P) w w.heap.size t el i z' size ht hi hz' hsize .i64 .i64 m (by rw [hby, Nat.mul_comm]; omega) hm (Nat.le_refl _)
  refine l_t (.inl ?_) (h w.heap.size w' (S.ownAdd (q := ⟨el, size, _, m, _⟩) ⟨hgr.os, hgr.tape, hgr.output, hgr.size, fun k hk => hgr.block k hk (by simp)⟩ hown))
  simp [execOp, hx, hy, hrun]
end
end Go.Proofs.Ytkjknlnhffmkkaa
