/- Reading and writing a row of the call's own in its place. Plain theorems over any program; no condition. -/
import Derived.Test.YtkjknlnhffmkkaaEngD
namespace Go.Proofs.Ytkjknlnhffmkkaa
open Go.RowKit
set_option linter.unusedVariables false

section
variable {X : List Nat} {W w w' : World} {r0 rd : Rd} {bx : List BxE} {ow : List OwE}
/-- a box that is only read from here on -/
theorem St.frzp (S : St X W r0 rd bx ow w) {i g : Nat} {T : TypeId} {cs : Array Value} (hi : bx[i]? = some (g, T, cs)) (hX : X = []) : ∃ rd', St X W r0 rd' (bx.eraseIdx i) ow w ∧ Rd.le rd rd' ∧ PtrC rd' (.pointer (some ⟨g, 0, none⟩)) cs.toList :=
  ⟨_, S.frz hi (by subst hX; simp), S.frz_le hi, g, 0, rfl, fun j u hu => by
    unfold plus
    rw [if_pos rfl, Nat.zero_add, cell_of_row w g j cs T (0, 0) (S.box _ (List.mem_of_getElem? hi)).2.1]; simpa using hu⟩
/-- where a row lies that is not empty -/
theorem own_at (S : St X W r0 rd bx ow w) {i : Nat} {q : OwE} (hi : ow[i]? = some q) (hn : q.n ≠ 0) : ∃ g c, q.v = .slice (some ⟨g, 0, none⟩) q.n c ∧ q.n ≤ c ∧ c ≤ maxLen := by
  rcases (S.own _ (List.mem_of_getElem? hi)).1.2 with ⟨_, h⟩ | ⟨g, c, cur, h, _, _, h1, h2, _⟩
  · exact absurd h hn
  · exact ⟨g, c, h, h1, h2⟩
theorem own_atA (S : St X W r0 rd bx ow w) {i n c : Nat} {q : OwE} {A : Option Addr} (hi : ow[i]? = some q) (hv : q.v = .slice A n c) (hn : q.n ≠ 0) : ∃ g, A = some ⟨g, 0, none⟩ := by
  obtain ⟨g, c', e, _⟩ := own_at S hi hn
  rw [hv] at e
  injection e with e
  exact ⟨g, e⟩
theorem row_cell {b : Nat} {e : TypeId} {size n m c g j : Nat} {v u : Value} {xs : List Value} (h : w.ownsRow b e size v n xs) (hv : v = .slice (some ⟨g, 0, none⟩) m c) (hu : xs[j]? = some u) : w.cell? ⟨g, j, none⟩ = some u := by
  subst hv
  have := h.cells (g := g) rfl j u hu
  rwa [Addr.add_mid, Nat.zero_add] at this
variable {P : Program} {t : TypeId}
theorem ld_o1 (S : St X W r0 rd bx ow w) {i g j m c : Nat} {q : OwE} {v : Value} (hi : ow[i]? = some q) (hv : q.v = .slice (some ⟨g, 0, none⟩) m c) (ht : Ty1 P t) (hx : q.xs[j]? = some v) : Ld P w t (.pointer (some ⟨g, j, none⟩)) v :=
  ld_1 ht (row_cell (S.own _ (List.mem_of_getElem? hi)).1 hv hx)
theorem ld_oA (S : St X W r0 rd bx ow w) {i g j m c k : Nat} {q : OwE} {vs : List Value} (hi : ow[i]? = some q) (hv : q.v = .slice (some ⟨g, 0, none⟩) m c) (ht : TyA P t k) (hk : vs.length = k) (hx : ∀ a u, vs[a]? = some u → q.xs[j + a]? = some u) : Ld P w t (.pointer (some ⟨g, j, none⟩)) (.agg vs.toArray) :=
  ld_A ht hk fun a u hu => row_cell (S.own _ (List.mem_of_getElem? hi)).1 hv (hx a u hu)
/-- an element's address in an array -/
theorem y_iar {C : World → Prop} {e : Operand → Value} {d : Option Tmp} {ty el : TypeId} {pos : String} {af : Array Edge} {gd : Option (Nat × Bool)} {x y : Operand} {kk : IntKind} {q : Int} {g o o' k len size : Nat} (hu : P.underlying t = some (.array len el)) (hs : ∀ w, (sizeOf el).run P w = .ok size w) (hk : k < len) (ho : o + k * size = o')
    (hx : e x = .pointer (some ⟨g, o, none⟩)) (hy : e y = .int kk q) (hq : q = k) : Yv P C e ⟨d, .indexAddr t x y, ty, pos, af, gd⟩ (.pointer (some ⟨g, o', none⟩)) := fun w _ => by
  subst hq ho
  simp [execOp, hx, hy, Instr.indexAt, asIntOf, run_underlying hu, hs, hk, Addr.add_mid, Instr.sureAddr]
end
section
variable {P : Program} {Q : Exit → Act → World → Prop} {X : List Nat} {W w w' : World} {r0 rd : Rd} {bx : List BxE} {ow : List OwE} {n d : Nat} {l : Ov} {t ty : TypeId} {pos : String} {af : Array Edge} {v : Value} {x y : Operand} {g i j : Nat} {rest : List Oper} {ops : Array Oper}
theorem takeOver_ {cs : List Value} {j k : Nat} {vs : List Value} (h : j + vs.length ≤ k) (hk : k ≤ cs.length) : (cs.take j ++ vs ++ cs.drop (j + vs.length)).take k = (cs.take k).take j ++ vs ++ (cs.take k).drop (j + vs.length) := by
  rw [List.take_append, List.take_of_length_le (show (cs.take j ++ vs).length ≤ k by simp; omega), List.take_take, Nat.min_eq_left (by omega)]
  congr 1
  rw [List.drop_take]
  congr 1
  simp; omega
/-- a store into a row of the call's own -/
theorem l_so {u : Value} {m c : Nat} {q : OwE} {xs' : List Value} (S : St X W r0 rd bx ow w) (hx : ev n l x = .pointer (some ⟨g, j, none⟩)) (hy : ev n l y = u) (hi : ow[i]? = some q) (hv : q.v = .slice (some ⟨g, 0, none⟩) m c) (hs : ∀ w, (sizeOf t).run P w = .ok u.cells.size w) (hj : j + u.cells.size ≤ q.xs.length)
    (h1 : u.cells.toList.all Value.oneCell' = true) (hx' : q.xs.take j ++ u.cells.toList ++ q.xs.drop (j + u.cells.size) = xs') (h : ∀ w', St X W r0 rd bx (ow.set i ⟨q.e, q.size, q.v, q.n, xs'⟩) w' → WL P ops Q rest (fr n l) w') : WL P ops Q (⟨none, .store t x y, ty, pos, af, none⟩ :: rest) (fr n l) w := by
  have hO := (S.own _ (List.mem_of_getElem? hi)).1
  rcases hO.2 with ⟨e, _⟩ | ⟨g', cap, cur, e, hb, hh, h2, h3, h4, h5⟩
  · rw [hv] at e; cases e
  · rw [hv] at e
    injection e with e1 e2 e3
    injection e1 with e1
    injection e1 with e1
    subst e1 e2 e3
    have hxl := hO.1
    have hle : j + u.cells.size ≤ cur.size := by
      have : q.n * q.size ≤ c * q.size := Nat.mul_le_mul_right _ h2
      omega
    have hr := run_storeAt (P := P) (t := t) hh hs (Nat.ble_eq_true_of_le hle) (fun c hc => List.all_eq_true.1 h1 c (by simpa using hc))
    refine l_tn (w' := w.setRow g (over cur j u.cells.toList)) (.inr ⟨rfl, ?_⟩) (h _ (S.grew hi (by rw [hv]; exact grownBy_setRow w g _) ?_ (.inl rfl)))
    · simp [execOp, hx, hy, hr]
    · have hsz : (over cur j u.cells.toList).size = cur.size := over_size (by simpa using hle)
      refine ⟨?_, .inr ⟨g, c, over cur j u.cells.toList, hv, Nat.zero_le _, setRow_heap w g cur _ _ _ hh, h2, h3, by rw [hsz]; exact h4, ?_⟩⟩
      · show xs'.length = q.n * q.size
        rw [← hx', ← hxl]; simp; omega
      · show (over cur j u.cells.toList).toList.take (q.n * q.size) = xs'
        unfold over
        rw [List.toList_toArray, takeOver_ (by simp; omega) (by simp; rw [h4]; exact Nat.mul_le_mul_right _ h2), h5, ← hx']
        simp
/-- an operation whose guard holds is as one without -/
theorem l_ug {j d' : Nat} {b : Bool} {op : Op} (hd : (ops.toList[j]?).bind (·.dst) = some d') (hb : lk n l d' = .bool b) (h : WL P ops Q (⟨some d, op, ty, pos, af, none⟩ :: rest) (fr n l) w) : WL P ops Q (⟨some d, op, ty, pos, af, some (j, b)⟩ :: rest) (fr n l) w := ⟨by
  have hd : (ops[j]?).bind (·.dst) = some d' := by rwa [Array.getElem?_toList] at hd
  have hw : Region.wanted (⟨some d, op, ty, pos, af, some (j, b)⟩ : Oper) (yielded ops (fr n l).tmps) = true := by
    unfold Region.wanted; show (yielded ops (bld n l) j == some b) = true
    rw [yielded_at hd hb]; simp
  have h1 := h.out
  unfold wpList at h1 ⊢
  rw [if_pos hw]
  rw [if_pos (by rfl)] at h1
  exact h1⟩
end
end Go.Proofs.Ytkjknlnhffmkkaa
