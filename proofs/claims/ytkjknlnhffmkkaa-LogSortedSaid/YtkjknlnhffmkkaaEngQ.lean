/- Small words for the printed steps. Plain theorems; no condition. -/
import Derived.Test.YtkjknlnhffmkkaaEngP
namespace Go.Proofs.Ytkjknlnhffmkkaa
open Go.RowKit
set_option linter.unusedVariables false
section
variable {P : Program} {Q : Exit → Act → World → Prop} {s : List Kf} {X : List Nat} {W w w' : World} {r0 rd : Rd} {bx bx' : List BxE} {ow ow' : List OwE} {n : Nat} {l m : Ov} {c : Code}
theorem e_trim (m : Ov) (h : Agree n l m) (k : ∀ j, c.wp P (stk P Q s) (fr n (m ++ j)) w) : c.wp P (stk P Q s) (fr n l) w := by rw [fr_keep h]; exact k l
theorem St.call' (S : St X W r0 rd bx ow w) (k : Below w.heap.size w w') : ∃ rd', St X W r0 rd' bx ow w' ∧ Rd.le rd rd' ∧ Rd.le (newer w' w.heap.size) rd' ∧ Rd.le (ext rd w w') rd' :=
  ⟨_, S.call k, le_ext S.le, newer_ext, Rd.le_refl _⟩
theorem St.frz' (S : St X W r0 rd bx ow w) {i g : Nat} {T : TypeId} {cs : Array Value} (hi : bx[i]? = some (g, T, cs)) (hX : X = []) : ∃ rd', St X W r0 rd' (bx.eraseIdx i) ow w ∧ Rd.le rd rd' ∧
    ∀ {α : Type} {size : Nat} {R : CR α} {xs : List α} {n c : Nat}, n = xs.length → xs.length ≤ c → c ≤ maxLen → RowR size R rd' cs.toList xs → SliceR size R rd' (.slice (some ⟨g, 0, none⟩) n c) xs :=
  ⟨_, S.frz hi (by subst hX; simp), S.frz_le hi, fun h1 h2 h3 h4 => S.frz_sl hi h1 h2 h3 h4⟩
theorem St.frzo' (S : St X W r0 rd bx ow w) {i : Nat} {q : OwE} (hi : ow[i]? = some q) (hX : X = []) : ∃ rd', St X W r0 rd' bx (ow.eraseIdx i) w ∧ Rd.le rd rd' ∧
    ∀ {α : Type} {R : CR α} {xs : List α}, q.n = xs.length → RowR q.size R rd' q.xs xs → SliceR q.size R rd' q.v xs :=
  ⟨_, S.frzo hi hX, S.frzo_le hi, fun h1 h2 => S.frzo_sl hi rfl rfl h1 rfl h2⟩
theorem St.out (S : St X W r0 rd bx ow w) : Rd.le rd (ext r0 W w) := fun b o v e => by
  unfold ext; split
  · rename_i h; exact S.sub b o v h e
  · exact S.le b o v e
theorem St.tk (S : St X W r0 rd bx ow w) (a b : Nat) (h1 : bx.take a = bx') (h2 : ow.take b = ow') : St X W r0 rd bx' ow' w := by
  subst h1 h2
  exact ⟨S.fr, S.sub, S.sup, S.le, fun p hp => S.box p (List.mem_of_mem_take hp), fun q hq => S.own q (List.mem_of_mem_take hq), S.d1.sublist (List.take_sublist _ _), S.d2.sublist (List.take_sublist _ _), fun p hp q hq => S.d3 p (List.mem_of_mem_take hp) q (List.mem_of_mem_take hq)⟩
theorem St.rw' (S : St X W r0 rd bx ow w) (h1 : bx = bx') (h2 : ow = ow') : St X W r0 rd bx' ow' w := by subst h1 h2; exact S
theorem fm {α : Type} {size : Nat} {R : CR α} [GoodR R] {rd rd' : Rd} {v : Value} {l : List α} (h : SliceR size R rd v l) (k : Rd.le rd rd') : SliceR size R rd' v l := h.mono GoodR.mono k
theorem rm {α : Type} {size : Nat} {R : CR α} [GoodR R] {rd rd' : Rd} {v : List Value} {l : List α} (h : RowR size R rd v l) (k : Rd.le rd rd') : RowR size R rd' v l := h.mono GoodR.mono k
theorem gm {α : Type} {R : CR α} [GoodR R] {rd rd' : Rd} {v : List Value} {x : α} (h : R rd v x) (k : Rd.le rd rd') : R rd' v x := GoodR.mono _ _ _ _ k h
theorem am {α : Type} {R : CR α} [GoodR R] {rd rd' : Rd} {v : Value} {x : α} (h : AggR R rd v x) (k : Rd.le rd rd') : AggR R rd' v x := by
  obtain ⟨cs, e, h⟩ := h; exact ⟨cs, e, gm h k⟩
theorem ival {k : IntKind} {a b : Int} (h : a = b) : Value.int k a = Value.int k b := by rw [h]
theorem bval {a b : Bool} (h : a = b) : Value.bool a = Value.bool b := by rw [h]
theorem rbool {a b : Bool} (h : a = b) : Ending.returned (.bool a) = .returned (.bool b) := by rw [h]
theorem rint {k : IntKind} {a b : Int} (h : a = b) : Ending.returned (.int k a) = .returned (.int k b) := by rw [h]
theorem nth_of {α : Type} {l : List α} {k : Nat} (h : k < l.length) : ∃ z, l[k]? = some z := ⟨l[k], List.getElem?_eq_getElem h⟩
theorem St.ownB (S : St [] W r0 rd bx ow w) {i : Nat} {q : OwE} (hi : ow[i]? = some q) : w.ownsRow W.heap.size q.e q.size q.v q.n q.xs := by
  have h := S.own _ (List.mem_of_getElem? hi)
  refine ⟨h.1.1, ?_⟩
  rcases h.1.2 with h1 | ⟨g, cap, cur, a, b, r⟩
  · exact .inl h1
  · exact .inr ⟨g, cap, cur, a, (h.2 g (by rw [a]; rfl)).1.elim id (fun h => by cases h), r⟩
theorem St.rowS {α : Type} {R : CR α} [GoodR R] {xs : List α} (S : St X W r0 rd bx ow w) {i size n : Nat} {q : OwE} {v : Value} (hi : ow[i]? = some q) (hv : q.v = v) (hn : q.n = xs.length) (hs : q.size = size) (hr : RowR size R rd q.xs xs) : SliceR size R (wrd w) v xs := by
  subst hv hs
  have hx := (S.own _ (List.mem_of_getElem? hi)).1
  have hr := rm hr S.le
  rcases hx.2 with ⟨h1, h2⟩ | ⟨g, cap, cur, h1, _, hh, hc, hm', _⟩
  · rw [h1]
    have : xs = [] := List.eq_nil_of_length_eq_zero (by omega)
    subst this
    exact SliceR.nil_ _
  · rw [h1]
    refine ⟨some ⟨g, 0, none⟩, cap, q.xs, by rw [hn], by omega, hm', hr, fun _ => ⟨g, 0, rfl, fun j u hu => ?_⟩⟩
    rw [h1] at hx
    have := hx.cells (g := g) rfl j u hu
    rw [Addr.add_mid, Nat.zero_add] at this
    rw [Nat.zero_add]
    exact this
theorem own_len (S : St X W r0 rd bx ow w) {i : Nat} {q : OwE} (hi : ow[i]? = some q) : ∃ A c, q.v = .slice A q.n c ∧ q.n ≤ c ∧ c ≤ maxLen := by
  rcases (S.own _ (List.mem_of_getElem? hi)).1.2 with ⟨h1, h2⟩ | ⟨g, cap, cur, h1, _, _, h4, h5, _⟩
  · exact ⟨none, 0, by rw [h1, h2], by omega, by simp [maxLen]⟩
  · exact ⟨_, cap, h1, h4, h5⟩
variable {C : World → Prop} {e : Operand → Value} {d : Option Tmp} {t ty yt : TypeId} {pos : String} {af : Array Edge} {g : Option (Nat × Bool)} {x y : Operand} {a b r : Bool}
theorem beq_run (ht : P.underlying t = some .bool) (w : World) : (Op.equalIn Op.maxDepth t (.bool a) (.bool b)).run P w = .ok (a == b) w := by
  show (Op.equalIn (9999 + 1) t (.bool a) (.bool b)).run P w = _
  unfold Op.equalIn
  simp [run_underlying ht]
theorem y_be (ht : P.underlying t = some .bool) (h1 : e x = .bool a) (h2 : e y = .bool b) (h : (a == b) = r) : Yv P C e ⟨d, .binOp .eql t x y yt, ty, pos, af, g⟩ (.bool r) := fun w _ => by
  subst h; simp [execOp, h1, h2, eqGuard, binOp, Op.equal, beq_run ht]
theorem y_bn (ht : P.underlying t = some .bool) (h1 : e x = .bool a) (h2 : e y = .bool b) (h : (a != b) = r) : Yv P C e ⟨d, .binOp .neq t x y yt, ty, pos, af, g⟩ (.bool r) := fun w _ => by
  subst h; simp [execOp, h1, h2, eqGuard, binOp, Op.equal, beq_run ht]; cases a <;> cases b <;> rfl
end
theorem y_eqa {P : Program} {C : World → Prop} {e : Operand → Value} {d : Option Tmp} {t ty yt : TypeId} {pos : String} {af : Array Edge} {g : Option (Nat × Bool)} {x y : Operand} {op : BinOp} {u u' v : Value} (G : ∀ x y w, (eqGuard op t x y u u').run P w = .ok () w) (hb : ∀ w, (binOp op t u u').run P w = .ok v w) (h : e x = u) (h' : e y = u') : Yv P C e ⟨d, .binOp op t x y yt, ty, pos, af, g⟩ v := fun w _ => by
  subst h h'
  simp only [execOp, Sem.run_bind, G, hb, Result.andThen_ok, Sem.run_pure]
theorem y_bv {P : Program} {C : World → Prop} {e : Operand → Value} {o : Oper} {a b : Bool} (Y : Yv P C e o (.bool a)) (h : a = b) : Yv P C e o (.bool b) := h ▸ Y
theorem y_neg {P : Program} {C : World → Prop} {e : Operand → Value} {d : Option Tmp} {t ty : TypeId} {pos : String} {af : Array Edge} {g : Option (Nat × Bool)} {x : Operand} {k : IntKind} {p r : Int} (h : e x = .int k p) (hr : k.wrap (0 - p) = r) : Yv P C e ⟨d, .unOp .neg t x, ty, pos, af, g⟩ (.int k r) := fun w _ => by
  subst hr; simp [execOp, h, Op.unary, Op.intArith]
theorem cv_int {P : Program} {s t : TypeId} {k k1 k2 : IntKind} {p r : Int} (hs : P.underlying s = some (.int k1)) (hd : P.underlying t = some (.int k2)) (h : k2.wrap p = r) : ∀ w, (convert s t (.int k p)).run P w = .ok (.int k2 r) w := fun w => by
  subst h; simp [convert, run_underlying hs, run_underlying hd, Conv.intToInt]
theorem y_shr {P : Program} {C : World → Prop} {e : Operand → Value} {d : Option Tmp} {t ty yt : TypeId} {pos : String} {af : Array Edge} {g : Option (Nat × Bool)} {x y : Operand} {k kk : IntKind} {p r : Int} {n : Nat} (h1 : e x = .int k p) (h2 : e y = .int kk n) (hn : n ≤ k.bits) (h : p / (2 ^ n : Int) = r) : Yv P C e ⟨d, .binOp .shr t x y yt, ty, pos, af, g⟩ (.int k r) := fun w _ => by
  subst h
  have e1 : min n k.bits = n := Nat.min_eq_left hn
  have e2 : ¬ ((n : Int) < 0) := by omega
  simp [execOp, h1, h2, eqGuard, binOp, Op.shift, e1, e2]
  rw [Int.fdiv_eq_ediv_of_nonneg _ (by exact Int.le_of_lt (Int.pow_pos (by decide)))]
theorem y_shl {P : Program} {C : World → Prop} {e : Operand → Value} {d : Option Tmp} {t ty yt : TypeId} {pos : String} {af : Array Edge} {g : Option (Nat × Bool)} {x y : Operand} {k kk : IntKind} {p r : Int} {n : Nat} (h1 : e x = .int k p) (h2 : e y = .int kk n) (hn : n ≤ k.bits) (h : k.wrap (p * (2 ^ n : Int)) = r) : Yv P C e ⟨d, .binOp .shl t x y yt, ty, pos, af, g⟩ (.int k r) := fun w _ => by
  subst h
  have e1 : min n k.bits = n := Nat.min_eq_left hn
  have e2 : ¬ ((n : Int) < 0) := by omega
  simp [execOp, h1, h2, eqGuard, binOp, Op.shift, e1, e2]
theorem ok_elemK {P : Program} {t e : TypeId} {z : Value} {size bytes : Nat} (hu : P.underlying t = some (.slice e)) (h : (P.info? e).map (fun i => (i.zero, i.size, i.bytes)) = some (some z, size, bytes)) (hz : z.cells.size = size) (hs : 0 < size) :
    ElemOk P t e size bytes := by
  obtain ⟨i, h1, h2, h3, h4⟩ := info_parts h
  exact ⟨i, z, hu, h1, h2, h3, h4, hz, hs⟩
theorem PtrC.nc {P : Program} {rd : Rd} {p : Value} {cs : List Value} (h : PtrC rd p cs) {C : World → Prop} {e : Operand → Value} {d : Option Tmp} {ty : TypeId} {pos : String} {af : Array Edge} {g : Option (Nat × Bool)} {x : Operand} (hx : e x = p) : Yv P C e ⟨d, .nilCheck x, ty, pos, af, g⟩ p := by
  obtain ⟨b, o, rfl, _⟩ := h
  exact y_nc hx
end Go.Proofs.Ytkjknlnhffmkkaa
