/- Steps of an iterator: a region that calls yield; a slice with three indices, told whole. Plain theorems over any program. -/
import Derived.Test.YtkjknlnhffmkkaaQEngR
import Derived.Test.YtkjknlnhffmkkaaQBytesE
namespace Go.Proofs.Ytkjknlnhffmkkaa
variable {ds : List Deferred}
open Go.RowKit
set_option linter.unusedVariables false
theorem SliceR.capM {α : Type} {size : Nat} {R : CR α} {rd : Rd} {A : Option Addr} {n c m : Nat} {l : List α} (h : SliceR size R rd (.slice A n c) l) (h1 : n ≤ m) (h2 : m ≤ maxLen) : SliceR size R rd (.slice A n m) l := by
  obtain ⟨A', c', xs, e, _, _, h3, h4⟩ := h
  injection e with e1 e2 e3
  subst e1 e2 e3
  exact ⟨A, m, xs, rfl, h1, h2, h3, h4⟩
theorem y_sl3R {P : Program} {t el : TypeId} {rd : Rd} {α : Type} {size n c lo hi mx : Nat} {R : CR α} {l : List α} {A : Option Addr} (hu : P.underlying t = some (.slice el)) (hs : ∀ w, (sizeOf el).run P w = .ok size w) (h : SliceR size R rd (.slice A n c) l) (h1 : lo < hi) (h2 : hi ≤ mx) (h3 : mx ≤ l.length) :
    ∃ v, SliceR size R rd v ((l.take hi).drop lo) ∧ ∀ {C : World → Prop} {e : Operand → Value} {d : Option Tmp} {ty : TypeId} {pos : String} {af : Array Edge} {gd : Option (Nat × Bool)} {x yl yh ym : Operand} {kl kh km : IntKind} {ql qh qm : Int}, e x = .slice A n c → e yl = .int kl ql → ql = lo → e yh = .int kh qh → qh = hi → e ym = .int km qm → qm = mx → Yv P C e ⟨d, .slice t x (some yl) (some yh) (some ym), ty, pos, af, gd⟩ v := by
  have hl := h.len
  refine ⟨.slice (if mx = lo then A else A.map (·.add (lo * size))) (hi - lo) (mx - lo), ?_, fun {C e d ty pos af gd x yl yh ym kl kh km ql qh qm} hx hl el' hh eh hm em w _ => ?_⟩
  · rw [if_neg (by omega)]
    have hh := SliceR.head_ h (show hi ≤ l.length by omega)
    cases A with
    | none => have := SliceR.nil_of hh; have h0 : min hi l.length = 0 := by rw [← List.length_take, this]; rfl
              omega
    | some ad => exact (SliceR.cutA hh (by simp; omega)).capM (by omega) (by omega)
  · subst el' eh em
    have e2 : (Instr.sliceBounds true n c (some (e yl)) (some (e yh)) (some (e ym))).run P w = .ok (lo, hi, mx) w := by
      have q1 : lo ≤ hi := by omega
      have q3 : mx ≤ c := by omega
      simp [Instr.sliceBounds, hl, hh, hm, Instr.sliceBound, asIntOf, q1, h2, q3]
    simp [execOp, hx, Instr.sliceAt, Instr.slice, run_underlying hu, e2, hs]
/-! ## a region that calls yield -/
section
variable {P : Program} {Q : Exit → Act → World → Prop} {s : List Kf} {w : World} {n d : Nat} {l : Ov} {ops : Array Oper} {C : World → Prop} {op : Op} {ty : TypeId} {pos : String} {af : Array Edge} {rest : List Oper}
structure WI (P : Program) (ops : Array Oper) (Q : Exit → Act → World → Prop) (l : List Oper) (a : Act) (w : World) : Prop where
  out : wpListIn Fence.wide 3 P ops Q l a w
theorem e_regI {id : Nat} {a : Act} {l : List Oper} (h : WI P l.toArray (stk P Q s) l a w) : (Code.region id l.toArray false).wp P (stk P Q s) a w := wpIn_wide.1 (wpIn_region_lit h.out)
theorem i_nil {a : Act} (h : stk P Q s .normal a w) : WI P ops (stk P Q s) [] a w := ⟨h⟩
theorem iy (v : Value) (S : C w) (Y : Yv P C (ev n l) ⟨some d, op, ty, pos, af, none⟩ v) (h : WI P ops Q rest (fd ds n ((d, v) :: l)) w) : WI P ops Q (⟨some d, op, ty, pos, af, none⟩ :: rest) (fd ds n l) w := ⟨by
  unfold wpListIn
  rw [if_pos (by rfl)]
  refine ⟨fun _ _ => trivial, ?_⟩
  rw [show Fence.wide.round = none from rfl, Oper.semAt_none]
  rw [eval_fr, Y w S]
  exact h.out⟩
theorem i_yd {ro mm : Nat} {az : Array Operand} {ts : Array TypeId} {x : Operand} {vs : List Value} {R : Ending → World → Prop} (hx : ev n l x = .func (.yield ro) #[] #[]) (hv : az.toList.map (ev n l) = vs) (hY : YieldAt Fence.wide mm P ro vs.toArray w R)
    (h : ∀ e w', R e w' → ∃ v, e = .returned v ∧ WI P ops Q rest (fd ds n ((d, v) :: l)) w') : WI P ops Q (⟨some d, .call ⟨.value x, az, ts⟩, ty, pos, af, none⟩ :: rest) (fd ds n l) w := ⟨by
  unfold wpListIn
  rw [if_pos (by rfl)]
  refine ⟨fun _ _ => trivial, ?_⟩
  obtain ⟨f, tmps, assign, body, hy, hR⟩ := hY
  have e : (execOp (ev n l) ⟨some d, .call ⟨.value x, az, ts⟩, ty, pos, af, none⟩).run P w = .ok (.round ro f tmps assign body) w := by
    have hv' : az.map (ev n l) = vs.toArray := amap hv
    simp [execOp, resolve, hx, invoke, Deferred.ofValue, hv', hy]
  rw [show Fence.wide.round = none from rfl, Oper.semAt_none]
  rw [eval_fr, e]
  refine ⟨fun e => (by cases e), RoundIn.mono (R := R) ⟨hR.1, fun c cs _ => hR.2 c cs (room_wide _)⟩ fun e w' k => ?_⟩
  obtain ⟨v, rfl, h2⟩ := h e w' k
  exact h2.out⟩
end
section
variable {P : Program} {C : World → Prop} {e : Operand → Value} {w : World} {n : Nat} {l : Ov} {fn : Func} {R : Ending → World → Prop}
theorem y_minE {x y : Operand} {d : Option Tmp} {ty : TypeId} {pos : String} {af : Array Edge} {g : Option (Nat × Bool)} {k : IntKind} {p q r : Int} {ts : Array TypeId} (h1 : e x = .int k p) (h2 : e y = .int k q) (h : min p q = r) : Yv P C e ⟨d, .call ⟨.builtin .min, #[x, y], ts⟩, ty, pos, af, g⟩ (.int k r) := h ▸ y_min h1 h2
theorem ret0 (hr : fn.results = #[]) (hR : ∀ v, R (.returned v) w) : bodyPost P fn R .ret (fr n l) w := ⟨rfl, _, results_none hr _ _ _, hR _⟩
theorem n_ret {a : Act} (h : bodyPost P fn R .ret a w) : stk P (bodyPost P fn R) [] .normal a w := h
end
/-- two at a time -/
abbrev Twos (rd : Rd) := { x : Value × UInt8 × UInt8 // SliceR 1 ByteR rd x.1 [x.2.1, x.2.2] }
def flat {rd : Rd} (l : List (Twos rd)) : List UInt8 := l.flatMap fun x => [x.1.2.1, x.1.2.2]
theorem flat_snoc {rd : Rd} (l : List (Twos rd)) (x : Twos rd) : flat (l ++ [x]) = flat l ++ [x.1.2.1, x.1.2.2] := by simp [flat]
theorem take_two {c : List UInt8} {i : Nat} {a b : UInt8} (h1 : c[2 * i]? = some a) (h2 : c[2 * i + 1]? = some b) : c.take (2 * (i + 1)) = c.take (2 * i) ++ [a, b] := by
  rw [show 2 * (i + 1) = 2 * i + 1 + 1 by omega, take_snoc h2, take_snoc h1, List.append_assoc]; rfl
theorem pair_at {c : List UInt8} {i : Nat} {a b : UInt8} (h1 : c[2 * i]? = some a) (h2 : c[2 * i + 1]? = some b) : (c.take (2 * i + 2)).drop (2 * i) = [a, b] := by
  have h := take_two h1 h2
  rw [show 2 * (i + 1) = 2 * i + 2 by omega] at h
  obtain ⟨hl, _⟩ := List.getElem?_eq_some_iff.1 h1
  rw [h, List.drop_append_of_le_length (by simp; omega), List.drop_eq_nil_of_le (by simp; omega)]; rfl
theorem flat_even {rd : Rd} (l : List (Twos rd)) : (flat l).length = 2 * l.length := by
  induction l with
  | nil => rfl
  | cons x l ih => simp [flat] at ih ⊢; omega
theorem le_putObj {rd : Rd} {W : World} {l : Nat} {o : Obj} (o' : Obj) (h : W.heap[l]? = some o) (hc : o.isCells = false) (hle : Rd.le rd (wrd W)) : Rd.le rd (wrd (W.putObj l o')) :=
  le_grown hle (grownBy_putObj' W l o') fun k e j => by
    cases e
    cases hr : rd l j with
    | none => rfl
    | some v => have := cells_of (hle _ _ _ hr) h; rw [hc] at this; cases this
theorem St.markKept {X : List Nat} {W w w' : World} {r0 rd rd' : Rd} {bx0 bx2 : List BxE} {ow0 ow2 : List OwE} (S : St X W r0 rd bx0 ow0 w) (k : St (blks bx0 ow0) w rd rd' bx2 ow2 w') {D : Nat} {o : Obj} (h : w.heap[D]? = some o) (hc : o.isCells = false) : w'.heap[D]? = some o :=
  (S.keepsFrom k 0).same D o (Nat.zero_le _) h hc
theorem pairsB_snoc : ∀ {k : Nat} {l : List UInt8} (a b : UInt8), l.length = 2 * k → pairsB (l ++ [a, b]) = pairsB l ++ [256 * iB a + iB b]
  | 0, l, a, b, h => by obtain rfl := List.length_eq_zero_iff.1 h; rfl
  | k + 1, [], a, b, h => by simp at h
  | k + 1, [c], a, b, h => by simp at h; omega
  | k + 1, c :: d :: l, a, b, h => by
    show (256 * iB c + iB d) :: pairsB (l ++ [a, b]) = _
    rw [pairsB_snoc (k := k) a b (by simp at h; omega)]; rfl
theorem shl8 {p : Int} (h0 : 0 ≤ p) (h1 : p ≤ 255) : IntKind.i64.wrap (p * (2 : Int) ^ 8) = 256 * p := by
  rw [show (2 : Int) ^ 8 = 256 from rfl, w64 (by omega) (by omega)]; omega
end Go.Proofs.Ytkjknlnhffmkkaa
