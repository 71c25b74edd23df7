/- A range over a function: the frame carries a mark behind it; a round's body; what may be left as it lay. Plain theorems over any program; no condition. -/
import Derived.Test.YtkjknlnhffmkkaaQEg
import Derived.RangeFuncNested
import Derived.RangeFuncLeaves
import Derived.OwnWalkIn
import Derived.OrdersIn
namespace Go.Proofs.Ytkjknlnhffmkkaa
variable {ds : List Deferred}
open Go.RowKit
set_option linter.unusedVariables false

theorem cells_of {w : World} {b o : Nat} {v : Value} (h : w.cell? ⟨b, o, none⟩ = some v) {ob : Obj} (ho : w.heap[b]? = some ob) : ob.isCells = true := by
  unfold World.cell? at h
  simp only [ho] at h
  cases ob <;> first | rfl | (simp at h)
section
variable {X : List Nat} {W w w' : World} {r0 rd rd' : Rd} {bx : List BxE} {ow : List OwE}
theorem St.turn (S : St X W r0 rd bx ow w) {row : Option Nat} (hg : w.grownBy w' row) (hr : ∀ r, row = some r → W.heap.size ≤ r ∧ ∃ o : Obj, w.heap[r]? = some o ∧ o.isCells = false) : St X W r0 rd bx ow w' := by
  have nrd : ∀ k, row = some k → ∀ o, rd k o = none := fun k hk o => by
    obtain ⟨_, ob, ho, hc⟩ := hr k hk
    cases h : rd k o with
    | none => rfl
    | some v => have := cells_of (S.le _ _ _ h) ho; rw [hc] at this; cases this
  refine ⟨S.fr_grown hg (fun k hk => .inl (hr k hk).1), S.sub, S.sup, le_grown S.le hg nrd, fun p hp => ⟨(S.box p hp).1, keep_box S hg hp (fun e => ?_), (S.box p hp).2.2⟩, fun q hq => ⟨keep_own S hg hq ?_, (S.own q hq).2⟩, S.d1, S.d2, S.d3⟩
  · obtain ⟨_, ob, ho, hc⟩ := hr _ e
    rw [(S.box p hp).2.1] at ho; injection ho with ho; subst ho; cases hc
  · cases hb : q.v.ownBlock with
    | none => exact .inl rfl
    | some g =>
      refine .inr fun e => ?_
      obtain ⟨_, ob, ho, hc⟩ := hr g e.symm
      rcases (S.own q hq).1.2 with ⟨h1, _⟩ | ⟨g', cap, cur, a, _, hh, _⟩
      · rw [h1] at hb; cases hb
      · rw [a] at hb; injection hb with hb; subst hb
        rw [hh] at ho; injection ho with ho; subst ho; cases hc
/-- what a round's body leaves as it lay -/
theorem St.keepsFrom {bx0 bx2 : List BxE} {ow0 ow2 : List OwE} (S : St X W r0 rd bx0 ow0 w) (k : St (blks bx0 ow0) w rd rd' bx2 ow2 w') (B : Nat) : KeepsFrom B w w' :=
  ⟨k.fr.size, fun i o _ hi hc => by
    refine (k.fr.block i (Array.getElem?_eq_some_iff.1 hi).1 fun hm => ?_).trans hi
    rcases blks_mem hm with ⟨p, hp, rfl⟩ | ⟨q, hq, hg⟩
    · rw [(S.box p hp).2.1] at hi; injection hi with hi; subst hi; cases hc
    · rcases (S.own q hq).1.2 with ⟨h1, _⟩ | ⟨g', cap, cur, a, _, hh, _⟩
      · rw [h1] at hg; cases hg
      · rw [a] at hg; injection hg with hg; subst hg
        rw [hh] at hi; injection hi with hi; subst hi; cases hc⟩
end
/-! ## in a round -/
section
variable {P : Program} {Q : Exit → Act → World → Prop} {s : List Kf} {a : Act} {w : World} {n r m : Nat} {l : Ov} {ops : Array Oper}
def plainB (ops : List Oper) : Bool := ops.all fun o => match o.op with | .defer _ => false | _ => true
theorem plain_of (h : plainB ops.toList = true) {o : Oper} (ho : o ∈ ops.toList) : ∀ c, o.op ≠ .defer c := fun c e => by
  have := List.all_eq_true.1 h o ho
  rw [e] at this; cases this
theorem op_in {o : Oper} {K K' : Act → World → Prop} (hd : ∀ c, o.op ≠ .defer c) (hK : ∀ a w, K a w → K' a w) (h : o.wp P a w K Q) : o.wpIn (Fence.wide.inRound r) m P a w K' Q := by
  refine ⟨fun f _ => trivial, ?_⟩
  rw [show (Fence.wide.inRound r).round = some r from rfl, Oper.semAt_some r _ _ hd]
  unfold Oper.wp at h
  generalize (execOp a.eval o).run P w = z at h ⊢
  cases z with
  | ok nx w' =>
    cases nx with
    | value v => exact hK _ _ h
    | skip => exact hK _ _ h
    | defer d => exact hK _ _ h
    | enter f args =>
      refine ⟨fun e => (by cases e), trivial, fun cs _ => ?_⟩
      obtain ⟨e, w2, fr, hR, hs, x⟩ := h cs
      refine ⟨e, w2, fr, ?_, comesIn_wide.2 hs, x⟩
      cases e with
      | returned v => exact hK _ _ hR
      | panicked c => exact hR
      | outgrown => exact hR
    | row row args =>
      refine ⟨fun e => (by cases e), fun c cs _ => ?_⟩
      obtain ⟨v, w2, hR, hs⟩ := h c cs
      exact ⟨v, w2, hK _ _ hR, stepsIn_wide.2 hs⟩
    | _ => exact h.elim
  | halt x w' => cases x <;> exact h
theorem any_in (hd : plainB ops.toList = true) (hL : ¬ LetsOut Q) : ∀ (f : Nat) (L : Array Bool) (a : Act) (w : World), wpAny P .any ops Q f L a w → wpAnyIn (Fence.wide.inRound r) m P .any ops Q f L a w
  | 0, _, _, _, h => h
  | f + 1, L, a, w, h => ⟨h.1, fun i hi => by
    have h2 := h.2 i hi
    unfold wpOp at h2
    unfold wpOpIn
    cases ho : ops[i]? with
    | none => simp only [ho] at h2 ⊢; exact any_in hd hL f _ _ _ h2
    | some o =>
      simp only [ho] at h2 ⊢
      have hm : o ∈ ops.toList := List.mem_of_getElem? (by rw [Array.getElem?_toList]; exact ho)
      by_cases hw : Region.wanted o (yielded ops a.tmps) = true
      · rw [if_pos hw] at h2 ⊢
        rcases h2 with h2 | h2
        · exact op_in (plain_of hd hm) (fun a w => any_in hd hL f _ a w) h2
        · exact absurd h2.2 hL
      · rw [if_neg hw] at h2 ⊢
        exact ⟨fun _ _ => trivial, any_in hd hL f _ _ _ h2⟩⟩
theorem list_in (hL : ¬ LetsOut Q) : ∀ (t : List Oper) (hd : plainB t = true) (a : Act) (w : World), wpList P ops Q t a w → wpListIn (Fence.wide.inRound r) m P ops Q t a w
  | [], _, _, _, h => h
  | o :: t, hd, a, w, h => by
    unfold wpList at h
    unfold wpListIn
    have hd2 : plainB t = true := by unfold plainB at hd ⊢; simp only [List.all_cons, Bool.and_eq_true] at hd; exact hd.2
    have hd1 : ∀ c, o.op ≠ .defer c := fun c e => by
      unfold plainB at hd; simp only [List.all_cons, Bool.and_eq_true] at hd
      have := hd.1; rw [e] at this; cases this
    by_cases hw : Region.wanted o (yielded ops a.tmps) = true
    · rw [if_pos hw] at h ⊢
      rcases h with h | h
      · exact op_in hd1 (fun a w => list_in hL t hd2 a w) h
      · exact absurd h.2 hL
    · rw [if_neg hw] at h ⊢
      exact ⟨fun _ _ => trivial, list_in hL t hd2 _ _ h⟩
theorem stk_out : ∀ (s : List Kf) (a : Act) (w : World), stk P Q s .outgrown a w → Q .outgrown a w
  | [], _, _, h => h
  | .seq _ :: s, a, w, h => stk_out s a w h
  | .blk _ :: s, a, w, h => stk_out s a w h
  | .lp _ :: s, a, w, h => stk_out s a w h
def NoR : Ending → World → Prop := fun _ _ => False
abbrev RQ (P : Program) : Exit → Act → World → Prop := bodyPost P default NoR
theorem no_out (s : List Kf) : ¬ LetsOut (stk P (RQ P) s) := fun ⟨a, w, h⟩ => stk_out s a w h
theorem f_blk {id : Nat} {F : Fence} {c : Code} (h : c.wpIn F m P (stk P Q (.blk id :: s)) a w) : (Code.block id c).wpIn F m P (stk P Q s) a w := wpIn_block h
theorem f_reg {id : Nat} {t : List Oper} (h : WL P t.toArray (stk P (RQ P) s) t a w) (hd : plainB t = true := by kernel_rfl) : (Code.region id t.toArray false).wpIn (Fence.wide.inRound r) m P (stk P (RQ P) s) a w :=
  wpIn_region_lit (list_in (no_out s) t hd a w h.out)
theorem f_b {id t : Nat} (C1 C2 : World → Prop) (k : Nat) (hm : P.follows .mixedOrders = true) (hk : ops.toList.length = t) (h : BL P ops (stk P (RQ P) s) C1 C2 k t (Array.replicate t false) a w.drew) (hd : plainB ops.toList = true := by kernel_rfl) : (Code.region id ops true).wpIn (Fence.wide.inRound r) m P (stk P (RQ P) s) a w :=
  wpIn_region_any hm (any_in hd (no_out s) _ _ _ _ (any_of_ah _ _ _ _ (by subst hk; simpa using h.out)))
end
/-! ## a function with a mark -/
section
variable {P : Program} {Q : Exit → Act → World → Prop} {s : List Kf} {w : World} {n : Nat} {l : Ov} {fn : Func} {R R' : Ending → World → Prop}
abbrev mk (D : Nat) : List Deferred := [{ target := .collected D, args := #[] }]
def bodyPostN (P : Program) (fn : Func) (R : Ending → World → Prop) : Exit → Act → World → Prop
  | .normal, a, w | .ret, a, w => (a.defers = [] ∧ ∃ v, (results fn a.tmps).run P w = .ok v w ∧ R (.returned v) w) ∨ ∃ D w', a.defers = mk D ∧ (Instr.takeDeferred D).run P w = .ok [] w' ∧ ∃ v, (results fn a.tmps).run P w' = .ok v w' ∧ R (.returned v) w'
  | _, _, _ => False
instance : NP (bodyPostN P fn R) := ⟨fun _ _ _ _ _ h => h.elim⟩
theorem e_enterN {c : Code} {f : FuncId} {args : List Value} (n : Nat) (hf : P.funcs[f]? = some fn) (hb : fn.body = some c) (hn : fn.ntmps = n) (hl : Nat.ble args.length n = true)
    (h : c.wp P (stk P (bodyPostN P fn R) []) (fr n (ini 0 args)) w) : Calls P f args.toArray w R := by
  refine callsIn_wide.1 (callsIn_of_wp_marks (F := Fence.wide) (n := 3) hf hb trivial (wpIn_wide.2 ?_))
  subst hn
  rw [ini_eq args fn.ntmps (Nat.le_of_ble_eq_true hl)]
  refine wp_mono h fun e a w' hq => ?_
  have key : (a.defers = [] ∧ ∃ v, (results fn a.tmps).run P w' = .ok v w' ∧ R (.returned v) w') ∨ (∃ D w2, a.defers = mk D ∧ (Instr.takeDeferred D).run P w' = .ok [] w2 ∧ ∃ v, (results fn a.tmps).run P w2 = .ok v w2 ∧ R (.returned v) w2) → LeavesInM Fence.wide 3 P fn a.tmps R a.defers .returning w' := by
    rintro (⟨hd, k⟩ | ⟨D, w2, hd, ht, k⟩)
    · rw [hd]; exact k
    · rw [hd]; exact ⟨by simp, .inl ⟨D, w2, rfl, ht, k⟩⟩
  cases e with
  | normal => exact key hq
  | ret => exact key hq
  | panic c => exact hq.elim
  | exit i => exact hq.elim
  | goto i => exact hq.elim
  | outgrown => exact hq.elim
theorem ret3n {r r' r'' : ResultVar} {v v' v'' : Value} (hr : fn.results = #[r, r', r'']) (h : RV P n l w r v) (h' : RV P n l w r' v') (h'' : RV P n l w r'' v'') (hR : R (.returned (.tuple #[v, v', v''])) w) : bodyPostN P fn R .ret (fr n l) w :=
  .inl ⟨rfl, _, res3 hr h h' h'', hR⟩
theorem ret3d {D : Nat} (hD : w.heap[D]? = some (.deferred (some []))) {r r' r'' : ResultVar} {v v' v'' : Value} (hr : fn.results = #[r, r', r'']) (h : RV P n l (w.putObj D (.deferred none)) r v) (h' : RV P n l (w.putObj D (.deferred none)) r' v') (h'' : RV P n l (w.putObj D (.deferred none)) r'' v'') (hR : R (.returned (.tuple #[v, v', v''])) (w.putObj D (.deferred none))) : bodyPostN P fn R .ret (fd (mk D) n l) w :=
  .inr ⟨D, _, rfl, run_takeDeferred hD, _, res3 hr h h' h'', hR⟩
/-- the loop: one loop variable, a plain left side -/
theorem e_rf {α : Type} {g : Operand} {p d : Nat} {ty : TypeId} {pos : String} {af : Array Edge} {id : Nat} {body : Code} (gf : Nat) (lb : Array Value) (hg : ev n l g = .func (.func gf) #[] lb) (eg : ∀ args w, (callFunc gf args).run P w = .ok (.enter gf args) w)
    (enc : α → Value) {Kp : World → World → Prop} {S Sp : List α → Prop} {N : Nat} (hseq : SeqStopsK Fence.wide 2 P gf lb (fun x => #[enc x]) Kp S Sp N w)
    (hKt : ∀ {A B C : World}, Kp A B → Kp B C → Kp A C) (hKb : ∀ (W : World) (l : Nat) (o o' : Obj), w.heap.size ≤ l → W.heap[l]? = some o → o.isCells = false → o.isWalk = false → Kp W (W.putObj l o'))
    (I : List α → World → Prop) (hI : OwnFrom w.heap.size I) (h0 : I [] w)
    (hbody : ∀ (r : Nat) (pre : List α) (x : α) (W : World), I pre W → pre.length < N → body.wpIn (Fence.wide.inRound r) 1 P (stk P (RQ P) [.lp fun _ W' => KeepsFrom w.heap.size W W' ∧ Kp W W' ∧ I (pre ++ [x]) W']) (fr n ((d, enc x) :: (p, enc x) :: l)) W)
    (hdone : ∀ (D : Nat) (xs : List α) (W : World), w.heap.size ≤ D → S xs → I xs W → W.heap[D]? = some (.deferred (some [])) → stk P Q s .normal (fd (mk D) n l) W) (hp : Nat.blt p n = true) :
    (Code.rangeFunc g #[p] (Code.region id [⟨some d, .assign (.tmp p), ty, pos, af, none⟩].toArray false) body).wp P (stk P Q s) (fr n l) w := by
  refine wpIn_wide.1 (wpIn_rangeFunc_ownG (F := Fence.wide) (n := 3) rfl (by decide) (gf := gf) (lb := lb) (by rw [eval_fr]; exact hg) trivial eg hseq hKt hKb (Below.refl _ _) (fun _ => rfl) I (fun _ _ _ => False) hI (fun _ _ _ _ _ h _ _ => h) h0 (fun x => fr n ((d, enc x) :: (p, enc x) :: l)) ?_ ?_ ?_ ?_)
  · intro r x W K hK
    have e : (#[p].zip #[enc x]).foldl (fun t (x : Nat × Value) => match x with | (p, v) => t.setIfInBounds p v) (fr n l).tmps = bld n ((p, enc x) :: l) := by simp [fr, fd, bld]
    rw [e]
    refine Code.wpIn_mono (Q := stk P (RQ P) [.lp K]) (fun e a w' h => ?_) (f_reg (a := fr n ((p, enc x) :: l)) (ly (C := fun _ => True) (enc x) trivial (y_as ?_) (l_nil (n_lp hK))))
    · cases e <;> first | exact h | exact h.elim | exact h.2 | (obtain ⟨_, _, _, h⟩ := h; exact h)
    · show lk n ((p, enc x) :: l) p = _
      have e : Nat.beq p p = true := Nat.beq_refl p
      simp only [lk, e, hp, Bool.and_self, cond_true]
  · intro r pre x W hi hlen
    refine wpIn_mono (hbody r pre x W hi hlen) fun e a w' h => ?_
    cases e <;> first | exact h | exact h.elim | exact h.2.elim | (obtain ⟨_, _, _, h⟩ := h; exact h.elim)
  · intro D xs W hD hS hi hk
    exact hdone D xs W hD hS hi hk
  · intro D c pre W _ _ h _
    exact h.elim
end
end Go.Proofs.Ytkjknlnhffmkkaa
