/- Closed facts of the program: how its arguments are read. -/
import Derived.Test.YtkjknlnhffmkkaaQPl
import Derived.ProofKit
import Derived.SizedLaws
import Derived.ChangeArms
import Derived.ChangeShapes
import Derived.Deep.Slices
import Derived.Deep.Fields
import Derived.Test.YtkjknlnhffmkkaaRows
import Derived.JoinedOf
import Derived.Handed
namespace Go.Proofs.Ytkjknlnhffmkkaa
open Go.ChangeShapes Go.WideShapes Go.ChangeAt Go.RowKit
set_option linter.unusedVariables false

theorem weights_each {H : Type} {P : Program} {t : TypeId} {ts : List TypeId} {d : DataW H} {ds : List (DataW H)} {q : Nat → Bool} (h : (DataW.weightsEach P (t :: ts) (d :: ds)).all q = true) :
    (d.weights P t).all q = true ∧ (DataW.weightsEach P ts ds).all q = true := by
  simpa [DataW.weightsEach, List.all_append, Bool.and_eq_true] using h

/-- whatever of type t the form reads, R reads; Bd: what is known of its size -/
def Opens (P : Program) (t : TypeId) {α : Type} (R : CR α) (Bd : α → Prop) : Prop := ∀ {H : Type} (enc : TypeId × Value → H) (w : World) (fuel : Nat) (cs : List Value) (x : DataW H × List MemPlace),
  DataW.trod enc P w 0 (fun _ => true) true fuel t cs = some x → (x.1.weights P t).all (· ≤ reachBytes) = true → ∃ a, R (wrd w) cs a ∧ Bd a

theorem opens_int {P : Program} {t : TypeId} (ht : P.underlying t = some (.int .i64)) : Opens P t IntR (fun n => (Lit.int .i64 n).wf = true) := by
  intro H enc w fuel cs x h _
  obtain ⟨n, rfl, rfl, hw⟩ := DataW.trod_int ht h
  exact ⟨n, rfl, hw⟩
theorem opens_byte {P : Program} {t : TypeId} (ht : P.underlying t = some (.int .u8)) : Opens P t ByteR (fun _ => True) := by
  intro H enc w fuel cs x h _
  obtain ⟨n, rfl, rfl, hw⟩ := DataW.trod_int ht h
  have hx : 0 ≤ n ∧ n ≤ 255 := by simpa [Lit.wf, IntKind.min, IntKind.max, IntKind.signed, IntKind.bits] using hw
  refine ⟨UInt8.ofNat n.toNat, ?_, trivial⟩
  have e : ((UInt8.ofNat n.toNat).toNat : Int) = n := by
    have : n.toNat < 256 := by omega
    simp [UInt8.toNat_ofNat', Nat.mod_eq_of_lt this]
    omega
  show _ = [Value.int .u8 ((UInt8.ofNat n.toNat).toNat : Int)]
  rw [e]

theorem weightsAll_mem {H : Type} {P : Program} {e : TypeId} : ∀ {l : List (DataW H)} {d : DataW H}, d ∈ l → ∀ n ∈ d.weights P e, n ∈ DataW.weightsAll P e l
  | d' :: l, d, hd, n, hn => by
    simp only [DataW.weightsAll, List.mem_append]
    rcases List.mem_cons.1 hd with h | h
    · subst h; exact .inl hn
    · exact .inr (weightsAll_mem h n hn)

theorem rows_of {α : Type} {size : Nat} {R : CR α} {Bd : α → Prop} {rd : Rd} {b o : Nat} : ∀ (len : Nat),
    (∀ i, i < len → ∃ cs a, cs.length = size ∧ (∀ j u, cs[j]? = some u → rd b (o + (i * size + j)) = some u) ∧ R rd cs a ∧ Bd a) →
    ∃ xs l, l.length = len ∧ RowR size R rd xs l ∧ (∀ j u, xs[j]? = some u → rd b (o + j) = some u) ∧ ∀ a ∈ l, Bd a
  | 0, _ => ⟨[], [], rfl, rfl, by simp, by simp⟩
  | n + 1, h => by
    obtain ⟨xs, l, h1, h2, h3, h4⟩ := rows_of n fun i hi => h i (by omega)
    obtain ⟨cs, a, e1, e2, e3, e4⟩ := h n (by omega)
    have hlen := h2.len
    refine ⟨xs ++ cs, l ++ [a], by simp [h1], h2.push e1 e3, fun j u hu => ?_, fun a' ha => ?_⟩
    · rcases Nat.lt_or_ge j xs.length with hj | hj
      · rw [List.getElem?_append_left hj] at hu
        exact h3 j u hu
      · rw [List.getElem?_append_right hj] at hu
        have := e2 _ u hu
        rw [hlen, h1] at this hj
        rw [show n * size + (j - n * size) = j by omega] at this
        exact this
    · rcases List.mem_append.1 ha with h | h
      · exact h4 a' h
      · rw [List.mem_singleton.1 h]; exact e4

theorem opens_slice {P : Program} {t e : TypeId} {α : Type} {size bytes : Nat} {R : CR α} {Bd : α → Prop} (ht : P.underlying t = some (.slice e)) (hc : P.cellsOf e = size) (hby : P.bytesOf e = bytes) (hs : 0 < size) (ho : Opens P e R Bd) :
    Opens P t (SlC size R) (fun l => l.length * bytes ≤ reachBytes ∧ ∀ a ∈ l, Bd a) := by
  intro H enc w fuel cs x h hwt
  rcases Go.Deep.open_slice ht h with ⟨rfl, rfl⟩ | ⟨a, len, cap, m, n, D, Pl, rfl, hb, hl, hm, hmm, rfl, hi⟩
  · exact ⟨[], ⟨_, rfl, SliceR.nil_ _⟩, by simp, by simp⟩
  · have hlm : len ≤ m := by rw [hmm]; split <;> omega
    simp only [DataW.weights, ht, List.all_cons, Bool.and_eq_true, decide_eq_true_eq, List.length_map, List.length_range, hby] at hwt
    obtain ⟨hw1, hw2⟩ := hwt
    by_cases h0 : len = 0
    · subst h0
      exact ⟨[], ⟨_, rfl, SliceR.empty_ _ _ _ hm⟩, by simp, by simp⟩
    · have hsp : a.spot = none ∨ P.cellsOf e = 0 := by
        obtain ⟨cs', hcs, _⟩ := hi 0 (by omega)
        obtain ⟨_, hlen, hat⟩ := World.cells?_some hcs
        rcases Nat.eq_zero_or_pos (P.cellsOf e) with hz | hz
        · exact .inr hz
        · have := hat 0 hz
          rw [← hlen] at hz
          rw [List.getElem?_eq_getElem hz] at this
          simp only [Nat.zero_mul, Addr.add, if_pos] at this
          refine .inl ?_
          unfold World.cell? at this
          split at this
          · split at this
            · cases this
            · rename_i hns; simpa using hns
          · cases this
      obtain ⟨b, o, sp⟩ := a
      have key : ∃ xs l, l.length = len ∧ RowR size R (wrd w) xs l ∧ (∀ j u, xs[j]? = some u → wrd w b (o + j) = some u) ∧ ∀ a ∈ l, Bd a := by
        refine rows_of len fun i hil => ?_
        obtain ⟨cs', hcs, htr⟩ := hi i (by omega)
        obtain ⟨_, hlen, hat⟩ := World.cells?_some hcs
        obtain ⟨y, hR, hB⟩ := ho enc w n cs' _ htr (by
          rw [List.all_eq_true] at hw2 ⊢
          intro z hz
          refine hw2 z (List.mem_append.2 (.inl (weightsAll_mem (d := D i) ?_ z hz)))
          exact List.mem_map.2 ⟨i, List.mem_range.2 hil, rfl⟩)
        refine ⟨cs', y, hlen.trans hc, fun j u hu => ?_, hR, hB⟩
        have hj : j < cs'.length := (List.getElem?_eq_some_iff.1 hu).1
        have hns : sp = none := by
          rcases hsp with h | h
          · exact h
          · omega
        subst hns
        have := hat j (by omega)
        rw [hu, hc] at this
        rw [show (Addr.add (Addr.add ⟨b, o, none⟩ (i * size)) j) = ⟨b, o + (i * size + j), none⟩ by unfold Addr.add; split <;> split <;> simp_all <;> omega] at this
        exact this
      obtain ⟨xs, l, k1, k2, k3, k4⟩ := key
      rcases l with _ | ⟨y, l⟩
      · simp at k1; omega
      · refine ⟨y :: l, ⟨_, rfl, some ⟨b, o, sp⟩, cap, xs, by rw [k1], by omega, hm, k2, fun _ => ⟨b, o, ?_, k3⟩⟩, ?_, k4⟩
        · rcases hsp with h | h
          · simp only at h; rw [h]
          · omega
        · rw [k1]
          refine Nat.le_trans (Nat.mul_le_mul_right _ ?_) hw1
          omega

theorem trodAll_below {H : Type} {enc : TypeId × Value → H} {P : Program} (hl : laidOutB P = true) {W W' : World} (hb : Below W.heap.size W W') : ∀ {ts : List TypeId} {vs : List Value} {ds : List (DataW H)} {ps : List MemPlace},
    ts.all (fun t => P.readableRec t && decide (t < P.types.size)) = true → DataW.TrodAll enc P W 0 (fun _ => true) true ts vs ds ps → (∀ x ∈ ps, x.block < W.heap.size) → DataW.TrodAll enc P W' 0 (fun b => decide (b < W.heap.size)) true ts vs ds ps
  | [], [], [], _, _, h, _ => h
  | t :: ts, v :: vs, d :: ds, ps, hr, ⟨p, q, h1, h2, e⟩, hlt => by
    simp only [List.all_cons, Bool.and_eq_true, decide_eq_true_eq] at hr
    subst e
    exact ⟨p, q, Below.trod hl hr.1.1 hr.1.2 h1 hb (fun x hx => hlt x (List.mem_append.2 (.inl hx))), trodAll_below hl hb hr.2 h2 (fun x hx => hlt x (List.mem_append.2 (.inr hx))), rfl⟩
  | [], _ :: _, _, _, _, h, _ => h.elim
  | [], [], _ :: _, _, _, h, _ => h.elim
  | _ :: _, [], _, _, _, h, _ => h.elim
  | _ :: _, _ :: _, [], _, _, h, _ => h.elim

/-- true, and nothing that was there has turned: the law's row -/
theorem close_law {H : Type} {enc : TypeId × Value → H} {P : Program} {f : Func} {s : ChangeSpec} {W W' : World} {args : Array Value} {ds gs : List (DataW H)} {before : List MemPlace} {tb : TypeId} (hl : laidOutB P = true)
    (hr : f.params.toList.all (fun t => P.readableRec t && decide (t < P.types.size)) = true) (hvars : s.vars = []) (hfn : ∀ gs : List (DataW H), gs = [] → s.fn H (ds ++ gs) = { results := [.lit (.bool true)], args := ds })
    (hres : f.resultTypes = #[tb]) (htb : P.underlying tb = some .bool) (hW : DataW.Whole enc P f.params.toList s.vars false W args.toList ds gs before) (hb : Below W.heap.size W W') :
    s.post enc P f false true false false W args (.bool true) W' := by
  have hW' := hW
  obtain ⟨p, q, hA, hV, e, h1, h2⟩ := hW
  rw [hvars] at hV
  obtain ⟨rfl, rfl⟩ := trodVars_none hV
  rw [List.append_nil] at e
  subst e
  have hfn := hfn [] rfl
  refine ⟨ds, [], before, [], before, [], hW', ?_, ?_, ?_, hb.frame _, fun h => by cases h⟩
  · rw [hfn, hres]
    exact trodAll_mk1 (shut_bool htb true)
  · rw [hfn]
    exact trodAll_below hl hb hr hA fun x hx => by simpa using hW'.lt x hx
  · rw [hfn, hvars]
    rfl

/-- an argument, read by R -/
theorem arg_of {H : Type} {enc : TypeId × Value → H} {P : Program} {t : TypeId} {α : Type} {R : CR α} {Bd : α → Prop} (ho : Opens P t R Bd) {w : World} {v : Value} {d : DataW H} {p : List MemPlace} (h : DataW.Trod enc P w 0 (fun _ => true) true t v d p)
    (hw : (d.weights P t).all (· ≤ reachBytes) = true) : ∃ a, R (wrd w) v.cells.toList a ∧ Bd a := by
  obtain ⟨fuel, hf⟩ := h
  exact ho enc w fuel _ _ hf hw
theorem arg_slice {H : Type} {enc : TypeId × Value → H} {P : Program} {t e : TypeId} {α : Type} {size : Nat} {R : CR α} {Bd : List α → Prop} (ht : P.underlying t = some (.slice e)) (ho : Opens P t (SlC size R) Bd) {r : Reach} {b0 : Nat} {w : World} {v : Value} {d : DataW H} {p : List MemPlace}
    (hv : Value.okWide P w r b0 t v) (h : DataW.Trod enc P w 0 (fun _ => true) true t v d p) (hw : (d.weights P t).all (· ≤ reachBytes) = true) : ∃ l, SliceR size R (wrd w) v l ∧ Bd l := by
  obtain ⟨l, ⟨v', e, hs⟩, hb⟩ := arg_of ho h hw
  obtain ⟨a0, len, cap, rfl⟩ := okWide_slice ht hv
  simp [Value.cells] at e
  subst e
  exact ⟨l, hs, hb⟩
theorem arg_agg {H : Type} {enc : TypeId × Value → H} {P : Program} {t : TypeId} {fs : Array Field} {α : Type} {R : CR α} {Bd : α → Prop} (ht : P.underlying t = some (.struct fs)) (ho : Opens P t R Bd) {r : Reach} {b0 : Nat} {w : World} {v : Value} {d : DataW H} {p : List MemPlace}
    (hv : Value.okWide P w r b0 t v) (h : DataW.Trod enc P w 0 (fun _ => true) true t v d p) (hw : (d.weights P t).all (· ≤ reachBytes) = true) : ∃ x, AggR R (wrd w) v x ∧ Bd x := by
  obtain ⟨x, hr, hb⟩ := arg_of ho h hw
  obtain ⟨cs, rfl, hsz⟩ := okWide_struct ht hv
  exact ⟨x, ⟨cs.toList, by simp, by simpa [Value.cells] using hr⟩, hb⟩


open Go.Deep in
theorem opens_5 {P : Program} {t : TypeId} {f0 f1 f2 f3 f4 : Field} {α0 : Type} {R0 : CR α0} {B0 : α0 → Prop} {α1 : Type} {R1 : CR α1} {B1 : α1 → Prop} {α2 : Type} {R2 : CR α2} {B2 : α2 → Prop} {α3 : Type} {R3 : CR α3} {B3 : α3 → Prop} {α4 : Type} {R4 : CR α4} {B4 : α4 → Prop} (ht : P.underlying t = some (.struct #[f0, f1, f2, f3, f4])) (hone : oneCellFields P #[f0, f1, f2, f3, f4] = true) (hC : P.cellsOf t = 5) (o0 : Opens P f0.type R0 B0) (o1 : Opens P f1.type R1 B1) (o2 : Opens P f2.type R2 B2) (o3 : Opens P f3.type R3 B3) (o4 : Opens P f4.type R4 B4)
    {H : Type} (enc : TypeId × Value → H) (w : World) (fuel : Nat) (cs : List Value) (x : DataW H × List MemPlace) (h : DataW.trod enc P w 0 (fun _ => true) true fuel t cs = some x) (hw : (x.1.weights P t).all (· ≤ reachBytes) = true) :
    ∃ c0 c1 c2 c3 c4 a0 a1 a2 a3 a4, cs = [c0, c1, c2, c3, c4] ∧ R0 (wrd w) [c0] a0 ∧ B0 a0 ∧ R1 (wrd w) [c1] a1 ∧ B1 a1 ∧ R2 (wrd w) [c2] a2 ∧ B2 a2 ∧ R3 (wrd w) [c3] a3 ∧ B3 a3 ∧ R4 (wrd w) [c4] a4 ∧ B4 a4 := by
  obtain ⟨xs, m, _, rfl, hlen, hxl, hf⟩ := DataW.trod_struct ht h
  rw [hC] at hlen
  match cs, hlen, xs, hxl with
  | [c0, c1, c2, c3, c4], _, [y0, y1, y2, y3, y4], _ =>
    simp only [DataW.weights, ht, List.map_cons, List.map_nil] at hw
    obtain ⟨k0, l0⟩ := hone_of hone 0 f0 rfl
    have e0 := hf 0 f0 rfl
    rw [k0, l0] at e0
    obtain ⟨z0, hw⟩ := weights_each hw
    obtain ⟨a0, r0, b0⟩ := o0 enc w m [c0] y0 (by simpa using e0) z0
    obtain ⟨k1, l1⟩ := hone_of hone 1 f1 rfl
    have e1 := hf 1 f1 rfl
    rw [k1, l1] at e1
    obtain ⟨z1, hw⟩ := weights_each hw
    obtain ⟨a1, r1, b1⟩ := o1 enc w m [c1] y1 (by simpa using e1) z1
    obtain ⟨k2, l2⟩ := hone_of hone 2 f2 rfl
    have e2 := hf 2 f2 rfl
    rw [k2, l2] at e2
    obtain ⟨z2, hw⟩ := weights_each hw
    obtain ⟨a2, r2, b2⟩ := o2 enc w m [c2] y2 (by simpa using e2) z2
    obtain ⟨k3, l3⟩ := hone_of hone 3 f3 rfl
    have e3 := hf 3 f3 rfl
    rw [k3, l3] at e3
    obtain ⟨z3, hw⟩ := weights_each hw
    obtain ⟨a3, r3, b3⟩ := o3 enc w m [c3] y3 (by simpa using e3) z3
    obtain ⟨k4, l4⟩ := hone_of hone 4 f4 rfl
    have e4 := hf 4 f4 rfl
    rw [k4, l4] at e4
    obtain ⟨z4, hw⟩ := weights_each hw
    obtain ⟨a4, r4, b4⟩ := o4 enc w m [c4] y4 (by simpa using e4) z4
    exact ⟨c0, c1, c2, c3, c4, a0, a1, a2, a3, a4, rfl, r0, b0, r1, b1, r2, b2, r3, b3, r4, b4⟩
end Go.Proofs.Ytkjknlnhffmkkaa

namespace Go.Proofs.Ytkjknlnhffmkkaa
open Go.ChangeShapes Go.WideShapes Go.ChangeAt Go.RowKit

theorem own_ : ownKnob Try.prog.godebug = none := by kernel_rfl
theorem laidOut : laidOutB Try.prog = true := by kernel_rfl
theorem op_int : Opens Try.prog 3 IntR (fun n => (Lit.int .i64 n).wf = true) := opens_int Try.underlying3
abbrev ClockBd (l : List Int) : Prop := l.length * 8 ≤ reachBytes ∧ ∀ x ∈ l, (Lit.int .i64 x).wf = true
theorem op_clock : Opens Try.prog 23 (SlC 1 IntR) (fun l => l.length * 8 ≤ reachBytes ∧ ∀ a ∈ l, (Lit.int .i64 a).wf = true) := opens_slice Try.underlying23 (by kernel_rfl) (by kernel_rfl) (by omega) op_int
end Go.Proofs.Ytkjknlnhffmkkaa

namespace Go.Proofs.Ytkjknlnhffmkkaa
open Go.ChangeShapes Go.WideShapes Go.ChangeAt Go.RowKit

abbrev UpdBd1 (u : Upd) : Prop := ClockBd u.seen
theorem op_upd : Opens Try.prog 32 UpdR UpdBd1 := by
  intro H enc w fuel cs x h hw
  obtain ⟨c0, c1, c2, c3, c4, a0, a1, a2, a3, a4, rfl, r0, _, ⟨sv, e, r1⟩, b1, r2, _, r3, _, r4, _⟩ := opens_5 Try.underlying32 (by kernel_rfl) (by kernel_rfl) op_int op_clock op_int op_int op_int enc w fuel cs x h hw
  cases r0; cases r2; cases r3; cases r4; cases e
  exact ⟨⟨a0, a1, a2, a3, a4⟩, ⟨_, rfl, r1⟩, b1⟩
end Go.Proofs.Ytkjknlnhffmkkaa
