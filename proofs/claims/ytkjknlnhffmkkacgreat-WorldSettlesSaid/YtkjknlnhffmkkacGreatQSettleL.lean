/- What the statement on settling asks, as plain facts. No program in sight. -/
import Derived.Test.YtkjknlnhffmkkacGreatQPl
namespace Go.Proofs.YtkjknlnhffmkkacGreat
set_option linter.unusedVariables false

theorem getD_set' {α : Type} (l : List α) (i j : Nat) (x z : α) : (l.set i x).getD j z = l.getD j z ∨ (l.set i x).getD j z = x := by
  simp only [List.getD_eq_getElem?_getD, List.getElem?_set]
  split
  · split
    · right; rfl
    · left; rename_i h1 h2; subst h1; rw [List.getElem?_eq_none (by omega)]
  · left; rfl
theorem wy_set' (l : List (List (List Parcel))) (a b x y : Nat) (q : List Parcel) : wyL (setL l a b q) x y = wyL l x y ∨ wyL (setL l a b q) x y = q ∨ wyL (setL l a b q) x y = wyL l a y := by
  unfold wyL setL
  rcases getD_set' l a x ((l.getD a []).set b q) [] with h | h
  · left; rw [h]
  · rw [h]
    rcases getD_set' (l.getD a []) b y q [] with k | k
    · right; right; exact k
    · right; left; exact k
def Way20 (w : World') : Prop := ∀ a b, (wyL w.way a b).length ≤ 20
theorem Way20.set {w : World'} {a b : Nat} {q : List Parcel} {ns : List Node} (h : Way20 w) (hq : q.length ≤ 20) : Way20 ⟨ns, setL w.way a b q⟩ := fun x y => by
  rcases wy_set' w.way a b x y q with k | k | k
  · show (wyL (setL w.way a b q) x y).length ≤ 20; rw [k]; exact h x y
  · show (wyL (setL w.way a b q) x y).length ≤ 20; rw [k]; exact hq
  · show (wyL (setL w.way a b q) x y).length ≤ 20; rw [k]; exact h a y
theorem Way20.put {w : World'} {k : Nat} {r : Node × Int} (h : Way20 w) : Way20 (putW w k r).1 := by
  unfold putW; split
  · exact h
  · exact h
theorem Way20.drop {w : World'} {a b : Nat} (h : Way20 w) : Way20 (dropW w a b) := h.set (by have := h a b; rw [List.length_drop]; omega)
theorem Way20.step {w : World'} (h : Way20 w) (d : Do) : Way20 (stepW w d).1 := by
  unfold stepW
  split
  · split
    · exact h
    · split
      · exact h.put
      · exact h.put
  · split
    · split
      · exact h
      · split
        · unfold sendW
          split
          · exact h
          · rename_i h20
            split
            · refine h.set ?_
              have := h d.n.toNat d.to.toNat
              rw [List.length_append]; simp; omega
            · exact h
        · unfold nextW
          split
          · exact h
          · split
            · exact h.drop
            · exact h.put.drop
    · exact h
theorem Way20.run : ∀ {l : List Do} {w : World'}, Way20 w → Way20 (runW w l).1
  | [], w, h => h
  | d :: l, w, h => by
    show Way20 (runW (stepW w d).1 l).1
    exact (h.step d).run
theorem way20_start (n : Nat) : Way20 (startW n) := fun a b => by
  have : wyL (startW n).way a b = [] := by
    unfold wyL startW
    simp only [List.getD_eq_getElem?_getD, List.getElem?_replicate]
    by_cases h : a < n
    · rw [if_pos h]
      simp only [Option.getD_some, List.getElem?_replicate]
      split <;> rfl
    · rw [if_neg h]; simp
  rw [this]; simp

/-! ## rounds, told one by one -/
def rowTo (a b : Nat) : List (Nat × Nat) := ((List.range b).filter fun x => decide (a ≠ x)).map fun x => (a, x)
def roundTo (n a b : Nat) : List (Nat × Nat) := (List.range a).flatMap (rowPs n) ++ rowTo a b
theorem tells_app (x y : List (Nat × Nat)) : tells (x ++ y) = tells x ++ tells y := List.flatMap_append
theorem tells_len (x : List (Nat × Nat)) : (tells x).length = 2 * x.length := by
  induction x with
  | nil => rfl
  | cons p x ih => show (tellD p.1 p.2 ++ tells x).length = _; rw [List.length_append, ih]; simp [tellD]; omega
theorem rowTo_new {a b : Nat} (h : a ≠ b) : rowTo a (b + 1) = rowTo a b ++ [(a, b)] := by
  unfold rowTo; rw [List.range_succ, List.filter_append, List.map_append]; simp [h]
theorem rowTo_old {a b : Nat} (h : a = b) : rowTo a (b + 1) = rowTo a b := by
  unfold rowTo; rw [List.range_succ, List.filter_append, List.map_append]; simp [h]
theorem round_new {l p : List Do} {m a b : Nat} (hp : p = l ++ tells (roundTo m a b)) (h : ¬ (a : Int) = (b : Int)) : p ++ [⟨2, a, b, u0⟩] ++ [⟨3, a, b, u0⟩] = l ++ tells (roundTo m a (b + 1)) := by
  unfold roundTo at hp ⊢
  rw [rowTo_new (fun e => h (by rw [e])), ← List.append_assoc ((List.range a).flatMap (rowPs m)), tells_app, ← List.append_assoc l, ← hp, List.append_assoc]; rfl
theorem round_old {l p : List Do} {m a b : Nat} (hp : p = l ++ tells (roundTo m a b)) (h : (a : Int) = (b : Int)) : p = l ++ tells (roundTo m a (b + 1)) := by
  unfold roundTo at hp ⊢
  rw [rowTo_old (by omega)]; exact hp
theorem roundTo_end (m a : Nat) : roundTo m a m = roundTo m (a + 1) 0 := by
  unfold roundTo
  rw [List.range_succ, List.flatMap_append]
  simp [rowTo, rowPs]
theorem roundTo_all (m : Nat) : roundTo m m 0 = roundPs m := by
  unfold roundTo roundPs; simp [rowTo]
theorem roundTo_len {m : Nat} (h : m ≤ 6) (a b : Nat) : (roundTo m a b).length ≤ 6 * a + b := by
  have h2 : ∀ a, ((List.range a).flatMap (rowPs m)).length ≤ 6 * a := fun a => by
    induction a with
    | zero => simp
    | succ a ih =>
      rw [List.range_succ, List.flatMap_append, List.length_append, List.flatMap_singleton]
      have : (rowPs m a).length ≤ m := by
        unfold rowPs; rw [List.length_map]; exact Nat.le_trans (List.length_filter_le _ _) (by simp)
      omega
  have h3 : (rowTo a b).length ≤ b := by unfold rowTo; rw [List.length_map]; exact Nat.le_trans (List.length_filter_le _ _) (by simp)
  unfold roundTo; rw [List.length_append]; have := h2 a; omega

/-! ## what is on its way is lost, one by one -/
def allTo (m a b : Nat) : List (Nat × Nat) := ((List.range a).flatMap fun a => (List.range m).map fun b => (a, b)) ++ (List.range b).map fun y => (a, y)
theorem allTo_end (m a : Nat) : allTo m a m = allTo m (a + 1) 0 := by
  unfold allTo; rw [List.range_succ, List.flatMap_append]; simp
theorem allTo_all (m : Nat) : allTo m m 0 = allPs m := by unfold allTo allPs; simp
theorem drops_new {l q : List Do} {w : World'} {m a b i : Nat} {z : List Parcel} (hz : z = wyL w.way a b) (hq : q = l ++ dropsD w (allTo m a b) ++ List.replicate i (dropD a b)) (hi : i = z.length) : q = l ++ dropsD w (allTo m a (b + 1)) := by
  subst hz hi
  rw [hq]
  unfold allTo
  rw [List.range_succ, List.map_append, ← List.append_assoc ((List.range a).flatMap _)]
  unfold dropsD
  rw [List.flatMap_append, List.append_assoc]
  simp
theorem dropsD_len {w : World'} (h : Way20 w) (ps : List (Nat × Nat)) : (dropsD w ps).length ≤ 20 * ps.length := by
  induction ps with
  | nil => simp [dropsD]
  | cons p ps ih =>
    have := h p.1 p.2
    show (List.replicate _ _ ++ dropsD w ps).length ≤ _
    rw [List.length_append, List.length_replicate, List.length_cons]; omega
theorem allTo_len {m : Nat} (h : m ≤ 6) (a b : Nat) : (allTo m a b).length ≤ 6 * a + b := by
  have h2 : ∀ a, ((List.range a).flatMap fun a => (List.range m).map fun b => (a, b)).length ≤ 6 * a := fun a => by
    induction a with
    | zero => simp
    | succ a ih =>
      rw [List.range_succ, List.flatMap_append, List.length_append, List.flatMap_singleton, List.length_map, List.length_range]; omega
  unfold allTo; rw [List.length_append, List.length_map, List.length_range]; have := h2 a; omega
theorem way_at {n : Nat} {L : List Upd} {w : World'} (I : Inv n L w) {a b : Nat} {r : List (List Parcel)} {z : List Parcel} (hr : w.way[a]? = some r) (hz : r[b]? = some z) : z = wyL w.way a b := by
  have e : w.way.getD a [] = r := by rw [List.getD_eq_getElem?_getD, hr]; rfl
  unfold wyL; rw [e, List.getD_eq_getElem?_getD, hz]; rfl
theorem way_row {n : Nat} {L : List Upd} {w : World'} (I : Inv n L w) {a : Nat} {r : List (List Parcel)} (hr : w.way[a]? = some r) : r.length = n := I.ww r (List.mem_of_getElem? hr)
theorem round_q {m : Nat} (h1 : 1 ≤ m) (h3 : m ≤ 3) : ∃ q : Int, 2 * (m : Int) * (m : Int) = q ∧ 0 ≤ q ∧ q ≤ 18 ∧ 2 * ((roundPs m).length : Int) ≤ q := by
  have : m = 1 ∨ m = 2 ∨ m = 3 := by omega
  rcases this with rfl | rfl | rfl
  · exact ⟨2, by decide, by decide, by decide, by decide⟩
  · exact ⟨8, by decide, by decide, by decide, by decide⟩
  · exact ⟨18, by decide, by decide, by decide, by decide⟩
/-! ## in the end -/
structure SettleQ (m : Nat) (l : List Do) (w x y : World') : Prop where
  xl : x.nodes.length = m
  yl : y.nodes.length = m
  two : ∀ (i : Nat) d e, x.nodes[i]? = some d → x.nodes[0]? = some e → d.state = e.state
  log : ∀ (i : Nat) d, y.nodes[i]? = some d → d.log = []
  st : ∀ (i : Nat) d e, y.nodes[i]? = some d → x.nodes[i]? = some e → d.state = e.state
theorem settles_l {m : Nat} {l : List Do} {w x y : World'} (h1 : 1 ≤ m) (h6 : m ≤ 6) (hl : l.length ≤ 150) (hw : w = (runW (startW m) l).1)
    (hx : x = (runW (startW m) (l ++ dropsD w (allPs m) ++ tells (roundPs m) ++ tells (roundPs m))).1)
    (hy : y = (runW (startW m) (l ++ dropsD w (allPs m) ++ tells (roundPs m) ++ tells (roundPs m) ++ tells (roundPs m) ++ (List.range m).map pruneD)).1) : SettleQ m l w x y := by
  have I := (start_inv h1 h6).run (l := l)
  rw [← hw] at I
  have hs := settles_p I (Nat.le_trans (runL_len _ _) hl)
  have ex : x = (runW w (dropsD w (allPs m) ++ tells (roundPs m) ++ tells (roundPs m))).1 := by
    rw [hx, List.append_assoc, List.append_assoc, runW_app, ← hw, ← List.append_assoc]
  have ey : y = (runW w (dropsD w (allPs m) ++ tells (roundPs m) ++ tells (roundPs m) ++ tells (roundPs m) ++ (List.range m).map pruneD)).1 := by
    rw [hy, List.append_assoc, List.append_assoc, List.append_assoc, List.append_assoc, runW_app, ← hw, ← List.append_assoc, ← List.append_assoc, ← List.append_assoc]
  have nd : ∀ {v : World'} {i : Nat} {d : Node}, v.nodes[i]? = some d → ndW v i = d := fun {v i d} h => by unfold ndW; simp [h]
  have lt : ∀ {v : World'} {i : Nat} {d : Node}, v.nodes[i]? = some d → i < v.nodes.length := fun h => (List.getElem?_eq_some_iff.1 h).1
  have xl : x.nodes.length = m := by rw [ex]; exact hs.twoL
  have yl : y.nodes.length = m := by rw [ey]; exact hs.endL
  refine ⟨xl, yl, fun i d e hd he => ?_, fun i d hd => ?_, fun i d e hd he => ?_⟩
  · have := hs.two i (by have := lt hd; omega)
    rw [← ex, nd hd, nd he] at this; exact this
  · have := hs.log i (by have := lt hd; omega)
    rw [← ey, nd hd] at this; exact this
  · have := hs.st i (by have := lt hd; omega)
    rw [← ex, ← ey, nd hd, nd he] at this; exact this
end Go.Proofs.YtkjknlnhffmkkacGreat
