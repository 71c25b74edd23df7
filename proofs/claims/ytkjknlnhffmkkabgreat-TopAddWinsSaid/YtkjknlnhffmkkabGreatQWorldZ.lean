/- world.Play, as callers meet it. -/
import Derived.Test.YtkjknlnhffmkkabGreatQWorldY
import Derived.Test.YtkjknlnhffmkkabGreatQSame
namespace Go.Proofs.YtkjknlnhffmkkabGreat
open Go.RowKit
set_option linter.unusedVariables false
theorem Play_o (rd : Rd) (W : World) (hle : Rd.le rd (wrd W)) (n : Int) (v : Value) (l : List Do) (rl : Rd) (hls : Rd.le rl (wrd W)) (h : SliceR 8 DoR rl v l) (P : World' × List Int × Int) (hP : P = PlayW n l) : Calls Tryz.prog 14 #[.int .i64 n, v] W (fun e w' => ∃ wv ev xs rd', e = .returned (.tuple #[wv, ev, .int .i64 P.2.2]) ∧ St [] W rd rd' [] [⟨50, 1, ev, P.2.1.length, xs⟩] w' ∧ AggR WorldR rd' wv P.1 ∧ RowR 1 IntR rd' xs P.2.1) := by
  subst hP; exact Play_c rd W hle n v l rl hls h
theorem Play_n (rd : Rd) (W : World) (hle : Rd.le rd (wrd W)) (n : Int) (v : Value) (l : List Do) (rl : Rd) (hls : Rd.le rl (wrd W)) (h : SliceR 8 DoR rl v l) (P : World' × List Int × Int) (hP : P = PlayW n l) : Calls Tryz.prog 14 #[.int .i64 n, v] W (fun e w' => ∃ wv ev, e = .returned (.tuple #[wv, ev, .int .i64 P.2.2]) ∧ AggR WorldR (ext rd W w') wv P.1 ∧ SliceR 1 IntR (ext rd W w') ev P.2.1 ∧ Below W.heap.size W w') :=
  (Play_o rd W hle n v l rl hls h P hP).mono fun e w' ⟨wv, ev, xs, rd', h1, S, h2, h3⟩ => ⟨wv, ev, h1, am h2 S.out, S.rowOut (i := 0) rfl rfl rfl rfl h3, S.below⟩
end Go.Proofs.YtkjknlnhffmkkabGreat
