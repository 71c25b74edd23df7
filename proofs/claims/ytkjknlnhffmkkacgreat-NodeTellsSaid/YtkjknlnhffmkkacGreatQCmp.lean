/- The library's comparisons, and the orders of what stays and of tallies. -/
import Derived.Test.YtkjknlnhffmkkacGreatQCmpW
namespace Go.Proofs.YtkjknlnhffmkkacGreat
open Go.RowKit
set_option linter.unusedVariables false
theorem isNaN_c (rd:Rd) (W:World) (hle:Rd.le rd (wrd W)) (a:Int) :
    Calls Tryz.prog 126 #[(.int .i64 a)] W (fun e w' => e = .returned (.bool false) ∧ Below W.heap.size W w') :=
  (D.isNaN_c rd W hle a).mono fun e w' h => ⟨h.1,h.2.kit⟩

theorem Compare_c (rd:Rd) (W:World) (hle:Rd.le rd (wrd W)) (a b:Int) :
    Calls Tryz.prog 116 #[(.int .i64 a),(.int .i64 b)] W (fun e w' => e = .returned (.int .i64 (cmpI a b)) ∧ Below W.heap.size W w') :=
  (D.Compare_c rd W hle a b).mono fun e w' h => ⟨h.1,h.2.kit⟩

theorem Or_c (rd:Rd) (W:World) (hle:Rd.le rd (wrd W)) (v:Value) (l:List Int) (h:IntsR rd v l) :
    Calls Tryz.prog 115 #[v] W (fun e w' => e = .returned (.int .i64 (orI l)) ∧ Below W.heap.size W w') :=
  (D.Or_c rd W hle v l h).mono fun e w' h => ⟨h.1,h.2.kit⟩

theorem Order_c (rd:Rd) (W:World) (hle:Rd.le rd (wrd W)) (v u:Value) (a b:Live) (h1:AggR LiveR rd v a) (h2:AggR LiveR rd u b) :
    Calls Tryz.prog 86 #[v,u] W (fun e w' => e = .returned (.int .i64 (ordL a b)) ∧ Below W.heap.size W w') :=
  (D.Order_c rd W hle v u a b h1 h2).mono fun e w' h => ⟨h.1,h.2.kit⟩

theorem Tally_c (rd:Rd) (W:World) (hle:Rd.le rd (wrd W)) (v u:Value) (a b:Tally) (h1:AggR TallyR rd v a) (h2:AggR TallyR rd u b) :
    Calls Tryz.prog 87 #[v,u] W (fun e w' => e = .returned (.int .i64 (ordT a b)) ∧ Below W.heap.size W w') :=
  (D.Tally_c rd W hle v u a b h1 h2).mono fun e w' h => ⟨h.1,h.2.kit⟩
end Go.Proofs.YtkjknlnhffmkkacGreat
