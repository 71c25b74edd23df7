/-
  No cell of these rows narrows 'for every input' (looked for: loops, veiled, ifaces, maps, wideKeys, modest, calm, conditions, laid).
  DERIVED. THE GIVEN ROWS OF THIS SEAT. 2 by the template 'for every input the law returns true; each argument reads behind the call as it read before'; 0 by the template 'total and deterministic' (their statements: YtkjknlnhffmkkabGreatTotals.lean).
  GIVEN WITH THE SEED: the statements are not yours to turn. If you find one false, say at which input.
  Laid BY PROGRAM, IN A SANDBOX (cutbox-rows.mjs): the forced cells as the released guide's own fill.sh prints them over the translation d3a9d048b68a5791… (all of the seat's roots in one cut). By AI agents, Wed Nov 11 2026. No macro, syntax, notation, axiom, sorry.
-/
import Derived.Test.YtkjknlnhffmkkabGreatChecked
import GoSem.Claim
import GoSem.ClaimJoined
import GoSem.ClaimMapViews
import Derived.JoinedTies
import Derived.KernelRfl
namespace Go.Proofs.YtkjknlnhffmkkabGreat
/- THE CELL 'sum', in the pinned program and in every row, IS THE sha256 OF THE DUMP (.gsa) THAT YtkjknlnhffmkkabGreatProg.lean LOADS. Nothing in Lean hashes anything: it is a label: what it is worth is what the hold of that sum in a sandbox is worth. -/
noncomputable def Tryz.pinned : Pinned := { name := "ytkjknlnhffmkkabgreat", sum := "d3a9d048b68a5791442cb4b5d46b023766baa179af009ef1df71cbd3cba4bd0d", checked := Tryz.checked }
namespace Rows
def none {H : Type} : Left H := { results := [], args := [] }

/-- 'prunetop.TopRegister': WHATEVER THE INPUT: true; the input reads as it did. -/
def topRegisterSpec : ChangeSpec := { name := "topRegister", fn := fun _ => fun
  | [d1, d2, d3, d4] => { results := [.lit (.bool true)], args := [d1, d2, d3, d4] }
  | _ => none }
def topRegisterRow : OpenClaim := { program := "ytkjknlnhffmkkabgreat", sum := "d3a9d048b68a5791442cb4b5d46b023766baa179af009ef1df71cbd3cba4bd0d", func := "prunewell/prunetop.TopRegister", spec := "topRegister", inPlace := ["slices.overlaps[prunewell/api.Live]", "slices.overlaps[prunewell/api.Tally]"], unfollowed := true, recurses := true, apart := false }
def TopRegisterSaid : Prop := topRegisterRow.holds Tryz.pinned (OpenSpec.ofChange topRegisterSpec)

/-- ITS FALSE NEIGHBOUR: 'it returns false'. Refute it at one input. -/
def topRegisterWrong : ChangeSpec := { name := "topRegister", fn := fun _ => fun
  | [d1, d2, d3, d4] => { results := [.lit (.bool false)], args := [d1, d2, d3, d4] }
  | _ => none }
def TopRegisterWrongFalsely : Prop := topRegisterRow.holds Tryz.pinned (OpenSpec.ofChange topRegisterWrong)

/-- 'prunetop.TopAddWins': WHATEVER THE INPUT: true; the input reads as it did. -/
def topAddWinsSpec : ChangeSpec := { name := "topAddWins", fn := fun _ => fun
  | [d1, d2] => { results := [.lit (.bool true)], args := [d1, d2] }
  | _ => none }
def topAddWinsRow : OpenClaim := { program := "ytkjknlnhffmkkabgreat", sum := "d3a9d048b68a5791442cb4b5d46b023766baa179af009ef1df71cbd3cba4bd0d", func := "prunewell/prunetop.TopAddWins", spec := "topAddWins", inPlace := ["slices.overlaps[prunewell/api.Live]", "slices.overlaps[prunewell/api.Tally]"], unfollowed := true, recurses := true, apart := false }
def TopAddWinsSaid : Prop := topAddWinsRow.holds Tryz.pinned (OpenSpec.ofChange topAddWinsSpec)

/-- ITS FALSE NEIGHBOUR: 'it returns false'. Refute it at one input. -/
def topAddWinsWrong : ChangeSpec := { name := "topAddWins", fn := fun _ => fun
  | [d1, d2] => { results := [.lit (.bool false)], args := [d1, d2] }
  | _ => none }
def TopAddWinsWrongFalsely : Prop := topAddWinsRow.holds Tryz.pinned (OpenSpec.ofChange topAddWinsWrong)

/- THE SECOND FORM. 'bulk': how many values and letters a reading holds, each counted each time it is reached (what is shared counts as often as it is met; a slice's spare places count too). A statement '..UptoSaid' is the law's where the arguments, and the package variables that the reading takes, are together of bulk at most 1048576: NARROWER than '..Said'. Prove '..Said' where nothing that the law and all that it calls make is longer than what came in: it says more and counts as full. Else prove '..UptoSaid'. A law counts once. -/
mutual
def uptoBulk {H : Type} : DataW H → Nat
  | .lit (.string bytes) => bytes.length + 1
  | .lit _ => 1
  | .nil => 1
  | .ptr d => uptoBulk d + 1
  | .slice elems spare => uptoBulkAll elems + uptoBulkAll spare + 1
  | .agg parts => uptoBulkAll parts + 1
  | .iface _ d => uptoBulk d + 1
  | .map entries => uptoBulkEntries entries + 1
  | .held _ => 1
def uptoBulkAll {H : Type} : List (DataW H) → Nat
  | [] => 0
  | d :: r => uptoBulk d + uptoBulkAll r
def uptoBulkEntries {H : Type} : List (Lit × DataW H) → Nat
  | [] => 0
  | x :: r => uptoBulkEntry x + uptoBulkEntries r
def uptoBulkEntry {H : Type} : Lit × DataW H → Nat
  | (.string bytes, d) => bytes.length + uptoBulk d + 1
  | (_, d) => uptoBulk d + 1
 end
def uptoSmall : (H : Type) → List (DataW H) → Bool := fun _ ds => decide (uptoBulkAll ds ≤ 1048576)
def OpenSpec.upto (s : _root_.Go.ChangeSpec) : _root_.Go.OpenSpec := { _root_.Go.OpenSpec.ofChange s with cond := some uptoSmall }

/-- 'prunetop.TopRegister', WHERE WHAT IT READS IS OF BULK AT MOST 1048576: true; the input reads as it did. -/
def topRegisterUptoRow : OpenClaim := { program := "ytkjknlnhffmkkabgreat", sum := "d3a9d048b68a5791442cb4b5d46b023766baa179af009ef1df71cbd3cba4bd0d", func := "prunewell/prunetop.TopRegister", spec := "topRegister", inPlace := ["slices.overlaps[prunewell/api.Live]", "slices.overlaps[prunewell/api.Tally]"], unfollowed := true, recurses := true, apart := false, narrowed := true }
def TopRegisterUptoSaid : Prop := topRegisterUptoRow.holds Tryz.pinned (OpenSpec.upto topRegisterSpec)

/-- 'prunetop.TopAddWins', WHERE WHAT IT READS IS OF BULK AT MOST 1048576: true; the input reads as it did. -/
def topAddWinsUptoRow : OpenClaim := { program := "ytkjknlnhffmkkabgreat", sum := "d3a9d048b68a5791442cb4b5d46b023766baa179af009ef1df71cbd3cba4bd0d", func := "prunewell/prunetop.TopAddWins", spec := "topAddWins", inPlace := ["slices.overlaps[prunewell/api.Live]", "slices.overlaps[prunewell/api.Tally]"], unfollowed := true, recurses := true, apart := false, narrowed := true }
def TopAddWinsUptoSaid : Prop := topAddWinsUptoRow.holds Tryz.pinned (OpenSpec.upto topAddWinsSpec)

end Rows
end Go.Proofs.YtkjknlnhffmkkabGreat
