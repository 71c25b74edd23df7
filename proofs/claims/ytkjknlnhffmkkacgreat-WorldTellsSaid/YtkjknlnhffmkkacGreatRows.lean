/-
  No cell of these rows narrows 'for every input' (looked for: loops, veiled, ifaces, maps, wideKeys, modest, calm, conditions, laid).
  DERIVED. THE GIVEN ROWS OF THIS SEAT. 10 by the template 'for every input the law returns true; each argument reads behind the call as it read before'; 0 by the template 'total and deterministic' (their statements: YtkjknlnhffmkkacGreatTotals.lean).
  GIVEN WITH THE SEED: the statements are not yours to turn. If you find one false, say at which input.
  Laid BY PROGRAM, IN A SANDBOX (cutbox-rows.mjs): the forced cells as the released guide's own fill.sh prints them over the translation 91a0fae4c5ae39ee… (all of the seat's roots in one cut). By AI agents, Wed Nov 11 2026. No macro, syntax, notation, axiom, sorry.
-/
import Derived.Test.YtkjknlnhffmkkacGreatChecked
import GoSem.Claim
import GoSem.ClaimJoined
import GoSem.ClaimMapViews
import Derived.JoinedTies
import Derived.KernelRfl
namespace Go.Proofs.YtkjknlnhffmkkacGreat
/- THE CELL 'sum', in the pinned program and in every row, IS THE sha256 OF THE DUMP (.gsa) THAT YtkjknlnhffmkkacGreatProg.lean LOADS. Nothing in Lean hashes anything: it is a label: what it is worth is what the hold of that sum in a sandbox is worth. -/
noncomputable def Tryz.pinned : Pinned := { name := "ytkjknlnhffmkkacgreat", sum := "91a0fae4c5ae39ee06b47dbc10ac71e8dcb6b01a115a4c7fe06d3e914ef65141", checked := Tryz.checked }
namespace Rows
def none {H : Type} : Left H := { results := [], args := [] }

/-- 'prunelaw6.NodeTwice': WHATEVER THE INPUT: true; the input reads as it did. -/
def nodeTwiceSpec : ChangeSpec := { name := "nodeTwice", fn := fun _ => fun
  | [d1, d2, d3] => { results := [.lit (.bool true)], args := [d1, d2, d3] }
  | _ => none }
def nodeTwiceRow : OpenClaim := { program := "ytkjknlnhffmkkacgreat", sum := "91a0fae4c5ae39ee06b47dbc10ac71e8dcb6b01a115a4c7fe06d3e914ef65141", func := "prunewell/prunelaw6.NodeTwice", spec := "nodeTwice", inPlace := ["slices.overlaps[prunewell/api.Live]", "slices.overlaps[prunewell/api.Tally]"], unfollowed := true, recurses := true, apart := false }
def NodeTwiceSaid : Prop := nodeTwiceRow.holds Tryz.pinned (OpenSpec.ofChange nodeTwiceSpec)

/-- ITS FALSE NEIGHBOUR: 'it returns false'. Refute it at one input. -/
def nodeTwiceWrong : ChangeSpec := { name := "nodeTwice", fn := fun _ => fun
  | [d1, d2, d3] => { results := [.lit (.bool false)], args := [d1, d2, d3] }
  | _ => none }
def NodeTwiceWrongFalsely : Prop := nodeTwiceRow.holds Tryz.pinned (OpenSpec.ofChange nodeTwiceWrong)

/-- 'prunelaw6.NodeTells': WHATEVER THE INPUT: true; the input reads as it did. -/
def nodeTellsSpec : ChangeSpec := { name := "nodeTells", fn := fun _ => fun
  | [d1, d2, d3, d4, d5, d6] => { results := [.lit (.bool true)], args := [d1, d2, d3, d4, d5, d6] }
  | _ => none }
def nodeTellsRow : OpenClaim := { program := "ytkjknlnhffmkkacgreat", sum := "91a0fae4c5ae39ee06b47dbc10ac71e8dcb6b01a115a4c7fe06d3e914ef65141", func := "prunewell/prunelaw6.NodeTells", spec := "nodeTells", inPlace := ["slices.overlaps[prunewell/api.Live]", "slices.overlaps[prunewell/api.Tally]"], unfollowed := true, recurses := true, apart := false }
def NodeTellsSaid : Prop := nodeTellsRow.holds Tryz.pinned (OpenSpec.ofChange nodeTellsSpec)

/-- ITS FALSE NEIGHBOUR: 'it returns false'. Refute it at one input. -/
def nodeTellsWrong : ChangeSpec := { name := "nodeTells", fn := fun _ => fun
  | [d1, d2, d3, d4, d5, d6] => { results := [.lit (.bool false)], args := [d1, d2, d3, d4, d5, d6] }
  | _ => none }
def NodeTellsWrongFalsely : Prop := nodeTellsRow.holds Tryz.pinned (OpenSpec.ofChange nodeTellsWrong)

/-- 'prunelaw6.NodePrunes': WHATEVER THE INPUT: true; the input reads as it did. -/
def nodePrunesSpec : ChangeSpec := { name := "nodePrunes", fn := fun _ => fun
  | [d1, d2] => { results := [.lit (.bool true)], args := [d1, d2] }
  | _ => none }
def nodePrunesRow : OpenClaim := { program := "ytkjknlnhffmkkacgreat", sum := "91a0fae4c5ae39ee06b47dbc10ac71e8dcb6b01a115a4c7fe06d3e914ef65141", func := "prunewell/prunelaw6.NodePrunes", spec := "nodePrunes", inPlace := ["slices.overlaps[prunewell/api.Live]", "slices.overlaps[prunewell/api.Tally]"], unfollowed := true, recurses := true, apart := false }
def NodePrunesSaid : Prop := nodePrunesRow.holds Tryz.pinned (OpenSpec.ofChange nodePrunesSpec)

/-- ITS FALSE NEIGHBOUR: 'it returns false'. Refute it at one input. -/
def nodePrunesWrong : ChangeSpec := { name := "nodePrunes", fn := fun _ => fun
  | [d1, d2] => { results := [.lit (.bool false)], args := [d1, d2] }
  | _ => none }
def NodePrunesWrongFalsely : Prop := nodePrunesRow.holds Tryz.pinned (OpenSpec.ofChange nodePrunesWrong)

/-- 'prunelaw7.WorldTells': WHATEVER THE INPUT: true; the input reads as it did. -/
def worldTellsSpec : ChangeSpec := { name := "worldTells", fn := fun _ => fun
  | [d1, d2] => { results := [.lit (.bool true)], args := [d1, d2] }
  | _ => none }
def worldTellsRow : OpenClaim := { program := "ytkjknlnhffmkkacgreat", sum := "91a0fae4c5ae39ee06b47dbc10ac71e8dcb6b01a115a4c7fe06d3e914ef65141", func := "prunewell/prunelaw7.WorldTells", spec := "worldTells", inPlace := ["slices.overlaps[prunewell/api.Live]", "slices.overlaps[prunewell/api.Tally]"], unfollowed := true, recurses := true, apart := false }
def WorldTellsSaid : Prop := worldTellsRow.holds Tryz.pinned (OpenSpec.ofChange worldTellsSpec)

/-- ITS FALSE NEIGHBOUR: 'it returns false'. Refute it at one input. -/
def worldTellsWrong : ChangeSpec := { name := "worldTells", fn := fun _ => fun
  | [d1, d2] => { results := [.lit (.bool false)], args := [d1, d2] }
  | _ => none }
def WorldTellsWrongFalsely : Prop := worldTellsRow.holds Tryz.pinned (OpenSpec.ofChange worldTellsWrong)

/-- 'prunelaw7.WorldSame': WHATEVER THE INPUT: true; the input reads as it did. -/
def worldSameSpec : ChangeSpec := { name := "worldSame", fn := fun _ => fun
  | [d1, d2] => { results := [.lit (.bool true)], args := [d1, d2] }
  | _ => none }
def worldSameRow : OpenClaim := { program := "ytkjknlnhffmkkacgreat", sum := "91a0fae4c5ae39ee06b47dbc10ac71e8dcb6b01a115a4c7fe06d3e914ef65141", func := "prunewell/prunelaw7.WorldSame", spec := "worldSame", inPlace := ["slices.overlaps[prunewell/api.Live]", "slices.overlaps[prunewell/api.Tally]"], unfollowed := true, recurses := true, apart := false }
def WorldSameSaid : Prop := worldSameRow.holds Tryz.pinned (OpenSpec.ofChange worldSameSpec)

/-- ITS FALSE NEIGHBOUR: 'it returns false'. Refute it at one input. -/
def worldSameWrong : ChangeSpec := { name := "worldSame", fn := fun _ => fun
  | [d1, d2] => { results := [.lit (.bool false)], args := [d1, d2] }
  | _ => none }
def WorldSameWrongFalsely : Prop := worldSameRow.holds Tryz.pinned (OpenSpec.ofChange worldSameWrong)

/-- 'prunelaw7.WorldRight': WHATEVER THE INPUT: true; the input reads as it did. -/
def worldRightSpec : ChangeSpec := { name := "worldRight", fn := fun _ => fun
  | [d1, d2] => { results := [.lit (.bool true)], args := [d1, d2] }
  | _ => none }
def worldRightRow : OpenClaim := { program := "ytkjknlnhffmkkacgreat", sum := "91a0fae4c5ae39ee06b47dbc10ac71e8dcb6b01a115a4c7fe06d3e914ef65141", func := "prunewell/prunelaw7.WorldRight", spec := "worldRight", inPlace := ["slices.overlaps[prunewell/api.Live]", "slices.overlaps[prunewell/api.Tally]"], unfollowed := true, recurses := true, apart := false }
def WorldRightSaid : Prop := worldRightRow.holds Tryz.pinned (OpenSpec.ofChange worldRightSpec)

/-- ITS FALSE NEIGHBOUR: 'it returns false'. Refute it at one input. -/
def worldRightWrong : ChangeSpec := { name := "worldRight", fn := fun _ => fun
  | [d1, d2] => { results := [.lit (.bool false)], args := [d1, d2] }
  | _ => none }
def WorldRightWrongFalsely : Prop := worldRightRow.holds Tryz.pinned (OpenSpec.ofChange worldRightWrong)

/-- 'prunelaw7.WorldSettles': WHATEVER THE INPUT: true; the input reads as it did. -/
def worldSettlesSpec : ChangeSpec := { name := "worldSettles", fn := fun _ => fun
  | [d1, d2] => { results := [.lit (.bool true)], args := [d1, d2] }
  | _ => none }
def worldSettlesRow : OpenClaim := { program := "ytkjknlnhffmkkacgreat", sum := "91a0fae4c5ae39ee06b47dbc10ac71e8dcb6b01a115a4c7fe06d3e914ef65141", func := "prunewell/prunelaw7.WorldSettles", spec := "worldSettles", inPlace := ["slices.overlaps[prunewell/api.Live]", "slices.overlaps[prunewell/api.Tally]"], unfollowed := true, recurses := true, apart := false }
def WorldSettlesSaid : Prop := worldSettlesRow.holds Tryz.pinned (OpenSpec.ofChange worldSettlesSpec)

/-- ITS FALSE NEIGHBOUR: 'it returns false'. Refute it at one input. -/
def worldSettlesWrong : ChangeSpec := { name := "worldSettles", fn := fun _ => fun
  | [d1, d2] => { results := [.lit (.bool false)], args := [d1, d2] }
  | _ => none }
def WorldSettlesWrongFalsely : Prop := worldSettlesRow.holds Tryz.pinned (OpenSpec.ofChange worldSettlesWrong)

/-- 'prunelaw7.WorldPrune': WHATEVER THE INPUT: true; the input reads as it did. -/
def worldPruneSpec : ChangeSpec := { name := "worldPrune", fn := fun _ => fun
  | [d1, d2] => { results := [.lit (.bool true)], args := [d1, d2] }
  | _ => none }
def worldPruneRow : OpenClaim := { program := "ytkjknlnhffmkkacgreat", sum := "91a0fae4c5ae39ee06b47dbc10ac71e8dcb6b01a115a4c7fe06d3e914ef65141", func := "prunewell/prunelaw7.WorldPrune", spec := "worldPrune", inPlace := ["slices.overlaps[prunewell/api.Live]", "slices.overlaps[prunewell/api.Tally]"], unfollowed := true, recurses := true, apart := false }
def WorldPruneSaid : Prop := worldPruneRow.holds Tryz.pinned (OpenSpec.ofChange worldPruneSpec)

/-- ITS FALSE NEIGHBOUR: 'it returns false'. Refute it at one input. -/
def worldPruneWrong : ChangeSpec := { name := "worldPrune", fn := fun _ => fun
  | [d1, d2] => { results := [.lit (.bool false)], args := [d1, d2] }
  | _ => none }
def WorldPruneWrongFalsely : Prop := worldPruneRow.holds Tryz.pinned (OpenSpec.ofChange worldPruneWrong)

/-- 'prunelaw7.WorldRefused': WHATEVER THE INPUT: true; the input reads as it did. -/
def worldRefusedSpec : ChangeSpec := { name := "worldRefused", fn := fun _ => fun
  | [d1, d2] => { results := [.lit (.bool true)], args := [d1, d2] }
  | _ => none }
def worldRefusedRow : OpenClaim := { program := "ytkjknlnhffmkkacgreat", sum := "91a0fae4c5ae39ee06b47dbc10ac71e8dcb6b01a115a4c7fe06d3e914ef65141", func := "prunewell/prunelaw7.WorldRefused", spec := "worldRefused", inPlace := ["slices.overlaps[prunewell/api.Live]", "slices.overlaps[prunewell/api.Tally]"], unfollowed := true, recurses := true, apart := false }
def WorldRefusedSaid : Prop := worldRefusedRow.holds Tryz.pinned (OpenSpec.ofChange worldRefusedSpec)

/-- ITS FALSE NEIGHBOUR: 'it returns false'. Refute it at one input. -/
def worldRefusedWrong : ChangeSpec := { name := "worldRefused", fn := fun _ => fun
  | [d1, d2] => { results := [.lit (.bool false)], args := [d1, d2] }
  | _ => none }
def WorldRefusedWrongFalsely : Prop := worldRefusedRow.holds Tryz.pinned (OpenSpec.ofChange worldRefusedWrong)

/-- 'prunelaw7.WorldRead': WHATEVER THE INPUT: true; the input reads as it did. -/
def worldReadSpec : ChangeSpec := { name := "worldRead", fn := fun _ => fun
  | [d1, d2] => { results := [.lit (.bool true)], args := [d1, d2] }
  | _ => none }
def worldReadRow : OpenClaim := { program := "ytkjknlnhffmkkacgreat", sum := "91a0fae4c5ae39ee06b47dbc10ac71e8dcb6b01a115a4c7fe06d3e914ef65141", func := "prunewell/prunelaw7.WorldRead", spec := "worldRead", inPlace := ["slices.overlaps[prunewell/api.Live]", "slices.overlaps[prunewell/api.Tally]"], unfollowed := true, recurses := true, apart := false }
def WorldReadSaid : Prop := worldReadRow.holds Tryz.pinned (OpenSpec.ofChange worldReadSpec)

/-- ITS FALSE NEIGHBOUR: 'it returns false'. Refute it at one input. -/
def worldReadWrong : ChangeSpec := { name := "worldRead", fn := fun _ => fun
  | [d1, d2] => { results := [.lit (.bool false)], args := [d1, d2] }
  | _ => none }
def WorldReadWrongFalsely : Prop := worldReadRow.holds Tryz.pinned (OpenSpec.ofChange worldReadWrong)

/- THE SECOND FORM. 'bulk': how many values and letters a reading holds, each counted each time it is reached (what is shared counts as often as it is met; a slice's spare places count too). A statement '..UptoSaid' is the law's where the arguments, and the package variables that the reading takes, are together of bulk at most 1048576: NARROWER than '..Said'. Prove '..Said' where nothing that the law and all that it calls make is longer than what came in: it says more and counts as full. Else prove '..UptoSaid'. A law counts once. -/
mutual
def uptoBulk {H : Type} : DataW H → Nat
  | .lit (.string bytes) => bytes.length + 1
  | .lit _ => 1
  | .nil => 1
  | .ptr d => uptoBulk d + 1
  | .slice elems spare => uptoBulkAll elems + uptoBulkAll spare + 1
  | .agg parts => uptoBulkAll parts + 1
  | .iface _ d => uptoBulk d + 1
  | .map entries => uptoBulkEntries entries + 1
  | .held _ => 1
def uptoBulkAll {H : Type} : List (DataW H) → Nat
  | [] => 0
  | d :: r => uptoBulk d + uptoBulkAll r
def uptoBulkEntries {H : Type} : List (Lit × DataW H) → Nat
  | [] => 0
  | x :: r => uptoBulkEntry x + uptoBulkEntries r
def uptoBulkEntry {H : Type} : Lit × DataW H → Nat
  | (.string bytes, d) => bytes.length + uptoBulk d + 1
  | (_, d) => uptoBulk d + 1
 end
def uptoSmall : (H : Type) → List (DataW H) → Bool := fun _ ds => decide (uptoBulkAll ds ≤ 1048576)
def OpenSpec.upto (s : _root_.Go.ChangeSpec) : _root_.Go.OpenSpec := { _root_.Go.OpenSpec.ofChange s with cond := some uptoSmall }

/-- 'prunelaw6.NodeTwice', WHERE WHAT IT READS IS OF BULK AT MOST 1048576: true; the input reads as it did. -/
def nodeTwiceUptoRow : OpenClaim := { program := "ytkjknlnhffmkkacgreat", sum := "91a0fae4c5ae39ee06b47dbc10ac71e8dcb6b01a115a4c7fe06d3e914ef65141", func := "prunewell/prunelaw6.NodeTwice", spec := "nodeTwice", inPlace := ["slices.overlaps[prunewell/api.Live]", "slices.overlaps[prunewell/api.Tally]"], unfollowed := true, recurses := true, apart := false, narrowed := true }
def NodeTwiceUptoSaid : Prop := nodeTwiceUptoRow.holds Tryz.pinned (OpenSpec.upto nodeTwiceSpec)

/-- 'prunelaw6.NodeTells', WHERE WHAT IT READS IS OF BULK AT MOST 1048576: true; the input reads as it did. -/
def nodeTellsUptoRow : OpenClaim := { program := "ytkjknlnhffmkkacgreat", sum := "91a0fae4c5ae39ee06b47dbc10ac71e8dcb6b01a115a4c7fe06d3e914ef65141", func := "prunewell/prunelaw6.NodeTells", spec := "nodeTells", inPlace := ["slices.overlaps[prunewell/api.Live]", "slices.overlaps[prunewell/api.Tally]"], unfollowed := true, recurses := true, apart := false, narrowed := true }
def NodeTellsUptoSaid : Prop := nodeTellsUptoRow.holds Tryz.pinned (OpenSpec.upto nodeTellsSpec)

/-- 'prunelaw6.NodePrunes', WHERE WHAT IT READS IS OF BULK AT MOST 1048576: true; the input reads as it did. -/
def nodePrunesUptoRow : OpenClaim := { program := "ytkjknlnhffmkkacgreat", sum := "91a0fae4c5ae39ee06b47dbc10ac71e8dcb6b01a115a4c7fe06d3e914ef65141", func := "prunewell/prunelaw6.NodePrunes", spec := "nodePrunes", inPlace := ["slices.overlaps[prunewell/api.Live]", "slices.overlaps[prunewell/api.Tally]"], unfollowed := true, recurses := true, apart := false, narrowed := true }
def NodePrunesUptoSaid : Prop := nodePrunesUptoRow.holds Tryz.pinned (OpenSpec.upto nodePrunesSpec)

/-- 'prunelaw7.WorldTells', WHERE WHAT IT READS IS OF BULK AT MOST 1048576: true; the input reads as it did. -/
def worldTellsUptoRow : OpenClaim := { program := "ytkjknlnhffmkkacgreat", sum := "91a0fae4c5ae39ee06b47dbc10ac71e8dcb6b01a115a4c7fe06d3e914ef65141", func := "prunewell/prunelaw7.WorldTells", spec := "worldTells", inPlace := ["slices.overlaps[prunewell/api.Live]", "slices.overlaps[prunewell/api.Tally]"], unfollowed := true, recurses := true, apart := false, narrowed := true }
def WorldTellsUptoSaid : Prop := worldTellsUptoRow.holds Tryz.pinned (OpenSpec.upto worldTellsSpec)

/-- 'prunelaw7.WorldSame', WHERE WHAT IT READS IS OF BULK AT MOST 1048576: true; the input reads as it did. -/
def worldSameUptoRow : OpenClaim := { program := "ytkjknlnhffmkkacgreat", sum := "91a0fae4c5ae39ee06b47dbc10ac71e8dcb6b01a115a4c7fe06d3e914ef65141", func := "prunewell/prunelaw7.WorldSame", spec := "worldSame", inPlace := ["slices.overlaps[prunewell/api.Live]", "slices.overlaps[prunewell/api.Tally]"], unfollowed := true, recurses := true, apart := false, narrowed := true }
def WorldSameUptoSaid : Prop := worldSameUptoRow.holds Tryz.pinned (OpenSpec.upto worldSameSpec)

/-- 'prunelaw7.WorldRight', WHERE WHAT IT READS IS OF BULK AT MOST 1048576: true; the input reads as it did. -/
def worldRightUptoRow : OpenClaim := { program := "ytkjknlnhffmkkacgreat", sum := "91a0fae4c5ae39ee06b47dbc10ac71e8dcb6b01a115a4c7fe06d3e914ef65141", func := "prunewell/prunelaw7.WorldRight", spec := "worldRight", inPlace := ["slices.overlaps[prunewell/api.Live]", "slices.overlaps[prunewell/api.Tally]"], unfollowed := true, recurses := true, apart := false, narrowed := true }
def WorldRightUptoSaid : Prop := worldRightUptoRow.holds Tryz.pinned (OpenSpec.upto worldRightSpec)

/-- 'prunelaw7.WorldSettles', WHERE WHAT IT READS IS OF BULK AT MOST 1048576: true; the input reads as it did. -/
def worldSettlesUptoRow : OpenClaim := { program := "ytkjknlnhffmkkacgreat", sum := "91a0fae4c5ae39ee06b47dbc10ac71e8dcb6b01a115a4c7fe06d3e914ef65141", func := "prunewell/prunelaw7.WorldSettles", spec := "worldSettles", inPlace := ["slices.overlaps[prunewell/api.Live]", "slices.overlaps[prunewell/api.Tally]"], unfollowed := true, recurses := true, apart := false, narrowed := true }
def WorldSettlesUptoSaid : Prop := worldSettlesUptoRow.holds Tryz.pinned (OpenSpec.upto worldSettlesSpec)

/-- 'prunelaw7.WorldPrune', WHERE WHAT IT READS IS OF BULK AT MOST 1048576: true; the input reads as it did. -/
def worldPruneUptoRow : OpenClaim := { program := "ytkjknlnhffmkkacgreat", sum := "91a0fae4c5ae39ee06b47dbc10ac71e8dcb6b01a115a4c7fe06d3e914ef65141", func := "prunewell/prunelaw7.WorldPrune", spec := "worldPrune", inPlace := ["slices.overlaps[prunewell/api.Live]", "slices.overlaps[prunewell/api.Tally]"], unfollowed := true, recurses := true, apart := false, narrowed := true }
def WorldPruneUptoSaid : Prop := worldPruneUptoRow.holds Tryz.pinned (OpenSpec.upto worldPruneSpec)

/-- 'prunelaw7.WorldRefused', WHERE WHAT IT READS IS OF BULK AT MOST 1048576: true; the input reads as it did. -/
def worldRefusedUptoRow : OpenClaim := { program := "ytkjknlnhffmkkacgreat", sum := "91a0fae4c5ae39ee06b47dbc10ac71e8dcb6b01a115a4c7fe06d3e914ef65141", func := "prunewell/prunelaw7.WorldRefused", spec := "worldRefused", inPlace := ["slices.overlaps[prunewell/api.Live]", "slices.overlaps[prunewell/api.Tally]"], unfollowed := true, recurses := true, apart := false, narrowed := true }
def WorldRefusedUptoSaid : Prop := worldRefusedUptoRow.holds Tryz.pinned (OpenSpec.upto worldRefusedSpec)

/-- 'prunelaw7.WorldRead', WHERE WHAT IT READS IS OF BULK AT MOST 1048576: true; the input reads as it did. -/
def worldReadUptoRow : OpenClaim := { program := "ytkjknlnhffmkkacgreat", sum := "91a0fae4c5ae39ee06b47dbc10ac71e8dcb6b01a115a4c7fe06d3e914ef65141", func := "prunewell/prunelaw7.WorldRead", spec := "worldRead", inPlace := ["slices.overlaps[prunewell/api.Live]", "slices.overlaps[prunewell/api.Tally]"], unfollowed := true, recurses := true, apart := false, narrowed := true }
def WorldReadUptoSaid : Prop := worldReadUptoRow.holds Tryz.pinned (OpenSpec.upto worldReadSpec)

end Rows
end Go.Proofs.YtkjknlnhffmkkacGreat
