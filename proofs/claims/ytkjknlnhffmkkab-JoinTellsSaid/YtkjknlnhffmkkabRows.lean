/-
  No cell of these rows narrows 'for every input' (looked for: loops, veiled, ifaces, maps, wideKeys, modest, calm, conditions, laid).
  DERIVED. THE GIVEN ROWS OF THIS SEAT. 10 by the template 'for every input the law returns true; each argument reads behind the call as it read before'; 0 by the template 'total and deterministic' (their statements: YtkjknlnhffmkkabTotals.lean).
  GIVEN WITH THE SEED: the statements are not yours to turn. If you find one false, say at which input.
  Laid BY PROGRAM, IN A SANDBOX (cutbox-rows.mjs): the forced cells as the released guide's own fill.sh prints them over the translation 7696a66b1635fc5f… (all of the seat's roots in one cut). By AI agents, Wed Nov 11 2026. No macro, syntax, notation, axiom, sorry.
-/
import Derived.Test.YtkjknlnhffmkkabChecked
import GoSem.Claim
import GoSem.ClaimJoined
import GoSem.ClaimMapViews
import Derived.JoinedTies
import Derived.KernelRfl
namespace Go.Proofs.Ytkjknlnhffmkkab
/- THE CELL 'sum', in the pinned program and in every row, IS THE sha256 OF THE DUMP (.gsa) THAT YtkjknlnhffmkkabProg.lean LOADS. Nothing in Lean hashes anything: it is a label: what it is worth is what the hold of that sum in a sandbox is worth. -/
noncomputable def Try.pinned : Pinned := { name := "ytkjknlnhffmkkab", sum := "7696a66b1635fc5f74515ac0b44ba57e862f6705e7f00544cb36ef65ee6675c6", checked := Try.checked }
namespace Rows
def none {H : Type} : Left H := { results := [], args := [] }

/-- 'prunelaw4.StateApart': WHATEVER THE INPUT: true; the input reads as it did. -/
def stateApartSpec : ChangeSpec := { name := "stateApart", fn := fun _ => fun
  | [d1, d2, d3] => { results := [.lit (.bool true)], args := [d1, d2, d3] }
  | _ => none }
def stateApartRow : OpenClaim := { program := "ytkjknlnhffmkkab", sum := "7696a66b1635fc5f74515ac0b44ba57e862f6705e7f00544cb36ef65ee6675c6", func := "prunewell/prunelaw4.StateApart", spec := "stateApart", inPlace := ["slices.overlaps[prunewell/api.Live]", "slices.overlaps[prunewell/api.Tally]"], unfollowed := true, recurses := true, apart := false }
def StateApartSaid : Prop := stateApartRow.holds Try.pinned (OpenSpec.ofChange stateApartSpec)

/-- ITS FALSE NEIGHBOUR: 'it returns false'. Refute it at one input. -/
def stateApartWrong : ChangeSpec := { name := "stateApart", fn := fun _ => fun
  | [d1, d2, d3] => { results := [.lit (.bool false)], args := [d1, d2, d3] }
  | _ => none }
def StateApartWrongFalsely : Prop := stateApartRow.holds Try.pinned (OpenSpec.ofChange stateApartWrong)

/-- 'prunelaw4.StateTells': WHATEVER THE INPUT: true; the input reads as it did. -/
def stateTellsSpec : ChangeSpec := { name := "stateTells", fn := fun _ => fun
  | [d1, d2, d3] => { results := [.lit (.bool true)], args := [d1, d2, d3] }
  | _ => none }
def stateTellsRow : OpenClaim := { program := "ytkjknlnhffmkkab", sum := "7696a66b1635fc5f74515ac0b44ba57e862f6705e7f00544cb36ef65ee6675c6", func := "prunewell/prunelaw4.StateTells", spec := "stateTells", inPlace := ["slices.overlaps[prunewell/api.Live]", "slices.overlaps[prunewell/api.Tally]"], unfollowed := true, recurses := true, apart := false }
def StateTellsSaid : Prop := stateTellsRow.holds Try.pinned (OpenSpec.ofChange stateTellsSpec)

/-- ITS FALSE NEIGHBOUR: 'it returns false'. Refute it at one input. -/
def stateTellsWrong : ChangeSpec := { name := "stateTells", fn := fun _ => fun
  | [d1, d2, d3] => { results := [.lit (.bool false)], args := [d1, d2, d3] }
  | _ => none }
def StateTellsWrongFalsely : Prop := stateTellsRow.holds Try.pinned (OpenSpec.ofChange stateTellsWrong)

/-- 'prunelaw4.StateParts': WHATEVER THE INPUT: true; the input reads as it did. -/
def statePartsSpec : ChangeSpec := { name := "stateParts", fn := fun _ => fun
  | [d1, d2] => { results := [.lit (.bool true)], args := [d1, d2] }
  | _ => none }
def statePartsRow : OpenClaim := { program := "ytkjknlnhffmkkab", sum := "7696a66b1635fc5f74515ac0b44ba57e862f6705e7f00544cb36ef65ee6675c6", func := "prunewell/prunelaw4.StateParts", spec := "stateParts", inPlace := ["slices.overlaps[prunewell/api.Live]", "slices.overlaps[prunewell/api.Tally]"], unfollowed := true, recurses := true, apart := false }
def StatePartsSaid : Prop := statePartsRow.holds Try.pinned (OpenSpec.ofChange statePartsSpec)

/-- ITS FALSE NEIGHBOUR: 'it returns false'. Refute it at one input. -/
def statePartsWrong : ChangeSpec := { name := "stateParts", fn := fun _ => fun
  | [d1, d2] => { results := [.lit (.bool false)], args := [d1, d2] }
  | _ => none }
def StatePartsWrongFalsely : Prop := statePartsRow.holds Try.pinned (OpenSpec.ofChange statePartsWrong)

/-- 'prunelaw4.StatePut': WHATEVER THE INPUT: true; the input reads as it did. -/
def statePutSpec : ChangeSpec := { name := "statePut", fn := fun _ => fun
  | [d1, d2, d3, d4, d5] => { results := [.lit (.bool true)], args := [d1, d2, d3, d4, d5] }
  | _ => none }
def statePutRow : OpenClaim := { program := "ytkjknlnhffmkkab", sum := "7696a66b1635fc5f74515ac0b44ba57e862f6705e7f00544cb36ef65ee6675c6", func := "prunewell/prunelaw4.StatePut", spec := "statePut", inPlace := ["slices.overlaps[prunewell/api.Live]", "slices.overlaps[prunewell/api.Tally]"], unfollowed := true, recurses := true, apart := false }
def StatePutSaid : Prop := statePutRow.holds Try.pinned (OpenSpec.ofChange statePutSpec)

/-- ITS FALSE NEIGHBOUR: 'it returns false'. Refute it at one input. -/
def statePutWrong : ChangeSpec := { name := "statePut", fn := fun _ => fun
  | [d1, d2, d3, d4, d5] => { results := [.lit (.bool false)], args := [d1, d2, d3, d4, d5] }
  | _ => none }
def StatePutWrongFalsely : Prop := statePutRow.holds Try.pinned (OpenSpec.ofChange statePutWrong)

/-- 'prunelaw4.StateKeeps': WHATEVER THE INPUT: true; the input reads as it did. -/
def stateKeepsSpec : ChangeSpec := { name := "stateKeeps", fn := fun _ => fun
  | [d1, d2, d3] => { results := [.lit (.bool true)], args := [d1, d2, d3] }
  | _ => none }
def stateKeepsRow : OpenClaim := { program := "ytkjknlnhffmkkab", sum := "7696a66b1635fc5f74515ac0b44ba57e862f6705e7f00544cb36ef65ee6675c6", func := "prunewell/prunelaw4.StateKeeps", spec := "stateKeeps", inPlace := ["slices.overlaps[prunewell/api.Live]", "slices.overlaps[prunewell/api.Tally]"], unfollowed := true, recurses := true, apart := false }
def StateKeepsSaid : Prop := stateKeepsRow.holds Try.pinned (OpenSpec.ofChange stateKeepsSpec)

/-- ITS FALSE NEIGHBOUR: 'it returns false'. Refute it at one input. -/
def stateKeepsWrong : ChangeSpec := { name := "stateKeeps", fn := fun _ => fun
  | [d1, d2, d3] => { results := [.lit (.bool false)], args := [d1, d2, d3] }
  | _ => none }
def StateKeepsWrongFalsely : Prop := stateKeepsRow.holds Try.pinned (OpenSpec.ofChange stateKeepsWrong)

/-- 'prunelaw4.StateOrder': WHATEVER THE INPUT: true; the input reads as it did. -/
def stateOrderSpec : ChangeSpec := { name := "stateOrder", fn := fun _ => fun
  | [d1, d2] => { results := [.lit (.bool true)], args := [d1, d2] }
  | _ => none }
def stateOrderRow : OpenClaim := { program := "ytkjknlnhffmkkab", sum := "7696a66b1635fc5f74515ac0b44ba57e862f6705e7f00544cb36ef65ee6675c6", func := "prunewell/prunelaw4.StateOrder", spec := "stateOrder", inPlace := ["slices.overlaps[prunewell/api.Live]", "slices.overlaps[prunewell/api.Tally]"], unfollowed := true, recurses := true, apart := false }
def StateOrderSaid : Prop := stateOrderRow.holds Try.pinned (OpenSpec.ofChange stateOrderSpec)

/-- ITS FALSE NEIGHBOUR: 'it returns false'. Refute it at one input. -/
def stateOrderWrong : ChangeSpec := { name := "stateOrder", fn := fun _ => fun
  | [d1, d2] => { results := [.lit (.bool false)], args := [d1, d2] }
  | _ => none }
def StateOrderWrongFalsely : Prop := stateOrderRow.holds Try.pinned (OpenSpec.ofChange stateOrderWrong)

/-- 'prunelaw5.JoinTells': WHATEVER THE INPUT: true; the input reads as it did. -/
def joinTellsSpec : ChangeSpec := { name := "joinTells", fn := fun _ => fun
  | [d1, d2] => { results := [.lit (.bool true)], args := [d1, d2] }
  | _ => none }
def joinTellsRow : OpenClaim := { program := "ytkjknlnhffmkkab", sum := "7696a66b1635fc5f74515ac0b44ba57e862f6705e7f00544cb36ef65ee6675c6", func := "prunewell/prunelaw5.JoinTells", spec := "joinTells", unfollowed := true, recurses := true, apart := false }
def JoinTellsSaid : Prop := joinTellsRow.holds Try.pinned (OpenSpec.ofChange joinTellsSpec)

/-- ITS FALSE NEIGHBOUR: 'it returns false'. Refute it at one input. -/
def joinTellsWrong : ChangeSpec := { name := "joinTells", fn := fun _ => fun
  | [d1, d2] => { results := [.lit (.bool false)], args := [d1, d2] }
  | _ => none }
def JoinTellsWrongFalsely : Prop := joinTellsRow.holds Try.pinned (OpenSpec.ofChange joinTellsWrong)

/-- 'prunelaw5.JoinUnion': WHATEVER THE INPUT: true; the input reads as it did. -/
def joinUnionSpec : ChangeSpec := { name := "joinUnion", fn := fun _ => fun
  | [d1, d2, d3, d4] => { results := [.lit (.bool true)], args := [d1, d2, d3, d4] }
  | _ => none }
def joinUnionRow : OpenClaim := { program := "ytkjknlnhffmkkab", sum := "7696a66b1635fc5f74515ac0b44ba57e862f6705e7f00544cb36ef65ee6675c6", func := "prunewell/prunelaw5.JoinUnion", spec := "joinUnion", inPlace := ["slices.overlaps[prunewell/api.Live]", "slices.overlaps[prunewell/api.Tally]"], unfollowed := true, recurses := true, apart := false }
def JoinUnionSaid : Prop := joinUnionRow.holds Try.pinned (OpenSpec.ofChange joinUnionSpec)

/-- ITS FALSE NEIGHBOUR: 'it returns false'. Refute it at one input. -/
def joinUnionWrong : ChangeSpec := { name := "joinUnion", fn := fun _ => fun
  | [d1, d2, d3, d4] => { results := [.lit (.bool false)], args := [d1, d2, d3, d4] }
  | _ => none }
def JoinUnionWrongFalsely : Prop := joinUnionRow.holds Try.pinned (OpenSpec.ofChange joinUnionWrong)

/-- 'prunelaw5.JoinLaws': WHATEVER THE INPUT: true; the input reads as it did. -/
def joinLawsSpec : ChangeSpec := { name := "joinLaws", fn := fun _ => fun
  | [d1, d2, d3, d4, d5] => { results := [.lit (.bool true)], args := [d1, d2, d3, d4, d5] }
  | _ => none }
def joinLawsRow : OpenClaim := { program := "ytkjknlnhffmkkab", sum := "7696a66b1635fc5f74515ac0b44ba57e862f6705e7f00544cb36ef65ee6675c6", func := "prunewell/prunelaw5.JoinLaws", spec := "joinLaws", inPlace := ["slices.overlaps[prunewell/api.Live]", "slices.overlaps[prunewell/api.Tally]"], unfollowed := true, recurses := true, apart := false }
def JoinLawsSaid : Prop := joinLawsRow.holds Try.pinned (OpenSpec.ofChange joinLawsSpec)

/-- ITS FALSE NEIGHBOUR: 'it returns false'. Refute it at one input. -/
def joinLawsWrong : ChangeSpec := { name := "joinLaws", fn := fun _ => fun
  | [d1, d2, d3, d4, d5] => { results := [.lit (.bool false)], args := [d1, d2, d3, d4, d5] }
  | _ => none }
def JoinLawsWrongFalsely : Prop := joinLawsRow.holds Try.pinned (OpenSpec.ofChange joinLawsWrong)

/-- 'prunelaw5.JoinMore': WHATEVER THE INPUT: true; the input reads as it did. -/
def joinMoreSpec : ChangeSpec := { name := "joinMore", fn := fun _ => fun
  | [d1, d2, d3] => { results := [.lit (.bool true)], args := [d1, d2, d3] }
  | _ => none }
def joinMoreRow : OpenClaim := { program := "ytkjknlnhffmkkab", sum := "7696a66b1635fc5f74515ac0b44ba57e862f6705e7f00544cb36ef65ee6675c6", func := "prunewell/prunelaw5.JoinMore", spec := "joinMore", inPlace := ["slices.overlaps[prunewell/api.Live]", "slices.overlaps[prunewell/api.Tally]"], unfollowed := true, recurses := true, apart := false }
def JoinMoreSaid : Prop := joinMoreRow.holds Try.pinned (OpenSpec.ofChange joinMoreSpec)

/-- ITS FALSE NEIGHBOUR: 'it returns false'. Refute it at one input. -/
def joinMoreWrong : ChangeSpec := { name := "joinMore", fn := fun _ => fun
  | [d1, d2, d3] => { results := [.lit (.bool false)], args := [d1, d2, d3] }
  | _ => none }
def JoinMoreWrongFalsely : Prop := joinMoreRow.holds Try.pinned (OpenSpec.ofChange joinMoreWrong)

/- THE SECOND FORM. 'bulk': how many values and letters a reading holds, each counted each time it is reached (what is shared counts as often as it is met; a slice's spare places count too). A statement '..UptoSaid' is the law's where the arguments, and the package variables that the reading takes, are together of bulk at most 1048576: NARROWER than '..Said'. Prove '..Said' where nothing that the law and all that it calls make is longer than what came in: it says more and counts as full. Else prove '..UptoSaid'. A law counts once. -/
mutual
def uptoBulk {H : Type} : DataW H → Nat
  | .lit (.string bytes) => bytes.length + 1
  | .lit _ => 1
  | .nil => 1
  | .ptr d => uptoBulk d + 1
  | .slice elems spare => uptoBulkAll elems + uptoBulkAll spare + 1
  | .agg parts => uptoBulkAll parts + 1
  | .iface _ d => uptoBulk d + 1
  | .map entries => uptoBulkEntries entries + 1
  | .held _ => 1
def uptoBulkAll {H : Type} : List (DataW H) → Nat
  | [] => 0
  | d :: r => uptoBulk d + uptoBulkAll r
def uptoBulkEntries {H : Type} : List (Lit × DataW H) → Nat
  | [] => 0
  | x :: r => uptoBulkEntry x + uptoBulkEntries r
def uptoBulkEntry {H : Type} : Lit × DataW H → Nat
  | (.string bytes, d) => bytes.length + uptoBulk d + 1
  | (_, d) => uptoBulk d + 1
 end
def uptoSmall : (H : Type) → List (DataW H) → Bool := fun _ ds => decide (uptoBulkAll ds ≤ 1048576)
def OpenSpec.upto (s : _root_.Go.ChangeSpec) : _root_.Go.OpenSpec := { _root_.Go.OpenSpec.ofChange s with cond := some uptoSmall }

/-- 'prunelaw4.StateApart', WHERE WHAT IT READS IS OF BULK AT MOST 1048576: true; the input reads as it did. -/
def stateApartUptoRow : OpenClaim := { program := "ytkjknlnhffmkkab", sum := "7696a66b1635fc5f74515ac0b44ba57e862f6705e7f00544cb36ef65ee6675c6", func := "prunewell/prunelaw4.StateApart", spec := "stateApart", inPlace := ["slices.overlaps[prunewell/api.Live]", "slices.overlaps[prunewell/api.Tally]"], unfollowed := true, recurses := true, apart := false, narrowed := true }
def StateApartUptoSaid : Prop := stateApartUptoRow.holds Try.pinned (OpenSpec.upto stateApartSpec)

/-- 'prunelaw4.StateTells', WHERE WHAT IT READS IS OF BULK AT MOST 1048576: true; the input reads as it did. -/
def stateTellsUptoRow : OpenClaim := { program := "ytkjknlnhffmkkab", sum := "7696a66b1635fc5f74515ac0b44ba57e862f6705e7f00544cb36ef65ee6675c6", func := "prunewell/prunelaw4.StateTells", spec := "stateTells", inPlace := ["slices.overlaps[prunewell/api.Live]", "slices.overlaps[prunewell/api.Tally]"], unfollowed := true, recurses := true, apart := false, narrowed := true }
def StateTellsUptoSaid : Prop := stateTellsUptoRow.holds Try.pinned (OpenSpec.upto stateTellsSpec)

/-- 'prunelaw4.StateParts', WHERE WHAT IT READS IS OF BULK AT MOST 1048576: true; the input reads as it did. -/
def statePartsUptoRow : OpenClaim := { program := "ytkjknlnhffmkkab", sum := "7696a66b1635fc5f74515ac0b44ba57e862f6705e7f00544cb36ef65ee6675c6", func := "prunewell/prunelaw4.StateParts", spec := "stateParts", inPlace := ["slices.overlaps[prunewell/api.Live]", "slices.overlaps[prunewell/api.Tally]"], unfollowed := true, recurses := true, apart := false, narrowed := true }
def StatePartsUptoSaid : Prop := statePartsUptoRow.holds Try.pinned (OpenSpec.upto statePartsSpec)

/-- 'prunelaw4.StatePut', WHERE WHAT IT READS IS OF BULK AT MOST 1048576: true; the input reads as it did. -/
def statePutUptoRow : OpenClaim := { program := "ytkjknlnhffmkkab", sum := "7696a66b1635fc5f74515ac0b44ba57e862f6705e7f00544cb36ef65ee6675c6", func := "prunewell/prunelaw4.StatePut", spec := "statePut", inPlace := ["slices.overlaps[prunewell/api.Live]", "slices.overlaps[prunewell/api.Tally]"], unfollowed := true, recurses := true, apart := false, narrowed := true }
def StatePutUptoSaid : Prop := statePutUptoRow.holds Try.pinned (OpenSpec.upto statePutSpec)

/-- 'prunelaw4.StateKeeps', WHERE WHAT IT READS IS OF BULK AT MOST 1048576: true; the input reads as it did. -/
def stateKeepsUptoRow : OpenClaim := { program := "ytkjknlnhffmkkab", sum := "7696a66b1635fc5f74515ac0b44ba57e862f6705e7f00544cb36ef65ee6675c6", func := "prunewell/prunelaw4.StateKeeps", spec := "stateKeeps", inPlace := ["slices.overlaps[prunewell/api.Live]", "slices.overlaps[prunewell/api.Tally]"], unfollowed := true, recurses := true, apart := false, narrowed := true }
def StateKeepsUptoSaid : Prop := stateKeepsUptoRow.holds Try.pinned (OpenSpec.upto stateKeepsSpec)

/-- 'prunelaw4.StateOrder', WHERE WHAT IT READS IS OF BULK AT MOST 1048576: true; the input reads as it did. -/
def stateOrderUptoRow : OpenClaim := { program := "ytkjknlnhffmkkab", sum := "7696a66b1635fc5f74515ac0b44ba57e862f6705e7f00544cb36ef65ee6675c6", func := "prunewell/prunelaw4.StateOrder", spec := "stateOrder", inPlace := ["slices.overlaps[prunewell/api.Live]", "slices.overlaps[prunewell/api.Tally]"], unfollowed := true, recurses := true, apart := false, narrowed := true }
def StateOrderUptoSaid : Prop := stateOrderUptoRow.holds Try.pinned (OpenSpec.upto stateOrderSpec)

/-- 'prunelaw5.JoinTells', WHERE WHAT IT READS IS OF BULK AT MOST 1048576: true; the input reads as it did. -/
def joinTellsUptoRow : OpenClaim := { program := "ytkjknlnhffmkkab", sum := "7696a66b1635fc5f74515ac0b44ba57e862f6705e7f00544cb36ef65ee6675c6", func := "prunewell/prunelaw5.JoinTells", spec := "joinTells", unfollowed := true, recurses := true, apart := false, narrowed := true }
def JoinTellsUptoSaid : Prop := joinTellsUptoRow.holds Try.pinned (OpenSpec.upto joinTellsSpec)

/-- 'prunelaw5.JoinUnion', WHERE WHAT IT READS IS OF BULK AT MOST 1048576: true; the input reads as it did. -/
def joinUnionUptoRow : OpenClaim := { program := "ytkjknlnhffmkkab", sum := "7696a66b1635fc5f74515ac0b44ba57e862f6705e7f00544cb36ef65ee6675c6", func := "prunewell/prunelaw5.JoinUnion", spec := "joinUnion", inPlace := ["slices.overlaps[prunewell/api.Live]", "slices.overlaps[prunewell/api.Tally]"], unfollowed := true, recurses := true, apart := false, narrowed := true }
def JoinUnionUptoSaid : Prop := joinUnionUptoRow.holds Try.pinned (OpenSpec.upto joinUnionSpec)

/-- 'prunelaw5.JoinLaws', WHERE WHAT IT READS IS OF BULK AT MOST 1048576: true; the input reads as it did. -/
def joinLawsUptoRow : OpenClaim := { program := "ytkjknlnhffmkkab", sum := "7696a66b1635fc5f74515ac0b44ba57e862f6705e7f00544cb36ef65ee6675c6", func := "prunewell/prunelaw5.JoinLaws", spec := "joinLaws", inPlace := ["slices.overlaps[prunewell/api.Live]", "slices.overlaps[prunewell/api.Tally]"], unfollowed := true, recurses := true, apart := false, narrowed := true }
def JoinLawsUptoSaid : Prop := joinLawsUptoRow.holds Try.pinned (OpenSpec.upto joinLawsSpec)

/-- 'prunelaw5.JoinMore', WHERE WHAT IT READS IS OF BULK AT MOST 1048576: true; the input reads as it did. -/
def joinMoreUptoRow : OpenClaim := { program := "ytkjknlnhffmkkab", sum := "7696a66b1635fc5f74515ac0b44ba57e862f6705e7f00544cb36ef65ee6675c6", func := "prunewell/prunelaw5.JoinMore", spec := "joinMore", inPlace := ["slices.overlaps[prunewell/api.Live]", "slices.overlaps[prunewell/api.Tally]"], unfollowed := true, recurses := true, apart := false, narrowed := true }
def JoinMoreUptoSaid : Prop := joinMoreUptoRow.holds Try.pinned (OpenSpec.upto joinMoreSpec)

end Rows
end Go.Proofs.Ytkjknlnhffmkkab
