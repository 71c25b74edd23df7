/-
  No cell of these rows narrows 'for every input' (looked for: loops, veiled, ifaces, maps, wideKeys, modest, calm, conditions, laid).
  DERIVED. THE GIVEN ROWS OF THIS SEAT. 12 by the template 'for every input the law returns true; each argument reads behind the call as it read before'; 0 by the template 'total and deterministic' (their statements: YtkjknlnhffmkkaaTotals.lean).
  GIVEN WITH THE SEED: the statements are not yours to turn. If you find one false, say at which input.
  Laid BY PROGRAM, IN A SANDBOX (cutbox-rows.mjs): the forced cells as the released guide's own fill.sh prints them over the translation aa875a1b45780adf… (all of the seat's roots in one cut). By AI agents, Wed Nov 11 2026. No macro, syntax, notation, axiom, sorry.
-/
import Derived.Test.YtkjknlnhffmkkaaChecked
import GoSem.Claim
import GoSem.ClaimJoined
import GoSem.ClaimMapViews
import Derived.JoinedTies
import Derived.KernelRfl
namespace Go.Proofs.Ytkjknlnhffmkkaa
/- THE CELL 'sum', in the pinned program and in every row, IS THE sha256 OF THE DUMP (.gsa) THAT YtkjknlnhffmkkaaProg.lean LOADS. Nothing in Lean hashes anything: it is a label: what it is worth is what the hold of that sum in a sandbox is worth. -/
noncomputable def Try.pinned : Pinned := { name := "ytkjknlnhffmkkaa", sum := "aa875a1b45780adfd1b69330f1f44fefce41a87253ba69d0fad6449bd8aea873", checked := Try.checked }
namespace Rows
def none {H : Type} : Left H := { results := [], args := [] }

/-- 'prunelaw1.ClockOrder': WHATEVER THE INPUT: true; the input reads as it did. -/
def clockOrderSpec : ChangeSpec := { name := "clockOrder", fn := fun _ => fun
  | [d1, d2, d3] => { results := [.lit (.bool true)], args := [d1, d2, d3] }
  | _ => none }
def clockOrderRow : OpenClaim := { program := "ytkjknlnhffmkkaa", sum := "aa875a1b45780adfd1b69330f1f44fefce41a87253ba69d0fad6449bd8aea873", func := "prunewell/prunelaw1.ClockOrder", spec := "clockOrder", unfollowed := true, recurses := true, apart := false }
def ClockOrderSaid : Prop := clockOrderRow.holds Try.pinned (OpenSpec.ofChange clockOrderSpec)

/-- ITS FALSE NEIGHBOUR: 'it returns false'. Refute it at one input. -/
def clockOrderWrong : ChangeSpec := { name := "clockOrder", fn := fun _ => fun
  | [d1, d2, d3] => { results := [.lit (.bool false)], args := [d1, d2, d3] }
  | _ => none }
def ClockOrderWrongFalsely : Prop := clockOrderRow.holds Try.pinned (OpenSpec.ofChange clockOrderWrong)

/-- 'prunelaw1.ClockJoin': WHATEVER THE INPUT: true; the input reads as it did. -/
def clockJoinSpec : ChangeSpec := { name := "clockJoin", fn := fun _ => fun
  | [d1, d2, d3] => { results := [.lit (.bool true)], args := [d1, d2, d3] }
  | _ => none }
def clockJoinRow : OpenClaim := { program := "ytkjknlnhffmkkaa", sum := "aa875a1b45780adfd1b69330f1f44fefce41a87253ba69d0fad6449bd8aea873", func := "prunewell/prunelaw1.ClockJoin", spec := "clockJoin", unfollowed := true, recurses := true, apart := false }
def ClockJoinSaid : Prop := clockJoinRow.holds Try.pinned (OpenSpec.ofChange clockJoinSpec)

/-- ITS FALSE NEIGHBOUR: 'it returns false'. Refute it at one input. -/
def clockJoinWrong : ChangeSpec := { name := "clockJoin", fn := fun _ => fun
  | [d1, d2, d3] => { results := [.lit (.bool false)], args := [d1, d2, d3] }
  | _ => none }
def ClockJoinWrongFalsely : Prop := clockJoinRow.holds Try.pinned (OpenSpec.ofChange clockJoinWrong)

/-- 'prunelaw2.UpdateTells': WHATEVER THE INPUT: true; the input reads as it did. -/
def updateTellsSpec : ChangeSpec := { name := "updateTells", fn := fun _ => fun
  | [d1, d2, d3] => { results := [.lit (.bool true)], args := [d1, d2, d3] }
  | _ => none }
def updateTellsRow : OpenClaim := { program := "ytkjknlnhffmkkaa", sum := "aa875a1b45780adfd1b69330f1f44fefce41a87253ba69d0fad6449bd8aea873", func := "prunewell/prunelaw2.UpdateTells", spec := "updateTells", unfollowed := true, recurses := true, apart := false }
def UpdateTellsSaid : Prop := updateTellsRow.holds Try.pinned (OpenSpec.ofChange updateTellsSpec)

/-- ITS FALSE NEIGHBOUR: 'it returns false'. Refute it at one input. -/
def updateTellsWrong : ChangeSpec := { name := "updateTells", fn := fun _ => fun
  | [d1, d2, d3] => { results := [.lit (.bool false)], args := [d1, d2, d3] }
  | _ => none }
def UpdateTellsWrongFalsely : Prop := updateTellsRow.holds Try.pinned (OpenSpec.ofChange updateTellsWrong)

/-- 'prunelaw2.UpdateTurns': WHATEVER THE INPUT: true; the input reads as it did. -/
def updateTurnsSpec : ChangeSpec := { name := "updateTurns", fn := fun _ => fun
  | [d1, d2, d3] => { results := [.lit (.bool true)], args := [d1, d2, d3] }
  | _ => none }
def updateTurnsRow : OpenClaim := { program := "ytkjknlnhffmkkaa", sum := "aa875a1b45780adfd1b69330f1f44fefce41a87253ba69d0fad6449bd8aea873", func := "prunewell/prunelaw2.UpdateTurns", spec := "updateTurns", unfollowed := true, recurses := true, apart := false }
def UpdateTurnsSaid : Prop := updateTurnsRow.holds Try.pinned (OpenSpec.ofChange updateTurnsSpec)

/-- ITS FALSE NEIGHBOUR: 'it returns false'. Refute it at one input. -/
def updateTurnsWrong : ChangeSpec := { name := "updateTurns", fn := fun _ => fun
  | [d1, d2, d3] => { results := [.lit (.bool false)], args := [d1, d2, d3] }
  | _ => none }
def UpdateTurnsWrongFalsely : Prop := updateTurnsRow.holds Try.pinned (OpenSpec.ofChange updateTurnsWrong)

/-- 'prunelaw2.UpdateSize': WHATEVER THE INPUT: true; the input reads as it did. -/
def updateSizeSpec : ChangeSpec := { name := "updateSize", fn := fun _ => fun
  | [d1, d2, d3] => { results := [.lit (.bool true)], args := [d1, d2, d3] }
  | _ => none }
def updateSizeRow : OpenClaim := { program := "ytkjknlnhffmkkaa", sum := "aa875a1b45780adfd1b69330f1f44fefce41a87253ba69d0fad6449bd8aea873", func := "prunewell/prunelaw2.UpdateSize", spec := "updateSize", unfollowed := true, recurses := true, apart := false }
def UpdateSizeSaid : Prop := updateSizeRow.holds Try.pinned (OpenSpec.ofChange updateSizeSpec)

/-- ITS FALSE NEIGHBOUR: 'it returns false'. Refute it at one input. -/
def updateSizeWrong : ChangeSpec := { name := "updateSize", fn := fun _ => fun
  | [d1, d2, d3] => { results := [.lit (.bool false)], args := [d1, d2, d3] }
  | _ => none }
def UpdateSizeWrongFalsely : Prop := updateSizeRow.holds Try.pinned (OpenSpec.ofChange updateSizeWrong)

/-- 'prunelaw1.ClockTells': WHATEVER THE INPUT: true; the input reads as it did. -/
def clockTellsSpec : ChangeSpec := { name := "clockTells", fn := fun _ => fun
  | [d1, d2, d3, d4, d5] => { results := [.lit (.bool true)], args := [d1, d2, d3, d4, d5] }
  | _ => none }
def clockTellsRow : OpenClaim := { program := "ytkjknlnhffmkkaa", sum := "aa875a1b45780adfd1b69330f1f44fefce41a87253ba69d0fad6449bd8aea873", func := "prunewell/prunelaw1.ClockTells", spec := "clockTells", unfollowed := true, recurses := true, apart := false }
def ClockTellsSaid : Prop := clockTellsRow.holds Try.pinned (OpenSpec.ofChange clockTellsSpec)

/-- ITS FALSE NEIGHBOUR: 'it returns false'. Refute it at one input. -/
def clockTellsWrong : ChangeSpec := { name := "clockTells", fn := fun _ => fun
  | [d1, d2, d3, d4, d5] => { results := [.lit (.bool false)], args := [d1, d2, d3, d4, d5] }
  | _ => none }
def ClockTellsWrongFalsely : Prop := clockTellsRow.holds Try.pinned (OpenSpec.ofChange clockTellsWrong)

/-- 'prunelaw1.ClockTick': WHATEVER THE INPUT: true; the input reads as it did. -/
def clockTickSpec : ChangeSpec := { name := "clockTick", fn := fun _ => fun
  | [d1, d2] => { results := [.lit (.bool true)], args := [d1, d2] }
  | _ => none }
def clockTickRow : OpenClaim := { program := "ytkjknlnhffmkkaa", sum := "aa875a1b45780adfd1b69330f1f44fefce41a87253ba69d0fad6449bd8aea873", func := "prunewell/prunelaw1.ClockTick", spec := "clockTick", unfollowed := true, recurses := true, apart := false }
def ClockTickSaid : Prop := clockTickRow.holds Try.pinned (OpenSpec.ofChange clockTickSpec)

/-- ITS FALSE NEIGHBOUR: 'it returns false'. Refute it at one input. -/
def clockTickWrong : ChangeSpec := { name := "clockTick", fn := fun _ => fun
  | [d1, d2] => { results := [.lit (.bool false)], args := [d1, d2] }
  | _ => none }
def ClockTickWrongFalsely : Prop := clockTickRow.holds Try.pinned (OpenSpec.ofChange clockTickWrong)

/-- 'prunelaw3.LogParts': WHATEVER THE INPUT: true; the input reads as it did. -/
def logPartsSpec : ChangeSpec := { name := "logParts", fn := fun _ => fun
  | [d1, d2, d3, d4] => { results := [.lit (.bool true)], args := [d1, d2, d3, d4] }
  | _ => none }
def logPartsRow : OpenClaim := { program := "ytkjknlnhffmkkaa", sum := "aa875a1b45780adfd1b69330f1f44fefce41a87253ba69d0fad6449bd8aea873", func := "prunewell/prunelaw3.LogParts", spec := "logParts", unfollowed := true, recurses := true, apart := false }
def LogPartsSaid : Prop := logPartsRow.holds Try.pinned (OpenSpec.ofChange logPartsSpec)

/-- ITS FALSE NEIGHBOUR: 'it returns false'. Refute it at one input. -/
def logPartsWrong : ChangeSpec := { name := "logParts", fn := fun _ => fun
  | [d1, d2, d3, d4] => { results := [.lit (.bool false)], args := [d1, d2, d3, d4] }
  | _ => none }
def LogPartsWrongFalsely : Prop := logPartsRow.holds Try.pinned (OpenSpec.ofChange logPartsWrong)

/-- 'prunelaw3.LogLacks': WHATEVER THE INPUT: true; the input reads as it did. -/
def logLacksSpec : ChangeSpec := { name := "logLacks", fn := fun _ => fun
  | [d1, d2, d3, d4] => { results := [.lit (.bool true)], args := [d1, d2, d3, d4] }
  | _ => none }
def logLacksRow : OpenClaim := { program := "ytkjknlnhffmkkaa", sum := "aa875a1b45780adfd1b69330f1f44fefce41a87253ba69d0fad6449bd8aea873", func := "prunewell/prunelaw3.LogLacks", spec := "logLacks", unfollowed := true, recurses := true, apart := false }
def LogLacksSaid : Prop := logLacksRow.holds Try.pinned (OpenSpec.ofChange logLacksSpec)

/-- ITS FALSE NEIGHBOUR: 'it returns false'. Refute it at one input. -/
def logLacksWrong : ChangeSpec := { name := "logLacks", fn := fun _ => fun
  | [d1, d2, d3, d4] => { results := [.lit (.bool false)], args := [d1, d2, d3, d4] }
  | _ => none }
def LogLacksWrongFalsely : Prop := logLacksRow.holds Try.pinned (OpenSpec.ofChange logLacksWrong)

/-- 'prunetop.Names': WHATEVER THE INPUT: true; the input reads as it did. -/
def namesSpec : ChangeSpec := { name := "names", fn := fun _ => fun
  | [] => { results := [.lit (.bool true)], args := [] }
  | _ => none }
def namesRow : OpenClaim := { program := "ytkjknlnhffmkkaa", sum := "aa875a1b45780adfd1b69330f1f44fefce41a87253ba69d0fad6449bd8aea873", func := "prunewell/prunetop.Names", spec := "names", apart := false }
def NamesSaid : Prop := namesRow.holds Try.pinned (OpenSpec.ofChange namesSpec)

/-- ITS FALSE NEIGHBOUR: 'it returns false'. Refute it at one input. -/
def namesWrong : ChangeSpec := { name := "names", fn := fun _ => fun
  | [] => { results := [.lit (.bool false)], args := [] }
  | _ => none }
def NamesWrongFalsely : Prop := namesRow.holds Try.pinned (OpenSpec.ofChange namesWrong)

/-- 'prunelaw3.LogTells': WHATEVER THE INPUT: true; the input reads as it did. -/
def logTellsSpec : ChangeSpec := { name := "logTells", fn := fun _ => fun
  | [d1, d2, d3, d4] => { results := [.lit (.bool true)], args := [d1, d2, d3, d4] }
  | _ => none }
def logTellsRow : OpenClaim := { program := "ytkjknlnhffmkkaa", sum := "aa875a1b45780adfd1b69330f1f44fefce41a87253ba69d0fad6449bd8aea873", func := "prunewell/prunelaw3.LogTells", spec := "logTells", unfollowed := true, recurses := true, apart := false }
def LogTellsSaid : Prop := logTellsRow.holds Try.pinned (OpenSpec.ofChange logTellsSpec)

/-- ITS FALSE NEIGHBOUR: 'it returns false'. Refute it at one input. -/
def logTellsWrong : ChangeSpec := { name := "logTells", fn := fun _ => fun
  | [d1, d2, d3, d4] => { results := [.lit (.bool false)], args := [d1, d2, d3, d4] }
  | _ => none }
def LogTellsWrongFalsely : Prop := logTellsRow.holds Try.pinned (OpenSpec.ofChange logTellsWrong)

/-- 'prunelaw3.LogSorted': WHATEVER THE INPUT: true; the input reads as it did. -/
def logSortedSpec : ChangeSpec := { name := "logSorted", fn := fun _ => fun
  | [d1, d2, d3] => { results := [.lit (.bool true)], args := [d1, d2, d3] }
  | _ => none }
def logSortedRow : OpenClaim := { program := "ytkjknlnhffmkkaa", sum := "aa875a1b45780adfd1b69330f1f44fefce41a87253ba69d0fad6449bd8aea873", func := "prunewell/prunelaw3.LogSorted", spec := "logSorted", unfollowed := true, recurses := true, apart := false }
def LogSortedSaid : Prop := logSortedRow.holds Try.pinned (OpenSpec.ofChange logSortedSpec)

/-- ITS FALSE NEIGHBOUR: 'it returns false'. Refute it at one input. -/
def logSortedWrong : ChangeSpec := { name := "logSorted", fn := fun _ => fun
  | [d1, d2, d3] => { results := [.lit (.bool false)], args := [d1, d2, d3] }
  | _ => none }
def LogSortedWrongFalsely : Prop := logSortedRow.holds Try.pinned (OpenSpec.ofChange logSortedWrong)

/- THE SECOND FORM. 'bulk': how many values and letters a reading holds, each counted each time it is reached (what is shared counts as often as it is met; a slice's spare places count too). A statement '..UptoSaid' is the law's where the arguments, and the package variables that the reading takes, are together of bulk at most 1048576: NARROWER than '..Said'. Prove '..Said' where nothing that the law and all that it calls make is longer than what came in: it says more and counts as full. Else prove '..UptoSaid'. A law counts once. -/
mutual
def uptoBulk {H : Type} : DataW H → Nat
  | .lit (.string bytes) => bytes.length + 1
  | .lit _ => 1
  | .nil => 1
  | .ptr d => uptoBulk d + 1
  | .slice elems spare => uptoBulkAll elems + uptoBulkAll spare + 1
  | .agg parts => uptoBulkAll parts + 1
  | .iface _ d => uptoBulk d + 1
  | .map entries => uptoBulkEntries entries + 1
  | .held _ => 1
def uptoBulkAll {H : Type} : List (DataW H) → Nat
  | [] => 0
  | d :: r => uptoBulk d + uptoBulkAll r
def uptoBulkEntries {H : Type} : List (Lit × DataW H) → Nat
  | [] => 0
  | x :: r => uptoBulkEntry x + uptoBulkEntries r
def uptoBulkEntry {H : Type} : Lit × DataW H → Nat
  | (.string bytes, d) => bytes.length + uptoBulk d + 1
  | (_, d) => uptoBulk d + 1
 end
def uptoSmall : (H : Type) → List (DataW H) → Bool := fun _ ds => decide (uptoBulkAll ds ≤ 1048576)
def OpenSpec.upto (s : _root_.Go.ChangeSpec) : _root_.Go.OpenSpec := { _root_.Go.OpenSpec.ofChange s with cond := some uptoSmall }

/-- 'prunelaw1.ClockOrder', WHERE WHAT IT READS IS OF BULK AT MOST 1048576: true; the input reads as it did. -/
def clockOrderUptoRow : OpenClaim := { program := "ytkjknlnhffmkkaa", sum := "aa875a1b45780adfd1b69330f1f44fefce41a87253ba69d0fad6449bd8aea873", func := "prunewell/prunelaw1.ClockOrder", spec := "clockOrder", unfollowed := true, recurses := true, apart := false, narrowed := true }
def ClockOrderUptoSaid : Prop := clockOrderUptoRow.holds Try.pinned (OpenSpec.upto clockOrderSpec)

/-- 'prunelaw1.ClockJoin', WHERE WHAT IT READS IS OF BULK AT MOST 1048576: true; the input reads as it did. -/
def clockJoinUptoRow : OpenClaim := { program := "ytkjknlnhffmkkaa", sum := "aa875a1b45780adfd1b69330f1f44fefce41a87253ba69d0fad6449bd8aea873", func := "prunewell/prunelaw1.ClockJoin", spec := "clockJoin", unfollowed := true, recurses := true, apart := false, narrowed := true }
def ClockJoinUptoSaid : Prop := clockJoinUptoRow.holds Try.pinned (OpenSpec.upto clockJoinSpec)

/-- 'prunelaw2.UpdateTells', WHERE WHAT IT READS IS OF BULK AT MOST 1048576: true; the input reads as it did. -/
def updateTellsUptoRow : OpenClaim := { program := "ytkjknlnhffmkkaa", sum := "aa875a1b45780adfd1b69330f1f44fefce41a87253ba69d0fad6449bd8aea873", func := "prunewell/prunelaw2.UpdateTells", spec := "updateTells", unfollowed := true, recurses := true, apart := false, narrowed := true }
def UpdateTellsUptoSaid : Prop := updateTellsUptoRow.holds Try.pinned (OpenSpec.upto updateTellsSpec)

/-- 'prunelaw2.UpdateTurns', WHERE WHAT IT READS IS OF BULK AT MOST 1048576: true; the input reads as it did. -/
def updateTurnsUptoRow : OpenClaim := { program := "ytkjknlnhffmkkaa", sum := "aa875a1b45780adfd1b69330f1f44fefce41a87253ba69d0fad6449bd8aea873", func := "prunewell/prunelaw2.UpdateTurns", spec := "updateTurns", unfollowed := true, recurses := true, apart := false, narrowed := true }
def UpdateTurnsUptoSaid : Prop := updateTurnsUptoRow.holds Try.pinned (OpenSpec.upto updateTurnsSpec)

/-- 'prunelaw2.UpdateSize', WHERE WHAT IT READS IS OF BULK AT MOST 1048576: true; the input reads as it did. -/
def updateSizeUptoRow : OpenClaim := { program := "ytkjknlnhffmkkaa", sum := "aa875a1b45780adfd1b69330f1f44fefce41a87253ba69d0fad6449bd8aea873", func := "prunewell/prunelaw2.UpdateSize", spec := "updateSize", unfollowed := true, recurses := true, apart := false, narrowed := true }
def UpdateSizeUptoSaid : Prop := updateSizeUptoRow.holds Try.pinned (OpenSpec.upto updateSizeSpec)

/-- 'prunelaw1.ClockTells', WHERE WHAT IT READS IS OF BULK AT MOST 1048576: true; the input reads as it did. -/
def clockTellsUptoRow : OpenClaim := { program := "ytkjknlnhffmkkaa", sum := "aa875a1b45780adfd1b69330f1f44fefce41a87253ba69d0fad6449bd8aea873", func := "prunewell/prunelaw1.ClockTells", spec := "clockTells", unfollowed := true, recurses := true, apart := false, narrowed := true }
def ClockTellsUptoSaid : Prop := clockTellsUptoRow.holds Try.pinned (OpenSpec.upto clockTellsSpec)

/-- 'prunelaw1.ClockTick', WHERE WHAT IT READS IS OF BULK AT MOST 1048576: true; the input reads as it did. -/
def clockTickUptoRow : OpenClaim := { program := "ytkjknlnhffmkkaa", sum := "aa875a1b45780adfd1b69330f1f44fefce41a87253ba69d0fad6449bd8aea873", func := "prunewell/prunelaw1.ClockTick", spec := "clockTick", unfollowed := true, recurses := true, apart := false, narrowed := true }
def ClockTickUptoSaid : Prop := clockTickUptoRow.holds Try.pinned (OpenSpec.upto clockTickSpec)

/-- 'prunelaw3.LogParts', WHERE WHAT IT READS IS OF BULK AT MOST 1048576: true; the input reads as it did. -/
def logPartsUptoRow : OpenClaim := { program := "ytkjknlnhffmkkaa", sum := "aa875a1b45780adfd1b69330f1f44fefce41a87253ba69d0fad6449bd8aea873", func := "prunewell/prunelaw3.LogParts", spec := "logParts", unfollowed := true, recurses := true, apart := false, narrowed := true }
def LogPartsUptoSaid : Prop := logPartsUptoRow.holds Try.pinned (OpenSpec.upto logPartsSpec)

/-- 'prunelaw3.LogLacks', WHERE WHAT IT READS IS OF BULK AT MOST 1048576: true; the input reads as it did. -/
def logLacksUptoRow : OpenClaim := { program := "ytkjknlnhffmkkaa", sum := "aa875a1b45780adfd1b69330f1f44fefce41a87253ba69d0fad6449bd8aea873", func := "prunewell/prunelaw3.LogLacks", spec := "logLacks", unfollowed := true, recurses := true, apart := false, narrowed := true }
def LogLacksUptoSaid : Prop := logLacksUptoRow.holds Try.pinned (OpenSpec.upto logLacksSpec)

/-- 'prunetop.Names', WHERE WHAT IT READS IS OF BULK AT MOST 1048576: true; the input reads as it did. -/
def namesUptoRow : OpenClaim := { program := "ytkjknlnhffmkkaa", sum := "aa875a1b45780adfd1b69330f1f44fefce41a87253ba69d0fad6449bd8aea873", func := "prunewell/prunetop.Names", spec := "names", apart := false, narrowed := true }
def NamesUptoSaid : Prop := namesUptoRow.holds Try.pinned (OpenSpec.upto namesSpec)

/-- 'prunelaw3.LogTells', WHERE WHAT IT READS IS OF BULK AT MOST 1048576: true; the input reads as it did. -/
def logTellsUptoRow : OpenClaim := { program := "ytkjknlnhffmkkaa", sum := "aa875a1b45780adfd1b69330f1f44fefce41a87253ba69d0fad6449bd8aea873", func := "prunewell/prunelaw3.LogTells", spec := "logTells", unfollowed := true, recurses := true, apart := false, narrowed := true }
def LogTellsUptoSaid : Prop := logTellsUptoRow.holds Try.pinned (OpenSpec.upto logTellsSpec)

/-- 'prunelaw3.LogSorted', WHERE WHAT IT READS IS OF BULK AT MOST 1048576: true; the input reads as it did. -/
def logSortedUptoRow : OpenClaim := { program := "ytkjknlnhffmkkaa", sum := "aa875a1b45780adfd1b69330f1f44fefce41a87253ba69d0fad6449bd8aea873", func := "prunewell/prunelaw3.LogSorted", spec := "logSorted", unfollowed := true, recurses := true, apart := false, narrowed := true }
def LogSortedUptoSaid : Prop := logSortedUptoRow.holds Try.pinned (OpenSpec.upto logSortedSpec)

end Rows
end Go.Proofs.Ytkjknlnhffmkkaa
