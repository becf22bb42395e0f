/-
  No cell of these rows narrows 'for every input' (looked for: loops, veiled, ifaces, maps, wideKeys, modest, calm, conditions, laid).
  DERIVED. THE GIVEN ROWS OF THIS SEAT. 14 by the template 'for every input the law returns true; each argument reads behind the call as it read before'; 0 by the template 'total and deterministic' (their statements: YtlljehkmemajkaaTotals.lean).
  GIVEN WITH THE SEED: the statements are not yours to turn. If you find one false, say at which input.
  Laid BY PROGRAM, IN A SANDBOX (cutbox-rows.mjs): the forced cells as the released guide's own fill.sh prints them over the translation d0ab01e0a2383069… (all of the seat's roots in one cut). By AI agents, Wed Nov 11 2026. No macro, syntax, notation, axiom, sorry.
-/
import Derived.Test.YtlljehkmemajkaaChecked
import GoSem.Claim
import GoSem.ClaimJoined
import GoSem.ClaimMapViews
import Derived.JoinedTies
import Derived.KernelRfl
namespace Go.Proofs.Ytlljehkmemajkaa
/- THE CELL 'sum', in the pinned program and in every row, IS THE sha256 OF THE DUMP (.gsa) THAT YtlljehkmemajkaaProg.lean LOADS. Nothing in Lean hashes anything: it is a label: what it is worth is what the hold of that sum in a sandbox is worth. -/
noncomputable def Try.pinned : Pinned := { name := "ytlljehkmemajkaa", sum := "d0ab01e0a23830695548a49bfa9d6e6d79c12a82695b56a61b130bd74d906f9d", checked := Try.checked }
namespace Rows
def none {H : Type} : Left H := { results := [], args := [] }

/-- 'lineallaw04.MemoryOutcomes': WHATEVER THE INPUT: true; the input reads as it did. -/
def memoryOutcomesSpec : ChangeSpec := { name := "memoryOutcomes", fn := fun _ => fun
  | [d1, d2, d3] => { results := [.lit (.bool true)], args := [d1, d2, d3] }
  | _ => none }
def memoryOutcomesRow : OpenClaim := { program := "ytlljehkmemajkaa", sum := "d0ab01e0a23830695548a49bfa9d6e6d79c12a82695b56a61b130bd74d906f9d", func := "lineal/lineallaw04.MemoryOutcomes", spec := "memoryOutcomes", unfollowed := true, recurses := true, plainKeys := false, apart := false }
def MemoryOutcomesSaid : Prop := memoryOutcomesRow.holds Try.pinned (OpenSpec.ofChange memoryOutcomesSpec)

/-- ITS FALSE NEIGHBOUR: 'it returns false'. Refute it at one input. -/
def memoryOutcomesWrong : ChangeSpec := { name := "memoryOutcomes", fn := fun _ => fun
  | [d1, d2, d3] => { results := [.lit (.bool false)], args := [d1, d2, d3] }
  | _ => none }
def MemoryOutcomesWrongFalsely : Prop := memoryOutcomesRow.holds Try.pinned (OpenSpec.ofChange memoryOutcomesWrong)

/-- 'lineallaw04.MemoryMores': WHATEVER THE INPUT: true; the input reads as it did. -/
def memoryMoresSpec : ChangeSpec := { name := "memoryMores", fn := fun _ => fun
  | [d1, d2, d3] => { results := [.lit (.bool true)], args := [d1, d2, d3] }
  | _ => none }
def memoryMoresRow : OpenClaim := { program := "ytlljehkmemajkaa", sum := "d0ab01e0a23830695548a49bfa9d6e6d79c12a82695b56a61b130bd74d906f9d", func := "lineal/lineallaw04.MemoryMores", spec := "memoryMores", unfollowed := true, recurses := true, plainKeys := false, apart := false }
def MemoryMoresSaid : Prop := memoryMoresRow.holds Try.pinned (OpenSpec.ofChange memoryMoresSpec)

/-- ITS FALSE NEIGHBOUR: 'it returns false'. Refute it at one input. -/
def memoryMoresWrong : ChangeSpec := { name := "memoryMores", fn := fun _ => fun
  | [d1, d2, d3] => { results := [.lit (.bool false)], args := [d1, d2, d3] }
  | _ => none }
def MemoryMoresWrongFalsely : Prop := memoryMoresRow.holds Try.pinned (OpenSpec.ofChange memoryMoresWrong)

/-- 'lineallaw04.MemorySchedules': WHATEVER THE INPUT: true; the input reads as it did. -/
def memorySchedulesSpec : ChangeSpec := { name := "memorySchedules", fn := fun _ => fun
  | [d1, d2] => { results := [.lit (.bool true)], args := [d1, d2] }
  | _ => none }
def memorySchedulesRow : OpenClaim := { program := "ytlljehkmemajkaa", sum := "d0ab01e0a23830695548a49bfa9d6e6d79c12a82695b56a61b130bd74d906f9d", func := "lineal/lineallaw04.MemorySchedules", spec := "memorySchedules", unfollowed := true, recurses := true, plainKeys := false, apart := false }
def MemorySchedulesSaid : Prop := memorySchedulesRow.holds Try.pinned (OpenSpec.ofChange memorySchedulesSpec)

/-- ITS FALSE NEIGHBOUR: 'it returns false'. Refute it at one input. -/
def memorySchedulesWrong : ChangeSpec := { name := "memorySchedules", fn := fun _ => fun
  | [d1, d2] => { results := [.lit (.bool false)], args := [d1, d2] }
  | _ => none }
def MemorySchedulesWrongFalsely : Prop := memorySchedulesRow.holds Try.pinned (OpenSpec.ofChange memorySchedulesWrong)

/-- 'lineallaw04.MemoryKinds': WHATEVER THE INPUT: true; the input reads as it did. -/
def memoryKindsSpec : ChangeSpec := { name := "memoryKinds", fn := fun _ => fun
  | [d] => { results := [.lit (.bool true)], args := [d] }
  | _ => none }
def memoryKindsRow : OpenClaim := { program := "ytlljehkmemajkaa", sum := "d0ab01e0a23830695548a49bfa9d6e6d79c12a82695b56a61b130bd74d906f9d", func := "lineal/lineallaw04.MemoryKinds", spec := "memoryKinds", unfollowed := true, recurses := true, plainKeys := false, apart := false }
def MemoryKindsSaid : Prop := memoryKindsRow.holds Try.pinned (OpenSpec.ofChange memoryKindsSpec)

/-- ITS FALSE NEIGHBOUR: 'it returns false'. Refute it at one input. -/
def memoryKindsWrong : ChangeSpec := { name := "memoryKinds", fn := fun _ => fun
  | [d] => { results := [.lit (.bool false)], args := [d] }
  | _ => none }
def MemoryKindsWrongFalsely : Prop := memoryKindsRow.holds Try.pinned (OpenSpec.ofChange memoryKindsWrong)

/-- 'lineallaw04.MemoryRuns': WHATEVER THE INPUT: true; the input reads as it did. -/
def memoryRunsSpec : ChangeSpec := { name := "memoryRuns", fn := fun _ => fun
  | [d1, d2] => { results := [.lit (.bool true)], args := [d1, d2] }
  | _ => none }
def memoryRunsRow : OpenClaim := { program := "ytlljehkmemajkaa", sum := "d0ab01e0a23830695548a49bfa9d6e6d79c12a82695b56a61b130bd74d906f9d", func := "lineal/lineallaw04.MemoryRuns", spec := "memoryRuns", unfollowed := true, recurses := true, plainKeys := false, apart := false }
def MemoryRunsSaid : Prop := memoryRunsRow.holds Try.pinned (OpenSpec.ofChange memoryRunsSpec)

/-- ITS FALSE NEIGHBOUR: 'it returns false'. Refute it at one input. -/
def memoryRunsWrong : ChangeSpec := { name := "memoryRuns", fn := fun _ => fun
  | [d1, d2] => { results := [.lit (.bool false)], args := [d1, d2] }
  | _ => none }
def MemoryRunsWrongFalsely : Prop := memoryRunsRow.holds Try.pinned (OpenSpec.ofChange memoryRunsWrong)

/-- 'lineallaw04.MemoryWays': WHATEVER THE INPUT: true; the input reads as it did. -/
def memoryWaysSpec : ChangeSpec := { name := "memoryWays", fn := fun _ => fun
  | [d1, d2] => { results := [.lit (.bool true)], args := [d1, d2] }
  | _ => none }
def memoryWaysRow : OpenClaim := { program := "ytlljehkmemajkaa", sum := "d0ab01e0a23830695548a49bfa9d6e6d79c12a82695b56a61b130bd74d906f9d", func := "lineal/lineallaw04.MemoryWays", spec := "memoryWays", unfollowed := true, recurses := true, plainKeys := false, apart := false }
def MemoryWaysSaid : Prop := memoryWaysRow.holds Try.pinned (OpenSpec.ofChange memoryWaysSpec)

/-- ITS FALSE NEIGHBOUR: 'it returns false'. Refute it at one input. -/
def memoryWaysWrong : ChangeSpec := { name := "memoryWays", fn := fun _ => fun
  | [d1, d2] => { results := [.lit (.bool false)], args := [d1, d2] }
  | _ => none }
def MemoryWaysWrongFalsely : Prop := memoryWaysRow.holds Try.pinned (OpenSpec.ofChange memoryWaysWrong)

/-- 'lineallaw04.MemoryTurns': WHATEVER THE INPUT: true; the input reads as it did. -/
def memoryTurnsSpec : ChangeSpec := { name := "memoryTurns", fn := fun _ => fun
  | [d1, d2, d3] => { results := [.lit (.bool true)], args := [d1, d2, d3] }
  | _ => none }
def memoryTurnsRow : OpenClaim := { program := "ytlljehkmemajkaa", sum := "d0ab01e0a23830695548a49bfa9d6e6d79c12a82695b56a61b130bd74d906f9d", func := "lineal/lineallaw04.MemoryTurns", spec := "memoryTurns", unfollowed := true, recurses := true, plainKeys := false, apart := false }
def MemoryTurnsSaid : Prop := memoryTurnsRow.holds Try.pinned (OpenSpec.ofChange memoryTurnsSpec)

/-- ITS FALSE NEIGHBOUR: 'it returns false'. Refute it at one input. -/
def memoryTurnsWrong : ChangeSpec := { name := "memoryTurns", fn := fun _ => fun
  | [d1, d2, d3] => { results := [.lit (.bool false)], args := [d1, d2, d3] }
  | _ => none }
def MemoryTurnsWrongFalsely : Prop := memoryTurnsRow.holds Try.pinned (OpenSpec.ofChange memoryTurnsWrong)

/-- 'lineallaw04.MemoryNeeds': WHATEVER THE INPUT: true; the input reads as it did. -/
def memoryNeedsSpec : ChangeSpec := { name := "memoryNeeds", fn := fun _ => fun
  | [d1, d2] => { results := [.lit (.bool true)], args := [d1, d2] }
  | _ => none }
def memoryNeedsRow : OpenClaim := { program := "ytlljehkmemajkaa", sum := "d0ab01e0a23830695548a49bfa9d6e6d79c12a82695b56a61b130bd74d906f9d", func := "lineal/lineallaw04.MemoryNeeds", spec := "memoryNeeds", unfollowed := true, recurses := true, plainKeys := false, apart := false }
def MemoryNeedsSaid : Prop := memoryNeedsRow.holds Try.pinned (OpenSpec.ofChange memoryNeedsSpec)

/-- ITS FALSE NEIGHBOUR: 'it returns false'. Refute it at one input. -/
def memoryNeedsWrong : ChangeSpec := { name := "memoryNeeds", fn := fun _ => fun
  | [d1, d2] => { results := [.lit (.bool false)], args := [d1, d2] }
  | _ => none }
def MemoryNeedsWrongFalsely : Prop := memoryNeedsRow.holds Try.pinned (OpenSpec.ofChange memoryNeedsWrong)

/-- 'lineallaw04.MemoryBares': WHATEVER THE INPUT: true; the input reads as it did. -/
def memoryBaresSpec : ChangeSpec := { name := "memoryBares", fn := fun _ => fun
  | [d] => { results := [.lit (.bool true)], args := [d] }
  | _ => none }
def memoryBaresRow : OpenClaim := { program := "ytlljehkmemajkaa", sum := "d0ab01e0a23830695548a49bfa9d6e6d79c12a82695b56a61b130bd74d906f9d", func := "lineal/lineallaw04.MemoryBares", spec := "memoryBares", unfollowed := true, recurses := true, plainKeys := false, apart := false }
def MemoryBaresSaid : Prop := memoryBaresRow.holds Try.pinned (OpenSpec.ofChange memoryBaresSpec)

/-- ITS FALSE NEIGHBOUR: 'it returns false'. Refute it at one input. -/
def memoryBaresWrong : ChangeSpec := { name := "memoryBares", fn := fun _ => fun
  | [d] => { results := [.lit (.bool false)], args := [d] }
  | _ => none }
def MemoryBaresWrongFalsely : Prop := memoryBaresRow.holds Try.pinned (OpenSpec.ofChange memoryBaresWrong)

/-- 'lineallaw04.MemoryLess': WHATEVER THE INPUT: true; the input reads as it did. -/
def memoryLessSpec : ChangeSpec := { name := "memoryLess", fn := fun _ => fun
  | [d1, d2] => { results := [.lit (.bool true)], args := [d1, d2] }
  | _ => none }
def memoryLessRow : OpenClaim := { program := "ytlljehkmemajkaa", sum := "d0ab01e0a23830695548a49bfa9d6e6d79c12a82695b56a61b130bd74d906f9d", func := "lineal/lineallaw04.MemoryLess", spec := "memoryLess", inPlace := ["slices.overlaps[lineal/api.Act]"], unfollowed := true, recurses := true, plainKeys := false, apart := false }
def MemoryLessSaid : Prop := memoryLessRow.holds Try.pinned (OpenSpec.ofChange memoryLessSpec)

/-- ITS FALSE NEIGHBOUR: 'it returns false'. Refute it at one input. -/
def memoryLessWrong : ChangeSpec := { name := "memoryLess", fn := fun _ => fun
  | [d1, d2] => { results := [.lit (.bool false)], args := [d1, d2] }
  | _ => none }
def MemoryLessWrongFalsely : Prop := memoryLessRow.holds Try.pinned (OpenSpec.ofChange memoryLessWrong)

/-- 'lineallaw04.MemoryFences': WHATEVER THE INPUT: true; the input reads as it did. -/
def memoryFencesSpec : ChangeSpec := { name := "memoryFences", fn := fun _ => fun
  | [d1, d2, d3] => { results := [.lit (.bool true)], args := [d1, d2, d3] }
  | _ => none }
def memoryFencesRow : OpenClaim := { program := "ytlljehkmemajkaa", sum := "d0ab01e0a23830695548a49bfa9d6e6d79c12a82695b56a61b130bd74d906f9d", func := "lineal/lineallaw04.MemoryFences", spec := "memoryFences", inPlace := ["slices.overlaps[lineal/api.Act]"], unfollowed := true, recurses := true, plainKeys := false, apart := false }
def MemoryFencesSaid : Prop := memoryFencesRow.holds Try.pinned (OpenSpec.ofChange memoryFencesSpec)

/-- ITS FALSE NEIGHBOUR: 'it returns false'. Refute it at one input. -/
def memoryFencesWrong : ChangeSpec := { name := "memoryFences", fn := fun _ => fun
  | [d1, d2, d3] => { results := [.lit (.bool false)], args := [d1, d2, d3] }
  | _ => none }
def MemoryFencesWrongFalsely : Prop := memoryFencesRow.holds Try.pinned (OpenSpec.ofChange memoryFencesWrong)

/-- 'lineallaw04.MemoryOnes': WHATEVER THE INPUT: true; the input reads as it did. -/
def memoryOnesSpec : ChangeSpec := { name := "memoryOnes", fn := fun _ => fun
  | [d] => { results := [.lit (.bool true)], args := [d] }
  | _ => none }
def memoryOnesRow : OpenClaim := { program := "ytlljehkmemajkaa", sum := "d0ab01e0a23830695548a49bfa9d6e6d79c12a82695b56a61b130bd74d906f9d", func := "lineal/lineallaw04.MemoryOnes", spec := "memoryOnes", unfollowed := true, recurses := true, plainKeys := false, apart := false }
def MemoryOnesSaid : Prop := memoryOnesRow.holds Try.pinned (OpenSpec.ofChange memoryOnesSpec)

/-- ITS FALSE NEIGHBOUR: 'it returns false'. Refute it at one input. -/
def memoryOnesWrong : ChangeSpec := { name := "memoryOnes", fn := fun _ => fun
  | [d] => { results := [.lit (.bool false)], args := [d] }
  | _ => none }
def MemoryOnesWrongFalsely : Prop := memoryOnesRow.holds Try.pinned (OpenSpec.ofChange memoryOnesWrong)

/-- 'lineallaw04.MemoryNames': WHATEVER THE INPUT: true; the input reads as it did. -/
def memoryNamesSpec : ChangeSpec := { name := "memoryNames", fn := fun _ => fun
  | [d1, d2, d3] => { results := [.lit (.bool true)], args := [d1, d2, d3] }
  | _ => none }
def memoryNamesRow : OpenClaim := { program := "ytlljehkmemajkaa", sum := "d0ab01e0a23830695548a49bfa9d6e6d79c12a82695b56a61b130bd74d906f9d", func := "lineal/lineallaw04.MemoryNames", spec := "memoryNames", unfollowed := true, recurses := true, plainKeys := false, apart := false }
def MemoryNamesSaid : Prop := memoryNamesRow.holds Try.pinned (OpenSpec.ofChange memoryNamesSpec)

/-- ITS FALSE NEIGHBOUR: 'it returns false'. Refute it at one input. -/
def memoryNamesWrong : ChangeSpec := { name := "memoryNames", fn := fun _ => fun
  | [d1, d2, d3] => { results := [.lit (.bool false)], args := [d1, d2, d3] }
  | _ => none }
def MemoryNamesWrongFalsely : Prop := memoryNamesRow.holds Try.pinned (OpenSpec.ofChange memoryNamesWrong)

/-- 'linealtop.TopMemory': WHATEVER THE INPUT: true; the input reads as it did. -/
def topMemorySpec : ChangeSpec := { name := "topMemory", fn := fun _ => fun
  | [d1, d2] => { results := [.lit (.bool true)], args := [d1, d2] }
  | _ => none }
def topMemoryRow : OpenClaim := { program := "ytlljehkmemajkaa", sum := "d0ab01e0a23830695548a49bfa9d6e6d79c12a82695b56a61b130bd74d906f9d", func := "lineal/linealtop.TopMemory", spec := "topMemory", unfollowed := true, recurses := true, plainKeys := false, apart := false }
def TopMemorySaid : Prop := topMemoryRow.holds Try.pinned (OpenSpec.ofChange topMemorySpec)

/-- ITS FALSE NEIGHBOUR: 'it returns false'. Refute it at one input. -/
def topMemoryWrong : ChangeSpec := { name := "topMemory", fn := fun _ => fun
  | [d1, d2] => { results := [.lit (.bool false)], args := [d1, d2] }
  | _ => none }
def TopMemoryWrongFalsely : Prop := topMemoryRow.holds Try.pinned (OpenSpec.ofChange topMemoryWrong)

/- THE SECOND FORM. 'bulk': how many values and letters a reading holds, each counted each time it is reached (what is shared counts as often as it is met; a slice's spare places count too). A statement '..UptoSaid' is the law's where the arguments, and the package variables that the reading takes, are together of bulk at most 1048576: NARROWER than '..Said'. Prove '..Said' where nothing that the law and all that it calls make is longer than what came in: it says more and counts as full. Else prove '..UptoSaid'. A law counts once. -/
mutual
def uptoBulk {H : Type} : DataW H → Nat
  | .lit (.string bytes) => bytes.length + 1
  | .lit _ => 1
  | .nil => 1
  | .ptr d => uptoBulk d + 1
  | .slice elems spare => uptoBulkAll elems + uptoBulkAll spare + 1
  | .agg parts => uptoBulkAll parts + 1
  | .iface _ d => uptoBulk d + 1
  | .map entries => uptoBulkEntries entries + 1
  | .held _ => 1
def uptoBulkAll {H : Type} : List (DataW H) → Nat
  | [] => 0
  | d :: r => uptoBulk d + uptoBulkAll r
def uptoBulkEntries {H : Type} : List (Lit × DataW H) → Nat
  | [] => 0
  | x :: r => uptoBulkEntry x + uptoBulkEntries r
def uptoBulkEntry {H : Type} : Lit × DataW H → Nat
  | (.string bytes, d) => bytes.length + uptoBulk d + 1
  | (_, d) => uptoBulk d + 1
 end
def uptoSmall : (H : Type) → List (DataW H) → Bool := fun _ ds => decide (uptoBulkAll ds ≤ 1048576)
def OpenSpec.upto (s : _root_.Go.ChangeSpec) : _root_.Go.OpenSpec := { _root_.Go.OpenSpec.ofChange s with cond := some uptoSmall }

/-- 'lineallaw04.MemoryOutcomes', WHERE WHAT IT READS IS OF BULK AT MOST 1048576: true; the input reads as it did. -/
def memoryOutcomesUptoRow : OpenClaim := { program := "ytlljehkmemajkaa", sum := "d0ab01e0a23830695548a49bfa9d6e6d79c12a82695b56a61b130bd74d906f9d", func := "lineal/lineallaw04.MemoryOutcomes", spec := "memoryOutcomes", unfollowed := true, recurses := true, plainKeys := false, apart := false, narrowed := true }
def MemoryOutcomesUptoSaid : Prop := memoryOutcomesUptoRow.holds Try.pinned (OpenSpec.upto memoryOutcomesSpec)

/-- 'lineallaw04.MemoryMores', WHERE WHAT IT READS IS OF BULK AT MOST 1048576: true; the input reads as it did. -/
def memoryMoresUptoRow : OpenClaim := { program := "ytlljehkmemajkaa", sum := "d0ab01e0a23830695548a49bfa9d6e6d79c12a82695b56a61b130bd74d906f9d", func := "lineal/lineallaw04.MemoryMores", spec := "memoryMores", unfollowed := true, recurses := true, plainKeys := false, apart := false, narrowed := true }
def MemoryMoresUptoSaid : Prop := memoryMoresUptoRow.holds Try.pinned (OpenSpec.upto memoryMoresSpec)

/-- 'lineallaw04.MemorySchedules', WHERE WHAT IT READS IS OF BULK AT MOST 1048576: true; the input reads as it did. -/
def memorySchedulesUptoRow : OpenClaim := { program := "ytlljehkmemajkaa", sum := "d0ab01e0a23830695548a49bfa9d6e6d79c12a82695b56a61b130bd74d906f9d", func := "lineal/lineallaw04.MemorySchedules", spec := "memorySchedules", unfollowed := true, recurses := true, plainKeys := false, apart := false, narrowed := true }
def MemorySchedulesUptoSaid : Prop := memorySchedulesUptoRow.holds Try.pinned (OpenSpec.upto memorySchedulesSpec)

/-- 'lineallaw04.MemoryKinds', WHERE WHAT IT READS IS OF BULK AT MOST 1048576: true; the input reads as it did. -/
def memoryKindsUptoRow : OpenClaim := { program := "ytlljehkmemajkaa", sum := "d0ab01e0a23830695548a49bfa9d6e6d79c12a82695b56a61b130bd74d906f9d", func := "lineal/lineallaw04.MemoryKinds", spec := "memoryKinds", unfollowed := true, recurses := true, plainKeys := false, apart := false, narrowed := true }
def MemoryKindsUptoSaid : Prop := memoryKindsUptoRow.holds Try.pinned (OpenSpec.upto memoryKindsSpec)

/-- 'lineallaw04.MemoryRuns', WHERE WHAT IT READS IS OF BULK AT MOST 1048576: true; the input reads as it did. -/
def memoryRunsUptoRow : OpenClaim := { program := "ytlljehkmemajkaa", sum := "d0ab01e0a23830695548a49bfa9d6e6d79c12a82695b56a61b130bd74d906f9d", func := "lineal/lineallaw04.MemoryRuns", spec := "memoryRuns", unfollowed := true, recurses := true, plainKeys := false, apart := false, narrowed := true }
def MemoryRunsUptoSaid : Prop := memoryRunsUptoRow.holds Try.pinned (OpenSpec.upto memoryRunsSpec)

/-- 'lineallaw04.MemoryWays', WHERE WHAT IT READS IS OF BULK AT MOST 1048576: true; the input reads as it did. -/
def memoryWaysUptoRow : OpenClaim := { program := "ytlljehkmemajkaa", sum := "d0ab01e0a23830695548a49bfa9d6e6d79c12a82695b56a61b130bd74d906f9d", func := "lineal/lineallaw04.MemoryWays", spec := "memoryWays", unfollowed := true, recurses := true, plainKeys := false, apart := false, narrowed := true }
def MemoryWaysUptoSaid : Prop := memoryWaysUptoRow.holds Try.pinned (OpenSpec.upto memoryWaysSpec)

/-- 'lineallaw04.MemoryTurns', WHERE WHAT IT READS IS OF BULK AT MOST 1048576: true; the input reads as it did. -/
def memoryTurnsUptoRow : OpenClaim := { program := "ytlljehkmemajkaa", sum := "d0ab01e0a23830695548a49bfa9d6e6d79c12a82695b56a61b130bd74d906f9d", func := "lineal/lineallaw04.MemoryTurns", spec := "memoryTurns", unfollowed := true, recurses := true, plainKeys := false, apart := false, narrowed := true }
def MemoryTurnsUptoSaid : Prop := memoryTurnsUptoRow.holds Try.pinned (OpenSpec.upto memoryTurnsSpec)

/-- 'lineallaw04.MemoryNeeds', WHERE WHAT IT READS IS OF BULK AT MOST 1048576: true; the input reads as it did. -/
def memoryNeedsUptoRow : OpenClaim := { program := "ytlljehkmemajkaa", sum := "d0ab01e0a23830695548a49bfa9d6e6d79c12a82695b56a61b130bd74d906f9d", func := "lineal/lineallaw04.MemoryNeeds", spec := "memoryNeeds", unfollowed := true, recurses := true, plainKeys := false, apart := false, narrowed := true }
def MemoryNeedsUptoSaid : Prop := memoryNeedsUptoRow.holds Try.pinned (OpenSpec.upto memoryNeedsSpec)

/-- 'lineallaw04.MemoryBares', WHERE WHAT IT READS IS OF BULK AT MOST 1048576: true; the input reads as it did. -/
def memoryBaresUptoRow : OpenClaim := { program := "ytlljehkmemajkaa", sum := "d0ab01e0a23830695548a49bfa9d6e6d79c12a82695b56a61b130bd74d906f9d", func := "lineal/lineallaw04.MemoryBares", spec := "memoryBares", unfollowed := true, recurses := true, plainKeys := false, apart := false, narrowed := true }
def MemoryBaresUptoSaid : Prop := memoryBaresUptoRow.holds Try.pinned (OpenSpec.upto memoryBaresSpec)

/-- 'lineallaw04.MemoryLess', WHERE WHAT IT READS IS OF BULK AT MOST 1048576: true; the input reads as it did. -/
def memoryLessUptoRow : OpenClaim := { program := "ytlljehkmemajkaa", sum := "d0ab01e0a23830695548a49bfa9d6e6d79c12a82695b56a61b130bd74d906f9d", func := "lineal/lineallaw04.MemoryLess", spec := "memoryLess", inPlace := ["slices.overlaps[lineal/api.Act]"], unfollowed := true, recurses := true, plainKeys := false, apart := false, narrowed := true }
def MemoryLessUptoSaid : Prop := memoryLessUptoRow.holds Try.pinned (OpenSpec.upto memoryLessSpec)

/-- 'lineallaw04.MemoryFences', WHERE WHAT IT READS IS OF BULK AT MOST 1048576: true; the input reads as it did. -/
def memoryFencesUptoRow : OpenClaim := { program := "ytlljehkmemajkaa", sum := "d0ab01e0a23830695548a49bfa9d6e6d79c12a82695b56a61b130bd74d906f9d", func := "lineal/lineallaw04.MemoryFences", spec := "memoryFences", inPlace := ["slices.overlaps[lineal/api.Act]"], unfollowed := true, recurses := true, plainKeys := false, apart := false, narrowed := true }
def MemoryFencesUptoSaid : Prop := memoryFencesUptoRow.holds Try.pinned (OpenSpec.upto memoryFencesSpec)

/-- 'lineallaw04.MemoryOnes', WHERE WHAT IT READS IS OF BULK AT MOST 1048576: true; the input reads as it did. -/
def memoryOnesUptoRow : OpenClaim := { program := "ytlljehkmemajkaa", sum := "d0ab01e0a23830695548a49bfa9d6e6d79c12a82695b56a61b130bd74d906f9d", func := "lineal/lineallaw04.MemoryOnes", spec := "memoryOnes", unfollowed := true, recurses := true, plainKeys := false, apart := false, narrowed := true }
def MemoryOnesUptoSaid : Prop := memoryOnesUptoRow.holds Try.pinned (OpenSpec.upto memoryOnesSpec)

/-- 'lineallaw04.MemoryNames', WHERE WHAT IT READS IS OF BULK AT MOST 1048576: true; the input reads as it did. -/
def memoryNamesUptoRow : OpenClaim := { program := "ytlljehkmemajkaa", sum := "d0ab01e0a23830695548a49bfa9d6e6d79c12a82695b56a61b130bd74d906f9d", func := "lineal/lineallaw04.MemoryNames", spec := "memoryNames", unfollowed := true, recurses := true, plainKeys := false, apart := false, narrowed := true }
def MemoryNamesUptoSaid : Prop := memoryNamesUptoRow.holds Try.pinned (OpenSpec.upto memoryNamesSpec)

/-- 'linealtop.TopMemory', WHERE WHAT IT READS IS OF BULK AT MOST 1048576: true; the input reads as it did. -/
def topMemoryUptoRow : OpenClaim := { program := "ytlljehkmemajkaa", sum := "d0ab01e0a23830695548a49bfa9d6e6d79c12a82695b56a61b130bd74d906f9d", func := "lineal/linealtop.TopMemory", spec := "topMemory", unfollowed := true, recurses := true, plainKeys := false, apart := false, narrowed := true }
def TopMemoryUptoSaid : Prop := topMemoryUptoRow.holds Try.pinned (OpenSpec.upto topMemorySpec)

end Rows
end Go.Proofs.Ytlljehkmemajkaa
