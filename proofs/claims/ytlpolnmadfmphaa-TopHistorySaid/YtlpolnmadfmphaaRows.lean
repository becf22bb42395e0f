/-
  No cell of these rows narrows 'for every input' (looked for: loops, veiled, ifaces, maps, wideKeys, modest, calm, conditions, laid).
  DERIVED. THE GIVEN ROWS OF THIS SEAT. 14 by the template 'for every input the law returns true; each argument reads behind the call as it read before'; 0 by the template 'total and deterministic' (their statements: YtlpolnmadfmphaaTotals.lean).
  GIVEN WITH THE SEED: the statements are not yours to turn. If you find one false, say at which input.
  Laid BY PROGRAM, IN A SANDBOX (cutbox-rows.mjs): the forced cells as the released guide's own fill.sh prints them over the translation 239c3bc502a4abdd… (all of the seat's roots in one cut). By AI agents, Wed Nov 11 2026. No macro, syntax, notation, axiom, sorry.
-/
import Derived.Test.YtlpolnmadfmphaaChecked
import GoSem.Claim
import GoSem.ClaimJoined
import GoSem.ClaimMapViews
import Derived.JoinedTies
import Derived.KernelRfl
namespace Go.Proofs.Ytlpolnmadfmphaa
/- THE CELL 'sum', in the pinned program and in every row, IS THE sha256 OF THE DUMP (.gsa) THAT YtlpolnmadfmphaaProg.lean LOADS. Nothing in Lean hashes anything: it is a label: what it is worth is what the hold of that sum in a sandbox is worth. -/
noncomputable def Try.pinned : Pinned := { name := "ytlpolnmadfmphaa", sum := "239c3bc502a4abdd040a742dcc2f4c7647b11eb007977a2639cd717ca17af328", checked := Try.checked }
namespace Rows
def none {H : Type} : Left H := { results := [], args := [] }

/-- 'lineallaw02.HistoryValids': WHATEVER THE INPUT: true; the input reads as it did. -/
def historyValidsSpec : ChangeSpec := { name := "historyValids", fn := fun _ => fun
  | [d1, d2, d3] => { results := [.lit (.bool true)], args := [d1, d2, d3] }
  | _ => none }
def historyValidsRow : OpenClaim := { program := "ytlpolnmadfmphaa", sum := "239c3bc502a4abdd040a742dcc2f4c7647b11eb007977a2639cd717ca17af328", func := "lineal/lineallaw02.HistoryValids", spec := "historyValids", unfollowed := true, recurses := true, plainKeys := false, apart := false }
def HistoryValidsSaid : Prop := historyValidsRow.holds Try.pinned (OpenSpec.ofChange historyValidsSpec)

/-- ITS FALSE NEIGHBOUR: 'it returns false'. Refute it at one input. -/
def historyValidsWrong : ChangeSpec := { name := "historyValids", fn := fun _ => fun
  | [d1, d2, d3] => { results := [.lit (.bool false)], args := [d1, d2, d3] }
  | _ => none }
def HistoryValidsWrongFalsely : Prop := historyValidsRow.holds Try.pinned (OpenSpec.ofChange historyValidsWrong)

/-- 'lineallaw02.HistoryLinears': WHATEVER THE INPUT: true; the input reads as it did. -/
def historyLinearsSpec : ChangeSpec := { name := "historyLinears", fn := fun _ => fun
  | [d1, d2] => { results := [.lit (.bool true)], args := [d1, d2] }
  | _ => none }
def historyLinearsRow : OpenClaim := { program := "ytlpolnmadfmphaa", sum := "239c3bc502a4abdd040a742dcc2f4c7647b11eb007977a2639cd717ca17af328", func := "lineal/lineallaw02.HistoryLinears", spec := "historyLinears", unfollowed := true, recurses := true, plainKeys := false, apart := false }
def HistoryLinearsSaid : Prop := historyLinearsRow.holds Try.pinned (OpenSpec.ofChange historyLinearsSpec)

/-- ITS FALSE NEIGHBOUR: 'it returns false'. Refute it at one input. -/
def historyLinearsWrong : ChangeSpec := { name := "historyLinears", fn := fun _ => fun
  | [d1, d2] => { results := [.lit (.bool false)], args := [d1, d2] }
  | _ => none }
def HistoryLinearsWrongFalsely : Prop := historyLinearsRow.holds Try.pinned (OpenSpec.ofChange historyLinearsWrong)

/-- 'lineallaw02.HistoryPlays': WHATEVER THE INPUT: true; the input reads as it did. -/
def historyPlaysSpec : ChangeSpec := { name := "historyPlays", fn := fun _ => fun
  | [d1, d2] => { results := [.lit (.bool true)], args := [d1, d2] }
  | _ => none }
def historyPlaysRow : OpenClaim := { program := "ytlpolnmadfmphaa", sum := "239c3bc502a4abdd040a742dcc2f4c7647b11eb007977a2639cd717ca17af328", func := "lineal/lineallaw02.HistoryPlays", spec := "historyPlays", unfollowed := true, recurses := true, plainKeys := false, apart := false }
def HistoryPlaysSaid : Prop := historyPlaysRow.holds Try.pinned (OpenSpec.ofChange historyPlaysSpec)

/-- ITS FALSE NEIGHBOUR: 'it returns false'. Refute it at one input. -/
def historyPlaysWrong : ChangeSpec := { name := "historyPlays", fn := fun _ => fun
  | [d1, d2] => { results := [.lit (.bool false)], args := [d1, d2] }
  | _ => none }
def HistoryPlaysWrongFalsely : Prop := historyPlaysRow.holds Try.pinned (OpenSpec.ofChange historyPlaysWrong)

/-- 'lineallaw02.HistoryWidths': WHATEVER THE INPUT: true; the input reads as it did. -/
def historyWidthsSpec : ChangeSpec := { name := "historyWidths", fn := fun _ => fun
  | [d] => { results := [.lit (.bool true)], args := [d] }
  | _ => none }
def historyWidthsRow : OpenClaim := { program := "ytlpolnmadfmphaa", sum := "239c3bc502a4abdd040a742dcc2f4c7647b11eb007977a2639cd717ca17af328", func := "lineal/lineallaw02.HistoryWidths", spec := "historyWidths", unfollowed := true, recurses := true, plainKeys := false, apart := false }
def HistoryWidthsSaid : Prop := historyWidthsRow.holds Try.pinned (OpenSpec.ofChange historyWidthsSpec)

/-- ITS FALSE NEIGHBOUR: 'it returns false'. Refute it at one input. -/
def historyWidthsWrong : ChangeSpec := { name := "historyWidths", fn := fun _ => fun
  | [d] => { results := [.lit (.bool false)], args := [d] }
  | _ => none }
def HistoryWidthsWrongFalsely : Prop := historyWidthsRow.holds Try.pinned (OpenSpec.ofChange historyWidthsWrong)

/-- 'lineallaw02.HistoryObjects': WHATEVER THE INPUT: true; the input reads as it did. -/
def historyObjectsSpec : ChangeSpec := { name := "historyObjects", fn := fun _ => fun
  | [d1, d2] => { results := [.lit (.bool true)], args := [d1, d2] }
  | _ => none }
def historyObjectsRow : OpenClaim := { program := "ytlpolnmadfmphaa", sum := "239c3bc502a4abdd040a742dcc2f4c7647b11eb007977a2639cd717ca17af328", func := "lineal/lineallaw02.HistoryObjects", spec := "historyObjects", unfollowed := true, recurses := true, plainKeys := false, apart := false }
def HistoryObjectsSaid : Prop := historyObjectsRow.holds Try.pinned (OpenSpec.ofChange historyObjectsSpec)

/-- ITS FALSE NEIGHBOUR: 'it returns false'. Refute it at one input. -/
def historyObjectsWrong : ChangeSpec := { name := "historyObjects", fn := fun _ => fun
  | [d1, d2] => { results := [.lit (.bool false)], args := [d1, d2] }
  | _ => none }
def HistoryObjectsWrongFalsely : Prop := historyObjectsRow.holds Try.pinned (OpenSpec.ofChange historyObjectsWrong)

/-- 'lineallaw02.HistoryLongers': WHATEVER THE INPUT: true; the input reads as it did. -/
def historyLongersSpec : ChangeSpec := { name := "historyLongers", fn := fun _ => fun
  | [d1, d2, d3] => { results := [.lit (.bool true)], args := [d1, d2, d3] }
  | _ => none }
def historyLongersRow : OpenClaim := { program := "ytlpolnmadfmphaa", sum := "239c3bc502a4abdd040a742dcc2f4c7647b11eb007977a2639cd717ca17af328", func := "lineal/lineallaw02.HistoryLongers", spec := "historyLongers", unfollowed := true, recurses := true, plainKeys := false, apart := false }
def HistoryLongersSaid : Prop := historyLongersRow.holds Try.pinned (OpenSpec.ofChange historyLongersSpec)

/-- ITS FALSE NEIGHBOUR: 'it returns false'. Refute it at one input. -/
def historyLongersWrong : ChangeSpec := { name := "historyLongers", fn := fun _ => fun
  | [d1, d2, d3] => { results := [.lit (.bool false)], args := [d1, d2, d3] }
  | _ => none }
def HistoryLongersWrongFalsely : Prop := historyLongersRow.holds Try.pinned (OpenSpec.ofChange historyLongersWrong)

/-- 'linealtop.TopHistory': WHATEVER THE INPUT: true; the input reads as it did. -/
def topHistorySpec : ChangeSpec := { name := "topHistory", fn := fun _ => fun
  | [d1, d2, d3] => { results := [.lit (.bool true)], args := [d1, d2, d3] }
  | _ => none }
def topHistoryRow : OpenClaim := { program := "ytlpolnmadfmphaa", sum := "239c3bc502a4abdd040a742dcc2f4c7647b11eb007977a2639cd717ca17af328", func := "lineal/linealtop.TopHistory", spec := "topHistory", unfollowed := true, recurses := true, plainKeys := false, apart := false }
def TopHistorySaid : Prop := topHistoryRow.holds Try.pinned (OpenSpec.ofChange topHistorySpec)

/-- ITS FALSE NEIGHBOUR: 'it returns false'. Refute it at one input. -/
def topHistoryWrong : ChangeSpec := { name := "topHistory", fn := fun _ => fun
  | [d1, d2, d3] => { results := [.lit (.bool false)], args := [d1, d2, d3] }
  | _ => none }
def TopHistoryWrongFalsely : Prop := topHistoryRow.holds Try.pinned (OpenSpec.ofChange topHistoryWrong)

/-- 'lineallaw02.HistoryParts': WHATEVER THE INPUT: true; the input reads as it did. -/
def historyPartsSpec : ChangeSpec := { name := "historyParts", fn := fun _ => fun
  | [d1, d2, d3] => { results := [.lit (.bool true)], args := [d1, d2, d3] }
  | _ => none }
def historyPartsRow : OpenClaim := { program := "ytlpolnmadfmphaa", sum := "239c3bc502a4abdd040a742dcc2f4c7647b11eb007977a2639cd717ca17af328", func := "lineal/lineallaw02.HistoryParts", spec := "historyParts", unfollowed := true, recurses := true, plainKeys := false, apart := false }
def HistoryPartsSaid : Prop := historyPartsRow.holds Try.pinned (OpenSpec.ofChange historyPartsSpec)

/-- ITS FALSE NEIGHBOUR: 'it returns false'. Refute it at one input. -/
def historyPartsWrong : ChangeSpec := { name := "historyParts", fn := fun _ => fun
  | [d1, d2, d3] => { results := [.lit (.bool false)], args := [d1, d2, d3] }
  | _ => none }
def HistoryPartsWrongFalsely : Prop := historyPartsRow.holds Try.pinned (OpenSpec.ofChange historyPartsWrong)

/-- 'lineallaw02.HistoryBegins': WHATEVER THE INPUT: true; the input reads as it did. -/
def historyBeginsSpec : ChangeSpec := { name := "historyBegins", fn := fun _ => fun
  | [d1, d2, d3] => { results := [.lit (.bool true)], args := [d1, d2, d3] }
  | _ => none }
def historyBeginsRow : OpenClaim := { program := "ytlpolnmadfmphaa", sum := "239c3bc502a4abdd040a742dcc2f4c7647b11eb007977a2639cd717ca17af328", func := "lineal/lineallaw02.HistoryBegins", spec := "historyBegins", unfollowed := true, recurses := true, plainKeys := false, apart := false }
def HistoryBeginsSaid : Prop := historyBeginsRow.holds Try.pinned (OpenSpec.ofChange historyBeginsSpec)

/-- ITS FALSE NEIGHBOUR: 'it returns false'. Refute it at one input. -/
def historyBeginsWrong : ChangeSpec := { name := "historyBegins", fn := fun _ => fun
  | [d1, d2, d3] => { results := [.lit (.bool false)], args := [d1, d2, d3] }
  | _ => none }
def HistoryBeginsWrongFalsely : Prop := historyBeginsRow.holds Try.pinned (OpenSpec.ofChange historyBeginsWrong)

/-- 'lineallaw02.HistoryKeeps': WHATEVER THE INPUT: true; the input reads as it did. -/
def historyKeepsSpec : ChangeSpec := { name := "historyKeeps", fn := fun _ => fun
  | [d1, d2] => { results := [.lit (.bool true)], args := [d1, d2] }
  | _ => none }
def historyKeepsRow : OpenClaim := { program := "ytlpolnmadfmphaa", sum := "239c3bc502a4abdd040a742dcc2f4c7647b11eb007977a2639cd717ca17af328", func := "lineal/lineallaw02.HistoryKeeps", spec := "historyKeeps", unfollowed := true, recurses := true, plainKeys := false, apart := false }
def HistoryKeepsSaid : Prop := historyKeepsRow.holds Try.pinned (OpenSpec.ofChange historyKeepsSpec)

/-- ITS FALSE NEIGHBOUR: 'it returns false'. Refute it at one input. -/
def historyKeepsWrong : ChangeSpec := { name := "historyKeeps", fn := fun _ => fun
  | [d1, d2] => { results := [.lit (.bool false)], args := [d1, d2] }
  | _ => none }
def HistoryKeepsWrongFalsely : Prop := historyKeepsRow.holds Try.pinned (OpenSpec.ofChange historyKeepsWrong)

/-- 'lineallaw02.HistoryStays': WHATEVER THE INPUT: true; the input reads as it did. -/
def historyStaysSpec : ChangeSpec := { name := "historyStays", fn := fun _ => fun
  | [d1, d2, d3] => { results := [.lit (.bool true)], args := [d1, d2, d3] }
  | _ => none }
def historyStaysRow : OpenClaim := { program := "ytlpolnmadfmphaa", sum := "239c3bc502a4abdd040a742dcc2f4c7647b11eb007977a2639cd717ca17af328", func := "lineal/lineallaw02.HistoryStays", spec := "historyStays", unfollowed := true, recurses := true, plainKeys := false, apart := false }
def HistoryStaysSaid : Prop := historyStaysRow.holds Try.pinned (OpenSpec.ofChange historyStaysSpec)

/-- ITS FALSE NEIGHBOUR: 'it returns false'. Refute it at one input. -/
def historyStaysWrong : ChangeSpec := { name := "historyStays", fn := fun _ => fun
  | [d1, d2, d3] => { results := [.lit (.bool false)], args := [d1, d2, d3] }
  | _ => none }
def HistoryStaysWrongFalsely : Prop := historyStaysRow.holds Try.pinned (OpenSpec.ofChange historyStaysWrong)

/-- 'lineallaw02.HistoryOrders': WHATEVER THE INPUT: true; the input reads as it did. -/
def historyOrdersSpec : ChangeSpec := { name := "historyOrders", fn := fun _ => fun
  | [d1, d2, d3] => { results := [.lit (.bool true)], args := [d1, d2, d3] }
  | _ => none }
def historyOrdersRow : OpenClaim := { program := "ytlpolnmadfmphaa", sum := "239c3bc502a4abdd040a742dcc2f4c7647b11eb007977a2639cd717ca17af328", func := "lineal/lineallaw02.HistoryOrders", spec := "historyOrders", unfollowed := true, recurses := true, plainKeys := false, apart := false }
def HistoryOrdersSaid : Prop := historyOrdersRow.holds Try.pinned (OpenSpec.ofChange historyOrdersSpec)

/-- ITS FALSE NEIGHBOUR: 'it returns false'. Refute it at one input. -/
def historyOrdersWrong : ChangeSpec := { name := "historyOrders", fn := fun _ => fun
  | [d1, d2, d3] => { results := [.lit (.bool false)], args := [d1, d2, d3] }
  | _ => none }
def HistoryOrdersWrongFalsely : Prop := historyOrdersRow.holds Try.pinned (OpenSpec.ofChange historyOrdersWrong)

/-- 'lineallaw02.HistoryPlayed': WHATEVER THE INPUT: true; the input reads as it did. -/
def historyPlayedSpec : ChangeSpec := { name := "historyPlayed", fn := fun _ => fun
  | [d1, d2] => { results := [.lit (.bool true)], args := [d1, d2] }
  | _ => none }
def historyPlayedRow : OpenClaim := { program := "ytlpolnmadfmphaa", sum := "239c3bc502a4abdd040a742dcc2f4c7647b11eb007977a2639cd717ca17af328", func := "lineal/lineallaw02.HistoryPlayed", spec := "historyPlayed", unfollowed := true, recurses := true, plainKeys := false, apart := false }
def HistoryPlayedSaid : Prop := historyPlayedRow.holds Try.pinned (OpenSpec.ofChange historyPlayedSpec)

/-- ITS FALSE NEIGHBOUR: 'it returns false'. Refute it at one input. -/
def historyPlayedWrong : ChangeSpec := { name := "historyPlayed", fn := fun _ => fun
  | [d1, d2] => { results := [.lit (.bool false)], args := [d1, d2] }
  | _ => none }
def HistoryPlayedWrongFalsely : Prop := historyPlayedRow.holds Try.pinned (OpenSpec.ofChange historyPlayedWrong)

/-- 'lineallaw02.HistoryFirsts': WHATEVER THE INPUT: true; the input reads as it did. -/
def historyFirstsSpec : ChangeSpec := { name := "historyFirsts", fn := fun _ => fun
  | [d1, d2, d3] => { results := [.lit (.bool true)], args := [d1, d2, d3] }
  | _ => none }
def historyFirstsRow : OpenClaim := { program := "ytlpolnmadfmphaa", sum := "239c3bc502a4abdd040a742dcc2f4c7647b11eb007977a2639cd717ca17af328", func := "lineal/lineallaw02.HistoryFirsts", spec := "historyFirsts", unfollowed := true, recurses := true, plainKeys := false, apart := false }
def HistoryFirstsSaid : Prop := historyFirstsRow.holds Try.pinned (OpenSpec.ofChange historyFirstsSpec)

/-- ITS FALSE NEIGHBOUR: 'it returns false'. Refute it at one input. -/
def historyFirstsWrong : ChangeSpec := { name := "historyFirsts", fn := fun _ => fun
  | [d1, d2, d3] => { results := [.lit (.bool false)], args := [d1, d2, d3] }
  | _ => none }
def HistoryFirstsWrongFalsely : Prop := historyFirstsRow.holds Try.pinned (OpenSpec.ofChange historyFirstsWrong)

/- THE SECOND FORM. 'bulk': how many values and letters a reading holds, each counted each time it is reached (what is shared counts as often as it is met; a slice's spare places count too). A statement '..UptoSaid' is the law's where the arguments, and the package variables that the reading takes, are together of bulk at most 1048576: NARROWER than '..Said'. Prove '..Said' where nothing that the law and all that it calls make is longer than what came in: it says more and counts as full. Else prove '..UptoSaid'. A law counts once. -/
mutual
def uptoBulk {H : Type} : DataW H → Nat
  | .lit (.string bytes) => bytes.length + 1
  | .lit _ => 1
  | .nil => 1
  | .ptr d => uptoBulk d + 1
  | .slice elems spare => uptoBulkAll elems + uptoBulkAll spare + 1
  | .agg parts => uptoBulkAll parts + 1
  | .iface _ d => uptoBulk d + 1
  | .map entries => uptoBulkEntries entries + 1
  | .held _ => 1
def uptoBulkAll {H : Type} : List (DataW H) → Nat
  | [] => 0
  | d :: r => uptoBulk d + uptoBulkAll r
def uptoBulkEntries {H : Type} : List (Lit × DataW H) → Nat
  | [] => 0
  | x :: r => uptoBulkEntry x + uptoBulkEntries r
def uptoBulkEntry {H : Type} : Lit × DataW H → Nat
  | (.string bytes, d) => bytes.length + uptoBulk d + 1
  | (_, d) => uptoBulk d + 1
 end
def uptoSmall : (H : Type) → List (DataW H) → Bool := fun _ ds => decide (uptoBulkAll ds ≤ 1048576)
def OpenSpec.upto (s : _root_.Go.ChangeSpec) : _root_.Go.OpenSpec := { _root_.Go.OpenSpec.ofChange s with cond := some uptoSmall }

/-- 'lineallaw02.HistoryValids', WHERE WHAT IT READS IS OF BULK AT MOST 1048576: true; the input reads as it did. -/
def historyValidsUptoRow : OpenClaim := { program := "ytlpolnmadfmphaa", sum := "239c3bc502a4abdd040a742dcc2f4c7647b11eb007977a2639cd717ca17af328", func := "lineal/lineallaw02.HistoryValids", spec := "historyValids", unfollowed := true, recurses := true, plainKeys := false, apart := false, narrowed := true }
def HistoryValidsUptoSaid : Prop := historyValidsUptoRow.holds Try.pinned (OpenSpec.upto historyValidsSpec)

/-- 'lineallaw02.HistoryLinears', WHERE WHAT IT READS IS OF BULK AT MOST 1048576: true; the input reads as it did. -/
def historyLinearsUptoRow : OpenClaim := { program := "ytlpolnmadfmphaa", sum := "239c3bc502a4abdd040a742dcc2f4c7647b11eb007977a2639cd717ca17af328", func := "lineal/lineallaw02.HistoryLinears", spec := "historyLinears", unfollowed := true, recurses := true, plainKeys := false, apart := false, narrowed := true }
def HistoryLinearsUptoSaid : Prop := historyLinearsUptoRow.holds Try.pinned (OpenSpec.upto historyLinearsSpec)

/-- 'lineallaw02.HistoryPlays', WHERE WHAT IT READS IS OF BULK AT MOST 1048576: true; the input reads as it did. -/
def historyPlaysUptoRow : OpenClaim := { program := "ytlpolnmadfmphaa", sum := "239c3bc502a4abdd040a742dcc2f4c7647b11eb007977a2639cd717ca17af328", func := "lineal/lineallaw02.HistoryPlays", spec := "historyPlays", unfollowed := true, recurses := true, plainKeys := false, apart := false, narrowed := true }
def HistoryPlaysUptoSaid : Prop := historyPlaysUptoRow.holds Try.pinned (OpenSpec.upto historyPlaysSpec)

/-- 'lineallaw02.HistoryWidths', WHERE WHAT IT READS IS OF BULK AT MOST 1048576: true; the input reads as it did. -/
def historyWidthsUptoRow : OpenClaim := { program := "ytlpolnmadfmphaa", sum := "239c3bc502a4abdd040a742dcc2f4c7647b11eb007977a2639cd717ca17af328", func := "lineal/lineallaw02.HistoryWidths", spec := "historyWidths", unfollowed := true, recurses := true, plainKeys := false, apart := false, narrowed := true }
def HistoryWidthsUptoSaid : Prop := historyWidthsUptoRow.holds Try.pinned (OpenSpec.upto historyWidthsSpec)

/-- 'lineallaw02.HistoryObjects', WHERE WHAT IT READS IS OF BULK AT MOST 1048576: true; the input reads as it did. -/
def historyObjectsUptoRow : OpenClaim := { program := "ytlpolnmadfmphaa", sum := "239c3bc502a4abdd040a742dcc2f4c7647b11eb007977a2639cd717ca17af328", func := "lineal/lineallaw02.HistoryObjects", spec := "historyObjects", unfollowed := true, recurses := true, plainKeys := false, apart := false, narrowed := true }
def HistoryObjectsUptoSaid : Prop := historyObjectsUptoRow.holds Try.pinned (OpenSpec.upto historyObjectsSpec)

/-- 'lineallaw02.HistoryLongers', WHERE WHAT IT READS IS OF BULK AT MOST 1048576: true; the input reads as it did. -/
def historyLongersUptoRow : OpenClaim := { program := "ytlpolnmadfmphaa", sum := "239c3bc502a4abdd040a742dcc2f4c7647b11eb007977a2639cd717ca17af328", func := "lineal/lineallaw02.HistoryLongers", spec := "historyLongers", unfollowed := true, recurses := true, plainKeys := false, apart := false, narrowed := true }
def HistoryLongersUptoSaid : Prop := historyLongersUptoRow.holds Try.pinned (OpenSpec.upto historyLongersSpec)

/-- 'linealtop.TopHistory', WHERE WHAT IT READS IS OF BULK AT MOST 1048576: true; the input reads as it did. -/
def topHistoryUptoRow : OpenClaim := { program := "ytlpolnmadfmphaa", sum := "239c3bc502a4abdd040a742dcc2f4c7647b11eb007977a2639cd717ca17af328", func := "lineal/linealtop.TopHistory", spec := "topHistory", unfollowed := true, recurses := true, plainKeys := false, apart := false, narrowed := true }
def TopHistoryUptoSaid : Prop := topHistoryUptoRow.holds Try.pinned (OpenSpec.upto topHistorySpec)

/-- 'lineallaw02.HistoryParts', WHERE WHAT IT READS IS OF BULK AT MOST 1048576: true; the input reads as it did. -/
def historyPartsUptoRow : OpenClaim := { program := "ytlpolnmadfmphaa", sum := "239c3bc502a4abdd040a742dcc2f4c7647b11eb007977a2639cd717ca17af328", func := "lineal/lineallaw02.HistoryParts", spec := "historyParts", unfollowed := true, recurses := true, plainKeys := false, apart := false, narrowed := true }
def HistoryPartsUptoSaid : Prop := historyPartsUptoRow.holds Try.pinned (OpenSpec.upto historyPartsSpec)

/-- 'lineallaw02.HistoryBegins', WHERE WHAT IT READS IS OF BULK AT MOST 1048576: true; the input reads as it did. -/
def historyBeginsUptoRow : OpenClaim := { program := "ytlpolnmadfmphaa", sum := "239c3bc502a4abdd040a742dcc2f4c7647b11eb007977a2639cd717ca17af328", func := "lineal/lineallaw02.HistoryBegins", spec := "historyBegins", unfollowed := true, recurses := true, plainKeys := false, apart := false, narrowed := true }
def HistoryBeginsUptoSaid : Prop := historyBeginsUptoRow.holds Try.pinned (OpenSpec.upto historyBeginsSpec)

/-- 'lineallaw02.HistoryKeeps', WHERE WHAT IT READS IS OF BULK AT MOST 1048576: true; the input reads as it did. -/
def historyKeepsUptoRow : OpenClaim := { program := "ytlpolnmadfmphaa", sum := "239c3bc502a4abdd040a742dcc2f4c7647b11eb007977a2639cd717ca17af328", func := "lineal/lineallaw02.HistoryKeeps", spec := "historyKeeps", unfollowed := true, recurses := true, plainKeys := false, apart := false, narrowed := true }
def HistoryKeepsUptoSaid : Prop := historyKeepsUptoRow.holds Try.pinned (OpenSpec.upto historyKeepsSpec)

/-- 'lineallaw02.HistoryStays', WHERE WHAT IT READS IS OF BULK AT MOST 1048576: true; the input reads as it did. -/
def historyStaysUptoRow : OpenClaim := { program := "ytlpolnmadfmphaa", sum := "239c3bc502a4abdd040a742dcc2f4c7647b11eb007977a2639cd717ca17af328", func := "lineal/lineallaw02.HistoryStays", spec := "historyStays", unfollowed := true, recurses := true, plainKeys := false, apart := false, narrowed := true }
def HistoryStaysUptoSaid : Prop := historyStaysUptoRow.holds Try.pinned (OpenSpec.upto historyStaysSpec)

/-- 'lineallaw02.HistoryOrders', WHERE WHAT IT READS IS OF BULK AT MOST 1048576: true; the input reads as it did. -/
def historyOrdersUptoRow : OpenClaim := { program := "ytlpolnmadfmphaa", sum := "239c3bc502a4abdd040a742dcc2f4c7647b11eb007977a2639cd717ca17af328", func := "lineal/lineallaw02.HistoryOrders", spec := "historyOrders", unfollowed := true, recurses := true, plainKeys := false, apart := false, narrowed := true }
def HistoryOrdersUptoSaid : Prop := historyOrdersUptoRow.holds Try.pinned (OpenSpec.upto historyOrdersSpec)

/-- 'lineallaw02.HistoryPlayed', WHERE WHAT IT READS IS OF BULK AT MOST 1048576: true; the input reads as it did. -/
def historyPlayedUptoRow : OpenClaim := { program := "ytlpolnmadfmphaa", sum := "239c3bc502a4abdd040a742dcc2f4c7647b11eb007977a2639cd717ca17af328", func := "lineal/lineallaw02.HistoryPlayed", spec := "historyPlayed", unfollowed := true, recurses := true, plainKeys := false, apart := false, narrowed := true }
def HistoryPlayedUptoSaid : Prop := historyPlayedUptoRow.holds Try.pinned (OpenSpec.upto historyPlayedSpec)

/-- 'lineallaw02.HistoryFirsts', WHERE WHAT IT READS IS OF BULK AT MOST 1048576: true; the input reads as it did. -/
def historyFirstsUptoRow : OpenClaim := { program := "ytlpolnmadfmphaa", sum := "239c3bc502a4abdd040a742dcc2f4c7647b11eb007977a2639cd717ca17af328", func := "lineal/lineallaw02.HistoryFirsts", spec := "historyFirsts", unfollowed := true, recurses := true, plainKeys := false, apart := false, narrowed := true }
def HistoryFirstsUptoSaid : Prop := historyFirstsUptoRow.holds Try.pinned (OpenSpec.upto historyFirstsSpec)

end Rows
end Go.Proofs.Ytlpolnmadfmphaa
