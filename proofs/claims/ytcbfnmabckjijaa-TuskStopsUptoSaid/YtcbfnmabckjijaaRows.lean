/-
  No cell of these rows narrows 'for every input' (looked for: loops, veiled, ifaces, maps, wideKeys, modest, calm, conditions, laid).
  DERIVED. THE GIVEN ROWS OF THIS SEAT. 7 by the template 'for every input the law returns true; each argument reads behind the call as it read before'; 0 by the template 'total and deterministic' (their statements: YtcbfnmabckjijaaTotals.lean).
  GIVEN WITH THE SEED: the statements are not yours to turn. If you find one false, say at which input.
  Laid BY PROGRAM, IN A SANDBOX (cutbox-rows.mjs): the forced cells as the released guide's own fill.sh prints them over the translation af574dca66663115… (all of the seat's roots in one cut). By AI agents, Wed Nov 11 2026. No macro, syntax, notation, axiom, sorry.
-/
import Derived.Test.YtcbfnmabckjijaaChecked
import GoSem.Claim
import GoSem.ClaimJoined
import GoSem.ClaimMapViews
import Derived.JoinedTies
import Derived.KernelRfl
namespace Go.Proofs.Ytcbfnmabckjijaa
/- THE CELL 'sum', in the pinned program and in every row, IS THE sha256 OF THE DUMP (.gsa) THAT YtcbfnmabckjijaaProg.lean LOADS. Nothing in Lean hashes anything: it is a label: what it is worth is what the hold of that sum in a sandbox is worth. -/
noncomputable def Try.pinned : Pinned := { name := "ytcbfnmabckjijaa", sum := "af574dca666631159d0ea50d0ba4437e2964cdcd299032819696c752077ee9b1", checked := Try.checked }
namespace Rows
def none {H : Type} : Left H := { results := [], args := [] }

/-- 'selvedgelaw13.TuskStops': WHATEVER THE INPUT: true; the input reads as it did. -/
def tuskStopsSpec : ChangeSpec := { name := "tuskStops", fn := fun _ => fun
  | [d1, d2] => { results := [.lit (.bool true)], args := [d1, d2] }
  | _ => none }
def tuskStopsRow : OpenClaim := { program := "ytcbfnmabckjijaa", sum := "af574dca666631159d0ea50d0ba4437e2964cdcd299032819696c752077ee9b1", func := "selvedge/selvedgelaw13.TuskStops", spec := "tuskStops", inPlace := ["math.Float64bits", "math.Float64frombits"], unfollowed := true, recurses := true, apart := false }
def TuskStopsSaid : Prop := tuskStopsRow.holds Try.pinned (OpenSpec.ofChange tuskStopsSpec)

/-- ITS FALSE NEIGHBOUR: 'it returns false'. Refute it at one input. -/
def tuskStopsWrong : ChangeSpec := { name := "tuskStops", fn := fun _ => fun
  | [d1, d2] => { results := [.lit (.bool false)], args := [d1, d2] }
  | _ => none }
def TuskStopsWrongFalsely : Prop := tuskStopsRow.holds Try.pinned (OpenSpec.ofChange tuskStopsWrong)

/-- 'selvedgelaw14.OrderMarks': WHATEVER THE INPUT: true; the input reads as it did. -/
def orderMarksSpec : ChangeSpec := { name := "orderMarks", fn := fun _ => fun
  | [d1, d2, d3] => { results := [.lit (.bool true)], args := [d1, d2, d3] }
  | _ => none }
def orderMarksRow : OpenClaim := { program := "ytcbfnmabckjijaa", sum := "af574dca666631159d0ea50d0ba4437e2964cdcd299032819696c752077ee9b1", func := "selvedge/selvedgelaw14.OrderMarks", spec := "orderMarks", inPlace := ["slices.overlaps[int]", "slices.overlaps[selvedge/api.Mark]"], unfollowed := true, recurses := true, apart := false }
def OrderMarksSaid : Prop := orderMarksRow.holds Try.pinned (OpenSpec.ofChange orderMarksSpec)

/-- ITS FALSE NEIGHBOUR: 'it returns false'. Refute it at one input. -/
def orderMarksWrong : ChangeSpec := { name := "orderMarks", fn := fun _ => fun
  | [d1, d2, d3] => { results := [.lit (.bool false)], args := [d1, d2, d3] }
  | _ => none }
def OrderMarksWrongFalsely : Prop := orderMarksRow.holds Try.pinned (OpenSpec.ofChange orderMarksWrong)

/-- 'selvedgelaw14.OrderNotes': WHATEVER THE INPUT: true; the input reads as it did. -/
def orderNotesSpec : ChangeSpec := { name := "orderNotes", fn := fun _ => fun
  | [d] => { results := [.lit (.bool true)], args := [d] }
  | _ => none }
def orderNotesRow : OpenClaim := { program := "ytcbfnmabckjijaa", sum := "af574dca666631159d0ea50d0ba4437e2964cdcd299032819696c752077ee9b1", func := "selvedge/selvedgelaw14.OrderNotes", spec := "orderNotes", inPlace := ["slices.overlaps[int]", "slices.overlaps[selvedge/api.Mark]"], unfollowed := true, recurses := true, apart := false }
def OrderNotesSaid : Prop := orderNotesRow.holds Try.pinned (OpenSpec.ofChange orderNotesSpec)

/-- ITS FALSE NEIGHBOUR: 'it returns false'. Refute it at one input. -/
def orderNotesWrong : ChangeSpec := { name := "orderNotes", fn := fun _ => fun
  | [d] => { results := [.lit (.bool false)], args := [d] }
  | _ => none }
def OrderNotesWrongFalsely : Prop := orderNotesRow.holds Try.pinned (OpenSpec.ofChange orderNotesWrong)

/-- 'selvedgelaw14.OrderRuns': WHATEVER THE INPUT: true; the input reads as it did. -/
def orderRunsSpec : ChangeSpec := { name := "orderRuns", fn := fun _ => fun
  | [d1, d2] => { results := [.lit (.bool true)], args := [d1, d2] }
  | _ => none }
def orderRunsRow : OpenClaim := { program := "ytcbfnmabckjijaa", sum := "af574dca666631159d0ea50d0ba4437e2964cdcd299032819696c752077ee9b1", func := "selvedge/selvedgelaw14.OrderRuns", spec := "orderRuns", inPlace := ["slices.overlaps[int]", "slices.overlaps[selvedge/api.Mark]"], unfollowed := true, recurses := true, apart := false }
def OrderRunsSaid : Prop := orderRunsRow.holds Try.pinned (OpenSpec.ofChange orderRunsSpec)

/-- ITS FALSE NEIGHBOUR: 'it returns false'. Refute it at one input. -/
def orderRunsWrong : ChangeSpec := { name := "orderRuns", fn := fun _ => fun
  | [d1, d2] => { results := [.lit (.bool false)], args := [d1, d2] }
  | _ => none }
def OrderRunsWrongFalsely : Prop := orderRunsRow.holds Try.pinned (OpenSpec.ofChange orderRunsWrong)

/-- 'selvedgelaw14.OrderBehind': WHATEVER THE INPUT: true; the input reads as it did. -/
def orderBehindSpec : ChangeSpec := { name := "orderBehind", fn := fun _ => fun
  | [d1, d2, d3] => { results := [.lit (.bool true)], args := [d1, d2, d3] }
  | _ => none }
def orderBehindRow : OpenClaim := { program := "ytcbfnmabckjijaa", sum := "af574dca666631159d0ea50d0ba4437e2964cdcd299032819696c752077ee9b1", func := "selvedge/selvedgelaw14.OrderBehind", spec := "orderBehind", inPlace := ["slices.overlaps[int]", "slices.overlaps[selvedge/api.Mark]", "slices.overlaps[string]"], unfollowed := true, recurses := true, apart := false }
def OrderBehindSaid : Prop := orderBehindRow.holds Try.pinned (OpenSpec.ofChange orderBehindSpec)

/-- ITS FALSE NEIGHBOUR: 'it returns false'. Refute it at one input. -/
def orderBehindWrong : ChangeSpec := { name := "orderBehind", fn := fun _ => fun
  | [d1, d2, d3] => { results := [.lit (.bool false)], args := [d1, d2, d3] }
  | _ => none }
def OrderBehindWrongFalsely : Prop := orderBehindRow.holds Try.pinned (OpenSpec.ofChange orderBehindWrong)

/-- 'selvedgelaw14.OrderTurns': WHATEVER THE INPUT: true; the input reads as it did. -/
def orderTurnsSpec : ChangeSpec := { name := "orderTurns", fn := fun _ => fun
  | [d1, d2, d3] => { results := [.lit (.bool true)], args := [d1, d2, d3] }
  | _ => none }
def orderTurnsRow : OpenClaim := { program := "ytcbfnmabckjijaa", sum := "af574dca666631159d0ea50d0ba4437e2964cdcd299032819696c752077ee9b1", func := "selvedge/selvedgelaw14.OrderTurns", spec := "orderTurns", inPlace := ["slices.overlaps[int]", "slices.overlaps[selvedge/api.Mark]", "slices.overlaps[string]"], unfollowed := true, recurses := true, apart := false }
def OrderTurnsSaid : Prop := orderTurnsRow.holds Try.pinned (OpenSpec.ofChange orderTurnsSpec)

/-- ITS FALSE NEIGHBOUR: 'it returns false'. Refute it at one input. -/
def orderTurnsWrong : ChangeSpec := { name := "orderTurns", fn := fun _ => fun
  | [d1, d2, d3] => { results := [.lit (.bool false)], args := [d1, d2, d3] }
  | _ => none }
def OrderTurnsWrongFalsely : Prop := orderTurnsRow.holds Try.pinned (OpenSpec.ofChange orderTurnsWrong)

/-- 'selvedgelaw14.OrderDeep': WHATEVER THE INPUT: true; the input reads as it did. -/
def orderDeepSpec : ChangeSpec := { name := "orderDeep", fn := fun _ => fun
  | [d1, d2, d3] => { results := [.lit (.bool true)], args := [d1, d2, d3] }
  | _ => none }
def orderDeepRow : OpenClaim := { program := "ytcbfnmabckjijaa", sum := "af574dca666631159d0ea50d0ba4437e2964cdcd299032819696c752077ee9b1", func := "selvedge/selvedgelaw14.OrderDeep", spec := "orderDeep", inPlace := ["slices.overlaps[int]", "slices.overlaps[selvedge/api.Mark]", "slices.overlaps[string]"], unfollowed := true, recurses := true, apart := false }
def OrderDeepSaid : Prop := orderDeepRow.holds Try.pinned (OpenSpec.ofChange orderDeepSpec)

/-- ITS FALSE NEIGHBOUR: 'it returns false'. Refute it at one input. -/
def orderDeepWrong : ChangeSpec := { name := "orderDeep", fn := fun _ => fun
  | [d1, d2, d3] => { results := [.lit (.bool false)], args := [d1, d2, d3] }
  | _ => none }
def OrderDeepWrongFalsely : Prop := orderDeepRow.holds Try.pinned (OpenSpec.ofChange orderDeepWrong)

/- THE SECOND FORM. 'bulk': how many values and letters a reading holds, each counted each time it is reached (what is shared counts as often as it is met; a slice's spare places count too). A statement '..UptoSaid' is the law's where the arguments, and the package variables that the reading takes, are together of bulk at most 1048576: NARROWER than '..Said'. Prove '..Said' where nothing that the law and all that it calls make is longer than what came in: it says more and counts as full. Else prove '..UptoSaid'. A law counts once. -/
mutual
def uptoBulk {H : Type} : DataW H → Nat
  | .lit (.string bytes) => bytes.length + 1
  | .lit _ => 1
  | .nil => 1
  | .ptr d => uptoBulk d + 1
  | .slice elems spare => uptoBulkAll elems + uptoBulkAll spare + 1
  | .agg parts => uptoBulkAll parts + 1
  | .iface _ d => uptoBulk d + 1
  | .map entries => uptoBulkEntries entries + 1
  | .held _ => 1
def uptoBulkAll {H : Type} : List (DataW H) → Nat
  | [] => 0
  | d :: r => uptoBulk d + uptoBulkAll r
def uptoBulkEntries {H : Type} : List (Lit × DataW H) → Nat
  | [] => 0
  | x :: r => uptoBulkEntry x + uptoBulkEntries r
def uptoBulkEntry {H : Type} : Lit × DataW H → Nat
  | (.string bytes, d) => bytes.length + uptoBulk d + 1
  | (_, d) => uptoBulk d + 1
 end
def uptoSmall : (H : Type) → List (DataW H) → Bool := fun _ ds => decide (uptoBulkAll ds ≤ 1048576)
def OpenSpec.upto (s : _root_.Go.ChangeSpec) : _root_.Go.OpenSpec := { _root_.Go.OpenSpec.ofChange s with cond := some uptoSmall }

/-- 'selvedgelaw13.TuskStops', WHERE WHAT IT READS IS OF BULK AT MOST 1048576: true; the input reads as it did. -/
def tuskStopsUptoRow : OpenClaim := { program := "ytcbfnmabckjijaa", sum := "af574dca666631159d0ea50d0ba4437e2964cdcd299032819696c752077ee9b1", func := "selvedge/selvedgelaw13.TuskStops", spec := "tuskStops", inPlace := ["math.Float64bits", "math.Float64frombits"], unfollowed := true, recurses := true, apart := false, narrowed := true }
def TuskStopsUptoSaid : Prop := tuskStopsUptoRow.holds Try.pinned (OpenSpec.upto tuskStopsSpec)

/-- 'selvedgelaw14.OrderMarks', WHERE WHAT IT READS IS OF BULK AT MOST 1048576: true; the input reads as it did. -/
def orderMarksUptoRow : OpenClaim := { program := "ytcbfnmabckjijaa", sum := "af574dca666631159d0ea50d0ba4437e2964cdcd299032819696c752077ee9b1", func := "selvedge/selvedgelaw14.OrderMarks", spec := "orderMarks", inPlace := ["slices.overlaps[int]", "slices.overlaps[selvedge/api.Mark]"], unfollowed := true, recurses := true, apart := false, narrowed := true }
def OrderMarksUptoSaid : Prop := orderMarksUptoRow.holds Try.pinned (OpenSpec.upto orderMarksSpec)

/-- 'selvedgelaw14.OrderNotes', WHERE WHAT IT READS IS OF BULK AT MOST 1048576: true; the input reads as it did. -/
def orderNotesUptoRow : OpenClaim := { program := "ytcbfnmabckjijaa", sum := "af574dca666631159d0ea50d0ba4437e2964cdcd299032819696c752077ee9b1", func := "selvedge/selvedgelaw14.OrderNotes", spec := "orderNotes", inPlace := ["slices.overlaps[int]", "slices.overlaps[selvedge/api.Mark]"], unfollowed := true, recurses := true, apart := false, narrowed := true }
def OrderNotesUptoSaid : Prop := orderNotesUptoRow.holds Try.pinned (OpenSpec.upto orderNotesSpec)

/-- 'selvedgelaw14.OrderRuns', WHERE WHAT IT READS IS OF BULK AT MOST 1048576: true; the input reads as it did. -/
def orderRunsUptoRow : OpenClaim := { program := "ytcbfnmabckjijaa", sum := "af574dca666631159d0ea50d0ba4437e2964cdcd299032819696c752077ee9b1", func := "selvedge/selvedgelaw14.OrderRuns", spec := "orderRuns", inPlace := ["slices.overlaps[int]", "slices.overlaps[selvedge/api.Mark]"], unfollowed := true, recurses := true, apart := false, narrowed := true }
def OrderRunsUptoSaid : Prop := orderRunsUptoRow.holds Try.pinned (OpenSpec.upto orderRunsSpec)

/-- 'selvedgelaw14.OrderBehind', WHERE WHAT IT READS IS OF BULK AT MOST 1048576: true; the input reads as it did. -/
def orderBehindUptoRow : OpenClaim := { program := "ytcbfnmabckjijaa", sum := "af574dca666631159d0ea50d0ba4437e2964cdcd299032819696c752077ee9b1", func := "selvedge/selvedgelaw14.OrderBehind", spec := "orderBehind", inPlace := ["slices.overlaps[int]", "slices.overlaps[selvedge/api.Mark]", "slices.overlaps[string]"], unfollowed := true, recurses := true, apart := false, narrowed := true }
def OrderBehindUptoSaid : Prop := orderBehindUptoRow.holds Try.pinned (OpenSpec.upto orderBehindSpec)

/-- 'selvedgelaw14.OrderTurns', WHERE WHAT IT READS IS OF BULK AT MOST 1048576: true; the input reads as it did. -/
def orderTurnsUptoRow : OpenClaim := { program := "ytcbfnmabckjijaa", sum := "af574dca666631159d0ea50d0ba4437e2964cdcd299032819696c752077ee9b1", func := "selvedge/selvedgelaw14.OrderTurns", spec := "orderTurns", inPlace := ["slices.overlaps[int]", "slices.overlaps[selvedge/api.Mark]", "slices.overlaps[string]"], unfollowed := true, recurses := true, apart := false, narrowed := true }
def OrderTurnsUptoSaid : Prop := orderTurnsUptoRow.holds Try.pinned (OpenSpec.upto orderTurnsSpec)

/-- 'selvedgelaw14.OrderDeep', WHERE WHAT IT READS IS OF BULK AT MOST 1048576: true; the input reads as it did. -/
def orderDeepUptoRow : OpenClaim := { program := "ytcbfnmabckjijaa", sum := "af574dca666631159d0ea50d0ba4437e2964cdcd299032819696c752077ee9b1", func := "selvedge/selvedgelaw14.OrderDeep", spec := "orderDeep", inPlace := ["slices.overlaps[int]", "slices.overlaps[selvedge/api.Mark]", "slices.overlaps[string]"], unfollowed := true, recurses := true, apart := false, narrowed := true }
def OrderDeepUptoSaid : Prop := orderDeepUptoRow.holds Try.pinned (OpenSpec.upto orderDeepSpec)

end Rows
end Go.Proofs.Ytcbfnmabckjijaa
