/-
  No cell of these rows narrows 'for every input' (looked for: loops, veiled, ifaces, maps, wideKeys, modest, calm, conditions, laid).
  DERIVED. THE GIVEN ROWS OF THIS SEAT. 4 by the template 'for every input the law returns true; each argument reads behind the call as it read before'; 0 by the template 'total and deterministic' (their statements: YtopijobdblfhoaaGreatTotals.lean).
  GIVEN WITH THE SEED: the statements are not yours to turn. If you find one false, say at which input.
  Laid BY PROGRAM, IN A SANDBOX (cutbox-rows.mjs): the forced cells as the released guide's own fill.sh prints them over the translation 23bd868cc6e7b008… (all of the seat's roots in one cut). By AI agents, Wed Nov 11 2026. No macro, syntax, notation, axiom, sorry.
-/
import Derived.Test.YtopijobdblfhoaaGreatChecked
import GoSem.Claim
import GoSem.ClaimJoined
import GoSem.ClaimMapViews
import Derived.JoinedTies
import Derived.KernelRfl
namespace Go.Proofs.YtopijobdblfhoaaGreat
/- THE CELL 'sum', in the pinned program and in every row, IS THE sha256 OF THE DUMP (.gsa) THAT YtopijobdblfhoaaGreatProg.lean LOADS. Nothing in Lean hashes anything: it is a label: what it is worth is what the hold of that sum in a sandbox is worth. -/
noncomputable def Tryz.pinned : Pinned := { name := "ytopijobdblfhoaagreat", sum := "23bd868cc6e7b00883badb3276b49326b928bafea2191d43e70c44d57fb3f870", checked := Tryz.checked }
namespace Rows
def none {H : Type} : Left H := { results := [], args := [] }

/-- 'selvedgelaw13.TuskAsks': WHATEVER THE INPUT: true; the input reads as it did. -/
def tuskAsksSpec : ChangeSpec := { name := "tuskAsks", fn := fun _ => fun
  | [d1, d2, d3] => { results := [.lit (.bool true)], args := [d1, d2, d3] }
  | _ => none }
def tuskAsksRow : OpenClaim := { program := "ytopijobdblfhoaagreat", sum := "23bd868cc6e7b00883badb3276b49326b928bafea2191d43e70c44d57fb3f870", func := "selvedge/selvedgelaw13.TuskAsks", spec := "tuskAsks", inPlace := ["math.Float64bits", "math.Float64frombits"], unfollowed := true, recurses := true, apart := false }
def TuskAsksSaid : Prop := tuskAsksRow.holds Tryz.pinned (OpenSpec.ofChange tuskAsksSpec)

/-- ITS FALSE NEIGHBOUR: 'it returns false'. Refute it at one input. -/
def tuskAsksWrong : ChangeSpec := { name := "tuskAsks", fn := fun _ => fun
  | [d1, d2, d3] => { results := [.lit (.bool false)], args := [d1, d2, d3] }
  | _ => none }
def TuskAsksWrongFalsely : Prop := tuskAsksRow.holds Tryz.pinned (OpenSpec.ofChange tuskAsksWrong)

/-- 'selvedgelaw13.TuskChains': WHATEVER THE INPUT: true; the input reads as it did. -/
def tuskChainsSpec : ChangeSpec := { name := "tuskChains", fn := fun _ => fun
  | [d1, d2] => { results := [.lit (.bool true)], args := [d1, d2] }
  | _ => none }
def tuskChainsRow : OpenClaim := { program := "ytopijobdblfhoaagreat", sum := "23bd868cc6e7b00883badb3276b49326b928bafea2191d43e70c44d57fb3f870", func := "selvedge/selvedgelaw13.TuskChains", spec := "tuskChains", inPlace := ["math.Float64bits", "math.Float64frombits"], unfollowed := true, recurses := true, apart := false }
def TuskChainsSaid : Prop := tuskChainsRow.holds Tryz.pinned (OpenSpec.ofChange tuskChainsSpec)

/-- ITS FALSE NEIGHBOUR: 'it returns false'. Refute it at one input. -/
def tuskChainsWrong : ChangeSpec := { name := "tuskChains", fn := fun _ => fun
  | [d1, d2] => { results := [.lit (.bool false)], args := [d1, d2] }
  | _ => none }
def TuskChainsWrongFalsely : Prop := tuskChainsRow.holds Tryz.pinned (OpenSpec.ofChange tuskChainsWrong)

/-- 'selvedgelaw13.TuskPrefix': WHATEVER THE INPUT: true; the input reads as it did. -/
def tuskPrefixSpec : ChangeSpec := { name := "tuskPrefix", fn := fun _ => fun
  | [d1, d2, d3] => { results := [.lit (.bool true)], args := [d1, d2, d3] }
  | _ => none }
def tuskPrefixRow : OpenClaim := { program := "ytopijobdblfhoaagreat", sum := "23bd868cc6e7b00883badb3276b49326b928bafea2191d43e70c44d57fb3f870", func := "selvedge/selvedgelaw13.TuskPrefix", spec := "tuskPrefix", inPlace := ["math.Float64bits", "math.Float64frombits"], unfollowed := true, recurses := true, apart := false }
def TuskPrefixSaid : Prop := tuskPrefixRow.holds Tryz.pinned (OpenSpec.ofChange tuskPrefixSpec)

/-- ITS FALSE NEIGHBOUR: 'it returns false'. Refute it at one input. -/
def tuskPrefixWrong : ChangeSpec := { name := "tuskPrefix", fn := fun _ => fun
  | [d1, d2, d3] => { results := [.lit (.bool false)], args := [d1, d2, d3] }
  | _ => none }
def TuskPrefixWrongFalsely : Prop := tuskPrefixRow.holds Tryz.pinned (OpenSpec.ofChange tuskPrefixWrong)

/-- 'selvedgelaw13.TuskGrows': WHATEVER THE INPUT: true; the input reads as it did. -/
def tuskGrowsSpec : ChangeSpec := { name := "tuskGrows", fn := fun _ => fun
  | [d1, d2, d3] => { results := [.lit (.bool true)], args := [d1, d2, d3] }
  | _ => none }
def tuskGrowsRow : OpenClaim := { program := "ytopijobdblfhoaagreat", sum := "23bd868cc6e7b00883badb3276b49326b928bafea2191d43e70c44d57fb3f870", func := "selvedge/selvedgelaw13.TuskGrows", spec := "tuskGrows", inPlace := ["math.Float64bits", "math.Float64frombits"], unfollowed := true, recurses := true, apart := false }
def TuskGrowsSaid : Prop := tuskGrowsRow.holds Tryz.pinned (OpenSpec.ofChange tuskGrowsSpec)

/-- ITS FALSE NEIGHBOUR: 'it returns false'. Refute it at one input. -/
def tuskGrowsWrong : ChangeSpec := { name := "tuskGrows", fn := fun _ => fun
  | [d1, d2, d3] => { results := [.lit (.bool false)], args := [d1, d2, d3] }
  | _ => none }
def TuskGrowsWrongFalsely : Prop := tuskGrowsRow.holds Tryz.pinned (OpenSpec.ofChange tuskGrowsWrong)

/- THE SECOND FORM. 'bulk': how many values and letters a reading holds, each counted each time it is reached (what is shared counts as often as it is met; a slice's spare places count too). A statement '..UptoSaid' is the law's where the arguments, and the package variables that the reading takes, are together of bulk at most 1048576: NARROWER than '..Said'. Prove '..Said' where nothing that the law and all that it calls make is longer than what came in: it says more and counts as full. Else prove '..UptoSaid'. A law counts once. -/
mutual
def uptoBulk {H : Type} : DataW H → Nat
  | .lit (.string bytes) => bytes.length + 1
  | .lit _ => 1
  | .nil => 1
  | .ptr d => uptoBulk d + 1
  | .slice elems spare => uptoBulkAll elems + uptoBulkAll spare + 1
  | .agg parts => uptoBulkAll parts + 1
  | .iface _ d => uptoBulk d + 1
  | .map entries => uptoBulkEntries entries + 1
  | .held _ => 1
def uptoBulkAll {H : Type} : List (DataW H) → Nat
  | [] => 0
  | d :: r => uptoBulk d + uptoBulkAll r
def uptoBulkEntries {H : Type} : List (Lit × DataW H) → Nat
  | [] => 0
  | x :: r => uptoBulkEntry x + uptoBulkEntries r
def uptoBulkEntry {H : Type} : Lit × DataW H → Nat
  | (.string bytes, d) => bytes.length + uptoBulk d + 1
  | (_, d) => uptoBulk d + 1
 end
def uptoSmall : (H : Type) → List (DataW H) → Bool := fun _ ds => decide (uptoBulkAll ds ≤ 1048576)
def OpenSpec.upto (s : _root_.Go.ChangeSpec) : _root_.Go.OpenSpec := { _root_.Go.OpenSpec.ofChange s with cond := some uptoSmall }

/-- 'selvedgelaw13.TuskAsks', WHERE WHAT IT READS IS OF BULK AT MOST 1048576: true; the input reads as it did. -/
def tuskAsksUptoRow : OpenClaim := { program := "ytopijobdblfhoaagreat", sum := "23bd868cc6e7b00883badb3276b49326b928bafea2191d43e70c44d57fb3f870", func := "selvedge/selvedgelaw13.TuskAsks", spec := "tuskAsks", inPlace := ["math.Float64bits", "math.Float64frombits"], unfollowed := true, recurses := true, apart := false, narrowed := true }
def TuskAsksUptoSaid : Prop := tuskAsksUptoRow.holds Tryz.pinned (OpenSpec.upto tuskAsksSpec)

/-- 'selvedgelaw13.TuskChains', WHERE WHAT IT READS IS OF BULK AT MOST 1048576: true; the input reads as it did. -/
def tuskChainsUptoRow : OpenClaim := { program := "ytopijobdblfhoaagreat", sum := "23bd868cc6e7b00883badb3276b49326b928bafea2191d43e70c44d57fb3f870", func := "selvedge/selvedgelaw13.TuskChains", spec := "tuskChains", inPlace := ["math.Float64bits", "math.Float64frombits"], unfollowed := true, recurses := true, apart := false, narrowed := true }
def TuskChainsUptoSaid : Prop := tuskChainsUptoRow.holds Tryz.pinned (OpenSpec.upto tuskChainsSpec)

/-- 'selvedgelaw13.TuskPrefix', WHERE WHAT IT READS IS OF BULK AT MOST 1048576: true; the input reads as it did. -/
def tuskPrefixUptoRow : OpenClaim := { program := "ytopijobdblfhoaagreat", sum := "23bd868cc6e7b00883badb3276b49326b928bafea2191d43e70c44d57fb3f870", func := "selvedge/selvedgelaw13.TuskPrefix", spec := "tuskPrefix", inPlace := ["math.Float64bits", "math.Float64frombits"], unfollowed := true, recurses := true, apart := false, narrowed := true }
def TuskPrefixUptoSaid : Prop := tuskPrefixUptoRow.holds Tryz.pinned (OpenSpec.upto tuskPrefixSpec)

/-- 'selvedgelaw13.TuskGrows', WHERE WHAT IT READS IS OF BULK AT MOST 1048576: true; the input reads as it did. -/
def tuskGrowsUptoRow : OpenClaim := { program := "ytopijobdblfhoaagreat", sum := "23bd868cc6e7b00883badb3276b49326b928bafea2191d43e70c44d57fb3f870", func := "selvedge/selvedgelaw13.TuskGrows", spec := "tuskGrows", inPlace := ["math.Float64bits", "math.Float64frombits"], unfollowed := true, recurses := true, apart := false, narrowed := true }
def TuskGrowsUptoSaid : Prop := tuskGrowsUptoRow.holds Tryz.pinned (OpenSpec.upto tuskGrowsSpec)

end Rows
end Go.Proofs.YtopijobdblfhoaaGreat
