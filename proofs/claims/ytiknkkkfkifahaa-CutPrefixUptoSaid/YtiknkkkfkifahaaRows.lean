/-
  No cell of these rows narrows 'for every input' (looked for: loops, veiled, ifaces, maps, wideKeys, modest, calm, conditions, laid).
  DERIVED. THE GIVEN ROWS OF THIS SEAT. 13 by the template 'for every input the law returns true; each argument reads behind the call as it read before'; 0 by the template 'total and deterministic' (their statements: YtiknkkkfkifahaaTotals.lean).
  GIVEN WITH THE SEED: the statements are not yours to turn. If you find one false, say at which input.
  Laid BY PROGRAM, IN A SANDBOX (cutbox-rows.mjs): the forced cells as the released guide's own fill.sh prints them over the translation 2536ce97d001413f… (all of the seat's roots in one cut). By AI agents, Wed Nov 11 2026. No macro, syntax, notation, axiom, sorry.
-/
import Derived.Test.YtiknkkkfkifahaaChecked
import GoSem.Claim
import GoSem.ClaimJoined
import GoSem.ClaimMapViews
import Derived.JoinedTies
import Derived.KernelRfl
namespace Go.Proofs.Ytiknkkkfkifahaa
/- THE CELL 'sum', in the pinned program and in every row, IS THE sha256 OF THE DUMP (.gsa) THAT YtiknkkkfkifahaaProg.lean LOADS. Nothing in Lean hashes anything: it is a label: what it is worth is what the hold of that sum in a sandbox is worth. -/
noncomputable def Try.pinned : Pinned := { name := "ytiknkkkfkifahaa", sum := "2536ce97d001413f753505c9be71b3429eb9fe198a6ef500fd7544f22f06037f", checked := Try.checked }
namespace Rows
def none {H : Type} : Left H := { results := [], args := [] }

/-- 'selvedgelaw15.CutFeeds': WHATEVER THE INPUT: true; the input reads as it did. -/
def cutFeedsSpec : ChangeSpec := { name := "cutFeeds", fn := fun _ => fun
  | [d] => { results := [.lit (.bool true)], args := [d] }
  | _ => none }
def cutFeedsRow : OpenClaim := { program := "ytiknkkkfkifahaa", sum := "2536ce97d001413f753505c9be71b3429eb9fe198a6ef500fd7544f22f06037f", func := "selvedge/selvedgelaw15.CutFeeds", spec := "cutFeeds", inPlace := ["internal/abi.NoEscape", "internal/bytealg.MakeNoZero"], apart := false }
def CutFeedsSaid : Prop := cutFeedsRow.holds Try.pinned (OpenSpec.ofChange cutFeedsSpec)

/-- ITS FALSE NEIGHBOUR: 'it returns false'. Refute it at one input. -/
def cutFeedsWrong : ChangeSpec := { name := "cutFeeds", fn := fun _ => fun
  | [d] => { results := [.lit (.bool false)], args := [d] }
  | _ => none }
def CutFeedsWrongFalsely : Prop := cutFeedsRow.holds Try.pinned (OpenSpec.ofChange cutFeedsWrong)

/-- 'selvedgelaw15.CutAll': WHATEVER THE INPUT: true; the input reads as it did. -/
def cutAllSpec : ChangeSpec := { name := "cutAll", fn := fun _ => fun
  | [d] => { results := [.lit (.bool true)], args := [d] }
  | _ => none }
def cutAllRow : OpenClaim := { program := "ytiknkkkfkifahaa", sum := "2536ce97d001413f753505c9be71b3429eb9fe198a6ef500fd7544f22f06037f", func := "selvedge/selvedgelaw15.CutAll", spec := "cutAll", inPlace := ["internal/abi.NoEscape", "internal/bytealg.MakeNoZero"], apart := false }
def CutAllSaid : Prop := cutAllRow.holds Try.pinned (OpenSpec.ofChange cutAllSpec)

/-- ITS FALSE NEIGHBOUR: 'it returns false'. Refute it at one input. -/
def cutAllWrong : ChangeSpec := { name := "cutAll", fn := fun _ => fun
  | [d] => { results := [.lit (.bool false)], args := [d] }
  | _ => none }
def CutAllWrongFalsely : Prop := cutAllRow.holds Try.pinned (OpenSpec.ofChange cutAllWrong)

/-- 'selvedgelaw15.CutFull': WHATEVER THE INPUT: true; the input reads as it did. -/
def cutFullSpec : ChangeSpec := { name := "cutFull", fn := fun _ => fun
  | [d] => { results := [.lit (.bool true)], args := [d] }
  | _ => none }
def cutFullRow : OpenClaim := { program := "ytiknkkkfkifahaa", sum := "2536ce97d001413f753505c9be71b3429eb9fe198a6ef500fd7544f22f06037f", func := "selvedge/selvedgelaw15.CutFull", spec := "cutFull", inPlace := ["internal/abi.NoEscape", "internal/bytealg.MakeNoZero"], apart := false }
def CutFullSaid : Prop := cutFullRow.holds Try.pinned (OpenSpec.ofChange cutFullSpec)

/-- ITS FALSE NEIGHBOUR: 'it returns false'. Refute it at one input. -/
def cutFullWrong : ChangeSpec := { name := "cutFull", fn := fun _ => fun
  | [d] => { results := [.lit (.bool false)], args := [d] }
  | _ => none }
def CutFullWrongFalsely : Prop := cutFullRow.holds Try.pinned (OpenSpec.ofChange cutFullWrong)

/-- 'selvedgelaw15.CutPrefix': WHATEVER THE INPUT: true; the input reads as it did. -/
def cutPrefixSpec : ChangeSpec := { name := "cutPrefix", fn := fun _ => fun
  | [d1, d2] => { results := [.lit (.bool true)], args := [d1, d2] }
  | _ => none }
def cutPrefixRow : OpenClaim := { program := "ytiknkkkfkifahaa", sum := "2536ce97d001413f753505c9be71b3429eb9fe198a6ef500fd7544f22f06037f", func := "selvedge/selvedgelaw15.CutPrefix", spec := "cutPrefix", inPlace := ["internal/abi.NoEscape", "internal/bytealg.MakeNoZero"], apart := false }
def CutPrefixSaid : Prop := cutPrefixRow.holds Try.pinned (OpenSpec.ofChange cutPrefixSpec)

/-- ITS FALSE NEIGHBOUR: 'it returns false'. Refute it at one input. -/
def cutPrefixWrong : ChangeSpec := { name := "cutPrefix", fn := fun _ => fun
  | [d1, d2] => { results := [.lit (.bool false)], args := [d1, d2] }
  | _ => none }
def CutPrefixWrongFalsely : Prop := cutPrefixRow.holds Try.pinned (OpenSpec.ofChange cutPrefixWrong)

/-- 'selvedgelaw15.CutTwo': WHATEVER THE INPUT: true; the input reads as it did. -/
def cutTwoSpec : ChangeSpec := { name := "cutTwo", fn := fun _ => fun
  | [d1, d2, d3] => { results := [.lit (.bool true)], args := [d1, d2, d3] }
  | _ => none }
def cutTwoRow : OpenClaim := { program := "ytiknkkkfkifahaa", sum := "2536ce97d001413f753505c9be71b3429eb9fe198a6ef500fd7544f22f06037f", func := "selvedge/selvedgelaw15.CutTwo", spec := "cutTwo", inPlace := ["internal/abi.NoEscape", "internal/bytealg.MakeNoZero"], apart := false }
def CutTwoSaid : Prop := cutTwoRow.holds Try.pinned (OpenSpec.ofChange cutTwoSpec)

/-- ITS FALSE NEIGHBOUR: 'it returns false'. Refute it at one input. -/
def cutTwoWrong : ChangeSpec := { name := "cutTwo", fn := fun _ => fun
  | [d1, d2, d3] => { results := [.lit (.bool false)], args := [d1, d2, d3] }
  | _ => none }
def CutTwoWrongFalsely : Prop := cutTwoRow.holds Try.pinned (OpenSpec.ofChange cutTwoWrong)

/-- 'selvedgelaw15.CutChains': WHATEVER THE INPUT: true; the input reads as it did. -/
def cutChainsSpec : ChangeSpec := { name := "cutChains", fn := fun _ => fun
  | [d1, d2, d3] => { results := [.lit (.bool true)], args := [d1, d2, d3] }
  | _ => none }
def cutChainsRow : OpenClaim := { program := "ytiknkkkfkifahaa", sum := "2536ce97d001413f753505c9be71b3429eb9fe198a6ef500fd7544f22f06037f", func := "selvedge/selvedgelaw15.CutChains", spec := "cutChains", inPlace := ["internal/abi.NoEscape", "internal/bytealg.MakeNoZero"], apart := false }
def CutChainsSaid : Prop := cutChainsRow.holds Try.pinned (OpenSpec.ofChange cutChainsSpec)

/-- ITS FALSE NEIGHBOUR: 'it returns false'. Refute it at one input. -/
def cutChainsWrong : ChangeSpec := { name := "cutChains", fn := fun _ => fun
  | [d1, d2, d3] => { results := [.lit (.bool false)], args := [d1, d2, d3] }
  | _ => none }
def CutChainsWrongFalsely : Prop := cutChainsRow.holds Try.pinned (OpenSpec.ofChange cutChainsWrong)

/-- 'selvedgelaw15.CutForged': WHATEVER THE INPUT: true; the input reads as it did. -/
def cutForgedSpec : ChangeSpec := { name := "cutForged", fn := fun _ => fun
  | [d1, d2] => { results := [.lit (.bool true)], args := [d1, d2] }
  | _ => none }
def cutForgedRow : OpenClaim := { program := "ytiknkkkfkifahaa", sum := "2536ce97d001413f753505c9be71b3429eb9fe198a6ef500fd7544f22f06037f", func := "selvedge/selvedgelaw15.CutForged", spec := "cutForged", inPlace := ["internal/abi.NoEscape", "internal/bytealg.MakeNoZero"], apart := false }
def CutForgedSaid : Prop := cutForgedRow.holds Try.pinned (OpenSpec.ofChange cutForgedSpec)

/-- ITS FALSE NEIGHBOUR: 'it returns false'. Refute it at one input. -/
def cutForgedWrong : ChangeSpec := { name := "cutForged", fn := fun _ => fun
  | [d1, d2] => { results := [.lit (.bool false)], args := [d1, d2] }
  | _ => none }
def CutForgedWrongFalsely : Prop := cutForgedRow.holds Try.pinned (OpenSpec.ofChange cutForgedWrong)

/-- 'selvedgelaw17.PaperReads': WHATEVER THE INPUT: true; the input reads as it did. -/
def paperReadsSpec : ChangeSpec := { name := "paperReads", fn := fun _ => fun
  | [d1, d2] => { results := [.lit (.bool true)], args := [d1, d2] }
  | _ => none }
def paperReadsRow : OpenClaim := { program := "ytiknkkkfkifahaa", sum := "2536ce97d001413f753505c9be71b3429eb9fe198a6ef500fd7544f22f06037f", func := "selvedge/selvedgelaw17.PaperReads", spec := "paperReads", inPlace := ["internal/abi.NoEscape", "internal/bytealg.MakeNoZero"], unfollowed := true, recurses := true, apart := false }
def PaperReadsSaid : Prop := paperReadsRow.holds Try.pinned (OpenSpec.ofChange paperReadsSpec)

/-- ITS FALSE NEIGHBOUR: 'it returns false'. Refute it at one input. -/
def paperReadsWrong : ChangeSpec := { name := "paperReads", fn := fun _ => fun
  | [d1, d2] => { results := [.lit (.bool false)], args := [d1, d2] }
  | _ => none }
def PaperReadsWrongFalsely : Prop := paperReadsRow.holds Try.pinned (OpenSpec.ofChange paperReadsWrong)

/-- 'selvedgelaw17.PaperTorn': WHATEVER THE INPUT: true; the input reads as it did. -/
def paperTornSpec : ChangeSpec := { name := "paperTorn", fn := fun _ => fun
  | [d1, d2] => { results := [.lit (.bool true)], args := [d1, d2] }
  | _ => none }
def paperTornRow : OpenClaim := { program := "ytiknkkkfkifahaa", sum := "2536ce97d001413f753505c9be71b3429eb9fe198a6ef500fd7544f22f06037f", func := "selvedge/selvedgelaw17.PaperTorn", spec := "paperTorn", inPlace := ["internal/abi.NoEscape", "internal/bytealg.MakeNoZero"], unfollowed := true, recurses := true, apart := false }
def PaperTornSaid : Prop := paperTornRow.holds Try.pinned (OpenSpec.ofChange paperTornSpec)

/-- ITS FALSE NEIGHBOUR: 'it returns false'. Refute it at one input. -/
def paperTornWrong : ChangeSpec := { name := "paperTorn", fn := fun _ => fun
  | [d1, d2] => { results := [.lit (.bool false)], args := [d1, d2] }
  | _ => none }
def PaperTornWrongFalsely : Prop := paperTornRow.holds Try.pinned (OpenSpec.ofChange paperTornWrong)

/-- 'selvedgelaw17.PaperOff': WHATEVER THE INPUT: true; the input reads as it did. -/
def paperOffSpec : ChangeSpec := { name := "paperOff", fn := fun _ => fun
  | [d1, d2, d3] => { results := [.lit (.bool true)], args := [d1, d2, d3] }
  | _ => none }
def paperOffRow : OpenClaim := { program := "ytiknkkkfkifahaa", sum := "2536ce97d001413f753505c9be71b3429eb9fe198a6ef500fd7544f22f06037f", func := "selvedge/selvedgelaw17.PaperOff", spec := "paperOff", inPlace := ["internal/abi.NoEscape", "internal/bytealg.MakeNoZero"], unfollowed := true, recurses := true, apart := false }
def PaperOffSaid : Prop := paperOffRow.holds Try.pinned (OpenSpec.ofChange paperOffSpec)

/-- ITS FALSE NEIGHBOUR: 'it returns false'. Refute it at one input. -/
def paperOffWrong : ChangeSpec := { name := "paperOff", fn := fun _ => fun
  | [d1, d2, d3] => { results := [.lit (.bool false)], args := [d1, d2, d3] }
  | _ => none }
def PaperOffWrongFalsely : Prop := paperOffRow.holds Try.pinned (OpenSpec.ofChange paperOffWrong)

/-- 'selvedgelaw17.PaperAgain': WHATEVER THE INPUT: true; the input reads as it did. -/
def paperAgainSpec : ChangeSpec := { name := "paperAgain", fn := fun _ => fun
  | [d1, d2, d3] => { results := [.lit (.bool true)], args := [d1, d2, d3] }
  | _ => none }
def paperAgainRow : OpenClaim := { program := "ytiknkkkfkifahaa", sum := "2536ce97d001413f753505c9be71b3429eb9fe198a6ef500fd7544f22f06037f", func := "selvedge/selvedgelaw17.PaperAgain", spec := "paperAgain", inPlace := ["internal/abi.NoEscape", "internal/bytealg.MakeNoZero"], unfollowed := true, recurses := true, apart := false }
def PaperAgainSaid : Prop := paperAgainRow.holds Try.pinned (OpenSpec.ofChange paperAgainSpec)

/-- ITS FALSE NEIGHBOUR: 'it returns false'. Refute it at one input. -/
def paperAgainWrong : ChangeSpec := { name := "paperAgain", fn := fun _ => fun
  | [d1, d2, d3] => { results := [.lit (.bool false)], args := [d1, d2, d3] }
  | _ => none }
def PaperAgainWrongFalsely : Prop := paperAgainRow.holds Try.pinned (OpenSpec.ofChange paperAgainWrong)

/-- 'selvedgelaw17.PaperActs': WHATEVER THE INPUT: true; the input reads as it did. -/
def paperActsSpec : ChangeSpec := { name := "paperActs", fn := fun _ => fun
  | [d] => { results := [.lit (.bool true)], args := [d] }
  | _ => none }
def paperActsRow : OpenClaim := { program := "ytiknkkkfkifahaa", sum := "2536ce97d001413f753505c9be71b3429eb9fe198a6ef500fd7544f22f06037f", func := "selvedge/selvedgelaw17.PaperActs", spec := "paperActs", inPlace := ["internal/abi.NoEscape", "internal/bytealg.MakeNoZero"], unfollowed := true, recurses := true, apart := false }
def PaperActsSaid : Prop := paperActsRow.holds Try.pinned (OpenSpec.ofChange paperActsSpec)

/-- ITS FALSE NEIGHBOUR: 'it returns false'. Refute it at one input. -/
def paperActsWrong : ChangeSpec := { name := "paperActs", fn := fun _ => fun
  | [d] => { results := [.lit (.bool false)], args := [d] }
  | _ => none }
def PaperActsWrongFalsely : Prop := paperActsRow.holds Try.pinned (OpenSpec.ofChange paperActsWrong)

/-- 'selvedgelaw17.PaperLasts': WHATEVER THE INPUT: true; the input reads as it did. -/
def paperLastsSpec : ChangeSpec := { name := "paperLasts", fn := fun _ => fun
  | [d] => { results := [.lit (.bool true)], args := [d] }
  | _ => none }
def paperLastsRow : OpenClaim := { program := "ytiknkkkfkifahaa", sum := "2536ce97d001413f753505c9be71b3429eb9fe198a6ef500fd7544f22f06037f", func := "selvedge/selvedgelaw17.PaperLasts", spec := "paperLasts", inPlace := ["internal/abi.NoEscape", "internal/bytealg.MakeNoZero"], unfollowed := true, recurses := true, apart := false }
def PaperLastsSaid : Prop := paperLastsRow.holds Try.pinned (OpenSpec.ofChange paperLastsSpec)

/-- ITS FALSE NEIGHBOUR: 'it returns false'. Refute it at one input. -/
def paperLastsWrong : ChangeSpec := { name := "paperLasts", fn := fun _ => fun
  | [d] => { results := [.lit (.bool false)], args := [d] }
  | _ => none }
def PaperLastsWrongFalsely : Prop := paperLastsRow.holds Try.pinned (OpenSpec.ofChange paperLastsWrong)

/- THE SECOND FORM. 'bulk': how many values and letters a reading holds, each counted each time it is reached (what is shared counts as often as it is met; a slice's spare places count too). A statement '..UptoSaid' is the law's where the arguments, and the package variables that the reading takes, are together of bulk at most 1048576: NARROWER than '..Said'. Prove '..Said' where nothing that the law and all that it calls make is longer than what came in: it says more and counts as full. Else prove '..UptoSaid'. A law counts once. -/
mutual
def uptoBulk {H : Type} : DataW H → Nat
  | .lit (.string bytes) => bytes.length + 1
  | .lit _ => 1
  | .nil => 1
  | .ptr d => uptoBulk d + 1
  | .slice elems spare => uptoBulkAll elems + uptoBulkAll spare + 1
  | .agg parts => uptoBulkAll parts + 1
  | .iface _ d => uptoBulk d + 1
  | .map entries => uptoBulkEntries entries + 1
  | .held _ => 1
def uptoBulkAll {H : Type} : List (DataW H) → Nat
  | [] => 0
  | d :: r => uptoBulk d + uptoBulkAll r
def uptoBulkEntries {H : Type} : List (Lit × DataW H) → Nat
  | [] => 0
  | x :: r => uptoBulkEntry x + uptoBulkEntries r
def uptoBulkEntry {H : Type} : Lit × DataW H → Nat
  | (.string bytes, d) => bytes.length + uptoBulk d + 1
  | (_, d) => uptoBulk d + 1
 end
def uptoSmall : (H : Type) → List (DataW H) → Bool := fun _ ds => decide (uptoBulkAll ds ≤ 1048576)
def OpenSpec.upto (s : _root_.Go.ChangeSpec) : _root_.Go.OpenSpec := { _root_.Go.OpenSpec.ofChange s with cond := some uptoSmall }

/-- 'selvedgelaw15.CutFeeds', WHERE WHAT IT READS IS OF BULK AT MOST 1048576: true; the input reads as it did. -/
def cutFeedsUptoRow : OpenClaim := { program := "ytiknkkkfkifahaa", sum := "2536ce97d001413f753505c9be71b3429eb9fe198a6ef500fd7544f22f06037f", func := "selvedge/selvedgelaw15.CutFeeds", spec := "cutFeeds", inPlace := ["internal/abi.NoEscape", "internal/bytealg.MakeNoZero"], apart := false, narrowed := true }
def CutFeedsUptoSaid : Prop := cutFeedsUptoRow.holds Try.pinned (OpenSpec.upto cutFeedsSpec)

/-- 'selvedgelaw15.CutAll', WHERE WHAT IT READS IS OF BULK AT MOST 1048576: true; the input reads as it did. -/
def cutAllUptoRow : OpenClaim := { program := "ytiknkkkfkifahaa", sum := "2536ce97d001413f753505c9be71b3429eb9fe198a6ef500fd7544f22f06037f", func := "selvedge/selvedgelaw15.CutAll", spec := "cutAll", inPlace := ["internal/abi.NoEscape", "internal/bytealg.MakeNoZero"], apart := false, narrowed := true }
def CutAllUptoSaid : Prop := cutAllUptoRow.holds Try.pinned (OpenSpec.upto cutAllSpec)

/-- 'selvedgelaw15.CutFull', WHERE WHAT IT READS IS OF BULK AT MOST 1048576: true; the input reads as it did. -/
def cutFullUptoRow : OpenClaim := { program := "ytiknkkkfkifahaa", sum := "2536ce97d001413f753505c9be71b3429eb9fe198a6ef500fd7544f22f06037f", func := "selvedge/selvedgelaw15.CutFull", spec := "cutFull", inPlace := ["internal/abi.NoEscape", "internal/bytealg.MakeNoZero"], apart := false, narrowed := true }
def CutFullUptoSaid : Prop := cutFullUptoRow.holds Try.pinned (OpenSpec.upto cutFullSpec)

/-- 'selvedgelaw15.CutPrefix', WHERE WHAT IT READS IS OF BULK AT MOST 1048576: true; the input reads as it did. -/
def cutPrefixUptoRow : OpenClaim := { program := "ytiknkkkfkifahaa", sum := "2536ce97d001413f753505c9be71b3429eb9fe198a6ef500fd7544f22f06037f", func := "selvedge/selvedgelaw15.CutPrefix", spec := "cutPrefix", inPlace := ["internal/abi.NoEscape", "internal/bytealg.MakeNoZero"], apart := false, narrowed := true }
def CutPrefixUptoSaid : Prop := cutPrefixUptoRow.holds Try.pinned (OpenSpec.upto cutPrefixSpec)

/-- 'selvedgelaw15.CutTwo', WHERE WHAT IT READS IS OF BULK AT MOST 1048576: true; the input reads as it did. -/
def cutTwoUptoRow : OpenClaim := { program := "ytiknkkkfkifahaa", sum := "2536ce97d001413f753505c9be71b3429eb9fe198a6ef500fd7544f22f06037f", func := "selvedge/selvedgelaw15.CutTwo", spec := "cutTwo", inPlace := ["internal/abi.NoEscape", "internal/bytealg.MakeNoZero"], apart := false, narrowed := true }
def CutTwoUptoSaid : Prop := cutTwoUptoRow.holds Try.pinned (OpenSpec.upto cutTwoSpec)

/-- 'selvedgelaw15.CutChains', WHERE WHAT IT READS IS OF BULK AT MOST 1048576: true; the input reads as it did. -/
def cutChainsUptoRow : OpenClaim := { program := "ytiknkkkfkifahaa", sum := "2536ce97d001413f753505c9be71b3429eb9fe198a6ef500fd7544f22f06037f", func := "selvedge/selvedgelaw15.CutChains", spec := "cutChains", inPlace := ["internal/abi.NoEscape", "internal/bytealg.MakeNoZero"], apart := false, narrowed := true }
def CutChainsUptoSaid : Prop := cutChainsUptoRow.holds Try.pinned (OpenSpec.upto cutChainsSpec)

/-- 'selvedgelaw15.CutForged', WHERE WHAT IT READS IS OF BULK AT MOST 1048576: true; the input reads as it did. -/
def cutForgedUptoRow : OpenClaim := { program := "ytiknkkkfkifahaa", sum := "2536ce97d001413f753505c9be71b3429eb9fe198a6ef500fd7544f22f06037f", func := "selvedge/selvedgelaw15.CutForged", spec := "cutForged", inPlace := ["internal/abi.NoEscape", "internal/bytealg.MakeNoZero"], apart := false, narrowed := true }
def CutForgedUptoSaid : Prop := cutForgedUptoRow.holds Try.pinned (OpenSpec.upto cutForgedSpec)

/-- 'selvedgelaw17.PaperReads', WHERE WHAT IT READS IS OF BULK AT MOST 1048576: true; the input reads as it did. -/
def paperReadsUptoRow : OpenClaim := { program := "ytiknkkkfkifahaa", sum := "2536ce97d001413f753505c9be71b3429eb9fe198a6ef500fd7544f22f06037f", func := "selvedge/selvedgelaw17.PaperReads", spec := "paperReads", inPlace := ["internal/abi.NoEscape", "internal/bytealg.MakeNoZero"], unfollowed := true, recurses := true, apart := false, narrowed := true }
def PaperReadsUptoSaid : Prop := paperReadsUptoRow.holds Try.pinned (OpenSpec.upto paperReadsSpec)

/-- 'selvedgelaw17.PaperTorn', WHERE WHAT IT READS IS OF BULK AT MOST 1048576: true; the input reads as it did. -/
def paperTornUptoRow : OpenClaim := { program := "ytiknkkkfkifahaa", sum := "2536ce97d001413f753505c9be71b3429eb9fe198a6ef500fd7544f22f06037f", func := "selvedge/selvedgelaw17.PaperTorn", spec := "paperTorn", inPlace := ["internal/abi.NoEscape", "internal/bytealg.MakeNoZero"], unfollowed := true, recurses := true, apart := false, narrowed := true }
def PaperTornUptoSaid : Prop := paperTornUptoRow.holds Try.pinned (OpenSpec.upto paperTornSpec)

/-- 'selvedgelaw17.PaperOff', WHERE WHAT IT READS IS OF BULK AT MOST 1048576: true; the input reads as it did. -/
def paperOffUptoRow : OpenClaim := { program := "ytiknkkkfkifahaa", sum := "2536ce97d001413f753505c9be71b3429eb9fe198a6ef500fd7544f22f06037f", func := "selvedge/selvedgelaw17.PaperOff", spec := "paperOff", inPlace := ["internal/abi.NoEscape", "internal/bytealg.MakeNoZero"], unfollowed := true, recurses := true, apart := false, narrowed := true }
def PaperOffUptoSaid : Prop := paperOffUptoRow.holds Try.pinned (OpenSpec.upto paperOffSpec)

/-- 'selvedgelaw17.PaperAgain', WHERE WHAT IT READS IS OF BULK AT MOST 1048576: true; the input reads as it did. -/
def paperAgainUptoRow : OpenClaim := { program := "ytiknkkkfkifahaa", sum := "2536ce97d001413f753505c9be71b3429eb9fe198a6ef500fd7544f22f06037f", func := "selvedge/selvedgelaw17.PaperAgain", spec := "paperAgain", inPlace := ["internal/abi.NoEscape", "internal/bytealg.MakeNoZero"], unfollowed := true, recurses := true, apart := false, narrowed := true }
def PaperAgainUptoSaid : Prop := paperAgainUptoRow.holds Try.pinned (OpenSpec.upto paperAgainSpec)

/-- 'selvedgelaw17.PaperActs', WHERE WHAT IT READS IS OF BULK AT MOST 1048576: true; the input reads as it did. -/
def paperActsUptoRow : OpenClaim := { program := "ytiknkkkfkifahaa", sum := "2536ce97d001413f753505c9be71b3429eb9fe198a6ef500fd7544f22f06037f", func := "selvedge/selvedgelaw17.PaperActs", spec := "paperActs", inPlace := ["internal/abi.NoEscape", "internal/bytealg.MakeNoZero"], unfollowed := true, recurses := true, apart := false, narrowed := true }
def PaperActsUptoSaid : Prop := paperActsUptoRow.holds Try.pinned (OpenSpec.upto paperActsSpec)

/-- 'selvedgelaw17.PaperLasts', WHERE WHAT IT READS IS OF BULK AT MOST 1048576: true; the input reads as it did. -/
def paperLastsUptoRow : OpenClaim := { program := "ytiknkkkfkifahaa", sum := "2536ce97d001413f753505c9be71b3429eb9fe198a6ef500fd7544f22f06037f", func := "selvedge/selvedgelaw17.PaperLasts", spec := "paperLasts", inPlace := ["internal/abi.NoEscape", "internal/bytealg.MakeNoZero"], unfollowed := true, recurses := true, apart := false, narrowed := true }
def PaperLastsUptoSaid : Prop := paperLastsUptoRow.holds Try.pinned (OpenSpec.upto paperLastsSpec)

end Rows
end Go.Proofs.Ytiknkkkfkifahaa
