/-
  No cell of these rows narrows 'for every input' (looked for: loops, veiled, ifaces, maps, wideKeys, modest, calm, conditions, laid).
  DERIVED. THE GIVEN ROWS OF THIS SEAT. 13 by the template 'for every input the law returns true; each argument reads behind the call as it read before'; 0 by the template 'total and deterministic' (their statements: YtlakjninlpiedaaTotals.lean).
  GIVEN WITH THE SEED: the statements are not yours to turn. If you find one false, say at which input.
  Laid BY PROGRAM, IN A SANDBOX (cutbox-rows.mjs): the forced cells as the released guide's own fill.sh prints them over the translation 7f636840c32760a6… (all of the seat's roots in one cut). By AI agents, Wed Nov 11 2026. No macro, syntax, notation, axiom, sorry.
-/
import Derived.Test.YtlakjninlpiedaaChecked
import GoSem.Claim
import GoSem.ClaimJoined
import GoSem.ClaimMapViews
import Derived.JoinedTies
import Derived.KernelRfl
namespace Go.Proofs.Ytlakjninlpiedaa
/- THE CELL 'sum', in the pinned program and in every row, IS THE sha256 OF THE DUMP (.gsa) THAT YtlakjninlpiedaaProg.lean LOADS. Nothing in Lean hashes anything: it is a label: what it is worth is what the hold of that sum in a sandbox is worth. -/
noncomputable def Try.pinned : Pinned := { name := "ytlakjninlpiedaa", sum := "7f636840c32760a6849fdf5db7de565d6ce35c626921eea689f0805e8338f510", checked := Try.checked }
namespace Rows
def none {H : Type} : Left H := { results := [], args := [] }

/-- 'fasciclelaw29.WearConfigs': WHATEVER THE INPUT: true; the input reads as it did. -/
def wearConfigsSpec : ChangeSpec := { name := "wearConfigs", fn := fun _ => fun
  | [d1, d2] => { results := [.lit (.bool true)], args := [d1, d2] }
  | _ => none }
def wearConfigsRow : OpenClaim := { program := "ytlakjninlpiedaa", sum := "7f636840c32760a6849fdf5db7de565d6ce35c626921eea689f0805e8338f510", func := "fascicle/fasciclelaw29.WearConfigs", spec := "wearConfigs", apart := false }
def WearConfigsSaid : Prop := wearConfigsRow.holds Try.pinned (OpenSpec.ofChange wearConfigsSpec)

/-- ITS FALSE NEIGHBOUR: 'it returns false'. Refute it at one input. -/
def wearConfigsWrong : ChangeSpec := { name := "wearConfigs", fn := fun _ => fun
  | [d1, d2] => { results := [.lit (.bool false)], args := [d1, d2] }
  | _ => none }
def WearConfigsWrongFalsely : Prop := wearConfigsRow.holds Try.pinned (OpenSpec.ofChange wearConfigsWrong)

/-- 'fasciclelaw29.WearLevels': WHATEVER THE INPUT: true; the input reads as it did. -/
def wearLevelsSpec : ChangeSpec := { name := "wearLevels", fn := fun _ => fun
  | [d1, d2] => { results := [.lit (.bool true)], args := [d1, d2] }
  | _ => none }
def wearLevelsRow : OpenClaim := { program := "ytlakjninlpiedaa", sum := "7f636840c32760a6849fdf5db7de565d6ce35c626921eea689f0805e8338f510", func := "fascicle/fasciclelaw29.WearLevels", spec := "wearLevels", apart := false }
def WearLevelsSaid : Prop := wearLevelsRow.holds Try.pinned (OpenSpec.ofChange wearLevelsSpec)

/-- ITS FALSE NEIGHBOUR: 'it returns false'. Refute it at one input. -/
def wearLevelsWrong : ChangeSpec := { name := "wearLevels", fn := fun _ => fun
  | [d1, d2] => { results := [.lit (.bool false)], args := [d1, d2] }
  | _ => none }
def WearLevelsWrongFalsely : Prop := wearLevelsRow.holds Try.pinned (OpenSpec.ofChange wearLevelsWrong)

/-- 'fasciclelaw28.ScoreDecays': WHATEVER THE INPUT: true; the input reads as it did. -/
def scoreDecaysSpec : ChangeSpec := { name := "scoreDecays", fn := fun _ => fun
  | [d1, d2, d3] => { results := [.lit (.bool true)], args := [d1, d2, d3] }
  | _ => none }
def scoreDecaysRow : OpenClaim := { program := "ytlakjninlpiedaa", sum := "7f636840c32760a6849fdf5db7de565d6ce35c626921eea689f0805e8338f510", func := "fascicle/fasciclelaw28.ScoreDecays", spec := "scoreDecays", inPlace := ["math.Float64frombits", "math.Float64bits"], apart := false }
def ScoreDecaysSaid : Prop := scoreDecaysRow.holds Try.pinned (OpenSpec.ofChange scoreDecaysSpec)

/-- ITS FALSE NEIGHBOUR: 'it returns false'. Refute it at one input. -/
def scoreDecaysWrong : ChangeSpec := { name := "scoreDecays", fn := fun _ => fun
  | [d1, d2, d3] => { results := [.lit (.bool false)], args := [d1, d2, d3] }
  | _ => none }
def ScoreDecaysWrongFalsely : Prop := scoreDecaysRow.holds Try.pinned (OpenSpec.ofChange scoreDecaysWrong)

/-- 'fasciclelaw06.EdgeRatios': WHATEVER THE INPUT: true; the input reads as it did. -/
def edgeRatiosSpec : ChangeSpec := { name := "edgeRatios", fn := fun _ => fun
  | [d1, d2, d3] => { results := [.lit (.bool true)], args := [d1, d2, d3] }
  | _ => none }
def edgeRatiosRow : OpenClaim := { program := "ytlakjninlpiedaa", sum := "7f636840c32760a6849fdf5db7de565d6ce35c626921eea689f0805e8338f510", func := "fascicle/fasciclelaw06.EdgeRatios", spec := "edgeRatios", inPlace := ["math.Float64bits", "math.Float64frombits"], apart := false }
def EdgeRatiosSaid : Prop := edgeRatiosRow.holds Try.pinned (OpenSpec.ofChange edgeRatiosSpec)

/-- ITS FALSE NEIGHBOUR: 'it returns false'. Refute it at one input. -/
def edgeRatiosWrong : ChangeSpec := { name := "edgeRatios", fn := fun _ => fun
  | [d1, d2, d3] => { results := [.lit (.bool false)], args := [d1, d2, d3] }
  | _ => none }
def EdgeRatiosWrongFalsely : Prop := edgeRatiosRow.holds Try.pinned (OpenSpec.ofChange edgeRatiosWrong)

/-- 'fasciclelaw06.EdgeOrders': WHATEVER THE INPUT: true; the input reads as it did. -/
def edgeOrdersSpec : ChangeSpec := { name := "edgeOrders", fn := fun _ => fun
  | [d1, d2, d3] => { results := [.lit (.bool true)], args := [d1, d2, d3] }
  | _ => none }
def edgeOrdersRow : OpenClaim := { program := "ytlakjninlpiedaa", sum := "7f636840c32760a6849fdf5db7de565d6ce35c626921eea689f0805e8338f510", func := "fascicle/fasciclelaw06.EdgeOrders", spec := "edgeOrders", inPlace := ["math.Float64bits", "math.Float64frombits"], apart := false }
def EdgeOrdersSaid : Prop := edgeOrdersRow.holds Try.pinned (OpenSpec.ofChange edgeOrdersSpec)

/-- ITS FALSE NEIGHBOUR: 'it returns false'. Refute it at one input. -/
def edgeOrdersWrong : ChangeSpec := { name := "edgeOrders", fn := fun _ => fun
  | [d1, d2, d3] => { results := [.lit (.bool false)], args := [d1, d2, d3] }
  | _ => none }
def EdgeOrdersWrongFalsely : Prop := edgeOrdersRow.holds Try.pinned (OpenSpec.ofChange edgeOrdersWrong)

/-- 'fasciclelaw06.EdgeKeys': WHATEVER THE INPUT: true; the input reads as it did. -/
def edgeKeysSpec : ChangeSpec := { name := "edgeKeys", fn := fun _ => fun
  | [d1, d2] => { results := [.lit (.bool true)], args := [d1, d2] }
  | _ => none }
def edgeKeysRow : OpenClaim := { program := "ytlakjninlpiedaa", sum := "7f636840c32760a6849fdf5db7de565d6ce35c626921eea689f0805e8338f510", func := "fascicle/fasciclelaw06.EdgeKeys", spec := "edgeKeys", inPlace := ["math.Float64bits", "math.Float64frombits"], apart := false }
def EdgeKeysSaid : Prop := edgeKeysRow.holds Try.pinned (OpenSpec.ofChange edgeKeysSpec)

/-- ITS FALSE NEIGHBOUR: 'it returns false'. Refute it at one input. -/
def edgeKeysWrong : ChangeSpec := { name := "edgeKeys", fn := fun _ => fun
  | [d1, d2] => { results := [.lit (.bool false)], args := [d1, d2] }
  | _ => none }
def EdgeKeysWrongFalsely : Prop := edgeKeysRow.holds Try.pinned (OpenSpec.ofChange edgeKeysWrong)

/-- 'fasciclelaw06.EdgeCounts': WHATEVER THE INPUT: true; the input reads as it did. -/
def edgeCountsSpec : ChangeSpec := { name := "edgeCounts", fn := fun _ => fun
  | [d1, d2, d3, d4, d5, d6, d7] => { results := [.lit (.bool true)], args := [d1, d2, d3, d4, d5, d6, d7] }
  | _ => none }
def edgeCountsRow : OpenClaim := { program := "ytlakjninlpiedaa", sum := "7f636840c32760a6849fdf5db7de565d6ce35c626921eea689f0805e8338f510", func := "fascicle/fasciclelaw06.EdgeCounts", spec := "edgeCounts", inPlace := ["math.Float64bits", "math.Float64frombits"], apart := false }
def EdgeCountsSaid : Prop := edgeCountsRow.holds Try.pinned (OpenSpec.ofChange edgeCountsSpec)

/-- ITS FALSE NEIGHBOUR: 'it returns false'. Refute it at one input. -/
def edgeCountsWrong : ChangeSpec := { name := "edgeCounts", fn := fun _ => fun
  | [d1, d2, d3, d4, d5, d6, d7] => { results := [.lit (.bool false)], args := [d1, d2, d3, d4, d5, d6, d7] }
  | _ => none }
def EdgeCountsWrongFalsely : Prop := edgeCountsRow.holds Try.pinned (OpenSpec.ofChange edgeCountsWrong)

/-- 'fasciclelaw29.WearEdges': WHATEVER THE INPUT: true; the input reads as it did. -/
def wearEdgesSpec : ChangeSpec := { name := "wearEdges", fn := fun _ => fun
  | [d1, d2, d3] => { results := [.lit (.bool true)], args := [d1, d2, d3] }
  | _ => none }
def wearEdgesRow : OpenClaim := { program := "ytlakjninlpiedaa", sum := "7f636840c32760a6849fdf5db7de565d6ce35c626921eea689f0805e8338f510", func := "fascicle/fasciclelaw29.WearEdges", spec := "wearEdges", inPlace := ["math.Float64bits"], apart := false }
def WearEdgesSaid : Prop := wearEdgesRow.holds Try.pinned (OpenSpec.ofChange wearEdgesSpec)

/-- ITS FALSE NEIGHBOUR: 'it returns false'. Refute it at one input. -/
def wearEdgesWrong : ChangeSpec := { name := "wearEdges", fn := fun _ => fun
  | [d1, d2, d3] => { results := [.lit (.bool false)], args := [d1, d2, d3] }
  | _ => none }
def WearEdgesWrongFalsely : Prop := wearEdgesRow.holds Try.pinned (OpenSpec.ofChange wearEdgesWrong)

/-- 'fasciclelaw29.WearPlays': WHATEVER THE INPUT: true; the input reads as it did. -/
def wearPlaysSpec : ChangeSpec := { name := "wearPlays", fn := fun _ => fun
  | [d1, d2, d3] => { results := [.lit (.bool true)], args := [d1, d2, d3] }
  | _ => none }
def wearPlaysRow : OpenClaim := { program := "ytlakjninlpiedaa", sum := "7f636840c32760a6849fdf5db7de565d6ce35c626921eea689f0805e8338f510", func := "fascicle/fasciclelaw29.WearPlays", spec := "wearPlays", inPlace := ["maps.clone", "math.Float64bits", "math.Float64frombits"], apart := false }
def WearPlaysSaid : Prop := wearPlaysRow.holds Try.pinned (OpenSpec.ofChange wearPlaysSpec)

/-- ITS FALSE NEIGHBOUR: 'it returns false'. Refute it at one input. -/
def wearPlaysWrong : ChangeSpec := { name := "wearPlays", fn := fun _ => fun
  | [d1, d2, d3] => { results := [.lit (.bool false)], args := [d1, d2, d3] }
  | _ => none }
def WearPlaysWrongFalsely : Prop := wearPlaysRow.holds Try.pinned (OpenSpec.ofChange wearPlaysWrong)

/-- 'fasciclelaw06.EdgeReads': WHATEVER THE INPUT: true; the input reads as it did. -/
def edgeReadsSpec : ChangeSpec := { name := "edgeReads", fn := fun _ => fun
  | [d1, d2] => { results := [.lit (.bool true)], args := [d1, d2] }
  | _ => none }
def edgeReadsRow : OpenClaim := { program := "ytlakjninlpiedaa", sum := "7f636840c32760a6849fdf5db7de565d6ce35c626921eea689f0805e8338f510", func := "fascicle/fasciclelaw06.EdgeReads", spec := "edgeReads", inPlace := ["math.Float64bits", "math.Float64frombits"], unfollowed := true, recurses := true, apart := false }
def EdgeReadsSaid : Prop := edgeReadsRow.holds Try.pinned (OpenSpec.ofChange edgeReadsSpec)

/-- ITS FALSE NEIGHBOUR: 'it returns false'. Refute it at one input. -/
def edgeReadsWrong : ChangeSpec := { name := "edgeReads", fn := fun _ => fun
  | [d1, d2] => { results := [.lit (.bool false)], args := [d1, d2] }
  | _ => none }
def EdgeReadsWrongFalsely : Prop := edgeReadsRow.holds Try.pinned (OpenSpec.ofChange edgeReadsWrong)

/-- 'fasciclelaw28.ScoreOrder': WHATEVER THE INPUT: true; the input reads as it did. -/
def scoreOrderSpec : ChangeSpec := { name := "scoreOrder", fn := fun _ => fun
  | [d] => { results := [.lit (.bool true)], args := [d] }
  | _ => none }
def scoreOrderRow : OpenClaim := { program := "ytlakjninlpiedaa", sum := "7f636840c32760a6849fdf5db7de565d6ce35c626921eea689f0805e8338f510", func := "fascicle/fasciclelaw28.ScoreOrder", spec := "scoreOrder", inPlace := ["math.Float64frombits", "math.Float64bits"], unfollowed := true, recurses := true, apart := false }
def ScoreOrderSaid : Prop := scoreOrderRow.holds Try.pinned (OpenSpec.ofChange scoreOrderSpec)

/-- ITS FALSE NEIGHBOUR: 'it returns false'. Refute it at one input. -/
def scoreOrderWrong : ChangeSpec := { name := "scoreOrder", fn := fun _ => fun
  | [d] => { results := [.lit (.bool false)], args := [d] }
  | _ => none }
def ScoreOrderWrongFalsely : Prop := scoreOrderRow.holds Try.pinned (OpenSpec.ofChange scoreOrderWrong)

/-- 'fasciclelaw28.ScoreRanks': WHATEVER THE INPUT: true; the input reads as it did. -/
def scoreRanksSpec : ChangeSpec := { name := "scoreRanks", fn := fun _ => fun
  | [d] => { results := [.lit (.bool true)], args := [d] }
  | _ => none }
def scoreRanksRow : OpenClaim := { program := "ytlakjninlpiedaa", sum := "7f636840c32760a6849fdf5db7de565d6ce35c626921eea689f0805e8338f510", func := "fascicle/fasciclelaw28.ScoreRanks", spec := "scoreRanks", inPlace := ["math.Float64frombits", "math.Float64bits"], unfollowed := true, recurses := true, apart := false }
def ScoreRanksSaid : Prop := scoreRanksRow.holds Try.pinned (OpenSpec.ofChange scoreRanksSpec)

/-- ITS FALSE NEIGHBOUR: 'it returns false'. Refute it at one input. -/
def scoreRanksWrong : ChangeSpec := { name := "scoreRanks", fn := fun _ => fun
  | [d] => { results := [.lit (.bool false)], args := [d] }
  | _ => none }
def ScoreRanksWrongFalsely : Prop := scoreRanksRow.holds Try.pinned (OpenSpec.ofChange scoreRanksWrong)

/-- 'fasciclelaw28.ScoreKeeps': WHATEVER THE INPUT: true; the input reads as it did. -/
def scoreKeepsSpec : ChangeSpec := { name := "scoreKeeps", fn := fun _ => fun
  | [d1, d2] => { results := [.lit (.bool true)], args := [d1, d2] }
  | _ => none }
def scoreKeepsRow : OpenClaim := { program := "ytlakjninlpiedaa", sum := "7f636840c32760a6849fdf5db7de565d6ce35c626921eea689f0805e8338f510", func := "fascicle/fasciclelaw28.ScoreKeeps", spec := "scoreKeeps", inPlace := ["math.Float64frombits", "math.Float64bits"], unfollowed := true, recurses := true, apart := false }
def ScoreKeepsSaid : Prop := scoreKeepsRow.holds Try.pinned (OpenSpec.ofChange scoreKeepsSpec)

/-- ITS FALSE NEIGHBOUR: 'it returns false'. Refute it at one input. -/
def scoreKeepsWrong : ChangeSpec := { name := "scoreKeeps", fn := fun _ => fun
  | [d1, d2] => { results := [.lit (.bool false)], args := [d1, d2] }
  | _ => none }
def ScoreKeepsWrongFalsely : Prop := scoreKeepsRow.holds Try.pinned (OpenSpec.ofChange scoreKeepsWrong)

/- THE SECOND FORM. 'bulk': how many values and letters a reading holds, each counted each time it is reached (what is shared counts as often as it is met; a slice's spare places count too). A statement '..UptoSaid' is the law's where the arguments, and the package variables that the reading takes, are together of bulk at most 1048576: NARROWER than '..Said'. Prove '..Said' where nothing that the law and all that it calls make is longer than what came in: it says more and counts as full. Else prove '..UptoSaid'. A law counts once. -/
mutual
def uptoBulk {H : Type} : DataW H → Nat
  | .lit (.string bytes) => bytes.length + 1
  | .lit _ => 1
  | .nil => 1
  | .ptr d => uptoBulk d + 1
  | .slice elems spare => uptoBulkAll elems + uptoBulkAll spare + 1
  | .agg parts => uptoBulkAll parts + 1
  | .iface _ d => uptoBulk d + 1
  | .map entries => uptoBulkEntries entries + 1
  | .held _ => 1
def uptoBulkAll {H : Type} : List (DataW H) → Nat
  | [] => 0
  | d :: r => uptoBulk d + uptoBulkAll r
def uptoBulkEntries {H : Type} : List (Lit × DataW H) → Nat
  | [] => 0
  | x :: r => uptoBulkEntry x + uptoBulkEntries r
def uptoBulkEntry {H : Type} : Lit × DataW H → Nat
  | (.string bytes, d) => bytes.length + uptoBulk d + 1
  | (_, d) => uptoBulk d + 1
 end
def uptoSmall : (H : Type) → List (DataW H) → Bool := fun _ ds => decide (uptoBulkAll ds ≤ 1048576)
def OpenSpec.upto (s : _root_.Go.ChangeSpec) : _root_.Go.OpenSpec := { _root_.Go.OpenSpec.ofChange s with cond := some uptoSmall }

/-- 'fasciclelaw29.WearConfigs', WHERE WHAT IT READS IS OF BULK AT MOST 1048576: true; the input reads as it did. -/
def wearConfigsUptoRow : OpenClaim := { program := "ytlakjninlpiedaa", sum := "7f636840c32760a6849fdf5db7de565d6ce35c626921eea689f0805e8338f510", func := "fascicle/fasciclelaw29.WearConfigs", spec := "wearConfigs", apart := false, narrowed := true }
def WearConfigsUptoSaid : Prop := wearConfigsUptoRow.holds Try.pinned (OpenSpec.upto wearConfigsSpec)

/-- 'fasciclelaw29.WearLevels', WHERE WHAT IT READS IS OF BULK AT MOST 1048576: true; the input reads as it did. -/
def wearLevelsUptoRow : OpenClaim := { program := "ytlakjninlpiedaa", sum := "7f636840c32760a6849fdf5db7de565d6ce35c626921eea689f0805e8338f510", func := "fascicle/fasciclelaw29.WearLevels", spec := "wearLevels", apart := false, narrowed := true }
def WearLevelsUptoSaid : Prop := wearLevelsUptoRow.holds Try.pinned (OpenSpec.upto wearLevelsSpec)

/-- 'fasciclelaw28.ScoreDecays', WHERE WHAT IT READS IS OF BULK AT MOST 1048576: true; the input reads as it did. -/
def scoreDecaysUptoRow : OpenClaim := { program := "ytlakjninlpiedaa", sum := "7f636840c32760a6849fdf5db7de565d6ce35c626921eea689f0805e8338f510", func := "fascicle/fasciclelaw28.ScoreDecays", spec := "scoreDecays", inPlace := ["math.Float64frombits", "math.Float64bits"], apart := false, narrowed := true }
def ScoreDecaysUptoSaid : Prop := scoreDecaysUptoRow.holds Try.pinned (OpenSpec.upto scoreDecaysSpec)

/-- 'fasciclelaw06.EdgeRatios', WHERE WHAT IT READS IS OF BULK AT MOST 1048576: true; the input reads as it did. -/
def edgeRatiosUptoRow : OpenClaim := { program := "ytlakjninlpiedaa", sum := "7f636840c32760a6849fdf5db7de565d6ce35c626921eea689f0805e8338f510", func := "fascicle/fasciclelaw06.EdgeRatios", spec := "edgeRatios", inPlace := ["math.Float64bits", "math.Float64frombits"], apart := false, narrowed := true }
def EdgeRatiosUptoSaid : Prop := edgeRatiosUptoRow.holds Try.pinned (OpenSpec.upto edgeRatiosSpec)

/-- 'fasciclelaw06.EdgeOrders', WHERE WHAT IT READS IS OF BULK AT MOST 1048576: true; the input reads as it did. -/
def edgeOrdersUptoRow : OpenClaim := { program := "ytlakjninlpiedaa", sum := "7f636840c32760a6849fdf5db7de565d6ce35c626921eea689f0805e8338f510", func := "fascicle/fasciclelaw06.EdgeOrders", spec := "edgeOrders", inPlace := ["math.Float64bits", "math.Float64frombits"], apart := false, narrowed := true }
def EdgeOrdersUptoSaid : Prop := edgeOrdersUptoRow.holds Try.pinned (OpenSpec.upto edgeOrdersSpec)

/-- 'fasciclelaw06.EdgeKeys', WHERE WHAT IT READS IS OF BULK AT MOST 1048576: true; the input reads as it did. -/
def edgeKeysUptoRow : OpenClaim := { program := "ytlakjninlpiedaa", sum := "7f636840c32760a6849fdf5db7de565d6ce35c626921eea689f0805e8338f510", func := "fascicle/fasciclelaw06.EdgeKeys", spec := "edgeKeys", inPlace := ["math.Float64bits", "math.Float64frombits"], apart := false, narrowed := true }
def EdgeKeysUptoSaid : Prop := edgeKeysUptoRow.holds Try.pinned (OpenSpec.upto edgeKeysSpec)

/-- 'fasciclelaw06.EdgeCounts', WHERE WHAT IT READS IS OF BULK AT MOST 1048576: true; the input reads as it did. -/
def edgeCountsUptoRow : OpenClaim := { program := "ytlakjninlpiedaa", sum := "7f636840c32760a6849fdf5db7de565d6ce35c626921eea689f0805e8338f510", func := "fascicle/fasciclelaw06.EdgeCounts", spec := "edgeCounts", inPlace := ["math.Float64bits", "math.Float64frombits"], apart := false, narrowed := true }
def EdgeCountsUptoSaid : Prop := edgeCountsUptoRow.holds Try.pinned (OpenSpec.upto edgeCountsSpec)

/-- 'fasciclelaw29.WearEdges', WHERE WHAT IT READS IS OF BULK AT MOST 1048576: true; the input reads as it did. -/
def wearEdgesUptoRow : OpenClaim := { program := "ytlakjninlpiedaa", sum := "7f636840c32760a6849fdf5db7de565d6ce35c626921eea689f0805e8338f510", func := "fascicle/fasciclelaw29.WearEdges", spec := "wearEdges", inPlace := ["math.Float64bits"], apart := false, narrowed := true }
def WearEdgesUptoSaid : Prop := wearEdgesUptoRow.holds Try.pinned (OpenSpec.upto wearEdgesSpec)

/-- 'fasciclelaw29.WearPlays', WHERE WHAT IT READS IS OF BULK AT MOST 1048576: true; the input reads as it did. -/
def wearPlaysUptoRow : OpenClaim := { program := "ytlakjninlpiedaa", sum := "7f636840c32760a6849fdf5db7de565d6ce35c626921eea689f0805e8338f510", func := "fascicle/fasciclelaw29.WearPlays", spec := "wearPlays", inPlace := ["maps.clone", "math.Float64bits", "math.Float64frombits"], apart := false, narrowed := true }
def WearPlaysUptoSaid : Prop := wearPlaysUptoRow.holds Try.pinned (OpenSpec.upto wearPlaysSpec)

/-- 'fasciclelaw06.EdgeReads', WHERE WHAT IT READS IS OF BULK AT MOST 1048576: true; the input reads as it did. -/
def edgeReadsUptoRow : OpenClaim := { program := "ytlakjninlpiedaa", sum := "7f636840c32760a6849fdf5db7de565d6ce35c626921eea689f0805e8338f510", func := "fascicle/fasciclelaw06.EdgeReads", spec := "edgeReads", inPlace := ["math.Float64bits", "math.Float64frombits"], unfollowed := true, recurses := true, apart := false, narrowed := true }
def EdgeReadsUptoSaid : Prop := edgeReadsUptoRow.holds Try.pinned (OpenSpec.upto edgeReadsSpec)

/-- 'fasciclelaw28.ScoreOrder', WHERE WHAT IT READS IS OF BULK AT MOST 1048576: true; the input reads as it did. -/
def scoreOrderUptoRow : OpenClaim := { program := "ytlakjninlpiedaa", sum := "7f636840c32760a6849fdf5db7de565d6ce35c626921eea689f0805e8338f510", func := "fascicle/fasciclelaw28.ScoreOrder", spec := "scoreOrder", inPlace := ["math.Float64frombits", "math.Float64bits"], unfollowed := true, recurses := true, apart := false, narrowed := true }
def ScoreOrderUptoSaid : Prop := scoreOrderUptoRow.holds Try.pinned (OpenSpec.upto scoreOrderSpec)

/-- 'fasciclelaw28.ScoreRanks', WHERE WHAT IT READS IS OF BULK AT MOST 1048576: true; the input reads as it did. -/
def scoreRanksUptoRow : OpenClaim := { program := "ytlakjninlpiedaa", sum := "7f636840c32760a6849fdf5db7de565d6ce35c626921eea689f0805e8338f510", func := "fascicle/fasciclelaw28.ScoreRanks", spec := "scoreRanks", inPlace := ["math.Float64frombits", "math.Float64bits"], unfollowed := true, recurses := true, apart := false, narrowed := true }
def ScoreRanksUptoSaid : Prop := scoreRanksUptoRow.holds Try.pinned (OpenSpec.upto scoreRanksSpec)

/-- 'fasciclelaw28.ScoreKeeps', WHERE WHAT IT READS IS OF BULK AT MOST 1048576: true; the input reads as it did. -/
def scoreKeepsUptoRow : OpenClaim := { program := "ytlakjninlpiedaa", sum := "7f636840c32760a6849fdf5db7de565d6ce35c626921eea689f0805e8338f510", func := "fascicle/fasciclelaw28.ScoreKeeps", spec := "scoreKeeps", inPlace := ["math.Float64frombits", "math.Float64bits"], unfollowed := true, recurses := true, apart := false, narrowed := true }
def ScoreKeepsUptoSaid : Prop := scoreKeepsUptoRow.holds Try.pinned (OpenSpec.upto scoreKeepsSpec)

end Rows
end Go.Proofs.Ytlakjninlpiedaa
