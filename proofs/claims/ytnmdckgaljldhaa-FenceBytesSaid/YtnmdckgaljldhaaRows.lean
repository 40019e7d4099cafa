/-
  No cell of these rows narrows 'for every input' (looked for: loops, veiled, ifaces, maps, wideKeys, modest, calm, conditions, laid).
  DERIVED. THE GIVEN ROWS OF THIS SEAT. 13 by the template 'for every input the law returns true; each argument reads behind the call as it read before'; 0 by the template 'total and deterministic' (their statements: YtnmdckgaljldhaaTotals.lean).
  GIVEN WITH THE SEED: the statements are not yours to turn. If you find one false, say at which input.
  Laid BY PROGRAM, IN A SANDBOX (cutbox-rows.mjs): the forced cells as the released guide's own fill.sh prints them over the translation 28353b7f222972b1… (all of the seat's roots in one cut). By AI agents, Wed Nov 11 2026. No macro, syntax, notation, axiom, sorry.
-/
import Derived.Test.YtnmdckgaljldhaaChecked
import GoSem.Claim
import GoSem.ClaimJoined
import GoSem.ClaimMapViews
import Derived.JoinedTies
import Derived.KernelRfl
namespace Go.Proofs.Ytnmdckgaljldhaa
/- THE CELL 'sum', in the pinned program and in every row, IS THE sha256 OF THE DUMP (.gsa) THAT YtnmdckgaljldhaaProg.lean LOADS. Nothing in Lean hashes anything: it is a label: what it is worth is what the hold of that sum in a sandbox is worth. -/
noncomputable def Try.pinned : Pinned := { name := "ytnmdckgaljldhaa", sum := "28353b7f222972b1c6efdc7a5b5663b2066e36404e0d729dea5d7d2709f94a8b", checked := Try.checked }
namespace Rows
def none {H : Type} : Left H := { results := [], args := [] }

/-- 'fasciclelaw12.FenceCounts': WHATEVER THE INPUT: true; the input reads as it did. -/
def fenceCountsSpec : ChangeSpec := { name := "fenceCounts", fn := fun _ => fun
  | [d] => { results := [.lit (.bool true)], args := [d] }
  | _ => none }
def fenceCountsRow : OpenClaim := { program := "ytnmdckgaljldhaa", sum := "28353b7f222972b1c6efdc7a5b5663b2066e36404e0d729dea5d7d2709f94a8b", func := "fascicle/fasciclelaw12.FenceCounts", spec := "fenceCounts", unfollowed := true, recurses := true, plainKeys := false, apart := false }
def FenceCountsSaid : Prop := fenceCountsRow.holds Try.pinned (OpenSpec.ofChange fenceCountsSpec)

/-- ITS FALSE NEIGHBOUR: 'it returns false'. Refute it at one input. -/
def fenceCountsWrong : ChangeSpec := { name := "fenceCounts", fn := fun _ => fun
  | [d] => { results := [.lit (.bool false)], args := [d] }
  | _ => none }
def FenceCountsWrongFalsely : Prop := fenceCountsRow.holds Try.pinned (OpenSpec.ofChange fenceCountsWrong)

/-- 'fasciclelaw12.FenceBytes': WHATEVER THE INPUT: true; the input reads as it did. -/
def fenceBytesSpec : ChangeSpec := { name := "fenceBytes", fn := fun _ => fun
  | [d1, d2, d3] => { results := [.lit (.bool true)], args := [d1, d2, d3] }
  | _ => none }
def fenceBytesRow : OpenClaim := { program := "ytnmdckgaljldhaa", sum := "28353b7f222972b1c6efdc7a5b5663b2066e36404e0d729dea5d7d2709f94a8b", func := "fascicle/fasciclelaw12.FenceBytes", spec := "fenceBytes", unfollowed := true, recurses := true, plainKeys := false, apart := false }
def FenceBytesSaid : Prop := fenceBytesRow.holds Try.pinned (OpenSpec.ofChange fenceBytesSpec)

/-- ITS FALSE NEIGHBOUR: 'it returns false'. Refute it at one input. -/
def fenceBytesWrong : ChangeSpec := { name := "fenceBytes", fn := fun _ => fun
  | [d1, d2, d3] => { results := [.lit (.bool false)], args := [d1, d2, d3] }
  | _ => none }
def FenceBytesWrongFalsely : Prop := fenceBytesRow.holds Try.pinned (OpenSpec.ofChange fenceBytesWrong)

/-- 'fasciclelaw14.PackRooms': WHATEVER THE INPUT: true; the input reads as it did. -/
def packRoomsSpec : ChangeSpec := { name := "packRooms", fn := fun _ => fun
  | [d1, d2, d3] => { results := [.lit (.bool true)], args := [d1, d2, d3] }
  | _ => none }
def packRoomsRow : OpenClaim := { program := "ytnmdckgaljldhaa", sum := "28353b7f222972b1c6efdc7a5b5663b2066e36404e0d729dea5d7d2709f94a8b", func := "fascicle/fasciclelaw14.PackRooms", spec := "packRooms", inPlace := ["internal/bytealg.IndexByte"], recurses := true, plainKeys := false, apart := false }
def PackRoomsSaid : Prop := packRoomsRow.holds Try.pinned (OpenSpec.ofChange packRoomsSpec)

/-- ITS FALSE NEIGHBOUR: 'it returns false'. Refute it at one input. -/
def packRoomsWrong : ChangeSpec := { name := "packRooms", fn := fun _ => fun
  | [d1, d2, d3] => { results := [.lit (.bool false)], args := [d1, d2, d3] }
  | _ => none }
def PackRoomsWrongFalsely : Prop := packRoomsRow.holds Try.pinned (OpenSpec.ofChange packRoomsWrong)

/-- 'fasciclelaw14.PackPlans': WHATEVER THE INPUT: true; the input reads as it did. -/
def packPlansSpec : ChangeSpec := { name := "packPlans", fn := fun _ => fun
  | [d1, d2] => { results := [.lit (.bool true)], args := [d1, d2] }
  | _ => none }
def packPlansRow : OpenClaim := { program := "ytnmdckgaljldhaa", sum := "28353b7f222972b1c6efdc7a5b5663b2066e36404e0d729dea5d7d2709f94a8b", func := "fascicle/fasciclelaw14.PackPlans", spec := "packPlans", inPlace := ["internal/bytealg.IndexByte"], recurses := true, plainKeys := false, apart := false }
def PackPlansSaid : Prop := packPlansRow.holds Try.pinned (OpenSpec.ofChange packPlansSpec)

/-- ITS FALSE NEIGHBOUR: 'it returns false'. Refute it at one input. -/
def packPlansWrong : ChangeSpec := { name := "packPlans", fn := fun _ => fun
  | [d1, d2] => { results := [.lit (.bool false)], args := [d1, d2] }
  | _ => none }
def PackPlansWrongFalsely : Prop := packPlansRow.holds Try.pinned (OpenSpec.ofChange packPlansWrong)

/-- 'fasciclelaw14.PackGreedy': WHATEVER THE INPUT: true; the input reads as it did. -/
def packGreedySpec : ChangeSpec := { name := "packGreedy", fn := fun _ => fun
  | [d1, d2] => { results := [.lit (.bool true)], args := [d1, d2] }
  | _ => none }
def packGreedyRow : OpenClaim := { program := "ytnmdckgaljldhaa", sum := "28353b7f222972b1c6efdc7a5b5663b2066e36404e0d729dea5d7d2709f94a8b", func := "fascicle/fasciclelaw14.PackGreedy", spec := "packGreedy", inPlace := ["internal/bytealg.IndexByte"], recurses := true, plainKeys := false, apart := false }
def PackGreedySaid : Prop := packGreedyRow.holds Try.pinned (OpenSpec.ofChange packGreedySpec)

/-- ITS FALSE NEIGHBOUR: 'it returns false'. Refute it at one input. -/
def packGreedyWrong : ChangeSpec := { name := "packGreedy", fn := fun _ => fun
  | [d1, d2] => { results := [.lit (.bool false)], args := [d1, d2] }
  | _ => none }
def PackGreedyWrongFalsely : Prop := packGreedyRow.holds Try.pinned (OpenSpec.ofChange packGreedyWrong)

/-- 'fasciclelaw14.PackLarge': WHATEVER THE INPUT: true; the input reads as it did. -/
def packLargeSpec : ChangeSpec := { name := "packLarge", fn := fun _ => fun
  | [d1, d2, d3] => { results := [.lit (.bool true)], args := [d1, d2, d3] }
  | _ => none }
def packLargeRow : OpenClaim := { program := "ytnmdckgaljldhaa", sum := "28353b7f222972b1c6efdc7a5b5663b2066e36404e0d729dea5d7d2709f94a8b", func := "fascicle/fasciclelaw14.PackLarge", spec := "packLarge", inPlace := ["internal/bytealg.IndexByte"], plainKeys := false, apart := false }
def PackLargeSaid : Prop := packLargeRow.holds Try.pinned (OpenSpec.ofChange packLargeSpec)

/-- ITS FALSE NEIGHBOUR: 'it returns false'. Refute it at one input. -/
def packLargeWrong : ChangeSpec := { name := "packLarge", fn := fun _ => fun
  | [d1, d2, d3] => { results := [.lit (.bool false)], args := [d1, d2, d3] }
  | _ => none }
def PackLargeWrongFalsely : Prop := packLargeRow.holds Try.pinned (OpenSpec.ofChange packLargeWrong)

/-- 'fasciclelaw11.TableMerges': WHATEVER THE INPUT: true; the input reads as it did. -/
def tableMergesSpec : ChangeSpec := { name := "tableMerges", fn := fun _ => fun
  | [d1, d2] => { results := [.lit (.bool true)], args := [d1, d2] }
  | _ => none }
def tableMergesRow : OpenClaim := { program := "ytnmdckgaljldhaa", sum := "28353b7f222972b1c6efdc7a5b5663b2066e36404e0d729dea5d7d2709f94a8b", func := "fascicle/fasciclelaw11.TableMerges", spec := "tableMerges", unfollowed := true, recurses := true, plainKeys := false, apart := false }
def TableMergesSaid : Prop := tableMergesRow.holds Try.pinned (OpenSpec.ofChange tableMergesSpec)

/-- ITS FALSE NEIGHBOUR: 'it returns false'. Refute it at one input. -/
def tableMergesWrong : ChangeSpec := { name := "tableMerges", fn := fun _ => fun
  | [d1, d2] => { results := [.lit (.bool false)], args := [d1, d2] }
  | _ => none }
def TableMergesWrongFalsely : Prop := tableMergesRow.holds Try.pinned (OpenSpec.ofChange tableMergesWrong)

/-- 'fasciclelaw11.TableOrder': WHATEVER THE INPUT: true; the input reads as it did. -/
def tableOrderSpec : ChangeSpec := { name := "tableOrder", fn := fun _ => fun
  | [d1, d2, d3] => { results := [.lit (.bool true)], args := [d1, d2, d3] }
  | _ => none }
def tableOrderRow : OpenClaim := { program := "ytnmdckgaljldhaa", sum := "28353b7f222972b1c6efdc7a5b5663b2066e36404e0d729dea5d7d2709f94a8b", func := "fascicle/fasciclelaw11.TableOrder", spec := "tableOrder", unfollowed := true, recurses := true, plainKeys := false, apart := false }
def TableOrderSaid : Prop := tableOrderRow.holds Try.pinned (OpenSpec.ofChange tableOrderSpec)

/-- ITS FALSE NEIGHBOUR: 'it returns false'. Refute it at one input. -/
def tableOrderWrong : ChangeSpec := { name := "tableOrder", fn := fun _ => fun
  | [d1, d2, d3] => { results := [.lit (.bool false)], args := [d1, d2, d3] }
  | _ => none }
def TableOrderWrongFalsely : Prop := tableOrderRow.holds Try.pinned (OpenSpec.ofChange tableOrderWrong)

/-- 'fasciclelaw11.TableSorts': WHATEVER THE INPUT: true; the input reads as it did. -/
def tableSortsSpec : ChangeSpec := { name := "tableSorts", fn := fun _ => fun
  | [d] => { results := [.lit (.bool true)], args := [d] }
  | _ => none }
def tableSortsRow : OpenClaim := { program := "ytnmdckgaljldhaa", sum := "28353b7f222972b1c6efdc7a5b5663b2066e36404e0d729dea5d7d2709f94a8b", func := "fascicle/fasciclelaw11.TableSorts", spec := "tableSorts", unfollowed := true, recurses := true, plainKeys := false, apart := false }
def TableSortsSaid : Prop := tableSortsRow.holds Try.pinned (OpenSpec.ofChange tableSortsSpec)

/-- ITS FALSE NEIGHBOUR: 'it returns false'. Refute it at one input. -/
def tableSortsWrong : ChangeSpec := { name := "tableSorts", fn := fun _ => fun
  | [d] => { results := [.lit (.bool false)], args := [d] }
  | _ => none }
def TableSortsWrongFalsely : Prop := tableSortsRow.holds Try.pinned (OpenSpec.ofChange tableSortsWrong)

/-- 'fasciclelaw12.FenceOf': WHATEVER THE INPUT: true; the input reads as it did. -/
def fenceOfSpec : ChangeSpec := { name := "fenceOf", fn := fun _ => fun
  | [d1, d2] => { results := [.lit (.bool true)], args := [d1, d2] }
  | _ => none }
def fenceOfRow : OpenClaim := { program := "ytnmdckgaljldhaa", sum := "28353b7f222972b1c6efdc7a5b5663b2066e36404e0d729dea5d7d2709f94a8b", func := "fascicle/fasciclelaw12.FenceOf", spec := "fenceOf", unfollowed := true, recurses := true, plainKeys := false, apart := false }
def FenceOfSaid : Prop := fenceOfRow.holds Try.pinned (OpenSpec.ofChange fenceOfSpec)

/-- ITS FALSE NEIGHBOUR: 'it returns false'. Refute it at one input. -/
def fenceOfWrong : ChangeSpec := { name := "fenceOf", fn := fun _ => fun
  | [d1, d2] => { results := [.lit (.bool false)], args := [d1, d2] }
  | _ => none }
def FenceOfWrongFalsely : Prop := fenceOfRow.holds Try.pinned (OpenSpec.ofChange fenceOfWrong)

/-- 'fasciclelaw12.FenceHolds': WHATEVER THE INPUT: true; the input reads as it did. -/
def fenceHoldsSpec : ChangeSpec := { name := "fenceHolds", fn := fun _ => fun
  | [d1, d2] => { results := [.lit (.bool true)], args := [d1, d2] }
  | _ => none }
def fenceHoldsRow : OpenClaim := { program := "ytnmdckgaljldhaa", sum := "28353b7f222972b1c6efdc7a5b5663b2066e36404e0d729dea5d7d2709f94a8b", func := "fascicle/fasciclelaw12.FenceHolds", spec := "fenceHolds", unfollowed := true, recurses := true, plainKeys := false, apart := false }
def FenceHoldsSaid : Prop := fenceHoldsRow.holds Try.pinned (OpenSpec.ofChange fenceHoldsSpec)

/-- ITS FALSE NEIGHBOUR: 'it returns false'. Refute it at one input. -/
def fenceHoldsWrong : ChangeSpec := { name := "fenceHolds", fn := fun _ => fun
  | [d1, d2] => { results := [.lit (.bool false)], args := [d1, d2] }
  | _ => none }
def FenceHoldsWrongFalsely : Prop := fenceHoldsRow.holds Try.pinned (OpenSpec.ofChange fenceHoldsWrong)

/-- 'fasciclelaw11.TableFinds': WHATEVER THE INPUT: true; the input reads as it did. -/
def tableFindsSpec : ChangeSpec := { name := "tableFinds", fn := fun _ => fun
  | [d1, d2, d3] => { results := [.lit (.bool true)], args := [d1, d2, d3] }
  | _ => none }
def tableFindsRow : OpenClaim := { program := "ytnmdckgaljldhaa", sum := "28353b7f222972b1c6efdc7a5b5663b2066e36404e0d729dea5d7d2709f94a8b", func := "fascicle/fasciclelaw11.TableFinds", spec := "tableFinds", unfollowed := true, recurses := true, plainKeys := false, apart := false }
def TableFindsSaid : Prop := tableFindsRow.holds Try.pinned (OpenSpec.ofChange tableFindsSpec)

/-- ITS FALSE NEIGHBOUR: 'it returns false'. Refute it at one input. -/
def tableFindsWrong : ChangeSpec := { name := "tableFinds", fn := fun _ => fun
  | [d1, d2, d3] => { results := [.lit (.bool false)], args := [d1, d2, d3] }
  | _ => none }
def TableFindsWrongFalsely : Prop := tableFindsRow.holds Try.pinned (OpenSpec.ofChange tableFindsWrong)

/-- 'fasciclelaw11.TableBytes': WHATEVER THE INPUT: true; the input reads as it did. -/
def tableBytesSpec : ChangeSpec := { name := "tableBytes", fn := fun _ => fun
  | [d1, d2, d3] => { results := [.lit (.bool true)], args := [d1, d2, d3] }
  | _ => none }
def tableBytesRow : OpenClaim := { program := "ytnmdckgaljldhaa", sum := "28353b7f222972b1c6efdc7a5b5663b2066e36404e0d729dea5d7d2709f94a8b", func := "fascicle/fasciclelaw11.TableBytes", spec := "tableBytes", unfollowed := true, recurses := true, plainKeys := false, apart := false }
def TableBytesSaid : Prop := tableBytesRow.holds Try.pinned (OpenSpec.ofChange tableBytesSpec)

/-- ITS FALSE NEIGHBOUR: 'it returns false'. Refute it at one input. -/
def tableBytesWrong : ChangeSpec := { name := "tableBytes", fn := fun _ => fun
  | [d1, d2, d3] => { results := [.lit (.bool false)], args := [d1, d2, d3] }
  | _ => none }
def TableBytesWrongFalsely : Prop := tableBytesRow.holds Try.pinned (OpenSpec.ofChange tableBytesWrong)

/- THE SECOND FORM. 'bulk': how many values and letters a reading holds, each counted each time it is reached (what is shared counts as often as it is met; a slice's spare places count too). A statement '..UptoSaid' is the law's where the arguments, and the package variables that the reading takes, are together of bulk at most 1048576: NARROWER than '..Said'. Prove '..Said' where nothing that the law and all that it calls make is longer than what came in: it says more and counts as full. Else prove '..UptoSaid'. A law counts once. -/
mutual
def uptoBulk {H : Type} : DataW H → Nat
  | .lit (.string bytes) => bytes.length + 1
  | .lit _ => 1
  | .nil => 1
  | .ptr d => uptoBulk d + 1
  | .slice elems spare => uptoBulkAll elems + uptoBulkAll spare + 1
  | .agg parts => uptoBulkAll parts + 1
  | .iface _ d => uptoBulk d + 1
  | .map entries => uptoBulkEntries entries + 1
  | .held _ => 1
def uptoBulkAll {H : Type} : List (DataW H) → Nat
  | [] => 0
  | d :: r => uptoBulk d + uptoBulkAll r
def uptoBulkEntries {H : Type} : List (Lit × DataW H) → Nat
  | [] => 0
  | x :: r => uptoBulkEntry x + uptoBulkEntries r
def uptoBulkEntry {H : Type} : Lit × DataW H → Nat
  | (.string bytes, d) => bytes.length + uptoBulk d + 1
  | (_, d) => uptoBulk d + 1
 end
def uptoSmall : (H : Type) → List (DataW H) → Bool := fun _ ds => decide (uptoBulkAll ds ≤ 1048576)
def OpenSpec.upto (s : _root_.Go.ChangeSpec) : _root_.Go.OpenSpec := { _root_.Go.OpenSpec.ofChange s with cond := some uptoSmall }

/-- 'fasciclelaw12.FenceCounts', WHERE WHAT IT READS IS OF BULK AT MOST 1048576: true; the input reads as it did. -/
def fenceCountsUptoRow : OpenClaim := { program := "ytnmdckgaljldhaa", sum := "28353b7f222972b1c6efdc7a5b5663b2066e36404e0d729dea5d7d2709f94a8b", func := "fascicle/fasciclelaw12.FenceCounts", spec := "fenceCounts", unfollowed := true, recurses := true, plainKeys := false, apart := false, narrowed := true }
def FenceCountsUptoSaid : Prop := fenceCountsUptoRow.holds Try.pinned (OpenSpec.upto fenceCountsSpec)

/-- 'fasciclelaw12.FenceBytes', WHERE WHAT IT READS IS OF BULK AT MOST 1048576: true; the input reads as it did. -/
def fenceBytesUptoRow : OpenClaim := { program := "ytnmdckgaljldhaa", sum := "28353b7f222972b1c6efdc7a5b5663b2066e36404e0d729dea5d7d2709f94a8b", func := "fascicle/fasciclelaw12.FenceBytes", spec := "fenceBytes", unfollowed := true, recurses := true, plainKeys := false, apart := false, narrowed := true }
def FenceBytesUptoSaid : Prop := fenceBytesUptoRow.holds Try.pinned (OpenSpec.upto fenceBytesSpec)

/-- 'fasciclelaw14.PackRooms', WHERE WHAT IT READS IS OF BULK AT MOST 1048576: true; the input reads as it did. -/
def packRoomsUptoRow : OpenClaim := { program := "ytnmdckgaljldhaa", sum := "28353b7f222972b1c6efdc7a5b5663b2066e36404e0d729dea5d7d2709f94a8b", func := "fascicle/fasciclelaw14.PackRooms", spec := "packRooms", inPlace := ["internal/bytealg.IndexByte"], recurses := true, plainKeys := false, apart := false, narrowed := true }
def PackRoomsUptoSaid : Prop := packRoomsUptoRow.holds Try.pinned (OpenSpec.upto packRoomsSpec)

/-- 'fasciclelaw14.PackPlans', WHERE WHAT IT READS IS OF BULK AT MOST 1048576: true; the input reads as it did. -/
def packPlansUptoRow : OpenClaim := { program := "ytnmdckgaljldhaa", sum := "28353b7f222972b1c6efdc7a5b5663b2066e36404e0d729dea5d7d2709f94a8b", func := "fascicle/fasciclelaw14.PackPlans", spec := "packPlans", inPlace := ["internal/bytealg.IndexByte"], recurses := true, plainKeys := false, apart := false, narrowed := true }
def PackPlansUptoSaid : Prop := packPlansUptoRow.holds Try.pinned (OpenSpec.upto packPlansSpec)

/-- 'fasciclelaw14.PackGreedy', WHERE WHAT IT READS IS OF BULK AT MOST 1048576: true; the input reads as it did. -/
def packGreedyUptoRow : OpenClaim := { program := "ytnmdckgaljldhaa", sum := "28353b7f222972b1c6efdc7a5b5663b2066e36404e0d729dea5d7d2709f94a8b", func := "fascicle/fasciclelaw14.PackGreedy", spec := "packGreedy", inPlace := ["internal/bytealg.IndexByte"], recurses := true, plainKeys := false, apart := false, narrowed := true }
def PackGreedyUptoSaid : Prop := packGreedyUptoRow.holds Try.pinned (OpenSpec.upto packGreedySpec)

/-- 'fasciclelaw14.PackLarge', WHERE WHAT IT READS IS OF BULK AT MOST 1048576: true; the input reads as it did. -/
def packLargeUptoRow : OpenClaim := { program := "ytnmdckgaljldhaa", sum := "28353b7f222972b1c6efdc7a5b5663b2066e36404e0d729dea5d7d2709f94a8b", func := "fascicle/fasciclelaw14.PackLarge", spec := "packLarge", inPlace := ["internal/bytealg.IndexByte"], plainKeys := false, apart := false, narrowed := true }
def PackLargeUptoSaid : Prop := packLargeUptoRow.holds Try.pinned (OpenSpec.upto packLargeSpec)

/-- 'fasciclelaw11.TableMerges', WHERE WHAT IT READS IS OF BULK AT MOST 1048576: true; the input reads as it did. -/
def tableMergesUptoRow : OpenClaim := { program := "ytnmdckgaljldhaa", sum := "28353b7f222972b1c6efdc7a5b5663b2066e36404e0d729dea5d7d2709f94a8b", func := "fascicle/fasciclelaw11.TableMerges", spec := "tableMerges", unfollowed := true, recurses := true, plainKeys := false, apart := false, narrowed := true }
def TableMergesUptoSaid : Prop := tableMergesUptoRow.holds Try.pinned (OpenSpec.upto tableMergesSpec)

/-- 'fasciclelaw11.TableOrder', WHERE WHAT IT READS IS OF BULK AT MOST 1048576: true; the input reads as it did. -/
def tableOrderUptoRow : OpenClaim := { program := "ytnmdckgaljldhaa", sum := "28353b7f222972b1c6efdc7a5b5663b2066e36404e0d729dea5d7d2709f94a8b", func := "fascicle/fasciclelaw11.TableOrder", spec := "tableOrder", unfollowed := true, recurses := true, plainKeys := false, apart := false, narrowed := true }
def TableOrderUptoSaid : Prop := tableOrderUptoRow.holds Try.pinned (OpenSpec.upto tableOrderSpec)

/-- 'fasciclelaw11.TableSorts', WHERE WHAT IT READS IS OF BULK AT MOST 1048576: true; the input reads as it did. -/
def tableSortsUptoRow : OpenClaim := { program := "ytnmdckgaljldhaa", sum := "28353b7f222972b1c6efdc7a5b5663b2066e36404e0d729dea5d7d2709f94a8b", func := "fascicle/fasciclelaw11.TableSorts", spec := "tableSorts", unfollowed := true, recurses := true, plainKeys := false, apart := false, narrowed := true }
def TableSortsUptoSaid : Prop := tableSortsUptoRow.holds Try.pinned (OpenSpec.upto tableSortsSpec)

/-- 'fasciclelaw12.FenceOf', WHERE WHAT IT READS IS OF BULK AT MOST 1048576: true; the input reads as it did. -/
def fenceOfUptoRow : OpenClaim := { program := "ytnmdckgaljldhaa", sum := "28353b7f222972b1c6efdc7a5b5663b2066e36404e0d729dea5d7d2709f94a8b", func := "fascicle/fasciclelaw12.FenceOf", spec := "fenceOf", unfollowed := true, recurses := true, plainKeys := false, apart := false, narrowed := true }
def FenceOfUptoSaid : Prop := fenceOfUptoRow.holds Try.pinned (OpenSpec.upto fenceOfSpec)

/-- 'fasciclelaw12.FenceHolds', WHERE WHAT IT READS IS OF BULK AT MOST 1048576: true; the input reads as it did. -/
def fenceHoldsUptoRow : OpenClaim := { program := "ytnmdckgaljldhaa", sum := "28353b7f222972b1c6efdc7a5b5663b2066e36404e0d729dea5d7d2709f94a8b", func := "fascicle/fasciclelaw12.FenceHolds", spec := "fenceHolds", unfollowed := true, recurses := true, plainKeys := false, apart := false, narrowed := true }
def FenceHoldsUptoSaid : Prop := fenceHoldsUptoRow.holds Try.pinned (OpenSpec.upto fenceHoldsSpec)

/-- 'fasciclelaw11.TableFinds', WHERE WHAT IT READS IS OF BULK AT MOST 1048576: true; the input reads as it did. -/
def tableFindsUptoRow : OpenClaim := { program := "ytnmdckgaljldhaa", sum := "28353b7f222972b1c6efdc7a5b5663b2066e36404e0d729dea5d7d2709f94a8b", func := "fascicle/fasciclelaw11.TableFinds", spec := "tableFinds", unfollowed := true, recurses := true, plainKeys := false, apart := false, narrowed := true }
def TableFindsUptoSaid : Prop := tableFindsUptoRow.holds Try.pinned (OpenSpec.upto tableFindsSpec)

/-- 'fasciclelaw11.TableBytes', WHERE WHAT IT READS IS OF BULK AT MOST 1048576: true; the input reads as it did. -/
def tableBytesUptoRow : OpenClaim := { program := "ytnmdckgaljldhaa", sum := "28353b7f222972b1c6efdc7a5b5663b2066e36404e0d729dea5d7d2709f94a8b", func := "fascicle/fasciclelaw11.TableBytes", spec := "tableBytes", unfollowed := true, recurses := true, plainKeys := false, apart := false, narrowed := true }
def TableBytesUptoSaid : Prop := tableBytesUptoRow.holds Try.pinned (OpenSpec.upto tableBytesSpec)

end Rows
end Go.Proofs.Ytnmdckgaljldhaa
