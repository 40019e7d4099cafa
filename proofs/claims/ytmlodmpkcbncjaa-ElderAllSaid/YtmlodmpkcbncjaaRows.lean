/-
  No cell of these rows narrows 'for every input' (looked for: loops, veiled, ifaces, maps, wideKeys, modest, calm, conditions, laid).
  DERIVED. THE GIVEN ROWS OF THIS SEAT. 12 by the template 'for every input the law returns true; each argument reads behind the call as it read before'; 0 by the template 'total and deterministic' (their statements: YtmlodmpkcbncjaaTotals.lean).
  GIVEN WITH THE SEED: the statements are not yours to turn. If you find one false, say at which input.
  Laid BY PROGRAM, IN A SANDBOX (cutbox-rows.mjs): the forced cells as the released guide's own fill.sh prints them over the translation 441b30576189e11b… (all of the seat's roots in one cut). By AI agents, Wed Nov 11 2026. No macro, syntax, notation, axiom, sorry.
-/
import Derived.Test.YtmlodmpkcbncjaaChecked
import GoSem.Claim
import GoSem.ClaimJoined
import GoSem.ClaimMapViews
import Derived.JoinedTies
import Derived.KernelRfl
namespace Go.Proofs.Ytmlodmpkcbncjaa
/- THE CELL 'sum', in the pinned program and in every row, IS THE sha256 OF THE DUMP (.gsa) THAT YtmlodmpkcbncjaaProg.lean LOADS. Nothing in Lean hashes anything: it is a label: what it is worth is what the hold of that sum in a sandbox is worth. -/
noncomputable def Try.pinned : Pinned := { name := "ytmlodmpkcbncjaa", sum := "441b30576189e11bd83978d25ed13c7b0d544ca5896b88532c5ac39b9b83f3e1", checked := Try.checked }
namespace Rows
def none {H : Type} : Left H := { results := [], args := [] }

/-- 'fasciclelaw01.CursorNests': WHATEVER THE INPUT: true; the input reads as it did. -/
def cursorNestsSpec : ChangeSpec := { name := "cursorNests", fn := fun _ => fun
  | [d1, d2, d3, d4] => { results := [.lit (.bool true)], args := [d1, d2, d3, d4] }
  | _ => none }
def cursorNestsRow : OpenClaim := { program := "ytmlodmpkcbncjaa", sum := "441b30576189e11bd83978d25ed13c7b0d544ca5896b88532c5ac39b9b83f3e1", func := "fascicle/fasciclelaw01.CursorNests", spec := "cursorNests", unfollowed := true, recurses := true, apart := false }
def CursorNestsSaid : Prop := cursorNestsRow.holds Try.pinned (OpenSpec.ofChange cursorNestsSpec)

/-- ITS FALSE NEIGHBOUR: 'it returns false'. Refute it at one input. -/
def cursorNestsWrong : ChangeSpec := { name := "cursorNests", fn := fun _ => fun
  | [d1, d2, d3, d4] => { results := [.lit (.bool false)], args := [d1, d2, d3, d4] }
  | _ => none }
def CursorNestsWrongFalsely : Prop := cursorNestsRow.holds Try.pinned (OpenSpec.ofChange cursorNestsWrong)

/-- 'fasciclelaw01.CursorDead': WHATEVER THE INPUT: true; the input reads as it did. -/
def cursorDeadSpec : ChangeSpec := { name := "cursorDead", fn := fun _ => fun
  | [d1, d2] => { results := [.lit (.bool true)], args := [d1, d2] }
  | _ => none }
def cursorDeadRow : OpenClaim := { program := "ytmlodmpkcbncjaa", sum := "441b30576189e11bd83978d25ed13c7b0d544ca5896b88532c5ac39b9b83f3e1", func := "fascicle/fasciclelaw01.CursorDead", spec := "cursorDead", unfollowed := true, recurses := true, apart := false }
def CursorDeadSaid : Prop := cursorDeadRow.holds Try.pinned (OpenSpec.ofChange cursorDeadSpec)

/-- ITS FALSE NEIGHBOUR: 'it returns false'. Refute it at one input. -/
def cursorDeadWrong : ChangeSpec := { name := "cursorDead", fn := fun _ => fun
  | [d1, d2] => { results := [.lit (.bool false)], args := [d1, d2] }
  | _ => none }
def CursorDeadWrongFalsely : Prop := cursorDeadRow.holds Try.pinned (OpenSpec.ofChange cursorDeadWrong)

/-- 'fasciclelaw07.RecordRises': WHATEVER THE INPUT: true; the input reads as it did. -/
def recordRisesSpec : ChangeSpec := { name := "recordRises", fn := fun _ => fun
  | [d1, d2] => { results := [.lit (.bool true)], args := [d1, d2] }
  | _ => none }
def recordRisesRow : OpenClaim := { program := "ytmlodmpkcbncjaa", sum := "441b30576189e11bd83978d25ed13c7b0d544ca5896b88532c5ac39b9b83f3e1", func := "fascicle/fasciclelaw07.RecordRises", spec := "recordRises", apart := false }
def RecordRisesSaid : Prop := recordRisesRow.holds Try.pinned (OpenSpec.ofChange recordRisesSpec)

/-- ITS FALSE NEIGHBOUR: 'it returns false'. Refute it at one input. -/
def recordRisesWrong : ChangeSpec := { name := "recordRises", fn := fun _ => fun
  | [d1, d2] => { results := [.lit (.bool false)], args := [d1, d2] }
  | _ => none }
def RecordRisesWrongFalsely : Prop := recordRisesRow.holds Try.pinned (OpenSpec.ofChange recordRisesWrong)

/-- 'fasciclelaw01.CursorBack': WHATEVER THE INPUT: true; the input reads as it did. -/
def cursorBackSpec : ChangeSpec := { name := "cursorBack", fn := fun _ => fun
  | [d1, d2] => { results := [.lit (.bool true)], args := [d1, d2] }
  | _ => none }
def cursorBackRow : OpenClaim := { program := "ytmlodmpkcbncjaa", sum := "441b30576189e11bd83978d25ed13c7b0d544ca5896b88532c5ac39b9b83f3e1", func := "fascicle/fasciclelaw01.CursorBack", spec := "cursorBack", unfollowed := true, recurses := true, apart := false }
def CursorBackSaid : Prop := cursorBackRow.holds Try.pinned (OpenSpec.ofChange cursorBackSpec)

/-- ITS FALSE NEIGHBOUR: 'it returns false'. Refute it at one input. -/
def cursorBackWrong : ChangeSpec := { name := "cursorBack", fn := fun _ => fun
  | [d1, d2] => { results := [.lit (.bool false)], args := [d1, d2] }
  | _ => none }
def CursorBackWrongFalsely : Prop := cursorBackRow.holds Try.pinned (OpenSpec.ofChange cursorBackWrong)

/-- 'fasciclelaw10.ElderPuts': WHATEVER THE INPUT: true; the input reads as it did. -/
def elderPutsSpec : ChangeSpec := { name := "elderPuts", fn := fun _ => fun
  | [d1, d2] => { results := [.lit (.bool true)], args := [d1, d2] }
  | _ => none }
def elderPutsRow : OpenClaim := { program := "ytmlodmpkcbncjaa", sum := "441b30576189e11bd83978d25ed13c7b0d544ca5896b88532c5ac39b9b83f3e1", func := "fascicle/fasciclelaw10.ElderPuts", spec := "elderPuts", unfollowed := true, recurses := true, apart := false }
def ElderPutsSaid : Prop := elderPutsRow.holds Try.pinned (OpenSpec.ofChange elderPutsSpec)

/-- ITS FALSE NEIGHBOUR: 'it returns false'. Refute it at one input. -/
def elderPutsWrong : ChangeSpec := { name := "elderPuts", fn := fun _ => fun
  | [d1, d2] => { results := [.lit (.bool false)], args := [d1, d2] }
  | _ => none }
def ElderPutsWrongFalsely : Prop := elderPutsRow.holds Try.pinned (OpenSpec.ofChange elderPutsWrong)

/-- 'fasciclelaw10.ElderGets': WHATEVER THE INPUT: true; the input reads as it did. -/
def elderGetsSpec : ChangeSpec := { name := "elderGets", fn := fun _ => fun
  | [d] => { results := [.lit (.bool true)], args := [d] }
  | _ => none }
def elderGetsRow : OpenClaim := { program := "ytmlodmpkcbncjaa", sum := "441b30576189e11bd83978d25ed13c7b0d544ca5896b88532c5ac39b9b83f3e1", func := "fascicle/fasciclelaw10.ElderGets", spec := "elderGets", unfollowed := true, recurses := true, apart := false }
def ElderGetsSaid : Prop := elderGetsRow.holds Try.pinned (OpenSpec.ofChange elderGetsSpec)

/-- ITS FALSE NEIGHBOUR: 'it returns false'. Refute it at one input. -/
def elderGetsWrong : ChangeSpec := { name := "elderGets", fn := fun _ => fun
  | [d] => { results := [.lit (.bool false)], args := [d] }
  | _ => none }
def ElderGetsWrongFalsely : Prop := elderGetsRow.holds Try.pinned (OpenSpec.ofChange elderGetsWrong)

/-- 'fasciclelaw07.RecordReads': WHATEVER THE INPUT: true; the input reads as it did. -/
def recordReadsSpec : ChangeSpec := { name := "recordReads", fn := fun _ => fun
  | [d] => { results := [.lit (.bool true)], args := [d] }
  | _ => none }
def recordReadsRow : OpenClaim := { program := "ytmlodmpkcbncjaa", sum := "441b30576189e11bd83978d25ed13c7b0d544ca5896b88532c5ac39b9b83f3e1", func := "fascicle/fasciclelaw07.RecordReads", spec := "recordReads", unfollowed := true, recurses := true, apart := false }
def RecordReadsSaid : Prop := recordReadsRow.holds Try.pinned (OpenSpec.ofChange recordReadsSpec)

/-- ITS FALSE NEIGHBOUR: 'it returns false'. Refute it at one input. -/
def recordReadsWrong : ChangeSpec := { name := "recordReads", fn := fun _ => fun
  | [d] => { results := [.lit (.bool false)], args := [d] }
  | _ => none }
def RecordReadsWrongFalsely : Prop := recordReadsRow.holds Try.pinned (OpenSpec.ofChange recordReadsWrong)

/-- 'fasciclelaw10.ElderApart': WHATEVER THE INPUT: true; the input reads as it did. -/
def elderApartSpec : ChangeSpec := { name := "elderApart", fn := fun _ => fun
  | [d1, d2] => { results := [.lit (.bool true)], args := [d1, d2] }
  | _ => none }
def elderApartRow : OpenClaim := { program := "ytmlodmpkcbncjaa", sum := "441b30576189e11bd83978d25ed13c7b0d544ca5896b88532c5ac39b9b83f3e1", func := "fascicle/fasciclelaw10.ElderApart", spec := "elderApart", unfollowed := true, recurses := true, apart := false }
def ElderApartSaid : Prop := elderApartRow.holds Try.pinned (OpenSpec.ofChange elderApartSpec)

/-- ITS FALSE NEIGHBOUR: 'it returns false'. Refute it at one input. -/
def elderApartWrong : ChangeSpec := { name := "elderApart", fn := fun _ => fun
  | [d1, d2] => { results := [.lit (.bool false)], args := [d1, d2] }
  | _ => none }
def ElderApartWrongFalsely : Prop := elderApartRow.holds Try.pinned (OpenSpec.ofChange elderApartWrong)

/-- 'fasciclelaw10.ElderAll': WHATEVER THE INPUT: true; the input reads as it did. -/
def elderAllSpec : ChangeSpec := { name := "elderAll", fn := fun _ => fun
  | [d] => { results := [.lit (.bool true)], args := [d] }
  | _ => none }
def elderAllRow : OpenClaim := { program := "ytmlodmpkcbncjaa", sum := "441b30576189e11bd83978d25ed13c7b0d544ca5896b88532c5ac39b9b83f3e1", func := "fascicle/fasciclelaw10.ElderAll", spec := "elderAll", unfollowed := true, recurses := true, apart := false }
def ElderAllSaid : Prop := elderAllRow.holds Try.pinned (OpenSpec.ofChange elderAllSpec)

/-- ITS FALSE NEIGHBOUR: 'it returns false'. Refute it at one input. -/
def elderAllWrong : ChangeSpec := { name := "elderAll", fn := fun _ => fun
  | [d] => { results := [.lit (.bool false)], args := [d] }
  | _ => none }
def ElderAllWrongFalsely : Prop := elderAllRow.holds Try.pinned (OpenSpec.ofChange elderAllWrong)

/-- 'fasciclelaw10.ElderRows': WHATEVER THE INPUT: true; the input reads as it did. -/
def elderRowsSpec : ChangeSpec := { name := "elderRows", fn := fun _ => fun
  | [d1, d2] => { results := [.lit (.bool true)], args := [d1, d2] }
  | _ => none }
def elderRowsRow : OpenClaim := { program := "ytmlodmpkcbncjaa", sum := "441b30576189e11bd83978d25ed13c7b0d544ca5896b88532c5ac39b9b83f3e1", func := "fascicle/fasciclelaw10.ElderRows", spec := "elderRows", unfollowed := true, recurses := true, apart := false }
def ElderRowsSaid : Prop := elderRowsRow.holds Try.pinned (OpenSpec.ofChange elderRowsSpec)

/-- ITS FALSE NEIGHBOUR: 'it returns false'. Refute it at one input. -/
def elderRowsWrong : ChangeSpec := { name := "elderRows", fn := fun _ => fun
  | [d1, d2] => { results := [.lit (.bool false)], args := [d1, d2] }
  | _ => none }
def ElderRowsWrongFalsely : Prop := elderRowsRow.holds Try.pinned (OpenSpec.ofChange elderRowsWrong)

/-- 'fasciclelaw07.RecordBodies': WHATEVER THE INPUT: true; the input reads as it did. -/
def recordBodiesSpec : ChangeSpec := { name := "recordBodies", fn := fun _ => fun
  | [d] => { results := [.lit (.bool true)], args := [d] }
  | _ => none }
def recordBodiesRow : OpenClaim := { program := "ytmlodmpkcbncjaa", sum := "441b30576189e11bd83978d25ed13c7b0d544ca5896b88532c5ac39b9b83f3e1", func := "fascicle/fasciclelaw07.RecordBodies", spec := "recordBodies", unfollowed := true, recurses := true, apart := false }
def RecordBodiesSaid : Prop := recordBodiesRow.holds Try.pinned (OpenSpec.ofChange recordBodiesSpec)

/-- ITS FALSE NEIGHBOUR: 'it returns false'. Refute it at one input. -/
def recordBodiesWrong : ChangeSpec := { name := "recordBodies", fn := fun _ => fun
  | [d] => { results := [.lit (.bool false)], args := [d] }
  | _ => none }
def RecordBodiesWrongFalsely : Prop := recordBodiesRow.holds Try.pinned (OpenSpec.ofChange recordBodiesWrong)

/-- 'fasciclelaw07.RecordLong': WHATEVER THE INPUT: true; the input reads as it did. -/
def recordLongSpec : ChangeSpec := { name := "recordLong", fn := fun _ => fun
  | [d1, d2, d3] => { results := [.lit (.bool true)], args := [d1, d2, d3] }
  | _ => none }
def recordLongRow : OpenClaim := { program := "ytmlodmpkcbncjaa", sum := "441b30576189e11bd83978d25ed13c7b0d544ca5896b88532c5ac39b9b83f3e1", func := "fascicle/fasciclelaw07.RecordLong", spec := "recordLong", unfollowed := true, recurses := true, apart := false }
def RecordLongSaid : Prop := recordLongRow.holds Try.pinned (OpenSpec.ofChange recordLongSpec)

/-- ITS FALSE NEIGHBOUR: 'it returns false'. Refute it at one input. -/
def recordLongWrong : ChangeSpec := { name := "recordLong", fn := fun _ => fun
  | [d1, d2, d3] => { results := [.lit (.bool false)], args := [d1, d2, d3] }
  | _ => none }
def RecordLongWrongFalsely : Prop := recordLongRow.holds Try.pinned (OpenSpec.ofChange recordLongWrong)

/- THE SECOND FORM. 'bulk': how many values and letters a reading holds, each counted each time it is reached (what is shared counts as often as it is met; a slice's spare places count too). A statement '..UptoSaid' is the law's where the arguments, and the package variables that the reading takes, are together of bulk at most 1048576: NARROWER than '..Said'. Prove '..Said' where nothing that the law and all that it calls make is longer than what came in: it says more and counts as full. Else prove '..UptoSaid'. A law counts once. -/
mutual
def uptoBulk {H : Type} : DataW H → Nat
  | .lit (.string bytes) => bytes.length + 1
  | .lit _ => 1
  | .nil => 1
  | .ptr d => uptoBulk d + 1
  | .slice elems spare => uptoBulkAll elems + uptoBulkAll spare + 1
  | .agg parts => uptoBulkAll parts + 1
  | .iface _ d => uptoBulk d + 1
  | .map entries => uptoBulkEntries entries + 1
  | .held _ => 1
def uptoBulkAll {H : Type} : List (DataW H) → Nat
  | [] => 0
  | d :: r => uptoBulk d + uptoBulkAll r
def uptoBulkEntries {H : Type} : List (Lit × DataW H) → Nat
  | [] => 0
  | x :: r => uptoBulkEntry x + uptoBulkEntries r
def uptoBulkEntry {H : Type} : Lit × DataW H → Nat
  | (.string bytes, d) => bytes.length + uptoBulk d + 1
  | (_, d) => uptoBulk d + 1
 end
def uptoSmall : (H : Type) → List (DataW H) → Bool := fun _ ds => decide (uptoBulkAll ds ≤ 1048576)
def OpenSpec.upto (s : _root_.Go.ChangeSpec) : _root_.Go.OpenSpec := { _root_.Go.OpenSpec.ofChange s with cond := some uptoSmall }

/-- 'fasciclelaw01.CursorNests', WHERE WHAT IT READS IS OF BULK AT MOST 1048576: true; the input reads as it did. -/
def cursorNestsUptoRow : OpenClaim := { program := "ytmlodmpkcbncjaa", sum := "441b30576189e11bd83978d25ed13c7b0d544ca5896b88532c5ac39b9b83f3e1", func := "fascicle/fasciclelaw01.CursorNests", spec := "cursorNests", unfollowed := true, recurses := true, apart := false, narrowed := true }
def CursorNestsUptoSaid : Prop := cursorNestsUptoRow.holds Try.pinned (OpenSpec.upto cursorNestsSpec)

/-- 'fasciclelaw01.CursorDead', WHERE WHAT IT READS IS OF BULK AT MOST 1048576: true; the input reads as it did. -/
def cursorDeadUptoRow : OpenClaim := { program := "ytmlodmpkcbncjaa", sum := "441b30576189e11bd83978d25ed13c7b0d544ca5896b88532c5ac39b9b83f3e1", func := "fascicle/fasciclelaw01.CursorDead", spec := "cursorDead", unfollowed := true, recurses := true, apart := false, narrowed := true }
def CursorDeadUptoSaid : Prop := cursorDeadUptoRow.holds Try.pinned (OpenSpec.upto cursorDeadSpec)

/-- 'fasciclelaw07.RecordRises', WHERE WHAT IT READS IS OF BULK AT MOST 1048576: true; the input reads as it did. -/
def recordRisesUptoRow : OpenClaim := { program := "ytmlodmpkcbncjaa", sum := "441b30576189e11bd83978d25ed13c7b0d544ca5896b88532c5ac39b9b83f3e1", func := "fascicle/fasciclelaw07.RecordRises", spec := "recordRises", apart := false, narrowed := true }
def RecordRisesUptoSaid : Prop := recordRisesUptoRow.holds Try.pinned (OpenSpec.upto recordRisesSpec)

/-- 'fasciclelaw01.CursorBack', WHERE WHAT IT READS IS OF BULK AT MOST 1048576: true; the input reads as it did. -/
def cursorBackUptoRow : OpenClaim := { program := "ytmlodmpkcbncjaa", sum := "441b30576189e11bd83978d25ed13c7b0d544ca5896b88532c5ac39b9b83f3e1", func := "fascicle/fasciclelaw01.CursorBack", spec := "cursorBack", unfollowed := true, recurses := true, apart := false, narrowed := true }
def CursorBackUptoSaid : Prop := cursorBackUptoRow.holds Try.pinned (OpenSpec.upto cursorBackSpec)

/-- 'fasciclelaw10.ElderPuts', WHERE WHAT IT READS IS OF BULK AT MOST 1048576: true; the input reads as it did. -/
def elderPutsUptoRow : OpenClaim := { program := "ytmlodmpkcbncjaa", sum := "441b30576189e11bd83978d25ed13c7b0d544ca5896b88532c5ac39b9b83f3e1", func := "fascicle/fasciclelaw10.ElderPuts", spec := "elderPuts", unfollowed := true, recurses := true, apart := false, narrowed := true }
def ElderPutsUptoSaid : Prop := elderPutsUptoRow.holds Try.pinned (OpenSpec.upto elderPutsSpec)

/-- 'fasciclelaw10.ElderGets', WHERE WHAT IT READS IS OF BULK AT MOST 1048576: true; the input reads as it did. -/
def elderGetsUptoRow : OpenClaim := { program := "ytmlodmpkcbncjaa", sum := "441b30576189e11bd83978d25ed13c7b0d544ca5896b88532c5ac39b9b83f3e1", func := "fascicle/fasciclelaw10.ElderGets", spec := "elderGets", unfollowed := true, recurses := true, apart := false, narrowed := true }
def ElderGetsUptoSaid : Prop := elderGetsUptoRow.holds Try.pinned (OpenSpec.upto elderGetsSpec)

/-- 'fasciclelaw07.RecordReads', WHERE WHAT IT READS IS OF BULK AT MOST 1048576: true; the input reads as it did. -/
def recordReadsUptoRow : OpenClaim := { program := "ytmlodmpkcbncjaa", sum := "441b30576189e11bd83978d25ed13c7b0d544ca5896b88532c5ac39b9b83f3e1", func := "fascicle/fasciclelaw07.RecordReads", spec := "recordReads", unfollowed := true, recurses := true, apart := false, narrowed := true }
def RecordReadsUptoSaid : Prop := recordReadsUptoRow.holds Try.pinned (OpenSpec.upto recordReadsSpec)

/-- 'fasciclelaw10.ElderApart', WHERE WHAT IT READS IS OF BULK AT MOST 1048576: true; the input reads as it did. -/
def elderApartUptoRow : OpenClaim := { program := "ytmlodmpkcbncjaa", sum := "441b30576189e11bd83978d25ed13c7b0d544ca5896b88532c5ac39b9b83f3e1", func := "fascicle/fasciclelaw10.ElderApart", spec := "elderApart", unfollowed := true, recurses := true, apart := false, narrowed := true }
def ElderApartUptoSaid : Prop := elderApartUptoRow.holds Try.pinned (OpenSpec.upto elderApartSpec)

/-- 'fasciclelaw10.ElderAll', WHERE WHAT IT READS IS OF BULK AT MOST 1048576: true; the input reads as it did. -/
def elderAllUptoRow : OpenClaim := { program := "ytmlodmpkcbncjaa", sum := "441b30576189e11bd83978d25ed13c7b0d544ca5896b88532c5ac39b9b83f3e1", func := "fascicle/fasciclelaw10.ElderAll", spec := "elderAll", unfollowed := true, recurses := true, apart := false, narrowed := true }
def ElderAllUptoSaid : Prop := elderAllUptoRow.holds Try.pinned (OpenSpec.upto elderAllSpec)

/-- 'fasciclelaw10.ElderRows', WHERE WHAT IT READS IS OF BULK AT MOST 1048576: true; the input reads as it did. -/
def elderRowsUptoRow : OpenClaim := { program := "ytmlodmpkcbncjaa", sum := "441b30576189e11bd83978d25ed13c7b0d544ca5896b88532c5ac39b9b83f3e1", func := "fascicle/fasciclelaw10.ElderRows", spec := "elderRows", unfollowed := true, recurses := true, apart := false, narrowed := true }
def ElderRowsUptoSaid : Prop := elderRowsUptoRow.holds Try.pinned (OpenSpec.upto elderRowsSpec)

/-- 'fasciclelaw07.RecordBodies', WHERE WHAT IT READS IS OF BULK AT MOST 1048576: true; the input reads as it did. -/
def recordBodiesUptoRow : OpenClaim := { program := "ytmlodmpkcbncjaa", sum := "441b30576189e11bd83978d25ed13c7b0d544ca5896b88532c5ac39b9b83f3e1", func := "fascicle/fasciclelaw07.RecordBodies", spec := "recordBodies", unfollowed := true, recurses := true, apart := false, narrowed := true }
def RecordBodiesUptoSaid : Prop := recordBodiesUptoRow.holds Try.pinned (OpenSpec.upto recordBodiesSpec)

/-- 'fasciclelaw07.RecordLong', WHERE WHAT IT READS IS OF BULK AT MOST 1048576: true; the input reads as it did. -/
def recordLongUptoRow : OpenClaim := { program := "ytmlodmpkcbncjaa", sum := "441b30576189e11bd83978d25ed13c7b0d544ca5896b88532c5ac39b9b83f3e1", func := "fascicle/fasciclelaw07.RecordLong", spec := "recordLong", unfollowed := true, recurses := true, apart := false, narrowed := true }
def RecordLongUptoSaid : Prop := recordLongUptoRow.holds Try.pinned (OpenSpec.upto recordLongSpec)

end Rows
end Go.Proofs.Ytmlodmpkcbncjaa
