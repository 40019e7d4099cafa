/-
  No cell of these rows narrows 'for every input' (looked for: loops, veiled, ifaces, maps, wideKeys, modest, calm, conditions, laid).
  DERIVED. THE GIVEN ROWS OF THIS SEAT. 9 by the template 'for every input the law returns true; each argument reads behind the call as it read before'; 0 by the template 'total and deterministic' (their statements: YtfeaalfajcdalaaTotals.lean).
  GIVEN WITH THE SEED: the statements are not yours to turn. If you find one false, say at which input.
  Laid BY PROGRAM, IN A SANDBOX (cutbox-rows.mjs): the forced cells as the released guide's own fill.sh prints them over the translation ddfeb81eb31f5c97… (all of the seat's roots in one cut). By AI agents, Wed Nov 11 2026. No macro, syntax, notation, axiom, sorry.
-/
import Derived.Test.YtfeaalfajcdalaaChecked
import GoSem.Claim
import GoSem.ClaimJoined
import GoSem.ClaimMapViews
import Derived.JoinedTies
import Derived.KernelRfl
namespace Go.Proofs.Ytfeaalfajcdalaa
/- THE CELL 'sum', in the pinned program and in every row, IS THE sha256 OF THE DUMP (.gsa) THAT YtfeaalfajcdalaaProg.lean LOADS. Nothing in Lean hashes anything: it is a label: what it is worth is what the hold of that sum in a sandbox is worth. -/
noncomputable def Try.pinned : Pinned := { name := "ytfeaalfajcdalaa", sum := "ddfeb81eb31f5c97d8c77dc6ca97f53e92478d09dcab5d1d31a8c2229795d798", checked := Try.checked }
namespace Rows
def none {H : Type} : Left H := { results := [], args := [] }

/-- 'fasciclelaw08.ConfigCounts': WHATEVER THE INPUT: true; the input reads as it did. -/
def configCountsSpec : ChangeSpec := { name := "configCounts", fn := fun _ => fun
  | [d1, d2] => { results := [.lit (.bool true)], args := [d1, d2] }
  | _ => none }
def configCountsRow : OpenClaim := { program := "ytfeaalfajcdalaa", sum := "ddfeb81eb31f5c97d8c77dc6ca97f53e92478d09dcab5d1d31a8c2229795d798", func := "fascicle/fasciclelaw08.ConfigCounts", spec := "configCounts", apart := false }
def ConfigCountsSaid : Prop := configCountsRow.holds Try.pinned (OpenSpec.ofChange configCountsSpec)

/-- ITS FALSE NEIGHBOUR: 'it returns false'. Refute it at one input. -/
def configCountsWrong : ChangeSpec := { name := "configCounts", fn := fun _ => fun
  | [d1, d2] => { results := [.lit (.bool false)], args := [d1, d2] }
  | _ => none }
def ConfigCountsWrongFalsely : Prop := configCountsRow.holds Try.pinned (OpenSpec.ofChange configCountsWrong)

/-- 'fasciclelaw08.ConfigBounds': WHATEVER THE INPUT: true; the input reads as it did. -/
def configBoundsSpec : ChangeSpec := { name := "configBounds", fn := fun _ => fun
  | [d1, d2, d3] => { results := [.lit (.bool true)], args := [d1, d2, d3] }
  | _ => none }
def configBoundsRow : OpenClaim := { program := "ytfeaalfajcdalaa", sum := "ddfeb81eb31f5c97d8c77dc6ca97f53e92478d09dcab5d1d31a8c2229795d798", func := "fascicle/fasciclelaw08.ConfigBounds", spec := "configBounds", apart := false }
def ConfigBoundsSaid : Prop := configBoundsRow.holds Try.pinned (OpenSpec.ofChange configBoundsSpec)

/-- ITS FALSE NEIGHBOUR: 'it returns false'. Refute it at one input. -/
def configBoundsWrong : ChangeSpec := { name := "configBounds", fn := fun _ => fun
  | [d1, d2, d3] => { results := [.lit (.bool false)], args := [d1, d2, d3] }
  | _ => none }
def ConfigBoundsWrongFalsely : Prop := configBoundsRow.holds Try.pinned (OpenSpec.ofChange configBoundsWrong)

/-- 'fasciclelaw03.ThinSums': WHATEVER THE INPUT: true; the input reads as it did. -/
def thinSumsSpec : ChangeSpec := { name := "thinSums", fn := fun _ => fun
  | [d1, d2] => { results := [.lit (.bool true)], args := [d1, d2] }
  | _ => none }
def thinSumsRow : OpenClaim := { program := "ytfeaalfajcdalaa", sum := "ddfeb81eb31f5c97d8c77dc6ca97f53e92478d09dcab5d1d31a8c2229795d798", func := "fascicle/fasciclelaw03.ThinSums", spec := "thinSums", apart := false }
def ThinSumsSaid : Prop := thinSumsRow.holds Try.pinned (OpenSpec.ofChange thinSumsSpec)

/-- ITS FALSE NEIGHBOUR: 'it returns false'. Refute it at one input. -/
def thinSumsWrong : ChangeSpec := { name := "thinSums", fn := fun _ => fun
  | [d1, d2] => { results := [.lit (.bool false)], args := [d1, d2] }
  | _ => none }
def ThinSumsWrongFalsely : Prop := thinSumsRow.holds Try.pinned (OpenSpec.ofChange thinSumsWrong)

/-- 'fasciclelaw03.ThinTails': WHATEVER THE INPUT: true; the input reads as it did. -/
def thinTailsSpec : ChangeSpec := { name := "thinTails", fn := fun _ => fun
  | [d1, d2, d3] => { results := [.lit (.bool true)], args := [d1, d2, d3] }
  | _ => none }
def thinTailsRow : OpenClaim := { program := "ytfeaalfajcdalaa", sum := "ddfeb81eb31f5c97d8c77dc6ca97f53e92478d09dcab5d1d31a8c2229795d798", func := "fascicle/fasciclelaw03.ThinTails", spec := "thinTails", apart := false }
def ThinTailsSaid : Prop := thinTailsRow.holds Try.pinned (OpenSpec.ofChange thinTailsSpec)

/-- ITS FALSE NEIGHBOUR: 'it returns false'. Refute it at one input. -/
def thinTailsWrong : ChangeSpec := { name := "thinTails", fn := fun _ => fun
  | [d1, d2, d3] => { results := [.lit (.bool false)], args := [d1, d2, d3] }
  | _ => none }
def ThinTailsWrongFalsely : Prop := thinTailsRow.holds Try.pinned (OpenSpec.ofChange thinTailsWrong)

/-- 'fasciclelaw03.ThinChecks': WHATEVER THE INPUT: true; the input reads as it did. -/
def thinChecksSpec : ChangeSpec := { name := "thinChecks", fn := fun _ => fun
  | [d1, d2, d3] => { results := [.lit (.bool true)], args := [d1, d2, d3] }
  | _ => none }
def thinChecksRow : OpenClaim := { program := "ytfeaalfajcdalaa", sum := "ddfeb81eb31f5c97d8c77dc6ca97f53e92478d09dcab5d1d31a8c2229795d798", func := "fascicle/fasciclelaw03.ThinChecks", spec := "thinChecks", apart := false }
def ThinChecksSaid : Prop := thinChecksRow.holds Try.pinned (OpenSpec.ofChange thinChecksSpec)

/-- ITS FALSE NEIGHBOUR: 'it returns false'. Refute it at one input. -/
def thinChecksWrong : ChangeSpec := { name := "thinChecks", fn := fun _ => fun
  | [d1, d2, d3] => { results := [.lit (.bool false)], args := [d1, d2, d3] }
  | _ => none }
def ThinChecksWrongFalsely : Prop := thinChecksRow.holds Try.pinned (OpenSpec.ofChange thinChecksWrong)

/-- 'fasciclelaw08.ConfigWhere': WHATEVER THE INPUT: true; the input reads as it did. -/
def configWhereSpec : ChangeSpec := { name := "configWhere", fn := fun _ => fun
  | [d1, d2, d3, d4] => { results := [.lit (.bool true)], args := [d1, d2, d3, d4] }
  | _ => none }
def configWhereRow : OpenClaim := { program := "ytfeaalfajcdalaa", sum := "ddfeb81eb31f5c97d8c77dc6ca97f53e92478d09dcab5d1d31a8c2229795d798", func := "fascicle/fasciclelaw08.ConfigWhere", spec := "configWhere", apart := false }
def ConfigWhereSaid : Prop := configWhereRow.holds Try.pinned (OpenSpec.ofChange configWhereSpec)

/-- ITS FALSE NEIGHBOUR: 'it returns false'. Refute it at one input. -/
def configWhereWrong : ChangeSpec := { name := "configWhere", fn := fun _ => fun
  | [d1, d2, d3, d4] => { results := [.lit (.bool false)], args := [d1, d2, d3, d4] }
  | _ => none }
def ConfigWhereWrongFalsely : Prop := configWhereRow.holds Try.pinned (OpenSpec.ofChange configWhereWrong)

/-- 'fasciclelaw04.WideSums': WHATEVER THE INPUT: true; the input reads as it did. -/
def wideSumsSpec : ChangeSpec := { name := "wideSums", fn := fun _ => fun
  | [d1, d2] => { results := [.lit (.bool true)], args := [d1, d2] }
  | _ => none }
def wideSumsRow : OpenClaim := { program := "ytfeaalfajcdalaa", sum := "ddfeb81eb31f5c97d8c77dc6ca97f53e92478d09dcab5d1d31a8c2229795d798", func := "fascicle/fasciclelaw04.WideSums", spec := "wideSums", apart := false }
def WideSumsSaid : Prop := wideSumsRow.holds Try.pinned (OpenSpec.ofChange wideSumsSpec)

/-- ITS FALSE NEIGHBOUR: 'it returns false'. Refute it at one input. -/
def wideSumsWrong : ChangeSpec := { name := "wideSums", fn := fun _ => fun
  | [d1, d2] => { results := [.lit (.bool false)], args := [d1, d2] }
  | _ => none }
def WideSumsWrongFalsely : Prop := wideSumsRow.holds Try.pinned (OpenSpec.ofChange wideSumsWrong)

/-- 'fasciclelaw04.WideTails': WHATEVER THE INPUT: true; the input reads as it did. -/
def wideTailsSpec : ChangeSpec := { name := "wideTails", fn := fun _ => fun
  | [d1, d2, d3] => { results := [.lit (.bool true)], args := [d1, d2, d3] }
  | _ => none }
def wideTailsRow : OpenClaim := { program := "ytfeaalfajcdalaa", sum := "ddfeb81eb31f5c97d8c77dc6ca97f53e92478d09dcab5d1d31a8c2229795d798", func := "fascicle/fasciclelaw04.WideTails", spec := "wideTails", apart := false }
def WideTailsSaid : Prop := wideTailsRow.holds Try.pinned (OpenSpec.ofChange wideTailsSpec)

/-- ITS FALSE NEIGHBOUR: 'it returns false'. Refute it at one input. -/
def wideTailsWrong : ChangeSpec := { name := "wideTails", fn := fun _ => fun
  | [d1, d2, d3] => { results := [.lit (.bool false)], args := [d1, d2, d3] }
  | _ => none }
def WideTailsWrongFalsely : Prop := wideTailsRow.holds Try.pinned (OpenSpec.ofChange wideTailsWrong)

/-- 'fasciclelaw04.WideParts': WHATEVER THE INPUT: true; the input reads as it did. -/
def widePartsSpec : ChangeSpec := { name := "wideParts", fn := fun _ => fun
  | [d1, d2] => { results := [.lit (.bool true)], args := [d1, d2] }
  | _ => none }
def widePartsRow : OpenClaim := { program := "ytfeaalfajcdalaa", sum := "ddfeb81eb31f5c97d8c77dc6ca97f53e92478d09dcab5d1d31a8c2229795d798", func := "fascicle/fasciclelaw04.WideParts", spec := "wideParts", apart := false }
def WidePartsSaid : Prop := widePartsRow.holds Try.pinned (OpenSpec.ofChange widePartsSpec)

/-- ITS FALSE NEIGHBOUR: 'it returns false'. Refute it at one input. -/
def widePartsWrong : ChangeSpec := { name := "wideParts", fn := fun _ => fun
  | [d1, d2] => { results := [.lit (.bool false)], args := [d1, d2] }
  | _ => none }
def WidePartsWrongFalsely : Prop := widePartsRow.holds Try.pinned (OpenSpec.ofChange widePartsWrong)

/- THE SECOND FORM. 'bulk': how many values and letters a reading holds, each counted each time it is reached (what is shared counts as often as it is met; a slice's spare places count too). A statement '..UptoSaid' is the law's where the arguments, and the package variables that the reading takes, are together of bulk at most 1048576: NARROWER than '..Said'. Prove '..Said' where nothing that the law and all that it calls make is longer than what came in: it says more and counts as full. Else prove '..UptoSaid'. A law counts once. -/
mutual
def uptoBulk {H : Type} : DataW H → Nat
  | .lit (.string bytes) => bytes.length + 1
  | .lit _ => 1
  | .nil => 1
  | .ptr d => uptoBulk d + 1
  | .slice elems spare => uptoBulkAll elems + uptoBulkAll spare + 1
  | .agg parts => uptoBulkAll parts + 1
  | .iface _ d => uptoBulk d + 1
  | .map entries => uptoBulkEntries entries + 1
  | .held _ => 1
def uptoBulkAll {H : Type} : List (DataW H) → Nat
  | [] => 0
  | d :: r => uptoBulk d + uptoBulkAll r
def uptoBulkEntries {H : Type} : List (Lit × DataW H) → Nat
  | [] => 0
  | x :: r => uptoBulkEntry x + uptoBulkEntries r
def uptoBulkEntry {H : Type} : Lit × DataW H → Nat
  | (.string bytes, d) => bytes.length + uptoBulk d + 1
  | (_, d) => uptoBulk d + 1
 end
def uptoSmall : (H : Type) → List (DataW H) → Bool := fun _ ds => decide (uptoBulkAll ds ≤ 1048576)
def OpenSpec.upto (s : _root_.Go.ChangeSpec) : _root_.Go.OpenSpec := { _root_.Go.OpenSpec.ofChange s with cond := some uptoSmall }

/-- 'fasciclelaw08.ConfigCounts', WHERE WHAT IT READS IS OF BULK AT MOST 1048576: true; the input reads as it did. -/
def configCountsUptoRow : OpenClaim := { program := "ytfeaalfajcdalaa", sum := "ddfeb81eb31f5c97d8c77dc6ca97f53e92478d09dcab5d1d31a8c2229795d798", func := "fascicle/fasciclelaw08.ConfigCounts", spec := "configCounts", apart := false, narrowed := true }
def ConfigCountsUptoSaid : Prop := configCountsUptoRow.holds Try.pinned (OpenSpec.upto configCountsSpec)

/-- 'fasciclelaw08.ConfigBounds', WHERE WHAT IT READS IS OF BULK AT MOST 1048576: true; the input reads as it did. -/
def configBoundsUptoRow : OpenClaim := { program := "ytfeaalfajcdalaa", sum := "ddfeb81eb31f5c97d8c77dc6ca97f53e92478d09dcab5d1d31a8c2229795d798", func := "fascicle/fasciclelaw08.ConfigBounds", spec := "configBounds", apart := false, narrowed := true }
def ConfigBoundsUptoSaid : Prop := configBoundsUptoRow.holds Try.pinned (OpenSpec.upto configBoundsSpec)

/-- 'fasciclelaw03.ThinSums', WHERE WHAT IT READS IS OF BULK AT MOST 1048576: true; the input reads as it did. -/
def thinSumsUptoRow : OpenClaim := { program := "ytfeaalfajcdalaa", sum := "ddfeb81eb31f5c97d8c77dc6ca97f53e92478d09dcab5d1d31a8c2229795d798", func := "fascicle/fasciclelaw03.ThinSums", spec := "thinSums", apart := false, narrowed := true }
def ThinSumsUptoSaid : Prop := thinSumsUptoRow.holds Try.pinned (OpenSpec.upto thinSumsSpec)

/-- 'fasciclelaw03.ThinTails', WHERE WHAT IT READS IS OF BULK AT MOST 1048576: true; the input reads as it did. -/
def thinTailsUptoRow : OpenClaim := { program := "ytfeaalfajcdalaa", sum := "ddfeb81eb31f5c97d8c77dc6ca97f53e92478d09dcab5d1d31a8c2229795d798", func := "fascicle/fasciclelaw03.ThinTails", spec := "thinTails", apart := false, narrowed := true }
def ThinTailsUptoSaid : Prop := thinTailsUptoRow.holds Try.pinned (OpenSpec.upto thinTailsSpec)

/-- 'fasciclelaw03.ThinChecks', WHERE WHAT IT READS IS OF BULK AT MOST 1048576: true; the input reads as it did. -/
def thinChecksUptoRow : OpenClaim := { program := "ytfeaalfajcdalaa", sum := "ddfeb81eb31f5c97d8c77dc6ca97f53e92478d09dcab5d1d31a8c2229795d798", func := "fascicle/fasciclelaw03.ThinChecks", spec := "thinChecks", apart := false, narrowed := true }
def ThinChecksUptoSaid : Prop := thinChecksUptoRow.holds Try.pinned (OpenSpec.upto thinChecksSpec)

/-- 'fasciclelaw08.ConfigWhere', WHERE WHAT IT READS IS OF BULK AT MOST 1048576: true; the input reads as it did. -/
def configWhereUptoRow : OpenClaim := { program := "ytfeaalfajcdalaa", sum := "ddfeb81eb31f5c97d8c77dc6ca97f53e92478d09dcab5d1d31a8c2229795d798", func := "fascicle/fasciclelaw08.ConfigWhere", spec := "configWhere", apart := false, narrowed := true }
def ConfigWhereUptoSaid : Prop := configWhereUptoRow.holds Try.pinned (OpenSpec.upto configWhereSpec)

/-- 'fasciclelaw04.WideSums', WHERE WHAT IT READS IS OF BULK AT MOST 1048576: true; the input reads as it did. -/
def wideSumsUptoRow : OpenClaim := { program := "ytfeaalfajcdalaa", sum := "ddfeb81eb31f5c97d8c77dc6ca97f53e92478d09dcab5d1d31a8c2229795d798", func := "fascicle/fasciclelaw04.WideSums", spec := "wideSums", apart := false, narrowed := true }
def WideSumsUptoSaid : Prop := wideSumsUptoRow.holds Try.pinned (OpenSpec.upto wideSumsSpec)

/-- 'fasciclelaw04.WideTails', WHERE WHAT IT READS IS OF BULK AT MOST 1048576: true; the input reads as it did. -/
def wideTailsUptoRow : OpenClaim := { program := "ytfeaalfajcdalaa", sum := "ddfeb81eb31f5c97d8c77dc6ca97f53e92478d09dcab5d1d31a8c2229795d798", func := "fascicle/fasciclelaw04.WideTails", spec := "wideTails", apart := false, narrowed := true }
def WideTailsUptoSaid : Prop := wideTailsUptoRow.holds Try.pinned (OpenSpec.upto wideTailsSpec)

/-- 'fasciclelaw04.WideParts', WHERE WHAT IT READS IS OF BULK AT MOST 1048576: true; the input reads as it did. -/
def widePartsUptoRow : OpenClaim := { program := "ytfeaalfajcdalaa", sum := "ddfeb81eb31f5c97d8c77dc6ca97f53e92478d09dcab5d1d31a8c2229795d798", func := "fascicle/fasciclelaw04.WideParts", spec := "wideParts", apart := false, narrowed := true }
def WidePartsUptoSaid : Prop := widePartsUptoRow.holds Try.pinned (OpenSpec.upto widePartsSpec)

end Rows
end Go.Proofs.Ytfeaalfajcdalaa
