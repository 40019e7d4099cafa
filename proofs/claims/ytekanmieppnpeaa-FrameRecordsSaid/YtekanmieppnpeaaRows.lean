/-
  No cell of these rows narrows 'for every input' (looked for: loops, veiled, ifaces, maps, wideKeys, modest, calm, conditions, laid).
  DERIVED. THE GIVEN ROWS OF THIS SEAT. 10 by the template 'for every input the law returns true; each argument reads behind the call as it read before'; 0 by the template 'total and deterministic' (their statements: YtekanmieppnpeaaTotals.lean).
  GIVEN WITH THE SEED: the statements are not yours to turn. If you find one false, say at which input.
  Laid BY PROGRAM, IN A SANDBOX (cutbox-rows.mjs): the forced cells as the released guide's own fill.sh prints them over the translation a8e9c506abf8a0c1… (all of the seat's roots in one cut). By AI agents, Wed Nov 11 2026. No macro, syntax, notation, axiom, sorry.
-/
import Derived.Test.YtekanmieppnpeaaChecked
import GoSem.Claim
import GoSem.ClaimJoined
import GoSem.ClaimMapViews
import Derived.JoinedTies
import Derived.KernelRfl
namespace Go.Proofs.Ytekanmieppnpeaa
/- THE CELL 'sum', in the pinned program and in every row, IS THE sha256 OF THE DUMP (.gsa) THAT YtekanmieppnpeaaProg.lean LOADS. Nothing in Lean hashes anything: it is a label: what it is worth is what the hold of that sum in a sandbox is worth. -/
noncomputable def Try.pinned : Pinned := { name := "ytekanmieppnpeaa", sum := "a8e9c506abf8a0c12fc4b11d87bf5e09e3b321e59906daf2024ad09dee097a1d", checked := Try.checked }
namespace Rows
def none {H : Type} : Left H := { results := [], args := [] }

/-- 'fasciclelaw13.FooterMost': WHATEVER THE INPUT: true; the input reads as it did. -/
def footerMostSpec : ChangeSpec := { name := "footerMost", fn := fun _ => fun
  | [d] => { results := [.lit (.bool true)], args := [d] }
  | _ => none }
def footerMostRow : OpenClaim := { program := "ytekanmieppnpeaa", sum := "a8e9c506abf8a0c12fc4b11d87bf5e09e3b321e59906daf2024ad09dee097a1d", func := "fascicle/fasciclelaw13.FooterMost", spec := "footerMost", apart := false }
def FooterMostSaid : Prop := footerMostRow.holds Try.pinned (OpenSpec.ofChange footerMostSpec)

/-- ITS FALSE NEIGHBOUR: 'it returns false'. Refute it at one input. -/
def footerMostWrong : ChangeSpec := { name := "footerMost", fn := fun _ => fun
  | [d] => { results := [.lit (.bool false)], args := [d] }
  | _ => none }
def FooterMostWrongFalsely : Prop := footerMostRow.holds Try.pinned (OpenSpec.ofChange footerMostWrong)

/-- 'fasciclelaw13.FooterPlaces': WHATEVER THE INPUT: true; the input reads as it did. -/
def footerPlacesSpec : ChangeSpec := { name := "footerPlaces", fn := fun _ => fun
  | [d1, d2] => { results := [.lit (.bool true)], args := [d1, d2] }
  | _ => none }
def footerPlacesRow : OpenClaim := { program := "ytekanmieppnpeaa", sum := "a8e9c506abf8a0c12fc4b11d87bf5e09e3b321e59906daf2024ad09dee097a1d", func := "fascicle/fasciclelaw13.FooterPlaces", spec := "footerPlaces", unfollowed := true, recurses := true, apart := false }
def FooterPlacesSaid : Prop := footerPlacesRow.holds Try.pinned (OpenSpec.ofChange footerPlacesSpec)

/-- ITS FALSE NEIGHBOUR: 'it returns false'. Refute it at one input. -/
def footerPlacesWrong : ChangeSpec := { name := "footerPlaces", fn := fun _ => fun
  | [d1, d2] => { results := [.lit (.bool false)], args := [d1, d2] }
  | _ => none }
def FooterPlacesWrongFalsely : Prop := footerPlacesRow.holds Try.pinned (OpenSpec.ofChange footerPlacesWrong)

/-- 'fasciclelaw09.FrameOpens': WHATEVER THE INPUT: true; the input reads as it did. -/
def frameOpensSpec : ChangeSpec := { name := "frameOpens", fn := fun _ => fun
  | [d] => { results := [.lit (.bool true)], args := [d] }
  | _ => none }
def frameOpensRow : OpenClaim := { program := "ytekanmieppnpeaa", sum := "a8e9c506abf8a0c12fc4b11d87bf5e09e3b321e59906daf2024ad09dee097a1d", func := "fascicle/fasciclelaw09.FrameOpens", spec := "frameOpens", inPlace := ["internal/bytealg.IndexByte"], unfollowed := true, recurses := true, apart := false }
def FrameOpensSaid : Prop := frameOpensRow.holds Try.pinned (OpenSpec.ofChange frameOpensSpec)

/-- ITS FALSE NEIGHBOUR: 'it returns false'. Refute it at one input. -/
def frameOpensWrong : ChangeSpec := { name := "frameOpens", fn := fun _ => fun
  | [d] => { results := [.lit (.bool false)], args := [d] }
  | _ => none }
def FrameOpensWrongFalsely : Prop := frameOpensRow.holds Try.pinned (OpenSpec.ofChange frameOpensWrong)

/-- 'fasciclelaw09.FrameSpoilt': WHATEVER THE INPUT: true; the input reads as it did. -/
def frameSpoiltSpec : ChangeSpec := { name := "frameSpoilt", fn := fun _ => fun
  | [d1, d2, d3] => { results := [.lit (.bool true)], args := [d1, d2, d3] }
  | _ => none }
def frameSpoiltRow : OpenClaim := { program := "ytekanmieppnpeaa", sum := "a8e9c506abf8a0c12fc4b11d87bf5e09e3b321e59906daf2024ad09dee097a1d", func := "fascicle/fasciclelaw09.FrameSpoilt", spec := "frameSpoilt", inPlace := ["internal/bytealg.IndexByte"], unfollowed := true, recurses := true, apart := false }
def FrameSpoiltSaid : Prop := frameSpoiltRow.holds Try.pinned (OpenSpec.ofChange frameSpoiltSpec)

/-- ITS FALSE NEIGHBOUR: 'it returns false'. Refute it at one input. -/
def frameSpoiltWrong : ChangeSpec := { name := "frameSpoilt", fn := fun _ => fun
  | [d1, d2, d3] => { results := [.lit (.bool false)], args := [d1, d2, d3] }
  | _ => none }
def FrameSpoiltWrongFalsely : Prop := frameSpoiltRow.holds Try.pinned (OpenSpec.ofChange frameSpoiltWrong)

/-- 'fasciclelaw09.FrameSeals': WHATEVER THE INPUT: true; the input reads as it did. -/
def frameSealsSpec : ChangeSpec := { name := "frameSeals", fn := fun _ => fun
  | [d] => { results := [.lit (.bool true)], args := [d] }
  | _ => none }
def frameSealsRow : OpenClaim := { program := "ytekanmieppnpeaa", sum := "a8e9c506abf8a0c12fc4b11d87bf5e09e3b321e59906daf2024ad09dee097a1d", func := "fascicle/fasciclelaw09.FrameSeals", spec := "frameSeals", inPlace := ["internal/bytealg.IndexByte"], unfollowed := true, recurses := true, apart := false }
def FrameSealsSaid : Prop := frameSealsRow.holds Try.pinned (OpenSpec.ofChange frameSealsSpec)

/-- ITS FALSE NEIGHBOUR: 'it returns false'. Refute it at one input. -/
def frameSealsWrong : ChangeSpec := { name := "frameSeals", fn := fun _ => fun
  | [d] => { results := [.lit (.bool false)], args := [d] }
  | _ => none }
def FrameSealsWrongFalsely : Prop := frameSealsRow.holds Try.pinned (OpenSpec.ofChange frameSealsWrong)

/-- 'fasciclelaw09.FrameHeads': WHATEVER THE INPUT: true; the input reads as it did. -/
def frameHeadsSpec : ChangeSpec := { name := "frameHeads", fn := fun _ => fun
  | [d1, d2, d3] => { results := [.lit (.bool true)], args := [d1, d2, d3] }
  | _ => none }
def frameHeadsRow : OpenClaim := { program := "ytekanmieppnpeaa", sum := "a8e9c506abf8a0c12fc4b11d87bf5e09e3b321e59906daf2024ad09dee097a1d", func := "fascicle/fasciclelaw09.FrameHeads", spec := "frameHeads", inPlace := ["internal/bytealg.IndexByte"], unfollowed := true, recurses := true, apart := false }
def FrameHeadsSaid : Prop := frameHeadsRow.holds Try.pinned (OpenSpec.ofChange frameHeadsSpec)

/-- ITS FALSE NEIGHBOUR: 'it returns false'. Refute it at one input. -/
def frameHeadsWrong : ChangeSpec := { name := "frameHeads", fn := fun _ => fun
  | [d1, d2, d3] => { results := [.lit (.bool false)], args := [d1, d2, d3] }
  | _ => none }
def FrameHeadsWrongFalsely : Prop := frameHeadsRow.holds Try.pinned (OpenSpec.ofChange frameHeadsWrong)

/-- 'fasciclelaw09.FrameRecords': WHATEVER THE INPUT: true; the input reads as it did. -/
def frameRecordsSpec : ChangeSpec := { name := "frameRecords", fn := fun _ => fun
  | [d1, d2] => { results := [.lit (.bool true)], args := [d1, d2] }
  | _ => none }
def frameRecordsRow : OpenClaim := { program := "ytekanmieppnpeaa", sum := "a8e9c506abf8a0c12fc4b11d87bf5e09e3b321e59906daf2024ad09dee097a1d", func := "fascicle/fasciclelaw09.FrameRecords", spec := "frameRecords", inPlace := ["internal/bytealg.IndexByte"], unfollowed := true, recurses := true, apart := false }
def FrameRecordsSaid : Prop := frameRecordsRow.holds Try.pinned (OpenSpec.ofChange frameRecordsSpec)

/-- ITS FALSE NEIGHBOUR: 'it returns false'. Refute it at one input. -/
def frameRecordsWrong : ChangeSpec := { name := "frameRecords", fn := fun _ => fun
  | [d1, d2] => { results := [.lit (.bool false)], args := [d1, d2] }
  | _ => none }
def FrameRecordsWrongFalsely : Prop := frameRecordsRow.holds Try.pinned (OpenSpec.ofChange frameRecordsWrong)

/-- 'fasciclelaw13.FooterGets': WHATEVER THE INPUT: true; the input reads as it did. -/
def footerGetsSpec : ChangeSpec := { name := "footerGets", fn := fun _ => fun
  | [d] => { results := [.lit (.bool true)], args := [d] }
  | _ => none }
def footerGetsRow : OpenClaim := { program := "ytekanmieppnpeaa", sum := "a8e9c506abf8a0c12fc4b11d87bf5e09e3b321e59906daf2024ad09dee097a1d", func := "fascicle/fasciclelaw13.FooterGets", spec := "footerGets", inPlace := ["internal/bytealg.IndexByte"], unfollowed := true, recurses := true, apart := false }
def FooterGetsSaid : Prop := footerGetsRow.holds Try.pinned (OpenSpec.ofChange footerGetsSpec)

/-- ITS FALSE NEIGHBOUR: 'it returns false'. Refute it at one input. -/
def footerGetsWrong : ChangeSpec := { name := "footerGets", fn := fun _ => fun
  | [d] => { results := [.lit (.bool false)], args := [d] }
  | _ => none }
def FooterGetsWrongFalsely : Prop := footerGetsRow.holds Try.pinned (OpenSpec.ofChange footerGetsWrong)

/-- 'fasciclelaw13.FooterPuts': WHATEVER THE INPUT: true; the input reads as it did. -/
def footerPutsSpec : ChangeSpec := { name := "footerPuts", fn := fun _ => fun
  | [d] => { results := [.lit (.bool true)], args := [d] }
  | _ => none }
def footerPutsRow : OpenClaim := { program := "ytekanmieppnpeaa", sum := "a8e9c506abf8a0c12fc4b11d87bf5e09e3b321e59906daf2024ad09dee097a1d", func := "fascicle/fasciclelaw13.FooterPuts", spec := "footerPuts", inPlace := ["internal/bytealg.IndexByte"], unfollowed := true, recurses := true, apart := false }
def FooterPutsSaid : Prop := footerPutsRow.holds Try.pinned (OpenSpec.ofChange footerPutsSpec)

/-- ITS FALSE NEIGHBOUR: 'it returns false'. Refute it at one input. -/
def footerPutsWrong : ChangeSpec := { name := "footerPuts", fn := fun _ => fun
  | [d] => { results := [.lit (.bool false)], args := [d] }
  | _ => none }
def FooterPutsWrongFalsely : Prop := footerPutsRow.holds Try.pinned (OpenSpec.ofChange footerPutsWrong)

/-- 'fasciclelaw13.FooterMade': WHATEVER THE INPUT: true; the input reads as it did. -/
def footerMadeSpec : ChangeSpec := { name := "footerMade", fn := fun _ => fun
  | [d] => { results := [.lit (.bool true)], args := [d] }
  | _ => none }
def footerMadeRow : OpenClaim := { program := "ytekanmieppnpeaa", sum := "a8e9c506abf8a0c12fc4b11d87bf5e09e3b321e59906daf2024ad09dee097a1d", func := "fascicle/fasciclelaw13.FooterMade", spec := "footerMade", inPlace := ["internal/bytealg.IndexByte"], unfollowed := true, recurses := true, apart := false }
def FooterMadeSaid : Prop := footerMadeRow.holds Try.pinned (OpenSpec.ofChange footerMadeSpec)

/-- ITS FALSE NEIGHBOUR: 'it returns false'. Refute it at one input. -/
def footerMadeWrong : ChangeSpec := { name := "footerMade", fn := fun _ => fun
  | [d] => { results := [.lit (.bool false)], args := [d] }
  | _ => none }
def FooterMadeWrongFalsely : Prop := footerMadeRow.holds Try.pinned (OpenSpec.ofChange footerMadeWrong)

/- THE SECOND FORM. 'bulk': how many values and letters a reading holds, each counted each time it is reached (what is shared counts as often as it is met; a slice's spare places count too). A statement '..UptoSaid' is the law's where the arguments, and the package variables that the reading takes, are together of bulk at most 1048576: NARROWER than '..Said'. Prove '..Said' where nothing that the law and all that it calls make is longer than what came in: it says more and counts as full. Else prove '..UptoSaid'. A law counts once. -/
mutual
def uptoBulk {H : Type} : DataW H → Nat
  | .lit (.string bytes) => bytes.length + 1
  | .lit _ => 1
  | .nil => 1
  | .ptr d => uptoBulk d + 1
  | .slice elems spare => uptoBulkAll elems + uptoBulkAll spare + 1
  | .agg parts => uptoBulkAll parts + 1
  | .iface _ d => uptoBulk d + 1
  | .map entries => uptoBulkEntries entries + 1
  | .held _ => 1
def uptoBulkAll {H : Type} : List (DataW H) → Nat
  | [] => 0
  | d :: r => uptoBulk d + uptoBulkAll r
def uptoBulkEntries {H : Type} : List (Lit × DataW H) → Nat
  | [] => 0
  | x :: r => uptoBulkEntry x + uptoBulkEntries r
def uptoBulkEntry {H : Type} : Lit × DataW H → Nat
  | (.string bytes, d) => bytes.length + uptoBulk d + 1
  | (_, d) => uptoBulk d + 1
 end
def uptoSmall : (H : Type) → List (DataW H) → Bool := fun _ ds => decide (uptoBulkAll ds ≤ 1048576)
def OpenSpec.upto (s : _root_.Go.ChangeSpec) : _root_.Go.OpenSpec := { _root_.Go.OpenSpec.ofChange s with cond := some uptoSmall }

/-- 'fasciclelaw13.FooterMost', WHERE WHAT IT READS IS OF BULK AT MOST 1048576: true; the input reads as it did. -/
def footerMostUptoRow : OpenClaim := { program := "ytekanmieppnpeaa", sum := "a8e9c506abf8a0c12fc4b11d87bf5e09e3b321e59906daf2024ad09dee097a1d", func := "fascicle/fasciclelaw13.FooterMost", spec := "footerMost", apart := false, narrowed := true }
def FooterMostUptoSaid : Prop := footerMostUptoRow.holds Try.pinned (OpenSpec.upto footerMostSpec)

/-- 'fasciclelaw13.FooterPlaces', WHERE WHAT IT READS IS OF BULK AT MOST 1048576: true; the input reads as it did. -/
def footerPlacesUptoRow : OpenClaim := { program := "ytekanmieppnpeaa", sum := "a8e9c506abf8a0c12fc4b11d87bf5e09e3b321e59906daf2024ad09dee097a1d", func := "fascicle/fasciclelaw13.FooterPlaces", spec := "footerPlaces", unfollowed := true, recurses := true, apart := false, narrowed := true }
def FooterPlacesUptoSaid : Prop := footerPlacesUptoRow.holds Try.pinned (OpenSpec.upto footerPlacesSpec)

/-- 'fasciclelaw09.FrameOpens', WHERE WHAT IT READS IS OF BULK AT MOST 1048576: true; the input reads as it did. -/
def frameOpensUptoRow : OpenClaim := { program := "ytekanmieppnpeaa", sum := "a8e9c506abf8a0c12fc4b11d87bf5e09e3b321e59906daf2024ad09dee097a1d", func := "fascicle/fasciclelaw09.FrameOpens", spec := "frameOpens", inPlace := ["internal/bytealg.IndexByte"], unfollowed := true, recurses := true, apart := false, narrowed := true }
def FrameOpensUptoSaid : Prop := frameOpensUptoRow.holds Try.pinned (OpenSpec.upto frameOpensSpec)

/-- 'fasciclelaw09.FrameSpoilt', WHERE WHAT IT READS IS OF BULK AT MOST 1048576: true; the input reads as it did. -/
def frameSpoiltUptoRow : OpenClaim := { program := "ytekanmieppnpeaa", sum := "a8e9c506abf8a0c12fc4b11d87bf5e09e3b321e59906daf2024ad09dee097a1d", func := "fascicle/fasciclelaw09.FrameSpoilt", spec := "frameSpoilt", inPlace := ["internal/bytealg.IndexByte"], unfollowed := true, recurses := true, apart := false, narrowed := true }
def FrameSpoiltUptoSaid : Prop := frameSpoiltUptoRow.holds Try.pinned (OpenSpec.upto frameSpoiltSpec)

/-- 'fasciclelaw09.FrameSeals', WHERE WHAT IT READS IS OF BULK AT MOST 1048576: true; the input reads as it did. -/
def frameSealsUptoRow : OpenClaim := { program := "ytekanmieppnpeaa", sum := "a8e9c506abf8a0c12fc4b11d87bf5e09e3b321e59906daf2024ad09dee097a1d", func := "fascicle/fasciclelaw09.FrameSeals", spec := "frameSeals", inPlace := ["internal/bytealg.IndexByte"], unfollowed := true, recurses := true, apart := false, narrowed := true }
def FrameSealsUptoSaid : Prop := frameSealsUptoRow.holds Try.pinned (OpenSpec.upto frameSealsSpec)

/-- 'fasciclelaw09.FrameHeads', WHERE WHAT IT READS IS OF BULK AT MOST 1048576: true; the input reads as it did. -/
def frameHeadsUptoRow : OpenClaim := { program := "ytekanmieppnpeaa", sum := "a8e9c506abf8a0c12fc4b11d87bf5e09e3b321e59906daf2024ad09dee097a1d", func := "fascicle/fasciclelaw09.FrameHeads", spec := "frameHeads", inPlace := ["internal/bytealg.IndexByte"], unfollowed := true, recurses := true, apart := false, narrowed := true }
def FrameHeadsUptoSaid : Prop := frameHeadsUptoRow.holds Try.pinned (OpenSpec.upto frameHeadsSpec)

/-- 'fasciclelaw09.FrameRecords', WHERE WHAT IT READS IS OF BULK AT MOST 1048576: true; the input reads as it did. -/
def frameRecordsUptoRow : OpenClaim := { program := "ytekanmieppnpeaa", sum := "a8e9c506abf8a0c12fc4b11d87bf5e09e3b321e59906daf2024ad09dee097a1d", func := "fascicle/fasciclelaw09.FrameRecords", spec := "frameRecords", inPlace := ["internal/bytealg.IndexByte"], unfollowed := true, recurses := true, apart := false, narrowed := true }
def FrameRecordsUptoSaid : Prop := frameRecordsUptoRow.holds Try.pinned (OpenSpec.upto frameRecordsSpec)

/-- 'fasciclelaw13.FooterGets', WHERE WHAT IT READS IS OF BULK AT MOST 1048576: true; the input reads as it did. -/
def footerGetsUptoRow : OpenClaim := { program := "ytekanmieppnpeaa", sum := "a8e9c506abf8a0c12fc4b11d87bf5e09e3b321e59906daf2024ad09dee097a1d", func := "fascicle/fasciclelaw13.FooterGets", spec := "footerGets", inPlace := ["internal/bytealg.IndexByte"], unfollowed := true, recurses := true, apart := false, narrowed := true }
def FooterGetsUptoSaid : Prop := footerGetsUptoRow.holds Try.pinned (OpenSpec.upto footerGetsSpec)

/-- 'fasciclelaw13.FooterPuts', WHERE WHAT IT READS IS OF BULK AT MOST 1048576: true; the input reads as it did. -/
def footerPutsUptoRow : OpenClaim := { program := "ytekanmieppnpeaa", sum := "a8e9c506abf8a0c12fc4b11d87bf5e09e3b321e59906daf2024ad09dee097a1d", func := "fascicle/fasciclelaw13.FooterPuts", spec := "footerPuts", inPlace := ["internal/bytealg.IndexByte"], unfollowed := true, recurses := true, apart := false, narrowed := true }
def FooterPutsUptoSaid : Prop := footerPutsUptoRow.holds Try.pinned (OpenSpec.upto footerPutsSpec)

/-- 'fasciclelaw13.FooterMade', WHERE WHAT IT READS IS OF BULK AT MOST 1048576: true; the input reads as it did. -/
def footerMadeUptoRow : OpenClaim := { program := "ytekanmieppnpeaa", sum := "a8e9c506abf8a0c12fc4b11d87bf5e09e3b321e59906daf2024ad09dee097a1d", func := "fascicle/fasciclelaw13.FooterMade", spec := "footerMade", inPlace := ["internal/bytealg.IndexByte"], unfollowed := true, recurses := true, apart := false, narrowed := true }
def FooterMadeUptoSaid : Prop := footerMadeUptoRow.holds Try.pinned (OpenSpec.upto footerMadeSpec)

end Rows
end Go.Proofs.Ytekanmieppnpeaa
