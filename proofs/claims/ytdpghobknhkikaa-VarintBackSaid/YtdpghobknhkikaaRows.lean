/-
  No cell of these rows narrows 'for every input' (looked for: loops, veiled, ifaces, maps, wideKeys, modest, calm, conditions, laid).
  DERIVED. THE GIVEN ROWS OF THIS SEAT. 11 by the template 'for every input the law returns true; each argument reads behind the call as it read before'; 0 by the template 'total and deterministic' (their statements: YtdpghobknhkikaaTotals.lean).
  GIVEN WITH THE SEED: the statements are not yours to turn. If you find one false, say at which input.
  Laid BY PROGRAM, IN A SANDBOX (cutbox-rows.mjs): the forced cells as the released guide's own fill.sh prints them over the translation 4162f0c22c3a2336… (all of the seat's roots in one cut). By AI agents, Wed Nov 11 2026. No macro, syntax, notation, axiom, sorry.
-/
import Derived.Test.YtdpghobknhkikaaChecked
import GoSem.Claim
import GoSem.ClaimJoined
import GoSem.ClaimMapViews
import Derived.JoinedTies
import Derived.KernelRfl
namespace Go.Proofs.Ytdpghobknhkikaa
/- THE CELL 'sum', in the pinned program and in every row, IS THE sha256 OF THE DUMP (.gsa) THAT YtdpghobknhkikaaProg.lean LOADS. Nothing in Lean hashes anything: it is a label: what it is worth is what the hold of that sum in a sandbox is worth. -/
noncomputable def Try.pinned : Pinned := { name := "ytdpghobknhkikaa", sum := "4162f0c22c3a233671031e9665bc2af84ecd72f7d61d3173c5718b19ec55e28f", checked := Try.checked }
namespace Rows
def none {H : Type} : Left H := { results := [], args := [] }

/-- 'fasciclelaw22.ChunkAll': WHATEVER THE INPUT: true; the input reads as it did. -/
def chunkAllSpec : ChangeSpec := { name := "chunkAll", fn := fun _ => fun
  | [d1, d2] => { results := [.lit (.bool true)], args := [d1, d2] }
  | _ => none }
def chunkAllRow : OpenClaim := { program := "ytdpghobknhkikaa", sum := "4162f0c22c3a233671031e9665bc2af84ecd72f7d61d3173c5718b19ec55e28f", func := "fascicle/fasciclelaw22.ChunkAll", spec := "chunkAll", apart := false }
def ChunkAllSaid : Prop := chunkAllRow.holds Try.pinned (OpenSpec.ofChange chunkAllSpec)

/-- ITS FALSE NEIGHBOUR: 'it returns false'. Refute it at one input. -/
def chunkAllWrong : ChangeSpec := { name := "chunkAll", fn := fun _ => fun
  | [d1, d2] => { results := [.lit (.bool false)], args := [d1, d2] }
  | _ => none }
def ChunkAllWrongFalsely : Prop := chunkAllRow.holds Try.pinned (OpenSpec.ofChange chunkAllWrong)

/-- 'fasciclelaw22.ChunkParts': WHATEVER THE INPUT: true; the input reads as it did. -/
def chunkPartsSpec : ChangeSpec := { name := "chunkParts", fn := fun _ => fun
  | [d1, d2] => { results := [.lit (.bool true)], args := [d1, d2] }
  | _ => none }
def chunkPartsRow : OpenClaim := { program := "ytdpghobknhkikaa", sum := "4162f0c22c3a233671031e9665bc2af84ecd72f7d61d3173c5718b19ec55e28f", func := "fascicle/fasciclelaw22.ChunkParts", spec := "chunkParts", apart := false }
def ChunkPartsSaid : Prop := chunkPartsRow.holds Try.pinned (OpenSpec.ofChange chunkPartsSpec)

/-- ITS FALSE NEIGHBOUR: 'it returns false'. Refute it at one input. -/
def chunkPartsWrong : ChangeSpec := { name := "chunkParts", fn := fun _ => fun
  | [d1, d2] => { results := [.lit (.bool false)], args := [d1, d2] }
  | _ => none }
def ChunkPartsWrongFalsely : Prop := chunkPartsRow.holds Try.pinned (OpenSpec.ofChange chunkPartsWrong)

/-- 'fasciclelaw02.VarintApart': WHATEVER THE INPUT: true; the input reads as it did. -/
def varintApartSpec : ChangeSpec := { name := "varintApart", fn := fun _ => fun
  | [d1, d2] => { results := [.lit (.bool true)], args := [d1, d2] }
  | _ => none }
def varintApartRow : OpenClaim := { program := "ytdpghobknhkikaa", sum := "4162f0c22c3a233671031e9665bc2af84ecd72f7d61d3173c5718b19ec55e28f", func := "fascicle/fasciclelaw02.VarintApart", spec := "varintApart", apart := false }
def VarintApartSaid : Prop := varintApartRow.holds Try.pinned (OpenSpec.ofChange varintApartSpec)

/-- ITS FALSE NEIGHBOUR: 'it returns false'. Refute it at one input. -/
def varintApartWrong : ChangeSpec := { name := "varintApart", fn := fun _ => fun
  | [d1, d2] => { results := [.lit (.bool false)], args := [d1, d2] }
  | _ => none }
def VarintApartWrongFalsely : Prop := varintApartRow.holds Try.pinned (OpenSpec.ofChange varintApartWrong)

/-- 'fasciclelaw05.CobsMost': WHATEVER THE INPUT: true; the input reads as it did. -/
def cobsMostSpec : ChangeSpec := { name := "cobsMost", fn := fun _ => fun
  | [d1, d2] => { results := [.lit (.bool true)], args := [d1, d2] }
  | _ => none }
def cobsMostRow : OpenClaim := { program := "ytdpghobknhkikaa", sum := "4162f0c22c3a233671031e9665bc2af84ecd72f7d61d3173c5718b19ec55e28f", func := "fascicle/fasciclelaw05.CobsMost", spec := "cobsMost", inPlace := ["internal/bytealg.IndexByte"], apart := false }
def CobsMostSaid : Prop := cobsMostRow.holds Try.pinned (OpenSpec.ofChange cobsMostSpec)

/-- ITS FALSE NEIGHBOUR: 'it returns false'. Refute it at one input. -/
def cobsMostWrong : ChangeSpec := { name := "cobsMost", fn := fun _ => fun
  | [d1, d2] => { results := [.lit (.bool false)], args := [d1, d2] }
  | _ => none }
def CobsMostWrongFalsely : Prop := cobsMostRow.holds Try.pinned (OpenSpec.ofChange cobsMostWrong)

/-- 'fasciclelaw02.VarintShort': WHATEVER THE INPUT: true; the input reads as it did. -/
def varintShortSpec : ChangeSpec := { name := "varintShort", fn := fun _ => fun
  | [d1, d2] => { results := [.lit (.bool true)], args := [d1, d2] }
  | _ => none }
def varintShortRow : OpenClaim := { program := "ytdpghobknhkikaa", sum := "4162f0c22c3a233671031e9665bc2af84ecd72f7d61d3173c5718b19ec55e28f", func := "fascicle/fasciclelaw02.VarintShort", spec := "varintShort", apart := false }
def VarintShortSaid : Prop := varintShortRow.holds Try.pinned (OpenSpec.ofChange varintShortSpec)

/-- ITS FALSE NEIGHBOUR: 'it returns false'. Refute it at one input. -/
def varintShortWrong : ChangeSpec := { name := "varintShort", fn := fun _ => fun
  | [d1, d2] => { results := [.lit (.bool false)], args := [d1, d2] }
  | _ => none }
def VarintShortWrongFalsely : Prop := varintShortRow.holds Try.pinned (OpenSpec.ofChange varintShortWrong)

/-- 'fasciclelaw22.ChunkBytes': WHATEVER THE INPUT: true; the input reads as it did. -/
def chunkBytesSpec : ChangeSpec := { name := "chunkBytes", fn := fun _ => fun
  | [d1, d2] => { results := [.lit (.bool true)], args := [d1, d2] }
  | _ => none }
def chunkBytesRow : OpenClaim := { program := "ytdpghobknhkikaa", sum := "4162f0c22c3a233671031e9665bc2af84ecd72f7d61d3173c5718b19ec55e28f", func := "fascicle/fasciclelaw22.ChunkBytes", spec := "chunkBytes", apart := false }
def ChunkBytesSaid : Prop := chunkBytesRow.holds Try.pinned (OpenSpec.ofChange chunkBytesSpec)

/-- ITS FALSE NEIGHBOUR: 'it returns false'. Refute it at one input. -/
def chunkBytesWrong : ChangeSpec := { name := "chunkBytes", fn := fun _ => fun
  | [d1, d2] => { results := [.lit (.bool false)], args := [d1, d2] }
  | _ => none }
def ChunkBytesWrongFalsely : Prop := chunkBytesRow.holds Try.pinned (OpenSpec.ofChange chunkBytesWrong)

/-- 'fasciclelaw05.CobsUnstuffs': WHATEVER THE INPUT: true; the input reads as it did. -/
def cobsUnstuffsSpec : ChangeSpec := { name := "cobsUnstuffs", fn := fun _ => fun
  | [d1, d2] => { results := [.lit (.bool true)], args := [d1, d2] }
  | _ => none }
def cobsUnstuffsRow : OpenClaim := { program := "ytdpghobknhkikaa", sum := "4162f0c22c3a233671031e9665bc2af84ecd72f7d61d3173c5718b19ec55e28f", func := "fascicle/fasciclelaw05.CobsUnstuffs", spec := "cobsUnstuffs", inPlace := ["internal/bytealg.IndexByte"], apart := false }
def CobsUnstuffsSaid : Prop := cobsUnstuffsRow.holds Try.pinned (OpenSpec.ofChange cobsUnstuffsSpec)

/-- ITS FALSE NEIGHBOUR: 'it returns false'. Refute it at one input. -/
def cobsUnstuffsWrong : ChangeSpec := { name := "cobsUnstuffs", fn := fun _ => fun
  | [d1, d2] => { results := [.lit (.bool false)], args := [d1, d2] }
  | _ => none }
def CobsUnstuffsWrongFalsely : Prop := cobsUnstuffsRow.holds Try.pinned (OpenSpec.ofChange cobsUnstuffsWrong)

/-- 'fasciclelaw05.CobsApart': WHATEVER THE INPUT: true; the input reads as it did. -/
def cobsApartSpec : ChangeSpec := { name := "cobsApart", fn := fun _ => fun
  | [d1, d2] => { results := [.lit (.bool true)], args := [d1, d2] }
  | _ => none }
def cobsApartRow : OpenClaim := { program := "ytdpghobknhkikaa", sum := "4162f0c22c3a233671031e9665bc2af84ecd72f7d61d3173c5718b19ec55e28f", func := "fascicle/fasciclelaw05.CobsApart", spec := "cobsApart", inPlace := ["internal/bytealg.IndexByte"], apart := false }
def CobsApartSaid : Prop := cobsApartRow.holds Try.pinned (OpenSpec.ofChange cobsApartSpec)

/-- ITS FALSE NEIGHBOUR: 'it returns false'. Refute it at one input. -/
def cobsApartWrong : ChangeSpec := { name := "cobsApart", fn := fun _ => fun
  | [d1, d2] => { results := [.lit (.bool false)], args := [d1, d2] }
  | _ => none }
def CobsApartWrongFalsely : Prop := cobsApartRow.holds Try.pinned (OpenSpec.ofChange cobsApartWrong)

/-- 'fasciclelaw05.CobsStuffs': WHATEVER THE INPUT: true; the input reads as it did. -/
def cobsStuffsSpec : ChangeSpec := { name := "cobsStuffs", fn := fun _ => fun
  | [d1, d2, d3] => { results := [.lit (.bool true)], args := [d1, d2, d3] }
  | _ => none }
def cobsStuffsRow : OpenClaim := { program := "ytdpghobknhkikaa", sum := "4162f0c22c3a233671031e9665bc2af84ecd72f7d61d3173c5718b19ec55e28f", func := "fascicle/fasciclelaw05.CobsStuffs", spec := "cobsStuffs", inPlace := ["internal/bytealg.IndexByte"], apart := false }
def CobsStuffsSaid : Prop := cobsStuffsRow.holds Try.pinned (OpenSpec.ofChange cobsStuffsSpec)

/-- ITS FALSE NEIGHBOUR: 'it returns false'. Refute it at one input. -/
def cobsStuffsWrong : ChangeSpec := { name := "cobsStuffs", fn := fun _ => fun
  | [d1, d2, d3] => { results := [.lit (.bool false)], args := [d1, d2, d3] }
  | _ => none }
def CobsStuffsWrongFalsely : Prop := cobsStuffsRow.holds Try.pinned (OpenSpec.ofChange cobsStuffsWrong)

/-- 'fasciclelaw02.VarintReads': WHATEVER THE INPUT: true; the input reads as it did. -/
def varintReadsSpec : ChangeSpec := { name := "varintReads", fn := fun _ => fun
  | [d] => { results := [.lit (.bool true)], args := [d] }
  | _ => none }
def varintReadsRow : OpenClaim := { program := "ytdpghobknhkikaa", sum := "4162f0c22c3a233671031e9665bc2af84ecd72f7d61d3173c5718b19ec55e28f", func := "fascicle/fasciclelaw02.VarintReads", spec := "varintReads", unfollowed := true, recurses := true, apart := false }
def VarintReadsSaid : Prop := varintReadsRow.holds Try.pinned (OpenSpec.ofChange varintReadsSpec)

/-- ITS FALSE NEIGHBOUR: 'it returns false'. Refute it at one input. -/
def varintReadsWrong : ChangeSpec := { name := "varintReads", fn := fun _ => fun
  | [d] => { results := [.lit (.bool false)], args := [d] }
  | _ => none }
def VarintReadsWrongFalsely : Prop := varintReadsRow.holds Try.pinned (OpenSpec.ofChange varintReadsWrong)

/-- 'fasciclelaw02.VarintBack': WHATEVER THE INPUT: true; the input reads as it did. -/
def varintBackSpec : ChangeSpec := { name := "varintBack", fn := fun _ => fun
  | [d] => { results := [.lit (.bool true)], args := [d] }
  | _ => none }
def varintBackRow : OpenClaim := { program := "ytdpghobknhkikaa", sum := "4162f0c22c3a233671031e9665bc2af84ecd72f7d61d3173c5718b19ec55e28f", func := "fascicle/fasciclelaw02.VarintBack", spec := "varintBack", unfollowed := true, recurses := true, apart := false }
def VarintBackSaid : Prop := varintBackRow.holds Try.pinned (OpenSpec.ofChange varintBackSpec)

/-- ITS FALSE NEIGHBOUR: 'it returns false'. Refute it at one input. -/
def varintBackWrong : ChangeSpec := { name := "varintBack", fn := fun _ => fun
  | [d] => { results := [.lit (.bool false)], args := [d] }
  | _ => none }
def VarintBackWrongFalsely : Prop := varintBackRow.holds Try.pinned (OpenSpec.ofChange varintBackWrong)

/- THE SECOND FORM. 'bulk': how many values and letters a reading holds, each counted each time it is reached (what is shared counts as often as it is met; a slice's spare places count too). A statement '..UptoSaid' is the law's where the arguments, and the package variables that the reading takes, are together of bulk at most 1048576: NARROWER than '..Said'. Prove '..Said' where nothing that the law and all that it calls make is longer than what came in: it says more and counts as full. Else prove '..UptoSaid'. A law counts once. -/
mutual
def uptoBulk {H : Type} : DataW H → Nat
  | .lit (.string bytes) => bytes.length + 1
  | .lit _ => 1
  | .nil => 1
  | .ptr d => uptoBulk d + 1
  | .slice elems spare => uptoBulkAll elems + uptoBulkAll spare + 1
  | .agg parts => uptoBulkAll parts + 1
  | .iface _ d => uptoBulk d + 1
  | .map entries => uptoBulkEntries entries + 1
  | .held _ => 1
def uptoBulkAll {H : Type} : List (DataW H) → Nat
  | [] => 0
  | d :: r => uptoBulk d + uptoBulkAll r
def uptoBulkEntries {H : Type} : List (Lit × DataW H) → Nat
  | [] => 0
  | x :: r => uptoBulkEntry x + uptoBulkEntries r
def uptoBulkEntry {H : Type} : Lit × DataW H → Nat
  | (.string bytes, d) => bytes.length + uptoBulk d + 1
  | (_, d) => uptoBulk d + 1
 end
def uptoSmall : (H : Type) → List (DataW H) → Bool := fun _ ds => decide (uptoBulkAll ds ≤ 1048576)
def OpenSpec.upto (s : _root_.Go.ChangeSpec) : _root_.Go.OpenSpec := { _root_.Go.OpenSpec.ofChange s with cond := some uptoSmall }

/-- 'fasciclelaw22.ChunkAll', WHERE WHAT IT READS IS OF BULK AT MOST 1048576: true; the input reads as it did. -/
def chunkAllUptoRow : OpenClaim := { program := "ytdpghobknhkikaa", sum := "4162f0c22c3a233671031e9665bc2af84ecd72f7d61d3173c5718b19ec55e28f", func := "fascicle/fasciclelaw22.ChunkAll", spec := "chunkAll", apart := false, narrowed := true }
def ChunkAllUptoSaid : Prop := chunkAllUptoRow.holds Try.pinned (OpenSpec.upto chunkAllSpec)

/-- 'fasciclelaw22.ChunkParts', WHERE WHAT IT READS IS OF BULK AT MOST 1048576: true; the input reads as it did. -/
def chunkPartsUptoRow : OpenClaim := { program := "ytdpghobknhkikaa", sum := "4162f0c22c3a233671031e9665bc2af84ecd72f7d61d3173c5718b19ec55e28f", func := "fascicle/fasciclelaw22.ChunkParts", spec := "chunkParts", apart := false, narrowed := true }
def ChunkPartsUptoSaid : Prop := chunkPartsUptoRow.holds Try.pinned (OpenSpec.upto chunkPartsSpec)

/-- 'fasciclelaw02.VarintApart', WHERE WHAT IT READS IS OF BULK AT MOST 1048576: true; the input reads as it did. -/
def varintApartUptoRow : OpenClaim := { program := "ytdpghobknhkikaa", sum := "4162f0c22c3a233671031e9665bc2af84ecd72f7d61d3173c5718b19ec55e28f", func := "fascicle/fasciclelaw02.VarintApart", spec := "varintApart", apart := false, narrowed := true }
def VarintApartUptoSaid : Prop := varintApartUptoRow.holds Try.pinned (OpenSpec.upto varintApartSpec)

/-- 'fasciclelaw05.CobsMost', WHERE WHAT IT READS IS OF BULK AT MOST 1048576: true; the input reads as it did. -/
def cobsMostUptoRow : OpenClaim := { program := "ytdpghobknhkikaa", sum := "4162f0c22c3a233671031e9665bc2af84ecd72f7d61d3173c5718b19ec55e28f", func := "fascicle/fasciclelaw05.CobsMost", spec := "cobsMost", inPlace := ["internal/bytealg.IndexByte"], apart := false, narrowed := true }
def CobsMostUptoSaid : Prop := cobsMostUptoRow.holds Try.pinned (OpenSpec.upto cobsMostSpec)

/-- 'fasciclelaw02.VarintShort', WHERE WHAT IT READS IS OF BULK AT MOST 1048576: true; the input reads as it did. -/
def varintShortUptoRow : OpenClaim := { program := "ytdpghobknhkikaa", sum := "4162f0c22c3a233671031e9665bc2af84ecd72f7d61d3173c5718b19ec55e28f", func := "fascicle/fasciclelaw02.VarintShort", spec := "varintShort", apart := false, narrowed := true }
def VarintShortUptoSaid : Prop := varintShortUptoRow.holds Try.pinned (OpenSpec.upto varintShortSpec)

/-- 'fasciclelaw22.ChunkBytes', WHERE WHAT IT READS IS OF BULK AT MOST 1048576: true; the input reads as it did. -/
def chunkBytesUptoRow : OpenClaim := { program := "ytdpghobknhkikaa", sum := "4162f0c22c3a233671031e9665bc2af84ecd72f7d61d3173c5718b19ec55e28f", func := "fascicle/fasciclelaw22.ChunkBytes", spec := "chunkBytes", apart := false, narrowed := true }
def ChunkBytesUptoSaid : Prop := chunkBytesUptoRow.holds Try.pinned (OpenSpec.upto chunkBytesSpec)

/-- 'fasciclelaw05.CobsUnstuffs', WHERE WHAT IT READS IS OF BULK AT MOST 1048576: true; the input reads as it did. -/
def cobsUnstuffsUptoRow : OpenClaim := { program := "ytdpghobknhkikaa", sum := "4162f0c22c3a233671031e9665bc2af84ecd72f7d61d3173c5718b19ec55e28f", func := "fascicle/fasciclelaw05.CobsUnstuffs", spec := "cobsUnstuffs", inPlace := ["internal/bytealg.IndexByte"], apart := false, narrowed := true }
def CobsUnstuffsUptoSaid : Prop := cobsUnstuffsUptoRow.holds Try.pinned (OpenSpec.upto cobsUnstuffsSpec)

/-- 'fasciclelaw05.CobsApart', WHERE WHAT IT READS IS OF BULK AT MOST 1048576: true; the input reads as it did. -/
def cobsApartUptoRow : OpenClaim := { program := "ytdpghobknhkikaa", sum := "4162f0c22c3a233671031e9665bc2af84ecd72f7d61d3173c5718b19ec55e28f", func := "fascicle/fasciclelaw05.CobsApart", spec := "cobsApart", inPlace := ["internal/bytealg.IndexByte"], apart := false, narrowed := true }
def CobsApartUptoSaid : Prop := cobsApartUptoRow.holds Try.pinned (OpenSpec.upto cobsApartSpec)

/-- 'fasciclelaw05.CobsStuffs', WHERE WHAT IT READS IS OF BULK AT MOST 1048576: true; the input reads as it did. -/
def cobsStuffsUptoRow : OpenClaim := { program := "ytdpghobknhkikaa", sum := "4162f0c22c3a233671031e9665bc2af84ecd72f7d61d3173c5718b19ec55e28f", func := "fascicle/fasciclelaw05.CobsStuffs", spec := "cobsStuffs", inPlace := ["internal/bytealg.IndexByte"], apart := false, narrowed := true }
def CobsStuffsUptoSaid : Prop := cobsStuffsUptoRow.holds Try.pinned (OpenSpec.upto cobsStuffsSpec)

/-- 'fasciclelaw02.VarintReads', WHERE WHAT IT READS IS OF BULK AT MOST 1048576: true; the input reads as it did. -/
def varintReadsUptoRow : OpenClaim := { program := "ytdpghobknhkikaa", sum := "4162f0c22c3a233671031e9665bc2af84ecd72f7d61d3173c5718b19ec55e28f", func := "fascicle/fasciclelaw02.VarintReads", spec := "varintReads", unfollowed := true, recurses := true, apart := false, narrowed := true }
def VarintReadsUptoSaid : Prop := varintReadsUptoRow.holds Try.pinned (OpenSpec.upto varintReadsSpec)

/-- 'fasciclelaw02.VarintBack', WHERE WHAT IT READS IS OF BULK AT MOST 1048576: true; the input reads as it did. -/
def varintBackUptoRow : OpenClaim := { program := "ytdpghobknhkikaa", sum := "4162f0c22c3a233671031e9665bc2af84ecd72f7d61d3173c5718b19ec55e28f", func := "fascicle/fasciclelaw02.VarintBack", spec := "varintBack", unfollowed := true, recurses := true, apart := false, narrowed := true }
def VarintBackUptoSaid : Prop := varintBackUptoRow.holds Try.pinned (OpenSpec.upto varintBackSpec)

end Rows
end Go.Proofs.Ytdpghobknhkikaa
