/- fasciclelaw22.ChunkAll holds: the chunks of any bytes, by any size, are the document's, one for each nought; for every input, no condition. -/
import Derived.Test.YtdpghobknhkikaaGx4
import Derived.Test.YtdpghobknhkikaaLChunk
namespace Go.Proofs.Ytdpghobknhkikaa.Pure
open Go.RowKit Go.Proofs.Ytdpghobknhkikaa.G Go.Proofs.YtdpghobknhkikaaW.PrintWords Go.Proofs.YtdpghobknhkikaaW.PrintLast

theorem ChunkAll : fasciclelaw22_ChunkAll.Pure := by
  intro a0 l1 h0 _ _ hb
  exact (LChunk.law a0 (bounds_i64 h0).2 l1 (PureKit.Bytes.of_wf hb)).rounds

end Go.Proofs.Ytdpghobknhkikaa.Pure
