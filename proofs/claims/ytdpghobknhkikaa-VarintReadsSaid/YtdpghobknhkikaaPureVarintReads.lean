/- fasciclelaw02.VarintReads holds: the number with which any bytes begin is the document's, with its bytes, or what is wrong; for every input, no condition. -/
import Derived.Test.YtdpghobknhkikaaHVarintReads
import Derived.OpenShut
namespace Go.Proofs.Ytdpghobknhkikaa.Pure
open Go.RowKit Go.Proofs.Ytdpghobknhkikaa.G Go.Proofs.Ytdpghobknhkikaa.PureKit

theorem VarintReads : fasciclelaw02_VarintReads.Pure := by
  intro l0 _ _ h0
  unfold fasciclelaw02_VarintReads.f
  exact if_pos ((bytesb_iff l0).2 (Bytes.of_wf h0))

end Go.Proofs.Ytdpghobknhkikaa.Pure
