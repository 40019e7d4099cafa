/- fasciclelaw02.VarintBack holds: numbers are written as the document says, in as many bytes as are told, and read again to the end; for every input, no condition. -/
import Derived.Test.YtdpghobknhkikaaHVarintBack
import Derived.OpenShut
namespace Go.Proofs.Ytdpghobknhkikaa.Pure
open Go.RowKit Go.Proofs.Ytdpghobknhkikaa.G Go.Proofs.Ytdpghobknhkikaa.PureKit

theorem VarintBack : fasciclelaw02_VarintBack.Pure := by
  intro l0 _ _ h0
  unfold fasciclelaw02_VarintBack.f
  exact if_pos (fun x hx => by have := bounds_u64 (h0 x hx); omega)

end Go.Proofs.Ytdpghobknhkikaa.Pure
