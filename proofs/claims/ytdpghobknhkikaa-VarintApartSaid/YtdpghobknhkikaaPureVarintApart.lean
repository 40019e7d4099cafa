/- fasciclelaw02.VarintApart holds: rows of numbers have the same bytes just if they are the same; for every input, no condition. -/
import Derived.Test.YtdpghobknhkikaaHVarintApart
import Derived.OpenShut
namespace Go.Proofs.Ytdpghobknhkikaa.Pure
open Go.RowKit Go.Proofs.Ytdpghobknhkikaa.G

theorem VarintApart : fasciclelaw02_VarintApart.Pure := by
  intro l0 l1 _ _ h0 _ _ h1
  unfold fasciclelaw02_VarintApart.f
  exact if_pos ⟨fun x hx => by have := bounds_u64 (h0 x hx); omega, fun x hx => by have := bounds_u64 (h1 x hx); omega⟩

end Go.Proofs.Ytdpghobknhkikaa.Pure
