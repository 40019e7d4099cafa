/- fasciclelaw01.CursorBack holds: what is written is read, to the end, and the bytes are the document's; for every input, no condition. -/
import Derived.Test.YtmlodmpkcbncjaaHCursorBack
import Derived.OpenShut
namespace Go.Proofs.Ytmlodmpkcbncjaa.Pure
open Go.RowKit Go.Proofs.Ytmlodmpkcbncjaa.G Go.Proofs.Ytmlodmpkcbncjaa.PureKit

theorem CursorBack : fasciclelaw01_CursorBack.Pure := by
  intro l0 l1 _ _ h0 _ _ h1
  unfold fasciclelaw01_CursorBack.f
  exact if_pos ⟨fun x hx => by have := bounds_u64 (h0 x hx); omega, Bytes.of_wf h1⟩

end Go.Proofs.Ytmlodmpkcbncjaa.Pure
