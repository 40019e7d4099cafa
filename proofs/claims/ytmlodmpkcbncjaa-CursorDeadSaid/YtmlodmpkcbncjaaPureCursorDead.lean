/- fasciclelaw01.CursorDead holds: outside of its reading a cursor tells nothing, and nothing happens; so does a nil one; for every input, no condition. -/
import Derived.Test.YtmlodmpkcbncjaaHCursorDead
import Derived.OpenShut
namespace Go.Proofs.Ytmlodmpkcbncjaa.Pure
open Go.RowKit Go.Proofs.Ytmlodmpkcbncjaa.G Go.Proofs.Ytmlodmpkcbncjaa.PureKit

theorem CursorDead : fasciclelaw01_CursorDead.Pure := by
  intro l0 l1 _ _ h0 _ _ h1
  unfold fasciclelaw01_CursorDead.f
  exact if_pos ⟨(bytesb_iff l0).2 (Bytes.of_wf h0), (askb_iff l1).2 (fun y hy => ⟨bounds_u8 (h1 y hy).1, bounds_u8 (h1 y hy).2.2⟩)⟩

end Go.Proofs.Ytmlodmpkcbncjaa.Pure
