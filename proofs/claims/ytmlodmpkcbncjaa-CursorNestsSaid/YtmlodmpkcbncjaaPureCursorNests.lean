/- fasciclelaw01.CursorNests holds: a reading within a reading stops by itself, and the outer one's stop stops both; for every input, no condition. -/
import Derived.Test.YtmlodmpkcbncjaaHCursorNests
import Derived.OpenShut
namespace Go.Proofs.Ytmlodmpkcbncjaa.Pure
open Go.RowKit Go.Proofs.Ytmlodmpkcbncjaa.G Go.Proofs.Ytmlodmpkcbncjaa.PureKit

theorem CursorNests : fasciclelaw01_CursorNests.Pure := by
  intro l0 l1 a2 a3 _ _ h0 _ _ h1 _
  unfold fasciclelaw01_CursorNests.f
  exact if_pos ⟨(bytesb_iff l0).2 (Bytes.of_wf h0), (bytesb_iff l1).2 (Bytes.of_wf h1)⟩

end Go.Proofs.Ytmlodmpkcbncjaa.Pure
