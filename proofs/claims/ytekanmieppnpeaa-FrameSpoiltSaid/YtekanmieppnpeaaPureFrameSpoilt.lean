/- fasciclelaw09.FrameSpoilt holds: a chunk in which one byte is another one is no chunk of the same body; for every input, no condition. -/
import Derived.Test.YtekanmieppnpeaaHFrameSpoilt
set_option linter.unusedVariables false
namespace Go.Proofs.Ytekanmieppnpeaa.Pure
open Go Go.RowKit Go.Proofs.Ytekanmieppnpeaa.G Go.Proofs.YtekanmieppnpeaaW.PrintWords Go.Proofs.YtekanmieppnpeaaW.PrintLast Go.Proofs.Ytekanmieppnpeaa.PureKit

theorem FrameSpoilt : fasciclelaw09_FrameSpoilt.Pure := by
  intro l a b _ _ hwf ha hb
  have h1 : wbytesOK l = true := (wbytesOK_iff l).2 (Bytes.of_wf hwf)
  have h2 := bounds_u8 hb
  have h3 : 0 ≤ a ∧ a ≤ 65535 := by
    simp [Lit.wf] at ha
    rw [show IntKind.u16.min = 0 by decide, show IntKind.u16.max = 65535 by decide] at ha
    omega
  unfold fasciclelaw09_FrameSpoilt.f
  rw [if_pos ⟨h1, h3.1, h3.2, h2.1, h2.2⟩]

end Go.Proofs.Ytekanmieppnpeaa.Pure
