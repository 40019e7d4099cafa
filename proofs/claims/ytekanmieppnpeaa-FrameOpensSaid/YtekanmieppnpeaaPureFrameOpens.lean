/- fasciclelaw09.FrameOpens holds: of any chunk the body is the document's, or what is wrong first; for every input, no condition. -/
import Derived.Test.YtekanmieppnpeaaHFrameOpens
set_option linter.unusedVariables false
namespace Go.Proofs.Ytekanmieppnpeaa.Pure
open Go Go.RowKit Go.Proofs.Ytekanmieppnpeaa.G Go.Proofs.YtekanmieppnpeaaW.PrintWords Go.Proofs.YtekanmieppnpeaaW.PrintLast Go.Proofs.Ytekanmieppnpeaa.PureKit

theorem FrameOpens : fasciclelaw09_FrameOpens.Pure := by
  intro l _ _ hwf
  unfold fasciclelaw09_FrameOpens.f
  rw [if_pos ((wbytesOK_iff l).2 (Bytes.of_wf hwf))]

end Go.Proofs.Ytekanmieppnpeaa.Pure
