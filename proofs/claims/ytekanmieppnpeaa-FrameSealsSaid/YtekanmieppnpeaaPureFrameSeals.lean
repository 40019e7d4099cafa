/- fasciclelaw09.FrameSeals holds: any body has the document's frame, and is opened again; for every input, no condition. -/
import Derived.Test.YtekanmieppnpeaaHFrameSeals
set_option linter.unusedVariables false
namespace Go.Proofs.Ytekanmieppnpeaa.Pure
open Go Go.RowKit Go.Proofs.Ytekanmieppnpeaa.G Go.Proofs.YtekanmieppnpeaaW.PrintWords Go.Proofs.YtekanmieppnpeaaW.PrintLast Go.Proofs.Ytekanmieppnpeaa.PureKit

theorem FrameSeals : fasciclelaw09_FrameSeals.Pure := by
  intro l _ _ hwf
  unfold fasciclelaw09_FrameSeals.f
  rw [if_pos ((wbytesOK_iff l).2 (Bytes.of_wf hwf))]

end Go.Proofs.Ytekanmieppnpeaa.Pure
