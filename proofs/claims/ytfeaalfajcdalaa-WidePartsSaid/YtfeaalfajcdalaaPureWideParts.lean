/- fasciclelaw04.WideParts holds: however bytes are cut, a state's sum is, behind each part, that of all so far; for every input, no condition. -/
import Derived.Test.YtfeaalfajcdalaaHWideParts
set_option linter.unusedVariables false
namespace Go.Proofs.Ytfeaalfajcdalaa.Pure
open Go Go.RowKit Go.Proofs.Ytfeaalfajcdalaa.G Go.Proofs.YtfeaalfajcdalaaW.PrintWords Go.Proofs.YtfeaalfajcdalaaW.PrintLast Go.Proofs.Ytfeaalfajcdalaa.PureKit

theorem WideParts : fasciclelaw04_WideParts.Pure := by
  intro a l hw _ _ hwf
  have h1 : 0 ≤ a ∧ a < 18446744073709551616 := by
    simp [Lit.wf] at hw
    rw [show IntKind.u64.min = 0 by decide, show IntKind.u64.max = 18446744073709551615 by decide] at hw
    omega
  unfold fasciclelaw04_WideParts.f
  rw [if_pos ⟨h1.1, h1.2, fun b hb => (wbytesOK_iff b).2 (Bytes.of_wf (hwf b hb).2)⟩]

end Go.Proofs.Ytfeaalfajcdalaa.Pure
