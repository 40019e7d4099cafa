/- fasciclelaw14.PackGreedy holds: in each segment the frames have room, the first one of the next wouldn't have had it; for every input, no condition. -/
import Derived.Test.YtnmdckgaljldhaaHPackGreedy
set_option linter.unusedVariables false
set_option linter.unusedSimpArgs false
namespace Go.Proofs.Ytnmdckgaljldhaa.Pure
open Go Go.RowKit Go.Proofs.Ytnmdckgaljldhaa.G Go.Proofs.YtnmdckgaljldhaaW.PrintWords Go.Proofs.YtnmdckgaljldhaaW.PrintLast Go.Proofs.YtnmdckgaljldhaaW.PrintMore Go.Proofs.Ytnmdckgaljldhaa.PureKit

theorem PackGreedy : fasciclelaw14_PackGreedy.Pure := by
  unfold fasciclelaw14_PackGreedy.Pure
  intro e s l he hs
  intros
  rename_i hm hm2 hwf
  have h1 := bounds_u8 he
  have h2 := bounds_u32 hs
  have h4 : i64sOK l = true := (i64sOK_iff l).2 (fun x hx => by
    have h := hwf x hx
    simp [Lit.wf] at h
    have a := h.1
    rw [show IntKind.i64.min = -9223372036854775808 by decide] at a
    exact ⟨a, h.2⟩)
  unfold fasciclelaw14_PackGreedy.f
  rw [if_pos ⟨h1.1, h1.2, by omega, by omega, h4⟩]

end Go.Proofs.Ytnmdckgaljldhaa.Pure
