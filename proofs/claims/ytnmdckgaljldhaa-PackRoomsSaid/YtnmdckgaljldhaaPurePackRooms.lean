/- fasciclelaw14.PackRooms holds: of frames that are taken, one by one, the rooms are the document's; for every input, no condition. -/
import Derived.Test.YtnmdckgaljldhaaHPackRooms
set_option linter.unusedVariables false
set_option linter.unusedSimpArgs false
namespace Go.Proofs.Ytnmdckgaljldhaa.Pure
open Go Go.RowKit Go.Proofs.Ytnmdckgaljldhaa.G Go.Proofs.YtnmdckgaljldhaaW.PrintWords Go.Proofs.YtnmdckgaljldhaaW.PrintLast Go.Proofs.YtnmdckgaljldhaaW.PrintMore Go.Proofs.Ytnmdckgaljldhaa.PureKit

theorem PackRooms : fasciclelaw14_PackRooms.Pure := by
  unfold fasciclelaw14_PackRooms.Pure
  intro e s n l he hs hn
  intros
  rename_i hm hm2 hwf
  have h1 := bounds_u8 he
  have h2 := bounds_u32 hs
  have h3 := bounds_u32 hn
  have h4 : i64sOK l = true := (i64sOK_iff l).2 (fun x hx => by
    have h := hwf x hx
    simp [Lit.wf] at h
    have a := h.1
    rw [show IntKind.i64.min = -9223372036854775808 by decide] at a
    exact ⟨a, h.2⟩)
  unfold fasciclelaw14_PackRooms.f
  rw [if_pos ⟨h1.1, h1.2, by omega, by omega, by omega, by omega, h4⟩]

end Go.Proofs.Ytnmdckgaljldhaa.Pure
