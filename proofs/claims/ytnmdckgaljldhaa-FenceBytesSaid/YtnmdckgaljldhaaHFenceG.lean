/- fence.Of in the printed form. -/
import Derived.Test.YtnmdckgaljldhaaHFenceOf
set_option linter.unusedVariables false
set_option linter.unusedSimpArgs false
namespace Go.Proofs.Ytnmdckgaljldhaa.G
open Go Go.RowKit Go.Proofs.YtnmdckgaljldhaaW.PrintWords Go.Proofs.YtnmdckgaljldhaaW.PrintLast Go.Proofs.YtnmdckgaljldhaaW.PrintMore Go.Proofs.Ytnmdckgaljldhaa.Sep Go.Proofs.Ytnmdckgaljldhaa.Tb Go.Proofs.Ytnmdckgaljldhaa.Fe

def fence_Of.f (l0 : List (S81)) : Option (List Int) := if l0.length ≤ 1000000 then some (fencesE l0) else none
theorem fence_Of.calls (A0 : Option Addr) (c0 : Nat) (l0 : List (S81)) (r : List Int) (w : World) (hr0 : Kd.C k81 w A0 l0.length l0) (hc0 : l0.length ≤ c0) (h : fence_Of.f l0 = some r) :
    Calls Try.prog 53 #[.slice A0 l0.length c0] w fun e w' => ∃ v0_ : Value, e = .returned (v0_) ∧ Kd.R (Kd.int .u64) 39 w' w.heap.size (fun _ => True) v0_ r ∧ Below w.heap.size w w' := by
  unfold fence_Of.f at h
  split at h
  · rename_i hl
    cases Option.some.inj h
    exact fence_Of A0 c0 l0 hl hc0 w hr0
  · cases h

end Go.Proofs.Ytnmdckgaljldhaa.G
