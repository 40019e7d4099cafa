/- fence.Of in the printed form. -/
import Derived.Test.YtekanmieppnpeaaHFenceOf
set_option linter.unusedVariables false
set_option linter.unusedSimpArgs false
namespace Go.Proofs.Ytekanmieppnpeaa.G
open Go Go.RowKit Go.Proofs.YtekanmieppnpeaaW.PrintWords Go.Proofs.YtekanmieppnpeaaW.PrintLast Go.Proofs.YtekanmieppnpeaaW.PrintMore Go.Proofs.Ytekanmieppnpeaa.Sep Go.Proofs.Ytekanmieppnpeaa.Tb Go.Proofs.Ytekanmieppnpeaa.Fe

def fence_Of.f (l0 : List (S33)) : Option (List Int) := if l0.length ≤ 1000000 then some (fencesE l0) else none
theorem fence_Of.calls (A0 : Option Addr) (c0 : Nat) (l0 : List (S33)) (r : List Int) (w : World) (hr0 : Kd.C k33 w A0 l0.length l0) (hc0 : l0.length ≤ c0) (h : fence_Of.f l0 = some r) :
    Calls Try.prog 45 #[.slice A0 l0.length c0] w fun e w' => ∃ v0_ : Value, e = .returned (v0_) ∧ Kd.R (Kd.int .u64) 30 w' w.heap.size (fun _ => True) v0_ r ∧ Below w.heap.size w w' := by
  unfold fence_Of.f at h
  split at h
  · rename_i hl
    cases Option.some.inj h
    exact fence_Of A0 c0 l0 hl hc0 w hr0
  · cases h

end Go.Proofs.Ytekanmieppnpeaa.G
