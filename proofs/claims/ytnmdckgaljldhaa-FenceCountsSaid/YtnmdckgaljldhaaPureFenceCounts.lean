/- fasciclelaw12.FenceCounts holds; for every input, no condition. -/
import Derived.Test.YtnmdckgaljldhaaGx3
import Derived.Test.YtnmdckgaljldhaaLFence
import Derived.OpenShut
set_option linter.unusedVariables false
set_option linter.unusedSimpArgs false
namespace Go.Proofs.Ytnmdckgaljldhaa.Pure
open Go Go.RowKit Go.Proofs.Ytnmdckgaljldhaa.G Go.Proofs.YtnmdckgaljldhaaW.PrintWords Go.Proofs.YtnmdckgaljldhaaW.PrintLast Go.Proofs.Ytnmdckgaljldhaa.PureKit Go.Proofs.Ytnmdckgaljldhaa.Fe

theorem FenceCounts : fasciclelaw12_FenceCounts.Pure := by
  intro a hw
  obtain ⟨n, rfl, hn⟩ : ∃ n : Nat, a = n ∧ n < 65536 := by
    have := bounds_u16 hw
    exact ⟨a.toNat, by omega, by omega⟩
  refine rounds_of (r := true) ?_
  unfold fasciclelaw12_FenceCounts.f
  refine Ev.bind (f := fun k t114 => (if t114 = true then ((fence_Count.f (wrap64 (n : Int))).bind fun t115 => (if (wrap64 (16 * t115)) ≥ (wrap64 (n : Int)) then (if (wrap64 (16 * t115)) < (wrap64 ((wrap64 (n : Int)) + 16)) then ((fence_Count.f (wrap64 ((wrap64 (n : Int)) + 16))).bind fun t116 => (some (t116 == (wrap64 (t115 + 1))))) else (some false)) else (some false))) else (some false))) lives12 ?_
  refine Ev.congr (f := fun _ => some true) (fun k => ?_) (Ev.now _)
  have e0 : wrap64 (n : Int) = (n : Int) := w64 (by omega) (by omega)
  have e1 : wrap64 ((n : Int) + 16) = ((n + 16 : Nat) : Int) := by rw [w64 (by omega) (by omega)]; omega
  have hc : chunks n = (n + 15) / 16 := rfl
  have hc2 : chunks (n + 16) = chunks n + 1 := by unfold chunks; omega
  have e2 : wrap64 (16 * ((chunks n : Nat) : Int)) = 16 * ((chunks n : Nat) : Int) := w64 (by omega) (by omega)
  have e3 : wrap64 (((chunks n : Nat) : Int) + 1) = ((chunks n + 1 : Nat) : Int) := by rw [w64 (by omega) (by omega)]; omega
  rw [if_pos rfl, e0, count_f n (by omega), Option.bind_some, e1, e2, if_pos (by omega), if_pos (by omega), count_f (n + 16) (by omega), Option.bind_some, e3, hc2]
  simp

end Go.Proofs.Ytnmdckgaljldhaa.Pure
