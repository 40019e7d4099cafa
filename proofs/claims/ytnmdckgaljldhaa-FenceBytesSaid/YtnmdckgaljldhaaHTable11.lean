/- Entries: their order (for a seat in which no row is sorted: stands for HTable11). -/
import Derived.Test.YtnmdckgaljldhaaGx0
import Derived.Test.YtnmdckgaljldhaaHSep
import Derived.Lib.Small
set_option linter.unusedVariables false
set_option linter.unusedSimpArgs false
namespace Go.Proofs.Ytnmdckgaljldhaa.Tb
open Go Go.RowKit Go.Proofs.YtnmdckgaljldhaaW.PrintWords Go.Proofs.YtnmdckgaljldhaaW.PrintLast Go.Proofs.YtnmdckgaljldhaaW.PrintMore Go.Proofs.Ytnmdckgaljldhaa.Sep Go.Proofs.Ytnmdckgaljldhaa.G

abbrev E1 := S81
abbrev kE : Kd E1 := k81
def orI (a b : Int) : Int := if a ≠ 0 then a else b
def cmpE (x y : Int × Int) : Int := orI (Go.Lib.compareInt x.1 y.1) (Go.Lib.compareInt x.2 y.2)

def cfE (x y : E1) : Int := cmpE (x.f0, x.f1) (y.f0, y.f1)
def lessE (x y : E1) : Prop := x.f0 < y.f0 ∨ x.f0 = y.f0 ∧ x.f1 < y.f1
instance (x y : E1) : Decidable (lessE x y) := by unfold lessE; infer_instance
/-- The comparison, in all three cases. -/
theorem cfE_lt {x y : E1} (h : lessE x y) : cfE x y = -1 := by
  unfold cfE cmpE orI Go.Lib.compareInt
  rcases h with h | ⟨h1, h2⟩
  · simp [h]
  · simp [h1, h2]
theorem cfE_gt {x y : E1} (h : lessE y x) : cfE x y = 1 := by
  unfold cfE cmpE orI Go.Lib.compareInt
  rcases h with h | ⟨h1, h2⟩
  · have : ¬ x.f0 < y.f0 := by omega
    simp [h, this]
  · have : ¬ x.f1 < y.f1 := by omega
    simp [h1, h2, this]
theorem lessE_tri (x y : E1) : lessE x y ∨ x = y ∨ lessE y x := by
  unfold lessE
  by_cases h1 : x.f0 < y.f0
  · exact .inl (.inl h1)
  by_cases h2 : y.f0 < x.f0
  · exact .inr (.inr (.inl h2))
  by_cases h3 : x.f1 < y.f1
  · exact .inl (.inr ⟨by omega, h3⟩)
  by_cases h4 : y.f1 < x.f1
  · exact .inr (.inr (.inr ⟨by omega, h4⟩))
  · refine .inr (.inl ?_)
    cases x; cases y
    simp only at h1 h2 h3 h4
    congr 1 <;> omega
theorem cfE_same (x : E1) : cfE x x = 0 := by
  unfold cfE cmpE orI Go.Lib.compareInt
  simp
instance : DecidableEq E1 := fun x y => decidable_of_iff (x.f0 = y.f0 ∧ x.f1 = y.f1) ⟨fun h => by cases x; cases y; simp only at h; rw [h.1, h.2], fun h => by rw [h]; exact ⟨rfl, rfl⟩⟩
end Go.Proofs.Ytnmdckgaljldhaa.Tb
