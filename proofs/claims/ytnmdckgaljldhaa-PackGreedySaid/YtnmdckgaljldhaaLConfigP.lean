/- Plain laws of the configs: the thirteen sizes. -/
import Derived.Test.YtnmdckgaljldhaaGx4
import Derived.Test.YtnmdckgaljldhaaGx9
import Derived.Test.YtnmdckgaljldhaaPureKit
import Derived.OpenShut
namespace Go.Proofs.Ytnmdckgaljldhaa.LConfig
open Go.RowKit Go.Proofs.Ytnmdckgaljldhaa.G Go.Proofs.YtnmdckgaljldhaaW.PrintWords Go.Proofs.YtnmdckgaljldhaaW.PrintLast Go.Proofs.YtnmdckgaljldhaaW.PrintMore Go.Proofs.Ytnmdckgaljldhaa.PureKit
set_option linter.unusedVariables false

/-- The thirteen sizes. -/
def Pair (e S : Int) : Prop := (e = 12 ∧ S = 4096) ∨ (e = 13 ∧ S = 8192) ∨ (e = 14 ∧ S = 16384) ∨ (e = 15 ∧ S = 32768) ∨ (e = 16 ∧ S = 65536) ∨ (e = 17 ∧ S = 131072) ∨ (e = 18 ∧ S = 262144) ∨ (e = 19 ∧ S = 524288) ∨ (e = 20 ∧ S = 1048576) ∨ (e = 21 ∧ S = 2097152) ∨ (e = 22 ∧ S = 4194304) ∨ (e = 23 ∧ S = 8388608) ∨ (e = 24 ∧ S = 16777216)
theorem pair_of {e : Int} (h0 : 12 ≤ e) (h1 : e ≤ 24) : ∃ S, Pair e S := by
  rcases (by omega : e = 12 ∨ e = 13 ∨ e = 14 ∨ e = 15 ∨ e = 16 ∨ e = 17 ∨ e = 18 ∨ e = 19 ∨ e = 20 ∨ e = 21 ∨ e = 22 ∨ e = 23 ∨ e = 24) with h | h | h | h | h | h | h | h | h | h | h | h | h <;> subst h
  · exact ⟨4096, by unfold Pair; omega⟩
  · exact ⟨8192, by unfold Pair; omega⟩
  · exact ⟨16384, by unfold Pair; omega⟩
  · exact ⟨32768, by unfold Pair; omega⟩
  · exact ⟨65536, by unfold Pair; omega⟩
  · exact ⟨131072, by unfold Pair; omega⟩
  · exact ⟨262144, by unfold Pair; omega⟩
  · exact ⟨524288, by unfold Pair; omega⟩
  · exact ⟨1048576, by unfold Pair; omega⟩
  · exact ⟨2097152, by unfold Pair; omega⟩
  · exact ⟨4194304, by unfold Pair; omega⟩
  · exact ⟨8388608, by unfold Pair; omega⟩
  · exact ⟨16777216, by unfold Pair; omega⟩
theorem check_ok {e s : Int} (h0 : 12 ≤ e) (h1 : e ≤ 24) (h2 : 1 ≤ s) (h3 : s ≤ 65536) : config_Check.f e s = some 0 := by
  unfold config_Check.f; rw [if_neg (by omega), if_neg (by omega), if_neg (by omega), if_neg (by omega)]
theorem check_no {e s : Int} (h : ¬ (12 ≤ e ∧ e ≤ 24 ∧ 1 ≤ s ∧ s ≤ 65536)) : config_Check.f e s = some 1 := by
  unfold config_Check.f
  by_cases a : e < 12
  · rw [if_pos a]
  · rw [if_neg a]
    by_cases b : e > 24
    · rw [if_pos b]
    · rw [if_neg b]
      by_cases c : s < 1
      · rw [if_pos c]
      · rw [if_neg c, if_pos (by omega)]
theorem size_ok {e s S : Int} (h : Pair e S) (h2 : 1 ≤ s) (h3 : s ≤ 65536) : config_Size.f e s = some S := by
  have hc : config_Check.f e s = some 0 := check_ok (by unfold Pair at h; omega) (by unfold Pair at h; omega) h2 h3
  unfold config_Size.f
  rw [hc]
  simp only [Option.bind_some, if_true]
  rw [if_pos (by unfold Pair at h; omega)]
  rcases h with ⟨rfl, rfl⟩ | ⟨rfl, rfl⟩ | ⟨rfl, rfl⟩ | ⟨rfl, rfl⟩ | ⟨rfl, rfl⟩ | ⟨rfl, rfl⟩ | ⟨rfl, rfl⟩ | ⟨rfl, rfl⟩ | ⟨rfl, rfl⟩ | ⟨rfl, rfl⟩ | ⟨rfl, rfl⟩ | ⟨rfl, rfl⟩ | ⟨rfl, rfl⟩ <;> rfl
theorem size_no {e s : Int} (h : ¬ (12 ≤ e ∧ e ≤ 24 ∧ 1 ≤ s ∧ s ≤ 65536)) : config_Size.f e s = some 0 := by
  unfold config_Size.f; rw [check_no h]; rfl
theorem may_ok {e s : Int} (h0 : 12 ≤ e) (h1 : e ≤ 24) (h2 : 1 ≤ s) (h3 : s ≤ 65536) : fascicleref08_May.f e s = some true := by
  unfold fascicleref08_May.f; rw [if_pos (by omega), if_pos (by omega), if_pos (by omega), decide_eq_true h3]
theorem may_no {e s : Int} (h : ¬ (12 ≤ e ∧ e ≤ 24 ∧ 1 ≤ s ∧ s ≤ 65536)) : fascicleref08_May.f e s = some false := by
  unfold fascicleref08_May.f
  by_cases a : e ≥ 12
  · rw [if_pos a]
    by_cases b : e ≤ 24
    · rw [if_pos b]
      by_cases c : s ≥ 1
      · rw [if_pos c, decide_eq_false (by omega)]
      · rw [if_neg c]
    · rw [if_neg b]
  · rw [if_neg a]
theorem pair_S {e S : Int} (h : Pair e S) : 4096 ≤ S ∧ S ≤ 16777216 ∧ 12 ≤ e ∧ e ≤ 24 := by unfold Pair at h; omega

end Go.Proofs.Ytnmdckgaljldhaa.LConfig
