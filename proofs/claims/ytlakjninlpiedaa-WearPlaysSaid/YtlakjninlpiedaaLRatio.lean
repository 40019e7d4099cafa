/- Floats: ratios of counts, halves. -/
import Derived.Test.YtlakjninlpiedaaLRound
import Derived.Test.YtlakjninlpiedaaLEdge
set_option linter.unusedVariables false
namespace Go.Proofs.Ytlakjninlpiedaa.Fl
theorem fdiv_zero {y : Nat} : fdiv 0 y = 0 := by unfold fdiv; rw [units_zero, Nat.zero_mul, rnq_zero]; rfl
theorem rv_pos {x : Nat} (h : x < 9223372036854775808) : rv x = x := by
  rw [rv_eq (by omega), if_neg (by omega)]
theorem nan_pos {x : Nat} (h : x ≤ 9218868437227405312) : ¬ nan x := by rw [nan_iff]; omega

/-- The ratio of two counts. -/
def ratiov (p a : Nat) : Nat := if p = 0 ∧ a = 0 then 0 else if a = 0 then 9218868437227405312 else fdiv (fnat p) (fnat a)
theorem ratiov_le (p a : Nat) : ratiov p a ≤ 9218868437227405312 := by
  unfold ratiov
  split
  · omega
  split
  · omega
  · exact fdiv_le _ _
theorem ratio_div {p a : Nat} (hp : p ≤ 18446744073709551616) (ha : a ≤ 18446744073709551616) (h : ¬ (p = 0 ∧ a = 0)) : Ieee.double.div (fnat p) (fnat a) = some (ratiov p a) := by
  unfold ratiov
  rw [if_neg h]
  have fp := fnat_fin hp
  have fa := fnat_fin ha
  by_cases h0 : a = 0
  · rw [if_pos h0, h0, fnat_zero]
    have pp := fnat_pos (n := p) (by omega)
    obtain ⟨rp, sp⟩ := fnat_rg hp
    obtain ⟨m, k, e, hu, -⟩ := @read_num (fnat p) (by omega)
    have hm : m ≠ 0 := fun hm => by have := (num_zero hu).1 hm; omega
    unfold Ieee.Format.div
    have r0 : Ieee.double.read 0 = .number false 0 (-1074) := by decide
    rw [e, r0, sp]
    unfold Ieee.Datum.quotient
    simp only [if_true, if_neg hm, Option.map_some]
    decide
  · rw [if_neg h0]
    have pa := fnat_pos (n := a) (by omega)
    exact div_nonneg (by omega) (by omega) (by omega)
theorem ratiov_one {p a : Nat} (h : p ≤ a) : ratiov p a ≤ 4607182418800017408 := by
  unfold ratiov
  by_cases h0 : a = 0
  · rw [if_pos ⟨by omega, h0⟩]; omega
  · rw [if_neg (by omega), if_neg h0]
    have pa := fnat_pos (n := a) (by omega)
    exact fdiv_self (by omega) (fnat_mono h)
theorem ratiov_mono {p q a : Nat} (h : p ≤ q) : ratiov p a ≤ ratiov q a := by
  have := ratiov_le p a
  unfold ratiov at *
  by_cases h0 : a = 0
  · by_cases hp : p = 0
    · rw [if_pos ⟨hp, h0⟩]; omega
    · rw [if_neg (by omega), if_pos h0, if_neg (by omega), if_pos h0]; omega
  · rw [if_neg (by omega), if_neg h0, if_neg (by omega), if_neg h0]
    have pa := fnat_pos (n := a) (by omega)
    exact fdiv_mono (by omega) (by omega) (fnat_mono h) (Nat.le_refl _)

theorem units_twof : units 4611686018427387904 = 2 * up := by
  unfold units up
  rw [if_neg (by decide), show (4611686018427387904 : Nat) / 4503599627370496 - 1 = lp + 1 - 52 by rw [lp_eq], show (4503599627370496 : Nat) + 4611686018427387904 % 4503599627370496 = 2 ^ 52 by decide, ← Nat.pow_add, show 52 + (lp + 1 - 52) = lp + 1 by rw [lp_eq], Nat.pow_succ, Nat.mul_comm]
/-- Half of a rung. -/
def halfr (r : Nat) : Nat := if r = 9218868437227405312 then r else fdiv r 4611686018427387904
theorem halfr_le {r : Nat} (h : r ≤ 9218868437227405312) : halfr r ≤ r := by
  unfold halfr
  split
  · omega
  · unfold fdiv
    rw [units_twof]
    have hup := up_pos
    have := rnq_mono (a := units r * up) (b := 2 * up) (a' := units r) (b' := 1) (by omega) (by decide) (by
      rw [Nat.mul_one]; exact Nat.mul_le_mul_left _ (by omega))
    have e := rnq_exact r (b := 1) (by decide)
    rw [Nat.mul_one] at e
    omega
theorem halfr_inf : halfr 9218868437227405312 = 9218868437227405312 := if_pos rfl
theorem halfr_zero : halfr 0 = 0 := by unfold halfr; rw [if_neg (by decide), fdiv_zero]
theorem div_two {x : Nat} (h : ¬ nan x) : Ieee.double.div x 4611686018427387904 = some (Ieee.double.word (sg x) (halfr (rg x))) := by
  unfold halfr
  have r2 : rg 4611686018427387904 = 4611686018427387904 := by decide
  have s2 : sg 4611686018427387904 = false := by decide
  by_cases hi : rg x = 9218868437227405312
  · rw [if_pos hi, hi]
    obtain ⟨m, k, e, hu, -⟩ := @read_num 4611686018427387904 (by rw [r2]; decide)
    unfold Ieee.Format.div
    rw [e, read_inf hi, s2]
    unfold Ieee.Datum.quotient
    simp only [Option.map_some]
    refine congrArg some ?_
    unfold Ieee.Format.write
    simp only []
    rw [d_inf]; cases sg x <;> rfl
  · rw [if_neg hi]
    have hr : rg x < 9223372036854775808 := Nat.mod_lt _ (by decide)
    have := @div_fin x 4611686018427387904 (by unfold nan at h; omega) (by rw [r2]; decide) (by rw [r2]; decide)
    rw [this, r2, s2]
    unfold fdiv; cases sg x <;> rfl
theorem div_two_nan {x : Nat} (h : nan x) : Ieee.double.div x 4611686018427387904 = none := by
  obtain ⟨s, f, e⟩ := read_nan h
  unfold Ieee.Format.div
  rw [e]; cases Ieee.double.read 4611686018427387904 <;> rfl
/-- So often half. -/
def halfn : Nat → Nat → Nat
  | 0, r => r
  | n + 1, r => halfn n (halfr r)
theorem halfn_le (n : Nat) : ∀ {r : Nat}, r ≤ 9218868437227405312 → halfn n r ≤ r := by
  induction n with
  | zero => intro r _; exact Nat.le_refl _
  | succ n ih => intro r h; have := halfr_le h; have := ih (r := halfr r) (by omega); unfold halfn; omega
theorem halfn_inf (n : Nat) : halfn n 9218868437227405312 = 9218868437227405312 := by
  induction n with
  | zero => rfl
  | succ n ih => unfold halfn; rw [halfr_inf, ih]
theorem halfn_zero (n : Nat) : halfn n 0 = 0 := by
  induction n with
  | zero => rfl
  | succ n ih => unfold halfn; rw [halfr_zero, ih]
theorem word_sg_rg {x : Nat} (h : x < 18446744073709551616) : Ieee.double.word (sg x) (rg x) = x := by
  unfold Ieee.Format.word rg
  rw [d_sign, sg_iff h]
  by_cases h' : 9223372036854775808 ≤ x
  · rw [decide_eq_true h', if_pos rfl]; omega
  · rw [decide_eq_false h', if_neg (by decide)]; omega
theorem word_lt' (s : Bool) {r : Nat} (h : r < 9223372036854775808) : Ieee.double.word s r < 18446744073709551616 := by
  unfold Ieee.Format.word; rw [d_sign]; split <;> omega
end Go.Proofs.Ytlakjninlpiedaa.Fl
