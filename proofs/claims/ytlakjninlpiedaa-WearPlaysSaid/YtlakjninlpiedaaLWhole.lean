/- Floats: exact differences, whole numbers. -/
import Derived.Test.YtlakjninlpiedaaLRatio
set_option linter.unusedVariables false
namespace Go.Proofs.Ytlakjninlpiedaa.Fl
/-- What fits in 53 digits has a rung. -/
theorem repr (k : Nat) : ∀ m : Nat, m < 9007199254740992 → ∃ r, units r = m * 2 ^ k := by
  induction k with
  | zero =>
    intro m hm
    refine ⟨m, ?_⟩
    unfold units
    by_cases h : m < 4503599627370496
    · rw [if_pos h]; omega
    · rw [if_neg h, show m / 4503599627370496 - 1 = 0 by omega]; omega
  | succ k ih =>
    intro m hm
    by_cases h : m < 4503599627370496
    · obtain ⟨r, hr⟩ := ih (2 * m) (by omega)
      exact ⟨r, by rw [hr, Nat.pow_succ, Nat.mul_comm (2 ^ k), ← Nat.mul_assoc, Nat.mul_comm m]⟩
    · refine ⟨(k + 2) * 4503599627370496 + (m - 4503599627370496), ?_⟩
      unfold units
      rw [if_neg (by omega), show ((k + 2) * 4503599627370496 + (m - 4503599627370496)) / 4503599627370496 - 1 = k + 1 by omega, show 4503599627370496 + ((k + 2) * 4503599627370496 + (m - 4503599627370496)) % 4503599627370496 = m by omega]

/-- A number that has a rung is written as it is. -/
theorem nearest_exact {mag : Nat} {place : Int} {r : Nat} (neg : Bool) (hr : r ≤ 9218868437227405312) (h : mag * 2 ^ (place + 1074).toNat = units r * 2 ^ (-1074 - place).toNat) :
    Ieee.double.nearest neg mag place = Ieee.double.word neg r := by
  rw [nearest_eq, h, rnq_exact _ (Nat.two_pow_pos _), Nat.min_eq_left hr]

/-- A difference that has a rung. -/
theorem sub_exact {x y r : Nat} (hx : rg x < 9218868437227405312) (hy : rg y < 9218868437227405312) (sx : sg x = false) (sy : sg y = false) (hr : units r + units (rg y) = units (rg x)) :
    Ieee.double.sub x y = some r := by
  obtain ⟨m, k, e, hu, -⟩ := read_num hx
  obtain ⟨n, l, e', hv, -⟩ := read_num hy
  unfold Ieee.Format.sub
  rw [e, e', sx, sy]
  have hrr : r ≤ rg x := by
    refine Nat.le_of_not_lt fun h => ?_
    have := units_lt h; omega
  obtain ⟨c, hc⟩ : ∃ c, min k l = c := ⟨_, rfl⟩
  have hbase : min (-1074 + (k : Int)) (-1074 + (l : Int)) = -1074 + (c : Int) := by omega
  unfold Ieee.Datum.opposite Ieee.Datum.sum
  simp only [Option.map_some]
  rw [hbase]
  have e1 : (-1074 + (k : Int) - (-1074 + (c : Int))).toNat = k - c := by omega
  have e2 : (-1074 + (l : Int) - (-1074 + (c : Int))).toNat = l - c := by omega
  rw [e1, e2]
  have hp := Nat.two_pow_pos c
  have u1 : m * 2 ^ (k - c) * 2 ^ c = units (rg x) := by rw [Nat.mul_assoc, ← Nat.pow_add, Nat.sub_add_cancel (by omega), hu]
  have u2 : n * 2 ^ (l - c) * 2 ^ c = units (rg y) := by rw [Nat.mul_assoc, ← Nat.pow_add, Nat.sub_add_cancel (by omega), hv]
  have hle : n * 2 ^ (l - c) ≤ m * 2 ^ (k - c) := by
    refine Nat.le_of_mul_le_mul_right ?_ hp
    rw [u1, u2]; omega
  obtain ⟨d, hd⟩ : ∃ d, m * 2 ^ (k - c) = n * 2 ^ (l - c) + d := ⟨m * 2 ^ (k - c) - n * 2 ^ (l - c), by omega⟩
  have hd2 : d * 2 ^ c = units r := by
    have : (n * 2 ^ (l - c) + d) * 2 ^ c = units (rg x) := by rw [← hd, u1]
    rw [Nat.add_mul, u2] at this; omega
  have ht : Ieee.signed false m (k - c) + Ieee.signed (!false) n (l - c) = (d : Int) := by
    unfold Ieee.signed
    rw [if_neg (by decide), if_pos (by decide), Nat.shiftLeft_eq, Nat.shiftLeft_eq]; omega
  rw [ht]
  refine congrArg some ?_
  have hneg : (if (d : Int) = 0 then (false && !false) else decide ((d : Int) < 0)) = false := by
    by_cases h : (d : Int) = 0
    · rw [if_pos h]; rfl
    · rw [if_neg h]; exact decide_eq_false (by omega)
  rw [hneg]
  show Ieee.double.nearest false d (-1074 + (c : Int)) = r
  rw [nearest_exact (r := r) false (by omega) (by
    rw [show (-1074 + (c : Int) + 1074).toNat = c by omega, show (-1074 - (-1074 + (c : Int))).toNat = 0 by omega, hd2]; omega)]
  rfl

/-- The whole number in so many units. -/
def flr (r : Nat) : Nat := units r / up

theorem toInt_pos {x : Nat} (hx : rg x < 9218868437227405312) (sx : sg x = false) : (Ieee.double.read x).toInt .zero = some (flr (rg x) : Int) := by
  obtain ⟨m, k, e, hu, -⟩ := read_num hx
  rw [e, sx]
  unfold Ieee.Datum.toInt Ieee.Datum.integral
  simp only []
  refine congrArg some ?_
  unfold Ieee.signed Ieee.Toward.cut
  simp only [Bool.toNat_false, Nat.add_zero]
  rw [if_neg (by decide), Nat.shiftLeft_eq, Nat.shiftLeft_eq, Nat.shiftLeft_eq, Nat.pow_zero, Nat.mul_one, Nat.one_mul]
  refine congrArg Int.ofNat ?_
  have hcut : ∀ (n d : Nat), n / 2 ^ min d (n.log2 + 2) = n / 2 ^ d := by
    intro n d
    by_cases h : d ≤ n.log2 + 2
    · rw [Nat.min_eq_left h]
    · have hl : n < 2 ^ (n.log2 + 1) := Nat.lt_log2_self
      rw [Nat.min_eq_right (by omega), Nat.div_eq_of_lt (Nat.lt_of_lt_of_le hl (Nat.pow_le_pow_right (by decide) (by omega))), Nat.div_eq_of_lt (Nat.lt_of_lt_of_le hl (Nat.pow_le_pow_right (by decide) (by omega)))]
  rw [hcut]
  unfold flr
  rw [← hu, ← up_eq]
  have hlp := lp_eq
  by_cases h : k ≤ lp
  · rw [show (-1074 + (k : Int)).toNat = 0 by omega, Nat.pow_zero, Nat.mul_one, show (-(-1074 + (k : Int))).toNat = lp - k by omega]
    have : (2 : Nat) ^ lp = 2 ^ (lp - k) * 2 ^ k := by rw [← Nat.pow_add, Nat.sub_add_cancel h]
    rw [this, Nat.mul_div_mul_right _ _ (Nat.two_pow_pos k)]
  · rw [show (-(-1074 + (k : Int))).toNat = 0 by omega, Nat.pow_zero, Nat.div_one, show (-1074 + (k : Int)).toNat = k - lp by omega]
    have : (2 : Nat) ^ k = 2 ^ (k - lp) * 2 ^ lp := by rw [← Nat.pow_add, Nat.sub_add_cancel (by omega)]
    rw [this, ← Nat.mul_assoc, Nat.mul_div_cancel _ (Nat.two_pow_pos lp)]

theorem units_pow {j : Nat} (h : j ≤ 64) : units ((1023 + j) * 4503599627370496) = 2 ^ j * up := by
  unfold units up
  rw [if_neg (by omega), Nat.mul_div_cancel _ (by decide), Nat.mul_mod_left, Nat.add_zero, show (4503599627370496 : Nat) = 2 ^ 52 by decide, ← Nat.pow_add, ← Nat.pow_add]
  congr 1; have := lp_eq; omega
theorem fnat_pow {j : Nat} (h : j ≤ 64) : fnat (2 ^ j) = (1023 + j) * 4503599627370496 := by
  unfold fnat
  rw [← units_pow h]
  have := rnq_exact ((1023 + j) * 4503599627370496) (b := 1) (by decide)
  rw [Nat.mul_one] at this
  rw [this]; omega
theorem units_at {j t : Nat} (ht : t < 4503599627370496) : units ((1023 + j) * 4503599627370496 + t) = (4503599627370496 + t) * 2 ^ (1022 + j) := by
  unfold units
  rw [if_neg (by omega), show ((1023 + j) * 4503599627370496 + t) / 4503599627370496 - 1 = 1022 + j by omega, show ((1023 + j) * 4503599627370496 + t) % 4503599627370496 = t by omega]
/-- One step of the halves: what is left. -/
theorem whole_step {j r : Nat} (hj : j ≤ 63) (h1 : (1023 + j) * 4503599627370496 ≤ r) (h2 : r < (1024 + j) * 4503599627370496) :
    ∃ r', Ieee.double.sub r (fnat (2 ^ j)) = some r' ∧ r' < (1023 + j) * 4503599627370496 ∧ flr r = flr r' + 2 ^ j := by
  obtain ⟨t, rfl⟩ : ∃ t, r = (1023 + j) * 4503599627370496 + t := ⟨r - (1023 + j) * 4503599627370496, by omega⟩
  have ht : t < 4503599627370496 := by omega
  have hz : (1023 + j) * 4503599627370496 ≤ 4890909195324358656 := Nat.le_trans (Nat.mul_le_mul_right _ (show 1023 + j ≤ 1086 by omega)) (Nat.le_of_eq rfl)
  clear h1 h2
  obtain ⟨z, hzz⟩ : ∃ z, (1023 + j) * 4503599627370496 = z := ⟨_, rfl⟩
  have h9 : z < 9218868437227405312 := by omega
  have h8 : z + t < 9218868437227405312 := by omega
  obtain ⟨g1, g2⟩ := rg_of_lt (r := z + t) (by omega)
  obtain ⟨g3, g4⟩ := rg_of_lt (r := z) (by omega)
  rw [← hzz] at h9 h8 g1 g2 g3 g4
  have e1 := units_at (j := j) ht
  have e2 := units_at (j := j) (t := 0) (by decide)
  rw [Nat.add_zero] at e2
  obtain ⟨r', hr'⟩ := repr (1022 + j) t (by omega)
  have e3 := units_pow (j := j) (by omega)
  have hsum : units r' + units ((1023 + j) * 4503599627370496) = units ((1023 + j) * 4503599627370496 + t) := by
    rw [hr', e1, e2, ← Nat.add_mul, Nat.add_comm t]
  refine ⟨r', ?_, ?_, ?_⟩
  · rw [fnat_pow (by omega)]
    exact sub_exact (by rw [g1]; exact h8) (by rw [g3]; exact h9) g2 g4 (by rw [g1, g3]; exact hsum)
  · rw [← units_lt_iff, hr', e2]
    exact Nat.mul_lt_mul_of_pos_right ht (Nat.two_pow_pos _)
  · unfold flr
    rw [← hsum, e3, Nat.add_mul_div_right _ _ up_pos]
theorem flr_small {r : Nat} (h : r < 1023 * 4503599627370496) : flr r = 0 := by
  unfold flr
  refine Nat.div_eq_of_lt ?_
  have := units_lt h
  have e := units_pow (j := 0) (by decide)
  rw [Nat.add_zero, Nat.pow_zero, Nat.one_mul] at e
  omega
theorem flr_lt {j r : Nat} (hj : j ≤ 64) (h : r < (1023 + j) * 4503599627370496) : flr r < 2 ^ j := by
  unfold flr
  rw [Nat.div_lt_iff_lt_mul up_pos, ← units_pow hj]
  exact units_lt h
theorem halfr_ge {r : Nat} (h : 4895412794951729152 ≤ r) (h' : r ≤ 9218868437227405312) : 4890909195324358656 ≤ halfr r := by
  unfold halfr
  split
  · omega
  · have := fdiv_mono (x := 4895412794951729152) (x' := r) (y := 4611686018427387904) (y' := 4611686018427387904) (by decide) (by decide) h (Nat.le_refl _)
    refine Nat.le_trans ?_ this
    unfold fdiv
    have e := units_two64
    have e2 := units_pow (j := 63) (by decide)
    have : rnq (units 4895412794951729152 * up) (units 4611686018427387904) = 4890909195324358656 := by
      rw [e, units_twof]
      have hup := up_pos
      rw [rnq_congr (a' := units ((1023 + 63) * 4503599627370496)) (b' := 1) (by omega) (by decide) (by
        rw [e2, show (18446744073709551616 : Nat) = 2 ^ 63 * 2 by decide]
        generalize (2 : Nat) ^ 63 = z
        rw [Nat.mul_one]; simp only [Nat.mul_assoc, Nat.mul_comm, Nat.mul_left_comm])]
      have := rnq_exact ((1023 + 63) * 4503599627370496) (b := 1) (by decide)
      rw [Nat.mul_one] at this
      rw [this]
    rw [this]; decide
theorem halfr_mid {r : Nat} (h : 4890909195324358656 ≤ r) (h' : r < 4895412794951729152) : halfr r = r - 4503599627370496 ∧ flr r = 2 * flr (r - 4503599627370496) := by
  obtain ⟨t, rfl⟩ : ∃ t, r = (1023 + 63) * 4503599627370496 + t := ⟨r - 4890909195324358656, by omega⟩
  have ht : t < 4503599627370496 := by omega
  have e1 := units_at (j := 63) ht
  have e2 := units_at (j := 62) ht
  have hs : (1023 + 63) * 4503599627370496 + t - 4503599627370496 = (1023 + 62) * 4503599627370496 + t := by omega
  have e3 : units ((1023 + 63) * 4503599627370496 + t) = units ((1023 + 62) * 4503599627370496 + t) * 2 := by
    rw [e1, e2, show 1022 + 63 = 10 + lp + 1 by rw [lp_eq], show 1022 + 62 = 10 + lp by rw [lp_eq], Nat.pow_succ, Nat.mul_assoc]
  rw [hs]
  have hup := up_pos
  constructor
  · unfold halfr
    rw [if_neg (by omega)]
    unfold fdiv
    rw [units_twof, e3, rnq_congr (a' := units ((1023 + 62) * 4503599627370496 + t)) (b' := 1) (by omega) (by decide) (by
        rw [Nat.mul_one, Nat.mul_assoc])]
    have := rnq_exact ((1023 + 62) * 4503599627370496 + t) (b := 1) (by decide)
    rw [Nat.mul_one] at this
    rw [this]; omega
  · unfold flr
    rw [e1, e2, ← up_eq]
    have a1 : (4503599627370496 + t) * 2 ^ (1022 + 63) = (4503599627370496 + t) * 2048 * 2 ^ lp := by
      rw [show 1022 + 63 = 11 + lp by rw [lp_eq], Nat.pow_add, ← Nat.mul_assoc, show (2048 : Nat) = 2 ^ 11 by decide]
    have a2 : (4503599627370496 + t) * 2 ^ (1022 + 62) = (4503599627370496 + t) * 1024 * 2 ^ lp := by
      rw [show 1022 + 62 = 10 + lp by rw [lp_eq], Nat.pow_add, ← Nat.mul_assoc, show (1024 : Nat) = 2 ^ 10 by decide]
    rw [a1, a2, Nat.mul_div_cancel _ (Nat.two_pow_pos lp), Nat.mul_div_cancel _ (Nat.two_pow_pos lp)]
    omega
/-- The whole number. -/
def wholev (x most : Nat) : Nat := if nan x ∨ rv x < 4607182418800017408 then 0 else if 4895412794951729152 ≤ x then most else min most (flr x)
end Go.Proofs.Ytlakjninlpiedaa.Fl
