/- Floats of 64 bits: how two words stand to each other. -/
import Ieee.Arith
namespace Go.Proofs.Ytlakjninlpiedaa.Fl
/-- The units of a rung: so many times the least place. -/
def units (r : Nat) : Nat := if r < 4503599627370496 then r else (4503599627370496 + r % 4503599627370496) * 2 ^ (r / 4503599627370496 - 1)

theorem units_step (r : Nat) : units r < units (r + 1) := by
  unfold units
  by_cases h : r + 1 < 4503599627370496
  · rw [if_pos (by omega), if_pos h]; omega
  · rw [if_neg h]
    by_cases h1 : r < 4503599627370496
    · rw [if_pos h1]
      have : r + 1 = 4503599627370496 := by omega
      rw [this]; simp; omega
    · rw [if_neg h1]
      by_cases h2 : (r + 1) % 4503599627370496 = 0
      · have e1 : (r + 1) / 4503599627370496 - 1 = (r / 4503599627370496 - 1) + 1 := by omega
        rw [e1, h2, Nat.pow_succ]
        have hp := Nat.two_pow_pos (r / 4503599627370496 - 1)
        have : r % 4503599627370496 < 4503599627370496 := Nat.mod_lt _ (by decide)
        calc (4503599627370496 + r % 4503599627370496) * 2 ^ (r / 4503599627370496 - 1) < (4503599627370496 * 2) * 2 ^ (r / 4503599627370496 - 1) := Nat.mul_lt_mul_of_pos_right (by omega) hp
          _ = _ := by rw [Nat.add_zero, Nat.mul_assoc, Nat.mul_comm 2]
      · have e1 : (r + 1) / 4503599627370496 = r / 4503599627370496 := by omega
        have e2 : (r + 1) % 4503599627370496 = r % 4503599627370496 + 1 := by omega
        rw [e1, e2]
        exact Nat.mul_lt_mul_of_pos_right (by omega) (Nat.two_pow_pos _)

theorem units_lt {r s : Nat} (h : r < s) : units r < units s := by
  induction h with
  | refl => exact units_step r
  | step _ ih => exact Nat.lt_trans ih (units_step _)
theorem units_lt_iff {r s : Nat} : units r < units s ↔ r < s :=
  ⟨fun h => Nat.lt_of_not_le fun h' => (Nat.lt_or_eq_of_le h').elim (fun h'' => Nat.lt_asymm h (units_lt h'')) (fun h'' => by rw [h''] at h; exact Nat.lt_irrefl _ h), units_lt⟩
theorem units_inj {r s : Nat} : units r = units s ↔ r = s :=
  ⟨fun h => by
    rcases Nat.lt_trichotomy r s with h' | h' | h'
    · exact absurd h (Nat.ne_of_lt (units_lt h'))
    · exact h'
    · exact absurd h.symm (Nat.ne_of_lt (units_lt h')), fun h => by rw [h]⟩
theorem units_zero : units 0 = 0 := rfl

/-- The sign and the rung of a word. -/
def sg (x : Nat) : Bool := x / 9223372036854775808 % 2 == 1
def rg (x : Nat) : Nat := x % 9223372036854775808
def nan (x : Nat) : Prop := 9218868437227405312 < rg x
instance (x) : Decidable (nan x) := inferInstanceAs (Decidable (_ < _))
/-- Where a word stands, as an integer. -/
def rv (x : Nat) : Int := if sg x then -(rg x : Int) else rg x

theorem d_sign : Ieee.double.signWeight = 9223372036854775808 := by decide
theorem d_bin : Ieee.double.binade = 4503599627370496 := by decide
theorem d_inf : Ieee.double.infRung = 9218868437227405312 := by decide
theorem d_least : Ieee.double.leastPlace = -1074 := by decide

theorem read_nan {x : Nat} (h : nan x) : ∃ s f, Ieee.double.read x = .nan s f := by
  unfold nan rg at h
  refine ⟨sg x, x % 9223372036854775808 - 9218868437227405312, ?_⟩
  unfold Ieee.Format.read
  simp only [d_sign, d_bin, d_inf, d_least]
  rw [if_neg (by omega), if_neg (by omega), if_neg (by omega)]; rfl
theorem read_inf {x : Nat} (h : rg x = 9218868437227405312) : Ieee.double.read x = .infinity (sg x) := by
  unfold rg at h
  unfold Ieee.Format.read
  simp only [d_sign, d_bin, d_inf, d_least]
  rw [if_neg (by omega), if_neg (by omega), if_pos (by omega)]; rfl
theorem read_num {x : Nat} (h : rg x < 9218868437227405312) : ∃ m k : Nat, Ieee.double.read x = .number (sg x) m (-1074 + k) ∧ m * 2 ^ k = units (rg x) ∧ (4503599627370496 ≤ m ∨ k = 0) ∧ m < 9007199254740992 ∧ k < 2046 := by
  unfold rg at h ⊢
  unfold Ieee.Format.read units
  simp only [d_sign, d_bin, d_inf, d_least]
  by_cases h1 : x % 9223372036854775808 < 4503599627370496
  · rw [if_pos h1, if_pos h1]
    exact ⟨x % 9223372036854775808, 0, by simp [sg], by simp, .inr rfl, by omega, by omega⟩
  · rw [if_neg h1, if_pos h, if_neg h1]
    exact ⟨4503599627370496 + x % 9223372036854775808 % 4503599627370496, x % 9223372036854775808 / 4503599627370496 - 1, by simp [sg], rfl, .inl (by omega), by omega, by omega⟩

theorem compare_same {a b c d : Int} (h1 : a < b ↔ c < d) (h2 : a = b ↔ c = d) : compare a b = compare c d := by
  show compareOfLessAndEq a b = compareOfLessAndEq c d
  unfold compareOfLessAndEq
  simp only [h1, h2]

theorem signed_cmp (s t : Bool) (m n i j base k l : Nat) (hi : base + i = k) (hj : base + j = l) (U V : Nat) (hU : m * 2 ^ k = U) (hV : n * 2 ^ l = V) :
    compare (Ieee.signed s m i) (Ieee.signed t n j) = compare (if s then -(U : Int) else U) (if t then -(V : Int) else V) := by
  have hp : (0 : Int) < ((2 ^ base : Nat) : Int) := by have := Nat.two_pow_pos base; omega
  have e1 : (if s then -(U : Int) else U) = Ieee.signed s m i * ((2 ^ base : Nat) : Int) := by
    subst hi hU; unfold Ieee.signed; rw [Nat.shiftLeft_eq, Nat.pow_add]
    have : m * (2 ^ base * 2 ^ i) = m * 2 ^ i * 2 ^ base := by rw [Nat.mul_comm (2 ^ base), Nat.mul_assoc]
    rw [this]
    cases s <;> simp [Int.neg_mul]
  have e2 : (if t then -(V : Int) else V) = Ieee.signed t n j * ((2 ^ base : Nat) : Int) := by
    subst hj hV; unfold Ieee.signed; rw [Nat.shiftLeft_eq, Nat.pow_add]
    have : n * (2 ^ base * 2 ^ j) = n * 2 ^ j * 2 ^ base := by rw [Nat.mul_comm (2 ^ base), Nat.mul_assoc]
    rw [this]
    cases t <;> simp [Int.neg_mul]
  rw [e1, e2]
  refine compare_same ⟨fun h => Int.mul_lt_mul_of_pos_right h hp, fun h => Int.lt_of_mul_lt_mul_right h (Int.le_of_lt hp)⟩ ⟨fun h => by rw [h], fun h => Int.eq_of_mul_eq_mul_right (by omega) h⟩

theorem rv_units (x y : Nat) : compare (if sg x then -(units (rg x) : Int) else units (rg x)) (if sg y then -(units (rg y) : Int) else units (rg y)) = compare (rv x) (rv y) := by
  have h1 := @units_lt_iff (rg x) (rg y)
  have h2 := @units_lt_iff (rg y) (rg x)
  have h3 := @units_inj (rg x) (rg y)
  have h4 := @units_inj (rg x) 0
  have h5 := @units_inj (rg y) 0
  rw [units_zero] at h4 h5
  unfold rv
  cases sg x <;> cases sg y <;> simp only [Bool.false_eq_true, if_false, if_true] <;> exact compare_same (by omega) (by omega)

/-- How two words stand to each other. -/
theorem order_eq (x y : Nat) : Ieee.double.order x y = if nan x ∨ nan y then none else some (compare (rv x) (rv y)) := by
  unfold Ieee.Format.order
  by_cases hx : nan x
  · rw [if_pos (.inl hx)]; obtain ⟨s, f, e⟩ := read_nan hx; rw [e]; rfl
  by_cases hy : nan y
  · rw [if_pos (.inr hy)]; obtain ⟨s, f, e⟩ := read_nan hy; rw [e]; cases Ieee.double.read x <;> rfl
  rw [if_neg (by simp [hx, hy])]
  unfold nan at hx hy
  by_cases ix : rg x = 9218868437227405312 <;> by_cases iy : rg y = 9218868437227405312
  · rw [read_inf ix, read_inf iy]
    unfold rv Ieee.Datum.order; rw [ix, iy]
    have key : ∀ c : Nat, 0 < c → ∀ s t : Bool, some (compare t.toNat s.toNat) = some (compare (if s then -(c : Int) else c) (if t then -(c : Int) else c)) := by
      intro c hc s t
      cases s <;> cases t <;> simp only [Bool.false_eq_true, if_false, if_true] <;> congr 1 <;> symm
      · show _ = Ordering.eq; rw [Int.compare_eq_eq]
      · show _ = Ordering.gt; rw [Int.compare_eq_gt]; omega
      · show _ = Ordering.lt; rw [Int.compare_eq_lt]; omega
      · show _ = Ordering.eq; rw [Int.compare_eq_eq]
    exact key _ (by decide) _ _
  · obtain ⟨m, k, e, hu, -⟩ := @read_num y (by omega)
    rw [read_inf ix, e]
    unfold rv Ieee.Datum.order; rw [ix]
    have key : ∀ (c d : Nat), d < c → ∀ s t : Bool, (some (if s then Ordering.lt else .gt)) = some (compare (if s then -(c : Int) else c) (if t then -(d : Int) else d)) := by
      intro c d hc s t
      cases s <;> simp only [Bool.false_eq_true, if_false, if_true] <;> congr 1 <;> symm
      · rw [Int.compare_eq_gt]; split <;> omega
      · rw [Int.compare_eq_lt]; split <;> omega
    exact key _ _ (by omega) _ _
  · obtain ⟨m, k, e, hu, -⟩ := @read_num x (by omega)
    rw [read_inf iy, e]
    unfold rv Ieee.Datum.order; rw [iy]
    have key : ∀ (c d : Nat), d < c → ∀ s t : Bool, (some (if s then Ordering.gt else .lt)) = some (compare (if t then -(d : Int) else d) (if s then -(c : Int) else c)) := by
      intro c d hc s t
      cases s <;> simp only [Bool.false_eq_true, if_false, if_true] <;> congr 1 <;> symm
      · rw [Int.compare_eq_lt]; split <;> omega
      · rw [Int.compare_eq_gt]; split <;> omega
    exact key _ _ (by omega) _ _
  · obtain ⟨m, k, e, hu, -⟩ := @read_num x (by omega)
    obtain ⟨n, l, e', hv, -⟩ := @read_num y (by omega)
    rw [e, e']
    show some (compare (Ieee.signed _ m (-1074 + (k : Int) - min (-1074 + (k : Int)) (-1074 + (l : Int))).toNat) (Ieee.signed _ n (-1074 + (l : Int) - min (-1074 + (k : Int)) (-1074 + (l : Int))).toNat)) = _
    rw [signed_cmp (sg x) (sg y) m n _ _ (min k l) k l (by omega) (by omega) _ _ hu hv, rv_units]
end Go.Proofs.Ytlakjninlpiedaa.Fl
