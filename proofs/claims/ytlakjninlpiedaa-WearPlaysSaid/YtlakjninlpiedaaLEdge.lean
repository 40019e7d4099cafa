/- Floats: tests, kinds, keys, the order of the document. -/
import Derived.Test.YtlakjninlpiedaaLFloat
namespace Go.Proofs.Ytlakjninlpiedaa.Fl

/-! What is asked of two words. -/
theorem o_lt (x y : Nat) : (Ieee.double.order x y == some .lt) = decide (¬ nan x ∧ ¬ nan y ∧ rv x < rv y) := by
  rw [order_eq]
  by_cases h : nan x ∨ nan y
  · rw [if_pos h]; symm; rw [show (none == some Ordering.lt) = false from rfl]
    refine decide_eq_false ?_
    rintro ⟨h1, h2, -⟩; rcases h with h | h <;> contradiction
  · rw [if_neg h]
    have h1 : ¬ nan x := fun h' => h (.inl h')
    have h2 : ¬ nan y := fun h' => h (.inr h')
    by_cases h3 : rv x < rv y
    · rw [Int.compare_eq_lt.2 h3]; symm; exact decide_eq_true ⟨h1, h2, h3⟩
    · symm; rw [decide_eq_false (fun h' => h3 h'.2.2)]
      symm
      refine beq_false_of_ne fun h' => h3 ?_
      exact Int.compare_eq_lt.1 (Option.some.inj h')
theorem o_eq (x y : Nat) : (Ieee.double.order x y == some .eq) = decide (¬ nan x ∧ ¬ nan y ∧ rv x = rv y) := by
  rw [order_eq]
  by_cases h : nan x ∨ nan y
  · rw [if_pos h]; symm; rw [show (none == some Ordering.eq) = false from rfl]
    refine decide_eq_false ?_
    rintro ⟨h1, h2, -⟩; rcases h with h | h <;> contradiction
  · rw [if_neg h]
    have h1 : ¬ nan x := fun h' => h (.inl h')
    have h2 : ¬ nan y := fun h' => h (.inr h')
    by_cases h3 : rv x = rv y
    · rw [Int.compare_eq_eq.2 h3]; symm; exact decide_eq_true ⟨h1, h2, h3⟩
    · symm; rw [decide_eq_false (fun h' => h3 h'.2.2)]
      symm
      refine beq_false_of_ne fun h' => h3 ?_
      exact Int.compare_eq_eq.1 (Option.some.inj h')
theorem o_gt (x y : Nat) : (Ieee.double.order x y == some .gt) = decide (¬ nan x ∧ ¬ nan y ∧ rv y < rv x) := by
  rw [order_eq]
  by_cases h : nan x ∨ nan y
  · rw [if_pos h]; symm; rw [show (none == some Ordering.gt) = false from rfl]
    refine decide_eq_false ?_
    rintro ⟨h1, h2, -⟩; rcases h with h | h <;> contradiction
  · rw [if_neg h]
    have h1 : ¬ nan x := fun h' => h (.inl h')
    have h2 : ¬ nan y := fun h' => h (.inr h')
    by_cases h3 : rv y < rv x
    · rw [Int.compare_eq_gt.2 h3]; symm; exact decide_eq_true ⟨h1, h2, h3⟩
    · symm; rw [decide_eq_false (fun h' => h3 h'.2.2)]
      symm
      refine beq_false_of_ne fun h' => h3 ?_
      exact Int.compare_eq_gt.1 (Option.some.inj h')
theorem o_ge (x y : Nat) : (Ieee.double.order x y == some .gt || Ieee.double.order x y == some .eq) = decide (¬ nan x ∧ ¬ nan y ∧ rv y ≤ rv x) := by
  rw [o_gt, o_eq, ← Bool.decide_or]
  exact decide_eq_decide.2 ⟨by rintro (⟨a, b, c⟩ | ⟨a, b, c⟩) <;> exact ⟨a, b, by omega⟩, fun ⟨a, b, c⟩ => by
    rcases Int.lt_or_eq_of_le c with c | c
    · exact .inl ⟨a, b, c⟩
    · exact .inr ⟨a, b, c.symm⟩⟩
theorem o_le (x y : Nat) : (Ieee.double.order x y == some .lt || Ieee.double.order x y == some .eq) = decide (¬ nan x ∧ ¬ nan y ∧ rv x ≤ rv y) := by
  rw [o_lt, o_eq, ← Bool.decide_or]
  exact decide_eq_decide.2 ⟨by rintro (⟨a, b, c⟩ | ⟨a, b, c⟩) <;> exact ⟨a, b, by omega⟩, fun ⟨a, b, c⟩ => by
    rcases Int.lt_or_eq_of_le c with c | c
    · exact .inl ⟨a, b, c⟩
    · exact .inr ⟨a, b, c⟩⟩
/-- 'x != x'. -/
theorem o_ne (x : Nat) : (Ieee.double.order x x != some .eq) = decide (nan x) := by
  show (!(Ieee.double.order x x == some .eq)) = _
  rw [o_eq]
  by_cases h : nan x <;> simp [h]

/-- The bits, as they are written. -/
def bitsv (x : Nat) : Nat := if nan x then 9221120237041090560 else x
def keyv (x : Nat) : Nat := if 9223372036854775808 ≤ bitsv x then 18446744073709551615 - bitsv x else bitsv x + 9223372036854775808
def kindv (x : Nat) : Nat := if nan x then 6 else if x = 18442240474082181120 then 0 else if x = 9218868437227405312 then 5 else if rv x < 0 then 1 else if 0 < rv x then 4 else if 9223372036854775808 ≤ x then 2 else 3
def cmpi (a b : Nat) : Int := if a < b then -1 else if b < a then 1 else 0
def rcmp (a b : Nat) : Int :=
  if kindv a ≠ kindv b then (if kindv a < kindv b then -1 else 1)
  else if kindv a = 1 ∨ kindv a = 4 then (if ¬ nan a ∧ ¬ nan b ∧ rv a < rv b then -1 else if ¬ nan a ∧ ¬ nan b ∧ rv b < rv a then 1 else 0) else 0

theorem sg_iff {x : Nat} (h : x < 18446744073709551616) : sg x = decide (9223372036854775808 ≤ x) := by
  unfold sg
  by_cases h' : 9223372036854775808 ≤ x
  · rw [decide_eq_true h', show x / 9223372036854775808 = 1 by omega]; rfl
  · rw [decide_eq_false h', show x / 9223372036854775808 = 0 by omega]; rfl
theorem rv_eq {x : Nat} (h : x < 18446744073709551616) : rv x = if 9223372036854775808 ≤ x then 9223372036854775808 - (x : Int) else x := by
  unfold rv rg; rw [sg_iff h]
  by_cases h' : 9223372036854775808 ≤ x
  · rw [if_pos (decide_eq_true h'), if_pos h']; omega
  · rw [if_neg (by simpa using h'), if_neg h']; omega
theorem nan_iff {x : Nat} : nan x ↔ 9218868437227405312 < x % 9223372036854775808 := Iff.rfl

theorem bitsv_lt {x : Nat} (h : x < 18446744073709551616) : bitsv x < 18446744073709551616 := by unfold bitsv; split <;> omega
theorem keyv_lt {x : Nat} (h : x < 18446744073709551616) : keyv x < 18446744073709551616 := by have := bitsv_lt h; unfold keyv; split <;> omega

theorem kcls {x : Nat} (h : x < 18446744073709551616) :
    (nan x ∧ kindv x = 6 ∧ keyv x = 18444492273895866368) ∨
    (¬ nan x ∧ kindv x = 0 ∧ keyv x = 4503599627370495 ∧ rv x = -9218868437227405312) ∨
    (¬ nan x ∧ kindv x = 1 ∧ rv x < 0 ∧ -9218868437227405312 < rv x ∧ (keyv x : Int) = 9223372036854775807 + rv x) ∨
    (¬ nan x ∧ kindv x = 2 ∧ keyv x = 9223372036854775807 ∧ rv x = 0) ∨
    (¬ nan x ∧ kindv x = 3 ∧ keyv x = 9223372036854775808 ∧ rv x = 0) ∨
    (¬ nan x ∧ kindv x = 4 ∧ 0 < rv x ∧ rv x < 9218868437227405312 ∧ (keyv x : Int) = 9223372036854775808 + rv x) ∨
    (¬ nan x ∧ kindv x = 5 ∧ keyv x = 18442240474082181120 ∧ rv x = 9218868437227405312) := by
  unfold kindv keyv bitsv
  by_cases hn : nan x
  · simp only [if_pos hn]; exact .inl ⟨hn, trivial, by decide⟩
  · refine .inr ?_
    simp only [if_neg hn]
    rw [nan_iff] at hn
    rw [nan_iff]
    by_cases h1 : x = 18442240474082181120
    · subst h1; exact .inl ⟨hn, rfl, by decide, by rw [rv_eq h]; decide⟩
    refine .inr ?_
    rw [if_neg h1]
    by_cases h2 : x = 9218868437227405312
    · subst h2; exact .inr (.inr (.inr (.inr ⟨hn, rfl, by decide, by rw [rv_eq h]; decide⟩)))
    rw [if_neg h2, rv_eq h]
    by_cases h3 : 9223372036854775808 ≤ x
    · simp only [if_pos h3]
      by_cases h4 : (9223372036854775808 : Int) - x < 0
      · rw [if_pos h4]; exact .inl ⟨hn, rfl, h4, by omega, by omega⟩
      · rw [if_neg h4, if_neg (by omega)]; exact .inr (.inl ⟨hn, rfl, by omega, by omega⟩)
    · simp only [if_neg h3]
      rw [if_neg (by omega)]
      by_cases h4 : 0 < (x : Int)
      · rw [if_pos h4]; exact .inr (.inr (.inr (.inl ⟨hn, rfl, h4, by omega, by omega⟩)))
      · rw [if_neg h4]; exact .inr (.inr (.inl ⟨hn, rfl, by omega, by omega⟩))

theorem rcmp_eq {a b : Nat} (ha : a < 18446744073709551616) (hb : b < 18446744073709551616) : rcmp a b = cmpi (keyv a) (keyv b) := by
  have A := kcls ha
  have B := kcls hb
  unfold rcmp cmpi
  clear ha hb
  rcases A with ⟨n1, k1, y1⟩ | ⟨n1, k1, y1, z1⟩ | ⟨n1, k1, y1, z1, t1⟩ | ⟨n1, k1, y1, z1⟩ | ⟨n1, k1, y1, z1⟩ | ⟨n1, k1, y1, z1, t1⟩ | ⟨n1, k1, y1, z1⟩ <;>
  rcases B with ⟨n2, k2, y2⟩ | ⟨n2, k2, y2, z2⟩ | ⟨n2, k2, y2, z2, t2⟩ | ⟨n2, k2, y2, z2⟩ | ⟨n2, k2, y2, z2⟩ | ⟨n2, k2, y2, z2, t2⟩ | ⟨n2, k2, y2, z2⟩ <;>
  (simp [k1, k2, n1, n2]) <;> (try omega)
end Go.Proofs.Ytlakjninlpiedaa.Fl
