/- Facts of the numbers that varint.Get reads. -/
import Derived.Test.YtdpghobknhkikaaHGet
set_option linter.unusedVariables false
set_option linter.unusedSimpArgs false
namespace Go.Proofs.Ytdpghobknhkikaa.Sep
open Go Go.RowKit Go.Proofs.YtdpghobknhkikaaW.PrintWords Go.Proofs.YtdpghobknhkikaaW.PrintLast Go.Proofs.YtdpghobknhkikaaW.PrintMore Go.Proofs.Ytdpghobknhkikaa.PureKit

theorem vgo_facts : ∀ (k i : Nat) (s : List Int) (x : Int) (a : Nat), i + k = 10 → 0 ≤ x → x < 128 ^ i → Bytes s →
    match vgo k i s x a with
    | .ok y a2 => 0 ≤ y ∧ y < 18446744073709551616 * 64 ∧ a ≤ a2 ∧ a2 ≤ a + s.length
    | .bad e a2 => e ≠ 0 ∧ a ≤ a2 ∧ a2 ≤ a + s.length := by
  intro k
  induction k with
  | zero =>
    intro i s x a hi h0 h1 _
    have : i = 10 := by omega
    subst this
    simp only [vgo]
    refine ⟨h0, ?_, Nat.le_refl _, by omega⟩
    have : (128 : Int) ^ 10 = 18446744073709551616 * 64 := by decide
    omega
  | succ k ih =>
    intro i s x a hi h0 h1 hb
    rcases s with _ | ⟨b, s⟩
    · simp [vgo]
    have hbb := hb.head
    have hp : (0 : Int) ≤ b % 128 * 128 ^ i := Int.mul_nonneg (by omega) (Int.pow_nonneg (by decide))
    have hp2 : b % 128 * 128 ^ i ≤ 127 * 128 ^ i := Int.mul_le_mul_of_nonneg_right (by omega) (Int.pow_nonneg (by decide))
    have hup : (128 : Int) ^ (i + 1) ≤ 128 ^ 10 := by
      have := Nat.pow_le_pow_right (show 0 < 128 by decide) (show i + 1 ≤ 10 by omega)
      exact_mod_cast this
    have h10 : (128 : Int) ^ 10 = 18446744073709551616 * 64 := by decide
    unfold vgo
    by_cases c1 : i = 9 ∧ 1 < b
    · rw [if_pos c1]
      simp
    rw [if_neg c1]
    by_cases c2 : 128 ≤ b
    · rw [if_pos c2]
      rw [show b % 128 = b - 128 by omega] at hp hp2
      have := ih (i + 1) s (x + (b - 128) * 128 ^ i) (a + 1) (by omega) (by omega) (by rw [pow128]; omega) hb.tail
      revert this
      cases vgo k (i + 1) s (x + (b - 128) * 128 ^ i) (a + 1) with
      | ok y a2 => simp only [List.length_cons]; omega
      | bad e a2 => simp only [List.length_cons]; intro h; exact ⟨h.1, by omega, by omega⟩
    rw [if_neg c2]
    by_cases c3 : b = 0 ∧ 0 < i
    · rw [if_pos c3]
      simp
    rw [if_neg c3]
    rw [show b % 128 = b by omega] at hp hp2
    rw [pow128] at hup
    simp only [List.length_cons]
    omega
theorem vgo_small : ∀ (k i : Nat) (s : List Int) (x : Int) (a : Nat) (y : Int) (a2 : Nat), i + k = 10 → 0 ≤ x → x < 128 ^ i → Bytes s → k ≠ 0 → vgo k i s x a = .ok y a2 → y < 18446744073709551616 := by
  intro k
  induction k with
  | zero => intro i s x a y a2 _ _ _ _ h; exact absurd rfl h
  | succ k ih =>
    intro i s x a y a2 hi h0 h1 hb _ h
    rcases s with _ | ⟨b, s⟩
    · simp [vgo] at h
    have hbb := hb.head
    have hp : (0 : Int) ≤ b % 128 * 128 ^ i := Int.mul_nonneg (by omega) (Int.pow_nonneg (by decide))
    have hp2 : b % 128 * 128 ^ i ≤ 127 * 128 ^ i := Int.mul_le_mul_of_nonneg_right (by omega) (Int.pow_nonneg (by decide))
    unfold vgo at h
    by_cases c1 : i = 9 ∧ 1 < b
    · rw [if_pos c1] at h
      cases h
    rw [if_neg c1] at h
    by_cases c2 : 128 ≤ b
    · rw [if_pos c2] at h
      rw [show b % 128 = b - 128 by omega] at hp hp2
      have hk : k ≠ 0 := by omega
      exact ih (i + 1) s _ (a + 1) y a2 (by omega) (by omega) (by rw [pow128]; omega) hb.tail hk h
    rw [if_neg c2] at h
    by_cases c3 : b = 0 ∧ 0 < i
    · rw [if_pos c3] at h
      cases h
    rw [if_neg c3] at h
    rw [show b % 128 = b by omega] at hp hp2
    cases h
    by_cases h9 : i = 9
    · subst h9
      have : b * 128 ^ 9 ≤ 1 * 128 ^ 9 := Int.mul_le_mul_of_nonneg_right (by omega) (by decide)
      have h9 : (128 : Int) ^ 9 = 9223372036854775808 := by decide
      omega
    · have hup : (128 : Int) ^ (i + 1) ≤ 128 ^ 9 := by
        have := Nat.pow_le_pow_right (show 0 < 128 by decide) (show i + 1 ≤ 9 by omega)
        exact_mod_cast this
      have h9 : (128 : Int) ^ 9 = 9223372036854775808 := by decide
      rw [pow128] at hup
      omega
theorem vget_ok {l : List Int} {at_ : Nat} {y : Int} {a2 : Nat} (hb : Bytes l) (hat : at_ ≤ l.length) (h : vget l at_ = .ok y a2) : 0 ≤ y ∧ y < 18446744073709551616 ∧ at_ ≤ a2 ∧ a2 ≤ l.length := by
  have h1 := vgo_facts 10 0 (l.drop at_) 0 at_ (by decide) (by decide) (by decide) (hb.drop _)
  have h2 := vgo_small 10 0 (l.drop at_) 0 at_ y a2 (by decide) (by decide) (by decide) (hb.drop _) (by decide) h
  unfold vget at h
  rw [h] at h1
  simp only [List.length_drop] at h1
  exact ⟨h1.1, h2, h1.2.2.1, by omega⟩
theorem vget_bad {l : List Int} {at_ : Nat} {e : Int} {a2 : Nat} (hb : Bytes l) (hat : at_ ≤ l.length) (h : vget l at_ = .bad e a2) : e ≠ 0 ∧ at_ ≤ a2 ∧ a2 ≤ l.length := by
  have h1 := vgo_facts 10 0 (l.drop at_) 0 at_ (by decide) (by decide) (by decide) (hb.drop _)
  unfold vget at h
  rw [h] at h1
  simp only [List.length_drop] at h1
  exact ⟨h1.1, h1.2.1, by omega⟩

end Go.Proofs.Ytdpghobknhkikaa.Sep
