/- fasciclelaw02.VarintShort holds: how many bytes a number has; for every input, no condition. -/
import Derived.Test.YtdpghobknhkikaaGx3
import Derived.Test.YtdpghobknhkikaaPureKit
import Derived.Test.YtdpghobknhkikaaHLives02
import Derived.OpenShut
set_option linter.unusedVariables false
namespace Go.Proofs.Ytdpghobknhkikaa.LVarint
open Go.RowKit Go.Proofs.Ytdpghobknhkikaa.G Go.Proofs.YtdpghobknhkikaaW.PrintWords Go.Proofs.YtdpghobknhkikaaW.PrintLast Go.Proofs.YtdpghobknhkikaaW.PrintMore Go.Proofs.Ytdpghobknhkikaa.PureKit

def vsize (x : Nat) : Nat := if x < 128 then 1 else vsize (x / 128) + 1
theorem vsize_small {x : Nat} (h : x < 128) : vsize x = 1 := by rw [vsize, if_pos h]
theorem vsize_big {x : Nat} (h : ¬ x < 128) : vsize x = vsize (x / 128) + 1 := by rw [vsize, if_neg h]
theorem vsize_pos (x : Nat) : 1 ≤ vsize x := by
  by_cases h : x < 128
  · rw [vsize_small h]; exact Nat.le_refl _
  · rw [vsize_big h]; omega
theorem vsize_up : ∀ (N x : Nat), x ≤ N → x < 128 ^ vsize x := by
  intro N
  induction N using Nat.strongRecOn with
  | _ N ih =>
  intro x hx
  by_cases h : x < 128
  · rw [vsize_small h]; simpa using h
  · rw [vsize_big h, Nat.pow_succ]
    have := ih (x / 128) (by omega) (x / 128) (Nat.le_refl _)
    omega
theorem vsize_lo : ∀ (N x : Nat), x ≤ N → 1 < vsize x → 128 ^ (vsize x - 1) ≤ x := by
  intro N
  induction N using Nat.strongRecOn with
  | _ N ih =>
  intro x hx h1
  by_cases h : x < 128
  · rw [vsize_small h] at h1; omega
  · rw [vsize_big h] at h1 ⊢
    by_cases h2 : 1 < vsize (x / 128)
    · have h3 := ih (x / 128) (by omega) (x / 128) (Nat.le_refl _) h2
      have h4 : 128 ^ (vsize (x / 128) + 1 - 1) = 128 ^ (vsize (x / 128) - 1) * 128 := by rw [← Nat.pow_succ]; congr 1; omega
      rw [h4]
      omega
    · have h5 : vsize (x / 128) = 1 := by have := vsize_pos (x / 128); omega
      rw [h5]; simp; omega
theorem vsize_mono : ∀ (N x y : Nat), y ≤ N → x ≤ y → vsize x ≤ vsize y := by
  intro N
  induction N using Nat.strongRecOn with
  | _ N ih =>
  intro x y hy hxy
  by_cases h : x < 128
  · rw [vsize_small h]; exact vsize_pos y
  · rw [vsize_big h, vsize_big (x := y) (by omega)]
    have := ih (y / 128) (by omega) (x / 128) (y / 128) (Nat.le_refl _) (Nat.div_le_div_right hxy)
    omega
theorem vsize_le {x : Nat} (h : x < 18446744073709551616) : vsize x ≤ 10 := by
  rcases Nat.lt_or_ge 10 (vsize x) with h1 | h1
  · have h2 := vsize_lo x x (Nat.le_refl _) (by omega)
    have h3 : 128 ^ 10 ≤ 128 ^ (vsize x - 1) := Nat.pow_le_pow_right (by omega) (by omega)
    have h4 : (18446744073709551616 : Nat) ≤ 128 ^ 10 := by decide
    omega
  · exact h1

theorem size_l0 : ∀ (m x n : Nat), x < 128 ^ (m + 1) → n + m ≤ 1000 → Ev (fun k => varint_Size.l0 k (x : Int) (n : Int)) ((n + vsize x - 1 : Nat) : Int) := by
  intro m
  induction m with
  | zero =>
    intro x n hx hn
    have h : x < 128 := by simpa using hx
    refine Ev.step (f := fun _ => some ((n : Nat) : Int)) (fun k => ?_) (Ev.eq (Ev.now _) ?_)
    · simp only [varint_Size.l0]; rw [if_neg (by omega)]
    · rw [vsize_small h]; rfl
  | succ m ih =>
    intro x n hx hn
    by_cases h : x < 128
    · refine Ev.step (f := fun _ => some ((n : Nat) : Int)) (fun k => ?_) (Ev.eq (Ev.now _) ?_)
      · simp only [varint_Size.l0]; rw [if_neg (by omega)]
      · rw [vsize_small h]; rfl
    · have hv := vsize_pos (x / 128)
      have := ih (x / 128) (n + 1) (by rw [Nat.div_lt_iff_lt_mul (by omega), ← Nat.pow_succ]; exact hx) (by omega)
      refine Ev.step (fun k => ?_) (Ev.eq this ?_)
      · simp only [varint_Size.l0]; rw [if_pos (by omega), w64 (by omega) (by omega)]; rfl
      · rw [vsize_big h]; congr 1; omega
theorem size_f (x : Nat) (h : x < 18446744073709551616) : Ev (fun k => varint_Size.f k (x : Int)) ((vsize x : Nat) : Int) := by
  have := size_l0 9 x 1 (Nat.lt_of_lt_of_le h (by decide)) (by omega)
  unfold varint_Size.f
  refine Ev.eq this ?_
  congr 1; omega

theorem shr7 (x n : Nat) (h : n ≤ 9) (z : Int) (hz : z = 7 * n) : shr .u64 (x : Int) z = ((x / 128 ^ n : Nat) : Int) := by
  subst hz
  unfold shr
  have h1 : min ((7 * (n : Int)).toNat) IntKind.u64.bits = 7 * n := by
    have : IntKind.u64.bits = 64 := rfl
    omega
  rw [h1, show (2 : Int) ^ (7 * n) = ((128 ^ n : Nat) : Int) by rw [Int.pow_mul]; simp]
  omega

theorem short_law (x y : Nat) (hx : x < 18446744073709551616) (hy : y < 18446744073709551616) : Ev (fun k => fasciclelaw02_VarintShort.f k (x : Int) (y : Int)) true := by
  have h1 := vsize_pos x
  have h10 := vsize_le hx
  have hup := vsize_up x x (Nat.le_refl _)
  have hlo := vsize_lo x x (Nat.le_refl _)
  have hmono := vsize_mono y x y (Nat.le_refl _)
  have sx := size_f x hx
  have sy := size_f y hy
  have hend : Ev (fun k => if (x : Int) ≤ (y : Int) then ((varint_Size.f k (y : Int)).bind fun t => (some ((decide ((x : Int) ≤ (y : Int))) == (decide (((vsize x : Nat) : Int) ≤ t))))) else (some ((decide ((x : Int) ≤ (y : Int))) == false))) true := by
    by_cases hxy : x ≤ y
    · refine Ev.congr (f := fun k => (varint_Size.f k (y : Int)).bind fun t => (some ((decide ((x : Int) ≤ (y : Int))) == (decide (((vsize x : Nat) : Int) ≤ t))))) (fun k => ?_) ?_
      · rw [if_pos (by omega)]
      · refine Ev.bind (f := fun _ t => (some ((decide ((x : Int) ≤ (y : Int))) == (decide (((vsize x : Nat) : Int) ≤ t))))) sy (Ev.eq (Ev.now _) ?_)
        rw [decide_eq_true (by omega), decide_eq_true (by have := hmono hxy; omega)]; rfl
    · refine Ev.congr (f := fun _ => some true) (fun k => ?_) (Ev.now _)
      rw [if_neg (by omega), decide_eq_false (by omega)]; rfl
  unfold fasciclelaw02_VarintShort.f
  simp only [fasciclelaw02_lives.f, Option.bind_some, if_true]
  refine Ev.bind sx ?_
  generalize hn : vsize x = n at *
  have hdiv0 : x / 128 ^ n = 0 := Nat.div_eq_of_lt hup
  have hgt : 1 < n → ¬ x / 128 ^ (n - 1) = 0 := fun h e => by
    have h2 := hlo h
    have h3 : 0 < 128 ^ (n - 1) := Nat.pow_pos (by omega)
    have := Nat.div_pos h2 h3
    omega
  refine Ev.congr (fun k => ?_) hend
  have hw1 : wrap64 (7 * (n : Int)) = 7 * (n : Int) := w64 (by omega) (by omega)
  by_cases hlt : (n : Int) < 10
  · rw [if_pos hlt, hw1, if_pos (by omega), shr7 x n (by omega) _ rfl, hdiv0, if_pos (show ((0 : Nat) : Int) = 0 from rfl)]
    by_cases h2 : (n : Int) > 1
    · have hw2 : wrap64 ((n : Int) - 1) = (n : Int) - 1 := w64 (by omega) (by omega)
      have hw3 : wrap64 (7 * ((n : Int) - 1)) = 7 * ((n : Int) - 1) := w64 (by omega) (by omega)
      rw [if_pos h2, hw2, hw3, if_pos (by omega), shr7 x (n - 1) (by omega) _ (by omega), if_neg (by have := hgt (by omega); omega), if_neg (by omega), if_neg (by omega)]
    · rw [if_neg h2, if_neg (by omega), if_neg (by omega)]
  · have hw2 : wrap64 ((n : Int) - 1) = (n : Int) - 1 := w64 (by omega) (by omega)
    have hw3 : wrap64 (7 * ((n : Int) - 1)) = 7 * ((n : Int) - 1) := w64 (by omega) (by omega)
    rw [if_neg hlt, if_pos (by omega), hw2, hw3, if_pos (by omega), shr7 x (n - 1) (by omega) _ (by omega), if_neg (by have := hgt (by omega); omega), if_neg (by omega), if_neg (by omega)]

end Go.Proofs.Ytdpghobknhkikaa.LVarint
namespace Go.Proofs.Ytdpghobknhkikaa.Pure
open Go.RowKit Go.Proofs.Ytdpghobknhkikaa.G Go.Proofs.YtdpghobknhkikaaW.PrintWords Go.Proofs.YtdpghobknhkikaaW.PrintLast

theorem VarintShort : fasciclelaw02_VarintShort.Pure := by
  intro a0 a1 h0 h1
  have b0 := bounds_u64 h0
  have b1 := bounds_u64 h1
  have := LVarint.short_law a0.toNat a1.toNat (by omega) (by omega)
  rw [Int.toNat_of_nonneg b0.1, Int.toNat_of_nonneg b1.1] at this
  exact this.rounds

end Go.Proofs.Ytdpghobknhkikaa.Pure
