/- varint.Size: how many bytes a number has. -/
import Derived.Test.YtdpghobknhkikaaHVarint
import Derived.Test.YtdpghobknhkikaaGx5
set_option linter.unusedVariables false
set_option linter.unusedSimpArgs false
namespace Go.Proofs.Ytdpghobknhkikaa.Sep
open Go Go.RowKit Go.Proofs.Ytdpghobknhkikaa.G Go.Proofs.YtdpghobknhkikaaW.PrintWords Go.Proofs.YtdpghobknhkikaaW.PrintLast Go.Proofs.YtdpghobknhkikaaW.PrintMore Go.Proofs.Ytdpghobknhkikaa.PureKit

theorem vsize_l0 : ∀ (k x n : Nat), x < 128 ^ k → n + k ≤ 100 → varint_Size.l0 (k + 1) (x : Int) (n : Int) = some ((n : Int) + (venc x).length - 1) := by
  intro k
  induction k with
  | zero =>
    intro x n hx hn
    have : x = 0 := by simpa using hx
    subst this
    simp [varint_Size.l0, venc_small]
  | succ k ih =>
    intro x n hx hn
    unfold varint_Size.l0
    by_cases h : x < 128
    · rw [if_neg (by omega), venc_small h]
      simp
    · rw [if_pos (by omega), venc_big h, show ((x : Int) / 128) = ((x / 128 : Nat) : Int) by omega, w64 (by omega) (by omega), show ((n : Int) + 1) = ((n + 1 : Nat) : Int) by omega,
        ih (x / 128) (n + 1) (by rw [Nat.div_lt_iff_lt_mul (by omega), ← Nat.pow_succ]; exact hx) (by omega)]
      simp
      omega
theorem vsize_ev (x : Nat) (hx : x < 18446744073709551616) : varint_Size.f 11 (x : Int) = some ((venc x).length : Int) := by
  have := vsize_l0 10 x 1 (Nat.lt_of_lt_of_le hx (by decide)) (by decide)
  unfold varint_Size.f
  rw [show (1 : Int) = ((1 : Nat) : Int) from rfl, this]
  congr 1
  omega

end Go.Proofs.Ytdpghobknhkikaa.Sep
