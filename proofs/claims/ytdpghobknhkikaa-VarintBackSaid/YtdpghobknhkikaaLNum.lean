/- Plain laws of numbers: the document's writing is the program's. -/
import Derived.Test.YtdpghobknhkikaaLVarint
import Derived.Test.YtdpghobknhkikaaGx4
import Derived.OpenShut
set_option linter.unusedVariables false
set_option linter.unusedSimpArgs false
namespace Go.Proofs.Ytdpghobknhkikaa.Sep
open Go Go.RowKit Go.Proofs.Ytdpghobknhkikaa.G Go.Proofs.YtdpghobknhkikaaW.PrintWords Go.Proofs.YtdpghobknhkikaaW.PrintLast Go.Proofs.YtdpghobknhkikaaW.PrintMore Go.Proofs.Ytdpghobknhkikaa.PureKit

theorem venc_len10' (x : Nat) (hx : x < 18446744073709551616) : (venc x).length ≤ 10 := venc_len 10 x (Nat.lt_of_lt_of_le hx (by decide)) (by decide)
theorem refnum_f : ∀ (d x : Nat), x < 128 ^ d → x < 18446744073709551616 → Ev (fun k => fascicleref02_Num.f k (x : Int)) (strOfNums (venc x)) := by
  intro d
  induction d with
  | zero =>
    intro x hx _
    have : x = 0 := by simpa using hx
    subst this
    refine Ev.step (f := fun _ => some (strOfNums (venc 0))) (fun k => ?_) (Ev.now _)
    simp only [fascicleref02_Num.f]
    rw [if_pos (by decide), venc_small (by decide)]
    rfl
  | succ d ih =>
    intro x hx hx2
    by_cases h : x < 128
    · refine Ev.step (f := fun _ => some (strOfNums (venc x))) (fun k => ?_) (Ev.now _)
      simp only [fascicleref02_Num.f]
      rw [if_pos (by omega), venc_small h, show (x : Int) % 256 = (x : Int) by omega]
    · have hr := ih (x / 128) (by rw [Nat.div_lt_iff_lt_mul (by omega), ← Nat.pow_succ]; exact hx) (by omega)
      have e1 : Int.tmod (x : Int) 128 = ((x % 128 : Nat) : Int) := by rw [tmod128 _ (by omega)]; omega
      have e2 : Int.tdiv (x : Int) 128 = ((x / 128 : Nat) : Int) := by rw [Int.tdiv_eq_ediv_of_nonneg (by omega)]; omega
      have hlen := venc_len10' (x / 128) (by omega)
      refine Ev.step (f := fun k => (fascicleref02_Num.f k ((x / 128 : Nat) : Int)).bind fun t => if (strOfNums [((x % 128 + 128 : Nat) : Int)]).size + t.size ≤ 9223372036854775807 then some (strOfNums [((x % 128 + 128 : Nat) : Int)] ++ t) else none) (fun k => ?_) (Ev.bind hr (Ev.congr (fun _ => ?_) (Ev.now _)))
      · simp only [fascicleref02_Num.f]
        rw [if_neg (by omega), e1, e2, wu64 (x := 128 + ((x % 128 : Nat) : Int)) (by omega) (by omega), wu64 (x := ((x / 128 : Nat) : Int)) (by omega) (by omega), show (128 + ((x % 128 : Nat) : Int)) % 256 = ((x % 128 + 128 : Nat) : Int) by omega]
        rfl
      · rw [if_pos (by rw [nums_size, nums_size]; simp only [List.length_cons, List.length_nil]; omega), PureKit.nums_append, venc_big h]
        rfl
theorem refnum (x : Nat) (hx : x < 18446744073709551616) : Ev (fun k => fascicleref02_Num.f k (x : Int)) (strOfNums (venc x)) := refnum_f 10 x (Nat.lt_of_lt_of_le hx (by decide)) hx
theorem refnum0 (x : Nat) (hx : x < 18446744073709551616) : Ev (fun k => fascicleref02_Num.f k (x : Int)) (strOfNums (venc x)) := refnum x hx

end Go.Proofs.Ytdpghobknhkikaa.Sep
