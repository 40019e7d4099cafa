/- LRefNum LNum, in one text (merge.py). -/
import Derived.Test.YtnmdckgaljldhaaMBuf
import Derived.Test.YtnmdckgaljldhaaGx6
import Derived.Test.YtnmdckgaljldhaaPureKit
import Derived.Test.YtnmdckgaljldhaaGx7
import Derived.OpenShut
/- fascicleref01.Num. -/
set_option linter.unusedVariables false
set_option linter.unusedSimpArgs false
namespace Go.Proofs.Ytnmdckgaljldhaa.G
open Go Go.RowKit Go.Proofs.YtnmdckgaljldhaaW.PrintWords Go.Proofs.YtnmdckgaljldhaaW.PrintLast Go.Proofs.YtnmdckgaljldhaaW.PrintMore Go.Proofs.Ytnmdckgaljldhaa.PureKit Go.Proofs.Ytnmdckgaljldhaa.Sep

theorem refn_l0 (n : Nat) (hn : n ≤ 8) : ∀ (d i : Nat) (x : Int) (a : List Int), i + d = n → 0 ≤ x → x < 18446744073709551616 → a.length + d ≤ 100 → Ev (fun k => fascicleref01_Num.l0 k x (strOfNums a) (n : Int) (i : Int)) (strOfNums (a ++ nbytes d x)) := by
  intro d
  induction d with
  | zero =>
    intro i x a hi h0 h1 ha
    refine Ev.step (f := fun _ => some (strOfNums (a ++ nbytes 0 x))) (fun k => ?_) (Ev.now _)
    simp only [fascicleref01_Num.l0]
    rw [if_neg (by omega), nbytes, List.append_nil]
  | succ d ih =>
    intro i x a hi h0 h1 ha
    refine Ev.step (fun k => ?_) (Ev.eq (ih (i + 1) (x / 256) (a ++ [x % 256]) (by omega) (by omega) (by omega) (by simp; omega)) (by simp [nbytes]))
    simp only [fascicleref01_Num.l0]
    rw [if_pos (by omega), Int.tmod_eq_emod_of_nonneg h0, Int.tdiv_eq_ediv_of_nonneg h0]
    simp only [Option.bind_some]
    rw [if_pos (by rw [nums_size, nums_size]; simp only [List.length_cons, List.length_nil]; omega), PureKit.nums_append, wu64 (by omega) (by omega), w64 (by omega) (by omega), show x % 256 % 256 = x % 256 by omega]
    rfl
theorem refn (n : Nat) (x : Int) (hn : n ≤ 8) (h0 : 0 ≤ x) (h1 : x < 18446744073709551616) : Ev (fun k => fascicleref01_Num.f k x (n : Int)) (strOfNums (nbytes n x)) := by
  have := refn_l0 n hn n 0 x [] (by omega) h0 h1 (by simp; omega)
  exact this

end Go.Proofs.Ytnmdckgaljldhaa.G

/- Plain laws of numbers: the document's writing is the program's. -/
set_option linter.unusedVariables false
set_option linter.unusedSimpArgs false
namespace Go.Proofs.Ytnmdckgaljldhaa.Sep
open Go Go.RowKit Go.Proofs.Ytnmdckgaljldhaa.G Go.Proofs.YtnmdckgaljldhaaW.PrintWords Go.Proofs.YtnmdckgaljldhaaW.PrintLast Go.Proofs.YtnmdckgaljldhaaW.PrintMore Go.Proofs.Ytnmdckgaljldhaa.PureKit

theorem venc_len10' (x : Nat) (hx : x < 18446744073709551616) : (venc x).length ≤ 10 := venc_len 10 x (Nat.lt_of_lt_of_le hx (by decide)) (by decide)
theorem tmod128n (b : Int) (h : 0 ≤ b) : Int.tmod b 128 = b % 128 := Int.tmod_eq_emod_of_nonneg h
theorem refnum_f : ∀ (d x : Nat), x < 128 ^ d → x < 18446744073709551616 → Ev (fun k => fascicleref02_Num.f k (x : Int)) (strOfNums (venc x)) := by
  intro d
  induction d with
  | zero =>
    intro x hx _
    have : x = 0 := by simpa using hx
    subst this
    refine Ev.step (f := fun _ => some (strOfNums (venc 0))) (fun k => ?_) (Ev.now _)
    simp only [fascicleref02_Num.f]
    rw [if_pos (by decide), venc_small (by decide)]
    rfl
  | succ d ih =>
    intro x hx hx2
    by_cases h : x < 128
    · refine Ev.step (f := fun _ => some (strOfNums (venc x))) (fun k => ?_) (Ev.now _)
      simp only [fascicleref02_Num.f]
      rw [if_pos (by omega), venc_small h, show (x : Int) % 256 = (x : Int) by omega]
    · have hr := ih (x / 128) (by rw [Nat.div_lt_iff_lt_mul (by omega), ← Nat.pow_succ]; exact hx) (by omega)
      have e1 : Int.tmod (x : Int) 128 = ((x % 128 : Nat) : Int) := by rw [tmod128n _ (by omega)]; omega
      have e2 : Int.tdiv (x : Int) 128 = ((x / 128 : Nat) : Int) := by rw [Int.tdiv_eq_ediv_of_nonneg (by omega)]; omega
      have hlen := venc_len10' (x / 128) (by omega)
      refine Ev.step (f := fun k => (fascicleref02_Num.f k ((x / 128 : Nat) : Int)).bind fun t => if (strOfNums [((x % 128 + 128 : Nat) : Int)]).size + t.size ≤ 9223372036854775807 then some (strOfNums [((x % 128 + 128 : Nat) : Int)] ++ t) else none) (fun k => ?_) (Ev.bind hr (Ev.congr (fun _ => ?_) (Ev.now _)))
      · simp only [fascicleref02_Num.f]
        rw [if_neg (by omega), e1, e2, wu64 (x := 128 + ((x % 128 : Nat) : Int)) (by omega) (by omega), wu64 (x := ((x / 128 : Nat) : Int)) (by omega) (by omega), show (128 + ((x % 128 : Nat) : Int)) % 256 = ((x % 128 + 128 : Nat) : Int) by omega]
        rfl
      · rw [if_pos (by rw [nums_size, nums_size]; simp only [List.length_cons, List.length_nil]; omega), PureKit.nums_append, venc_big h]
        rfl
theorem refnum (x : Nat) (hx : x < 18446744073709551616) : Ev (fun k => fascicleref02_Num.f k (x : Int)) (strOfNums (venc x)) := refnum_f 10 x (Nat.lt_of_lt_of_le hx (by decide)) hx
theorem refnum0 (x : Nat) (hx : x < 18446744073709551616) : Ev (fun k => fascicleref02_Num.f k (x : Int)) (strOfNums (venc x)) := refnum x hx

end Go.Proofs.Ytnmdckgaljldhaa.Sep
