/- Numbers' bytes: read again; the document's (fascicleref01.Num). (From HBack.) -/
import Derived.Test.YtnmdckgaljldhaaMCur
import Derived.Test.YtnmdckgaljldhaaMBuf
import Derived.Test.YtnmdckgaljldhaaGx1
set_option linter.unusedVariables false
set_option linter.unusedSimpArgs false
namespace Go.Proofs.Ytnmdckgaljldhaa.Tb
open Go Go.RowKit Go.Proofs.Ytnmdckgaljldhaa.G Go.Proofs.YtnmdckgaljldhaaW.PrintWords Go.Proofs.YtnmdckgaljldhaaW.PrintLast Go.Proofs.YtnmdckgaljldhaaW.PrintMore Go.Proofs.Ytnmdckgaljldhaa.PureKit Go.Proofs.Ytnmdckgaljldhaa.Sep

theorem nbT_bytes : ∀ (n : Nat) (x : Int), Bytes (nbytes n x)
  | 0, _ => Bytes.nil
  | n + 1, x => Bytes.cons (by omega) (nbT_bytes n _)
theorem nbT_modN : ∀ (n y : Nat), nbytes n ((y % 256 ^ n : Nat) : Int) = nbytes n (y : Int)
  | 0, _ => rfl
  | n + 1, y => by
    have hp : 256 ^ (n + 1) = 256 * 256 ^ n := by rw [Nat.pow_succ, Nat.mul_comm]
    have e1 : y % (256 * 256 ^ n) % 256 = y % 256 := Nat.mod_mul_right_mod _ _ _
    have e2 : y % (256 * 256 ^ n) / 256 = y / 256 % 256 ^ n := Nat.mod_mul_right_div_self _ _ _
    have e3 := nbT_modN n (y / 256)
    simp only [nbytes, List.cons.injEq]
    rw [hp]
    generalize 256 ^ n = P at *
    refine ⟨by omega, ?_⟩
    rw [show ((y % (256 * P) : Nat) : Int) / 256 = ((y % (256 * P) / 256 : Nat) : Int) by omega, e2, e3]
    congr 1
theorem nbT_mod (n : Nat) (x : Int) (h : 0 ≤ x) : nbytes n (x % ((256 ^ n : Nat) : Int)) = nbytes n x := by
  obtain ⟨y, rfl⟩ := Int.eq_ofNat_of_zero_le h
  rw [← nbT_modN n y]
  congr 1
theorem nbT_levN : ∀ (n y : Nat), lev (nbytes n (y : Int)) = ((y % 256 ^ n : Nat) : Int)
  | 0, y => by simp [nbytes, lev]
  | n + 1, y => by
    have hp : 256 ^ (n + 1) = 256 * 256 ^ n := by rw [Nat.pow_succ, Nat.mul_comm]
    have e := nbT_levN n (y / 256)
    have e4 : y % (256 * 256 ^ n) = y % 256 + 256 * (y / 256 % 256 ^ n) := Nat.mod_mul
    simp only [nbytes, lev]
    rw [show (y : Int) / 256 = ((y / 256 : Nat) : Int) by omega, e, hp, e4]
    generalize y / 256 % 256 ^ n = q
    omega
theorem nbT_lev (n : Nat) (x : Int) (h : 0 ≤ x) : lev (nbytes n x) = x % ((256 ^ n : Nat) : Int) := by
  obtain ⟨y, rfl⟩ := Int.eq_ofNat_of_zero_le h
  have := nbT_levN n y
  rw [show ((y % 256 ^ n : Nat) : Int) = (y : Int) % ((256 ^ n : Nat) : Int) from rfl] at this
  exact this
theorem nbT_drop {L a r : List Int} {p : Nat} (h : L.drop p = a ++ r) : (L.take (p + a.length)).drop p = a := by
  rw [← List.take_drop, h, List.take_left]

/-- The document's bytes of a number. -/
theorem nbT_refn0 (n : Nat) (hn : n ≤ 8) : ∀ (d i : Nat) (x : Int) (a : List Int), i + d = n → 0 ≤ x → x < 18446744073709551616 → a.length + d ≤ 100 → Ev (fun k => fascicleref01_Num.l0 k x (strOfNums a) (n : Int) (i : Int)) (strOfNums (a ++ nbytes d x)) := by
  intro d
  induction d with
  | zero =>
    intro i x a hi h0 h1 ha
    refine Ev.step (f := fun _ => some (strOfNums (a ++ nbytes 0 x))) (fun k => ?_) (Ev.now _)
    simp only [fascicleref01_Num.l0]
    rw [if_neg (by omega), nbytes, List.append_nil]
  | succ d ih =>
    intro i x a hi h0 h1 ha
    refine Ev.step (fun k => ?_) (Ev.eq (ih (i + 1) (x / 256) (a ++ [x % 256]) (by omega) (by omega) (by omega) (by simp; omega)) (by simp [nbytes]))
    simp only [fascicleref01_Num.l0]
    rw [if_pos (by omega), Int.tmod_eq_emod_of_nonneg h0, Int.tdiv_eq_ediv_of_nonneg h0]
    simp only [Option.bind_some]
    rw [if_pos (by rw [nums_size, nums_size]; simp only [List.length_cons, List.length_nil]; omega), PureKit.nums_append, wu64 (by omega) (by omega), w64 (by omega) (by omega), show x % 256 % 256 = x % 256 by omega]
    rfl
theorem nbT_refn (n : Nat) (x : Int) (hn : n ≤ 8) (h0 : 0 ≤ x) (h1 : x < 18446744073709551616) : Ev (fun k => fascicleref01_Num.f k x (n : Int)) (strOfNums (nbytes n x)) := by
  have := nbT_refn0 n hn n 0 x [] (by omega) h0 h1 (by simp; omega)
  exact this
end Go.Proofs.Ytnmdckgaljldhaa.Tb
