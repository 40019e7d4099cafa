/- fascicleref04: turn, into, mix. -/
import Derived.Test.YtekanmieppnpeaaMWide
import Derived.Test.YtekanmieppnpeaaHValue
import Derived.Test.YtekanmieppnpeaaLSby
import Derived.Test.YtekanmieppnpeaaGx6
set_option linter.unusedVariables false
set_option linter.unusedSimpArgs false
namespace Go.Proofs.Ytekanmieppnpeaa.G
open Go Go.RowKit Go.Proofs.YtekanmieppnpeaaW.PrintWords Go.Proofs.YtekanmieppnpeaaW.PrintLast Go.Proofs.YtekanmieppnpeaaW.PrintMore Go.Proofs.Ytekanmieppnpeaa.PureKit Go.Proofs.Ytekanmieppnpeaa.Sep Go.Proofs.Ytekanmieppnpeaa.Rol

theorem turn4_step (y : Nat) (hy : y < 18446744073709551616) : IntKind.u64.wrap (IntKind.u64.wrap (2 * (y : Int)) + Int.tdiv (y : Int) 9223372036854775808) = ((2 * y % 18446744073709551616 + y / 9223372036854775808 : Nat) : Int) := by
  rw [Int.tdiv_eq_ediv_of_nonneg (by omega), IntKind.wrap_u64, IntKind.wrap_u64]
  omega
theorem turn4_l0 (x n : Nat) (hx : x < 18446744073709551616) (hn : n ≤ 64) : ∀ (d i : Nat), i + d = n → Ev (fun k => fascicleref04_turn.l0 k ((rol 64 i x : Nat) : Int) (n : Int) (i : Int)) ((rol 64 n x : Nat) : Int) := by
  intro d
  induction d with
  | zero =>
    intro i hi
    refine Ev.step (f := fun _ => some ((rol 64 n x : Nat) : Int)) (fun k => ?_) (Ev.now _)
    simp only [fascicleref04_turn.l0]
    rw [if_neg (by omega), show i = n by omega]
  | succ d ih =>
    intro i hi
    refine Ev.step (fun k => ?_) (ih (i + 1) (by omega))
    have hl := rol64_lt i x (by omega) hx
    simp only [fascicleref04_turn.l0]
    rw [if_pos (by omega)]
    have e := rol_succ 64 i x (by omega) hx
    have e2 : rol 64 (i + 1) x = 2 * rol 64 i x % 18446744073709551616 + rol 64 i x / 9223372036854775808 := e
    rw [e2]
    generalize rol 64 i x = y at *
    rw [w64 (by omega) (by omega)]
    have hd : IntKind.u64.wrap (Int.tdiv (y : Int) 9223372036854775808) = Int.tdiv (y : Int) 9223372036854775808 := by rw [Int.tdiv_eq_ediv_of_nonneg (by omega)]; exact wu64 (by omega) (by omega)
    first | rw [hd, turn4_step y hl] | rw [turn4_step y hl]
    rfl
theorem turn4_ev (x n : Nat) (hx : x < 18446744073709551616) (hn : n ≤ 64) : Ev (fun k => fascicleref04_turn.f k (x : Int) (n : Int)) ((rol 64 n x : Nat) : Int) := by
  have := turn4_l0 x n hx hn n 0 (by omega)
  rw [rol_zero 64 x hx] at this
  exact this
theorem turn4_calls (w : World) (x n : Nat) (a b : Int) (ha : a = (x : Int)) (hb : b = (n : Int)) (hx : x < 18446744073709551616) (hn : n ≤ 64) :
    Calls Try.prog 119 #[.int .u64 a, .int .i64 b] w fun e w' => e = .returned (.int .u64 ((rol 64 n x : Nat) : Int)) ∧ Drawn0 w w' := by
  subst ha
  subst hb
  obtain ⟨k, hk⟩ := (turn4_ev x n hx hn).rounds
  exact fascicleref04_turn.calls k _ _ _ w hk
theorem into4_ev (x y : Nat) (hx : x < 18446744073709551616) (hy : y < 18446744073709551616) : Ev (fun k => fascicleref04_into.f k (x : Int) (y : Int)) ((win x y : Nat) : Int) := by
  have h := turn4_ev ((x + y * 14029467366897019727) % 18446744073709551616) 31 (mod_lt64 _) (by decide)
  have h3 : Ev (fun k => (fascicleref04_turn.f k (((x + y * 14029467366897019727) % 18446744073709551616 : Nat) : Int) ((31 : Nat) : Int)).bind (fun t => some (IntKind.u64.wrap (t * 11400714785074694791)))) (IntKind.u64.wrap (((rol 64 31 ((x + y * 14029467366897019727) % 18446744073709551616) : Nat) : Int) * 11400714785074694791)) :=
    Ev.bind h (f := fun _ t => some (IntKind.u64.wrap (t * 11400714785074694791))) (Ev.now _)
  refine Ev.congr (fun k => ?_) (Ev.eq h3 (mul_step (rol 64 31 ((x + y * 14029467366897019727) % 18446744073709551616)) 11400714785074694791))
  unfold fascicleref04_into.f
  rw [win_step]
  rfl
theorem into4_calls (w : World) (x y : Nat) (a b : Int) (ha : a = (x : Int)) (hb : b = (y : Int)) (hx : x < 18446744073709551616) (hy : y < 18446744073709551616) :
    Calls Try.prog 118 #[.int .u64 a, .int .u64 b] w fun e w' => e = .returned (.int .u64 ((win x y : Nat) : Int)) ∧ Drawn0 w w' := by
  subst ha
  subst hb
  obtain ⟨k, hk⟩ := (into4_ev x y hx hy).rounds
  exact fascicleref04_into.calls k _ _ _ w hk

end Go.Proofs.Ytekanmieppnpeaa.G
