/- table: slices.SortFunc on a nil row. -/
import Derived.Test.YtnmdckgaljldhaaHTable3
set_option linter.unusedVariables false
set_option linter.unusedSimpArgs false
namespace Go.Proofs.Ytnmdckgaljldhaa.Tb
open Go Go.RowKit Go.Proofs.YtnmdckgaljldhaaW.PrintWords Go.Proofs.YtnmdckgaljldhaaW.PrintLast Go.Proofs.YtnmdckgaljldhaaW.PrintMore Go.Proofs.Ytnmdckgaljldhaa.Sep Go.Proofs.Ytnmdckgaljldhaa.G
set_option maxHeartbeats 4000000
set_option maxRecDepth 100000

theorem ins_nil (A : Option Addr) (c : Nat) (fv : Value) (w : World) : Calls Try.prog 129 #[.slice A 0 c, .int .i64 0, .int .i64 0, fv] w fun r w' => r = .returned (.tuple #[]) ∧ w' = w := by
  go_enter Try.func129, Try.ntmps129
  go_wp2_with (fail)
  refine wp_loop_rounds 1 ?_
  rw [rounds_succ]
  go_wp2_with (fail)
  go_end0
  exact ⟨rfl, rfl⟩
theorem pdq_nil (A : Option Addr) (c : Nat) (lim : Int) (fv : Value) (w : World) : Calls Try.prog 118 #[.slice A 0 c, .int .i64 0, .int .i64 0, .int .i64 lim, fv] w fun r w' => r = .returned (.tuple #[]) ∧ w' = w := by
  go_enter Try.func118, Try.ntmps118
  go_wp2_with (fail)
  refine wp_loop_rounds 1 ?_
  rw [rounds_succ]
  go_wp2_with (fail)
  refine (ins_nil A c fv _).mono ?_
  rintro r w1 ⟨rfl, rfl⟩
  go_wp2_with (fail)
  refine bodyPost_ret (results_none rfl _ _ _) rfl ?_
  exact ⟨rfl, rfl⟩
theorem sort_nil (A : Option Addr) (c : Nat) (fv : Value) (w : World) : Calls Try.prog 86 #[.slice A 0 c, fv] w fun r w' => r = .returned (.tuple #[]) ∧ w' = w := by
  have hl : Calls Try.prog 119 #[.int .u64 0] w fun e w' => e = .returned (.int .i64 (Go.Lib.bitLen 0 : Nat)) ∧ w' = w :=
    Any.bits_Len (SlLaysF0.n15.bits (P := Try.prog) (ρ := Try.sortL_ren) { Try.sortL with }) 0 w (by decide) (by decide)
  go_enter Try.func86, Try.ntmps86
  go_wp2_with (fail)
  refine hl.mono ?_
  rintro r w1 ⟨rfl, rfl⟩
  go_wp2_with (fail)
  refine (pdq_nil A c _ fv _).mono ?_
  rintro r w2 ⟨rfl, rfl⟩
  go_wp2_with (fail)
  go_end0
  exact ⟨rfl, rfl⟩
end Go.Proofs.Ytnmdckgaljldhaa.Tb
