/- fasciclelaw04.WideSums holds: the sum of any bytes by any seed is the document's; for every input, no condition. -/
import Derived.Test.YtfeaalfajcdalaaGx6
import Derived.Test.YtfeaalfajcdalaaHLives04
import Derived.Test.YtfeaalfajcdalaaLRef04
set_option linter.unusedVariables false
set_option linter.unusedSimpArgs false
namespace Go.Proofs.Ytfeaalfajcdalaa.Pure
open Go Go.RowKit Go.Proofs.Ytfeaalfajcdalaa.G Go.Proofs.YtfeaalfajcdalaaW.PrintWords Go.Proofs.YtfeaalfajcdalaaW.PrintLast Go.Proofs.Ytfeaalfajcdalaa.PureKit Go.Proofs.Ytfeaalfajcdalaa.Sep Go.Proofs.Ytfeaalfajcdalaa.Rol

theorem u64_wf {x : Int} (h : (Lit.int .u64 x).wf = true) : 0 ≤ x ∧ x < 18446744073709551616 := by
  simp [Lit.wf] at h
  rw [show IntKind.u64.min = 0 by decide, show IntKind.u64.max = 18446744073709551615 by decide] at h
  omega
theorem wsums_long (a : Int) (l : List Int) : Ev (fun k => fasciclelaw04_WideSums.j0 k a l true) true := by
  refine Ev.step (f := fun _ => some true) (fun k => ?_) (Ev.now _)
  simp only [fasciclelaw04_WideSums.j0, if_true]
  rw [lives04]
  rfl
theorem wsums_short (a : Int) (l : List Int) (h0 : 0 ≤ a) (h1 : a < 18446744073709551616) (hb : Bytes l) (hl : l.length ≤ 400) : Ev (fun k => fasciclelaw04_WideSums.j0 k a l false) true := by
  have step : Ev (fun k => (fascicleref04_Sum.f k a (strOfNums l)).bind fun t => if ((wsum a.toNat l : Nat) : Int) = t then some true else some false) true := by
    refine Ev.bind (ref4_ev a l h0 h1 hb (by omega)) ?_
    rw [if_pos rfl]
    exact Ev.now _
  refine Ev.step (fun k => ?_) step
  simp only [fasciclelaw04_WideSums.j0, Option.bind_some, List.nil_append, List.length_nil]
  rw [if_neg (by decide), if_pos (by omega), wide_ev a l h0 h1 hb (by omega), Option.bind_some, beq_self_eq_true]
theorem WideSums : fasciclelaw04_WideSums.Pure := by
  intro a l hw _ _ hwf
  have hb := Bytes.of_wf hwf
  obtain ⟨h0, h1⟩ := u64_wf hw
  refine rounds_of (r := true) ?_
  unfold fasciclelaw04_WideSums.f
  refine Ev.congr (f := fun k => fasciclelaw04_WideSums.j0 k a l (decide ((l.length : Int) > 400))) (fun k => ?_) ?_
  · rw [lives04, Option.bind_some, if_pos rfl]
  by_cases h : (l.length : Int) > 400
  · rw [decide_eq_true h]
    exact wsums_long a l
  · rw [decide_eq_false h]
    exact wsums_short a l h0 h1 hb (by omega)

end Go.Proofs.Ytfeaalfajcdalaa.Pure
