/- fasciclelaw03.ThinChecks holds: a sum is checked just if it is that of the bytes; for every input, no condition. -/
import Derived.Test.YtfeaalfajcdalaaGx2
import Derived.Test.YtfeaalfajcdalaaLLives03
set_option linter.unusedVariables false
set_option linter.unusedSimpArgs false
namespace Go.Proofs.Ytfeaalfajcdalaa.Pure
open Go Go.RowKit Go.Proofs.Ytfeaalfajcdalaa.G Go.Proofs.YtfeaalfajcdalaaW.PrintWords Go.Proofs.YtfeaalfajcdalaaW.PrintLast Go.Proofs.Ytfeaalfajcdalaa.PureKit Go.Proofs.Ytfeaalfajcdalaa.Sep Go.Proofs.Ytfeaalfajcdalaa.Rol

theorem checks_long (a : Int) (l : List Int) (x : Int) : Ev (fun k => fasciclelaw03_ThinChecks.j0 k a l x true) true := by
  refine Ev.step (f := fun _ => some true) (fun k => ?_) (Ev.now _)
  simp only [fasciclelaw03_ThinChecks.j0, if_true]
  rw [lives03]
  rfl
theorem check_ev (a : Int) (l : List Int) (x : Int) (h0 : 0 ≤ a) (h1 : a < 4294967296) (hb : Bytes l) : thin_Check.f a l x = some (((tsum a.toNat l : Nat) : Int) == x) := by
  unfold thin_Check.f
  rw [thin_ev a l h0 h1 hb, Option.bind_some]
theorem checks_step (a : Int) (l : List Int) (x : Int) (t : Nat) (ht : t < 4294967296) (e1 : thin_Sum.f a l = some (t : Int)) (e2 : ∀ x, thin_Check.f a l x = some ((t : Int) == x)) (k : Nat) : fasciclelaw03_ThinChecks.j0 (k + 1) a l x false = some true := by
  have h3 : ((t : Int) == ((t : Int) + 1) % 4294967296) = false := beq_eq_false_iff_ne.2 (by omega)
  have h4 : (((t : Int) == x) == (x == (t : Int))) = true := by rw [beq_iff_eq, Bool.eq_iff_iff, beq_iff_eq, beq_iff_eq]; exact eq_comm
  have h5 : ((t : Int) == (t : Int)) = true := beq_self_eq_true _
  simp only [fasciclelaw03_ThinChecks.j0]
  rw [if_neg (by decide), e1, Option.bind_some, e2, Option.bind_some, if_pos h5, e2, Option.bind_some, if_pos h4, e2, Option.bind_some, h3]
  rfl
theorem checks_short (a : Int) (l : List Int) (x : Int) (h0 : 0 ≤ a) (h1 : a < 4294967296) (hb : Bytes l) : Ev (fun k => fasciclelaw03_ThinChecks.j0 k a l x false) true :=
  Ev.step (f := fun _ => some true) (fun k => checks_step a l x _ (tsum_lt a.toNat l) (thin_ev a l h0 h1 hb) (fun x => check_ev a l x h0 h1 hb) k) (Ev.now _)
theorem ThinChecks : fasciclelaw03_ThinChecks.Pure := by
  intro a l x hw _ _ hwf _
  have hb := Bytes.of_wf hwf
  obtain ⟨h0, h1⟩ := u32_wf hw
  refine rounds_of (r := true) ?_
  unfold fasciclelaw03_ThinChecks.f
  refine Ev.congr (f := fun k => fasciclelaw03_ThinChecks.j0 k a l x (decide ((l.length : Int) > 300))) (fun k => ?_) ?_
  · rw [lives03, Option.bind_some, if_pos rfl]
  by_cases h : (l.length : Int) > 300
  · rw [decide_eq_true h]
    exact checks_long a l x
  · rw [decide_eq_false h]
    exact checks_short a l x h0 h1 hb

end Go.Proofs.Ytfeaalfajcdalaa.Pure
