/- fasciclelaw03.ThinSums holds: the sum of any bytes by any seed is the document's; for every input, no condition. -/
import Derived.Test.YtfeaalfajcdalaaGx3
import Derived.Test.YtfeaalfajcdalaaLLives03
import Derived.Test.YtfeaalfajcdalaaMRef
set_option linter.unusedVariables false
set_option linter.unusedSimpArgs false
namespace Go.Proofs.Ytfeaalfajcdalaa.Pure
open Go Go.RowKit Go.Proofs.Ytfeaalfajcdalaa.G Go.Proofs.YtfeaalfajcdalaaW.PrintWords Go.Proofs.YtfeaalfajcdalaaW.PrintLast Go.Proofs.Ytfeaalfajcdalaa.PureKit Go.Proofs.Ytfeaalfajcdalaa.Sep Go.Proofs.Ytfeaalfajcdalaa.Rol

theorem sums_long (a : Int) (l : List Int) : Ev (fun k => fasciclelaw03_ThinSums.j0 k a l true) true := by
  refine Ev.step (f := fun _ => some true) (fun k => ?_) (Ev.now _)
  simp only [fasciclelaw03_ThinSums.j0, if_true]
  rw [lives03]
  rfl
theorem sums_short (a : Int) (l : List Int) (h0 : 0 ≤ a) (h1 : a < 4294967296) (hb : Bytes l) (hl : l.length ≤ 300) : Ev (fun k => fasciclelaw03_ThinSums.j0 k a l false) true := by
  have hr : fascicleref03_Sum.f a (strOfNums l) = some ((tsum a.toNat l : Nat) : Int) := by
    unfold fascicleref03_Sum.f
    rw [if_pos ⟨h0, h1, by rw [nums_size]; omega⟩, sby_nums l hb]
  refine Ev.step (f := fun _ => some true) (fun k => ?_) (Ev.now _)
  simp only [fasciclelaw03_ThinSums.j0, Option.bind_some, List.nil_append, List.length_nil]
  rw [if_neg (by decide), if_pos (by omega), thin_ev a l h0 h1 hb, Option.bind_some, hr, Option.bind_some, if_pos rfl]
  simp
theorem ThinSums : fasciclelaw03_ThinSums.Pure := by
  intro a l hw _ _ hwf
  have hb := Bytes.of_wf hwf
  obtain ⟨h0, h1⟩ := u32_wf hw
  refine rounds_of (r := true) ?_
  unfold fasciclelaw03_ThinSums.f
  refine Ev.congr (f := fun k => fasciclelaw03_ThinSums.j0 k a l (decide ((l.length : Int) > 300))) (fun k => ?_) ?_
  · rw [lives03, Option.bind_some, if_pos rfl]
  by_cases h : (l.length : Int) > 300
  · rw [decide_eq_true h]
    exact sums_long a l
  · rw [decide_eq_false h]
    exact sums_short a l h0 h1 hb (by omega)

end Go.Proofs.Ytfeaalfajcdalaa.Pure
