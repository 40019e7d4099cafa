/- fasciclelaw10.ElderGets holds: of any bytes the pair with which they begin is the document's; for every input, no condition. -/
import Derived.Test.YtmlodmpkcbncjaaGx10
import Derived.Test.YtmlodmpkcbncjaaMLElder
set_option linter.unusedVariables false
set_option linter.unusedSimpArgs false
namespace Go.Proofs.Ytmlodmpkcbncjaa.Pure
open Go Go.RowKit Go.Proofs.Ytmlodmpkcbncjaa.G Go.Proofs.YtmlodmpkcbncjaaW.PrintWords Go.Proofs.YtmlodmpkcbncjaaW.PrintLast Go.Proofs.Ytmlodmpkcbncjaa.PureKit Go.Proofs.Ytmlodmpkcbncjaa.Sep

theorem gets_long (l0 : List Int) : Ev (fun k => fasciclelaw10_ElderGets.j0 k l0 true) true := by
  refine Ev.step (f := fun _ => some true) (fun k => ?_) (Ev.now _)
  simp only [fasciclelaw10_ElderGets.j0, if_true]
  rfl
theorem gets_short (l0 : List Int) (hb : Bytes l0) (hl : l0.length ≤ 600) : Ev (fun k => fasciclelaw10_ElderGets.j0 k l0 false) true := by
  have hrd : elder_Get.f l0 = some (eout (eone l0 0)) := by
    unfold elder_Get.f
    rw [if_pos ⟨(ebytesb_iff l0).2 hb, by omega⟩]
  have href := refget l0 hb (by omega)
  obtain ⟨x, hx⟩ : ∃ x, eout (eone l0 0) = x := ⟨_, rfl⟩
  rw [hx] at hrd href
  refine Ev.step (f := fun k => (fascicleref10_Get.f k (strOfNums l0)).bind fun bt162 => (if (x.1.toList == bt162.1.toList && (x.2.1.toList == bt162.2.1.toList)) = true then (if x.2.2.1 = bt162.2.2.1 then (some (x.2.2.2 == bt162.2.2.2)) else (some false)) else (some false))) (fun k => ?_) ?_
  · simp only [fasciclelaw10_ElderGets.j0]
    rw [if_neg (by decide), hrd]
    rfl
  refine Ev.bind href ?_
  refine Ev.congr (f := fun _ => some true) (fun k => ?_) (Ev.now _)
  rw [if_pos (by simp), if_pos rfl]
  simp
theorem ElderGets : fasciclelaw10_ElderGets.Pure := by
  intro l0 _ _ hwf
  have hb := Bytes.of_wf hwf
  refine rounds_of (r := true) ?_
  unfold fasciclelaw10_ElderGets.f
  refine Ev.congr (f := fun k => fasciclelaw10_ElderGets.j0 k l0 (decide ((l0.length : Int) > 600))) (fun k => ?_) ?_
  · show (some true).bind _ = _
    rw [Option.bind_some, if_pos rfl]
  by_cases h : (l0.length : Int) > 600
  · rw [decide_eq_true h]
    exact gets_long l0
  · rw [decide_eq_false h]
    exact gets_short l0 hb (by omega)

end Go.Proofs.Ytmlodmpkcbncjaa.Pure
