/- fasciclelaw07.RecordReads holds: of any bytes the record is the document's, or what is wrong first; for every input, no condition. -/
import Derived.Test.YtmlodmpkcbncjaaGx11
import Derived.Test.YtmlodmpkcbncjaaLRead
set_option linter.unusedVariables false
set_option linter.unusedSimpArgs false
namespace Go.Proofs.Ytmlodmpkcbncjaa.Pure
open Go Go.RowKit Go.Proofs.Ytmlodmpkcbncjaa.G Go.Proofs.YtmlodmpkcbncjaaW.PrintWords Go.Proofs.YtmlodmpkcbncjaaW.PrintLast Go.Proofs.Ytmlodmpkcbncjaa.PureKit Go.Proofs.Ytmlodmpkcbncjaa.Sep

theorem rout_cases {l : List Int} (hb : Bytes l) : ∃ x1 x2 x3 x4 x5, rout (rread l) = (x1, x2, x3, x4, x5) ∧ 0 ≤ x2 ∧ x2 < 18446744073709551616 ∧ (x5 ≠ 0 ∨ x5 = 0 ∧ rcheck x1 x3 x4 = 0 ∧ rbody x1 x2 x3 x4 = l) := by
  cases hr : rread l with
  | bad e a => exact ⟨_, _, _, _, _, rfl, by decide, by decide, .inl (rread_bad hb hr)⟩
  | ok y a =>
    obtain ⟨d, s, kk, v⟩ := y
    obtain ⟨h1, h2, h3, h4⟩ := rread_inv hb hr
    exact ⟨_, _, _, _, _, rfl, h3, h4, .inr ⟨rfl, h1, h2⟩⟩
theorem reads_j0 (l0 : List Int) (hb : Bytes l0) (hl : l0.length ≤ 500) : Ev (fun k => fasciclelaw07_RecordReads.j0 k l0 false) true := by
  have hrd : record_Read.f l0 = some (rout (rread l0)) := by
    unfold record_Read.f
    rw [if_pos ⟨(bytesb_iff l0).2 hb, by omega⟩]
  have href := refread l0 hb (by omega)
  obtain ⟨x1, x2, x3, x4, x5, hx, h3, h4, hc⟩ := rout_cases hb
  rw [hx] at hrd href
  refine Ev.step (f := ?ff1) (fun k => ?hs1) ?ht1
  case hs1 =>
    simp only [fasciclelaw07_RecordReads.j0]
    rw [if_neg (by decide), hrd]
    try exact rfl
  simp only [Option.bind_some]
  refine Ev.bind href ?_
  refine Ev.congr (f := fun _ => some true) (fun k => ?_) (Ev.now _)
  dsimp only
  rw [if_neg (by simp), if_pos rfl]
  rcases hc with he | ⟨he, h1, h2⟩
  · have hbd : ∃ q, record_Body.f x1 x2 x3 x4 = some q := by
      unfold record_Body.f
      rw [if_pos ⟨h3, h4⟩]
      split
      · exact ⟨_, rfl⟩
      · exact ⟨_, rfl⟩
    obtain ⟨q, hq⟩ := hbd
    rw [hq]
    simp only [Option.bind_some]
    rw [if_neg he]
  · have hbd : record_Body.f x1 x2 x3 x4 = some (l0, 0) := by
      unfold record_Body.f
      rw [if_pos ⟨h3, h4⟩, if_pos h1, h2]
    rw [hbd]
    simp [he]
theorem RecordReads : fasciclelaw07_RecordReads.Pure := by
  intro l0 _ _ hw
  have hb := Bytes.of_wf hw
  refine rounds_of ?_
  unfold fasciclelaw07_RecordReads.f
  refine Ev.congr (f := fun k => fasciclelaw07_RecordReads.j0 k l0 (decide ((l0.length : Int) > 500))) (fun k => rfl) ?_
  by_cases hl : (l0.length : Int) > 500
  · rw [decide_eq_true hl]
    exact Ev.step (f := fun _ => some true) (fun k => rfl) (Ev.now _)
  · rw [decide_eq_false hl]
    exact reads_j0 l0 hb (by omega)

end Go.Proofs.Ytmlodmpkcbncjaa.Pure
