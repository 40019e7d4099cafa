/- elder: Few, and what stops a row of pairs. -/
import Derived.Test.YtmlodmpkcbncjaaGx4
import Derived.Test.YtmlodmpkcbncjaaMElderAll
set_option linter.unusedVariables false
set_option linter.unusedSimpArgs false
namespace Go.Proofs.Ytmlodmpkcbncjaa.Pure
open Go Go.RowKit Go.Proofs.Ytmlodmpkcbncjaa.G Go.Proofs.YtmlodmpkcbncjaaW.PrintWords Go.Proofs.YtmlodmpkcbncjaaW.PrintLast Go.Proofs.Ytmlodmpkcbncjaa.PureKit Go.Proofs.Ytmlodmpkcbncjaa.Sep Go.Proofs.Ytmlodmpkcbncjaa.Rol

theorem rd_ep (ps : List EP) (i : Nat) (h : i < ps.length) : rd_T62 ps (i : Int) = ps[i] := by
  unfold rd_T62
  rw [Int.toNat_natCast, List.getD_eq_getElem?_getD, List.getElem?_eq_getElem h]
  rfl
theorem few_l0 (ps : List EP) (n m : Int) (hl : ps.length ≤ 4611686018427387904) : ∀ (d i : Nat), i + d = ps.length → ∃ b, Ev (fun k => fasciclelaw10_Few.l0 k ps n m ps (ps.length : Int) (i : Int)) b ∧ (b = true → (ps.length : Int) ≤ n)
  | 0, i, h => ⟨decide ((ps.length : Int) ≤ n), Ev.step (f := fun _ => some (decide ((ps.length : Int) ≤ n))) (fun k => by simp only [fasciclelaw10_Few.l0]; rw [if_neg (by omega)]) (Ev.now _), fun h => of_decide_eq_true h⟩
  | d + 1, i, h => by
    have hin : i < ps.length := by omega
    by_cases c0 : ((ps[i].f0.size : Int) > m)
    · refine ⟨false, Ev.step (f := fun _ => some false) (fun k => ?_) (Ev.now _), fun h => by cases h⟩
      simp only [fasciclelaw10_Few.l0]
      rw [if_pos (by omega), if_pos (by omega), if_pos (by omega), rd_ep ps i hin, if_pos c0]
    by_cases c1 : ((ps[i].f1.size : Int) > m)
    · refine ⟨false, Ev.step (f := fun _ => some false) (fun k => ?_) (Ev.now _), fun h => by cases h⟩
      simp only [fasciclelaw10_Few.l0]
      rw [if_pos (by omega), if_pos (by omega), if_pos (by omega), rd_ep ps i hin, if_neg c0, if_pos c1]
    obtain ⟨b, h1, h2⟩ := few_l0 ps n m hl d (i + 1) (by omega)
    refine ⟨b, Ev.step (f := fun k => fasciclelaw10_Few.l0 k ps n m ps (ps.length : Int) ((i + 1 : Nat) : Int)) (fun k => ?_) h1, h2⟩
    simp only [fasciclelaw10_Few.l0]
    rw [if_pos (by omega), if_pos (by omega), if_pos (by omega), rd_ep ps i hin, if_neg c0, if_neg c1, w64 (by omega) (by omega)]
    rfl
theorem few_ev (ps : List EP) (n m : Int) (hl : ps.length ≤ 4611686018427387904) : ∃ b, Ev (fun k => fasciclelaw10_Few.f k ps n m) b ∧ (b = true → (ps.length : Int) ≤ n) := few_l0 ps n m hl ps.length 0 (by omega)
theorem epa_zero : ∀ (ps : List EP) (acc : List Int), (epa ps acc).2 = 0 → allok ps
  | [], _, _ => fun p hp => by cases hp
  | p :: ps, acc, h => by
    unfold epa at h
    split at h
    · rename_i hc
      intro q hq
      rcases List.mem_cons.1 hq with rfl | hq
      · exact hc
      · exact epa_zero ps _ h q hq
    · rename_i hc
      exact absurd h hc
theorem eok_of {ps : List EP} (h : ∀ y ∈ ps, ((y.f0.size ≤ 9223372036854775807) ∧ (y.f1.size ≤ 9223372036854775807))) : eok ps = true := by
  unfold eok
  rw [List.all_eq_true]
  exact fun p hp => decide_eq_true (h p hp)

end Go.Proofs.Ytmlodmpkcbncjaa.Pure
