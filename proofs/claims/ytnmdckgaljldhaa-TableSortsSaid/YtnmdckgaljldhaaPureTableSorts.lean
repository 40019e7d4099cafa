/- fasciclelaw11.TableSorts holds: entries are sorted as the document says; for every input, no condition. -/
import Derived.Test.YtnmdckgaljldhaaGx8
import Derived.Test.YtnmdckgaljldhaaLTab
set_option linter.unusedVariables false
set_option linter.unusedSimpArgs false
namespace Go.Proofs.Ytnmdckgaljldhaa.Pure
open Go Go.RowKit Go.Proofs.Ytnmdckgaljldhaa.G Go.Proofs.YtnmdckgaljldhaaW.PrintWords Go.Proofs.YtnmdckgaljldhaaW.PrintLast Go.Proofs.Ytnmdckgaljldhaa.PureKit Go.Proofs.Ytnmdckgaljldhaa.Tb

theorem own_loop (l : List E1) (hl : l.length ≤ 1000000) : ∀ (d i : Nat), i + d = l.length → Ev (fun k => fasciclelaw11_TableSorts.l0 k l l (l.length : Int) (i : Int)) true
  | 0, i, h => by
    refine Ev.step (f := fun _ => some true) (fun k => ?_) (Ev.now _)
    unfold fasciclelaw11_TableSorts.l0
    rw [if_neg (by omega)]
  | d + 1, i, h => by
    refine Ev.step (f := fun k => fasciclelaw11_TableSorts.l0 k l l (l.length : Int) ((i + 1 : Nat) : Int)) (fun k => ?_) (own_loop l hl d (i + 1) (by omega))
    simp only [fasciclelaw11_TableSorts.l0]
    rw [if_pos (by omega), if_pos (by omega), if_pos (by omega), if_pos (by omega), inc64 (by omega)]
    simp
theorem sorts_short (l : List E1) (hl : l.length ≤ 60) : Ev (fun k => fasciclelaw11_TableSorts.j0 k l false) true := by
  have hsl := sortE_len l
  have hS : table_Sorted.f l = some (sortE l) := by unfold table_Sorted.f; exact if_pos (by omega)
  refine Ev.step (f := fun k => (fasciclelaw11_Refs.f k l).bind fun t183 => ((fascicleref11_Sorted.f k t183).bind fun t186 => ((fasciclelaw11_Same.f k (sortE l) t186).bind fun t189 => (if t189 = true then ((table_Rising.f k (sortE l)).bind fun t190 => (if t190 = true then ((table_Rising.f k l).bind fun t191 => ((fasciclelaw11_Refs.f k l).bind fun t192 => ((fascicleref11_Rising.f k t192).bind fun t195 => (fasciclelaw11_TableSorts.j1 k l l (t191 != t195))))) else (fasciclelaw11_TableSorts.j1 k l l true))) else (fasciclelaw11_TableSorts.j1 k l l true))))) (fun k => ?_) ?_
  · simp only [fasciclelaw11_TableSorts.j0]
    rw [if_neg (by decide), Option.bind_some, if_pos (by simp; omega), Option.bind_some, List.nil_append, hS, Option.bind_some]
  refine Ev.bind (f := fun k t183 => ((fascicleref11_Sorted.f k t183).bind fun t186 => ((fasciclelaw11_Same.f k (sortE l) t186).bind fun t189 => (if t189 = true then ((table_Rising.f k (sortE l)).bind fun t190 => (if t190 = true then ((table_Rising.f k l).bind fun t191 => ((fasciclelaw11_Refs.f k l).bind fun t192 => ((fascicleref11_Rising.f k t192).bind fun t195 => (fasciclelaw11_TableSorts.j1 k l l (t191 != t195))))) else (fasciclelaw11_TableSorts.j1 k l l true))) else (fasciclelaw11_TableSorts.j1 k l l true))))) (refs_ev l (by omega)) ?_
  refine Ev.bind (f := fun k t186 => ((fasciclelaw11_Same.f k (sortE l) t186).bind fun t189 => (if t189 = true then ((table_Rising.f k (sortE l)).bind fun t190 => (if t190 = true then ((table_Rising.f k l).bind fun t191 => ((fasciclelaw11_Refs.f k l).bind fun t192 => ((fascicleref11_Rising.f k t192).bind fun t195 => (fasciclelaw11_TableSorts.j1 k l l (t191 != t195))))) else (fasciclelaw11_TableSorts.j1 k l l true))) else (fasciclelaw11_TableSorts.j1 k l l true)))) (sorted_ev l (by omega)) ?_
  refine Ev.bind (f := fun k t189 => (if t189 = true then ((table_Rising.f k (sortE l)).bind fun t190 => (if t190 = true then ((table_Rising.f k l).bind fun t191 => ((fasciclelaw11_Refs.f k l).bind fun t192 => ((fascicleref11_Rising.f k t192).bind fun t195 => (fasciclelaw11_TableSorts.j1 k l l (t191 != t195))))) else (fasciclelaw11_TableSorts.j1 k l l true))) else (fasciclelaw11_TableSorts.j1 k l l true))) (same_ev (sortE l) (by omega)) ?_
  refine Ev.congr (f := fun k => (table_Rising.f k (sortE l)).bind fun t190 => (if t190 = true then ((table_Rising.f k l).bind fun t191 => ((fasciclelaw11_Refs.f k l).bind fun t192 => ((fascicleref11_Rising.f k t192).bind fun t195 => (fasciclelaw11_TableSorts.j1 k l l (t191 != t195))))) else (fasciclelaw11_TableSorts.j1 k l l true))) (fun k => if_pos rfl) ?_
  refine Ev.bind (f := fun k t190 => (if t190 = true then ((table_Rising.f k l).bind fun t191 => ((fasciclelaw11_Refs.f k l).bind fun t192 => ((fascicleref11_Rising.f k t192).bind fun t195 => (fasciclelaw11_TableSorts.j1 k l l (t191 != t195))))) else (fasciclelaw11_TableSorts.j1 k l l true))) (ev_eq (rise_ev (sortE l) (by omega)) (riseE_true (sortE_rise l))) ?_
  refine Ev.congr (f := fun k => (table_Rising.f k l).bind fun t191 => ((fasciclelaw11_Refs.f k l).bind fun t192 => ((fascicleref11_Rising.f k t192).bind fun t195 => (fasciclelaw11_TableSorts.j1 k l l (t191 != t195))))) (fun k => if_pos rfl) ?_
  refine Ev.bind (f := fun k t191 => ((fasciclelaw11_Refs.f k l).bind fun t192 => ((fascicleref11_Rising.f k t192).bind fun t195 => (fasciclelaw11_TableSorts.j1 k l l (t191 != t195))))) (rise_ev l (by omega)) ?_
  refine Ev.bind (f := fun k t192 => ((fascicleref11_Rising.f k t192).bind fun t195 => (fasciclelaw11_TableSorts.j1 k l l (riseE l != t195)))) (refs_ev l (by omega)) ?_
  refine Ev.bind (f := fun k t195 => fasciclelaw11_TableSorts.j1 k l l (riseE l != t195)) (refrise_ev l (by omega)) ?_
  refine Ev.step (f := fun k => fasciclelaw11_TableSorts.l0 k l l (l.length : Int) ((0 : Nat) : Int)) (fun k => ?_) (own_loop l (by omega) l.length 0 (by omega))
  simp only [fasciclelaw11_TableSorts.j1]
  rw [if_neg (by simp)]
  rfl
theorem TableSorts : fasciclelaw11_TableSorts.Pure := by
  intro l _ _ _
  refine rounds_of (r := true) ?_
  refine Ev.congr (f := fun k => fasciclelaw11_TableSorts.j0 k l (decide ((l.length : Int) > 60))) (fun k => ?_) ?_
  · unfold fasciclelaw11_TableSorts.f fasciclelaw11_lives.f
    rw [Option.bind_some, if_pos rfl]
  by_cases h : (l.length : Int) > 60
  · rw [decide_eq_true h]
    refine Ev.step (f := fun _ => some true) (fun k => ?_) (Ev.now _)
    simp only [fasciclelaw11_TableSorts.j0, if_true]
    rfl
  · rw [decide_eq_false h]
    exact sorts_short l (by omega)

end Go.Proofs.Ytnmdckgaljldhaa.Pure
