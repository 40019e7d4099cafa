/- fasciclelaw14.PackPlans holds: into which segment each frame goes is the document's; for every input, no condition. -/
import Derived.Test.YtnmdckgaljldhaaGx10
import Derived.Test.YtnmdckgaljldhaaLPackRef
import Derived.Test.YtnmdckgaljldhaaHLives14
set_option linter.unusedVariables false
set_option linter.unusedSimpArgs false
namespace Go.Proofs.Ytnmdckgaljldhaa.Pure
open Go Go.RowKit Go.Proofs.Ytnmdckgaljldhaa.G Go.Proofs.YtnmdckgaljldhaaW.PrintWords Go.Proofs.YtnmdckgaljldhaaW.PrintLast Go.Proofs.YtnmdckgaljldhaaW.PrintMore Go.Proofs.Ytnmdckgaljldhaa.PureKit Go.Proofs.Ytnmdckgaljldhaa.LPack
open Go.Proofs.Ytnmdckgaljldhaa.LConfig (Pair pair_of size_ok size_no may_ok may_no rsize_ok pair_S)

theorem planm_small (S : Int) (s : Nat) (hs : s ≤ 65536) : ∀ (xs : List Int) (n : Nat) (u c : Int) (out : List Int), n < s → (∀ y ∈ out, 0 ≤ y ∧ y < 65536) → out.length + xs.length ≤ 200 →
    (∀ y ∈ (planm S s xs n u c out).1, 0 ≤ y ∧ y < 65536) ∧ (planm S s xs n u c out).1.length ≤ 200
  | [], n, u, c, out, hn, ho, hl => ⟨ho, by simpa [planm] using hl⟩
  | x :: xs, n, u, c, out, hn, ho, hl => by
    rw [List.length_cons] at hl
    unfold planm
    split
    · split
      · refine planm_small S s hs xs n _ _ _ hn ?_ (by rw [List.length_append, List.length_cons, List.length_nil]; omega)
        intro y hy
        rcases List.mem_append.1 hy with h | h
        · exact ho y h
        · rw [List.mem_singleton.1 h]; omega
      · split
        · rename_i h1
          refine planm_small S s hs xs (n + 1) _ _ _ h1 ?_ (by rw [List.length_append, List.length_cons, List.length_nil]; omega)
          intro y hy
          rcases List.mem_append.1 hy with h | h
          · exact ho y h
          · rw [List.mem_singleton.1 h]; omega
        · exact ⟨(fun y hy => by cases hy), by simp⟩
    · exact ⟨(fun y hy => by cases hy), by simp⟩
theorem plans_l0 (o : List Int) (ho : ∀ y ∈ o, 0 ≤ y ∧ y < 65536) (hl : o.length ≤ 200) : ∀ (d i : Nat), i + d = o.length → Ev (fun k => fasciclelaw14_PackPlans.l0 k o o (o.length : Int) (i : Int)) true
  | 0, i, h => Ev.step (f := fun _ => some true) (fun k => by simp only [fasciclelaw14_PackPlans.l0]; rw [if_neg (by omega)]) (Ev.now _)
  | d + 1, i, h => by
    have hin : i < o.length := by omega
    have hy := ho o[i] (List.getElem_mem hin)
    refine Ev.step (f := fun k => fasciclelaw14_PackPlans.l0 k o o (o.length : Int) ((i + 1 : Nat) : Int)) (fun k => ?_) (plans_l0 o ho hl d (i + 1) (by omega))
    simp only [fasciclelaw14_PackPlans.l0]
    rw [if_pos (by omega), if_pos (by omega), if_pos (by omega), if_pos (by omega), rd_xs o i hin, wu64 hy.1 (by omega), if_pos rfl, w64 (by omega) (by omega)]
    rfl
theorem plans_j1 (o : List Int) (ho : ∀ y ∈ o, 0 ≤ y ∧ y < 65536) (hl : o.length ≤ 200) : Ev (fun k => fasciclelaw14_PackPlans.j1 k o o false) true := by
  refine Ev.step (f := fun k => fasciclelaw14_PackPlans.l0 k o o (o.length : Int) ((0 : Nat) : Int)) (fun k => ?_) (plans_l0 o ho hl o.length 0 (by omega))
  simp only [fasciclelaw14_PackPlans.j1]
  rw [if_neg (by decide)]
  rfl
theorem plans_both (e s : Int) (xs : List Int) (R : List Int × Int) (h1 : Ev (fun k => pack_Plan.f k e s xs) R) (h2 : Ev (fun k => fascicleref14_Plan.f k e s xs) R) (ho : ∀ y ∈ R.1, 0 ≤ y ∧ y < 65536) (hl : R.1.length ≤ 200) : Ev (fun k => fasciclelaw14_PackPlans.j0 k xs false e s) true := by
  refine Ev.step (f := fun k => (pack_Plan.f k e s xs).bind fun bt361 => ((fascicleref14_Plan.f k e s xs).bind fun bt365 => (if (bt361.1.length : Int) = (bt365.1.length : Int) then (fasciclelaw14_PackPlans.j1 k bt361.1 bt365.1 (bt361.2 != bt365.2)) else (fasciclelaw14_PackPlans.j1 k bt361.1 bt365.1 true)))) (fun k => ?_) ?_
  · simp only [fasciclelaw14_PackPlans.j0]
    rw [if_neg (by decide)]
  refine Ev.bind h1 ?_
  refine Ev.bind h2 ?_
  refine Ev.congr (f := fun k => fasciclelaw14_PackPlans.j1 k R.1 R.1 false) (fun k => ?_) (plans_j1 R.1 ho hl)
  rw [if_pos rfl, bne_self_eq_false]
theorem plans_true (e s : Int) (xs : List Int) : Ev (fun k => fasciclelaw14_PackPlans.j0 k xs true e s) true := by
  refine Ev.step (f := fun _ => some true) (fun k => ?_) (Ev.now _)
  simp only [fasciclelaw14_PackPlans.j0, if_true]
  rfl
theorem i64_le {x : Int} (h : (Lit.int .i64 x).wf = true) : x ≤ 9223372036854775807 := by
  simp [Lit.wf] at h
  have := h.2
  exact this
theorem PackPlans : fasciclelaw14_PackPlans.Pure := by
  unfold fasciclelaw14_PackPlans.Pure
  intro e s xs
  intros
  rename_i he hs hm hm2 hwf
  have hb := bounds_u8 he
  have hs2 : 0 ≤ s ∧ s < 4294967296 := by have := bounds_u32 hs; omega
  refine rounds_of (r := true) ?_
  unfold fasciclelaw14_PackPlans.f
  refine Ev.congr (f := fun k => fasciclelaw14_PackPlans.j0 k xs (decide ((xs.length : Int) > 200)) e s) (fun k => ?_) ?_
  · show (some true).bind _ = _
    rw [Option.bind_some, if_pos rfl]
  by_cases hl : (xs.length : Int) > 200
  · rw [decide_eq_true hl]
    exact plans_true e s xs
  · rw [decide_eq_false hl]
    obtain ⟨sn, rfl⟩ : ∃ sn : Nat, s = sn := ⟨s.toNat, by omega⟩
    by_cases hc : 12 ≤ e ∧ e ≤ 24 ∧ 1 ≤ (sn : Int) ∧ (sn : Int) ≤ 65536
    · obtain ⟨S, hS⟩ := cfg_of hc
      have hsm := planm_small S sn hS.s2 xs 0 (HL sn 0) 0 [] (by have := hS.s1; omega) (fun y hy => by cases hy) (by simp; omega)
      exact plans_both e sn xs _ (plan_ok hS xs (by omega)) (rplan_ok hS xs (by omega) (fun x hx => i64_le (hwf x hx))) hsm.1 hsm.2
    · exact plans_both e sn xs ([], 1) (plan_bad hc ⟨hb.1, hb.2, by omega, by omega⟩ xs) (rplan_bad hc xs) (fun y hy => by cases hy) (by simp)

end Go.Proofs.Ytnmdckgaljldhaa.Pure
