/- fasciclelaw14.PackLarge holds: what is too large stays so, and what isn't can be packed alone; for every input, no condition. -/
import Derived.Test.YtnmdckgaljldhaaGx5
import Derived.Test.YtnmdckgaljldhaaLPack
set_option linter.unusedVariables false
set_option linter.unusedSimpArgs false
namespace Go.Proofs.Ytnmdckgaljldhaa.Pure
open Go Go.RowKit Go.Proofs.Ytnmdckgaljldhaa.G Go.Proofs.YtnmdckgaljldhaaW.PrintWords Go.Proofs.YtnmdckgaljldhaaW.PrintLast Go.Proofs.YtnmdckgaljldhaaW.PrintMore Go.Proofs.Ytnmdckgaljldhaa.PureKit Go.Proofs.Ytnmdckgaljldhaa.LPack
open Go.Proofs.Ytnmdckgaljldhaa.LConfig (Pair pair_of size_ok size_no may_ok may_no pair_S)

theorem large_ok {e S : Int} {s : Nat} (h : Cfg e s S) (x : Int) : pack_TooLarge.f e (s : Int) x = some (!fitsb S (HL s (s - 1)) 0 x) := by
  have hs1 := h.s1
  have hs2 := h.s2
  have hHL := HL_small (s := s) (n := s - 1) (by omega) (by omega)
  have h2 := empty_ok h (s - 1) (by omega)
  unfold pack_TooLarge.f
  rw [show ((s : Int) - 1) % 4294967296 = ((s - 1 : Nat) : Int) by omega, h2, Option.bind_some, if_pos rfl]
  dsimp only
  rw [fits_ok h _ _ 0 x (by omega) (by omega) (by omega) (by omega), Option.bind_some]
theorem large_bad {e s x : Int} (h : ¬ (12 ≤ e ∧ e ≤ 24 ∧ 1 ≤ s ∧ s ≤ 65536)) (h0 : 0 ≤ e ∧ e ≤ 255 ∧ 0 ≤ s ∧ s < 4294967296) : pack_TooLarge.f e s x = some true := by
  unfold pack_TooLarge.f
  rw [empty_bad h (by omega), Option.bind_some, if_neg (by decide)]
theorem PackLarge : fasciclelaw14_PackLarge.Pure := by
  unfold fasciclelaw14_PackLarge.Pure
  intro e s x m he hs hx hm
  have hb := bounds_u8 he
  have hs2 : 0 ≤ s ∧ s < 4294967296 := by have := bounds_u32 hs; omega
  have hm2 := bounds_u16 hm
  refine rounds_of (r := true) ?_
  unfold fasciclelaw14_PackLarge.f
  refine Ev.bind lives14 ?_
  obtain ⟨sn, rfl⟩ : ∃ sn : Nat, s = sn := ⟨s.toNat, by omega⟩
  by_cases hc : 12 ≤ e ∧ e ≤ 24 ∧ 1 ≤ (sn : Int) ∧ (sn : Int) ≤ 65536
  · obtain ⟨S, hS⟩ := cfg_of hc
    have hHL := HL_small (s := sn) (n := sn - 1) (by have := hS.s2; omega) (by have := hS.s2; omega)
    have hpl := plan_ok hS [x] (by simp)
    have hle := HL_le (s := sn) (show 0 ≤ sn - 1 by omega)
    have h1 := hS.s1
    rw [may_ok hc.1 hc.2.1 hc.2.2.1 hc.2.2.2]
    simp only [if_true, Option.bind_some, large_ok hS]
    refine Ev.bind hpl ?_
    cases hf : fitsb S (HL sn (sn - 1)) 0 x with
    | true =>
      have hf0 : fitsb S (HL sn 0) 0 x = true := fits_le (c := 0) hf (by omega)
      refine Ev.congr (f := fun _ => some true) (fun k => ?_) (Ev.now _)
      simp [planm, hf, hf0]
    | false =>
      refine Ev.congr (f := fun _ => some true) (fun k => ?_) (Ev.now _)
      have hpm : planm S sn [x] 0 (HL sn 0) 0 [] = ([], 6) := by simp [planm, hf]
      rw [hpm]
      have hff := of_decide_eq_false hf
      by_cases h2 : x < 1
      · simp [h2]
      · by_cases h3 : x > 1099511627776
        · simp [h2, h3]
        · have hbig : fitsb S (HL sn (sn - 1)) 0 (x + m) = false := decide_eq_false (by omega)
          rw [w64 (x := m) (by omega) (by omega), w64 (x := x + m) (by omega) (by omega), hbig]
          simp [h2, h3]
  · rw [may_no hc]
    simp only [if_true, Option.bind_some]
    refine Ev.congr (f := fun _ => some true) (fun k => ?_) (Ev.now _)
    rw [if_neg (by decide), large_bad hc ⟨hb.1, hb.2, by omega, by omega⟩]
    rfl

end Go.Proofs.Ytnmdckgaljldhaa.Pure
