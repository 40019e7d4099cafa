/- Plain laws of fences: where entries of a Hash can stand. -/
import Derived.Test.YtnmdckgaljldhaaLFence
import Derived.Test.YtnmdckgaljldhaaLTabA
set_option linter.unusedVariables false
set_option linter.unusedSimpArgs false
namespace Go.Proofs.Ytnmdckgaljldhaa.Fe
open Go Go.RowKit Go.Proofs.Ytnmdckgaljldhaa.G Go.Proofs.YtnmdckgaljldhaaW.PrintWords Go.Proofs.YtnmdckgaljldhaaW.PrintLast Go.Proofs.YtnmdckgaljldhaaW.PrintMore Go.Proofs.Ytnmdckgaljldhaa.PureKit Go.Proofs.Ytnmdckgaljldhaa.Sep Go.Proofs.Ytnmdckgaljldhaa.Tb

theorem fencesE_len (l : List E1) : (fencesE l).length = chunks l.length := by unfold fencesE; rw [List.length_map, List.length_range]
theorem rd_fence (l : List E1) (j : Nat) (h : j < chunks l.length) : rd (fencesE l) (j : Int) = hsh l (16 * j) := by
  rw [rd_at _ j (by rw [fencesE_len]; exact h)]
  unfold fencesE
  rw [List.getElem_map, List.getElem_range]
  rfl
/-- What bsr finds in fences: how many chunks begin ahead of where entries cease to be lesser. -/
theorem fence_bsr {l : List E1} (hs : l.Pairwise lessE) (p : Int → Bool) (hp : ∀ x y : Int, x ≤ y → p x = true → p y = true) (t : Nat) (htl : t ≤ l.length) (ht : ∀ i, i < l.length → (p (hsh l i) = false ↔ i < t)) :
    bsr (fun i => p (rd (fencesE l) (i : Int))) (fencesE l).length 0 (fencesE l).length = chunks t := by
  rw [fencesE_len]
  obtain ⟨r1, r2, r3, r4⟩ := bsr_spec (fun i => p (rd (fencesE l) (i : Int))) (chunks l.length) (fun x y hxy hy hq => by
    have h16 : 16 * y < l.length := by unfold chunks at hy; omega
    have e1 := rd_fence l x (by omega)
    have e2 := rd_fence l y hy
    have hq' : p (rd (fencesE l) (x : Int)) = true := hq
    show p (rd (fencesE l) (y : Int)) = true
    rw [e1] at hq'
    rw [e2]
    replace hq := hq'
    exact hp _ _ (hsh_mono hs (by omega) h16) hq) (chunks l.length) 0 (chunks l.length) (Nat.zero_le _) (Nat.le_refl _) (by omega) (fun x hx => by omega) (fun x hx hxn => by omega)
  have hct : chunks t ≤ chunks l.length := by unfold chunks; omega
  generalize bsr (fun i => p (rd (fencesE l) (i : Int))) (chunks l.length) 0 (chunks l.length) = r at *
  rcases Nat.lt_trichotomy r (chunks t) with h | h | h
  · exfalso
    have h16 : 16 * r < t := by unfold chunks at h; omega
    have h1 : p (rd (fencesE l) (r : Int)) = true := r4 r (Nat.le_refl _) (by omega)
    rw [rd_fence l r (by omega), (ht (16 * r) (by omega)).2 h16] at h1
    cases h1
  · exact h
  · exfalso
    have h16 : ¬ 16 * chunks t < t := by unfold chunks; omega
    have h17 : 16 * chunks t < l.length := by unfold chunks at h r2 ⊢; omega
    have h1 : p (rd (fencesE l) ((chunks t : Nat) : Int)) = false := r3 (chunks t) h
    rw [rd_fence l (chunks t) (by omega)] at h1
    exact h16 ((ht _ h17).1 h1)
theorem fence_ge {l : List E1} (hs : l.Pairwise lessE) (h : Int) : bsr (atge (fencesE l) h) (fencesE l).length 0 (fencesE l).length = chunks (findF l h) := by
  obtain ⟨f1, f2⟩ := findF_spec hs h
  exact fence_bsr hs (fun x => decide (x ≥ h)) (fun x y hxy hx => decide_eq_true (by have := of_decide_eq_true hx; omega)) _ f1 (fun i hi => by rw [decide_eq_false_iff_not, ← f2 i hi]; omega)
theorem fence_gt {l : List E1} (hs : l.Pairwise lessE) (h : Int) : bsr (atgt (fencesE l) h) (fencesE l).length 0 (fencesE l).length = chunks (findF l h + findN l h) := by
  obtain ⟨f1, f2⟩ := findN_spec hs h
  exact fence_bsr hs (fun x => decide (x > h)) (fun x y hxy hx => decide_eq_true (by have := of_decide_eq_true hx; omega)) _ f1 (fun i hi => by rw [decide_eq_false_iff_not, ← f2 i hi]; omega)
/-- The range, told by where the entries stand. -/
def rangeE (n F T : Nat) : Int × Int := if T = 0 then (0, 0) else (((16 * (chunks F - 1) : Nat) : Int), ((min n (16 * chunks T) : Nat) : Int))
theorem range_f {l : List E1} (hs : l.Pairwise lessE) (hl : l.length ≤ 1000000) (h : Int) : fence_Range.f (fencesE l) (l.length : Int) h = some (rangeE l.length (findF l h) (findF l h + findN l h)) := by
  unfold fence_Range.f
  rw [if_pos (by rw [fencesE_len]; unfold chunks; omega)]
  congr 1
  unfold frange rangeE
  rw [fence_ge hs h, fence_gt hs h]
  have hc : chunks (findF l h + findN l h) = 0 ↔ findF l h + findN l h = 0 := by unfold chunks; omega
  by_cases h0 : findF l h + findN l h = 0
  · rw [if_pos (hc.2 h0), if_pos h0]
  · rw [if_neg (fun hh => h0 (hc.1 hh)), if_neg h0]
    refine Prod.ext ?_ ?_
    · show 16 * mx 0 ((chunks (findF l h) : Nat) - 1 : Int) = _
      unfold mx
      split <;> omega
    · show mn (l.length : Int) (16 * ((chunks (findF l h + findN l h) : Nat) : Int)) = _
      unfold mn
      split <;> omega
end Go.Proofs.Ytnmdckgaljldhaa.Fe
