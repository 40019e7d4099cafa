/- Plain laws of fences and searches (seat of ch 13). -/
import Derived.Test.YtekanmieppnpeaaLSearch
import Derived.Test.YtekanmieppnpeaaHFenceG
import Derived.Test.YtekanmieppnpeaaHFenceRange
set_option linter.unusedVariables false
set_option linter.unusedSimpArgs false
namespace Go.Proofs.Ytekanmieppnpeaa.Fe
open Go Go.RowKit Go.Proofs.Ytekanmieppnpeaa.G Go.Proofs.YtekanmieppnpeaaW.PrintWords Go.Proofs.YtekanmieppnpeaaW.PrintLast Go.Proofs.YtekanmieppnpeaaW.PrintMore Go.Proofs.Ytekanmieppnpeaa.PureKit Go.Proofs.Ytekanmieppnpeaa.Sep Go.Proofs.Ytekanmieppnpeaa.Tb

theorem fencesE_len (l : List E1) : (fencesE l).length = chunks l.length := by unfold fencesE; rw [List.length_map, List.length_range]
theorem rd_fence (l : List E1) (j : Nat) (h : j < chunks l.length) : rd (fencesE l) (j : Int) = hsh l (16 * j) := by
  rw [rd_at _ j (by rw [fencesE_len]; exact h)]
  unfold fencesE
  rw [List.getElem_map, List.getElem_range]
  rfl
/-- What bsr finds in fences: how many chunks begin ahead of where entries cease to be lesser. -/
theorem fence_bsr {l : List E1} (hs : l.Pairwise lessE) (p : Int → Bool) (hp : ∀ x y : Int, x ≤ y → p x = true → p y = true) (t : Nat) (htl : t ≤ l.length) (ht : ∀ i, i < l.length → (p (hsh l i) = false ↔ i < t)) :
    bsr (fun i => p (rd (fencesE l) (i : Int))) (fencesE l).length 0 (fencesE l).length = chunks t := by
  rw [fencesE_len]
  obtain ⟨r1, r2, r3, r4⟩ := bsr_spec (fun i => p (rd (fencesE l) (i : Int))) (chunks l.length) (fun x y hxy hy hq => by
    have h16 : 16 * y < l.length := by unfold chunks at hy; omega
    have e1 := rd_fence l x (by omega)
    have e2 := rd_fence l y hy
    have hq' : p (rd (fencesE l) (x : Int)) = true := hq
    show p (rd (fencesE l) (y : Int)) = true
    rw [e1] at hq'
    rw [e2]
    replace hq := hq'
    exact hp _ _ (hsh_mono hs (by omega) h16) hq) (chunks l.length) 0 (chunks l.length) (Nat.zero_le _) (Nat.le_refl _) (by omega) (fun x hx => by omega) (fun x hx hxn => by omega)
  have hct : chunks t ≤ chunks l.length := by unfold chunks; omega
  generalize bsr (fun i => p (rd (fencesE l) (i : Int))) (chunks l.length) 0 (chunks l.length) = r at *
  rcases Nat.lt_trichotomy r (chunks t) with h | h | h
  · exfalso
    have h16 : 16 * r < t := by unfold chunks at h; omega
    have h1 : p (rd (fencesE l) (r : Int)) = true := r4 r (Nat.le_refl _) (by omega)
    rw [rd_fence l r (by omega), (ht (16 * r) (by omega)).2 h16] at h1
    cases h1
  · exact h
  · exfalso
    have h16 : ¬ 16 * chunks t < t := by unfold chunks; omega
    have h17 : 16 * chunks t < l.length := by unfold chunks at h r2 ⊢; omega
    have h1 : p (rd (fencesE l) ((chunks t : Nat) : Int)) = false := r3 (chunks t) h
    rw [rd_fence l (chunks t) (by omega)] at h1
    exact h16 ((ht _ h17).1 h1)
theorem fence_ge {l : List E1} (hs : l.Pairwise lessE) (h : Int) : bsr (atge (fencesE l) h) (fencesE l).length 0 (fencesE l).length = chunks (findF l h) := by
  obtain ⟨f1, f2⟩ := findF_spec hs h
  exact fence_bsr hs (fun x => decide (x ≥ h)) (fun x y hxy hx => decide_eq_true (by have := of_decide_eq_true hx; omega)) _ f1 (fun i hi => by rw [decide_eq_false_iff_not, ← f2 i hi]; omega)
theorem fence_gt {l : List E1} (hs : l.Pairwise lessE) (h : Int) : bsr (atgt (fencesE l) h) (fencesE l).length 0 (fencesE l).length = chunks (findF l h + findN l h) := by
  obtain ⟨f1, f2⟩ := findN_spec hs h
  exact fence_bsr hs (fun x => decide (x > h)) (fun x y hxy hx => decide_eq_true (by have := of_decide_eq_true hx; omega)) _ f1 (fun i hi => by rw [decide_eq_false_iff_not, ← f2 i hi]; omega)
/-- The range, told by where the entries stand. -/
def rangeE (n F T : Nat) : Int × Int := if T = 0 then (0, 0) else (((16 * (chunks F - 1) : Nat) : Int), ((min n (16 * chunks T) : Nat) : Int))
theorem range_f {l : List E1} (hs : l.Pairwise lessE) (hl : l.length ≤ 1000000) (h : Int) : fence_Range.f (fencesE l) (l.length : Int) h = some (rangeE l.length (findF l h) (findF l h + findN l h)) := by
  unfold fence_Range.f
  rw [if_pos (by rw [fencesE_len]; unfold chunks; omega)]
  congr 1
  unfold frange rangeE
  rw [fence_ge hs h, fence_gt hs h]
  have hc : chunks (findF l h + findN l h) = 0 ↔ findF l h + findN l h = 0 := by unfold chunks; omega
  by_cases h0 : findF l h + findN l h = 0
  · rw [if_pos (hc.2 h0), if_pos h0]
  · rw [if_neg (fun hh => h0 (hc.1 hh)), if_neg h0]
    refine Prod.ext ?_ ?_
    · show 16 * mx 0 ((chunks (findF l h) : Nat) - 1 : Int) = _
      unfold mx
      split <;> omega
    · show mn (l.length : Int) (16 * ((chunks (findF l h + findN l h) : Nat) : Int)) = _
      unfold mn
      split <;> omega
theorem chunks_b (n : Nat) : n ≤ 16 * chunks n ∧ 16 * chunks n ≤ n + 15 := by unfold chunks; omega
theorem div_b (n : Nat) : n ≤ 16 * ((n + 15) / 16) ∧ 16 * ((n + 15) / 16) ≤ n + 15 := by omega
theorem range_b (n F T M : Nat) (hFT : F ≤ T) (hT : T ≤ n) (hM : T - F ≤ 16 * M) : ∃ a e : Nat, rangeE n F T = ((a : Int), (e : Int)) ∧ e ≤ n ∧ a ≤ e ∧ a % 16 = 0 ∧ (F < T → a ≤ F) ∧ (F < T → T ≤ e) ∧ e ≤ a + 16 * (M + 2) := by
  unfold rangeE
  by_cases h0 : T = 0
  · rw [if_pos h0]
    exact ⟨0, 0, rfl, Nat.zero_le _, Nat.le_refl _, rfl, fun h => by omega, fun h => by omega, by omega⟩
  · rw [if_neg h0]
    obtain ⟨c1, c2⟩ := chunks_b F
    obtain ⟨c3, c4⟩ := chunks_b T
    generalize chunks F = cF at *
    generalize chunks T = cT at *
    refine ⟨_, _, rfl, Nat.min_le_left _ _, ?_, Nat.mul_mod_right _ _, fun _ => ?_, fun _ => ?_, ?_⟩
    · omega
    · omega
    · omega
    · omega

/-- Where the entries of a Hash stand. -/
theorem at_hash {l : List E1} (hs : l.Pairwise lessE) (h : Int) (i : Nat) (hi : i < l.length) : (l[i]).f0 = h ↔ findF l h ≤ i ∧ i < findF l h + findN l h := by
  have h1 := (findF_spec hs h).2 i hi
  have h2 := (findN_spec hs h).2 i hi
  rw [hsh_at hi] at h1 h2
  omega
theorem filter_none {l : List E1} (p : E1 → Bool) (h : ∀ x ∈ l, p x = false) : l.filter p = [] := List.filter_eq_nil_iff.2 fun x hx => by rw [h x hx]; decide
/-- Whatever stands outside of a segment has another Hash. -/
theorem seg_filter (l : List E1) (p : E1 → Bool) (a e : Nat) (hae : a ≤ e) (he : e ≤ l.length) (ho : ∀ i (hi : i < l.length), p l[i] = true → a ≤ i ∧ i < e) : ((l.take e).drop a).filter p = l.filter p := by
  have h1 : l = (l.take e).take a ++ (l.take e).drop a ++ l.drop e := by rw [List.take_append_drop, List.take_append_drop]
  have hA : ((l.take e).take a).filter p = [] := filter_none p (fun x hx => by
    obtain ⟨i, hi, rfl⟩ := List.mem_iff_getElem.1 hx
    cases hp : p ((l.take e).take a)[i] with
    | false => rfl
    | true =>
      have hil : i < a := by rw [List.length_take] at hi; omega
      have hv : ((l.take e).take a)[i] = l[i]'(by omega) := by rw [List.getElem_take, List.getElem_take]
      rw [hv] at hp
      have := ho i (by omega) hp
      omega)
  have hB : (l.drop e).filter p = [] := filter_none p (fun x hx => by
    obtain ⟨i, hi, rfl⟩ := List.mem_iff_getElem.1 hx
    have hi' := hi
    rw [List.length_drop] at hi'
    cases hp : p (l.drop e)[i] with
    | false => rfl
    | true =>
      have hv : (l.drop e)[i] = l[e + i]'(by omega) := List.getElem_drop ..
      rw [hv] at hp
      have := ho (e + i) (by omega) hp
      omega)
  have h2 : l.filter p = ((l.take e).take a ++ (l.take e).drop a ++ l.drop e).filter p := congrArg (List.filter p) h1
  rw [h2, List.filter_append, List.filter_append, hA, hB, List.nil_append, List.append_nil]
/-- All in a segment are such. -/
theorem seg_all (l : List E1) (p : E1 → Bool) (a e : Nat) (hae : a ≤ e) (he : e ≤ l.length) (ho : ∀ i (hi : i < l.length), p l[i] = true ↔ a ≤ i ∧ i < e) : (l.take e).drop a = l.filter p := by
  rw [← seg_filter l p a e hae he (fun i hi h => (ho i hi).1 h)]
  symm
  refine List.filter_eq_self.2 fun x hx => ?_
  obtain ⟨i, hi, rfl⟩ := List.mem_iff_getElem.1 hx
  rw [List.length_drop, List.length_take] at hi
  have hv : ((l.take e).drop a)[i]'(by rw [List.length_drop, List.length_take]; exact hi) = l[a + i]'(by omega) := by rw [List.getElem_drop, List.getElem_take]
  rw [hv]
  exact (ho (a + i) (by omega)).2 ⟨by omega, by omega⟩
/-- The places of a Hash. -/
def wantE (l : List E1) (h : Int) : List Int := (l.filter fun x => decide (x.f0 = h)).map (·.f1)
theorem want_rise {l : List E1} (hs : l.Pairwise lessE) (h : Int) : (wantE l h).Pairwise (· < ·) := by
  unfold wantE
  rw [List.pairwise_map]
  refine List.Pairwise.imp_of_mem (R := lessE) (fun {x y} hx hy hxy => ?_) (hs.filter _)
  have h1 := of_decide_eq_true (List.mem_filter.1 hx).2
  have h2 := of_decide_eq_true (List.mem_filter.1 hy).2
  unfold lessE at hxy
  omega
theorem find_seg {l : List E1} (hs : l.Pairwise lessE) (h : Int) : (l.take (findF l h + findN l h)).drop (findF l h) = l.filter fun x => decide (x.f0 = h) :=
  seg_all l _ _ _ (by omega) (findN_spec hs h).1 (fun i hi => by rw [decide_eq_true_iff]; exact at_hash hs h i hi)
end Go.Proofs.Ytekanmieppnpeaa.Fe
