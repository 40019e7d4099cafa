/- Plain laws of searches by halves over sorted entries. -/
import Derived.Test.YtekanmieppnpeaaHTFind
set_option linter.unusedVariables false
set_option linter.unusedSimpArgs false
namespace Go.Proofs.Ytekanmieppnpeaa.Tb
open Go Go.RowKit Go.Proofs.Ytekanmieppnpeaa.G Go.Proofs.YtekanmieppnpeaaW.PrintWords Go.Proofs.YtekanmieppnpeaaW.PrintLast Go.Proofs.YtekanmieppnpeaaW.PrintMore Go.Proofs.Ytekanmieppnpeaa.PureKit Go.Proofs.Ytekanmieppnpeaa.Sep

theorem bsr_spec (q : Nat → Bool) (n : Nat) (hm : ∀ x y, x ≤ y → y < n → q x = true → q y = true) : ∀ (d i j : Nat), i ≤ j → j ≤ n → j ≤ i + d → (∀ x, x < i → q x = false) → (∀ x, j ≤ x → x < n → q x = true) →
    i ≤ bsr q d i j ∧ bsr q d i j ≤ j ∧ (∀ x, x < bsr q d i j → q x = false) ∧ (∀ x, bsr q d i j ≤ x → x < n → q x = true)
  | 0, i, j, hij, hjn, hd, h1, h2 => by
    have : i = j := by omega
    subst this
    exact ⟨Nat.le_refl _, Nat.le_refl _, h1, h2⟩
  | d + 1, i, j, hij, hjn, hd, h1, h2 => by
    by_cases hlt : i < j
    · have hmid : i ≤ (i + j) / 2 ∧ (i + j) / 2 < j := by omega
      by_cases hq : q ((i + j) / 2) = true
      · have e : bsr q (d + 1) i j = bsr q d i ((i + j) / 2) := by
          conv => lhs; unfold bsr
          rw [if_pos hlt, if_pos hq]
        rw [e]
        obtain ⟨r1, r2, r3, r4⟩ := bsr_spec q n hm d i ((i + j) / 2) hmid.1 (by omega) (by omega) h1 (fun x hx hxn => hm _ _ hx hxn hq)
        exact ⟨r1, by omega, r3, r4⟩
      · have e : bsr q (d + 1) i j = bsr q d ((i + j) / 2 + 1) j := by
          conv => lhs; unfold bsr
          rw [if_pos hlt, if_neg hq]
        rw [e]
        have hf : q ((i + j) / 2) = false := by simpa using hq
        obtain ⟨r1, r2, r3, r4⟩ := bsr_spec q n hm d ((i + j) / 2 + 1) j (by omega) hjn (by omega) (fun x hx => by
          cases hqx : q x with
          | false => rfl
          | true =>
            have := hm x ((i + j) / 2) (by omega) (by omega) hqx
            rw [hf] at this; cases this) h2
        exact ⟨by omega, r2, r3, r4⟩
    · have e : bsr q (d + 1) i j = i := by
        conv => lhs; unfold bsr
        rw [if_neg hlt]
      have : i = j := by omega
      subst this
      rw [e]
      exact ⟨Nat.le_refl _, Nat.le_refl _, h1, h2⟩

/-- The Hash of the i-th entry. -/
def hsh (l : List E1) (i : Nat) : Int := (rd_T33 l (i : Int)).f0
theorem hsh_at {l : List E1} {i : Nat} (h : i < l.length) : hsh l i = (l[i]).f0 := by
  unfold hsh rd_T33
  rw [Int.toNat_natCast, List.getD_eq_getElem?_getD, List.getElem?_eq_getElem h]; rfl
theorem hsh_mono {l : List E1} (hs : l.Pairwise lessE) {i j : Nat} (h : i ≤ j) (hj : j < l.length) : hsh l i ≤ hsh l j := by
  by_cases he : i = j
  · subst he; exact Int.le_refl _
  · have := List.pairwise_iff_getElem.1 hs i j (by omega) hj (by omega)
    rw [hsh_at (by omega), hsh_at hj]
    unfold lessE at this
    omega
theorem findF_spec {l : List E1} (hs : l.Pairwise lessE) (h : Int) : findF l h ≤ l.length ∧ ∀ i, i < l.length → (hsh l i < h ↔ i < findF l h) := by
  obtain ⟨r1, r2, r3, r4⟩ := bsr_spec (geB l h) l.length (fun x y hxy hy hq => by
    have h1 : hsh l x ≥ h := of_decide_eq_true hq
    have h2 := hsh_mono hs hxy hy
    exact decide_eq_true (show hsh l y ≥ h by omega)) l.length 0 l.length (Nat.zero_le _) (Nat.le_refl _) (by omega) (fun x hx => by omega) (fun x hx hxn => by omega)
  refine ⟨r2, fun i hi => ⟨fun hlt => ?_, fun hlt => ?_⟩⟩
  · refine Nat.lt_of_not_le fun hle => ?_
    have : hsh l i ≥ h := of_decide_eq_true (r4 i hle hi)
    omega
  · have : ¬ hsh l i ≥ h := of_decide_eq_false (r3 i hlt)
    omega
theorem findN_spec {l : List E1} (hs : l.Pairwise lessE) (h : Int) : findF l h + findN l h ≤ l.length ∧ ∀ i, i < l.length → (hsh l i ≤ h ↔ i < findF l h + findN l h) := by
  obtain ⟨f1, f2⟩ := findF_spec hs h
  obtain ⟨r1, r2, r3, r4⟩ := bsr_spec (gtB l h (findF l h)) (l.length - findF l h) (fun x y hxy hy hq => by
    have h1 : hsh l (findF l h + x) > h := of_decide_eq_true hq
    have h2 := hsh_mono hs (show findF l h + x ≤ findF l h + y by omega) (by omega)
    exact decide_eq_true (show hsh l (findF l h + y) > h by omega)) (l.length - findF l h) 0 (l.length - findF l h) (Nat.zero_le _) (Nat.le_refl _) (by omega) (fun x hx => by omega) (fun x hx hxn => by omega)
  have e : bsr (gtB l h (findF l h)) (l.length - findF l h) 0 (l.length - findF l h) = findN l h := rfl
  rw [e] at r1 r2 r3 r4
  refine ⟨by omega, fun i hi => ⟨fun hle => ?_, fun hlt => ?_⟩⟩
  · refine Nat.lt_of_not_le fun hge => ?_
    have h1 : hsh l (findF l h + (i - findF l h)) > h := of_decide_eq_true (r4 (i - findF l h) (by omega) (by omega))
    rw [show findF l h + (i - findF l h) = i by omega] at h1
    omega
  · by_cases hif : i < findF l h
    · have := (f2 i hi).2 hif
      omega
    · have h1 : ¬ hsh l (findF l h + (i - findF l h)) > h := of_decide_eq_false (r3 (i - findF l h) (by omega))
      rw [show findF l h + (i - findF l h) = i by omega] at h1
      omega
end Go.Proofs.Ytekanmieppnpeaa.Tb
