/- table: what Compact keeps of a sorted row: a strictly rising row with the same members. -/
import Derived.Test.YtnmdckgaljldhaaHTable3
set_option linter.unusedVariables false
set_option linter.unusedSimpArgs false
namespace Go.Proofs.Ytnmdckgaljldhaa.Tb
open Go Go.Proofs.Ytnmdckgaljldhaa.G

instance : DecidableEq E1 := fun x y => decidable_of_iff (x.f0 = y.f0 ∧ x.f1 = y.f1) ⟨fun h => by cases x; cases y; simp only at h; rw [h.1, h.2], fun h => by rw [h]; exact ⟨rfl, rfl⟩⟩
/-- What is kept of the first i. -/
def dc (l : List E1) : Nat → List E1
  | 0 => []
  | i + 1 => if 0 < i ∧ l[i]? = l[i - 1]? then dc l i else dc l i ++ l[i]?.toList
theorem dc_len (l : List E1) : ∀ i, (dc l i).length ≤ i
  | 0 => Nat.le_refl _
  | i + 1 => by
    have := dc_len l i
    unfold dc
    split
    · omega
    · rw [List.length_append]
      have : l[i]?.toList.length ≤ 1 := by cases l[i]? <;> simp
      omega
theorem dc_take (l : List E1) : ∀ i, i ≤ l.length → (∀ j, 1 ≤ j → j < i → l[j]? ≠ l[j - 1]?) → dc l i = l.take i
  | 0, _, _ => by simp [dc]
  | i + 1, hi, h => by
    have ih := dc_take l i (by omega) (fun j h1 h2 => h j h1 (by omega))
    unfold dc
    rw [if_neg (fun hh => h i (by omega) (by omega) hh.2), ih, List.take_add_one]
theorem dc_mem (l : List E1) (x : E1) : ∀ i, i ≤ l.length → (x ∈ dc l i ↔ x ∈ l.take i)
  | 0, _ => by simp [dc]
  | i + 1, hi => by
    have ih := dc_mem l x i (by omega)
    rw [List.take_add_one]
    unfold dc
    split
    · rename_i hh
      rw [ih, List.mem_append]
      refine ⟨.inl, fun h => h.elim id fun h => ?_⟩
      have he : l[i - 1]? = some x := by rw [← hh.2]; simpa using h
      refine List.mem_iff_getElem?.2 ⟨i - 1, ?_⟩
      rw [List.getElem?_take_of_lt (by omega)]; exact he
    · rw [List.mem_append, List.mem_append, ih]
theorem dc_rise (l : List E1) (hs : Srt l) : ∀ i, i ≤ l.length → (dc l i).Pairwise lessE
  | 0, _ => by simp [dc]
  | i + 1, hi => by
    have ih := dc_rise l hs i (by omega)
    unfold dc
    split
    · exact ih
    · rename_i hh
      have hlt : i < l.length := by omega
      rw [List.getElem?_eq_getElem hlt]
      refine List.pairwise_append.2 ⟨ih, by simp, fun y hy x hx => ?_⟩
      have hx' : x = l[i] := by simpa using hx
      subst hx'
      have hy2 := (dc_mem l y i (by omega)).1 hy
      obtain ⟨j, hj⟩ := List.mem_iff_getElem?.1 hy2
      have hji : j < i := by
        refine Nat.lt_of_not_le fun h => ?_
        rw [List.getElem?_take_eq_none h] at hj; cases hj
      rw [List.getElem?_take_of_lt hji, List.getElem?_eq_getElem (by omega)] at hj
      have hyj : l[j] = y := Option.some.inj hj
      have h1 := List.pairwise_iff_getElem.1 hs j i (by omega) hlt hji
      rcases lessE_tri y l[i] with h | h | h
      · exact h
      · exfalso
        have hi0 : 0 < i := by omega
        by_cases hj1 : j = i - 1
        · refine hh ⟨hi0, ?_⟩
          rw [List.getElem?_eq_getElem hlt, List.getElem?_eq_getElem (by omega)]
          subst hj1
          rw [hyj, h]
        · have h2 := List.pairwise_iff_getElem.1 hs j (i - 1) (by omega) (by omega) (by omega)
          have h3 := List.pairwise_iff_getElem.1 hs (i - 1) i (by omega) hlt (by omega)
          rw [hyj, h] at h2
          rcases lessE_tri l[i - 1] l[i] with h4 | h4 | h4
          · exact h2 h4
          · refine hh ⟨hi0, ?_⟩
            rw [List.getElem?_eq_getElem hlt, List.getElem?_eq_getElem (by omega), h4]
          · exact h3 h4
      · rw [← hyj] at h; exact absurd h h1
/-- The sorted row, each once. -/
def compactE (l : List E1) : List E1 := dc l l.length
theorem compactE_mem (l : List E1) (x : E1) : x ∈ compactE l ↔ x ∈ l := by
  unfold compactE
  rw [dc_mem l x l.length (Nat.le_refl _), List.take_length]
theorem compactE_rise {l : List E1} (h : Srt l) : (compactE l).Pairwise lessE := dc_rise l h _ (Nat.le_refl _)
/-- Two strictly rising rows with the same members are one. -/
theorem rise_unique : ∀ {a b : List E1}, a.Pairwise lessE → b.Pairwise lessE → (∀ x, x ∈ a ↔ x ∈ b) → a = b
  | [], [], _, _, _ => rfl
  | [], y :: b, _, _, h => absurd ((h y).2 (List.mem_cons_self ..)) (by simp)
  | x :: a, [], _, _, h => absurd ((h x).1 (List.mem_cons_self ..)) (by simp)
  | x :: a, y :: b, ha, hb, h => by
    obtain ⟨ha1, ha2⟩ := List.pairwise_cons.1 ha
    obtain ⟨hb1, hb2⟩ := List.pairwise_cons.1 hb
    have irr : ∀ z : E1, ¬ lessE z z := fun z hz => by unfold lessE at hz; omega
    have trans : ∀ {p q r : E1}, lessE p q → lessE q r → lessE p r := fun h1 h2 => by unfold lessE at *; omega
    have hxy : x = y := by
      rcases List.mem_cons.1 ((h x).1 (List.mem_cons_self ..)) with h1 | h1
      · exact h1
      · rcases List.mem_cons.1 ((h y).2 (List.mem_cons_self ..)) with h2 | h2
        · exact h2.symm
        · exact absurd (trans (ha1 y h2) (hb1 x h1)) (irr x)
    subst hxy
    congr 1
    refine rise_unique ha2 hb2 fun z => ⟨fun hz => ?_, fun hz => ?_⟩
    · rcases List.mem_cons.1 ((h z).1 (List.mem_cons_of_mem _ hz)) with h1 | h1
      · subst h1; exact absurd (ha1 z hz) (irr z)
      · exact h1
    · rcases List.mem_cons.1 ((h z).2 (List.mem_cons_of_mem _ hz)) with h1 | h1
      · subst h1; exact absurd (hb1 z hz) (irr z)
      · exact h1
end Go.Proofs.Ytnmdckgaljldhaa.Tb
