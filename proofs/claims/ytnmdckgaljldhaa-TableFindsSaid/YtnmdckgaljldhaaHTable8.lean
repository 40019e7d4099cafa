/- table: slices.Compact, its second part. -/
import Derived.Test.YtnmdckgaljldhaaHTable6
set_option linter.unusedVariables false
set_option linter.unusedSimpArgs false
namespace Go.Proofs.Ytnmdckgaljldhaa.Tb
open Go Go.RowKit Go.Proofs.YtnmdckgaljldhaaW.PrintWords Go.Proofs.YtnmdckgaljldhaaW.PrintLast Go.Proofs.YtnmdckgaljldhaaW.PrintMore Go.Proofs.Ytnmdckgaljldhaa.Sep Go.Proofs.Ytnmdckgaljldhaa.G
set_option maxHeartbeats 4000000
set_option maxRecDepth 100000

/-- The cells from an entry on are still these. -/
def HoldFrom (cur : Array Value) (l : List E1) (p : Nat) : Prop := ∀ (j : Nat) (x : E1), p ≤ j → l[j]? = some x → cur[2 * j]? = some (.int .u64 x.f0) ∧ cur[2 * j + 1]? = some (.int .u32 x.f1)
/-- Where the inner loop is: k kept, p looked at. -/
def Mid (cur : Array Value) (l : List E1) (p k : Nat) : Prop := 1 ≤ p ∧ p ≤ l.length ∧ (dc l p).length = k ∧ k + 1 ≤ p ∧ Hold cur (dc l p) ∧ HoldFrom cur l (p - 1)
theorem Mid.start {cur : Array Value} {l : List E1} {i : Nat} (h : Hold cur l) (h1 : 1 ≤ i) (hi : i < l.length) (hn : ∀ j, 1 ≤ j → j < i → l[j]? ≠ l[j - 1]?) (ht : l[i]? = l[i - 1]?) : Mid cur l (i + 1) i := by
  have h2 := dc_take l i (by omega) hn
  have h3 : dc l (i + 1) = l.take i := by
    show (if 0 < i ∧ l[i]? = l[i - 1]? then dc l i else _) = _
    rw [if_pos ⟨by omega, ht⟩, h2]
  refine ⟨by omega, by omega, by rw [h3, List.length_take]; omega, by omega, ?_, fun j x _ hj => h j x hj⟩
  intro j x hj
  rw [h3] at hj
  have hji : j < i := by
    refine Nat.lt_of_not_le fun hle => ?_
    rw [List.getElem?_take_eq_none hle] at hj; cases hj
  rw [List.getElem?_take_of_lt hji] at hj
  exact h j x hj
theorem Mid.skip {cur : Array Value} {l : List E1} {p k : Nat} (h : Mid cur l p k) (hp : p < l.length) (ht : l[p]? = l[p - 1]?) : Mid cur l (p + 1) k := by
  obtain ⟨h1, h2, h3, h4, h5, h6⟩ := h
  have h7 : dc l (p + 1) = dc l p := by
    show (if 0 < p ∧ l[p]? = l[p - 1]? then dc l p else _) = _
    rw [if_pos ⟨by omega, ht⟩]
  exact ⟨by omega, by omega, by rw [h7]; exact h3, by omega, by rw [h7]; exact h5, fun j x hj hx => h6 j x (by omega) hx⟩
theorem Mid.keep {cur : Array Value} {l : List E1} {p k : Nat} {x : E1} (h : Mid cur l p k) (hx : l[p]? = some x) (ht : l[p]? ≠ l[p - 1]?) (hs : 2 * l.length ≤ cur.size) :
    Mid ((cur.setIfInBounds (2 * k) (.int .u64 x.f0)).setIfInBounds (2 * k + 1) (.int .u32 x.f1)) l (p + 1) (k + 1) := by
  obtain ⟨h1, h2, h3, h4, h5, h6⟩ := h
  have hp : p < l.length := (List.getElem?_eq_some_iff.1 hx).1
  have h7 : dc l (p + 1) = dc l p ++ [x] := by
    show (if 0 < p ∧ l[p]? = l[p - 1]? then _ else dc l p ++ l[p]?.toList) = _
    rw [if_neg (fun hh => ht hh.2), hx]; rfl
  have hset : ∀ q, q ≠ 2 * k → q ≠ 2 * k + 1 → ((cur.setIfInBounds (2 * k) (.int .u64 x.f0)).setIfInBounds (2 * k + 1) (.int .u32 x.f1))[q]? = cur[q]? := by
    intro q a b
    rw [Array.getElem?_setIfInBounds, if_neg (by omega), Array.getElem?_setIfInBounds, if_neg (by omega)]
  refine ⟨by omega, by omega, by rw [h7, List.length_append, h3]; rfl, by omega, ?_, ?_⟩
  · intro j y hj
    rw [h7] at hj
    by_cases hjk : j < k
    · rw [List.getElem?_append_left (by omega)] at hj
      rw [hset _ (by omega) (by omega), hset _ (by omega) (by omega)]
      exact h5 j y hj
    · have hjk2 : j = k := by
        have := (List.getElem?_eq_some_iff.1 hj).1
        rw [List.length_append, h3] at this
        simp at this; omega
      subst hjk2
      rw [List.getElem?_append_right (by omega), h3, Nat.sub_self] at hj
      have hxy : x = y := by simpa using hj
      subst hxy
      constructor
      · rw [Array.getElem?_setIfInBounds, if_neg (by omega), Array.getElem?_setIfInBounds, if_pos rfl, if_pos (by omega)]
      · rw [Array.getElem?_setIfInBounds, if_pos rfl, if_pos (by rw [Array.size_setIfInBounds]; omega)]
  · intro j y hj hy
    rw [hset _ (by omega) (by omega), hset _ (by omega) (by omega)]
    exact h6 j y (by omega) hy
end Go.Proofs.Ytnmdckgaljldhaa.Tb
