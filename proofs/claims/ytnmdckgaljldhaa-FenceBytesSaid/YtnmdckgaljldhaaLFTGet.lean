/- Plain laws of fences got again; the document's reading. -/
import Derived.Test.YtnmdckgaljldhaaLFGet
import Derived.Test.YtnmdckgaljldhaaGx2
set_option linter.unusedVariables false
set_option linter.unusedSimpArgs false
namespace Go.Proofs.Ytnmdckgaljldhaa.Tb
open Go Go.RowKit Go.Proofs.YtnmdckgaljldhaaW.PrintWords Go.Proofs.YtnmdckgaljldhaaW.PrintLast Go.Proofs.YtnmdckgaljldhaaW.PrintMore Go.Proofs.Ytnmdckgaljldhaa.PureKit Go.Proofs.Ytnmdckgaljldhaa.Sep Go.Proofs.Ytnmdckgaljldhaa.G
set_option maxRecDepth 100000
theorem fbytesL_append (a b : List Int) : fbytesL (a ++ b) = fbytesL a ++ fbytesL b := List.flatMap_append ..
theorem fbytesL_bytes (l : List Int) : Bytes (fbytesL l) := by
  induction l with
  | nil => exact Bytes.nil
  | cons x l ih => unfold fbytesL at *; rw [List.flatMap_cons]; exact Bytes.append (nbT_bytes 8 _) ih
theorem fbytesL_drop (l : List Int) (i : Nat) (h : i < l.length) : (fbytesL l).drop (8 * i) = nbytes 8 (l[i]) ++ fbytesL (l.drop (i + 1)) := by
  have h1 : fbytesL l = fbytesL (l.take i) ++ fbytesL (l.drop i) := by rw [← fbytesL_append, List.take_append_drop]
  have h2 : (fbytesL (l.take i)).length = 8 * i := by rw [fbytesL_len, List.length_take]; congr 1; omega
  rw [h1, List.drop_left' h2, List.drop_eq_getElem_cons h]
  rfl
theorem fens_fbytesL (l : List Int) (hok : ∀ x ∈ l, 0 ≤ x ∧ x < 18446744073709551616) : fensAt (fbytesL l) 0 l.length = l := by
  unfold fensAt
  apply List.ext_getElem
  · rw [List.length_map, List.length_range]
  · intro i h1 h2
    rw [List.getElem_map, List.getElem_range]
    have hx := hok _ (List.getElem_mem h2)
    have h8 := nbT_drop (fbytesL_drop l i h2)
    rw [nbytes_len] at h8
    unfold fenAt
    rw [Nat.zero_add, h8, nbT_lev 8 _ hx.1, show ((256 ^ 8 : Nat) : Int) = 18446744073709551616 by decide]
    omega
/-- A reading of n fences: how far, the error, the fences. -/
def fget (b : List Int) (n : Int) : Nat × Int × List Int :=
  if n ≤ 0 then (0, 0, []) else if n > ((b.length / 8 : Nat) : Int) then (0, 2, []) else
    if risesF (fensAt b 0 n.toNat) = true then (8 * n.toNat, 0, fensAt b 0 n.toNat) else (8 * n.toNat, 8, [])
theorem fget_ev (b : List Int) (hb : Bytes b) (hl : b.length ≤ 1000000) (n : Int) : ∃ S : ByteArray, Ev (fun k => fascicleref12_Get.f k (strOfNums b) 0 0 n) (S, ((fget b n).1 : Int), (fget b n).2.1, (fget b n).2.2) := by
  unfold fget
  by_cases h0 : n ≤ 0
  · rw [if_pos h0]
    exact ⟨_, ref12_none _ 0 n h0⟩
  rw [if_neg h0]
  by_cases h1 : n > ((b.length / 8 : Nat) : Int)
  · rw [if_pos h1]
    exact ⟨_, ref12_short b 0 n hl (by omega) h1⟩
  rw [if_neg h1]
  obtain ⟨m, rfl⟩ : ∃ m : Nat, n = m := ⟨n.toNat, by omega⟩
  have h := ref12_some b hb 0 (Int.le_refl _) m (by omega) (by omega) hl (by decide)
  unfold ref12g at h
  rw [Int.toNat_natCast]
  cases hr : risesF (fensAt b 0 m) with
  | true =>
    rw [hr, if_pos rfl] at h
    rw [if_pos rfl]
    exact ⟨strOfNums (b.drop (8 * m)), Ev.eq h (by simp)⟩
  | false =>
    rw [hr, if_neg (by decide)] at h
    rw [if_neg (by decide)]
    exact ⟨strOfNums (b.drop (8 * m)), Ev.eq h (by simp)⟩
theorem rises_take (l : List Int) (i : Nat) (h : i < l.length) : risesF (l.take (i + 1)) = (risesF (l.take i) && (!decide (0 < (i : Int)) || decide (rd l (i : Int) ≥ rd l ((i : Int) - 1)))) := by
  have e : l.take (i + 1) = l.take i ++ [l[i]] := by rw [List.take_add_one, List.getElem?_eq_getElem h]; rfl
  have hl : (l.take i).length = i := by rw [List.length_take]; omega
  by_cases h0 : 0 < i
  · rw [e, risesF_snoc _ _ (by omega), hl, decide_eq_true (by omega : 0 < (i : Int)), Bool.not_true, Bool.false_or, rd_at l i h, show ((i : Int) - 1) = ((i - 1 : Nat) : Int) by omega, rd_getD]
    congr 1
    have : (l.take i).getD (i - 1) 0 = l.getD (i - 1) 0 := by
      rw [List.getD_eq_getElem?_getD, List.getD_eq_getElem?_getD, List.getElem?_take_of_lt (by omega)]
    rw [this]
  · have : i = 0 := by omega
    subst this
    rw [e]
    rfl
theorem same12_loop (l : List Int) (hl : l.length ≤ 1000000) : ∀ (d i : Nat), i + d = l.length → Ev (fun k => fasciclelaw12_same.l0 k l l (l.length : Int) (i : Int)) true
  | 0, i, h => by
    refine Ev.step (f := fun _ => some true) (fun k => ?_) (Ev.now _)
    unfold fasciclelaw12_same.l0
    rw [if_neg (by omega)]
  | d + 1, i, h => by
    refine Ev.step (fun k => ?_) (same12_loop l hl d (i + 1) (by omega))
    simp only [fasciclelaw12_same.l0]
    rw [if_pos (by omega), if_pos (by omega), if_pos (by omega), if_pos (by omega), if_pos trivial, nextI (by omega)]
theorem same12_ev (l : List Int) (hl : l.length ≤ 1000000) : Ev (fun k => fasciclelaw12_same.f k l l) true := by
  refine Ev.congr (fun k => ?_) (same12_loop l hl l.length 0 (by omega))
  unfold fasciclelaw12_same.f
  rw [if_pos rfl]
  rfl
end Go.Proofs.Ytnmdckgaljldhaa.Tb
