/- The document's reader of numbers (fascicleref01.Get). (From LVarint.) -/
import Derived.Test.YtnmdckgaljldhaaMCur
import Derived.Test.YtnmdckgaljldhaaGx1
set_option linter.unusedVariables false
set_option linter.unusedSimpArgs false
namespace Go.Proofs.Ytnmdckgaljldhaa.Sep
open Go Go.RowKit Go.Proofs.Ytnmdckgaljldhaa.G Go.Proofs.YtnmdckgaljldhaaW.PrintWords Go.Proofs.YtnmdckgaljldhaaW.PrintLast Go.Proofs.YtnmdckgaljldhaaW.PrintMore Go.Proofs.Ytnmdckgaljldhaa.PureKit

theorem tmod128 (b : Int) (h : 0 ≤ b) : Int.tmod b 128 = b % 128 := Int.tmod_eq_emod_of_nonneg h
set_option maxRecDepth 100000 in
theorem value_l0 (l : List Int) (hb : Bytes l) (hl : l.length ≤ 8) : ∀ (j : Nat), j ≤ l.length → Ev (fun k => fascicleref01_Value.l0 k (strOfNums l) (lev (l.drop j)) ((j : Int) - 1)) (lev l) := by
  intro j
  induction j with
  | zero =>
    intro _
    refine Ev.step (f := fun _ => some (lev l)) (fun k => ?_) (Ev.now _)
    simp only [fascicleref01_Value.l0]
    rw [if_neg (by omega)]
    rfl
  | succ j ih =>
    intro hj
    have hj1 : j < l.length := by omega
    refine Ev.step (fun k => ?_) (ih (by omega))
    simp only [fascicleref01_Value.l0]
    have hx := hb _ (List.getElem_mem hj1)
    have hd := List.drop_eq_getElem_cons hj1
    have hbd := lev_bound (l.drop (j + 1)) (hb.drop _)
    have hle : (256 : Int) ^ (l.drop (j + 1)).length ≤ 256 ^ 7 := by
      have := Nat.pow_le_pow_right (show 0 < 256 by decide) (show (l.drop (j + 1)).length ≤ 7 by rw [List.length_drop]; omega)
      exact_mod_cast this
    have h7 : (256 : Int) ^ 7 = 72057594037927936 := by decide
    rw [if_pos (by omega), if_pos (by omega), if_pos (by rw [nums_size]; omega), show (((j + 1 : Nat) : Int) - 1) = (j : Int) by omega, bt_nums l hb j hj1]
    rw [wu64 (x := lev (l.drop (j + 1)) * 256) (by omega) (by omega), wu64 (x := l[j]) (by omega) (by omega), wu64 (by omega) (by omega), w64 (by omega) (by omega), hd]
    congr 1
    show lev (l.drop (j + 1)) * 256 + l[j] = l[j] + 256 * lev (l.drop (j + 1))
    omega
theorem value_f (l : List Int) (hb : Bytes l) (hl : l.length ≤ 8) : Ev (fun k => fascicleref01_Value.f k (strOfNums l)) (lev l) := by
  have := value_l0 l hb hl l.length (Nat.le_refl _)
  refine Ev.congr (fun k => ?_) this
  unfold fascicleref01_Value.f
  rw [nums_size, w64 (by omega) (by omega), List.drop_length]
  rfl
theorem nums_nilE : (⟨#[]⟩ : ByteArray) = strOfNums [] := rfl
theorem take_none (s : List Int) (at_ n : Int) (hn : n ≤ 0) : Ev (fun k => fascicleref01_Take.f k (strOfNums s) at_ 0 n) (strOfNums s, at_, 0, strOfNums []) := by
  refine Ev.step (f := fun _ => some (strOfNums s, at_, 0, strOfNums [])) (fun k => ?_) (Ev.now _)
  unfold fascicleref01_Take.f
  rw [if_pos rfl, decide_eq_true hn]
  rfl
theorem take_short (s : List Int) (at_ n : Int) (hn : 0 < n) (hs : n > s.length) : Ev (fun k => fascicleref01_Take.f k (strOfNums s) at_ 0 n) (strOfNums s, at_, 2, strOfNums []) := by
  refine Ev.step (f := fun _ => some (strOfNums s, at_, 2, strOfNums [])) (fun k => ?_) (Ev.now _)
  unfold fascicleref01_Take.f
  rw [if_pos rfl, decide_eq_false (by omega)]
  simp only [fascicleref01_Take.j0]
  rw [if_neg (by decide), if_pos (by rw [nums_size]; omega)]
  rfl
theorem take_some (s : List Int) (at_ : Int) (n : Nat) (hn : 0 < n) (hs : n ≤ s.length) (h0 : 0 ≤ at_) (h1 : at_ + n ≤ 1000000000000000) : Ev (fun k => fascicleref01_Take.f k (strOfNums s) at_ 0 n) (strOfNums (s.drop n), at_ + n, 0, strOfNums (s.take n)) := by
  refine Ev.step (f := fun _ => some (strOfNums (s.drop n), at_ + n, 0, strOfNums (s.take n))) (fun k => ?_) (Ev.now _)
  unfold fascicleref01_Take.f
  rw [if_pos rfl, decide_eq_false (by omega)]
  simp only [fascicleref01_Take.j0]
  rw [if_neg (by decide), if_neg (by rw [nums_size]; omega), if_pos (by omega), if_pos (by rw [nums_size]; omega), w64 (by omega) (by omega), nums_size, nums_extract, nums_extract, Int.toNat_natCast, List.take_length, List.drop_zero]
theorem getn_short (s : List Int) (at_ n : Int) (hn : 0 < n) (hs : n > s.length) : Ev (fun k => fascicleref01_Get.f k (strOfNums s) at_ 0 n) (strOfNums s, at_, 2, 0) := by
  unfold fascicleref01_Get.f
  refine Ev.bind (take_short s at_ n hn hs) ?_
  exact Ev.bind (value_f [] Bytes.nil (by decide)) (Ev.now _)
theorem getn_some (s : List Int) (at_ : Int) (n : Nat) (hn : 0 < n) (hn8 : n ≤ 8) (hb : Bytes s) (hs : n ≤ s.length) (h0 : 0 ≤ at_) (h1 : at_ + n ≤ 1000000000000000) : Ev (fun k => fascicleref01_Get.f k (strOfNums s) at_ 0 n) (strOfNums (s.drop n), at_ + n, 0, lev (s.take n)) := by
  unfold fascicleref01_Get.f
  refine Ev.bind (take_some s at_ n hn hs h0 h1) ?_
  exact Ev.bind (value_f (s.take n) (hb.take _) (by rw [List.length_take]; omega)) (Ev.now _)


end Go.Proofs.Ytnmdckgaljldhaa.Sep
