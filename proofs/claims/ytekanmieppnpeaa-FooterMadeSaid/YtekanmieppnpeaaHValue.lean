/- fascicleref01.Value. -/
import Derived.Test.YtekanmieppnpeaaMWide
import Derived.Test.YtekanmieppnpeaaGx0
import Derived.Test.YtekanmieppnpeaaGx6
set_option linter.unusedVariables false
set_option linter.unusedSimpArgs false
namespace Go.Proofs.Ytekanmieppnpeaa.G
open Go Go.RowKit Go.Proofs.YtekanmieppnpeaaW.PrintWords Go.Proofs.YtekanmieppnpeaaW.PrintLast Go.Proofs.YtekanmieppnpeaaW.PrintMore Go.Proofs.Ytekanmieppnpeaa.PureKit Go.Proofs.Ytekanmieppnpeaa.Rol

theorem leb_cons_drop (l : List Int) (i : Nat) (h : i < l.length) : leb (l.drop i) = (l[i]).toNat + 256 * leb (l.drop (i + 1)) := by
  rw [List.drop_eq_getElem_cons h]
  rfl
theorem value_l0 (l : List Int) (hb : Bytes l) (hl : l.length ≤ 8) : ∀ (i : Nat), i ≤ l.length → Ev (fun k => fascicleref01_Value.l0 k (strOfNums l) ((leb (l.drop i) : Nat) : Int) ((i : Int) - 1)) ((leb l : Nat) : Int) := by
  intro i
  induction i with
  | zero =>
    intro _
    refine Ev.step (f := fun _ => some ((leb l : Nat) : Int)) (fun k => ?_) (Ev.now _)
    simp only [fascicleref01_Value.l0]
    rw [if_neg (by omega), List.drop_zero]
  | succ i ih =>
    intro hi
    refine Ev.step (fun k => ?_) (ih (by omega))
    have hlt := leb_lt (l.drop (i + 1)) (hb.drop _)
    rw [List.length_drop] at hlt
    have hp : (256 : Nat) ^ (l.length - (i + 1)) ≤ 256 ^ 7 := Nat.pow_le_pow_right (by omega) (by omega)
    have hby := hb l[i] (List.getElem_mem (by omega))
    have hbt := bt_nums l hb i (by omega)
    rw [leb_cons_drop l i (by omega)]
    simp only [fascicleref01_Value.l0]
    rw [show ((i + 1 : Nat) : Int) - 1 = (i : Int) by omega, if_pos (by omega), if_pos (by omega), if_pos (by rw [nums_size]; omega), hbt]
    generalize leb (l.drop (i + 1)) = y at *
    generalize l[i] = b at *
    have hy : y < 72057594037927936 := Nat.lt_of_lt_of_le hlt hp
    rw [wu64 (x := b) (by omega) (by omega), wu64 (x := (y : Int) * 256) (by omega) (by omega), wu64 (by omega) (by omega), w64 (by omega) (by omega)]
    congr 1
    omega
theorem value_calls (w : World) (l : List Int) (s : ByteArray) (hs : s = strOfNums l) (hb : Bytes l) (hl : l.length ≤ 8) :
    Calls Try.prog 56 #[.string s] w fun e w' => e = .returned (.int .u64 ((leb l : Nat) : Int)) ∧ Drawn0 w w' := by
  subst hs
  have h := value_l0 l hb hl l.length (Nat.le_refl _)
  rw [List.drop_length] at h
  obtain ⟨k, hk⟩ := h.rounds
  refine fascicleref01_Value.calls k _ _ w ?_
  unfold fascicleref01_Value.f
  rw [nums_size, w64 (by omega) (by omega)]
  exact hk

end Go.Proofs.Ytekanmieppnpeaa.G
