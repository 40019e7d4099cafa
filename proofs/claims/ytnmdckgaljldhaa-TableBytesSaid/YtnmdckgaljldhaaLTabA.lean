/- Plain laws of tables: the document's rows of entries. -/
import Derived.Test.YtnmdckgaljldhaaPureKit
import Derived.Test.YtnmdckgaljldhaaHTSorted
import Derived.Test.YtnmdckgaljldhaaGx2
set_option linter.unusedVariables false
set_option linter.unusedSimpArgs false
namespace Go.Proofs.Ytnmdckgaljldhaa.Tb
open Go Go.RowKit Go.Proofs.Ytnmdckgaljldhaa.G Go.Proofs.YtnmdckgaljldhaaW.PrintWords Go.Proofs.YtnmdckgaljldhaaW.PrintLast Go.Proofs.YtnmdckgaljldhaaW.PrintMore Go.Proofs.Ytnmdckgaljldhaa.PureKit

theorem ev_eq {α : Type} {g : Nat → Option α} {a b : α} (h : Ev g a) (e : a = b) : Ev g b := e ▸ h
abbrev R1 := S130
def toR (x : E1) : R1 := ⟨x.f0, x.f1⟩
def refsE (l : List E1) : List R1 := l.map toR
theorem refsE_len (l : List E1) : (refsE l).length = l.length := by unfold refsE; rw [List.length_map]
theorem rdE (l : List E1) (i : Nat) (x : E1) (h : l[i]? = some x) : rd_T81 l (i : Int) = x := by
  unfold rd_T81
  rw [Int.toNat_natCast, List.getD_eq_getElem?_getD, h]; rfl
theorem rdR (l : List E1) (i : Nat) (x : E1) (h : l[i]? = some x) : rd_T130 (refsE l) (i : Int) = toR x := by
  unfold rd_T130 refsE
  rw [Int.toNat_natCast, List.getD_eq_getElem?_getD, List.getElem?_map, h]; rfl
theorem inc64 {i : Nat} (h : i < 1000000000) : wrap64 ((i : Int) + 1) = ((i + 1 : Nat) : Int) := by rw [w64 (by omega) (by omega)]; omega
theorem dec64 {i : Nat} (h : i < 1000000000) : wrap64 (((i + 1 : Nat) : Int) - 1) = (i : Int) := by rw [w64 (by omega) (by omega)]; omega
theorem drop_at {α : Type} {l : List α} {i : Nat} {x : α} (h : l[i]? = some x) : l.drop i = x :: l.drop (i + 1) := by
  have hl := (List.getElem?_eq_some_iff.1 h).1
  rw [List.drop_eq_getElem_cons hl]
  congr 1
  exact (List.getElem?_eq_some_iff.1 h).2

theorem refs_loop (l : List E1) (hl : l.length ≤ 1000000) : ∀ (d i : Nat) (acc : List R1), i + d = l.length → acc.length ≤ i → Ev (fun k => fasciclelaw11_Refs.l0 k acc l (l.length : Int) (i : Int)) (acc ++ refsE (l.drop i))
  | 0, i, acc, h, ha => by
    refine Ev.step (f := fun _ => some acc) (fun k => ?_) (ev_eq (Ev.now _) (by rw [List.drop_of_length_le (by omega)]; exact (List.append_nil _).symm))
    unfold fasciclelaw11_Refs.l0
    rw [if_neg (by omega)]
  | d + 1, i, acc, h, ha => by
    obtain ⟨x, hx⟩ : ∃ x, l[i]? = some x := ⟨_, List.getElem?_eq_getElem (by omega)⟩
    refine Ev.step (f := fun k => fasciclelaw11_Refs.l0 k (acc ++ [toR x]) l (l.length : Int) ((i + 1 : Nat) : Int)) (fun k => ?_) (ev_eq (refs_loop l hl d (i + 1) (acc ++ [toR x]) (by omega) (by rw [List.length_append]; exact Nat.succ_le_succ ha)) ?_)
    · simp only [fasciclelaw11_Refs.l0]
      rw [if_pos (by omega), if_pos (by omega), if_pos (by omega), if_pos (by omega), rdE l i x hx, inc64 (by omega)]
      rfl
    · rw [drop_at hx]
      simp [refsE]
theorem refs_ev (l : List E1) (hl : l.length ≤ 1000000) : Ev (fun k => fasciclelaw11_Refs.f k l) (refsE l) := by
  unfold fasciclelaw11_Refs.f
  exact refs_loop l hl l.length 0 [] (by omega) (Nat.le_refl _)

end Go.Proofs.Ytnmdckgaljldhaa.Tb
