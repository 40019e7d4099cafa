/- elder: the document's row of pairs. -/
import Derived.Test.YtmlodmpkcbncjaaMElderAll
import Derived.Test.YtmlodmpkcbncjaaMLElder
import Derived.Test.YtmlodmpkcbncjaaGx8
set_option linter.unusedVariables false
set_option linter.unusedSimpArgs false
namespace Go.Proofs.Ytmlodmpkcbncjaa.Pure
open Go Go.RowKit Go.Proofs.Ytmlodmpkcbncjaa.G Go.Proofs.YtmlodmpkcbncjaaW.PrintWords Go.Proofs.YtmlodmpkcbncjaaW.PrintLast Go.Proofs.Ytmlodmpkcbncjaa.PureKit Go.Proofs.Ytmlodmpkcbncjaa.Sep Go.Proofs.Ytmlodmpkcbncjaa.Rol

def toref (p : EP) : S68 := ⟨p.f0, p.f1⟩
theorem gall_ref (l : List Int) (hb : Bytes l) (hl : l.length ≤ 10000000) : ∀ (d a : Nat) (acc : List EP), a ≤ l.length → l.length ≤ a + d → acc.length ≤ a →
    Ev (fun k => fascicleref10_GetAll.l0 k (strOfNums l) (acc.map toref) (a : Int)) ((gall l d a acc).1.map toref, (((gall l d a acc).2.1 : Nat) : Int), (gall l d a acc).2.2) := by
  have hsz : (strOfNums l).size = l.length := nums_size l
  intro d
  induction d with
  | zero =>
    intro a acc h1 h2 h3
    refine Ev.step (f := fun _ => some (acc.map toref, (a : Int), 0)) (fun k => ?_) (Ev.now _)
    simp only [fascicleref10_GetAll.l0]
    rw [if_neg (by omega)]
  | succ d ih =>
    intro a acc h1 h2 h3
    by_cases hin : l.length ≤ a
    · rw [gall, if_pos hin]
      refine Ev.step (f := fun _ => some (acc.map toref, (a : Int), 0)) (fun k => ?_) (Ev.now _)
      simp only [fascicleref10_GetAll.l0]
      rw [if_neg (by omega)]
    · have hx : (strOfNums l).extract a (strOfNums l).size = strOfNums (l.drop a) := by
        rw [nums_extract, hsz, List.take_length]
      have hg := refget (l.drop a) (hb.drop a) (by rw [List.length_drop]; omega)
      rw [gall, if_neg hin]
      have hes := eone_shift l a h1
      have hb1 : ((a : Int) < ((strOfNums l).size : Int)) := by omega
      cases hq : eone (l.drop a) 0 with
      | bad e c =>
        rw [hq] at hg hes
        rw [hes]
        have hne : e ≠ 0 := eone_bad hq
        refine Ev.step (f := fun k => (fascicleref10_Get.f k (strOfNums (l.drop a))).bind fun bt => if bt.2.2.2 = 0 then (if (acc.map toref).length < 4398046511104 then fascicleref10_GetAll.l0 k (strOfNums l) (acc.map toref ++ [⟨bt.1, bt.2.1⟩]) (wrap64 ((a : Int) + bt.2.2.1)) else none) else some (acc.map toref, (a : Int), bt.2.2.2)) (fun k => ?_) ?_
        · simp only [fascicleref10_GetAll.l0]
          rw [if_pos hb1, if_pos (by omega), if_pos (by omega), Int.toNat_natCast, hx]
        · refine Ev.bind hg ?_
          refine Ev.congr (f := fun _ => some (acc.map toref, (a : Int), e)) (fun k => ?_) (Ev.now _)
          exact if_neg hne
      | ok y c =>
        obtain ⟨K, V⟩ := y
        rw [hq] at hg hes
        have hes2 : eone l a = .ok (K, V) (a + c) := hes
        obtain ⟨hc1, hc2⟩ := eone_ok hes2
        rw [hes2]
        dsimp only
        have ih2 := ih (a + c) (acc ++ [⟨K, V⟩]) hc2 (by omega) (by simp; omega)
        refine Ev.step (f := fun k => (fascicleref10_Get.f k (strOfNums (l.drop a))).bind fun bt => if bt.2.2.2 = 0 then (if (acc.map toref).length < 4398046511104 then fascicleref10_GetAll.l0 k (strOfNums l) (acc.map toref ++ [⟨bt.1, bt.2.1⟩]) (wrap64 ((a : Int) + bt.2.2.1)) else none) else some (acc.map toref, (a : Int), bt.2.2.2)) (fun k => ?_) ?_
        · simp only [fascicleref10_GetAll.l0]
          rw [if_pos hb1, if_pos (by omega), if_pos (by omega), Int.toNat_natCast, hx]
        · refine Ev.bind hg ?_
          refine Ev.congr (f := fun k => fascicleref10_GetAll.l0 k (strOfNums l) ((acc ++ [(⟨K, V⟩ : EP)]).map toref) ((a + c : Nat) : Int)) (fun k => ?_) ih2
          refine (if_pos (rfl : (0 : Int) = 0)).trans ?_
          show (if (acc.map toref).length < 4398046511104 then fascicleref10_GetAll.l0 k (strOfNums l) (acc.map toref ++ [⟨K, V⟩]) (wrap64 ((a : Int) + (c : Int))) else none) = _
          rw [if_pos (by rw [List.length_map]; omega), w64 (by omega) (by omega), List.map_append, Int.natCast_add]
          rfl

end Go.Proofs.Ytmlodmpkcbncjaa.Pure
