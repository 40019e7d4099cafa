/- fasciclelaw12.lives: the chapter's example. -/
import Derived.Test.YtnmdckgaljldhaaPureKit
import Derived.Test.YtnmdckgaljldhaaHFenceG
import Derived.Test.YtnmdckgaljldhaaHFenceRange
import Derived.Test.YtnmdckgaljldhaaGx4
set_option linter.unusedVariables false
set_option linter.unusedSimpArgs false
namespace Go.Proofs.Ytnmdckgaljldhaa.Fe
open Go Go.RowKit Go.Proofs.Ytnmdckgaljldhaa.G Go.Proofs.YtnmdckgaljldhaaW.PrintWords Go.Proofs.YtnmdckgaljldhaaW.PrintLast Go.Proofs.YtnmdckgaljldhaaW.PrintMore Go.Proofs.Ytnmdckgaljldhaa.PureKit Go.Proofs.Ytnmdckgaljldhaa.Sep Go.Proofs.Ytnmdckgaljldhaa.Tb

theorem ev_eqF {α : Type} {g : Nat → Option α} {a b : α} (h : Ev g a) (e : a = b) : Ev g b := e ▸ h
theorem inc64F {i : Nat} (h : i < 1000000000) : wrap64 ((i : Int) + 1) = ((i + 1 : Nat) : Int) := by rw [w64 (by omega) (by omega)]; omega

def rowE (n : Nat) : List E1 := (List.range n).map fun i : Nat => (⟨(i : Int), (i : Int)⟩ : E1)
theorem row_loop (n : Nat) (hn : n ≤ 1000) : ∀ (d i : Nat), i + d = n → Ev (fun k => fasciclelaw12_row.l0 k 1 (rowE i) (n : Int) (i : Int)) (rowE n)
  | 0, i, h => by
    refine Ev.step (f := fun _ => some (rowE i)) (fun k => ?_) (ev_eqF (Ev.now _) (by rw [show i = n by omega]))
    unfold fasciclelaw12_row.l0
    rw [if_neg (by omega)]
  | d + 1, i, h => by
    refine Ev.step (f := fun k => fasciclelaw12_row.l0 k 1 (rowE (i + 1)) (n : Int) ((i + 1 : Nat) : Int)) (fun k => ?_) (row_loop n hn d (i + 1) (by omega))
    simp only [fasciclelaw12_row.l0]
    rw [if_pos (by omega), if_pos (by unfold rowE; rw [List.length_map, List.length_range]; omega), inc64F (by omega), wu64 (x := (i : Int)) (by omega) (by omega), Int.mul_one, wu64 (by omega) (by omega), show (i : Int) % 4294967296 = (i : Int) by omega]
    congr 1
    unfold rowE
    rw [List.range_succ, List.map_append]
    rfl
theorem row_ev : Ev (fun k => fasciclelaw12_row.f k 40 1) (rowE 40) := row_loop 40 (by decide) 40 0 rfl
theorem live_of : fence_Of.f (rowE 40) = some [0, 16, 32] := by
  unfold fence_Of.f
  rw [if_pos (by decide)]
  rfl
theorem live_range : fence_Range.f [0, 16, 32] 40 17 = some (16, 32) := by
  unfold fence_Range.f
  rw [if_pos (by decide)]
  rfl
theorem lives12 : Ev (fun k => fasciclelaw12_lives.f k) true := by
  unfold fasciclelaw12_lives.f
  refine Ev.bind (f := fun k t104 => ((fence_Of.f t104).bind fun t107 => (if (t107.length : Int) = 3 then (if 1 < (t107.length : Int) then (if (rd t107 1) = 16 then (if 2 < (t107.length : Int) then (if (rd t107 2) = 32 then ((fence_Range.f t107 40 17).bind fun bt112 => (if bt112.1 = 16 then (some (bt112.2 == 32)) else (some false))) else (some false)) else (none)) else (some false)) else (none)) else (some false)))) row_ev ?_
  refine Ev.congr (f := fun _ => some true) (fun k => ?_) (Ev.now _)
  rw [live_of, Option.bind_some, if_pos (by decide), if_pos (by decide), if_pos (show rd [0, 16, 32] 1 = 16 from rfl), if_pos (by decide), if_pos (show rd [0, 16, 32] 2 = 32 from rfl), live_range, Option.bind_some, if_pos rfl]
  rfl
end Go.Proofs.Ytnmdckgaljldhaa.Fe
