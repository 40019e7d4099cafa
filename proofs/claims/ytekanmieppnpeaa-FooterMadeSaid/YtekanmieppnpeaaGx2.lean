-- Written by gprint.py (the kit's print.py with contracts of my own taken as given)
import Derived.Test.YtekanmieppnpeaaGx0
namespace Go.Proofs.Ytekanmieppnpeaa.G
open Go.RowKit Go.Proofs.YtekanmieppnpeaaW.PrintWords Go.Proofs.YtekanmieppnpeaaW.PrintLast Go.Proofs.YtekanmieppnpeaaW.PrintMore
attribute [local go_sem] max2_int min2_int max_two min_two max_three min_three max_four min_four   -- for this text's walks alone
set_option linter.unusedVariables false
set_option linter.unusedSimpArgs false

-- NOT PRINTED: function 58 (cursor_Buffer_Raw)

-- NOT PRINTED: function 121 (cursor_Buffer_num)

-- NOT PRINTED: function 59 (cursor_Buffer_Eight)

/-! ### cobs_Most: function 64 -/
def cobs_Most.f (a0 : Int) : Option (Int) := if a0 ≤ 0 then (some 1) else (some (wrap64 ((wrap64 (a0 + 1)) + (wrap64 (Int.tdiv (wrap64 (a0 - 1)) 254)))))
set_option maxHeartbeats 8000000 in
set_option maxRecDepth 100000 in
theorem cobs_Most.calls (a0 : Int) (r : Int) (w : World) (h : cobs_Most.f a0 = some r) :
    Calls Try.prog 64 #[.int .i64 a0] w fun e w' => e = .returned (.int .i64 r) ∧ Drawn0 w w' := by
  have H : (if a0 ≤ 0 then (some 1) else (some (wrap64 ((wrap64 (a0 + 1)) + (wrap64 (Int.tdiv (wrap64 (a0 - 1)) 254)))))) = some r := h
  clear h
  by_cases c2 : a0 ≤ 0
  · rw [if_pos c2] at H
    have c2b0 : decide (a0 ≤ 0) = true := decide_eq_true c2
    clear c2
    obtain rfl := Option.some.inj H
    go_enter Try.func64, Try.ntmps64
    go_wp2
    go_ret
    exact ⟨by first | rfl | (simp; done) | (simp [*]; done), by repeat (first | exact Drawn0.refl _ | apply Drawn0.step)⟩
  · rw [if_neg c2] at H
    have c2b0 : decide (a0 ≤ 0) = false := decide_eq_false c2
    clear c2
    obtain rfl := Option.some.inj H
    go_enter Try.func64, Try.ntmps64
    go_wp2
    go_ret
    exact ⟨by first | rfl | (simp; done) | (simp [*]; done), by repeat (first | exact Drawn0.refl _ | apply Drawn0.step)⟩

-- NOT PRINTED: function 141 (bytealg_IndexByte)

end Go.Proofs.Ytekanmieppnpeaa.G
