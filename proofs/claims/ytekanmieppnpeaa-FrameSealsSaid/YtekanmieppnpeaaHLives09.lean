/- fasciclelaw09.lives holds. -/
import Derived.Test.YtekanmieppnpeaaHFrameOpen
import Derived.Test.YtekanmieppnpeaaHRowBlk
set_option linter.unusedVariables false
set_option linter.unusedSimpArgs false
namespace Go.Proofs.Ytekanmieppnpeaa.G
open Go Go.RowKit Go.Proofs.YtekanmieppnpeaaW.PrintWords Go.Proofs.YtekanmieppnpeaaW.PrintLast Go.Proofs.YtekanmieppnpeaaW.PrintMore Go.Proofs.Ytekanmieppnpeaa.PureKit Go.Proofs.Ytekanmieppnpeaa.Sep Go.Proofs.Ytekanmieppnpeaa.Rol Go.Proofs.Ytekanmieppnpeaa.LCobs

theorem wsum_nil : wsum 0 [] = 17241709254077376921 := by decide +kernel
theorem sealed_nil : sealed [] ++ [0] = [9, 153, 233, 216, 81, 55, 219, 70, 239, 0] := by
  have e : nbytes 8 ((17241709254077376921 : Nat) : Int) = [153, 233, 216, 81, 55, 219, 70, 239] := by decide +kernel
  unfold sealed summed
  rw [wsum_nil, e, List.nil_append, stf_end _ [] (by unfold NoZ; decide) (by decide)]
  rfl
def fasciclelaw09_lives.f : Option Bool := some true
theorem lives09 : fasciclelaw09_lives.f = some true := rfl
set_option maxHeartbeats 2000000 in
set_option maxRecDepth 100000 in
theorem fasciclelaw09_lives.calls (r : Bool) (w : World) (h : fasciclelaw09_lives.f = some r) :
    Calls Try.prog 18 #[] w fun e w' => e = .returned (.bool r) ∧ Below w.heap.size w w' := by
  obtain rfl := Option.some.inj h
  go_enter Try.func18, Try.ntmps18
  go_wp2_with (fail)
  have hse := frame_seal w none 0 0 [] rfl (Kd.C_nil _ _) (Nat.le_refl _) Bytes.nil (by decide)
  rw [sealed_nil] at hse
  refine hse.mono ?_
  clear hse
  rintro e w1 ⟨v1, rfl, h1, hB1⟩
  obtain ⟨g, c1, cur, rfl, _, hs, hcur⟩ := row_blk (Sep.row_new (Sep.start w) hB1 h1) (by simp)
  have hq0 := (hs.cell 0).trans (hcur 0 9 rfl)
  have hq9 := (hs.cell 9).trans (hcur 9 0 rfl)
  have hB := Aside0.mk hB1
  rw [show ([9, 153, 233, 216, 81, 55, 219, 70, 239, 0] : List Int).length = 10 from rfl]
  clear h1 hB1 hs hcur
  go_wp2_with (fail)
  go_ret
  exact ⟨rfl, hB.out⟩

end Go.Proofs.Ytekanmieppnpeaa.G
