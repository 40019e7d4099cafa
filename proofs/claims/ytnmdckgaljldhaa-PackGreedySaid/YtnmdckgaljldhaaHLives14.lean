/- fasciclelaw14.lives holds. -/
import Derived.Test.YtnmdckgaljldhaaLPack
import Derived.Test.YtnmdckgaljldhaaMBlk
set_option linter.unusedVariables false
set_option linter.unusedSimpArgs false
namespace Go.Proofs.Ytnmdckgaljldhaa.G
open Go Go.RowKit Go.Proofs.YtnmdckgaljldhaaW.PrintWords Go.Proofs.YtnmdckgaljldhaaW.PrintLast Go.Proofs.YtnmdckgaljldhaaW.PrintMore Go.Proofs.Ytnmdckgaljldhaa.PureKit Go.Proofs.Ytnmdckgaljldhaa.Sep Go.Proofs.Ytnmdckgaljldhaa.Rol Go.Proofs.Ytnmdckgaljldhaa.LCobs Go.Proofs.Ytnmdckgaljldhaa.LPack

def fasciclelaw14_lives.f : Option Bool := some true
theorem lives14h : fasciclelaw14_lives.f = some true := rfl
theorem plans14 : (∃ k, pack_Plan.f k 12 1 [3000, 3000] = some ([], 7)) ∧ ∃ k, pack_Plan.f k 12 2 [3000, 3000] = some ([0, 1], 0) := by
  have c1 : Cfg 12 1 4096 := ⟨.inl ⟨rfl, rfl⟩, by decide, by decide⟩
  have c2 : Cfg 12 2 4096 := ⟨.inl ⟨rfl, rfl⟩, by decide, by decide⟩
  have p1 := plan_ok c1 [3000, 3000] (by decide)
  have p2 := plan_ok c2 [3000, 3000] (by decide)
  have e1 : planm 4096 1 [3000, 3000] 0 (HL 1 0) 0 [] = ([], 7) := by
    have : HL 1 0 = 15 := by unfold HL; rw [vl_lt (by decide), vl_lt (by decide)]
    simp only [planm, this]
    decide
  have e2 : planm 4096 2 [3000, 3000] 0 (HL 2 0) 0 [] = ([0, 1], 0) := by
    have h0 : HL 2 0 = 15 := by unfold HL; rw [vl_lt (by decide), vl_lt (by decide)]
    have h1 : HL 2 1 = 15 := by unfold HL; rw [vl_lt (by decide), vl_lt (by decide)]
    simp only [planm, h0, h1]
    decide
  rw [e1] at p1
  rw [e2] at p2
  exact ⟨p1.rounds, p2.rounds⟩
set_option maxHeartbeats 2000000 in
set_option maxRecDepth 100000 in
theorem fasciclelaw14_lives.calls (r : Bool) (w : World) (h : fasciclelaw14_lives.f = some r) :
    Calls Try.prog 28 #[] w fun e w' => e = .returned (.bool r) ∧ Below w.heap.size w w' := by
  obtain rfl := Option.some.inj h
  obtain ⟨⟨k1, p1⟩, k2, p2⟩ := plans14
  go_enter Try.func28, Try.ntmps28
  go_wp2_with (fail)
  have hs1 := (Sep.start w).alloc #[.int .i64 3000, .int .i64 3000] 3
  have hC1 := blk_C (k := .i64) [3000, 3000] hs1 rfl (by decide)
  refine (pack_Plan.calls k1 12 1 (some ⟨w.heap.size, 0, none⟩) 2 [3000, 3000] [] 7 _ hC1 (by decide) p1).mono ?_
  rintro e w1 ⟨v1, rfl, ho1, hb1⟩
  obtain ⟨A1, c1, rfl⟩ := Kd.R_slice ho1
  have hS1 := Aside0.mk (hs1.below hb1)
  clear ho1 hb1 hs1 hC1
  go_wp2_with (fail)
  have hs2 := hS1.out.alloc #[.int .i64 3000, .int .i64 3000] 3
  have hC2 := blk_C (k := .i64) [3000, 3000] hs2 rfl (by decide)
  refine (pack_Plan.calls k2 12 2 (some ⟨w1.heap.size, 0, none⟩) 2 [3000, 3000] [0, 1] 0 _ hC2 (by decide) p2).mono ?_
  rintro e w2 ⟨v2, rfl, ho2, hb2⟩
  obtain ⟨g, c2, cur, rfl, _, hs, hcur⟩ := row_blk (Sep.row_new hs2 hb2 ho2) (by simp)
  have hq0 := (hs.cell 0).trans (hcur 0 0 rfl)
  have hq1 := (hs.cell 1).trans (hcur 1 1 rfl)
  have hB := Aside0.mk hs.1
  rw [show ([0, 1] : List Int).length = 2 from rfl]
  clear ho2 hb2 hs hcur hs2 hC2
  go_wp2_with (fail)
  go_ret
  exact ⟨rfl, hB.out⟩

end Go.Proofs.Ytnmdckgaljldhaa.G
