/- fasciclelaw13.FooterMost holds: so many entries have at most as many bytes as the document says, and each entry more takes more; for every input, no condition. -/
import Derived.Test.YtekanmieppnpeaaGx1
import Derived.Test.YtekanmieppnpeaaPureKit
import Derived.OpenShut
namespace Go.Proofs.Ytekanmieppnpeaa.Pure
open Go.RowKit Go.Proofs.Ytekanmieppnpeaa.G Go.Proofs.YtekanmieppnpeaaW.PrintWords Go.Proofs.YtekanmieppnpeaaW.PrintLast Go.Proofs.YtekanmieppnpeaaW.PrintMore Go.Proofs.Ytekanmieppnpeaa.PureKit

/-- So many bytes at most. -/
def most (n : Int) : Int := 9 + 12 * n + 8 * ((n + 15) / 16) + 8 + 1 + (9 + 12 * n + 8 * ((n + 15) / 16) + 8 - 1) / 254 + 1

theorem most_f {n : Int} (h0 : 0 ≤ n) (h1 : n ≤ 100000) : footer_Most.f n = some (most n) := by
  have hm : mx 0 n = n := by
    unfold mx
    by_cases h : 0 < n
    · rw [if_pos h]
    · rw [if_neg h]; omega
  unfold footer_Most.f fence_Count.f
  rw [hm, hm]
  simp only [Option.bind_some]
  rw [w64 (x := n + 16) (by omega) (by omega), w64 (x := n + 16 - 1) (by omega) (by omega), Int.tdiv_eq_ediv_of_nonneg (by omega)]
  have hd : n + 16 - 1 = n + 15 := by omega
  rw [hd, w64 (x := (n + 15) / 16) (by omega) (by omega), w64 (x := 12 * n) (by omega) (by omega), w64 (x := 9 + 12 * n) (by omega) (by omega), w64 (x := 8 * ((n + 15) / 16)) (by omega) (by omega), w64 (x := 9 + 12 * n + 8 * ((n + 15) / 16)) (by omega) (by omega)]
  generalize hB : 9 + 12 * n + 8 * ((n + 15) / 16) = B
  have hB0 : 9 ≤ B ∧ B ≤ 10000000 := by omega
  have hmB : mx 0 B = B := by unfold mx; rw [if_pos (by omega)]
  unfold frame_Size.f cobs_Most.f
  rw [hmB, w64 (x := B + 8) (by omega) (by omega), if_neg (by omega)]
  simp only [Option.bind_some]
  rw [w64 (x := B + 8 + 1) (by omega) (by omega), w64 (x := B + 8 - 1) (by omega) (by omega), Int.tdiv_eq_ediv_of_nonneg (by omega), w64 (x := (B + 8 - 1) / 254) (by omega) (by omega), w64 (x := B + 8 + 1 + (B + 8 - 1) / 254) (by omega) (by omega), w64 (x := B + 8 + 1 + (B + 8 - 1) / 254 + 1) (by omega) (by omega)]
  unfold most
  rw [hB]
theorem rmost_f {n : Int} (h0 : 0 ≤ n) (h1 : n ≤ 100000) : fascicleref13_Most.f n = some (most n) := by
  unfold fascicleref13_Most.f
  rw [w64 (x := n + 15) (by omega) (by omega), Int.tdiv_eq_ediv_of_nonneg (by omega), w64 (x := (n + 15) / 16) (by omega) (by omega), w64 (x := 12 * n) (by omega) (by omega), w64 (x := 9 + 12 * n) (by omega) (by omega), w64 (x := 8 * ((n + 15) / 16)) (by omega) (by omega), w64 (x := 9 + 12 * n + 8 * ((n + 15) / 16)) (by omega) (by omega)]
  generalize hB : 9 + 12 * n + 8 * ((n + 15) / 16) = B
  have hB0 : 9 ≤ B ∧ B ≤ 10000000 := by omega
  rw [w64 (x := B + 8) (by omega) (by omega), w64 (x := B + 8 + 1) (by omega) (by omega), w64 (x := B + 8 - 1) (by omega) (by omega), Int.tdiv_eq_ediv_of_nonneg (by omega), w64 (x := (B + 8 - 1) / 254) (by omega) (by omega), w64 (x := B + 8 + 1 + (B + 8 - 1) / 254) (by omega) (by omega), w64 (x := B + 8 + 1 + (B + 8 - 1) / 254 + 1) (by omega) (by omega)]
  unfold most
  rw [hB]

theorem FooterMost : fasciclelaw13_FooterMost.Pure := by
  intro n hn
  have hb := bounds_u16 hn
  refine ⟨1, ?_⟩
  have hl : fasciclelaw13_lives.f = some true := by decide +kernel
  have h1 : footer_Most.f (-1) = footer_Most.f 0 := by decide +kernel
  unfold fasciclelaw13_FooterMost.f
  rw [hl, h1, most_f (n := 0) (by omega) (by omega)]
  simp only [Option.bind_some, if_true, bne_self_eq_false]
  simp only [fasciclelaw13_FooterMost.j0]
  rw [w64 (x := n) (by omega) (by omega), most_f (n := n) (by omega) (by omega), rmost_f (n := n) (by omega) (by omega), w64 (x := n + 1) (by omega) (by omega), most_f (n := n + 1) (by omega) (by omega)]
  simp only [Option.bind_some, Bool.false_eq_true, if_false, if_true]
  rw [decide_eq_true]
  unfold most
  omega

end Go.Proofs.Ytekanmieppnpeaa.Pure
