/- edge: the document's reading; the closure that reads a row. -/
import Derived.Test.YtlakjninlpiedaaHEdgeR1
set_option linter.unusedVariables false
set_option linter.unusedSimpArgs false
namespace Go.Proofs.Ytlakjninlpiedaa.Fw
open Go Go.RowKit Go.Proofs.YtlakjninlpiedaaW.PrintWords Go.Proofs.YtlakjninlpiedaaW.PrintLast Go.Proofs.YtlakjninlpiedaaW.PrintMore Go.Proofs.Ytlakjninlpiedaa.PureKit Go.Proofs.Ytlakjninlpiedaa.Fl Go.Proofs.Ytlakjninlpiedaa.Sep Go.Proofs.Ytlakjninlpiedaa.G
set_option maxHeartbeats 4000000
set_option maxRecDepth 100000
attribute [local go_sem] run_f64bits run_frombits run_store_float

/-- The document's reading tells the same. -/
theorem ref_Get (w : World) (l : List Int) (hb : Bytes l) (hl : l.length ≤ 1000) :
    Calls Try.prog 64 #[.agg #[.string (strOfNums l), .int .i64 0, .int .i64 0]] w fun e w' => (∃ S : ByteArray, e = .returned (.tuple #[.agg #[.string S, .int .i64 ((eread l).1 : Int), .int .i64 (eread l).2.1], .float .f64 (eread l).2.2])) ∧ Below w.heap.size w w' := by
  have hu := Try.underlying83
  have hsz : ∀ (W : World) (o : Obj), (W.alloc o).heap.size = W.heap.size + 1 := fun W o => by show (W.heap.push _).size = _; simp
  have hS0 := ((Sep.start w).alloc #[.string (strOfNums l), .int .i64 0, .int .i64 0] 83).alloc #[.string ByteArray.empty, .int .i64 0, .int .i64 0] 83
  rw [hsz] at hS0
  have hS0 := Aside0.mk hS0
  unfold eread
  by_cases h8 : 8 ≤ l.length
  · rw [if_pos h8]
    obtain ⟨n, h1, h2, h3⟩ := lev8 hb h8
    rw [h2]
    obtain ⟨K, hK⟩ := (getn_some l 0 8 (by decide) (by decide) hb h8 (by decide) (by decide)).rounds
    rw [h1] at hK
    have hK : fascicleref01_Get.f K (strOfNums l) 0 0 8 = some (strOfNums (l.drop 8), 8, 0, (n : Int)) := hK
    generalize strOfNums (l.drop 8) = S8 at hK
    have cb := ref_Bits n
    by_cases hc : bitsv n = n
    · rw [if_pos hc]
      rw [hc] at cb
      have hne : (((n : Nat) : Int) != (n : Int)) = false := by simp
      clear h1 h2 h3 hc h8 hb hl
      go_enter Try.func64, Try.ntmps64
      go_wp2_with (fail)
      refine (fascicleref01_Get.calls K _ 0 0 8 S8 8 0 n _ hK).mono ?_
      rintro e w1 ⟨rfl, hb1⟩
      have h1 := hS0.out.below hb1
      generalize w.heap.size = g at h1 ⊢
      have hc1_0 : w1.cell? ⟨g, 0, none⟩ = some (.string (strOfNums l)) := ((h1.pick1).cell 0).trans rfl; have hc1_1 : w1.cell? ⟨g, 1, none⟩ = some (.int .i64 0) := ((h1.pick1).cell 1).trans rfl; have hc1_2 : w1.cell? ⟨g, 2, none⟩ = some (.int .i64 0) := ((h1.pick1).cell 2).trans rfl
      have hf0 := h1.pick1.frozen 0
      have hf1 := h1.pick1.frozen 1
      have hf2 := h1.pick1.frozen 2
      have h2 : Sep.Sep w (((w1.setCell ⟨g, 0, none⟩ (.string S8)).setCell ⟨g, 1, none⟩ (.int .i64 8)).setCell ⟨g, 2, none⟩ (.int .i64 0)) [blk g #[.string S8, .int .i64 8, .int .i64 0] 83, blk (g + 1) #[.string ByteArray.empty, .int .i64 0, .int .i64 0] 83] := by
        have := ((h1.pick1.set 0 (.string S8)).set 1 (.int .i64 8)).set 2 (.int .i64 0)
        simpa using this
      have hS2 := Aside0.mk h2
      clear h2 h1 hb1
      go_upto_region 2 with (fail)
      generalize ((w1.setCell ⟨g, 0, none⟩ (.string S8)).setCell ⟨g, 1, none⟩ (.int .i64 8)).setCell ⟨g, 2, none⟩ (.int .i64 0) = w2 at hS2 ⊢
      clear hc1_0 hc1_1 hc1_2 hf0 hf1 hf2
      have h2 := hS2.out
      have hc2_0 : w2.cell? ⟨g, 0, none⟩ = some (.string S8) := ((h2).cell 0).trans rfl; have hc2_1 : w2.cell? ⟨g, 1, none⟩ = some (.int .i64 8) := ((h2).cell 1).trans rfl; have hc2_2 : w2.cell? ⟨g, 2, none⟩ = some (.int .i64 0) := ((h2).cell 2).trans rfl
      have hc3_0 : w2.cell? ⟨(g + 1), 0, none⟩ = some (.string ByteArray.empty) := ((h2.pick1).cell 0).trans rfl; have hc3_1 : w2.cell? ⟨(g + 1), 1, none⟩ = some (.int .i64 0) := ((h2.pick1).cell 1).trans rfl; have hc3_2 : w2.cell? ⟨(g + 1), 2, none⟩ = some (.int .i64 0) := ((h2.pick1).cell 2).trans rfl
      have hg0 := h2.pick1.frozen 0
      have hg1 := h2.pick1.frozen 1
      have hg2 := h2.pick1.frozen 2
      have h3 : Sep.Sep w (((w2.setCell ⟨g + 1, 0, none⟩ (.string S8)).setCell ⟨g + 1, 1, none⟩ (.int .i64 8)).setCell ⟨g + 1, 2, none⟩ (.int .i64 0)) [blk (g + 1) #[.string S8, .int .i64 8, .int .i64 0] 83, blk g #[.string S8, .int .i64 8, .int .i64 0] 83] := by
        have := ((h2.pick1.set 0 (.string S8)).set 1 (.int .i64 8)).set 2 (.int .i64 0)
        simpa using this
      have hS3 := Aside0.mk h3
      clear h2 h3
      go_wp2_with (fail)
      refine (cb _).mono ?_
      intro ef_ wf_ hf_
      obtain ⟨h1f_, h2f_⟩ := hf_
      subst h1f_
      subst h2f_
      go_wp2_with (fail)
      have h4 := hS3.out
      refine bodyPost_ret (results_ct (P := Try.prog) Try.results64 _ _ (g + 1) 83 _ (0, 0) _ rfl h4.blk_at.1 hu rfl (by kernel_rfl)) rfl ?_
      exact ⟨⟨_, rfl⟩, hS3.out.1⟩
    · rw [if_neg hc]
      have hne : (((bitsv n : Nat) : Int) != (n : Int)) = true := bne_iff_ne.2 (by omega)
      generalize bitsv n = m at *
      clear h1 h2 h3 hc h8 hb hl
      go_enter Try.func64, Try.ntmps64
      go_wp2_with (fail)
      refine (fascicleref01_Get.calls K _ 0 0 8 S8 8 0 n _ hK).mono ?_
      rintro e w1 ⟨rfl, hb1⟩
      have h1 := hS0.out.below hb1
      generalize w.heap.size = g at h1 ⊢
      have hc1_0 : w1.cell? ⟨g, 0, none⟩ = some (.string (strOfNums l)) := ((h1.pick1).cell 0).trans rfl; have hc1_1 : w1.cell? ⟨g, 1, none⟩ = some (.int .i64 0) := ((h1.pick1).cell 1).trans rfl; have hc1_2 : w1.cell? ⟨g, 2, none⟩ = some (.int .i64 0) := ((h1.pick1).cell 2).trans rfl
      have hf0 := h1.pick1.frozen 0
      have hf1 := h1.pick1.frozen 1
      have hf2 := h1.pick1.frozen 2
      have h2 : Sep.Sep w (((w1.setCell ⟨g, 0, none⟩ (.string S8)).setCell ⟨g, 1, none⟩ (.int .i64 8)).setCell ⟨g, 2, none⟩ (.int .i64 0)) [blk g #[.string S8, .int .i64 8, .int .i64 0] 83, blk (g + 1) #[.string ByteArray.empty, .int .i64 0, .int .i64 0] 83] := by
        have := ((h1.pick1.set 0 (.string S8)).set 1 (.int .i64 8)).set 2 (.int .i64 0)
        simpa using this
      have hS2 := Aside0.mk h2
      clear h2 h1 hb1
      go_upto_region 2 with (fail)
      generalize ((w1.setCell ⟨g, 0, none⟩ (.string S8)).setCell ⟨g, 1, none⟩ (.int .i64 8)).setCell ⟨g, 2, none⟩ (.int .i64 0) = w2 at hS2 ⊢
      clear hc1_0 hc1_1 hc1_2 hf0 hf1 hf2
      have h2 := hS2.out
      have hc2_0 : w2.cell? ⟨g, 0, none⟩ = some (.string S8) := ((h2).cell 0).trans rfl; have hc2_1 : w2.cell? ⟨g, 1, none⟩ = some (.int .i64 8) := ((h2).cell 1).trans rfl; have hc2_2 : w2.cell? ⟨g, 2, none⟩ = some (.int .i64 0) := ((h2).cell 2).trans rfl
      have hc3_0 : w2.cell? ⟨(g + 1), 0, none⟩ = some (.string ByteArray.empty) := ((h2.pick1).cell 0).trans rfl; have hc3_1 : w2.cell? ⟨(g + 1), 1, none⟩ = some (.int .i64 0) := ((h2.pick1).cell 1).trans rfl; have hc3_2 : w2.cell? ⟨(g + 1), 2, none⟩ = some (.int .i64 0) := ((h2.pick1).cell 2).trans rfl
      clear h2
      go_wp2_with (fail)
      refine (cb _).mono ?_
      rintro e w3 ⟨rfl, hw3⟩
      rw [← hw3] at hc2_0 hc2_1 hc2_2 hc3_0 hc3_1 hc3_2
      have hS2' := Aside0.mk (hw3 ▸ hS2.out : Sep.Sep w w3 _)
      clear hw3 hS2
      go_wp2_with (fail)
      refine (fascicleref01_Fail.calls S8 8 0 4 S8 8 4 _ rfl).mono ?_
      rintro e w4 ⟨rfl, hb4⟩
      have h2 := hS2'.out.below hb4
      clear hb4 hc2_0 hc2_1 hc2_2 hc3_0 hc3_1 hc3_2
      have hc3_0 : w4.cell? ⟨(g + 1), 0, none⟩ = some (.string ByteArray.empty) := ((h2.pick1).cell 0).trans rfl; have hc3_1 : w4.cell? ⟨(g + 1), 1, none⟩ = some (.int .i64 0) := ((h2.pick1).cell 1).trans rfl; have hc3_2 : w4.cell? ⟨(g + 1), 2, none⟩ = some (.int .i64 0) := ((h2.pick1).cell 2).trans rfl
      have hg0 := h2.pick1.frozen 0
      have hg1 := h2.pick1.frozen 1
      have hg2 := h2.pick1.frozen 2
      have h3 : Sep.Sep w (((w4.setCell ⟨g + 1, 0, none⟩ (.string S8)).setCell ⟨g + 1, 1, none⟩ (.int .i64 8)).setCell ⟨g + 1, 2, none⟩ (.int .i64 4)) [blk (g + 1) #[.string S8, .int .i64 8, .int .i64 4] 83, blk g #[.string S8, .int .i64 8, .int .i64 0] 83] := by
        have := ((h2.pick1.set 0 (.string S8)).set 1 (.int .i64 8)).set 2 (.int .i64 4)
        simpa using this
      have hS3 := Aside0.mk h3
      clear h2 h3
      go_wp2_with (fail)
      have h4 := hS3.out
      refine bodyPost_ret (results_ct (P := Try.prog) Try.results64 _ _ (g + 1) 83 _ (0, 0) _ rfl h4.blk_at.1 hu rfl (by kernel_rfl)) rfl ?_
      exact ⟨⟨_, rfl⟩, hS3.out.1⟩
  · rw [if_neg h8]
    obtain ⟨K, hK⟩ := (getn_short l 0 8 (by decide) (by omega)).rounds
    have cb := ref_Bits 0
    · clear h8 hb hl
      go_enter Try.func64, Try.ntmps64
      go_wp2_with (fail)
      refine (fascicleref01_Get.calls K _ 0 0 8 (strOfNums l) 0 2 0 _ hK).mono ?_
      rintro e w1 ⟨rfl, hb1⟩
      have h1 := hS0.out.below hb1
      generalize w.heap.size = g at h1 ⊢
      have hc1_0 : w1.cell? ⟨g, 0, none⟩ = some (.string (strOfNums l)) := ((h1.pick1).cell 0).trans rfl; have hc1_1 : w1.cell? ⟨g, 1, none⟩ = some (.int .i64 0) := ((h1.pick1).cell 1).trans rfl; have hc1_2 : w1.cell? ⟨g, 2, none⟩ = some (.int .i64 0) := ((h1.pick1).cell 2).trans rfl
      have hf0 := h1.pick1.frozen 0
      have hf1 := h1.pick1.frozen 1
      have hf2 := h1.pick1.frozen 2
      have h2 : Sep.Sep w (((w1.setCell ⟨g, 0, none⟩ (.string (strOfNums l))).setCell ⟨g, 1, none⟩ (.int .i64 0)).setCell ⟨g, 2, none⟩ (.int .i64 2)) [blk g #[.string (strOfNums l), .int .i64 0, .int .i64 2] 83, blk (g + 1) #[.string ByteArray.empty, .int .i64 0, .int .i64 0] 83] := by
        have := ((h1.pick1.set 0 (.string (strOfNums l))).set 1 (.int .i64 0)).set 2 (.int .i64 2)
        simpa using this
      have hS2 := Aside0.mk h2
      clear h2 h1 hb1
      go_upto_region 2 with (fail)
      generalize ((w1.setCell ⟨g, 0, none⟩ (.string (strOfNums l))).setCell ⟨g, 1, none⟩ (.int .i64 0)).setCell ⟨g, 2, none⟩ (.int .i64 2) = w2 at hS2 ⊢
      clear hc1_0 hc1_1 hc1_2 hf0 hf1 hf2
      have h2 := hS2.out
      have hc2_0 : w2.cell? ⟨g, 0, none⟩ = some (.string (strOfNums l)) := ((h2).cell 0).trans rfl; have hc2_1 : w2.cell? ⟨g, 1, none⟩ = some (.int .i64 0) := ((h2).cell 1).trans rfl; have hc2_2 : w2.cell? ⟨g, 2, none⟩ = some (.int .i64 2) := ((h2).cell 2).trans rfl
      have hc3_0 : w2.cell? ⟨(g + 1), 0, none⟩ = some (.string ByteArray.empty) := ((h2.pick1).cell 0).trans rfl; have hc3_1 : w2.cell? ⟨(g + 1), 1, none⟩ = some (.int .i64 0) := ((h2.pick1).cell 1).trans rfl; have hc3_2 : w2.cell? ⟨(g + 1), 2, none⟩ = some (.int .i64 0) := ((h2.pick1).cell 2).trans rfl
      have hg0 := h2.pick1.frozen 0
      have hg1 := h2.pick1.frozen 1
      have hg2 := h2.pick1.frozen 2
      have h3 : Sep.Sep w (((w2.setCell ⟨g + 1, 0, none⟩ (.string (strOfNums l))).setCell ⟨g + 1, 1, none⟩ (.int .i64 0)).setCell ⟨g + 1, 2, none⟩ (.int .i64 2)) [blk (g + 1) #[.string (strOfNums l), .int .i64 0, .int .i64 2] 83, blk g #[.string (strOfNums l), .int .i64 0, .int .i64 2] 83] := by
        have := ((h2.pick1.set 0 (.string (strOfNums l))).set 1 (.int .i64 0)).set 2 (.int .i64 2)
        simpa using this
      have hS3 := Aside0.mk h3
      clear h2 h3
      go_wp2_with (fail)
      have h4 := hS3.out
      refine bodyPost_ret (results_ct (P := Try.prog) Try.results64 _ _ (g + 1) 83 _ (0, 0) _ rfl h4.blk_at.1 hu rfl (by kernel_rfl)) rfl ?_
      exact ⟨⟨_, rfl⟩, hS3.out.1⟩
end Go.Proofs.Ytlakjninlpiedaa.Fw
