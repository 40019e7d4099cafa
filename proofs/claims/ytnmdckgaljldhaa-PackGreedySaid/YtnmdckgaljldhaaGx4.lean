-- Written by gprint.py (the kit's print.py with contracts of my own taken as given)
import Derived.Test.YtnmdckgaljldhaaGx0
import Derived.Test.YtnmdckgaljldhaaGx1
import Derived.Test.YtnmdckgaljldhaaGx2
import Derived.Test.YtnmdckgaljldhaaHPutHead
namespace Go.Proofs.Ytnmdckgaljldhaa.G
open Go.RowKit Go.Proofs.YtnmdckgaljldhaaW.PrintWords Go.Proofs.YtnmdckgaljldhaaW.PrintLast Go.Proofs.YtnmdckgaljldhaaW.PrintMore
attribute [local go_sem] max2_int min2_int max_two min_two max_three min_three max_four min_four   -- for this text's walks alone
set_option linter.unusedVariables false
set_option linter.unusedSimpArgs false

/-! ### pack_Empty: function 29 -/
def pack_Empty.f (a0_0 : Int) (a0_1 : Int) (a1 : Int) : Option (Int × Int × Int × Int × Int × Int) := (frame_PutHead.f a0_0 a0_1 a1).bind fun bt160 => (if bt160.2 = 0 then (some (a0_0, a0_1, a1, (bt160.1.length : Int), 0, 0)) else (some (0, 0, 0, 0, 0, bt160.2)))
set_option maxHeartbeats 8000000 in
set_option maxRecDepth 100000 in
theorem pack_Empty.calls (a0_0 : Int) (a0_1 : Int) (a1 : Int) (r1 : Int) (r2 : Int) (r3 : Int) (r4 : Int) (r5 : Int) (r6 : Int) (w : World) (h : pack_Empty.f a0_0 a0_1 a1 = some (r1, r2, r3, r4, r5, r6)) :
  Calls Try.prog 29 #[.agg #[.int .u8 a0_0, .int .u32 a0_1], .int .u32 a1] w fun e w' => e = .returned (.tuple #[.agg #[.int .u8 r1, .int .u32 r2, .int .u32 r3, .int .i64 r4, .int .i64 r5], .int .i64 r6]) ∧ Below w.heap.size w w' := by
 have hu49 := Try.underlying49
 have hu52 := Try.underlying52
 have HB := Aside0.mk (Below.refl w.heap.size w)
 have H : ((frame_PutHead.f a0_0 a0_1 a1).bind fun bt160 => (if bt160.2 = 0 then (some (a0_0, a0_1, a1, (bt160.1.length : Int), 0, 0)) else (some (0, 0, 0, 0, 0, bt160.2)))) = some (r1, r2, r3, r4, r5, r6) := h
 clear h
 replace H := Option.bind_eq_some_iff.mp H
 obtain ⟨⟨t160, t163⟩, A30, H⟩ := H
 replace H : (if t163 = 0 then (some (a0_0, a0_1, a1, (t160.length : Int), 0, 0)) else (some (0, 0, 0, 0, 0, t163))) = some (r1, r2, r3, r4, r5, r6) := H
 have A3 := Aside0.mk A30
 clear A30
 by_cases c4 : t163 = 0
 ·
  rw [if_pos c4] at H
  have c4b0 : (t163 == 0) = true := beq_iff_eq.mpr c4
  have c4b1 : (t163 != 0) = false := bne_eq_false_iff_eq.mpr c4
  clear c4
  simp only [Option.some.injEq, Prod.mk.injEq] at H
  obtain ⟨rfl, rfl, rfl, rfl, rfl, rfl⟩ := H
  go_enter Try.func29, Try.ntmps29
  go_wp2_with (first | ((with_reducible refine gate_dst (N := 2) rfl ?_); refine box_event ?hg (N := 2) ?hd (cs := #[.int .u8 a0_0, .int .u32 a0_1]) (t := 49) ?hr ?_; (case hd => rfl); (case hg => rfl); (case hr => first | (go_simp; done) | (go_simp; rfl)); intro gb158 hg w5 hbox hb; have n0_ := Aside0.mk (below_step (by repeat (with_reducible first | exact HB.out | apply below_alloc | apply pw_below_drewN | apply below_drew1)) hb); have n1_ := Aside0.mk (hbox); have n2_ := Aside0.mk ((by rw [hg]; exact (below_size (by repeat (with_reducible first | exact HB.out | apply below_alloc | apply pw_below_drewN | apply below_drew1))) : w.heap.size ≤ gb158)); have n3_ := Aside0.mk ((by rw [hg]; exact (below_size (by repeat (with_reducible first | exact HB.out | apply below_alloc | apply pw_below_drewN | apply below_drew1))) : w.heap.size ≤ gb158)); clear HB; have HB := n0_; have BK158 := n1_; have GW158 := n2_; have GE158 := n3_; clear n0_ n1_ n2_ n3_; clear hb hbox hg) | ((with_reducible refine gate_dst (N := 4) rfl ?_); refine box_event ?hg (N := 4) ?hd (cs := #[.int .u8 0, .int .u32 0, .int .u32 0, .int .i64 0, .int .i64 0]) (t := 52) ?hr ?_; (case hd => rfl); (case hg => rfl); (case hr => first | (go_simp; done) | (go_simp; rfl)); intro gb159 hg w6 hbox hb; have n0_ := Aside0.mk (blk_below (g := gb158) (o := .cells #[.int .u8 a0_0, .int .u32 a0_1] 49 (0, 0)) (by (with_reducible repeat (first | refine blk_drewN ?_ _ | refine blk_drew ?_ | refine blk_alloc ?_ _)); exact BK158.out) hb); have n1_ := Aside0.mk (below_step (by repeat (first | (with_reducible first | exact HB.out | apply below_alloc | apply pw_below_drewN | apply below_drew1 | refine below_set ?_ GE158.out) | exact HB.out)) hb); have n2_ := Aside0.mk (hbox); have n3_ := Aside0.mk ((by rw [hg]; exact (below_size (by repeat (first | (with_reducible first | exact HB.out | apply below_alloc | apply pw_below_drewN | apply below_drew1 | refine below_set ?_ GE158.out) | exact HB.out))) : w.heap.size ≤ gb159)); have n4_ := Aside0.mk ((by rw [hg]; exact (below_size (by repeat (first | (with_reducible first | exact HB.out | apply below_alloc | apply pw_below_drewN | apply below_drew1 | refine below_set ?_ GE158.out) | exact HB.out))) : w.heap.size ≤ gb159)); have n5_ := Aside0.mk ((by rw [hg]; exact Nat.ne_of_lt (blk_lt (g := gb158) (o := .cells #[.int .u8 a0_0, .int .u32 a0_1] 49 (0, 0)) (by (with_reducible repeat (first | refine blk_drewN ?_ _ | refine blk_drew ?_ | refine blk_alloc ?_ _)); exact BK158.out)) : gb158 ≠ gb159)); have n6_ := Aside0.mk ((by rw [hg]; exact Nat.ne_of_gt (blk_lt (g := gb158) (o := .cells #[.int .u8 a0_0, .int .u32 a0_1] 49 (0, 0)) (by (with_reducible repeat (first | refine blk_drewN ?_ _ | refine blk_drew ?_ | refine blk_alloc ?_ _)); exact BK158.out)) : gb159 ≠ gb158)); clear BK158; clear HB; have BK158 := n0_; have HB := n1_; have BK159 := n2_; have GW159 := n3_; have GE159 := n4_; have NB158_159 := n5_; have NB159_158 := n6_; clear n0_ n1_ n2_ n3_ n4_ n5_ n6_; clear hb hbox hg; have hnb7 := NB158_159.out; have hnc7 := NB159_158.out; have hcz8_0 : w6.cell? ⟨gb158, 0, none⟩ = some (.int .u8 a0_0) := (blk_cell BK158.out 0).trans rfl; have hcz8_1 : w6.cell? ⟨gb158, 1, none⟩ = some (.int .u32 a0_1) := (blk_cell BK158.out 1).trans rfl; have hfz8_0 := blk_frozen BK158.out 0; have hfz8_1 := blk_frozen BK158.out 1) | ((with_reducible refine gate_callee (f := 79) rfl ?_); refine goesL_ (some 11) rfl rfl Try.func79 (by kernel_rfl) rfl #[.agg #[.int .u8 a0_0, .int .u32 a0_1], .int .u32 a1] rfl (by (try simp only [List.map_toArray, List.map_cons, List.map_nil]); first | done | rfl) ?_; (with_reducible refine (frame_PutHead.calls a0_0 a0_1 a1 t160 t163 _ A3.out).mono ?_); rintro e w9 ⟨v161, rfl, ho0, hb⟩; refine ⟨_, rfl, ?_⟩; have n0_ := Aside0.mk (Kd.R_lower ho0 (below_size (by repeat (first | (with_reducible first | exact HB.out | apply below_alloc | apply pw_below_drewN | apply below_drew1 | refine below_set ?_ GE158.out | refine below_set ?_ GE159.out) | exact HB.out)))); have n1_ := Aside0.mk (blk_below (g := gb158) (o := .cells #[.int .u8 a0_0, .int .u32 a0_1] 49 (0, 0)) (by (with_reducible repeat (first | refine blk_drewN ?_ _ | refine blk_drew ?_ | refine blk_alloc ?_ _)); exact BK158.out) hb); have n2_ := Aside0.mk (blk_below (g := gb159) (o := .cells #[.int .u8 0, .int .u32 0, .int .u32 0, .int .i64 0, .int .i64 0] 52 (0, 0)) (by (with_reducible repeat (first | refine blk_drewN ?_ _ | refine blk_drew ?_ | refine blk_alloc ?_ _)); exact BK159.out) hb); have n3_ := Aside0.mk (below_step (by repeat (first | (with_reducible first | exact HB.out | apply below_alloc | apply pw_below_drewN | apply below_drew1 | refine below_set ?_ GE158.out | refine below_set ?_ GE159.out) | exact HB.out)) hb); clear BK158; clear BK159; clear HB; have HO162 := n0_; have BK158 := n1_; have BK159 := n2_; have HB := n3_; clear n0_ n1_ n2_ n3_; (try clear hb); (try clear hb2); (try clear hk); (try clear hi); (try clear ho0); have hcz10_0 : w9.cell? ⟨gb158, 0, none⟩ = some (.int .u8 a0_0) := (blk_cell BK158.out 0).trans rfl; have hcz10_1 : w9.cell? ⟨gb158, 1, none⟩ = some (.int .u32 a0_1) := (blk_cell BK158.out 1).trans rfl; have hfz10_0 := blk_frozen BK158.out 0; have hfz10_1 := blk_frozen BK158.out 1; obtain ⟨Ao11, co11, eo11⟩ := Kd.R_slice HO162.out; subst eo11; have hcz12_0 : w9.cell? ⟨gb159, 0, none⟩ = some (.int .u8 0) := (blk_cell BK159.out 0).trans rfl; have hcz12_1 : w9.cell? ⟨gb159, 1, none⟩ = some (.int .u32 0) := (blk_cell BK159.out 1).trans rfl; have hcz12_2 : w9.cell? ⟨gb159, 2, none⟩ = some (.int .u32 0) := (blk_cell BK159.out 2).trans rfl; have hcz12_3 : w9.cell? ⟨gb159, 3, none⟩ = some (.int .i64 0) := (blk_cell BK159.out 3).trans rfl; have hcz12_4 : w9.cell? ⟨gb159, 4, none⟩ = some (.int .i64 0) := (blk_cell BK159.out 4).trans rfl; have hfz12_0 := blk_frozen BK159.out 0; have hfz12_1 := blk_frozen BK159.out 1; have hfz12_2 := blk_frozen BK159.out 2; have hfz12_3 := blk_frozen BK159.out 3; have hfz12_4 := blk_frozen BK159.out 4))
  refine bodyPost_ret (results_ct rfl _ _ gb159 52 #[.int .u8 a0_0, .int .u32 a0_1, .int .u32 a1, .int .i64 (t160.length : Int), .int .i64 0] (0, 0) _ rfl (by (with_reducible repeat (first | refine blk_drewN ?_ _ | refine blk_drew ?_ | refine blk_alloc ?_ _)); refine blk_put (cs := #[.int .u8 a0_0, .int .u32 a0_1, .int .u32 a1, .int .i64 (t160.length : Int), .int .i64 0]) ?_ 4 _ rfl; (with_reducible repeat (first | refine blk_drewN ?_ _ | refine blk_drew ?_ | refine blk_alloc ?_ _)); refine blk_put (cs := #[.int .u8 a0_0, .int .u32 a0_1, .int .u32 a1, .int .i64 0, .int .i64 0]) ?_ 3 _ rfl; (with_reducible repeat (first | refine blk_drewN ?_ _ | refine blk_drew ?_ | refine blk_alloc ?_ _)); refine blk_put (cs := #[.int .u8 a0_0, .int .u32 a0_1, .int .u32 0, .int .i64 0, .int .i64 0]) ?_ 2 _ rfl; (with_reducible repeat (first | refine blk_drewN ?_ _ | refine blk_drew ?_ | refine blk_alloc ?_ _)); refine blk_put (cs := #[.int .u8 a0_0, .int .u32 0, .int .u32 0, .int .i64 0, .int .i64 0]) ?_ 1 _ rfl; (with_reducible repeat (first | refine blk_drewN ?_ _ | refine blk_drew ?_ | refine blk_alloc ?_ _)); refine blk_put (cs := #[.int .u8 0, .int .u32 0, .int .u32 0, .int .i64 0, .int .i64 0]) ?_ 0 _ rfl; (with_reducible repeat (first | refine blk_drewN ?_ _ | refine blk_drew ?_ | refine blk_alloc ?_ _)); exact BK159.out) Try.underlying52 rfl (by kernel_rfl)) rfl ?_
  exact ⟨by first | rfl | (simp [errW_none, errW_some] <;> rfl) | (simp [*, errW_none, errW_some] <;> rfl), by repeat (first | (with_reducible first | exact HB.out | apply below_alloc | apply pw_below_drewN | apply below_drew1 | refine below_set ?_ GE158.out | refine below_set ?_ GE159.out) | exact HB.out)⟩
 ·
  rw [if_neg c4] at H
  have c4b0 : (t163 == 0) = false := beq_eq_false_iff_ne.mpr c4
  have c4b1 : (t163 != 0) = true := bne_iff_ne.mpr c4
  simp only [Option.some.injEq, Prod.mk.injEq] at H
  obtain ⟨rfl, rfl, rfl, rfl, rfl, rfl⟩ := H
  go_enter Try.func29, Try.ntmps29
  go_wp2_with (first | ((with_reducible refine gate_dst (N := 2) rfl ?_); refine box_event ?hg (N := 2) ?hd (cs := #[.int .u8 a0_0, .int .u32 a0_1]) (t := 49) ?hr ?_; (case hd => rfl); (case hg => rfl); (case hr => first | (go_simp; done) | (go_simp; rfl)); intro gb158 hg w13 hbox hb; have n0_ := Aside0.mk (below_step (by repeat (with_reducible first | exact HB.out | apply below_alloc | apply pw_below_drewN | apply below_drew1)) hb); have n1_ := Aside0.mk (hbox); have n2_ := Aside0.mk ((by rw [hg]; exact (below_size (by repeat (with_reducible first | exact HB.out | apply below_alloc | apply pw_below_drewN | apply below_drew1))) : w.heap.size ≤ gb158)); have n3_ := Aside0.mk ((by rw [hg]; exact (below_size (by repeat (with_reducible first | exact HB.out | apply below_alloc | apply pw_below_drewN | apply below_drew1))) : w.heap.size ≤ gb158)); clear HB; have HB := n0_; have BK158 := n1_; have GW158 := n2_; have GE158 := n3_; clear n0_ n1_ n2_ n3_; clear hb hbox hg) | ((with_reducible refine gate_dst (N := 4) rfl ?_); refine box_event ?hg (N := 4) ?hd (cs := #[.int .u8 0, .int .u32 0, .int .u32 0, .int .i64 0, .int .i64 0]) (t := 52) ?hr ?_; (case hd => rfl); (case hg => rfl); (case hr => first | (go_simp; done) | (go_simp; rfl)); intro gb159 hg w14 hbox hb; have n0_ := Aside0.mk (blk_below (g := gb158) (o := .cells #[.int .u8 a0_0, .int .u32 a0_1] 49 (0, 0)) (by (with_reducible repeat (first | refine blk_drewN ?_ _ | refine blk_drew ?_ | refine blk_alloc ?_ _)); exact BK158.out) hb); have n1_ := Aside0.mk (below_step (by repeat (first | (with_reducible first | exact HB.out | apply below_alloc | apply pw_below_drewN | apply below_drew1 | refine below_set ?_ GE158.out) | exact HB.out)) hb); have n2_ := Aside0.mk (hbox); have n3_ := Aside0.mk ((by rw [hg]; exact (below_size (by repeat (first | (with_reducible first | exact HB.out | apply below_alloc | apply pw_below_drewN | apply below_drew1 | refine below_set ?_ GE158.out) | exact HB.out))) : w.heap.size ≤ gb159)); have n4_ := Aside0.mk ((by rw [hg]; exact (below_size (by repeat (first | (with_reducible first | exact HB.out | apply below_alloc | apply pw_below_drewN | apply below_drew1 | refine below_set ?_ GE158.out) | exact HB.out))) : w.heap.size ≤ gb159)); have n5_ := Aside0.mk ((by rw [hg]; exact Nat.ne_of_lt (blk_lt (g := gb158) (o := .cells #[.int .u8 a0_0, .int .u32 a0_1] 49 (0, 0)) (by (with_reducible repeat (first | refine blk_drewN ?_ _ | refine blk_drew ?_ | refine blk_alloc ?_ _)); exact BK158.out)) : gb158 ≠ gb159)); have n6_ := Aside0.mk ((by rw [hg]; exact Nat.ne_of_gt (blk_lt (g := gb158) (o := .cells #[.int .u8 a0_0, .int .u32 a0_1] 49 (0, 0)) (by (with_reducible repeat (first | refine blk_drewN ?_ _ | refine blk_drew ?_ | refine blk_alloc ?_ _)); exact BK158.out)) : gb159 ≠ gb158)); clear BK158; clear HB; have BK158 := n0_; have HB := n1_; have BK159 := n2_; have GW159 := n3_; have GE159 := n4_; have NB158_159 := n5_; have NB159_158 := n6_; clear n0_ n1_ n2_ n3_ n4_ n5_ n6_; clear hb hbox hg; have hnb15 := NB158_159.out; have hnc15 := NB159_158.out; have hcz16_0 : w14.cell? ⟨gb158, 0, none⟩ = some (.int .u8 a0_0) := (blk_cell BK158.out 0).trans rfl; have hcz16_1 : w14.cell? ⟨gb158, 1, none⟩ = some (.int .u32 a0_1) := (blk_cell BK158.out 1).trans rfl; have hfz16_0 := blk_frozen BK158.out 0; have hfz16_1 := blk_frozen BK158.out 1) | ((with_reducible refine gate_callee (f := 79) rfl ?_); refine goesL_ (some 11) rfl rfl Try.func79 (by kernel_rfl) rfl #[.agg #[.int .u8 a0_0, .int .u32 a0_1], .int .u32 a1] rfl (by (try simp only [List.map_toArray, List.map_cons, List.map_nil]); first | done | rfl) ?_; (with_reducible refine (frame_PutHead.calls a0_0 a0_1 a1 t160 t163 _ A3.out).mono ?_); rintro e w17 ⟨v161, rfl, ho0, hb⟩; refine ⟨_, rfl, ?_⟩; have n0_ := Aside0.mk (Kd.R_lower ho0 (below_size (by repeat (first | (with_reducible first | exact HB.out | apply below_alloc | apply pw_below_drewN | apply below_drew1 | refine below_set ?_ GE158.out | refine below_set ?_ GE159.out) | exact HB.out)))); have n1_ := Aside0.mk (blk_below (g := gb158) (o := .cells #[.int .u8 a0_0, .int .u32 a0_1] 49 (0, 0)) (by (with_reducible repeat (first | refine blk_drewN ?_ _ | refine blk_drew ?_ | refine blk_alloc ?_ _)); exact BK158.out) hb); have n2_ := Aside0.mk (blk_below (g := gb159) (o := .cells #[.int .u8 0, .int .u32 0, .int .u32 0, .int .i64 0, .int .i64 0] 52 (0, 0)) (by (with_reducible repeat (first | refine blk_drewN ?_ _ | refine blk_drew ?_ | refine blk_alloc ?_ _)); exact BK159.out) hb); have n3_ := Aside0.mk (below_step (by repeat (first | (with_reducible first | exact HB.out | apply below_alloc | apply pw_below_drewN | apply below_drew1 | refine below_set ?_ GE158.out | refine below_set ?_ GE159.out) | exact HB.out)) hb); clear BK158; clear BK159; clear HB; have HO162 := n0_; have BK158 := n1_; have BK159 := n2_; have HB := n3_; clear n0_ n1_ n2_ n3_; (try clear hb); (try clear hb2); (try clear hk); (try clear hi); (try clear ho0); have hcz18_0 : w17.cell? ⟨gb159, 0, none⟩ = some (.int .u8 0) := (blk_cell BK159.out 0).trans rfl; have hcz18_1 : w17.cell? ⟨gb159, 1, none⟩ = some (.int .u32 0) := (blk_cell BK159.out 1).trans rfl; have hcz18_2 : w17.cell? ⟨gb159, 2, none⟩ = some (.int .u32 0) := (blk_cell BK159.out 2).trans rfl; have hcz18_3 : w17.cell? ⟨gb159, 3, none⟩ = some (.int .i64 0) := (blk_cell BK159.out 3).trans rfl; have hcz18_4 : w17.cell? ⟨gb159, 4, none⟩ = some (.int .i64 0) := (blk_cell BK159.out 4).trans rfl; have hfz18_0 := blk_frozen BK159.out 0; have hfz18_1 := blk_frozen BK159.out 1; have hfz18_2 := blk_frozen BK159.out 2; have hfz18_3 := blk_frozen BK159.out 3; have hfz18_4 := blk_frozen BK159.out 4))
  refine bodyPost_ret (results_ct rfl _ _ gb159 52 #[.int .u8 0, .int .u32 0, .int .u32 0, .int .i64 0, .int .i64 0] (0, 0) _ rfl (by (with_reducible repeat (first | refine blk_drewN ?_ _ | refine blk_drew ?_ | refine blk_alloc ?_ _)); refine blk_put (cs := #[.int .u8 0, .int .u32 0, .int .u32 0, .int .i64 0, .int .i64 0]) ?_ 4 _ rfl; (with_reducible repeat (first | refine blk_drewN ?_ _ | refine blk_drew ?_ | refine blk_alloc ?_ _)); refine blk_put (cs := #[.int .u8 0, .int .u32 0, .int .u32 0, .int .i64 0, .int .i64 0]) ?_ 3 _ rfl; (with_reducible repeat (first | refine blk_drewN ?_ _ | refine blk_drew ?_ | refine blk_alloc ?_ _)); refine blk_put (cs := #[.int .u8 0, .int .u32 0, .int .u32 0, .int .i64 0, .int .i64 0]) ?_ 2 _ rfl; (with_reducible repeat (first | refine blk_drewN ?_ _ | refine blk_drew ?_ | refine blk_alloc ?_ _)); refine blk_put (cs := #[.int .u8 0, .int .u32 0, .int .u32 0, .int .i64 0, .int .i64 0]) ?_ 1 _ rfl; (with_reducible repeat (first | refine blk_drewN ?_ _ | refine blk_drew ?_ | refine blk_alloc ?_ _)); refine blk_put (cs := #[.int .u8 0, .int .u32 0, .int .u32 0, .int .i64 0, .int .i64 0]) ?_ 0 _ rfl; (with_reducible repeat (first | refine blk_drewN ?_ _ | refine blk_drew ?_ | refine blk_alloc ?_ _)); exact BK159.out) Try.underlying52 rfl (by kernel_rfl)) rfl ?_
  exact ⟨by first | rfl | (simp [errW_none, errW_some] <;> rfl) | (simp [*, errW_none, errW_some] <;> rfl), by repeat (first | (with_reducible first | exact HB.out | apply below_alloc | apply pw_below_drewN | apply below_drew1 | refine below_set ?_ GE158.out | refine below_set ?_ GE159.out) | exact HB.out)⟩

/-! ### fence_Count: function 17 -/
def fence_Count.f (a0 : Int) : Option (Int) := some (wrap64 (Int.tdiv (wrap64 ((wrap64 ((mx 0 a0) + 16)) - 1)) 16))
set_option maxHeartbeats 8000000 in
set_option maxRecDepth 100000 in
theorem fence_Count.calls (a0 : Int) (r : Int) (w : World) (h : fence_Count.f a0 = some r) :
  Calls Try.prog 17 #[.int .i64 a0] w fun e w' => e = .returned (.int .i64 r) ∧ Below w.heap.size w w' := by
 have HB := Aside0.mk (Below.refl w.heap.size w)
 have H : (some (wrap64 (Int.tdiv (wrap64 ((wrap64 ((mx 0 a0) + 16)) - 1)) 16))) = some r := h
 clear h
 obtain ⟨ji2, hji2⟩ : ∃ j_ : Int, (mx 0 a0) = j_ := ⟨_, rfl⟩
 replace H : (some (wrap64 (Int.tdiv (wrap64 ((wrap64 ((ji2) + 16)) - 1)) 16))) = some r := by first | (rw [hji2] at H; exact H) | (simp only [hji2] at H ⊢; exact H)
 (try (have hji2l : 0 ≤ ji2 := by (rw [← hji2]; unfold mx; (repeat' split) <;> omega)))
 (try (have hji2m : 0 ≤ ji2 := by omega))
 have hji2_ : (if 0 < a0 then a0 else 0) = ji2 := hji2
 obtain rfl := Option.some.inj H
 go_enter Try.func17, Try.ntmps17
 go_wp2
 go_ret
 exact ⟨by first | rfl | (simp [errW_none, errW_some] <;> rfl) | (simp only [← hji2]; first | rfl | (simp [errW_none, errW_some] <;> rfl)) | (simp [*, errW_none, errW_some] <;> rfl), by repeat (first | (with_reducible first | exact HB.out | apply below_alloc | apply pw_below_drewN | apply below_drew1) | exact HB.out)⟩

/-! ### frame_Size: function 84 -/
def frame_Size.f (a0 : Int) : Option (Int) := (cobs_Most.f (wrap64 ((mx 0 a0) + 8))).bind fun t164 => (some (wrap64 (t164 + 1)))
set_option maxHeartbeats 8000000 in
set_option maxRecDepth 100000 in
theorem frame_Size.calls (a0 : Int) (r : Int) (w : World) (h : frame_Size.f a0 = some r) :
  Calls Try.prog 84 #[.int .i64 a0] w fun e w' => e = .returned (.int .i64 r) ∧ Below w.heap.size w w' := by
 have HB := Aside0.mk (Below.refl w.heap.size w)
 have H : ((cobs_Most.f (wrap64 ((mx 0 a0) + 8))).bind fun t164 => (some (wrap64 (t164 + 1)))) = some r := h
 clear h
 obtain ⟨ji2, hji2⟩ : ∃ j_ : Int, (mx 0 a0) = j_ := ⟨_, rfl⟩
 replace H : ((cobs_Most.f (wrap64 ((ji2) + 8))).bind fun t164 => (some (wrap64 (t164 + 1)))) = some r := by first | (rw [hji2] at H; exact H) | (simp only [hji2] at H ⊢; exact H)
 (try (have hji2l : 0 ≤ ji2 := by (rw [← hji2]; unfold mx; (repeat' split) <;> omega)))
 (try (have hji2m : 0 ≤ ji2 := by omega))
 have hji2_ : (if 0 < a0 then a0 else 0) = ji2 := hji2
 replace H := Option.bind_eq_some_iff.mp H
 obtain ⟨t164, A30, H⟩ := H
 replace H : (some (wrap64 (t164 + 1))) = some r := H
 have A3 := Aside0.mk A30
 clear A30
 obtain rfl := Option.some.inj H
 go_enter Try.func84, Try.ntmps84
 go_wp2_with (first | ((with_reducible refine gate_callee (f := 117) rfl ?_); refine goesL_ (some 6) rfl rfl Try.func117 (by kernel_rfl) rfl #[.int .i64 (wrap64 ((ji2) + 8))] rfl (by (try simp only [List.map_toArray, List.map_cons, List.map_nil]); first | done | (simp only [hji2]; rfl) | rfl | (simp only [List.length_drop, List.length_take]; rfl)) ?_; (with_reducible refine (cobs_Most.calls (wrap64 ((ji2) + 8)) t164 _ A3.out).mono ?_); rintro e w' ⟨rfl, ⟨nd, rfl⟩⟩; refine ⟨_, rfl, ?_⟩))
 go_ret
 exact ⟨by first | rfl | (simp [errW_none, errW_some] <;> rfl) | (simp only [← hji2]; first | rfl | (simp [errW_none, errW_some] <;> rfl)) | (simp [*, errW_none, errW_some] <;> rfl), by repeat (first | (with_reducible first | exact HB.out | apply below_alloc | apply pw_below_drewN | apply below_drew1) | exact HB.out)⟩

/-! ### footer_Most: function 42 -/
def footer_Most.f (a0 : Int) : Option (Int) := (fence_Count.f (mx 0 a0)).bind fun t165 => ((frame_Size.f (wrap64 ((wrap64 (9 + (wrap64 (12 * (mx 0 a0))))) + (wrap64 (8 * t165))))).bind fun t166 => (some t166))
set_option maxHeartbeats 8000000 in
set_option maxRecDepth 100000 in
theorem footer_Most.calls (a0 : Int) (r : Int) (w : World) (h : footer_Most.f a0 = some r) :
  Calls Try.prog 42 #[.int .i64 a0] w fun e w' => e = .returned (.int .i64 r) ∧ Below w.heap.size w w' := by
 have HB := Aside0.mk (Below.refl w.heap.size w)
 have H : ((fence_Count.f (mx 0 a0)).bind fun t165 => ((frame_Size.f (wrap64 ((wrap64 (9 + (wrap64 (12 * (mx 0 a0))))) + (wrap64 (8 * t165))))).bind fun t166 => (some t166))) = some r := h
 clear h
 obtain ⟨ji2, hji2⟩ : ∃ j_ : Int, (mx 0 a0) = j_ := ⟨_, rfl⟩
 replace H : ((fence_Count.f (ji2)).bind fun t165 => ((frame_Size.f (wrap64 ((wrap64 (9 + (wrap64 (12 * (ji2))))) + (wrap64 (8 * t165))))).bind fun t166 => (some t166))) = some r := by first | (rw [hji2] at H; exact H) | (simp only [hji2] at H ⊢; exact H)
 (try (have hji2l : 0 ≤ ji2 := by (rw [← hji2]; unfold mx; (repeat' split) <;> omega)))
 (try (have hji2m : 0 ≤ ji2 := by omega))
 have hji2_ : (if 0 < a0 then a0 else 0) = ji2 := hji2
 replace H := Option.bind_eq_some_iff.mp H
 obtain ⟨t165, A30, H⟩ := H
 replace H : ((frame_Size.f (wrap64 ((wrap64 (9 + (wrap64 (12 * (ji2))))) + (wrap64 (8 * t165))))).bind fun t166 => (some t166)) = some r := H
 have A3 := Aside0.mk A30
 clear A30
 replace H := Option.bind_eq_some_iff.mp H
 obtain ⟨t166, A40, H⟩ := H
 replace H : (some t166) = some r := H
 have A4 := Aside0.mk A40
 clear A40
 obtain rfl := Option.some.inj H
 go_enter Try.func42, Try.ntmps42
 go_wp2_with (first | ((with_reducible refine gate_callee (f := 17) rfl ?_); refine goesL_ (some 9) rfl rfl Try.func17 (by kernel_rfl) rfl #[.int .i64 ji2] rfl (by (try simp only [List.map_toArray, List.map_cons, List.map_nil]); first | done | (simp only [hji2]; rfl) | rfl | (simp only [List.length_drop, List.length_take]; rfl)) ?_; (with_reducible refine (fence_Count.calls ji2 t165 _ A3.out).mono ?_); rintro e w5 ⟨rfl, hb⟩; refine ⟨_, rfl, ?_⟩; have n0_ := Aside0.mk (below_step (by repeat (with_reducible first | exact HB.out | apply below_alloc | apply pw_below_drewN | apply below_drew1)) hb); clear HB; have HB := n0_; clear n0_; (try clear hb); (try clear hb2); (try clear hk); (try clear hi)) | ((with_reducible refine gate_callee (f := 84) rfl ?_); refine goesL_ (some 12) rfl rfl Try.func84 (by kernel_rfl) rfl #[.int .i64 (wrap64 ((wrap64 (9 + (wrap64 (12 * (ji2))))) + (wrap64 (8 * t165))))] rfl (by (try simp only [List.map_toArray, List.map_cons, List.map_nil]); first | done | (simp only [hji2]; rfl) | rfl | (simp only [List.length_drop, List.length_take]; rfl)) ?_; (with_reducible refine (frame_Size.calls (wrap64 ((wrap64 (9 + (wrap64 (12 * (ji2))))) + (wrap64 (8 * t165)))) t166 _ A4.out).mono ?_); rintro e w6 ⟨rfl, hb⟩; refine ⟨_, rfl, ?_⟩; have n0_ := Aside0.mk (below_step (by repeat (with_reducible first | exact HB.out | apply below_alloc | apply pw_below_drewN | apply below_drew1)) hb); clear HB; have HB := n0_; clear n0_; (try clear hb); (try clear hb2); (try clear hk); (try clear hi)))
 go_ret
 exact ⟨by first | rfl | (simp [errW_none, errW_some] <;> rfl) | (simp only [← hji2]; first | rfl | (simp [errW_none, errW_some] <;> rfl)) | (simp [*, errW_none, errW_some] <;> rfl), by repeat (first | (with_reducible first | exact HB.out | apply below_alloc | apply pw_below_drewN | apply below_drew1) | exact HB.out)⟩

/-! ### config_Size: function 43 -/
def config_Size.f (a0_0 : Int) (a0_1 : Int) : Option (Int) := (config_Check.f a0_0 a0_1).bind fun t168 => (if t168 = 0 then (if 0 ≤ a0_0 then (some (shl .i64 1 a0_0)) else (none)) else (some 0))
set_option maxHeartbeats 8000000 in
set_option maxRecDepth 100000 in
theorem config_Size.calls (a0_0 : Int) (a0_1 : Int) (r : Int) (w : World) (h : config_Size.f a0_0 a0_1 = some r) :
  Calls Try.prog 43 #[.agg #[.int .u8 a0_0, .int .u32 a0_1]] w fun e w' => e = .returned (.int .i64 r) ∧ Below w.heap.size w w' := by
 have hu49 := Try.underlying49
 have HB := Aside0.mk (Below.refl w.heap.size w)
 have H : ((config_Check.f a0_0 a0_1).bind fun t168 => (if t168 = 0 then (if 0 ≤ a0_0 then (some (shl .i64 1 a0_0)) else (none)) else (some 0))) = some r := h
 clear h
 replace H := Option.bind_eq_some_iff.mp H
 obtain ⟨t168, A20, H⟩ := H
 replace H : (if t168 = 0 then (if 0 ≤ a0_0 then (some (shl .i64 1 a0_0)) else (none)) else (some 0)) = some r := H
 have A2 := Aside0.mk A20
 clear A20
 by_cases c3 : t168 = 0
 ·
  rw [if_pos c3] at H
  have c3b0 : (t168 == 0) = true := beq_iff_eq.mpr c3
  have c3b1 : (t168 != 0) = false := bne_eq_false_iff_eq.mpr c3
  clear c3
  by_cases c4 : 0 ≤ a0_0
  ·
   rw [if_pos c4] at H
   have c4b0 := eq_true c4
   have c4b1 : decide (0 ≤ a0_0) = true := decide_eq_true c4
   clear c4
   obtain ⟨ji5, hji5⟩ : ∃ j_ : Int, (shl .i64 1 a0_0) = j_ := ⟨_, rfl⟩
   replace H : (some ji5) = some r := by first | (rw [hji5] at H; exact H) | (simp only [hji5] at H ⊢; exact H)
   (try rw [hji5] at A2)
   have hji5_ : (IntKind.i64.wrap (1 * 2 ^ min a0_0.toNat 64)) = ji5 := hji5
   have hji5z : a0_0 ≤ 64 → (IntKind.i64.wrap (1 * 2 ^ a0_0.toNat)) = ji5 := shl_small hji5
   have hji5u : (IntKind.i64.wrap (2 ^ min a0_0.toNat 64)) = ji5 := by have h_ := hji5_; rw [Int.one_mul] at h_; exact h_
   have hji5v : a0_0 ≤ 64 → (IntKind.i64.wrap (2 ^ a0_0.toNat)) = ji5 := fun hle_ => by have h_ := hji5z hle_; rw [Int.one_mul] at h_; exact h_
   have hji5y : (wrap64 (1 * 2 ^ min a0_0.toNat 64)) = ji5 := (i64_w _).symm.trans hji5_
   have hji5x : a0_0 ≤ 64 → (wrap64 (1 * 2 ^ a0_0.toNat)) = ji5 := fun h_ => (i64_w _).symm.trans (hji5z h_)
   obtain rfl := Option.some.inj H
   go_enter Try.func43, Try.ntmps43
   go_wp2_with (first | ((with_reducible refine gate_dst (N := 1) rfl ?_); refine box_event ?hg (N := 1) ?hd (cs := #[.int .u8 a0_0, .int .u32 a0_1]) (t := 49) ?hr ?_; (case hd => rfl); (case hg => rfl); (case hr => first | (go_simp; done) | (go_simp; rfl)); intro gb167 hg w6 hbox hb; have n0_ := Aside0.mk (below_step (by repeat (with_reducible first | exact HB.out | apply below_alloc | apply pw_below_drewN | apply below_drew1)) hb); have n1_ := Aside0.mk (hbox); have n2_ := Aside0.mk ((by rw [hg]; exact (below_size (by repeat (with_reducible first | exact HB.out | apply below_alloc | apply pw_below_drewN | apply below_drew1))) : w.heap.size ≤ gb167)); have n3_ := Aside0.mk ((by rw [hg]; exact (below_size (by repeat (with_reducible first | exact HB.out | apply below_alloc | apply pw_below_drewN | apply below_drew1))) : w.heap.size ≤ gb167)); clear HB; have HB := n0_; have BK167 := n1_; have GW167 := n2_; have GE167 := n3_; clear n0_ n1_ n2_ n3_; clear hb hbox hg; have hcz7_0 : w6.cell? ⟨gb167, 0, none⟩ = some (.int .u8 a0_0) := (blk_cell BK167.out 0).trans rfl; have hcz7_1 : w6.cell? ⟨gb167, 1, none⟩ = some (.int .u32 a0_1) := (blk_cell BK167.out 1).trans rfl; have hfz7_0 := blk_frozen BK167.out 0; have hfz7_1 := blk_frozen BK167.out 1) | ((with_reducible refine gate_callee (f := 39) rfl ?_); refine goesL_ (some 4) rfl rfl Try.func39 (by kernel_rfl) rfl #[.agg #[.int .u8 a0_0, .int .u32 a0_1]] rfl (by (try simp only [List.map_toArray, List.map_cons, List.map_nil]); first | done | rfl) ?_; (with_reducible refine (config_Check.calls a0_0 a0_1 t168 _ A2.out).mono ?_); rintro e w8 ⟨rfl, hb⟩; refine ⟨_, rfl, ?_⟩; have n0_ := Aside0.mk (blk_below (g := gb167) (o := .cells #[.int .u8 a0_0, .int .u32 a0_1] 49 (0, 0)) (by (with_reducible repeat (first | refine blk_drewN ?_ _ | refine blk_drew ?_ | refine blk_alloc ?_ _)); exact BK167.out) hb); have n1_ := Aside0.mk (below_step (by repeat (first | (with_reducible first | exact HB.out | apply below_alloc | apply pw_below_drewN | apply below_drew1 | refine below_set ?_ GE167.out) | exact HB.out)) hb); clear BK167; clear HB; have BK167 := n0_; have HB := n1_; clear n0_ n1_; (try clear hb); (try clear hb2); (try clear hk); (try clear hi); have hcz9_0 : w8.cell? ⟨gb167, 0, none⟩ = some (.int .u8 a0_0) := (blk_cell BK167.out 0).trans rfl; have hcz9_1 : w8.cell? ⟨gb167, 1, none⟩ = some (.int .u32 a0_1) := (blk_cell BK167.out 1).trans rfl; have hfz9_0 := blk_frozen BK167.out 0; have hfz9_1 := blk_frozen BK167.out 1))
   go_ret
   exact ⟨by first | rfl | (simp [errW_none, errW_some] <;> rfl) | (simp only [← hji5]; first | rfl | (simp [errW_none, errW_some] <;> rfl)) | (simp [*, errW_none, errW_some] <;> rfl), by repeat (first | (with_reducible first | exact HB.out | apply below_alloc | apply pw_below_drewN | apply below_drew1 | refine below_set ?_ GE167.out) | exact HB.out)⟩
  ·
   rw [if_neg c4] at H
   exact absurd H (by simp)
 ·
  rw [if_neg c3] at H
  have c3b0 : (t168 == 0) = false := beq_eq_false_iff_ne.mpr c3
  have c3b1 : (t168 != 0) = true := bne_iff_ne.mpr c3
  obtain rfl := Option.some.inj H
  go_enter Try.func43, Try.ntmps43
  go_wp2_with (first | ((with_reducible refine gate_dst (N := 1) rfl ?_); refine box_event ?hg (N := 1) ?hd (cs := #[.int .u8 a0_0, .int .u32 a0_1]) (t := 49) ?hr ?_; (case hd => rfl); (case hg => rfl); (case hr => first | (go_simp; done) | (go_simp; rfl)); intro gb167 hg w10 hbox hb; have n0_ := Aside0.mk (below_step (by repeat (with_reducible first | exact HB.out | apply below_alloc | apply pw_below_drewN | apply below_drew1)) hb); have n1_ := Aside0.mk (hbox); have n2_ := Aside0.mk ((by rw [hg]; exact (below_size (by repeat (with_reducible first | exact HB.out | apply below_alloc | apply pw_below_drewN | apply below_drew1))) : w.heap.size ≤ gb167)); have n3_ := Aside0.mk ((by rw [hg]; exact (below_size (by repeat (with_reducible first | exact HB.out | apply below_alloc | apply pw_below_drewN | apply below_drew1))) : w.heap.size ≤ gb167)); clear HB; have HB := n0_; have BK167 := n1_; have GW167 := n2_; have GE167 := n3_; clear n0_ n1_ n2_ n3_; clear hb hbox hg; have hcz11_0 : w10.cell? ⟨gb167, 0, none⟩ = some (.int .u8 a0_0) := (blk_cell BK167.out 0).trans rfl; have hcz11_1 : w10.cell? ⟨gb167, 1, none⟩ = some (.int .u32 a0_1) := (blk_cell BK167.out 1).trans rfl; have hfz11_0 := blk_frozen BK167.out 0; have hfz11_1 := blk_frozen BK167.out 1) | ((with_reducible refine gate_callee (f := 39) rfl ?_); refine goesL_ (some 4) rfl rfl Try.func39 (by kernel_rfl) rfl #[.agg #[.int .u8 a0_0, .int .u32 a0_1]] rfl (by (try simp only [List.map_toArray, List.map_cons, List.map_nil]); first | done | rfl) ?_; (with_reducible refine (config_Check.calls a0_0 a0_1 t168 _ A2.out).mono ?_); rintro e w12 ⟨rfl, hb⟩; refine ⟨_, rfl, ?_⟩; have n0_ := Aside0.mk (blk_below (g := gb167) (o := .cells #[.int .u8 a0_0, .int .u32 a0_1] 49 (0, 0)) (by (with_reducible repeat (first | refine blk_drewN ?_ _ | refine blk_drew ?_ | refine blk_alloc ?_ _)); exact BK167.out) hb); have n1_ := Aside0.mk (below_step (by repeat (first | (with_reducible first | exact HB.out | apply below_alloc | apply pw_below_drewN | apply below_drew1 | refine below_set ?_ GE167.out) | exact HB.out)) hb); clear BK167; clear HB; have BK167 := n0_; have HB := n1_; clear n0_ n1_; (try clear hb); (try clear hb2); (try clear hk); (try clear hi)))
  go_ret
  exact ⟨by first | rfl | (simp [errW_none, errW_some] <;> rfl) | (simp [*, errW_none, errW_some] <;> rfl), by repeat (first | (with_reducible first | exact HB.out | apply below_alloc | apply pw_below_drewN | apply below_drew1 | refine below_set ?_ GE167.out) | exact HB.out)⟩

/-! ### pack_Room_Left: function 34 -/
def pack_Room_Left.f (a0_0 : Int) (a0_1 : Int) (a0_2 : Int) (a0_3 : Int) (a0_4 : Int) : Option (Int) := (config_Size.f a0_0 a0_1).bind fun t170 => ((footer_Most.f (wrap64 (a0_4 + 1))).bind fun t171 => (some (mx 0 (wrap64 ((wrap64 (t170 - a0_3)) - t171)))))
def pack_Room_Left.T1 : Bool × List (List Nat × List Nat) := (true, [([], []), ([0], [0]), ([1], [1]), ([], []), ([3], [3]), ([2, 4], [2, 4]), ([], []), ([6], [6]), ([7], [7]), ([8, 2], [8]), ([5, 9], [5, 9]), ([10], [10]), ([11, 9, 0, 1, 2, 3, 4, 5, 6, 7, 8, 9, 10, 11], [11])])
def pack_Room_Left.B1 : List Nat := [0, 1, 3, 0, 8, 31, 0, 64, 192, 455, 1023, 2047, 4095]
theorem pack_Room_Left.tab1 : rtab .any (opsOf Try.f34 1) = pack_Room_Left.T1 := by kernel_rfl
theorem pack_Room_Left.bits1 : waitsOk pack_Room_Left.T1.2 pack_Room_Left.B1 = true := by kernel_rfl
set_option maxHeartbeats 8000000 in
set_option maxRecDepth 100000 in
theorem pack_Room_Left.calls (a0_0 : Int) (a0_1 : Int) (a0_2 : Int) (a0_3 : Int) (a0_4 : Int) (r : Int) (w : World) (h : pack_Room_Left.f a0_0 a0_1 a0_2 a0_3 a0_4 = some r) :
  Calls Try.prog 34 #[.agg #[.int .u8 a0_0, .int .u32 a0_1, .int .u32 a0_2, .int .i64 a0_3, .int .i64 a0_4]] w fun e w' => e = .returned (.int .i64 r) ∧ Below w.heap.size w w' := by
 have hu52 := Try.underlying52
 have hu49 := Try.underlying49
 have HB := Aside0.mk (Below.refl w.heap.size w)
 have H : ((config_Size.f a0_0 a0_1).bind fun t170 => ((footer_Most.f (wrap64 (a0_4 + 1))).bind fun t171 => (some (mx 0 (wrap64 ((wrap64 (t170 - a0_3)) - t171)))))) = some r := h
 clear h
 replace H := Option.bind_eq_some_iff.mp H
 obtain ⟨t170, A20, H⟩ := H
 replace H : ((footer_Most.f (wrap64 (a0_4 + 1))).bind fun t171 => (some (mx 0 (wrap64 ((wrap64 (t170 - a0_3)) - t171))))) = some r := H
 have A2 := Aside0.mk A20
 clear A20
 replace H := Option.bind_eq_some_iff.mp H
 obtain ⟨t171, A30, H⟩ := H
 replace H : (some (mx 0 (wrap64 ((wrap64 (t170 - a0_3)) - t171)))) = some r := H
 have A3 := Aside0.mk A30
 clear A30
 obtain ⟨ji4, hji4⟩ : ∃ j_ : Int, (mx 0 (wrap64 ((wrap64 (t170 - a0_3)) - t171))) = j_ := ⟨_, rfl⟩
 replace H : (some ji4) = some r := by first | (rw [hji4] at H; exact H) | (simp only [hji4] at H ⊢; exact H)
 (try rw [hji4] at A2)
 (try rw [hji4] at A3)
 (try (have hji4l : 0 ≤ ji4 := by (rw [← hji4]; unfold mx; (repeat' split) <;> omega)))
 (try (have hji4m : 0 ≤ ji4 := by omega))
 have hji4_ : (if 0 < (wrap64 ((wrap64 (t170 - a0_3)) - t171)) then (wrap64 ((wrap64 (t170 - a0_3)) - t171)) else 0) = ji4 := hji4
 obtain rfl := Option.some.inj H
 go_enter Try.func34, Try.ntmps34
 try go_wp2_with (first | ((with_reducible refine gate_dst (N := 1) rfl ?_); refine box_event ?hg (N := 1) ?hd (cs := #[.int .u8 a0_0, .int .u32 a0_1, .int .u32 a0_2, .int .i64 a0_3, .int .i64 a0_4]) (t := 52) ?hr ?_; (case hd => rfl); (case hg => rfl); (case hr => first | (go_simp; done) | (go_simp; rfl)); intro gb169 hg w5 hbox hb; have n0_ := Aside0.mk (below_step (by repeat (with_reducible first | exact HB.out | apply below_alloc | apply pw_below_drewN | apply below_drew1)) hb); have n1_ := Aside0.mk (hbox); have n2_ := Aside0.mk ((by rw [hg]; exact (below_size (by repeat (with_reducible first | exact HB.out | apply below_alloc | apply pw_below_drewN | apply below_drew1))) : w.heap.size ≤ gb169)); have n3_ := Aside0.mk ((by rw [hg]; exact (below_size (by repeat (with_reducible first | exact HB.out | apply below_alloc | apply pw_below_drewN | apply below_drew1))) : w.heap.size ≤ gb169)); clear HB; have HB := n0_; have BK169 := n1_; have GW169 := n2_; have GE169 := n3_; clear n0_ n1_ n2_ n3_; clear hb hbox hg))
 have n0_ := Aside0.mk (blk_drew BK169.out)
 have n1_ := Aside0.mk (below_drew1 HB.out)
 clear BK169
 clear HB
 have BK169 := n0_
 have HB := n1_
 clear n0_ n1_
 refine start_ (n := 13) (S := fun w' => w'.cell? ⟨gb169, 0, none⟩ = some (.int .u8 a0_0) ∧ w'.cell? ⟨gb169, 1, none⟩ = some (.int .u32 a0_1) ∧ w'.cell? ⟨gb169, 2, none⟩ = some (.int .u32 a0_2) ∧ w'.cell? ⟨gb169, 3, none⟩ = some (.int .i64 a0_3) ∧ w'.cell? ⟨gb169, 4, none⟩ = some (.int .i64 a0_4)) (ds := []) #[false, false, false, false, false, false, false, false, false, false, false, false, false] (by kernel_rfl) rfl rfl ⟨(blk_cell BK169.out 0).trans rfl, (blk_cell BK169.out 1).trans rfl, (blk_cell BK169.out 2).trans rfl, (blk_cell BK169.out 3).trans rfl, (blk_cell BK169.out 4).trans rfl⟩ (fun hHeld => ?_); refine with_tabW pack_Room_Left.tab1 pack_Room_Left.bits1 (fun HT_ HW_ => ?_)
 generalize w5.drew = w6 at BK169 HB hHeld ⊢
 refine pure_ (i := 0) (N := some 3) (v := ?_) (a' := ?_) #[true, false, false, false, false, false, false, false, false, false, false, false, false] rfl rfl (any_of HT_.out (by kernel_rfl)) (fun _ _ _ h => h) (Or.inl ⟨by rfl, ?_⟩) ?_ ?_
 rotate_left
 ·
  intro w'
  go_simp
  with_reducible rfl
 rotate_left
 ·
  simp only [Act.put, List.setIfInBounds_toArray, List.set_cons_zero, List.set_cons_succ, i64_w, i32_w]
  rfl
 refine pure_ (i := 3) (N := some 6) (v := ?_) (a' := ?_) #[true, false, false, true, false, false, false, false, false, false, false, false, false] rfl rfl (any_of HT_.out (by kernel_rfl)) (fun _ _ _ h => h) (Or.inl ⟨by rfl, ?_⟩) ?_ ?_
 rotate_left
 ·
  intro w'
  go_simp
  with_reducible rfl
 rotate_left
 ·
  simp only [Act.put, List.setIfInBounds_toArray, List.set_cons_zero, List.set_cons_succ, i64_w, i32_w]
  rfl
 refine pure_ (i := 6) (N := some 9) (v := ?_) (a' := ?_) #[true, false, false, true, false, false, true, false, false, false, false, false, false] rfl rfl (any_of HT_.out (by kernel_rfl)) (fun _ _ _ h => h) (Or.inl ⟨by rfl, ?_⟩) ?_ ?_
 rotate_left
 ·
  intro w'
  go_simp
  with_reducible rfl
 rotate_left
 ·
  simp only [Act.put, List.setIfInBounds_toArray, List.set_cons_zero, List.set_cons_succ, i64_w, i32_w]
  rfl
 refine take_ (i := 1) (N := some 4) (v := ?_) (a' := ?_) #[true, true, false, true, false, false, true, false, false, false, false, false, false] rfl rfl (take_ofW HT_.out HW_.out (by kernel_rfl)) (fun _ _ _ h => h) (Or.inl ⟨by rfl, ?_⟩) hHeld ?_ ?_
 rotate_left
 ·
  rintro w' ⟨s0, s1, s2, s3, s4⟩
  go_simp
  with_reducible rfl
 rotate_left
 ·
  simp only [Act.put, List.setIfInBounds_toArray, List.set_cons_zero, List.set_cons_succ, i64_w, i32_w]
  rfl
 refine take_ (i := 4) (N := some 7) (v := ?_) (a' := ?_) #[true, true, false, true, true, false, true, false, false, false, false, false, false] rfl rfl (take_ofW HT_.out HW_.out (by kernel_rfl)) (fun _ _ _ h => h) (Or.inl ⟨by rfl, ?_⟩) hHeld ?_ ?_
 rotate_left
 ·
  rintro w' ⟨s0, s1, s2, s3, s4⟩
  go_simp
  with_reducible rfl
 rotate_left
 ·
  simp only [Act.put, List.setIfInBounds_toArray, List.set_cons_zero, List.set_cons_succ, i64_w, i32_w]
  rfl
 refine take_ (i := 7) (N := some 10) (v := ?_) (a' := ?_) #[true, true, false, true, true, false, true, true, false, false, false, false, false] rfl rfl (take_ofW HT_.out HW_.out (by kernel_rfl)) (fun _ _ _ h => h) (Or.inl ⟨by rfl, ?_⟩) hHeld ?_ ?_
 rotate_left
 ·
  rintro w' ⟨s0, s1, s2, s3, s4⟩
  go_simp
  with_reducible rfl
 rotate_left
 ·
  simp only [Act.put, List.setIfInBounds_toArray, List.set_cons_zero, List.set_cons_succ, i64_w, i32_w]
  rfl
 refine pure_ (i := 8) (N := some 11) (v := ?_) (a' := ?_) #[true, true, false, true, true, false, true, true, true, false, false, false, false] rfl rfl (any_of HT_.out (by kernel_rfl)) (fun _ _ _ h => h) (Or.inl ⟨by rfl, ?_⟩) ?_ ?_
 rotate_left
 ·
  intro w'
  go_simp
  with_reducible rfl
 rotate_left
 ·
  simp only [Act.put, List.setIfInBounds_toArray, List.set_cons_zero, List.set_cons_succ, i64_w, i32_w]
  rfl
 refine one_ (i := 2) (N := some 5) #[true, true, true, true, true, false, true, true, true, false, false, false, false] rfl rfl (one_of HT_.out (by kernel_rfl)) (by decide) (fun K hK => ?_)
 refine goes_ Try.func43 (by kernel_rfl) rfl #[.agg #[.int .u8 a0_0, .int .u32 a0_1]] (by rfl) rfl rfl (by (try simp only [List.map_toArray, List.map_cons, List.map_nil]); first | done | rfl) ?_
 with_reducible refine (config_Size.calls a0_0 a0_1 t170 _ A2.out).mono ?_
 rintro e w7 ⟨rfl, hb⟩
 refine ⟨_, rfl, ?_⟩
 have n0_ := Aside0.mk (blk_below (g := gb169) (o := .cells #[.int .u8 a0_0, .int .u32 a0_1, .int .u32 a0_2, .int .i64 a0_3, .int .i64 a0_4] 52 (0, 0)) (by (with_reducible repeat (first | refine blk_drewN ?_ _ | refine blk_drew ?_ | refine blk_alloc ?_ _)); exact BK169.out) hb)
 have n1_ := Aside0.mk (below_step (by repeat (first | (with_reducible first | exact HB.out | apply below_alloc | apply pw_below_drewN | apply below_drew1 | refine below_set ?_ GE169.out) | exact HB.out)) hb)
 clear BK169
 clear HB
 have BK169 := n0_
 have HB := n1_
 clear n0_ n1_
 (try clear hb)
 (try clear hb2)
 (try clear hk)
 (try clear hi)
 refine hK.out _ _ ⟨(blk_cell BK169.out 0).trans rfl, (blk_cell BK169.out 1).trans rfl, (blk_cell BK169.out 2).trans rfl, (blk_cell BK169.out 3).trans rfl, (blk_cell BK169.out 4).trans rfl⟩ (fun hHeld => ?_)
 clear hK K
 refine norm_ (a' := ?_) ?_ ?_
 rotate_left
 ·
  show Act.put _ (some 5) _ = _
  simp only [Act.put, List.setIfInBounds_toArray, List.set_cons_zero, List.set_cons_succ, i64_w, i32_w]
  rfl
 refine pure_ (i := 5) (N := some 8) (v := ?_) (a' := ?_) #[true, true, true, true, true, true, true, true, true, false, false, false, false] rfl rfl (any_of HT_.out (by kernel_rfl)) (fun _ _ _ h => h) (Or.inl ⟨by rfl, ?_⟩) ?_ ?_
 rotate_left
 ·
  intro w'
  go_simp
  with_reducible rfl
 rotate_left
 ·
  simp only [Act.put, List.setIfInBounds_toArray, List.set_cons_zero, List.set_cons_succ, i64_w, i32_w]
  rfl
 refine one_ (i := 9) (N := some 12) #[true, true, true, true, true, true, true, true, true, true, false, false, false] rfl rfl (one_of HT_.out (by kernel_rfl)) (by decide) (fun K hK => ?_)
 refine goes_ Try.func42 (by kernel_rfl) rfl #[.int .i64 (wrap64 (a0_4 + 1))] (by rfl) rfl rfl (by (try simp only [List.map_toArray, List.map_cons, List.map_nil]); first | done | rfl) ?_
 with_reducible refine (footer_Most.calls (wrap64 (a0_4 + 1)) t171 _ A3.out).mono ?_
 rintro e w8 ⟨rfl, hb⟩
 refine ⟨_, rfl, ?_⟩
 have n0_ := Aside0.mk (blk_below (g := gb169) (o := .cells #[.int .u8 a0_0, .int .u32 a0_1, .int .u32 a0_2, .int .i64 a0_3, .int .i64 a0_4] 52 (0, 0)) (by (with_reducible repeat (first | refine blk_drewN ?_ _ | refine blk_drew ?_ | refine blk_alloc ?_ _)); exact BK169.out) hb)
 have n1_ := Aside0.mk (below_step (by repeat (first | (with_reducible first | exact HB.out | apply below_alloc | apply pw_below_drewN | apply below_drew1 | refine below_set ?_ GE169.out) | exact HB.out)) hb)
 clear BK169
 clear HB
 have BK169 := n0_
 have HB := n1_
 clear n0_ n1_
 (try clear hb)
 (try clear hb2)
 (try clear hk)
 (try clear hi)
 refine hK.out _ _ ⟨(blk_cell BK169.out 0).trans rfl, (blk_cell BK169.out 1).trans rfl, (blk_cell BK169.out 2).trans rfl, (blk_cell BK169.out 3).trans rfl, (blk_cell BK169.out 4).trans rfl⟩ (fun hHeld => ?_)
 clear hK K
 refine norm_ (a' := ?_) ?_ ?_
 rotate_left
 ·
  show Act.put _ (some 12) _ = _
  simp only [Act.put, List.setIfInBounds_toArray, List.set_cons_zero, List.set_cons_succ, i64_w, i32_w]
  rfl
 refine pure_ (i := 10) (N := some 13) (v := ?_) (a' := ?_) #[true, true, true, true, true, true, true, true, true, true, true, false, false] rfl rfl (any_of HT_.out (by kernel_rfl)) (fun _ _ _ h => h) (Or.inl ⟨by rfl, ?_⟩) ?_ ?_
 rotate_left
 ·
  intro w'
  go_simp
  with_reducible rfl
 rotate_left
 ·
  simp only [Act.put, List.setIfInBounds_toArray, List.set_cons_zero, List.set_cons_succ, i64_w, i32_w]
  rfl
 refine pure_ (i := 11) (N := some 14) (v := ?_) (a' := ?_) #[true, true, true, true, true, true, true, true, true, true, true, true, false] rfl rfl (any_of HT_.out (by kernel_rfl)) (fun _ _ _ h => h) (Or.inl ⟨by rfl, ?_⟩) ?_ ?_
 rotate_left
 ·
  intro w'
  go_simp
  with_reducible rfl
 rotate_left
 ·
  simp only [Act.put, List.setIfInBounds_toArray, List.set_cons_zero, List.set_cons_succ, i64_w, i32_w]
  rfl
 refine pure_ (i := 12) (N := some 2) (v := ?_) (a' := ?_) #[true, true, true, true, true, true, true, true, true, true, true, true, true] rfl rfl (any_of HT_.out (by kernel_rfl)) (fun _ _ _ h => h) (Or.inl ⟨by rfl, ?_⟩) ?_ ?_
 rotate_left
 ·
  intro w'
  go_simp
  with_reducible rfl
 rotate_left
 ·
  simp only [Act.put, List.setIfInBounds_toArray, List.set_cons_zero, List.set_cons_succ, i64_w, i32_w]
  rfl
 refine done_ (done_of HT_.out (by kernel_rfl)) ?_
 try go_wp2
 go_ret
 exact ⟨by first | rfl | (simp [errW_none, errW_some] <;> rfl) | (simp only [← hji4]; first | rfl | (simp [errW_none, errW_some] <;> rfl)) | (simp [*, errW_none, errW_some] <;> rfl), by repeat (first | (with_reducible first | exact HB.out | apply below_alloc | apply pw_below_drewN | apply below_drew1 | refine below_set ?_ GE169.out) | exact HB.out)⟩

/-! ### pack_Room_Fits: function 32 -/
def pack_Room_Fits.f (a0_0 : Int) (a0_1 : Int) (a0_2 : Int) (a0_3 : Int) (a0_4 : Int) (a1 : Int) : Option (Bool) := if a1 ≥ 1 then ((pack_Room_Left.f a0_0 a0_1 a0_2 a0_3 a0_4).bind fun t173 => (some (decide (a1 ≤ t173)))) else (some false)
set_option maxHeartbeats 8000000 in
set_option maxRecDepth 100000 in
theorem pack_Room_Fits.calls (a0_0 : Int) (a0_1 : Int) (a0_2 : Int) (a0_3 : Int) (a0_4 : Int) (a1 : Int) (r : Bool) (w : World) (h : pack_Room_Fits.f a0_0 a0_1 a0_2 a0_3 a0_4 a1 = some r) :
  Calls Try.prog 32 #[.agg #[.int .u8 a0_0, .int .u32 a0_1, .int .u32 a0_2, .int .i64 a0_3, .int .i64 a0_4], .int .i64 a1] w fun e w' => e = .returned (.bool r) ∧ Below w.heap.size w w' := by
 have hu52 := Try.underlying52
 have HB := Aside0.mk (Below.refl w.heap.size w)
 have H : (if a1 ≥ 1 then ((pack_Room_Left.f a0_0 a0_1 a0_2 a0_3 a0_4).bind fun t173 => (some (decide (a1 ≤ t173)))) else (some false)) = some r := h
 clear h
 by_cases c3 : a1 ≥ 1
 ·
  rw [if_pos c3] at H
  have c3b0 : decide (1 ≤ a1) = true := decide_eq_true c3
  clear c3
  replace H := Option.bind_eq_some_iff.mp H
  obtain ⟨t173, A40, H⟩ := H
  replace H : (some (decide (a1 ≤ t173))) = some r := H
  have A4 := Aside0.mk A40
  clear A40
  obtain rfl := Option.some.inj H
  go_enter Try.func32, Try.ntmps32
  go_wp2_with (first | ((with_reducible refine gate_dst (N := 2) rfl ?_); refine box_event ?hg (N := 2) ?hd (cs := #[.int .u8 a0_0, .int .u32 a0_1, .int .u32 a0_2, .int .i64 a0_3, .int .i64 a0_4]) (t := 52) ?hr ?_; (case hd => rfl); (case hg => rfl); (case hr => first | (go_simp; done) | (go_simp; rfl)); intro gb172 hg w5 hbox hb; have n0_ := Aside0.mk (below_step (by repeat (with_reducible first | exact HB.out | apply below_alloc | apply pw_below_drewN | apply below_drew1)) hb); have n1_ := Aside0.mk (hbox); have n2_ := Aside0.mk ((by rw [hg]; exact (below_size (by repeat (with_reducible first | exact HB.out | apply below_alloc | apply pw_below_drewN | apply below_drew1))) : w.heap.size ≤ gb172)); have n3_ := Aside0.mk ((by rw [hg]; exact (below_size (by repeat (with_reducible first | exact HB.out | apply below_alloc | apply pw_below_drewN | apply below_drew1))) : w.heap.size ≤ gb172)); clear HB; have HB := n0_; have BK172 := n1_; have GW172 := n2_; have GE172 := n3_; clear n0_ n1_ n2_ n3_; clear hb hbox hg; have hcz6_0 : w5.cell? ⟨gb172, 0, none⟩ = some (.int .u8 a0_0) := (blk_cell BK172.out 0).trans rfl; have hcz6_1 : w5.cell? ⟨gb172, 1, none⟩ = some (.int .u32 a0_1) := (blk_cell BK172.out 1).trans rfl; have hcz6_2 : w5.cell? ⟨gb172, 2, none⟩ = some (.int .u32 a0_2) := (blk_cell BK172.out 2).trans rfl; have hcz6_3 : w5.cell? ⟨gb172, 3, none⟩ = some (.int .i64 a0_3) := (blk_cell BK172.out 3).trans rfl; have hcz6_4 : w5.cell? ⟨gb172, 4, none⟩ = some (.int .i64 a0_4) := (blk_cell BK172.out 4).trans rfl; have hfz6_0 := blk_frozen BK172.out 0; have hfz6_1 := blk_frozen BK172.out 1; have hfz6_2 := blk_frozen BK172.out 2; have hfz6_3 := blk_frozen BK172.out 3; have hfz6_4 := blk_frozen BK172.out 4) | (go_at_call 34; (with_reducible refine (pack_Room_Left.calls a0_0 a0_1 a0_2 a0_3 a0_4 t173 _ A4.out).mono ?_); rintro e w7 ⟨rfl, hb⟩; have n0_ := Aside0.mk (blk_below (g := gb172) (o := .cells #[.int .u8 a0_0, .int .u32 a0_1, .int .u32 a0_2, .int .i64 a0_3, .int .i64 a0_4] 52 (0, 0)) (by (with_reducible repeat (first | refine blk_drewN ?_ _ | refine blk_drew ?_ | refine blk_alloc ?_ _)); exact BK172.out) hb); have n1_ := Aside0.mk (below_step (by repeat (first | (with_reducible first | exact HB.out | apply below_alloc | apply pw_below_drewN | apply below_drew1 | refine below_set ?_ GE172.out) | exact HB.out)) hb); clear BK172; clear HB; have BK172 := n0_; have HB := n1_; clear n0_ n1_; (try clear hb); (try clear hb2); (try clear hk); (try clear hi)))
  go_ret
  exact ⟨by first | rfl | (simp [errW_none, errW_some] <;> rfl) | (simp [*, errW_none, errW_some] <;> rfl), by repeat (first | (with_reducible first | exact HB.out | apply below_alloc | apply pw_below_drewN | apply below_drew1 | refine below_set ?_ GE172.out) | exact HB.out)⟩
 ·
  rw [if_neg c3] at H
  have c3b0 : decide (1 ≤ a1) = false := decide_eq_false c3
  clear c3
  obtain rfl := Option.some.inj H
  go_enter Try.func32, Try.ntmps32
  go_wp2_with (first | ((with_reducible refine gate_dst (N := 2) rfl ?_); refine box_event ?hg (N := 2) ?hd (cs := #[.int .u8 a0_0, .int .u32 a0_1, .int .u32 a0_2, .int .i64 a0_3, .int .i64 a0_4]) (t := 52) ?hr ?_; (case hd => rfl); (case hg => rfl); (case hr => first | (go_simp; done) | (go_simp; rfl)); intro gb172 hg w8 hbox hb; have n0_ := Aside0.mk (below_step (by repeat (with_reducible first | exact HB.out | apply below_alloc | apply pw_below_drewN | apply below_drew1)) hb); have n1_ := Aside0.mk (hbox); have n2_ := Aside0.mk ((by rw [hg]; exact (below_size (by repeat (with_reducible first | exact HB.out | apply below_alloc | apply pw_below_drewN | apply below_drew1))) : w.heap.size ≤ gb172)); have n3_ := Aside0.mk ((by rw [hg]; exact (below_size (by repeat (with_reducible first | exact HB.out | apply below_alloc | apply pw_below_drewN | apply below_drew1))) : w.heap.size ≤ gb172)); clear HB; have HB := n0_; have BK172 := n1_; have GW172 := n2_; have GE172 := n3_; clear n0_ n1_ n2_ n3_; clear hb hbox hg))
  go_ret
  exact ⟨by first | rfl | (simp [errW_none, errW_some] <;> rfl) | (simp [*, errW_none, errW_some] <;> rfl), by repeat (first | (with_reducible first | exact HB.out | apply below_alloc | apply pw_below_drewN | apply below_drew1 | refine below_set ?_ GE172.out) | exact HB.out)⟩

/-! ### pack_Room_Take: function 35 -/
def pack_Room_Take.f (a0_0 : Int) (a0_1 : Int) (a0_2 : Int) (a0_3 : Int) (a0_4 : Int) (a1 : Int) : Option (Int × Int × Int × Int × Int × Int) := (pack_Room_Fits.f a0_0 a0_1 a0_2 a0_3 a0_4 a1).bind fun t176 => (if t176 = true then (some (a0_0, a0_1, a0_2, wrap64 (a0_3 + a1), wrap64 (a0_4 + 1), 0)) else (some (0, 0, 0, 0, 0, 7)))
set_option maxHeartbeats 8000000 in
set_option maxRecDepth 100000 in
theorem pack_Room_Take.calls (a0_0 : Int) (a0_1 : Int) (a0_2 : Int) (a0_3 : Int) (a0_4 : Int) (a1 : Int) (r1 : Int) (r2 : Int) (r3 : Int) (r4 : Int) (r5 : Int) (r6 : Int) (w : World) (h : pack_Room_Take.f a0_0 a0_1 a0_2 a0_3 a0_4 a1 = some (r1, r2, r3, r4, r5, r6)) :
  Calls Try.prog 35 #[.agg #[.int .u8 a0_0, .int .u32 a0_1, .int .u32 a0_2, .int .i64 a0_3, .int .i64 a0_4], .int .i64 a1] w fun e w' => e = .returned (.tuple #[.agg #[.int .u8 r1, .int .u32 r2, .int .u32 r3, .int .i64 r4, .int .i64 r5], .int .i64 r6]) ∧ Below w.heap.size w w' := by
 have hu52 := Try.underlying52
 have HB := Aside0.mk (Below.refl w.heap.size w)
 have H : ((pack_Room_Fits.f a0_0 a0_1 a0_2 a0_3 a0_4 a1).bind fun t176 => (if t176 = true then (some (a0_0, a0_1, a0_2, wrap64 (a0_3 + a1), wrap64 (a0_4 + 1), 0)) else (some (0, 0, 0, 0, 0, 7)))) = some (r1, r2, r3, r4, r5, r6) := h
 clear h
 replace H := Option.bind_eq_some_iff.mp H
 obtain ⟨t176, A30, H⟩ := H
 replace H : (if t176 = true then (some (a0_0, a0_1, a0_2, wrap64 (a0_3 + a1), wrap64 (a0_4 + 1), 0)) else (some (0, 0, 0, 0, 0, 7))) = some (r1, r2, r3, r4, r5, r6) := H
 have A3 := Aside0.mk A30
 clear A30
 by_cases c4 : t176 = true
 ·
  subst c4
  have H1 : (some (a0_0, a0_1, a0_2, wrap64 (a0_3 + a1), wrap64 (a0_4 + 1), 0)) = some (r1, r2, r3, r4, r5, r6) := by rw [if_pos rfl] at H; exact H
  clear H
  have H := H1
  clear H1
  simp only [Option.some.injEq, Prod.mk.injEq] at H
  obtain ⟨rfl, rfl, rfl, rfl, rfl, rfl⟩ := H
  go_enter Try.func35, Try.ntmps35
  go_wp2_with (first | ((with_reducible refine gate_dst (N := 2) rfl ?_); refine box_event ?hg (N := 2) ?hd (cs := #[.int .u8 a0_0, .int .u32 a0_1, .int .u32 a0_2, .int .i64 a0_3, .int .i64 a0_4]) (t := 52) ?hr ?_; (case hd => rfl); (case hg => rfl); (case hr => first | (go_simp; done) | (go_simp; rfl)); intro gb174 hg w5 hbox hb; have n0_ := Aside0.mk (below_step (by repeat (with_reducible first | exact HB.out | apply below_alloc | apply pw_below_drewN | apply below_drew1)) hb); have n1_ := Aside0.mk (hbox); have n2_ := Aside0.mk ((by rw [hg]; exact (below_size (by repeat (with_reducible first | exact HB.out | apply below_alloc | apply pw_below_drewN | apply below_drew1))) : w.heap.size ≤ gb174)); have n3_ := Aside0.mk ((by rw [hg]; exact (below_size (by repeat (with_reducible first | exact HB.out | apply below_alloc | apply pw_below_drewN | apply below_drew1))) : w.heap.size ≤ gb174)); clear HB; have HB := n0_; have BK174 := n1_; have GW174 := n2_; have GE174 := n3_; clear n0_ n1_ n2_ n3_; clear hb hbox hg) | ((with_reducible refine gate_dst (N := 4) rfl ?_); refine box_event ?hg (N := 4) ?hd (cs := #[.int .u8 0, .int .u32 0, .int .u32 0, .int .i64 0, .int .i64 0]) (t := 52) ?hr ?_; (case hd => rfl); (case hg => rfl); (case hr => first | (go_simp; done) | (go_simp; rfl)); intro gb175 hg w6 hbox hb; have n0_ := Aside0.mk (blk_below (g := gb174) (o := .cells #[.int .u8 a0_0, .int .u32 a0_1, .int .u32 a0_2, .int .i64 a0_3, .int .i64 a0_4] 52 (0, 0)) (by (with_reducible repeat (first | refine blk_drewN ?_ _ | refine blk_drew ?_ | refine blk_alloc ?_ _)); exact BK174.out) hb); have n1_ := Aside0.mk (below_step (by repeat (first | (with_reducible first | exact HB.out | apply below_alloc | apply pw_below_drewN | apply below_drew1 | refine below_set ?_ GE174.out) | exact HB.out)) hb); have n2_ := Aside0.mk (hbox); have n3_ := Aside0.mk ((by rw [hg]; exact (below_size (by repeat (first | (with_reducible first | exact HB.out | apply below_alloc | apply pw_below_drewN | apply below_drew1 | refine below_set ?_ GE174.out) | exact HB.out))) : w.heap.size ≤ gb175)); have n4_ := Aside0.mk ((by rw [hg]; exact (below_size (by repeat (first | (with_reducible first | exact HB.out | apply below_alloc | apply pw_below_drewN | apply below_drew1 | refine below_set ?_ GE174.out) | exact HB.out))) : w.heap.size ≤ gb175)); have n5_ := Aside0.mk ((by rw [hg]; exact Nat.ne_of_lt (blk_lt (g := gb174) (o := .cells #[.int .u8 a0_0, .int .u32 a0_1, .int .u32 a0_2, .int .i64 a0_3, .int .i64 a0_4] 52 (0, 0)) (by (with_reducible repeat (first | refine blk_drewN ?_ _ | refine blk_drew ?_ | refine blk_alloc ?_ _)); exact BK174.out)) : gb174 ≠ gb175)); have n6_ := Aside0.mk ((by rw [hg]; exact Nat.ne_of_gt (blk_lt (g := gb174) (o := .cells #[.int .u8 a0_0, .int .u32 a0_1, .int .u32 a0_2, .int .i64 a0_3, .int .i64 a0_4] 52 (0, 0)) (by (with_reducible repeat (first | refine blk_drewN ?_ _ | refine blk_drew ?_ | refine blk_alloc ?_ _)); exact BK174.out)) : gb175 ≠ gb174)); clear BK174; clear HB; have BK174 := n0_; have HB := n1_; have BK175 := n2_; have GW175 := n3_; have GE175 := n4_; have NB174_175 := n5_; have NB175_174 := n6_; clear n0_ n1_ n2_ n3_ n4_ n5_ n6_; clear hb hbox hg; have hnb7 := NB174_175.out; have hnc7 := NB175_174.out; have hcz8_0 : w6.cell? ⟨gb174, 0, none⟩ = some (.int .u8 a0_0) := (blk_cell BK174.out 0).trans rfl; have hcz8_1 : w6.cell? ⟨gb174, 1, none⟩ = some (.int .u32 a0_1) := (blk_cell BK174.out 1).trans rfl; have hcz8_2 : w6.cell? ⟨gb174, 2, none⟩ = some (.int .u32 a0_2) := (blk_cell BK174.out 2).trans rfl; have hcz8_3 : w6.cell? ⟨gb174, 3, none⟩ = some (.int .i64 a0_3) := (blk_cell BK174.out 3).trans rfl; have hcz8_4 : w6.cell? ⟨gb174, 4, none⟩ = some (.int .i64 a0_4) := (blk_cell BK174.out 4).trans rfl; have hfz8_0 := blk_frozen BK174.out 0; have hfz8_1 := blk_frozen BK174.out 1; have hfz8_2 := blk_frozen BK174.out 2; have hfz8_3 := blk_frozen BK174.out 3; have hfz8_4 := blk_frozen BK174.out 4) | ((with_reducible refine gate_callee (f := 32) rfl ?_); refine goesL_ (some 8) rfl rfl Try.func32 (by kernel_rfl) rfl #[.agg #[.int .u8 a0_0, .int .u32 a0_1, .int .u32 a0_2, .int .i64 a0_3, .int .i64 a0_4], .int .i64 a1] rfl (by (try simp only [List.map_toArray, List.map_cons, List.map_nil]); first | done | rfl) ?_; (with_reducible refine (pack_Room_Fits.calls a0_0 a0_1 a0_2 a0_3 a0_4 a1 true _ A3.out).mono ?_); rintro e w9 ⟨rfl, hb⟩; refine ⟨_, rfl, ?_⟩; have n0_ := Aside0.mk (blk_below (g := gb174) (o := .cells #[.int .u8 a0_0, .int .u32 a0_1, .int .u32 a0_2, .int .i64 a0_3, .int .i64 a0_4] 52 (0, 0)) (by (with_reducible repeat (first | refine blk_drewN ?_ _ | refine blk_drew ?_ | refine blk_alloc ?_ _)); exact BK174.out) hb); have n1_ := Aside0.mk (blk_below (g := gb175) (o := .cells #[.int .u8 0, .int .u32 0, .int .u32 0, .int .i64 0, .int .i64 0] 52 (0, 0)) (by (with_reducible repeat (first | refine blk_drewN ?_ _ | refine blk_drew ?_ | refine blk_alloc ?_ _)); exact BK175.out) hb); have n2_ := Aside0.mk (below_step (by repeat (first | (with_reducible first | exact HB.out | apply below_alloc | apply pw_below_drewN | apply below_drew1 | refine below_set ?_ GE174.out | refine below_set ?_ GE175.out) | exact HB.out)) hb); clear BK174; clear BK175; clear HB; have BK174 := n0_; have BK175 := n1_; have HB := n2_; clear n0_ n1_ n2_; (try clear hb); (try clear hb2); (try clear hk); (try clear hi); have hcz10_0 : w9.cell? ⟨gb174, 0, none⟩ = some (.int .u8 a0_0) := (blk_cell BK174.out 0).trans rfl; have hcz10_1 : w9.cell? ⟨gb174, 1, none⟩ = some (.int .u32 a0_1) := (blk_cell BK174.out 1).trans rfl; have hcz10_2 : w9.cell? ⟨gb174, 2, none⟩ = some (.int .u32 a0_2) := (blk_cell BK174.out 2).trans rfl; have hcz10_3 : w9.cell? ⟨gb174, 3, none⟩ = some (.int .i64 a0_3) := (blk_cell BK174.out 3).trans rfl; have hcz10_4 : w9.cell? ⟨gb174, 4, none⟩ = some (.int .i64 a0_4) := (blk_cell BK174.out 4).trans rfl; have hfz10_0 := blk_frozen BK174.out 0; have hfz10_1 := blk_frozen BK174.out 1; have hfz10_2 := blk_frozen BK174.out 2; have hfz10_3 := blk_frozen BK174.out 3; have hfz10_4 := blk_frozen BK174.out 4; have hcz11_0 : w9.cell? ⟨gb175, 0, none⟩ = some (.int .u8 0) := (blk_cell BK175.out 0).trans rfl; have hcz11_1 : w9.cell? ⟨gb175, 1, none⟩ = some (.int .u32 0) := (blk_cell BK175.out 1).trans rfl; have hcz11_2 : w9.cell? ⟨gb175, 2, none⟩ = some (.int .u32 0) := (blk_cell BK175.out 2).trans rfl; have hcz11_3 : w9.cell? ⟨gb175, 3, none⟩ = some (.int .i64 0) := (blk_cell BK175.out 3).trans rfl; have hcz11_4 : w9.cell? ⟨gb175, 4, none⟩ = some (.int .i64 0) := (blk_cell BK175.out 4).trans rfl; have hfz11_0 := blk_frozen BK175.out 0; have hfz11_1 := blk_frozen BK175.out 1; have hfz11_2 := blk_frozen BK175.out 2; have hfz11_3 := blk_frozen BK175.out 3; have hfz11_4 := blk_frozen BK175.out 4))
  refine bodyPost_ret (results_ct rfl _ _ gb175 52 #[.int .u8 a0_0, .int .u32 a0_1, .int .u32 a0_2, .int .i64 (wrap64 (a0_3 + a1)), .int .i64 (wrap64 (a0_4 + 1))] (0, 0) _ rfl (by (with_reducible repeat (first | refine blk_drewN ?_ _ | refine blk_drew ?_ | refine blk_alloc ?_ _)); refine blk_put (cs := #[.int .u8 a0_0, .int .u32 a0_1, .int .u32 a0_2, .int .i64 (wrap64 (a0_3 + a1)), .int .i64 0]) ?_ 4 _ rfl; (with_reducible repeat (first | refine blk_drewN ?_ _ | refine blk_drew ?_ | refine blk_alloc ?_ _)); refine blk_put (cs := #[.int .u8 a0_0, .int .u32 a0_1, .int .u32 a0_2, .int .i64 0, .int .i64 0]) ?_ 3 _ rfl; (with_reducible repeat (first | refine blk_drewN ?_ _ | refine blk_drew ?_ | refine blk_alloc ?_ _)); refine blk_put (cs := #[.int .u8 a0_0, .int .u32 a0_1, .int .u32 0, .int .i64 0, .int .i64 0]) ?_ 2 _ rfl; (with_reducible repeat (first | refine blk_drewN ?_ _ | refine blk_drew ?_ | refine blk_alloc ?_ _)); refine blk_put (cs := #[.int .u8 a0_0, .int .u32 0, .int .u32 0, .int .i64 0, .int .i64 0]) ?_ 1 _ rfl; (with_reducible repeat (first | refine blk_drewN ?_ _ | refine blk_drew ?_ | refine blk_alloc ?_ _)); refine blk_put (cs := #[.int .u8 0, .int .u32 0, .int .u32 0, .int .i64 0, .int .i64 0]) ?_ 0 _ rfl; (with_reducible repeat (first | refine blk_drewN ?_ _ | refine blk_drew ?_ | refine blk_alloc ?_ _)); refine blk_far ?_ NB175_174.out _; (with_reducible repeat (first | refine blk_drewN ?_ _ | refine blk_drew ?_ | refine blk_alloc ?_ _)); refine blk_far ?_ NB175_174.out _; (with_reducible repeat (first | refine blk_drewN ?_ _ | refine blk_drew ?_ | refine blk_alloc ?_ _)); exact BK175.out) Try.underlying52 rfl (by kernel_rfl)) rfl ?_
  exact ⟨by first | rfl | (simp [errW_none, errW_some] <;> rfl) | (simp [*, errW_none, errW_some] <;> rfl), by repeat (first | (with_reducible first | exact HB.out | apply below_alloc | apply pw_below_drewN | apply below_drew1 | refine below_set ?_ GE174.out | refine below_set ?_ GE175.out) | exact HB.out)⟩
 ·
  replace c4 := Bool.eq_false_iff.mpr c4
  subst c4
  have H1 : (some (0, 0, 0, 0, 0, 7)) = some (r1, r2, r3, r4, r5, r6) := by rw [if_neg (show ¬ (false = true) by decide)] at H; exact H
  clear H
  have H := H1
  clear H1
  simp only [Option.some.injEq, Prod.mk.injEq] at H
  obtain ⟨rfl, rfl, rfl, rfl, rfl, rfl⟩ := H
  go_enter Try.func35, Try.ntmps35
  go_wp2_with (first | ((with_reducible refine gate_dst (N := 2) rfl ?_); refine box_event ?hg (N := 2) ?hd (cs := #[.int .u8 a0_0, .int .u32 a0_1, .int .u32 a0_2, .int .i64 a0_3, .int .i64 a0_4]) (t := 52) ?hr ?_; (case hd => rfl); (case hg => rfl); (case hr => first | (go_simp; done) | (go_simp; rfl)); intro gb174 hg w12 hbox hb; have n0_ := Aside0.mk (below_step (by repeat (with_reducible first | exact HB.out | apply below_alloc | apply pw_below_drewN | apply below_drew1)) hb); have n1_ := Aside0.mk (hbox); have n2_ := Aside0.mk ((by rw [hg]; exact (below_size (by repeat (with_reducible first | exact HB.out | apply below_alloc | apply pw_below_drewN | apply below_drew1))) : w.heap.size ≤ gb174)); have n3_ := Aside0.mk ((by rw [hg]; exact (below_size (by repeat (with_reducible first | exact HB.out | apply below_alloc | apply pw_below_drewN | apply below_drew1))) : w.heap.size ≤ gb174)); clear HB; have HB := n0_; have BK174 := n1_; have GW174 := n2_; have GE174 := n3_; clear n0_ n1_ n2_ n3_; clear hb hbox hg) | ((with_reducible refine gate_dst (N := 4) rfl ?_); refine box_event ?hg (N := 4) ?hd (cs := #[.int .u8 0, .int .u32 0, .int .u32 0, .int .i64 0, .int .i64 0]) (t := 52) ?hr ?_; (case hd => rfl); (case hg => rfl); (case hr => first | (go_simp; done) | (go_simp; rfl)); intro gb175 hg w13 hbox hb; have n0_ := Aside0.mk (blk_below (g := gb174) (o := .cells #[.int .u8 a0_0, .int .u32 a0_1, .int .u32 a0_2, .int .i64 a0_3, .int .i64 a0_4] 52 (0, 0)) (by (with_reducible repeat (first | refine blk_drewN ?_ _ | refine blk_drew ?_ | refine blk_alloc ?_ _)); exact BK174.out) hb); have n1_ := Aside0.mk (below_step (by repeat (first | (with_reducible first | exact HB.out | apply below_alloc | apply pw_below_drewN | apply below_drew1 | refine below_set ?_ GE174.out) | exact HB.out)) hb); have n2_ := Aside0.mk (hbox); have n3_ := Aside0.mk ((by rw [hg]; exact (below_size (by repeat (first | (with_reducible first | exact HB.out | apply below_alloc | apply pw_below_drewN | apply below_drew1 | refine below_set ?_ GE174.out) | exact HB.out))) : w.heap.size ≤ gb175)); have n4_ := Aside0.mk ((by rw [hg]; exact (below_size (by repeat (first | (with_reducible first | exact HB.out | apply below_alloc | apply pw_below_drewN | apply below_drew1 | refine below_set ?_ GE174.out) | exact HB.out))) : w.heap.size ≤ gb175)); have n5_ := Aside0.mk ((by rw [hg]; exact Nat.ne_of_lt (blk_lt (g := gb174) (o := .cells #[.int .u8 a0_0, .int .u32 a0_1, .int .u32 a0_2, .int .i64 a0_3, .int .i64 a0_4] 52 (0, 0)) (by (with_reducible repeat (first | refine blk_drewN ?_ _ | refine blk_drew ?_ | refine blk_alloc ?_ _)); exact BK174.out)) : gb174 ≠ gb175)); have n6_ := Aside0.mk ((by rw [hg]; exact Nat.ne_of_gt (blk_lt (g := gb174) (o := .cells #[.int .u8 a0_0, .int .u32 a0_1, .int .u32 a0_2, .int .i64 a0_3, .int .i64 a0_4] 52 (0, 0)) (by (with_reducible repeat (first | refine blk_drewN ?_ _ | refine blk_drew ?_ | refine blk_alloc ?_ _)); exact BK174.out)) : gb175 ≠ gb174)); clear BK174; clear HB; have BK174 := n0_; have HB := n1_; have BK175 := n2_; have GW175 := n3_; have GE175 := n4_; have NB174_175 := n5_; have NB175_174 := n6_; clear n0_ n1_ n2_ n3_ n4_ n5_ n6_; clear hb hbox hg; have hnb14 := NB174_175.out; have hnc14 := NB175_174.out; have hcz15_0 : w13.cell? ⟨gb174, 0, none⟩ = some (.int .u8 a0_0) := (blk_cell BK174.out 0).trans rfl; have hcz15_1 : w13.cell? ⟨gb174, 1, none⟩ = some (.int .u32 a0_1) := (blk_cell BK174.out 1).trans rfl; have hcz15_2 : w13.cell? ⟨gb174, 2, none⟩ = some (.int .u32 a0_2) := (blk_cell BK174.out 2).trans rfl; have hcz15_3 : w13.cell? ⟨gb174, 3, none⟩ = some (.int .i64 a0_3) := (blk_cell BK174.out 3).trans rfl; have hcz15_4 : w13.cell? ⟨gb174, 4, none⟩ = some (.int .i64 a0_4) := (blk_cell BK174.out 4).trans rfl; have hfz15_0 := blk_frozen BK174.out 0; have hfz15_1 := blk_frozen BK174.out 1; have hfz15_2 := blk_frozen BK174.out 2; have hfz15_3 := blk_frozen BK174.out 3; have hfz15_4 := blk_frozen BK174.out 4) | ((with_reducible refine gate_callee (f := 32) rfl ?_); refine goesL_ (some 8) rfl rfl Try.func32 (by kernel_rfl) rfl #[.agg #[.int .u8 a0_0, .int .u32 a0_1, .int .u32 a0_2, .int .i64 a0_3, .int .i64 a0_4], .int .i64 a1] rfl (by (try simp only [List.map_toArray, List.map_cons, List.map_nil]); first | done | rfl) ?_; (with_reducible refine (pack_Room_Fits.calls a0_0 a0_1 a0_2 a0_3 a0_4 a1 false _ A3.out).mono ?_); rintro e w16 ⟨rfl, hb⟩; refine ⟨_, rfl, ?_⟩; have n0_ := Aside0.mk (blk_below (g := gb174) (o := .cells #[.int .u8 a0_0, .int .u32 a0_1, .int .u32 a0_2, .int .i64 a0_3, .int .i64 a0_4] 52 (0, 0)) (by (with_reducible repeat (first | refine blk_drewN ?_ _ | refine blk_drew ?_ | refine blk_alloc ?_ _)); exact BK174.out) hb); have n1_ := Aside0.mk (blk_below (g := gb175) (o := .cells #[.int .u8 0, .int .u32 0, .int .u32 0, .int .i64 0, .int .i64 0] 52 (0, 0)) (by (with_reducible repeat (first | refine blk_drewN ?_ _ | refine blk_drew ?_ | refine blk_alloc ?_ _)); exact BK175.out) hb); have n2_ := Aside0.mk (below_step (by repeat (first | (with_reducible first | exact HB.out | apply below_alloc | apply pw_below_drewN | apply below_drew1 | refine below_set ?_ GE174.out | refine below_set ?_ GE175.out) | exact HB.out)) hb); clear BK174; clear BK175; clear HB; have BK174 := n0_; have BK175 := n1_; have HB := n2_; clear n0_ n1_ n2_; (try clear hb); (try clear hb2); (try clear hk); (try clear hi); have hcz17_0 : w16.cell? ⟨gb175, 0, none⟩ = some (.int .u8 0) := (blk_cell BK175.out 0).trans rfl; have hcz17_1 : w16.cell? ⟨gb175, 1, none⟩ = some (.int .u32 0) := (blk_cell BK175.out 1).trans rfl; have hcz17_2 : w16.cell? ⟨gb175, 2, none⟩ = some (.int .u32 0) := (blk_cell BK175.out 2).trans rfl; have hcz17_3 : w16.cell? ⟨gb175, 3, none⟩ = some (.int .i64 0) := (blk_cell BK175.out 3).trans rfl; have hcz17_4 : w16.cell? ⟨gb175, 4, none⟩ = some (.int .i64 0) := (blk_cell BK175.out 4).trans rfl; have hfz17_0 := blk_frozen BK175.out 0; have hfz17_1 := blk_frozen BK175.out 1; have hfz17_2 := blk_frozen BK175.out 2; have hfz17_3 := blk_frozen BK175.out 3; have hfz17_4 := blk_frozen BK175.out 4))
  refine bodyPost_ret (results_ct rfl _ _ gb175 52 #[.int .u8 0, .int .u32 0, .int .u32 0, .int .i64 0, .int .i64 0] (0, 0) _ rfl (by (with_reducible repeat (first | refine blk_drewN ?_ _ | refine blk_drew ?_ | refine blk_alloc ?_ _)); refine blk_put (cs := #[.int .u8 0, .int .u32 0, .int .u32 0, .int .i64 0, .int .i64 0]) ?_ 4 _ rfl; (with_reducible repeat (first | refine blk_drewN ?_ _ | refine blk_drew ?_ | refine blk_alloc ?_ _)); refine blk_put (cs := #[.int .u8 0, .int .u32 0, .int .u32 0, .int .i64 0, .int .i64 0]) ?_ 3 _ rfl; (with_reducible repeat (first | refine blk_drewN ?_ _ | refine blk_drew ?_ | refine blk_alloc ?_ _)); refine blk_put (cs := #[.int .u8 0, .int .u32 0, .int .u32 0, .int .i64 0, .int .i64 0]) ?_ 2 _ rfl; (with_reducible repeat (first | refine blk_drewN ?_ _ | refine blk_drew ?_ | refine blk_alloc ?_ _)); refine blk_put (cs := #[.int .u8 0, .int .u32 0, .int .u32 0, .int .i64 0, .int .i64 0]) ?_ 1 _ rfl; (with_reducible repeat (first | refine blk_drewN ?_ _ | refine blk_drew ?_ | refine blk_alloc ?_ _)); refine blk_put (cs := #[.int .u8 0, .int .u32 0, .int .u32 0, .int .i64 0, .int .i64 0]) ?_ 0 _ rfl; (with_reducible repeat (first | refine blk_drewN ?_ _ | refine blk_drew ?_ | refine blk_alloc ?_ _)); exact BK175.out) Try.underlying52 rfl (by kernel_rfl)) rfl ?_
  exact ⟨by first | rfl | (simp [errW_none, errW_some] <;> rfl) | (simp [*, errW_none, errW_some] <;> rfl), by repeat (first | (with_reducible first | exact HB.out | apply below_alloc | apply pw_below_drewN | apply below_drew1 | refine below_set ?_ GE174.out | refine below_set ?_ GE175.out) | exact HB.out)⟩

/-! ### pack_Plan: function 37 -/
def pack_Plan.l0 : Nat → List Int → List Int → Int → Int → Int → Int → Int → Int → Int → Int → Int → Int → Int → Int → Int → Int → Option (List Int × Int)
 | 0, _, _, _, _, _, _, _, _, _, _, _, _, _, _, _, _ => none
 | k + 1, x10, x29, x30, x31, x178000, x178001, x185000, x185001, x185002, x185003, x185004, x192000, x192001, x192002, x192003, x192004 => if x31 < x30 then (if 0 ≤ x31 then (if x31 < (x29.length : Int) then ((pack_Room_Fits.f x192000 x192001 x192002 x192003 x192004 (rd x29 x31)).bind fun t193 => (if t193 = true then ((pack_Room_Fits.f x185000 x185001 x185002 x185003 x185004 (rd x29 x31)).bind fun t194 => (if t194 = true then ((pack_Room_Take.f x185000 x185001 x185002 x185003 x185004 (rd x29 x31)).bind fun bt195 => (if x10.length < 35184372088832 then (pack_Plan.l0 k (x10 ++ [bt195.2.2.1]) x29 x30 (wrap64 (x31 + 1)) x178000 x178001 bt195.1 bt195.2.1 bt195.2.2.1 bt195.2.2.2.1 bt195.2.2.2.2.1 x192000 x192001 x192002 x192003 x192004) else (none))) else ((pack_Empty.f x178000 x178001 ((x185002 + 1) % 4294967296)).bind fun bt204 => (if bt204.2.2.2.2.2 = 0 then ((pack_Room_Take.f bt204.1 bt204.2.1 bt204.2.2.1 bt204.2.2.2.1 bt204.2.2.2.2.1 (rd x29 x31)).bind fun bt210 => (if x10.length < 35184372088832 then (pack_Plan.l0 k (x10 ++ [bt210.2.2.1]) x29 x30 (wrap64 (x31 + 1)) x178000 x178001 bt210.1 bt210.2.1 bt210.2.2.1 bt210.2.2.2.1 bt210.2.2.2.2.1 x192000 x192001 x192002 x192003 x192004) else (none))) else (some (([] : List Int), 7)))))) else (some (([] : List Int), 6)))) else (none)) else (none)) else (some (x10, 0))
def pack_Plan.f (k : Nat) (a0_0 : Int) (a0_1 : Int) (l1 : List Int) : Option (List Int × Int) := (pack_Empty.f a0_0 a0_1 0).bind fun bt178 => (if bt178.2.2.2.2.2 = 0 then ((pack_Empty.f a0_0 a0_1 ((a0_1 - 1) % 4294967296)).bind fun bt185 => (pack_Plan.l0 k ([] : List Int) l1 (l1.length : Int) 0 a0_0 a0_1 bt178.1 bt178.2.1 bt178.2.2.1 bt178.2.2.2.1 bt178.2.2.2.2.1 bt185.1 bt185.2.1 bt185.2.2.1 bt185.2.2.2.1 bt185.2.2.2.2.1)) else (some (([] : List Int), bt178.2.2.2.2.2)))
theorem pack_Plan.mono_l : ∀ k, (∀ y0 y1 y2 y3 y4 y5 y6 y7 y8 y9 y10 y11 y12 y13 y14 y15, LeO (pack_Plan.l0 k y0 y1 y2 y3 y4 y5 y6 y7 y8 y9 y10 y11 y12 y13 y14 y15) (pack_Plan.l0 (k + 1) y0 y1 y2 y3 y4 y5 y6 y7 y8 y9 y10 y11 y12 y13 y14 y15))
 | 0 => fun _ _ _ _ _ _ _ _ _ _ _ _ _ _ _ _ r h => by simp [pack_Plan.l0] at h
 | k + 1 => by
  have ih0 := pack_Plan.mono_l k
  ·
   intro y0 y1 y2 y3 y4 y5 y6 y7 y8 y9 y10 y11 y12 y13 y14 y15
   unfold pack_Plan.l0
   repeat' first
   | (with_reducible exact ih0 _ _ _ _ _ _ _ _ _ _ _ _ _ _ _ _)
   | (with_reducible exact LeO.refl _)
   | (with_reducible exact LeO.none _)
   | (with_reducible refine LeO.ite ?_ ?_)
   | (with_reducible refine LeO.bind ?_ (fun _ => ?_))
   | exact ih0 _ _ _ _ _ _ _ _ _ _ _ _ _ _ _ _
   | exact LeO.none _
   | refine LeO.ite ?_ ?_
   | refine LeO.bind ?_ (fun _ => ?_)
theorem pack_Plan.mono : ∀ a0 a1 a2 k, LeO (pack_Plan.f k a0 a1 a2) (pack_Plan.f (k + 1) a0 a1 a2) := by
 intro a0 a1 a2 k
 have ih0 := pack_Plan.mono_l k
 unfold pack_Plan.f
 repeat' first
   | (with_reducible exact ih0 _ _ _ _ _ _ _ _ _ _ _ _ _ _ _ _)
   | (with_reducible exact LeO.refl _)
   | (with_reducible exact LeO.none _)
   | (with_reducible refine LeO.ite ?_ ?_)
   | (with_reducible refine LeO.bind ?_ (fun _ => ?_))
   | exact ih0 _ _ _ _ _ _ _ _ _ _ _ _ _ _ _ _
   | exact LeO.none _
   | refine LeO.ite ?_ ?_
   | refine LeO.bind ?_ (fun _ => ?_)
set_option maxHeartbeats 8000000 in
set_option maxRecDepth 100000 in
theorem pack_Plan.calls (k : Nat) (a0_0 : Int) (a0_1 : Int) (A1 : Option Addr) (c1 : Nat) (l1 : List Int) (r1 : List Int) (r2 : Int) (w : World) (hr1 : Kd.C (Kd.int .i64) w A1 l1.length l1) (hc1 : l1.length ≤ c1) (h : pack_Plan.f k a0_0 a0_1 l1 = some (r1, r2)) :
  Calls Try.prog 37 #[.agg #[.int .u8 a0_0, .int .u32 a0_1], .slice A1 l1.length c1] w fun e w' => ∃ v0_ : Value, e = .returned (.tuple #[v0_, .int .i64 r2]) ∧ Kd.R (Kd.int .u32) 47 w' w.heap.size (fun _ => True) v0_ r1 ∧ Below w.heap.size w w' := by
 have hu49 := Try.underlying49
 have hu52 := Try.underlying52
 have HR1 := Aside0.mk hr1
 have HC1 := Aside0.mk hc1
 clear hr1 hc1
 have HB := Aside0.mk (Below.refl w.heap.size w)
 have H : ((pack_Empty.f a0_0 a0_1 0).bind fun bt178 => (if bt178.2.2.2.2.2 = 0 then ((pack_Empty.f a0_0 a0_1 ((a0_1 - 1) % 4294967296)).bind fun bt185 => (pack_Plan.l0 k ([] : List Int) l1 (l1.length : Int) 0 a0_0 a0_1 bt178.1 bt178.2.1 bt178.2.2.1 bt178.2.2.2.1 bt178.2.2.2.2.1 bt185.1 bt185.2.1 bt185.2.2.1 bt185.2.2.2.1 bt185.2.2.2.2.1)) else (some (([] : List Int), bt178.2.2.2.2.2)))) = some (r1, r2) := h
 clear h
 replace H := Option.bind_eq_some_iff.mp H
 obtain ⟨⟨t178, t179, t180, t181, t182, t183⟩, A30, H⟩ := H
 replace H : (if t183 = 0 then ((pack_Empty.f a0_0 a0_1 ((a0_1 - 1) % 4294967296)).bind fun bt185 => (pack_Plan.l0 k ([] : List Int) l1 (l1.length : Int) 0 a0_0 a0_1 t178 t179 t180 t181 t182 bt185.1 bt185.2.1 bt185.2.2.1 bt185.2.2.2.1 bt185.2.2.2.2.1)) else (some (([] : List Int), t183))) = some (r1, r2) := H
 have A3 := Aside0.mk A30
 clear A30
 by_cases c4 : t183 = 0
 ·
  rw [if_pos c4] at H
  have c4b0 : (t183 == 0) = true := beq_iff_eq.mpr c4
  have c4b1 : (t183 != 0) = false := bne_eq_false_iff_eq.mpr c4
  clear c4
  replace H := Option.bind_eq_some_iff.mp H
  obtain ⟨⟨t185, t186, t187, t188, t189, t190⟩, A50, H⟩ := H
  replace H : (pack_Plan.l0 k ([] : List Int) l1 (l1.length : Int) 0 a0_0 a0_1 t178 t179 t180 t181 t182 t185 t186 t187 t188 t189) = some (r1, r2) := H
  have A5 := Aside0.mk A50
  clear A50
  have H' := Aside0.mk H
  clear H
  go_enter Try.func37, Try.ntmps37
  go_wp2_with (first | ((with_reducible refine gate_dst (N := 2) rfl ?_); refine box_event ?hg (N := 2) ?hd (cs := #[.int .u8 a0_0, .int .u32 a0_1]) (t := 49) ?hr ?_; (case hd => rfl); (case hg => rfl); (case hr => first | (go_simp; done) | (go_simp; rfl)); intro gb177 hg w6 hbox hb; have n0_ := Aside0.mk (below_step (by repeat (with_reducible first | exact HB.out | apply below_alloc | apply pw_below_drewN | apply below_drew1)) hb); have n1_ := Aside0.mk (hbox); have n2_ := Aside0.mk ((by rw [hg]; exact (below_size (by repeat (with_reducible first | exact HB.out | apply below_alloc | apply pw_below_drewN | apply below_drew1))) : w.heap.size ≤ gb177)); have n3_ := Aside0.mk ((by rw [hg]; exact (below_size (by repeat (with_reducible first | exact HB.out | apply below_alloc | apply pw_below_drewN | apply below_drew1))) : w.heap.size ≤ gb177)); clear HB; have HB := n0_; have BK177 := n1_; have GW177 := n2_; have GE177 := n3_; clear n0_ n1_ n2_ n3_; clear hb hbox hg; have hcz7_0 : w6.cell? ⟨gb177, 0, none⟩ = some (.int .u8 a0_0) := (blk_cell BK177.out 0).trans rfl; have hcz7_1 : w6.cell? ⟨gb177, 1, none⟩ = some (.int .u32 a0_1) := (blk_cell BK177.out 1).trans rfl; have hfz7_0 := blk_frozen BK177.out 0; have hfz7_1 := blk_frozen BK177.out 1) | ((with_reducible refine gate_callee (f := 29) rfl ?_); refine goesL_ (some 15) rfl rfl Try.func29 (by kernel_rfl) rfl #[.agg #[.int .u8 a0_0, .int .u32 a0_1], .int .u32 0] rfl (by (try simp only [List.map_toArray, List.map_cons, List.map_nil]); first | done | rfl) ?_; (with_reducible refine (pack_Empty.calls a0_0 a0_1 0 t178 t179 t180 t181 t182 t183 _ A3.out).mono ?_); rintro e w8 ⟨rfl, hb⟩; refine ⟨_, rfl, ?_⟩; have n0_ := Aside0.mk (blk_below (g := gb177) (o := .cells #[.int .u8 a0_0, .int .u32 a0_1] 49 (0, 0)) (by (with_reducible repeat (first | refine blk_drewN ?_ _ | refine blk_drew ?_ | refine blk_alloc ?_ _)); exact BK177.out) hb); have n1_ := Aside0.mk (below_step (by repeat (first | (with_reducible first | exact HB.out | apply below_alloc | apply pw_below_drewN | apply below_drew1 | refine below_set ?_ GE177.out) | exact HB.out)) hb); clear BK177; clear HB; have BK177 := n0_; have HB := n1_; clear n0_ n1_; (try clear hb); (try clear hb2); (try clear hk); (try clear hi)) | ((with_reducible refine gate_dst (N := 6) rfl ?_); refine box_event ?hg (N := 6) ?hd (cs := #[.int .u8 0, .int .u32 0, .int .u32 0, .int .i64 0, .int .i64 0]) (t := 52) ?hr ?_; (case hd => rfl); (case hg => rfl); (case hr => first | (go_simp; done) | (go_simp; rfl)); intro gb184 hg w9 hbox hb; have n0_ := Aside0.mk (blk_below (g := gb177) (o := .cells #[.int .u8 a0_0, .int .u32 a0_1] 49 (0, 0)) (by (with_reducible repeat (first | refine blk_drewN ?_ _ | refine blk_drew ?_ | refine blk_alloc ?_ _)); exact BK177.out) hb); have n1_ := Aside0.mk (below_step (by repeat (first | (with_reducible first | exact HB.out | apply below_alloc | apply pw_below_drewN | apply below_drew1 | refine below_set ?_ GE177.out) | exact HB.out)) hb); have n2_ := Aside0.mk (hbox); have n3_ := Aside0.mk ((by rw [hg]; exact (below_size (by repeat (first | (with_reducible first | exact HB.out | apply below_alloc | apply pw_below_drewN | apply below_drew1 | refine below_set ?_ GE177.out) | exact HB.out))) : w.heap.size ≤ gb184)); have n4_ := Aside0.mk ((by rw [hg]; exact (below_size (by repeat (first | (with_reducible first | exact HB.out | apply below_alloc | apply pw_below_drewN | apply below_drew1 | refine below_set ?_ GE177.out) | exact HB.out))) : w.heap.size ≤ gb184)); have n5_ := Aside0.mk ((by rw [hg]; exact Nat.ne_of_lt (blk_lt (g := gb177) (o := .cells #[.int .u8 a0_0, .int .u32 a0_1] 49 (0, 0)) (by (with_reducible repeat (first | refine blk_drewN ?_ _ | refine blk_drew ?_ | refine blk_alloc ?_ _)); exact BK177.out)) : gb177 ≠ gb184)); have n6_ := Aside0.mk ((by rw [hg]; exact Nat.ne_of_gt (blk_lt (g := gb177) (o := .cells #[.int .u8 a0_0, .int .u32 a0_1] 49 (0, 0)) (by (with_reducible repeat (first | refine blk_drewN ?_ _ | refine blk_drew ?_ | refine blk_alloc ?_ _)); exact BK177.out)) : gb184 ≠ gb177)); clear BK177; clear HB; have BK177 := n0_; have HB := n1_; have BK184 := n2_; have GW184 := n3_; have GE184 := n4_; have NB177_184 := n5_; have NB184_177 := n6_; clear n0_ n1_ n2_ n3_ n4_ n5_ n6_; clear hb hbox hg; have hnb10 := NB184_177.out; have hnc10 := NB177_184.out; have hcz11_0 : w9.cell? ⟨gb184, 0, none⟩ = some (.int .u8 0) := (blk_cell BK184.out 0).trans rfl; have hcz11_1 : w9.cell? ⟨gb184, 1, none⟩ = some (.int .u32 0) := (blk_cell BK184.out 1).trans rfl; have hcz11_2 : w9.cell? ⟨gb184, 2, none⟩ = some (.int .u32 0) := (blk_cell BK184.out 2).trans rfl; have hcz11_3 : w9.cell? ⟨gb184, 3, none⟩ = some (.int .i64 0) := (blk_cell BK184.out 3).trans rfl; have hcz11_4 : w9.cell? ⟨gb184, 4, none⟩ = some (.int .i64 0) := (blk_cell BK184.out 4).trans rfl; have hfz11_0 := blk_frozen BK184.out 0; have hfz11_1 := blk_frozen BK184.out 1; have hfz11_2 := blk_frozen BK184.out 2; have hfz11_3 := blk_frozen BK184.out 3; have hfz11_4 := blk_frozen BK184.out 4; have hcz12_0 : w9.cell? ⟨gb177, 0, none⟩ = some (.int .u8 a0_0) := (blk_cell BK177.out 0).trans rfl; have hcz12_1 : w9.cell? ⟨gb177, 1, none⟩ = some (.int .u32 a0_1) := (blk_cell BK177.out 1).trans rfl; have hfz12_0 := blk_frozen BK177.out 0; have hfz12_1 := blk_frozen BK177.out 1) | ((with_reducible refine gate_callee (f := 29) rfl ?_); refine goesL_ (some 26) rfl rfl Try.func29 (by kernel_rfl) rfl #[.agg #[.int .u8 a0_0, .int .u32 a0_1], .int .u32 ((a0_1 - 1) % 4294967296)] rfl (by (try simp only [List.map_toArray, List.map_cons, List.map_nil]); first | done | rfl) ?_; (with_reducible refine (pack_Empty.calls a0_0 a0_1 ((a0_1 - 1) % 4294967296) t185 t186 t187 t188 t189 t190 _ A5.out).mono ?_); rintro e w13 ⟨rfl, hb⟩; refine ⟨_, rfl, ?_⟩; have n0_ := Aside0.mk (blk_below (g := gb177) (o := .cells #[.int .u8 a0_0, .int .u32 a0_1] 49 (0, 0)) (by (with_reducible repeat (first | refine blk_drewN ?_ _ | refine blk_drew ?_ | refine blk_alloc ?_ _)); refine blk_far ?_ NB177_184.out _; (with_reducible repeat (first | refine blk_drewN ?_ _ | refine blk_drew ?_ | refine blk_alloc ?_ _)); refine blk_far ?_ NB177_184.out _; (with_reducible repeat (first | refine blk_drewN ?_ _ | refine blk_drew ?_ | refine blk_alloc ?_ _)); refine blk_far ?_ NB177_184.out _; (with_reducible repeat (first | refine blk_drewN ?_ _ | refine blk_drew ?_ | refine blk_alloc ?_ _)); refine blk_far ?_ NB177_184.out _; (with_reducible repeat (first | refine blk_drewN ?_ _ | refine blk_drew ?_ | refine blk_alloc ?_ _)); refine blk_far ?_ NB177_184.out _; (with_reducible repeat (first | refine blk_drewN ?_ _ | refine blk_drew ?_ | refine blk_alloc ?_ _)); exact BK177.out) hb); have n1_ := Aside0.mk (blk_below (g := gb184) (o := .cells #[.int .u8 t178, .int .u32 t179, .int .u32 t180, .int .i64 t181, .int .i64 t182] 52 (0, 0)) (by (with_reducible repeat (first | refine blk_drewN ?_ _ | refine blk_drew ?_ | refine blk_alloc ?_ _)); refine blk_put (cs := #[.int .u8 t178, .int .u32 t179, .int .u32 t180, .int .i64 t181, .int .i64 0]) ?_ 4 _ rfl; (with_reducible repeat (first | refine blk_drewN ?_ _ | refine blk_drew ?_ | refine blk_alloc ?_ _)); refine blk_put (cs := #[.int .u8 t178, .int .u32 t179, .int .u32 t180, .int .i64 0, .int .i64 0]) ?_ 3 _ rfl; (with_reducible repeat (first | refine blk_drewN ?_ _ | refine blk_drew ?_ | refine blk_alloc ?_ _)); refine blk_put (cs := #[.int .u8 t178, .int .u32 t179, .int .u32 0, .int .i64 0, .int .i64 0]) ?_ 2 _ rfl; (with_reducible repeat (first | refine blk_drewN ?_ _ | refine blk_drew ?_ | refine blk_alloc ?_ _)); refine blk_put (cs := #[.int .u8 t178, .int .u32 0, .int .u32 0, .int .i64 0, .int .i64 0]) ?_ 1 _ rfl; (with_reducible repeat (first | refine blk_drewN ?_ _ | refine blk_drew ?_ | refine blk_alloc ?_ _)); refine blk_put (cs := #[.int .u8 0, .int .u32 0, .int .u32 0, .int .i64 0, .int .i64 0]) ?_ 0 _ rfl; (with_reducible repeat (first | refine blk_drewN ?_ _ | refine blk_drew ?_ | refine blk_alloc ?_ _)); exact BK184.out) hb); have n2_ := Aside0.mk (below_step (by repeat (first | (with_reducible first | exact HB.out | apply below_alloc | apply pw_below_drewN | apply below_drew1 | refine below_set ?_ GE177.out | refine below_set ?_ GE184.out) | exact HB.out)) hb); clear BK177; clear BK184; clear HB; have BK177 := n0_; have BK184 := n1_; have HB := n2_; clear n0_ n1_ n2_; (try clear hb); (try clear hb2); (try clear hk); (try clear hi)) | ((with_reducible refine gate_dst (N := 8) rfl ?_); refine box_event ?hg (N := 8) ?hd (cs := #[.int .u8 0, .int .u32 0, .int .u32 0, .int .i64 0, .int .i64 0]) (t := 52) ?hr ?_; (case hd => rfl); (case hg => rfl); (case hr => first | (go_simp; done) | (go_simp; rfl)); intro gb191 hg w14 hbox hb; have n0_ := Aside0.mk (blk_below (g := gb177) (o := .cells #[.int .u8 a0_0, .int .u32 a0_1] 49 (0, 0)) (by (with_reducible repeat (first | refine blk_drewN ?_ _ | refine blk_drew ?_ | refine blk_alloc ?_ _)); exact BK177.out) hb); have n1_ := Aside0.mk (blk_below (g := gb184) (o := .cells #[.int .u8 t178, .int .u32 t179, .int .u32 t180, .int .i64 t181, .int .i64 t182] 52 (0, 0)) (by (with_reducible repeat (first | refine blk_drewN ?_ _ | refine blk_drew ?_ | refine blk_alloc ?_ _)); exact BK184.out) hb); have n2_ := Aside0.mk (below_step (by repeat (first | (with_reducible first | exact HB.out | apply below_alloc | apply pw_below_drewN | apply below_drew1 | refine below_set ?_ GE177.out | refine below_set ?_ GE184.out) | exact HB.out)) hb); have n3_ := Aside0.mk (hbox); have n4_ := Aside0.mk ((by rw [hg]; exact (below_size (by repeat (first | (with_reducible first | exact HB.out | apply below_alloc | apply pw_below_drewN | apply below_drew1 | refine below_set ?_ GE177.out | refine below_set ?_ GE184.out) | exact HB.out))) : w.heap.size ≤ gb191)); have n5_ := Aside0.mk ((by rw [hg]; exact (below_size (by repeat (first | (with_reducible first | exact HB.out | apply below_alloc | apply pw_below_drewN | apply below_drew1 | refine below_set ?_ GE177.out | refine below_set ?_ GE184.out) | exact HB.out))) : w.heap.size ≤ gb191)); have n6_ := Aside0.mk ((by rw [hg]; exact Nat.ne_of_lt (blk_lt (g := gb177) (o := .cells #[.int .u8 a0_0, .int .u32 a0_1] 49 (0, 0)) (by (with_reducible repeat (first | refine blk_drewN ?_ _ | refine blk_drew ?_ | refine blk_alloc ?_ _)); exact BK177.out)) : gb177 ≠ gb191)); have n7_ := Aside0.mk ((by rw [hg]; exact Nat.ne_of_gt (blk_lt (g := gb177) (o := .cells #[.int .u8 a0_0, .int .u32 a0_1] 49 (0, 0)) (by (with_reducible repeat (first | refine blk_drewN ?_ _ | refine blk_drew ?_ | refine blk_alloc ?_ _)); exact BK177.out)) : gb191 ≠ gb177)); have n8_ := Aside0.mk ((by rw [hg]; exact Nat.ne_of_lt (blk_lt (g := gb184) (o := .cells #[.int .u8 t178, .int .u32 t179, .int .u32 t180, .int .i64 t181, .int .i64 t182] 52 (0, 0)) (by (with_reducible repeat (first | refine blk_drewN ?_ _ | refine blk_drew ?_ | refine blk_alloc ?_ _)); exact BK184.out)) : gb184 ≠ gb191)); have n9_ := Aside0.mk ((by rw [hg]; exact Nat.ne_of_gt (blk_lt (g := gb184) (o := .cells #[.int .u8 t178, .int .u32 t179, .int .u32 t180, .int .i64 t181, .int .i64 t182] 52 (0, 0)) (by (with_reducible repeat (first | refine blk_drewN ?_ _ | refine blk_drew ?_ | refine blk_alloc ?_ _)); exact BK184.out)) : gb191 ≠ gb184)); clear BK177; clear BK184; clear HB; have BK177 := n0_; have BK184 := n1_; have HB := n2_; have BK191 := n3_; have GW191 := n4_; have GE191 := n5_; have NB177_191 := n6_; have NB191_177 := n7_; have NB184_191 := n8_; have NB191_184 := n9_; clear n0_ n1_ n2_ n3_ n4_ n5_ n6_ n7_ n8_ n9_; clear hb hbox hg; have hnb15 := NB191_177.out; have hnc15 := NB177_191.out; have hnb16 := NB191_184.out; have hnc16 := NB184_191.out; have hcz17_0 : w14.cell? ⟨gb191, 0, none⟩ = some (.int .u8 0) := (blk_cell BK191.out 0).trans rfl; have hcz17_1 : w14.cell? ⟨gb191, 1, none⟩ = some (.int .u32 0) := (blk_cell BK191.out 1).trans rfl; have hcz17_2 : w14.cell? ⟨gb191, 2, none⟩ = some (.int .u32 0) := (blk_cell BK191.out 2).trans rfl; have hcz17_3 : w14.cell? ⟨gb191, 3, none⟩ = some (.int .i64 0) := (blk_cell BK191.out 3).trans rfl; have hcz17_4 : w14.cell? ⟨gb191, 4, none⟩ = some (.int .i64 0) := (blk_cell BK191.out 4).trans rfl; have hfz17_0 := blk_frozen BK191.out 0; have hfz17_1 := blk_frozen BK191.out 1; have hfz17_2 := blk_frozen BK191.out 2; have hfz17_3 := blk_frozen BK191.out 3; have hfz17_4 := blk_frozen BK191.out 4))
  go_loopg [10, 31] k (fun kq v10 v31 w' => ∃ (x10_1 : List Int) (x31_1 : Int) (x185000_1 : Int) (x185001_1 : Int) (x185002_1 : Int) (x185003_1 : Int) (x185004_1 : Int), v31 = .int .i64 x31_1 ∧ Aside0 (pack_Plan.l0 kq x10_1 l1 (l1.length : Int) x31_1 a0_0 a0_1 x185000_1 x185001_1 x185002_1 x185003_1 x185004_1 t185 t186 t187 t188 t189 = some (r1, r2)) ∧ Aside0 (kq ≤ k) ∧ Aside0 (Kd.R (Kd.int .u32) 47 w' w.heap.size (fun _ => True) v10 x10_1) ∧ Aside0 (w'.heap[gb177]? = some (.cells #[.int .u8 a0_0, .int .u32 a0_1] 49 (0, 0))) ∧ Aside0 (w'.heap[gb184]? = some (.cells #[.int .u8 x185000_1, .int .u32 x185001_1, .int .u32 x185002_1, .int .i64 x185003_1, .int .i64 x185004_1] 52 (0, 0))) ∧ Aside0 (w'.heap[gb191]? = some (.cells #[.int .u8 t185, .int .u32 t186, .int .u32 t187, .int .i64 t188, .int .i64 t189] 52 (0, 0))) ∧ Aside0 (Below w.heap.size w w'))
  case atStart => exact ⟨(([] : List Int)), (0), (t178), (t179), (t180), (t181), (t182), (by first | rfl | (simp; done) | (simp [*]; done) | (simp; exact (fun l : List UInt8 => (by cases l <;> rfl : l.isEmpty = !(l != ([] : List UInt8)))) _)), H', ⟨Nat.le_refl _⟩, ⟨by first | exact Kd.R_nil _ _ _ _ _ | exact Kd.N_nil _ _ _ _ _ | exact Kd.V_nil _ _ _ _ _ | exact Kd.Q_nil _ _ _ _ _ | exact Kd.S_nil _ _ _ _ _⟩, ⟨by (with_reducible repeat (first | refine blk_drewN ?_ _ | refine blk_drew ?_ | refine blk_alloc ?_ _)); refine blk_far ?_ NB177_191.out _; (with_reducible repeat (first | refine blk_drewN ?_ _ | refine blk_drew ?_ | refine blk_alloc ?_ _)); refine blk_far ?_ NB177_191.out _; (with_reducible repeat (first | refine blk_drewN ?_ _ | refine blk_drew ?_ | refine blk_alloc ?_ _)); refine blk_far ?_ NB177_191.out _; (with_reducible repeat (first | refine blk_drewN ?_ _ | refine blk_drew ?_ | refine blk_alloc ?_ _)); refine blk_far ?_ NB177_191.out _; (with_reducible repeat (first | refine blk_drewN ?_ _ | refine blk_drew ?_ | refine blk_alloc ?_ _)); refine blk_far ?_ NB177_191.out _; (with_reducible repeat (first | refine blk_drewN ?_ _ | refine blk_drew ?_ | refine blk_alloc ?_ _)); exact BK177.out⟩, ⟨by (with_reducible repeat (first | refine blk_drewN ?_ _ | refine blk_drew ?_ | refine blk_alloc ?_ _)); refine blk_far ?_ NB184_191.out _; (with_reducible repeat (first | refine blk_drewN ?_ _ | refine blk_drew ?_ | refine blk_alloc ?_ _)); refine blk_far ?_ NB184_191.out _; (with_reducible repeat (first | refine blk_drewN ?_ _ | refine blk_drew ?_ | refine blk_alloc ?_ _)); refine blk_far ?_ NB184_191.out _; (with_reducible repeat (first | refine blk_drewN ?_ _ | refine blk_drew ?_ | refine blk_alloc ?_ _)); refine blk_far ?_ NB184_191.out _; (with_reducible repeat (first | refine blk_drewN ?_ _ | refine blk_drew ?_ | refine blk_alloc ?_ _)); refine blk_far ?_ NB184_191.out _; (with_reducible repeat (first | refine blk_drewN ?_ _ | refine blk_drew ?_ | refine blk_alloc ?_ _)); exact BK184.out⟩, ⟨by (with_reducible repeat (first | refine blk_drewN ?_ _ | refine blk_drew ?_ | refine blk_alloc ?_ _)); refine blk_put (cs := #[.int .u8 t185, .int .u32 t186, .int .u32 t187, .int .i64 t188, .int .i64 0]) ?_ 4 _ rfl; (with_reducible repeat (first | refine blk_drewN ?_ _ | refine blk_drew ?_ | refine blk_alloc ?_ _)); refine blk_put (cs := #[.int .u8 t185, .int .u32 t186, .int .u32 t187, .int .i64 0, .int .i64 0]) ?_ 3 _ rfl; (with_reducible repeat (first | refine blk_drewN ?_ _ | refine blk_drew ?_ | refine blk_alloc ?_ _)); refine blk_put (cs := #[.int .u8 t185, .int .u32 t186, .int .u32 0, .int .i64 0, .int .i64 0]) ?_ 2 _ rfl; (with_reducible repeat (first | refine blk_drewN ?_ _ | refine blk_drew ?_ | refine blk_alloc ?_ _)); refine blk_put (cs := #[.int .u8 t185, .int .u32 0, .int .u32 0, .int .i64 0, .int .i64 0]) ?_ 1 _ rfl; (with_reducible repeat (first | refine blk_drewN ?_ _ | refine blk_drew ?_ | refine blk_alloc ?_ _)); refine blk_put (cs := #[.int .u8 0, .int .u32 0, .int .u32 0, .int .i64 0, .int .i64 0]) ?_ 0 _ rfl; (with_reducible repeat (first | refine blk_drewN ?_ _ | refine blk_drew ?_ | refine blk_alloc ?_ _)); exact BK191.out⟩, ⟨by repeat (first | (with_reducible first | exact HB.out | apply below_alloc | apply pw_below_drewN | apply below_drew1 | refine below_set ?_ GE177.out | refine below_set ?_ GE184.out | refine below_set ?_ GE191.out) | exact HB.out)⟩⟩
  case round =>
   clear H'
   try clear c1
   try clear c2
   try clear p2
   try clear c3
   try clear c4
   try clear c4b0
   try clear c4b1
   try clear c10
   try clear c15
   try clear c16
   try clear hcz11_0
   try clear hcz11_1
   try clear hcz11_2
   try clear hcz11_3
   try clear hcz11_4
   try clear hcz12_0
   try clear hcz12_1
   try clear hcz17_0
   try clear hcz17_1
   try clear hcz17_2
   try clear hcz17_3
   try clear hcz17_4
   try clear hcz7_0
   try clear hcz7_1
   try clear hfz11_0
   try clear hfz11_1
   try clear hfz11_2
   try clear hfz11_3
   try clear hfz11_4
   try clear hfz12_0
   try clear hfz12_1
   try clear hfz17_0
   try clear hfz17_1
   try clear hfz17_2
   try clear hfz17_3
   try clear hfz17_4
   try clear hfz7_0
   try clear hfz7_1
   obtain ⟨x10_1, x31_1, x185000_1, x185001_1, x185002_1, x185003_1, x185004_1, rfl, HA, HK1, HO_10, BK177, BK184, BK191, HB⟩ := hrel
   cases gk with
   | zero => exact absurd HA.out (by simp [pack_Plan.l0])
   | succ k1 =>
    have H := HA.out
    clear HA
    simp only [pack_Plan.l0] at H
    by_cases c18 : x31_1 < (l1.length : Int)
    ·
     rw [if_pos c18] at H
     have c18b0 : decide (x31_1 < (l1.length : Int)) = true := decide_eq_true c18
     clear c18
     by_cases c19 : 0 ≤ x31_1
     ·
      rw [if_pos c19] at H
      have c19b0 : decide (0 ≤ x31_1) = true := decide_eq_true c19
      clear c19
      by_cases c20 : x31_1 < (l1.length : Int)
      ·
       rw [if_pos c20] at H
       have c20b0 : decide (x31_1 < (l1.length : Int)) = true := decide_eq_true c20
       clear c20
       replace H := Option.bind_eq_some_iff.mp H
       obtain ⟨t193, A210, H⟩ := H
       replace H : (if t193 = true then ((pack_Room_Fits.f x185000_1 x185001_1 x185002_1 x185003_1 x185004_1 (rd l1 x31_1)).bind fun t194 => (if t194 = true then ((pack_Room_Take.f x185000_1 x185001_1 x185002_1 x185003_1 x185004_1 (rd l1 x31_1)).bind fun bt195 => (if x10_1.length < 35184372088832 then (pack_Plan.l0 k1 (x10_1 ++ [bt195.2.2.1]) l1 (l1.length : Int) (wrap64 (x31_1 + 1)) a0_0 a0_1 bt195.1 bt195.2.1 bt195.2.2.1 bt195.2.2.2.1 bt195.2.2.2.2.1 t185 t186 t187 t188 t189) else (none))) else ((pack_Empty.f a0_0 a0_1 ((x185002_1 + 1) % 4294967296)).bind fun bt204 => (if bt204.2.2.2.2.2 = 0 then ((pack_Room_Take.f bt204.1 bt204.2.1 bt204.2.2.1 bt204.2.2.2.1 bt204.2.2.2.2.1 (rd l1 x31_1)).bind fun bt210 => (if x10_1.length < 35184372088832 then (pack_Plan.l0 k1 (x10_1 ++ [bt210.2.2.1]) l1 (l1.length : Int) (wrap64 (x31_1 + 1)) a0_0 a0_1 bt210.1 bt210.2.1 bt210.2.2.1 bt210.2.2.2.1 bt210.2.2.2.2.1 t185 t186 t187 t188 t189) else (none))) else (some (([] : List Int), 7)))))) else (some (([] : List Int), 6))) = some (r1, r2) := H
       have A21 := Aside0.mk A210
       clear A210
       by_cases c22 : t193 = true
       ·
        subst c22
        have H1 : ((pack_Room_Fits.f x185000_1 x185001_1 x185002_1 x185003_1 x185004_1 (rd l1 x31_1)).bind fun t194 => (if t194 = true then ((pack_Room_Take.f x185000_1 x185001_1 x185002_1 x185003_1 x185004_1 (rd l1 x31_1)).bind fun bt195 => (if x10_1.length < 35184372088832 then (pack_Plan.l0 k1 (x10_1 ++ [bt195.2.2.1]) l1 (l1.length : Int) (wrap64 (x31_1 + 1)) a0_0 a0_1 bt195.1 bt195.2.1 bt195.2.2.1 bt195.2.2.2.1 bt195.2.2.2.2.1 t185 t186 t187 t188 t189) else (none))) else ((pack_Empty.f a0_0 a0_1 ((x185002_1 + 1) % 4294967296)).bind fun bt204 => (if bt204.2.2.2.2.2 = 0 then ((pack_Room_Take.f bt204.1 bt204.2.1 bt204.2.2.1 bt204.2.2.2.1 bt204.2.2.2.2.1 (rd l1 x31_1)).bind fun bt210 => (if x10_1.length < 35184372088832 then (pack_Plan.l0 k1 (x10_1 ++ [bt210.2.2.1]) l1 (l1.length : Int) (wrap64 (x31_1 + 1)) a0_0 a0_1 bt210.1 bt210.2.1 bt210.2.2.1 bt210.2.2.2.1 bt210.2.2.2.2.1 t185 t186 t187 t188 t189) else (none))) else (some (([] : List Int), 7)))))) = some (r1, r2) := by rw [if_pos rfl] at H; exact H
        clear H
        have H := H1
        clear H1
        replace H := Option.bind_eq_some_iff.mp H
        obtain ⟨t194, A230, H⟩ := H
        replace H : (if t194 = true then ((pack_Room_Take.f x185000_1 x185001_1 x185002_1 x185003_1 x185004_1 (rd l1 x31_1)).bind fun bt195 => (if x10_1.length < 35184372088832 then (pack_Plan.l0 k1 (x10_1 ++ [bt195.2.2.1]) l1 (l1.length : Int) (wrap64 (x31_1 + 1)) a0_0 a0_1 bt195.1 bt195.2.1 bt195.2.2.1 bt195.2.2.2.1 bt195.2.2.2.2.1 t185 t186 t187 t188 t189) else (none))) else ((pack_Empty.f a0_0 a0_1 ((x185002_1 + 1) % 4294967296)).bind fun bt204 => (if bt204.2.2.2.2.2 = 0 then ((pack_Room_Take.f bt204.1 bt204.2.1 bt204.2.2.1 bt204.2.2.2.1 bt204.2.2.2.2.1 (rd l1 x31_1)).bind fun bt210 => (if x10_1.length < 35184372088832 then (pack_Plan.l0 k1 (x10_1 ++ [bt210.2.2.1]) l1 (l1.length : Int) (wrap64 (x31_1 + 1)) a0_0 a0_1 bt210.1 bt210.2.1 bt210.2.2.1 bt210.2.2.2.1 bt210.2.2.2.2.1 t185 t186 t187 t188 t189) else (none))) else (some (([] : List Int), 7))))) = some (r1, r2) := H
        have A23 := Aside0.mk A230
        clear A230
        by_cases c24 : t194 = true
        ·
         subst c24
         have H1 : ((pack_Room_Take.f x185000_1 x185001_1 x185002_1 x185003_1 x185004_1 (rd l1 x31_1)).bind fun bt195 => (if x10_1.length < 35184372088832 then (pack_Plan.l0 k1 (x10_1 ++ [bt195.2.2.1]) l1 (l1.length : Int) (wrap64 (x31_1 + 1)) a0_0 a0_1 bt195.1 bt195.2.1 bt195.2.2.1 bt195.2.2.2.1 bt195.2.2.2.2.1 t185 t186 t187 t188 t189) else (none))) = some (r1, r2) := by rw [if_pos rfl] at H; exact H
         clear H
         have H := H1
         clear H1
         replace H := Option.bind_eq_some_iff.mp H
         obtain ⟨⟨t195, t196, t197, t198, t199, t200⟩, A250, H⟩ := H
         replace H : (if x10_1.length < 35184372088832 then (pack_Plan.l0 k1 (x10_1 ++ [t197]) l1 (l1.length : Int) (wrap64 (x31_1 + 1)) a0_0 a0_1 t195 t196 t197 t198 t199 t185 t186 t187 t188 t189) else (none)) = some (r1, r2) := H
         have A25 := Aside0.mk A250
         clear A250
         by_cases c26 : x10_1.length < 35184372088832
         ·
          rw [if_pos c26] at H
          have LMc26 := Aside0.mk c26
          clear c26
          obtain ⟨y201, hy201⟩ : ∃ y_ : List Int, y_ = (x10_1 ++ [t197]) := ⟨_, rfl⟩
          replace H : (pack_Plan.l0 k1 y201 l1 (l1.length : Int) (wrap64 (x31_1 + 1)) a0_0 a0_1 t195 t196 t197 t198 t199 t185 t186 t187 t188 t189) = some (r1, r2) := by first | (rw [hy201]; with_reducible exact H) | (have H2_ := (Option.bind_some _ _).symm.trans H; rw [hy201]; with_reducible exact H2_) | (have H2_ := (Option.bind_some _ _).symm.trans H; with_reducible exact H2_) | with_reducible exact H | (rw [hy201]; exact H) | exact H
          have Ny201 := Aside0.mk hy201
          clear hy201
          have H' := Aside0.mk H
          clear H
          have p192 : 0 ≤ (x31_1 : Int) := of_decide_eq_true (by first | (with_reducible assumption) | assumption)
          have q192 : x31_1 < (l1.length : Int) := of_decide_eq_true (by first | (with_reducible assumption) | assumption)
          obtain ⟨ad192, e192, hx192_0⟩ := Kd.at_int HR1.out x31_1 p192 q192
          cases e192
          replace hx192_0 := (HB.out.cell (World.block_lt_of_cell? w _ hx192_0)).trans hx192_0
          replace p192 := eq_true p192
          replace q192 := eq_true q192
          have hnb27 := NB191_177.out
          have hnc27 := NB177_191.out
          have hnb28 := NB191_184.out
          have hnc28 := NB184_191.out
          have hcz29_0 : wr.cell? ⟨gb191, 0, none⟩ = some (.int .u8 t185) := (blk_cell BK191.out 0).trans rfl
          have hcz29_1 : wr.cell? ⟨gb191, 1, none⟩ = some (.int .u32 t186) := (blk_cell BK191.out 1).trans rfl
          have hcz29_2 : wr.cell? ⟨gb191, 2, none⟩ = some (.int .u32 t187) := (blk_cell BK191.out 2).trans rfl
          have hcz29_3 : wr.cell? ⟨gb191, 3, none⟩ = some (.int .i64 t188) := (blk_cell BK191.out 3).trans rfl
          have hcz29_4 : wr.cell? ⟨gb191, 4, none⟩ = some (.int .i64 t189) := (blk_cell BK191.out 4).trans rfl
          have hfz29_0 := blk_frozen BK191.out 0
          have hfz29_1 := blk_frozen BK191.out 1
          have hfz29_2 := blk_frozen BK191.out 2
          have hfz29_3 := blk_frozen BK191.out 3
          have hfz29_4 := blk_frozen BK191.out 4
          go_wp2_with (first | ((with_reducible refine gate_callee (f := 32) rfl ?_); refine goesL_ (some 37) rfl rfl Try.func32 (by kernel_rfl) rfl #[.agg #[.int .u8 t185, .int .u32 t186, .int .u32 t187, .int .i64 t188, .int .i64 t189], .int .i64 (rd l1 x31_1)] rfl (by (try simp only [List.map_toArray, List.map_cons, List.map_nil]); first | done | rfl) ?_; (with_reducible refine (pack_Room_Fits.calls t185 t186 t187 t188 t189 (rd l1 x31_1) true _ A21.out).mono ?_); rintro e w30 ⟨rfl, hb⟩; refine ⟨_, rfl, ?_⟩; have n0_ := Aside0.mk (Kd.R_below (by (with_reducible repeat (first | apply Kd.R_alloc | apply Kd.R_drewN | apply Kd.R_drew)); exact HO_10.out) hb); have n1_ := Aside0.mk (blk_below (g := gb177) (o := .cells #[.int .u8 a0_0, .int .u32 a0_1] 49 (0, 0)) (by (with_reducible repeat (first | refine blk_drewN ?_ _ | refine blk_drew ?_ | refine blk_alloc ?_ _)); exact BK177.out) hb); have n2_ := Aside0.mk (blk_below (g := gb184) (o := .cells #[.int .u8 x185000_1, .int .u32 x185001_1, .int .u32 x185002_1, .int .i64 x185003_1, .int .i64 x185004_1] 52 (0, 0)) (by (with_reducible repeat (first | refine blk_drewN ?_ _ | refine blk_drew ?_ | refine blk_alloc ?_ _)); exact BK184.out) hb); have n3_ := Aside0.mk (blk_below (g := gb191) (o := .cells #[.int .u8 t185, .int .u32 t186, .int .u32 t187, .int .i64 t188, .int .i64 t189] 52 (0, 0)) (by (with_reducible repeat (first | refine blk_drewN ?_ _ | refine blk_drew ?_ | refine blk_alloc ?_ _)); exact BK191.out) hb); have n4_ := Aside0.mk (below_step (by repeat (first | (with_reducible first | exact HB.out | apply below_alloc | apply pw_below_drewN | apply below_drew1 | refine below_set ?_ GE177.out | refine below_set ?_ GE184.out | refine below_set ?_ GE191.out) | exact HB.out)) hb); clear HO_10; clear BK177; clear BK184; clear BK191; clear HB; have HO_10 := n0_; have BK177 := n1_; have BK184 := n2_; have BK191 := n3_; have HB := n4_; clear n0_ n1_ n2_ n3_ n4_; (try clear hb); (try clear hb2); (try clear hk); (try clear hi); have hnb31 := NB184_177.out; have hnc31 := NB177_184.out; have hcz32_0 : w30.cell? ⟨gb184, 0, none⟩ = some (.int .u8 x185000_1) := (blk_cell BK184.out 0).trans rfl; have hcz32_1 : w30.cell? ⟨gb184, 1, none⟩ = some (.int .u32 x185001_1) := (blk_cell BK184.out 1).trans rfl; have hcz32_2 : w30.cell? ⟨gb184, 2, none⟩ = some (.int .u32 x185002_1) := (blk_cell BK184.out 2).trans rfl; have hcz32_3 : w30.cell? ⟨gb184, 3, none⟩ = some (.int .i64 x185003_1) := (blk_cell BK184.out 3).trans rfl; have hcz32_4 : w30.cell? ⟨gb184, 4, none⟩ = some (.int .i64 x185004_1) := (blk_cell BK184.out 4).trans rfl; have hfz32_0 := blk_frozen BK184.out 0; have hfz32_1 := blk_frozen BK184.out 1; have hfz32_2 := blk_frozen BK184.out 2; have hfz32_3 := blk_frozen BK184.out 3; have hfz32_4 := blk_frozen BK184.out 4) | ((with_reducible refine gate_callee (f := 32) rfl ?_); refine goesL_ (some 41) rfl rfl Try.func32 (by kernel_rfl) rfl #[.agg #[.int .u8 x185000_1, .int .u32 x185001_1, .int .u32 x185002_1, .int .i64 x185003_1, .int .i64 x185004_1], .int .i64 (rd l1 x31_1)] rfl (by (try simp only [List.map_toArray, List.map_cons, List.map_nil]); first | done | rfl) ?_; (with_reducible refine (pack_Room_Fits.calls x185000_1 x185001_1 x185002_1 x185003_1 x185004_1 (rd l1 x31_1) true _ A23.out).mono ?_); rintro e w33 ⟨rfl, hb⟩; refine ⟨_, rfl, ?_⟩; have n0_ := Aside0.mk (Kd.R_below (by (with_reducible repeat (first | apply Kd.R_alloc | apply Kd.R_drewN | apply Kd.R_drew)); exact HO_10.out) hb); have n1_ := Aside0.mk (blk_below (g := gb177) (o := .cells #[.int .u8 a0_0, .int .u32 a0_1] 49 (0, 0)) (by (with_reducible repeat (first | refine blk_drewN ?_ _ | refine blk_drew ?_ | refine blk_alloc ?_ _)); exact BK177.out) hb); have n2_ := Aside0.mk (blk_below (g := gb184) (o := .cells #[.int .u8 x185000_1, .int .u32 x185001_1, .int .u32 x185002_1, .int .i64 x185003_1, .int .i64 x185004_1] 52 (0, 0)) (by (with_reducible repeat (first | refine blk_drewN ?_ _ | refine blk_drew ?_ | refine blk_alloc ?_ _)); exact BK184.out) hb); have n3_ := Aside0.mk (blk_below (g := gb191) (o := .cells #[.int .u8 t185, .int .u32 t186, .int .u32 t187, .int .i64 t188, .int .i64 t189] 52 (0, 0)) (by (with_reducible repeat (first | refine blk_drewN ?_ _ | refine blk_drew ?_ | refine blk_alloc ?_ _)); exact BK191.out) hb); have n4_ := Aside0.mk (below_step (by repeat (first | (with_reducible first | exact HB.out | apply below_alloc | apply pw_below_drewN | apply below_drew1 | refine below_set ?_ GE177.out | refine below_set ?_ GE184.out | refine below_set ?_ GE191.out) | exact HB.out)) hb); clear HO_10; clear BK177; clear BK184; clear BK191; clear HB; have HO_10 := n0_; have BK177 := n1_; have BK184 := n2_; have BK191 := n3_; have HB := n4_; clear n0_ n1_ n2_ n3_ n4_; (try clear hb); (try clear hb2); (try clear hk); (try clear hi); have hcz34_0 : w33.cell? ⟨gb184, 0, none⟩ = some (.int .u8 x185000_1) := (blk_cell BK184.out 0).trans rfl; have hcz34_1 : w33.cell? ⟨gb184, 1, none⟩ = some (.int .u32 x185001_1) := (blk_cell BK184.out 1).trans rfl; have hcz34_2 : w33.cell? ⟨gb184, 2, none⟩ = some (.int .u32 x185002_1) := (blk_cell BK184.out 2).trans rfl; have hcz34_3 : w33.cell? ⟨gb184, 3, none⟩ = some (.int .i64 x185003_1) := (blk_cell BK184.out 3).trans rfl; have hcz34_4 : w33.cell? ⟨gb184, 4, none⟩ = some (.int .i64 x185004_1) := (blk_cell BK184.out 4).trans rfl; have hfz34_0 := blk_frozen BK184.out 0; have hfz34_1 := blk_frozen BK184.out 1; have hfz34_2 := blk_frozen BK184.out 2; have hfz34_3 := blk_frozen BK184.out 3; have hfz34_4 := blk_frozen BK184.out 4) | ((with_reducible refine gate_callee (f := 35) rfl ?_); refine goesL_ (some 56) rfl rfl Try.func35 (by kernel_rfl) rfl #[.agg #[.int .u8 x185000_1, .int .u32 x185001_1, .int .u32 x185002_1, .int .i64 x185003_1, .int .i64 x185004_1], .int .i64 (rd l1 x31_1)] rfl (by (try simp only [List.map_toArray, List.map_cons, List.map_nil]); first | done | rfl) ?_; (with_reducible refine (pack_Room_Take.calls x185000_1 x185001_1 x185002_1 x185003_1 x185004_1 (rd l1 x31_1) t195 t196 t197 t198 t199 t200 _ A25.out).mono ?_); rintro e w35 ⟨rfl, hb⟩; refine ⟨_, rfl, ?_⟩; have n0_ := Aside0.mk (Kd.R_below (by (with_reducible repeat (first | apply Kd.R_alloc | apply Kd.R_drewN | apply Kd.R_drew)); exact HO_10.out) hb); have n1_ := Aside0.mk (blk_below (g := gb177) (o := .cells #[.int .u8 a0_0, .int .u32 a0_1] 49 (0, 0)) (by (with_reducible repeat (first | refine blk_drewN ?_ _ | refine blk_drew ?_ | refine blk_alloc ?_ _)); exact BK177.out) hb); have n2_ := Aside0.mk (blk_below (g := gb184) (o := .cells #[.int .u8 x185000_1, .int .u32 x185001_1, .int .u32 x185002_1, .int .i64 x185003_1, .int .i64 x185004_1] 52 (0, 0)) (by (with_reducible repeat (first | refine blk_drewN ?_ _ | refine blk_drew ?_ | refine blk_alloc ?_ _)); exact BK184.out) hb); have n3_ := Aside0.mk (blk_below (g := gb191) (o := .cells #[.int .u8 t185, .int .u32 t186, .int .u32 t187, .int .i64 t188, .int .i64 t189] 52 (0, 0)) (by (with_reducible repeat (first | refine blk_drewN ?_ _ | refine blk_drew ?_ | refine blk_alloc ?_ _)); exact BK191.out) hb); have n4_ := Aside0.mk (below_step (by repeat (first | (with_reducible first | exact HB.out | apply below_alloc | apply pw_below_drewN | apply below_drew1 | refine below_set ?_ GE177.out | refine below_set ?_ GE184.out | refine below_set ?_ GE191.out) | exact HB.out)) hb); clear HO_10; clear BK177; clear BK184; clear BK191; clear HB; have HO_10 := n0_; have BK177 := n1_; have BK184 := n2_; have BK191 := n3_; have HB := n4_; clear n0_ n1_ n2_ n3_ n4_; (try clear hb); (try clear hb2); (try clear hk); (try clear hi); have hcz36_0 : w35.cell? ⟨gb184, 0, none⟩ = some (.int .u8 x185000_1) := (blk_cell BK184.out 0).trans rfl; have hcz36_1 : w35.cell? ⟨gb184, 1, none⟩ = some (.int .u32 x185001_1) := (blk_cell BK184.out 1).trans rfl; have hcz36_2 : w35.cell? ⟨gb184, 2, none⟩ = some (.int .u32 x185002_1) := (blk_cell BK184.out 2).trans rfl; have hcz36_3 : w35.cell? ⟨gb184, 3, none⟩ = some (.int .i64 x185003_1) := (blk_cell BK184.out 3).trans rfl; have hcz36_4 : w35.cell? ⟨gb184, 4, none⟩ = some (.int .i64 x185004_1) := (blk_cell BK184.out 4).trans rfl; have hfz36_0 := blk_frozen BK184.out 0; have hfz36_1 := blk_frozen BK184.out 1; have hfz36_2 := blk_frozen BK184.out 2; have hfz36_3 := blk_frozen BK184.out 3; have hfz36_4 := blk_frozen BK184.out 4) | ((with_reducible refine gate_builtin (b := .append) (xs := #[.tmp 59, .tmp 62]) rfl ?_); at_builtin; refine Kd.R_append (Kd.int .u32) (w0 := w) w.heap.size rfl (.tmp 59) (.tmp 62) 65 47 (.int .u32 0) 4 rfl Try.underlying65 info47 rfl (by decide) (by omega) u10 x10_1 t197 [.int .u32 t197] (fun _ => True) (fun _ => False) rfl (by first | (go_simp; done) | (go_simp; rfl)) ?aP (fun _ hk => hk.elim) ?aF ?aO ?aB ?aS ?aL ?_; (case aP => exact rfl); (case aB => exact (by repeat (first | (with_reducible first | exact HB.out | apply below_alloc | apply pw_below_drewN | apply below_drew1 | refine below_set ?_ GE177.out | refine below_set ?_ GE184.out | refine below_set ?_ GE191.out) | exact HB.out))); (case aF => exact (fun _ _ => trivial)); (case aO => exact (by (with_reducible repeat (first | apply Kd.R_alloc | apply Kd.R_drewN | apply Kd.R_drew)); exact Kd.R_mono (Kd.R_far (p := ⟨gb184, 4, none⟩) (Kd.R_far (p := ⟨gb184, 3, none⟩) (Kd.R_far (p := ⟨gb184, 2, none⟩) (Kd.R_far (p := ⟨gb184, 1, none⟩) (Kd.R_far (p := ⟨gb184, 0, none⟩) (Kd.R_types HO_10.out BK184.out (by decide)) (fun _ hk => by first | exact hk.2 | exact hk) (.int .u8 t195)) (fun _ hk => by first | exact hk.2 | exact hk) (.int .u32 t196)) (fun _ hk => by first | exact hk.2 | exact hk) (.int .u32 t197)) (fun _ hk => by first | exact hk.2 | exact hk) (.int .i64 t198)) (fun _ hk => by first | exact hk.2 | exact hk) (.int .i64 t199)) (fun _ hk => trivial))); (case aS => exact (below_size (by repeat (first | (with_reducible first | exact HB.out | apply below_alloc | apply pw_below_drewN | apply below_drew1 | refine below_set ?_ GE177.out | refine below_set ?_ GE184.out | refine below_set ?_ GE191.out) | exact HB.out)))); (case aL => have := LMc26.out; omega); intro v202 w37 ho hb hg hat; rw [← Ny201.out] at ho; have n0_ := Aside0.mk (blk_grown (g := gb177) (o := .cells #[.int .u8 a0_0, .int .u32 a0_1] 49 (0, 0)) (by (with_reducible repeat (first | refine blk_drewN ?_ _ | refine blk_drew ?_ | refine blk_alloc ?_ _)); refine blk_far ?_ NB177_184.out _; (with_reducible repeat (first | refine blk_drewN ?_ _ | refine blk_drew ?_ | refine blk_alloc ?_ _)); refine blk_far ?_ NB177_184.out _; (with_reducible repeat (first | refine blk_drewN ?_ _ | refine blk_drew ?_ | refine blk_alloc ?_ _)); refine blk_far ?_ NB177_184.out _; (with_reducible repeat (first | refine blk_drewN ?_ _ | refine blk_drew ?_ | refine blk_alloc ?_ _)); refine blk_far ?_ NB177_184.out _; (with_reducible repeat (first | refine blk_drewN ?_ _ | refine blk_drew ?_ | refine blk_alloc ?_ _)); refine blk_far ?_ NB177_184.out _; (with_reducible repeat (first | refine blk_drewN ?_ _ | refine blk_drew ?_ | refine blk_alloc ?_ _)); exact BK177.out) hg (Kd.R_ne HO_10.out BK177.out (by decide))); have n1_ := Aside0.mk (blk_grown (g := gb184) (o := .cells #[.int .u8 t195, .int .u32 t196, .int .u32 t197, .int .i64 t198, .int .i64 t199] 52 (0, 0)) (by (with_reducible repeat (first | refine blk_drewN ?_ _ | refine blk_drew ?_ | refine blk_alloc ?_ _)); refine blk_put (cs := #[.int .u8 t195, .int .u32 t196, .int .u32 t197, .int .i64 t198, .int .i64 x185004_1]) ?_ 4 _ rfl; (with_reducible repeat (first | refine blk_drewN ?_ _ | refine blk_drew ?_ | refine blk_alloc ?_ _)); refine blk_put (cs := #[.int .u8 t195, .int .u32 t196, .int .u32 t197, .int .i64 x185003_1, .int .i64 x185004_1]) ?_ 3 _ rfl; (with_reducible repeat (first | refine blk_drewN ?_ _ | refine blk_drew ?_ | refine blk_alloc ?_ _)); refine blk_put (cs := #[.int .u8 t195, .int .u32 t196, .int .u32 x185002_1, .int .i64 x185003_1, .int .i64 x185004_1]) ?_ 2 _ rfl; (with_reducible repeat (first | refine blk_drewN ?_ _ | refine blk_drew ?_ | refine blk_alloc ?_ _)); refine blk_put (cs := #[.int .u8 t195, .int .u32 x185001_1, .int .u32 x185002_1, .int .i64 x185003_1, .int .i64 x185004_1]) ?_ 1 _ rfl; (with_reducible repeat (first | refine blk_drewN ?_ _ | refine blk_drew ?_ | refine blk_alloc ?_ _)); refine blk_put (cs := #[.int .u8 x185000_1, .int .u32 x185001_1, .int .u32 x185002_1, .int .i64 x185003_1, .int .i64 x185004_1]) ?_ 0 _ rfl; (with_reducible repeat (first | refine blk_drewN ?_ _ | refine blk_drew ?_ | refine blk_alloc ?_ _)); exact BK184.out) hg (Kd.R_ne HO_10.out BK184.out (by decide))); have n2_ := Aside0.mk (blk_grown (g := gb191) (o := .cells #[.int .u8 t185, .int .u32 t186, .int .u32 t187, .int .i64 t188, .int .i64 t189] 52 (0, 0)) (by (with_reducible repeat (first | refine blk_drewN ?_ _ | refine blk_drew ?_ | refine blk_alloc ?_ _)); refine blk_far ?_ NB191_184.out _; (with_reducible repeat (first | refine blk_drewN ?_ _ | refine blk_drew ?_ | refine blk_alloc ?_ _)); refine blk_far ?_ NB191_184.out _; (with_reducible repeat (first | refine blk_drewN ?_ _ | refine blk_drew ?_ | refine blk_alloc ?_ _)); refine blk_far ?_ NB191_184.out _; (with_reducible repeat (first | refine blk_drewN ?_ _ | refine blk_drew ?_ | refine blk_alloc ?_ _)); refine blk_far ?_ NB191_184.out _; (with_reducible repeat (first | refine blk_drewN ?_ _ | refine blk_drew ?_ | refine blk_alloc ?_ _)); refine blk_far ?_ NB191_184.out _; (with_reducible repeat (first | refine blk_drewN ?_ _ | refine blk_drew ?_ | refine blk_alloc ?_ _)); exact BK191.out) hg (Kd.R_ne HO_10.out BK191.out (by decide))); have n3_ := Aside0.mk (hb); have n4_ := Aside0.mk (ho); clear BK177; clear BK184; clear BK191; clear HB; clear HO_10; have BK177 := n0_; have BK184 := n1_; have BK191 := n2_; have HB := n3_; have HO203 := n4_; clear n0_ n1_ n2_ n3_ n4_; clear ho hb hg hat))
          go_roundg k1
          case measure => have := HK1.out; omega
          case rel => exact ⟨(y201), (wrap64 (x31_1 + 1)), (t195), (t196), (t197), (t198), (t199), (by first | rfl | (simp; done) | (simp [*]; done) | (simp; exact (fun l : List UInt8 => (by cases l <;> rfl : l.isEmpty = !(l != ([] : List UInt8)))) _)), H', ⟨by have := HK1.out; omega⟩, ⟨by (with_reducible repeat (first | apply Kd.R_alloc | apply Kd.R_drewN | apply Kd.R_drew)); exact HO203.out⟩, ⟨by (with_reducible repeat (first | refine blk_drewN ?_ _ | refine blk_drew ?_ | refine blk_alloc ?_ _)); exact BK177.out⟩, ⟨by (with_reducible repeat (first | refine blk_drewN ?_ _ | refine blk_drew ?_ | refine blk_alloc ?_ _)); exact BK184.out⟩, ⟨by (with_reducible repeat (first | refine blk_drewN ?_ _ | refine blk_drew ?_ | refine blk_alloc ?_ _)); exact BK191.out⟩, ⟨by repeat (first | (with_reducible first | exact HB.out | apply below_alloc | apply pw_below_drewN | apply below_drew1 | refine below_set ?_ GE177.out | refine below_set ?_ GE184.out | refine below_set ?_ GE191.out) | exact HB.out)⟩⟩
         ·
          rw [if_neg c26] at H
          exact absurd H (by simp)
        ·
         replace c24 := Bool.eq_false_iff.mpr c24
         subst c24
         have H1 : ((pack_Empty.f a0_0 a0_1 ((x185002_1 + 1) % 4294967296)).bind fun bt204 => (if bt204.2.2.2.2.2 = 0 then ((pack_Room_Take.f bt204.1 bt204.2.1 bt204.2.2.1 bt204.2.2.2.1 bt204.2.2.2.2.1 (rd l1 x31_1)).bind fun bt210 => (if x10_1.length < 35184372088832 then (pack_Plan.l0 k1 (x10_1 ++ [bt210.2.2.1]) l1 (l1.length : Int) (wrap64 (x31_1 + 1)) a0_0 a0_1 bt210.1 bt210.2.1 bt210.2.2.1 bt210.2.2.2.1 bt210.2.2.2.2.1 t185 t186 t187 t188 t189) else (none))) else (some (([] : List Int), 7)))) = some (r1, r2) := by rw [if_neg (show ¬ (false = true) by decide)] at H; exact H
         clear H
         have H := H1
         clear H1
         replace H := Option.bind_eq_some_iff.mp H
         obtain ⟨⟨t204, t205, t206, t207, t208, t209⟩, A380, H⟩ := H
         replace H : (if t209 = 0 then ((pack_Room_Take.f t204 t205 t206 t207 t208 (rd l1 x31_1)).bind fun bt210 => (if x10_1.length < 35184372088832 then (pack_Plan.l0 k1 (x10_1 ++ [bt210.2.2.1]) l1 (l1.length : Int) (wrap64 (x31_1 + 1)) a0_0 a0_1 bt210.1 bt210.2.1 bt210.2.2.1 bt210.2.2.2.1 bt210.2.2.2.2.1 t185 t186 t187 t188 t189) else (none))) else (some (([] : List Int), 7))) = some (r1, r2) := H
         have A38 := Aside0.mk A380
         clear A380
         by_cases c39 : t209 = 0
         ·
          rw [if_pos c39] at H
          have c39b0 : (t209 == 0) = true := beq_iff_eq.mpr c39
          have c39b1 : (t209 != 0) = false := bne_eq_false_iff_eq.mpr c39
          clear c39
          replace H := Option.bind_eq_some_iff.mp H
          obtain ⟨⟨t210, t211, t212, t213, t214, t215⟩, A400, H⟩ := H
          replace H : (if x10_1.length < 35184372088832 then (pack_Plan.l0 k1 (x10_1 ++ [t212]) l1 (l1.length : Int) (wrap64 (x31_1 + 1)) a0_0 a0_1 t210 t211 t212 t213 t214 t185 t186 t187 t188 t189) else (none)) = some (r1, r2) := H
          have A40 := Aside0.mk A400
          clear A400
          by_cases c41 : x10_1.length < 35184372088832
          ·
           rw [if_pos c41] at H
           have LMc41 := Aside0.mk c41
           clear c41
           obtain ⟨y216, hy216⟩ : ∃ y_ : List Int, y_ = (x10_1 ++ [t212]) := ⟨_, rfl⟩
           replace H : (pack_Plan.l0 k1 y216 l1 (l1.length : Int) (wrap64 (x31_1 + 1)) a0_0 a0_1 t210 t211 t212 t213 t214 t185 t186 t187 t188 t189) = some (r1, r2) := by first | (rw [hy216]; with_reducible exact H) | (have H2_ := (Option.bind_some _ _).symm.trans H; rw [hy216]; with_reducible exact H2_) | (have H2_ := (Option.bind_some _ _).symm.trans H; with_reducible exact H2_) | with_reducible exact H | (rw [hy216]; exact H) | exact H
           have Ny216 := Aside0.mk hy216
           clear hy216
           have H' := Aside0.mk H
           clear H
           have p192 : 0 ≤ (x31_1 : Int) := of_decide_eq_true (by first | (with_reducible assumption) | assumption)
           have q192 : x31_1 < (l1.length : Int) := of_decide_eq_true (by first | (with_reducible assumption) | assumption)
           obtain ⟨ad192, e192, hx192_0⟩ := Kd.at_int HR1.out x31_1 p192 q192
           cases e192
           replace hx192_0 := (HB.out.cell (World.block_lt_of_cell? w _ hx192_0)).trans hx192_0
           replace p192 := eq_true p192
           replace q192 := eq_true q192
           have hnb42 := NB191_177.out
           have hnc42 := NB177_191.out
           have hnb43 := NB191_184.out
           have hnc43 := NB184_191.out
           have hcz44_0 : wr.cell? ⟨gb191, 0, none⟩ = some (.int .u8 t185) := (blk_cell BK191.out 0).trans rfl
           have hcz44_1 : wr.cell? ⟨gb191, 1, none⟩ = some (.int .u32 t186) := (blk_cell BK191.out 1).trans rfl
           have hcz44_2 : wr.cell? ⟨gb191, 2, none⟩ = some (.int .u32 t187) := (blk_cell BK191.out 2).trans rfl
           have hcz44_3 : wr.cell? ⟨gb191, 3, none⟩ = some (.int .i64 t188) := (blk_cell BK191.out 3).trans rfl
           have hcz44_4 : wr.cell? ⟨gb191, 4, none⟩ = some (.int .i64 t189) := (blk_cell BK191.out 4).trans rfl
           have hfz44_0 := blk_frozen BK191.out 0
           have hfz44_1 := blk_frozen BK191.out 1
           have hfz44_2 := blk_frozen BK191.out 2
           have hfz44_3 := blk_frozen BK191.out 3
           have hfz44_4 := blk_frozen BK191.out 4
           go_wp2_with (first | ((with_reducible refine gate_callee (f := 32) rfl ?_); refine goesL_ (some 37) rfl rfl Try.func32 (by kernel_rfl) rfl #[.agg #[.int .u8 t185, .int .u32 t186, .int .u32 t187, .int .i64 t188, .int .i64 t189], .int .i64 (rd l1 x31_1)] rfl (by (try simp only [List.map_toArray, List.map_cons, List.map_nil]); first | done | rfl) ?_; (with_reducible refine (pack_Room_Fits.calls t185 t186 t187 t188 t189 (rd l1 x31_1) true _ A21.out).mono ?_); rintro e w45 ⟨rfl, hb⟩; refine ⟨_, rfl, ?_⟩; have n0_ := Aside0.mk (Kd.R_below (by (with_reducible repeat (first | apply Kd.R_alloc | apply Kd.R_drewN | apply Kd.R_drew)); exact HO_10.out) hb); have n1_ := Aside0.mk (blk_below (g := gb177) (o := .cells #[.int .u8 a0_0, .int .u32 a0_1] 49 (0, 0)) (by (with_reducible repeat (first | refine blk_drewN ?_ _ | refine blk_drew ?_ | refine blk_alloc ?_ _)); exact BK177.out) hb); have n2_ := Aside0.mk (blk_below (g := gb184) (o := .cells #[.int .u8 x185000_1, .int .u32 x185001_1, .int .u32 x185002_1, .int .i64 x185003_1, .int .i64 x185004_1] 52 (0, 0)) (by (with_reducible repeat (first | refine blk_drewN ?_ _ | refine blk_drew ?_ | refine blk_alloc ?_ _)); exact BK184.out) hb); have n3_ := Aside0.mk (blk_below (g := gb191) (o := .cells #[.int .u8 t185, .int .u32 t186, .int .u32 t187, .int .i64 t188, .int .i64 t189] 52 (0, 0)) (by (with_reducible repeat (first | refine blk_drewN ?_ _ | refine blk_drew ?_ | refine blk_alloc ?_ _)); exact BK191.out) hb); have n4_ := Aside0.mk (below_step (by repeat (first | (with_reducible first | exact HB.out | apply below_alloc | apply pw_below_drewN | apply below_drew1 | refine below_set ?_ GE177.out | refine below_set ?_ GE184.out | refine below_set ?_ GE191.out) | exact HB.out)) hb); clear HO_10; clear BK177; clear BK184; clear BK191; clear HB; have HO_10 := n0_; have BK177 := n1_; have BK184 := n2_; have BK191 := n3_; have HB := n4_; clear n0_ n1_ n2_ n3_ n4_; (try clear hb); (try clear hb2); (try clear hk); (try clear hi); have hnb46 := NB184_177.out; have hnc46 := NB177_184.out; have hcz47_0 : w45.cell? ⟨gb184, 0, none⟩ = some (.int .u8 x185000_1) := (blk_cell BK184.out 0).trans rfl; have hcz47_1 : w45.cell? ⟨gb184, 1, none⟩ = some (.int .u32 x185001_1) := (blk_cell BK184.out 1).trans rfl; have hcz47_2 : w45.cell? ⟨gb184, 2, none⟩ = some (.int .u32 x185002_1) := (blk_cell BK184.out 2).trans rfl; have hcz47_3 : w45.cell? ⟨gb184, 3, none⟩ = some (.int .i64 x185003_1) := (blk_cell BK184.out 3).trans rfl; have hcz47_4 : w45.cell? ⟨gb184, 4, none⟩ = some (.int .i64 x185004_1) := (blk_cell BK184.out 4).trans rfl; have hfz47_0 := blk_frozen BK184.out 0; have hfz47_1 := blk_frozen BK184.out 1; have hfz47_2 := blk_frozen BK184.out 2; have hfz47_3 := blk_frozen BK184.out 3; have hfz47_4 := blk_frozen BK184.out 4) | ((with_reducible refine gate_callee (f := 32) rfl ?_); refine goesL_ (some 41) rfl rfl Try.func32 (by kernel_rfl) rfl #[.agg #[.int .u8 x185000_1, .int .u32 x185001_1, .int .u32 x185002_1, .int .i64 x185003_1, .int .i64 x185004_1], .int .i64 (rd l1 x31_1)] rfl (by (try simp only [List.map_toArray, List.map_cons, List.map_nil]); first | done | rfl) ?_; (with_reducible refine (pack_Room_Fits.calls x185000_1 x185001_1 x185002_1 x185003_1 x185004_1 (rd l1 x31_1) false _ A23.out).mono ?_); rintro e w48 ⟨rfl, hb⟩; refine ⟨_, rfl, ?_⟩; have n0_ := Aside0.mk (Kd.R_below (by (with_reducible repeat (first | apply Kd.R_alloc | apply Kd.R_drewN | apply Kd.R_drew)); exact HO_10.out) hb); have n1_ := Aside0.mk (blk_below (g := gb177) (o := .cells #[.int .u8 a0_0, .int .u32 a0_1] 49 (0, 0)) (by (with_reducible repeat (first | refine blk_drewN ?_ _ | refine blk_drew ?_ | refine blk_alloc ?_ _)); exact BK177.out) hb); have n2_ := Aside0.mk (blk_below (g := gb184) (o := .cells #[.int .u8 x185000_1, .int .u32 x185001_1, .int .u32 x185002_1, .int .i64 x185003_1, .int .i64 x185004_1] 52 (0, 0)) (by (with_reducible repeat (first | refine blk_drewN ?_ _ | refine blk_drew ?_ | refine blk_alloc ?_ _)); exact BK184.out) hb); have n3_ := Aside0.mk (blk_below (g := gb191) (o := .cells #[.int .u8 t185, .int .u32 t186, .int .u32 t187, .int .i64 t188, .int .i64 t189] 52 (0, 0)) (by (with_reducible repeat (first | refine blk_drewN ?_ _ | refine blk_drew ?_ | refine blk_alloc ?_ _)); exact BK191.out) hb); have n4_ := Aside0.mk (below_step (by repeat (first | (with_reducible first | exact HB.out | apply below_alloc | apply pw_below_drewN | apply below_drew1 | refine below_set ?_ GE177.out | refine below_set ?_ GE184.out | refine below_set ?_ GE191.out) | exact HB.out)) hb); clear HO_10; clear BK177; clear BK184; clear BK191; clear HB; have HO_10 := n0_; have BK177 := n1_; have BK184 := n2_; have BK191 := n3_; have HB := n4_; clear n0_ n1_ n2_ n3_ n4_; (try clear hb); (try clear hb2); (try clear hk); (try clear hi); have hcz49_0 : w48.cell? ⟨gb177, 0, none⟩ = some (.int .u8 a0_0) := (blk_cell BK177.out 0).trans rfl; have hcz49_1 : w48.cell? ⟨gb177, 1, none⟩ = some (.int .u32 a0_1) := (blk_cell BK177.out 1).trans rfl; have hfz49_0 := blk_frozen BK177.out 0; have hfz49_1 := blk_frozen BK177.out 1; have hcz50_0 : w48.cell? ⟨gb184, 0, none⟩ = some (.int .u8 x185000_1) := (blk_cell BK184.out 0).trans rfl; have hcz50_1 : w48.cell? ⟨gb184, 1, none⟩ = some (.int .u32 x185001_1) := (blk_cell BK184.out 1).trans rfl; have hcz50_2 : w48.cell? ⟨gb184, 2, none⟩ = some (.int .u32 x185002_1) := (blk_cell BK184.out 2).trans rfl; have hcz50_3 : w48.cell? ⟨gb184, 3, none⟩ = some (.int .i64 x185003_1) := (blk_cell BK184.out 3).trans rfl; have hcz50_4 : w48.cell? ⟨gb184, 4, none⟩ = some (.int .i64 x185004_1) := (blk_cell BK184.out 4).trans rfl; have hfz50_0 := blk_frozen BK184.out 0; have hfz50_1 := blk_frozen BK184.out 1; have hfz50_2 := blk_frozen BK184.out 2; have hfz50_3 := blk_frozen BK184.out 3; have hfz50_4 := blk_frozen BK184.out 4) | ((with_reducible refine gate_callee (f := 29) rfl ?_); refine goesL_ (some 48) rfl rfl Try.func29 (by kernel_rfl) rfl #[.agg #[.int .u8 a0_0, .int .u32 a0_1], .int .u32 ((x185002_1 + 1) % 4294967296)] rfl (by (try simp only [List.map_toArray, List.map_cons, List.map_nil]); first | done | rfl) ?_; (with_reducible refine (pack_Empty.calls a0_0 a0_1 ((x185002_1 + 1) % 4294967296) t204 t205 t206 t207 t208 t209 _ A38.out).mono ?_); rintro e w51 ⟨rfl, hb⟩; refine ⟨_, rfl, ?_⟩; have n0_ := Aside0.mk (Kd.R_below (by (with_reducible repeat (first | apply Kd.R_alloc | apply Kd.R_drewN | apply Kd.R_drew)); exact HO_10.out) hb); have n1_ := Aside0.mk (blk_below (g := gb177) (o := .cells #[.int .u8 a0_0, .int .u32 a0_1] 49 (0, 0)) (by (with_reducible repeat (first | refine blk_drewN ?_ _ | refine blk_drew ?_ | refine blk_alloc ?_ _)); exact BK177.out) hb); have n2_ := Aside0.mk (blk_below (g := gb184) (o := .cells #[.int .u8 x185000_1, .int .u32 x185001_1, .int .u32 x185002_1, .int .i64 x185003_1, .int .i64 x185004_1] 52 (0, 0)) (by (with_reducible repeat (first | refine blk_drewN ?_ _ | refine blk_drew ?_ | refine blk_alloc ?_ _)); exact BK184.out) hb); have n3_ := Aside0.mk (blk_below (g := gb191) (o := .cells #[.int .u8 t185, .int .u32 t186, .int .u32 t187, .int .i64 t188, .int .i64 t189] 52 (0, 0)) (by (with_reducible repeat (first | refine blk_drewN ?_ _ | refine blk_drew ?_ | refine blk_alloc ?_ _)); exact BK191.out) hb); have n4_ := Aside0.mk (below_step (by repeat (first | (with_reducible first | exact HB.out | apply below_alloc | apply pw_below_drewN | apply below_drew1 | refine below_set ?_ GE177.out | refine below_set ?_ GE184.out | refine below_set ?_ GE191.out) | exact HB.out)) hb); clear HO_10; clear BK177; clear BK184; clear BK191; clear HB; have HO_10 := n0_; have BK177 := n1_; have BK184 := n2_; have BK191 := n3_; have HB := n4_; clear n0_ n1_ n2_ n3_ n4_; (try clear hb); (try clear hb2); (try clear hk); (try clear hi); have hcz52_0 : w51.cell? ⟨gb184, 0, none⟩ = some (.int .u8 x185000_1) := (blk_cell BK184.out 0).trans rfl; have hcz52_1 : w51.cell? ⟨gb184, 1, none⟩ = some (.int .u32 x185001_1) := (blk_cell BK184.out 1).trans rfl; have hcz52_2 : w51.cell? ⟨gb184, 2, none⟩ = some (.int .u32 x185002_1) := (blk_cell BK184.out 2).trans rfl; have hcz52_3 : w51.cell? ⟨gb184, 3, none⟩ = some (.int .i64 x185003_1) := (blk_cell BK184.out 3).trans rfl; have hcz52_4 : w51.cell? ⟨gb184, 4, none⟩ = some (.int .i64 x185004_1) := (blk_cell BK184.out 4).trans rfl; have hfz52_0 := blk_frozen BK184.out 0; have hfz52_1 := blk_frozen BK184.out 1; have hfz52_2 := blk_frozen BK184.out 2; have hfz52_3 := blk_frozen BK184.out 3; have hfz52_4 := blk_frozen BK184.out 4) | ((with_reducible refine gate_callee (f := 35) rfl ?_); refine goesL_ (some 56) rfl rfl Try.func35 (by kernel_rfl) rfl #[.agg #[.int .u8 t204, .int .u32 t205, .int .u32 t206, .int .i64 t207, .int .i64 t208], .int .i64 (rd l1 x31_1)] rfl (by (try simp only [List.map_toArray, List.map_cons, List.map_nil]); first | done | rfl) ?_; (with_reducible refine (pack_Room_Take.calls t204 t205 t206 t207 t208 (rd l1 x31_1) t210 t211 t212 t213 t214 t215 _ A40.out).mono ?_); rintro e w53 ⟨rfl, hb⟩; refine ⟨_, rfl, ?_⟩; have n0_ := Aside0.mk (Kd.R_below (by (with_reducible repeat (first | apply Kd.R_alloc | apply Kd.R_drewN | apply Kd.R_drew)); exact (Kd.R_mono (Kd.R_far (p := ⟨gb184, 4, none⟩) (Kd.R_far (p := ⟨gb184, 3, none⟩) (Kd.R_far (p := ⟨gb184, 2, none⟩) (Kd.R_far (p := ⟨gb184, 1, none⟩) (Kd.R_far (p := ⟨gb184, 0, none⟩) (Kd.R_types HO_10.out BK184.out (by decide)) (fun _ hk => by first | exact hk.2 | exact hk) (.int .u8 t204)) (fun _ hk => by first | exact hk.2 | exact hk) (.int .u32 t205)) (fun _ hk => by first | exact hk.2 | exact hk) (.int .u32 t206)) (fun _ hk => by first | exact hk.2 | exact hk) (.int .i64 t207)) (fun _ hk => by first | exact hk.2 | exact hk) (.int .i64 t208)) (fun _ h_ => h_.1))) hb); have n1_ := Aside0.mk (blk_below (g := gb177) (o := .cells #[.int .u8 a0_0, .int .u32 a0_1] 49 (0, 0)) (by (with_reducible repeat (first | refine blk_drewN ?_ _ | refine blk_drew ?_ | refine blk_alloc ?_ _)); refine blk_far ?_ NB177_184.out _; (with_reducible repeat (first | refine blk_drewN ?_ _ | refine blk_drew ?_ | refine blk_alloc ?_ _)); refine blk_far ?_ NB177_184.out _; (with_reducible repeat (first | refine blk_drewN ?_ _ | refine blk_drew ?_ | refine blk_alloc ?_ _)); refine blk_far ?_ NB177_184.out _; (with_reducible repeat (first | refine blk_drewN ?_ _ | refine blk_drew ?_ | refine blk_alloc ?_ _)); refine blk_far ?_ NB177_184.out _; (with_reducible repeat (first | refine blk_drewN ?_ _ | refine blk_drew ?_ | refine blk_alloc ?_ _)); refine blk_far ?_ NB177_184.out _; (with_reducible repeat (first | refine blk_drewN ?_ _ | refine blk_drew ?_ | refine blk_alloc ?_ _)); exact BK177.out) hb); have n2_ := Aside0.mk (blk_below (g := gb184) (o := .cells #[.int .u8 t204, .int .u32 t205, .int .u32 t206, .int .i64 t207, .int .i64 t208] 52 (0, 0)) (by (with_reducible repeat (first | refine blk_drewN ?_ _ | refine blk_drew ?_ | refine blk_alloc ?_ _)); refine blk_put (cs := #[.int .u8 t204, .int .u32 t205, .int .u32 t206, .int .i64 t207, .int .i64 x185004_1]) ?_ 4 _ rfl; (with_reducible repeat (first | refine blk_drewN ?_ _ | refine blk_drew ?_ | refine blk_alloc ?_ _)); refine blk_put (cs := #[.int .u8 t204, .int .u32 t205, .int .u32 t206, .int .i64 x185003_1, .int .i64 x185004_1]) ?_ 3 _ rfl; (with_reducible repeat (first | refine blk_drewN ?_ _ | refine blk_drew ?_ | refine blk_alloc ?_ _)); refine blk_put (cs := #[.int .u8 t204, .int .u32 t205, .int .u32 x185002_1, .int .i64 x185003_1, .int .i64 x185004_1]) ?_ 2 _ rfl; (with_reducible repeat (first | refine blk_drewN ?_ _ | refine blk_drew ?_ | refine blk_alloc ?_ _)); refine blk_put (cs := #[.int .u8 t204, .int .u32 x185001_1, .int .u32 x185002_1, .int .i64 x185003_1, .int .i64 x185004_1]) ?_ 1 _ rfl; (with_reducible repeat (first | refine blk_drewN ?_ _ | refine blk_drew ?_ | refine blk_alloc ?_ _)); refine blk_put (cs := #[.int .u8 x185000_1, .int .u32 x185001_1, .int .u32 x185002_1, .int .i64 x185003_1, .int .i64 x185004_1]) ?_ 0 _ rfl; (with_reducible repeat (first | refine blk_drewN ?_ _ | refine blk_drew ?_ | refine blk_alloc ?_ _)); exact BK184.out) hb); have n3_ := Aside0.mk (blk_below (g := gb191) (o := .cells #[.int .u8 t185, .int .u32 t186, .int .u32 t187, .int .i64 t188, .int .i64 t189] 52 (0, 0)) (by (with_reducible repeat (first | refine blk_drewN ?_ _ | refine blk_drew ?_ | refine blk_alloc ?_ _)); refine blk_far ?_ NB191_184.out _; (with_reducible repeat (first | refine blk_drewN ?_ _ | refine blk_drew ?_ | refine blk_alloc ?_ _)); refine blk_far ?_ NB191_184.out _; (with_reducible repeat (first | refine blk_drewN ?_ _ | refine blk_drew ?_ | refine blk_alloc ?_ _)); refine blk_far ?_ NB191_184.out _; (with_reducible repeat (first | refine blk_drewN ?_ _ | refine blk_drew ?_ | refine blk_alloc ?_ _)); refine blk_far ?_ NB191_184.out _; (with_reducible repeat (first | refine blk_drewN ?_ _ | refine blk_drew ?_ | refine blk_alloc ?_ _)); refine blk_far ?_ NB191_184.out _; (with_reducible repeat (first | refine blk_drewN ?_ _ | refine blk_drew ?_ | refine blk_alloc ?_ _)); exact BK191.out) hb); have n4_ := Aside0.mk (below_step (by repeat (first | (with_reducible first | exact HB.out | apply below_alloc | apply pw_below_drewN | apply below_drew1 | refine below_set ?_ GE177.out | refine below_set ?_ GE184.out | refine below_set ?_ GE191.out) | exact HB.out)) hb); clear HO_10; clear BK177; clear BK184; clear BK191; clear HB; have HO_10 := n0_; have BK177 := n1_; have BK184 := n2_; have BK191 := n3_; have HB := n4_; clear n0_ n1_ n2_ n3_ n4_; (try clear hb); (try clear hb2); (try clear hk); (try clear hi); have hcz54_0 : w53.cell? ⟨gb184, 0, none⟩ = some (.int .u8 t204) := (blk_cell BK184.out 0).trans rfl; have hcz54_1 : w53.cell? ⟨gb184, 1, none⟩ = some (.int .u32 t205) := (blk_cell BK184.out 1).trans rfl; have hcz54_2 : w53.cell? ⟨gb184, 2, none⟩ = some (.int .u32 t206) := (blk_cell BK184.out 2).trans rfl; have hcz54_3 : w53.cell? ⟨gb184, 3, none⟩ = some (.int .i64 t207) := (blk_cell BK184.out 3).trans rfl; have hcz54_4 : w53.cell? ⟨gb184, 4, none⟩ = some (.int .i64 t208) := (blk_cell BK184.out 4).trans rfl; have hfz54_0 := blk_frozen BK184.out 0; have hfz54_1 := blk_frozen BK184.out 1; have hfz54_2 := blk_frozen BK184.out 2; have hfz54_3 := blk_frozen BK184.out 3; have hfz54_4 := blk_frozen BK184.out 4) | ((with_reducible refine gate_builtin (b := .append) (xs := #[.tmp 59, .tmp 62]) rfl ?_); at_builtin; refine Kd.R_append (Kd.int .u32) (w0 := w) w.heap.size rfl (.tmp 59) (.tmp 62) 65 47 (.int .u32 0) 4 rfl Try.underlying65 info47 rfl (by decide) (by omega) u10 x10_1 t212 [.int .u32 t212] (fun _ => True) (fun _ => False) rfl (by first | (go_simp; done) | (go_simp; rfl)) ?aP (fun _ hk => hk.elim) ?aF ?aO ?aB ?aS ?aL ?_; (case aP => exact rfl); (case aB => exact (by repeat (first | (with_reducible first | exact HB.out | apply below_alloc | apply pw_below_drewN | apply below_drew1 | refine below_set ?_ GE177.out | refine below_set ?_ GE184.out | refine below_set ?_ GE191.out) | exact HB.out))); (case aF => exact (fun _ _ => trivial)); (case aO => exact (by (with_reducible repeat (first | apply Kd.R_alloc | apply Kd.R_drewN | apply Kd.R_drew)); exact Kd.R_mono (Kd.R_far (p := ⟨gb184, 4, none⟩) (Kd.R_far (p := ⟨gb184, 3, none⟩) (Kd.R_far (p := ⟨gb184, 2, none⟩) (Kd.R_far (p := ⟨gb184, 1, none⟩) (Kd.R_far (p := ⟨gb184, 0, none⟩) (Kd.R_types HO_10.out BK184.out (by decide)) (fun _ hk => by first | exact hk.2 | exact hk) (.int .u8 t210)) (fun _ hk => by first | exact hk.2 | exact hk) (.int .u32 t211)) (fun _ hk => by first | exact hk.2 | exact hk) (.int .u32 t212)) (fun _ hk => by first | exact hk.2 | exact hk) (.int .i64 t213)) (fun _ hk => by first | exact hk.2 | exact hk) (.int .i64 t214)) (fun _ hk => trivial))); (case aS => exact (below_size (by repeat (first | (with_reducible first | exact HB.out | apply below_alloc | apply pw_below_drewN | apply below_drew1 | refine below_set ?_ GE177.out | refine below_set ?_ GE184.out | refine below_set ?_ GE191.out) | exact HB.out)))); (case aL => have := LMc41.out; omega); intro v217 w55 ho hb hg hat; rw [← Ny216.out] at ho; have n0_ := Aside0.mk (blk_grown (g := gb177) (o := .cells #[.int .u8 a0_0, .int .u32 a0_1] 49 (0, 0)) (by (with_reducible repeat (first | refine blk_drewN ?_ _ | refine blk_drew ?_ | refine blk_alloc ?_ _)); refine blk_far ?_ NB177_184.out _; (with_reducible repeat (first | refine blk_drewN ?_ _ | refine blk_drew ?_ | refine blk_alloc ?_ _)); refine blk_far ?_ NB177_184.out _; (with_reducible repeat (first | refine blk_drewN ?_ _ | refine blk_drew ?_ | refine blk_alloc ?_ _)); refine blk_far ?_ NB177_184.out _; (with_reducible repeat (first | refine blk_drewN ?_ _ | refine blk_drew ?_ | refine blk_alloc ?_ _)); refine blk_far ?_ NB177_184.out _; (with_reducible repeat (first | refine blk_drewN ?_ _ | refine blk_drew ?_ | refine blk_alloc ?_ _)); refine blk_far ?_ NB177_184.out _; (with_reducible repeat (first | refine blk_drewN ?_ _ | refine blk_drew ?_ | refine blk_alloc ?_ _)); exact BK177.out) hg (Kd.R_ne HO_10.out BK177.out (by decide))); have n1_ := Aside0.mk (blk_grown (g := gb184) (o := .cells #[.int .u8 t210, .int .u32 t211, .int .u32 t212, .int .i64 t213, .int .i64 t214] 52 (0, 0)) (by (with_reducible repeat (first | refine blk_drewN ?_ _ | refine blk_drew ?_ | refine blk_alloc ?_ _)); refine blk_put (cs := #[.int .u8 t210, .int .u32 t211, .int .u32 t212, .int .i64 t213, .int .i64 t208]) ?_ 4 _ rfl; (with_reducible repeat (first | refine blk_drewN ?_ _ | refine blk_drew ?_ | refine blk_alloc ?_ _)); refine blk_put (cs := #[.int .u8 t210, .int .u32 t211, .int .u32 t212, .int .i64 t207, .int .i64 t208]) ?_ 3 _ rfl; (with_reducible repeat (first | refine blk_drewN ?_ _ | refine blk_drew ?_ | refine blk_alloc ?_ _)); refine blk_put (cs := #[.int .u8 t210, .int .u32 t211, .int .u32 t206, .int .i64 t207, .int .i64 t208]) ?_ 2 _ rfl; (with_reducible repeat (first | refine blk_drewN ?_ _ | refine blk_drew ?_ | refine blk_alloc ?_ _)); refine blk_put (cs := #[.int .u8 t210, .int .u32 t205, .int .u32 t206, .int .i64 t207, .int .i64 t208]) ?_ 1 _ rfl; (with_reducible repeat (first | refine blk_drewN ?_ _ | refine blk_drew ?_ | refine blk_alloc ?_ _)); refine blk_put (cs := #[.int .u8 t204, .int .u32 t205, .int .u32 t206, .int .i64 t207, .int .i64 t208]) ?_ 0 _ rfl; (with_reducible repeat (first | refine blk_drewN ?_ _ | refine blk_drew ?_ | refine blk_alloc ?_ _)); exact BK184.out) hg (Kd.R_ne HO_10.out BK184.out (by decide))); have n2_ := Aside0.mk (blk_grown (g := gb191) (o := .cells #[.int .u8 t185, .int .u32 t186, .int .u32 t187, .int .i64 t188, .int .i64 t189] 52 (0, 0)) (by (with_reducible repeat (first | refine blk_drewN ?_ _ | refine blk_drew ?_ | refine blk_alloc ?_ _)); refine blk_far ?_ NB191_184.out _; (with_reducible repeat (first | refine blk_drewN ?_ _ | refine blk_drew ?_ | refine blk_alloc ?_ _)); refine blk_far ?_ NB191_184.out _; (with_reducible repeat (first | refine blk_drewN ?_ _ | refine blk_drew ?_ | refine blk_alloc ?_ _)); refine blk_far ?_ NB191_184.out _; (with_reducible repeat (first | refine blk_drewN ?_ _ | refine blk_drew ?_ | refine blk_alloc ?_ _)); refine blk_far ?_ NB191_184.out _; (with_reducible repeat (first | refine blk_drewN ?_ _ | refine blk_drew ?_ | refine blk_alloc ?_ _)); refine blk_far ?_ NB191_184.out _; (with_reducible repeat (first | refine blk_drewN ?_ _ | refine blk_drew ?_ | refine blk_alloc ?_ _)); exact BK191.out) hg (Kd.R_ne HO_10.out BK191.out (by decide))); have n3_ := Aside0.mk (hb); have n4_ := Aside0.mk (ho); clear BK177; clear BK184; clear BK191; clear HB; clear HO_10; have BK177 := n0_; have BK184 := n1_; have BK191 := n2_; have HB := n3_; have HO218 := n4_; clear n0_ n1_ n2_ n3_ n4_; clear ho hb hg hat))
           go_roundg k1
           case measure => have := HK1.out; omega
           case rel => exact ⟨(y216), (wrap64 (x31_1 + 1)), (t210), (t211), (t212), (t213), (t214), (by first | rfl | (simp; done) | (simp [*]; done) | (simp; exact (fun l : List UInt8 => (by cases l <;> rfl : l.isEmpty = !(l != ([] : List UInt8)))) _)), H', ⟨by have := HK1.out; omega⟩, ⟨by (with_reducible repeat (first | apply Kd.R_alloc | apply Kd.R_drewN | apply Kd.R_drew)); exact HO218.out⟩, ⟨by (with_reducible repeat (first | refine blk_drewN ?_ _ | refine blk_drew ?_ | refine blk_alloc ?_ _)); exact BK177.out⟩, ⟨by (with_reducible repeat (first | refine blk_drewN ?_ _ | refine blk_drew ?_ | refine blk_alloc ?_ _)); exact BK184.out⟩, ⟨by (with_reducible repeat (first | refine blk_drewN ?_ _ | refine blk_drew ?_ | refine blk_alloc ?_ _)); exact BK191.out⟩, ⟨by repeat (first | (with_reducible first | exact HB.out | apply below_alloc | apply pw_below_drewN | apply below_drew1 | refine below_set ?_ GE177.out | refine below_set ?_ GE184.out | refine below_set ?_ GE191.out) | exact HB.out)⟩⟩
          ·
           rw [if_neg c41] at H
           exact absurd H (by simp)
         ·
          rw [if_neg c39] at H
          have c39b0 : (t209 == 0) = false := beq_eq_false_iff_ne.mpr c39
          have c39b1 : (t209 != 0) = true := bne_iff_ne.mpr c39
          simp only [Option.some.injEq, Prod.mk.injEq] at H
          obtain ⟨rfl, rfl⟩ := H
          have p192 : 0 ≤ (x31_1 : Int) := of_decide_eq_true (by first | (with_reducible assumption) | assumption)
          have q192 : x31_1 < (l1.length : Int) := of_decide_eq_true (by first | (with_reducible assumption) | assumption)
          obtain ⟨ad192, e192, hx192_0⟩ := Kd.at_int HR1.out x31_1 p192 q192
          cases e192
          replace hx192_0 := (HB.out.cell (World.block_lt_of_cell? w _ hx192_0)).trans hx192_0
          replace p192 := eq_true p192
          replace q192 := eq_true q192
          have hnb56 := NB191_177.out
          have hnc56 := NB177_191.out
          have hnb57 := NB191_184.out
          have hnc57 := NB184_191.out
          have hcz58_0 : wr.cell? ⟨gb191, 0, none⟩ = some (.int .u8 t185) := (blk_cell BK191.out 0).trans rfl
          have hcz58_1 : wr.cell? ⟨gb191, 1, none⟩ = some (.int .u32 t186) := (blk_cell BK191.out 1).trans rfl
          have hcz58_2 : wr.cell? ⟨gb191, 2, none⟩ = some (.int .u32 t187) := (blk_cell BK191.out 2).trans rfl
          have hcz58_3 : wr.cell? ⟨gb191, 3, none⟩ = some (.int .i64 t188) := (blk_cell BK191.out 3).trans rfl
          have hcz58_4 : wr.cell? ⟨gb191, 4, none⟩ = some (.int .i64 t189) := (blk_cell BK191.out 4).trans rfl
          have hfz58_0 := blk_frozen BK191.out 0
          have hfz58_1 := blk_frozen BK191.out 1
          have hfz58_2 := blk_frozen BK191.out 2
          have hfz58_3 := blk_frozen BK191.out 3
          have hfz58_4 := blk_frozen BK191.out 4
          go_wp2_with (first | ((with_reducible refine gate_callee (f := 32) rfl ?_); refine goesL_ (some 37) rfl rfl Try.func32 (by kernel_rfl) rfl #[.agg #[.int .u8 t185, .int .u32 t186, .int .u32 t187, .int .i64 t188, .int .i64 t189], .int .i64 (rd l1 x31_1)] rfl (by (try simp only [List.map_toArray, List.map_cons, List.map_nil]); first | done | rfl) ?_; (with_reducible refine (pack_Room_Fits.calls t185 t186 t187 t188 t189 (rd l1 x31_1) true _ A21.out).mono ?_); rintro e w59 ⟨rfl, hb⟩; refine ⟨_, rfl, ?_⟩; have n0_ := Aside0.mk (Kd.R_below (by (with_reducible repeat (first | apply Kd.R_alloc | apply Kd.R_drewN | apply Kd.R_drew)); exact HO_10.out) hb); have n1_ := Aside0.mk (blk_below (g := gb177) (o := .cells #[.int .u8 a0_0, .int .u32 a0_1] 49 (0, 0)) (by (with_reducible repeat (first | refine blk_drewN ?_ _ | refine blk_drew ?_ | refine blk_alloc ?_ _)); exact BK177.out) hb); have n2_ := Aside0.mk (blk_below (g := gb184) (o := .cells #[.int .u8 x185000_1, .int .u32 x185001_1, .int .u32 x185002_1, .int .i64 x185003_1, .int .i64 x185004_1] 52 (0, 0)) (by (with_reducible repeat (first | refine blk_drewN ?_ _ | refine blk_drew ?_ | refine blk_alloc ?_ _)); exact BK184.out) hb); have n3_ := Aside0.mk (blk_below (g := gb191) (o := .cells #[.int .u8 t185, .int .u32 t186, .int .u32 t187, .int .i64 t188, .int .i64 t189] 52 (0, 0)) (by (with_reducible repeat (first | refine blk_drewN ?_ _ | refine blk_drew ?_ | refine blk_alloc ?_ _)); exact BK191.out) hb); have n4_ := Aside0.mk (below_step (by repeat (first | (with_reducible first | exact HB.out | apply below_alloc | apply pw_below_drewN | apply below_drew1 | refine below_set ?_ GE177.out | refine below_set ?_ GE184.out | refine below_set ?_ GE191.out) | exact HB.out)) hb); clear HO_10; clear BK177; clear BK184; clear BK191; clear HB; have HO_10 := n0_; have BK177 := n1_; have BK184 := n2_; have BK191 := n3_; have HB := n4_; clear n0_ n1_ n2_ n3_ n4_; (try clear hb); (try clear hb2); (try clear hk); (try clear hi); have hnb60 := NB184_177.out; have hnc60 := NB177_184.out; have hcz61_0 : w59.cell? ⟨gb184, 0, none⟩ = some (.int .u8 x185000_1) := (blk_cell BK184.out 0).trans rfl; have hcz61_1 : w59.cell? ⟨gb184, 1, none⟩ = some (.int .u32 x185001_1) := (blk_cell BK184.out 1).trans rfl; have hcz61_2 : w59.cell? ⟨gb184, 2, none⟩ = some (.int .u32 x185002_1) := (blk_cell BK184.out 2).trans rfl; have hcz61_3 : w59.cell? ⟨gb184, 3, none⟩ = some (.int .i64 x185003_1) := (blk_cell BK184.out 3).trans rfl; have hcz61_4 : w59.cell? ⟨gb184, 4, none⟩ = some (.int .i64 x185004_1) := (blk_cell BK184.out 4).trans rfl; have hfz61_0 := blk_frozen BK184.out 0; have hfz61_1 := blk_frozen BK184.out 1; have hfz61_2 := blk_frozen BK184.out 2; have hfz61_3 := blk_frozen BK184.out 3; have hfz61_4 := blk_frozen BK184.out 4) | ((with_reducible refine gate_callee (f := 32) rfl ?_); refine goesL_ (some 41) rfl rfl Try.func32 (by kernel_rfl) rfl #[.agg #[.int .u8 x185000_1, .int .u32 x185001_1, .int .u32 x185002_1, .int .i64 x185003_1, .int .i64 x185004_1], .int .i64 (rd l1 x31_1)] rfl (by (try simp only [List.map_toArray, List.map_cons, List.map_nil]); first | done | rfl) ?_; (with_reducible refine (pack_Room_Fits.calls x185000_1 x185001_1 x185002_1 x185003_1 x185004_1 (rd l1 x31_1) false _ A23.out).mono ?_); rintro e w62 ⟨rfl, hb⟩; refine ⟨_, rfl, ?_⟩; have n0_ := Aside0.mk (Kd.R_below (by (with_reducible repeat (first | apply Kd.R_alloc | apply Kd.R_drewN | apply Kd.R_drew)); exact HO_10.out) hb); have n1_ := Aside0.mk (blk_below (g := gb177) (o := .cells #[.int .u8 a0_0, .int .u32 a0_1] 49 (0, 0)) (by (with_reducible repeat (first | refine blk_drewN ?_ _ | refine blk_drew ?_ | refine blk_alloc ?_ _)); exact BK177.out) hb); have n2_ := Aside0.mk (blk_below (g := gb184) (o := .cells #[.int .u8 x185000_1, .int .u32 x185001_1, .int .u32 x185002_1, .int .i64 x185003_1, .int .i64 x185004_1] 52 (0, 0)) (by (with_reducible repeat (first | refine blk_drewN ?_ _ | refine blk_drew ?_ | refine blk_alloc ?_ _)); exact BK184.out) hb); have n3_ := Aside0.mk (blk_below (g := gb191) (o := .cells #[.int .u8 t185, .int .u32 t186, .int .u32 t187, .int .i64 t188, .int .i64 t189] 52 (0, 0)) (by (with_reducible repeat (first | refine blk_drewN ?_ _ | refine blk_drew ?_ | refine blk_alloc ?_ _)); exact BK191.out) hb); have n4_ := Aside0.mk (below_step (by repeat (first | (with_reducible first | exact HB.out | apply below_alloc | apply pw_below_drewN | apply below_drew1 | refine below_set ?_ GE177.out | refine below_set ?_ GE184.out | refine below_set ?_ GE191.out) | exact HB.out)) hb); clear HO_10; clear BK177; clear BK184; clear BK191; clear HB; have HO_10 := n0_; have BK177 := n1_; have BK184 := n2_; have BK191 := n3_; have HB := n4_; clear n0_ n1_ n2_ n3_ n4_; (try clear hb); (try clear hb2); (try clear hk); (try clear hi); have hcz63_0 : w62.cell? ⟨gb177, 0, none⟩ = some (.int .u8 a0_0) := (blk_cell BK177.out 0).trans rfl; have hcz63_1 : w62.cell? ⟨gb177, 1, none⟩ = some (.int .u32 a0_1) := (blk_cell BK177.out 1).trans rfl; have hfz63_0 := blk_frozen BK177.out 0; have hfz63_1 := blk_frozen BK177.out 1; have hcz64_0 : w62.cell? ⟨gb184, 0, none⟩ = some (.int .u8 x185000_1) := (blk_cell BK184.out 0).trans rfl; have hcz64_1 : w62.cell? ⟨gb184, 1, none⟩ = some (.int .u32 x185001_1) := (blk_cell BK184.out 1).trans rfl; have hcz64_2 : w62.cell? ⟨gb184, 2, none⟩ = some (.int .u32 x185002_1) := (blk_cell BK184.out 2).trans rfl; have hcz64_3 : w62.cell? ⟨gb184, 3, none⟩ = some (.int .i64 x185003_1) := (blk_cell BK184.out 3).trans rfl; have hcz64_4 : w62.cell? ⟨gb184, 4, none⟩ = some (.int .i64 x185004_1) := (blk_cell BK184.out 4).trans rfl; have hfz64_0 := blk_frozen BK184.out 0; have hfz64_1 := blk_frozen BK184.out 1; have hfz64_2 := blk_frozen BK184.out 2; have hfz64_3 := blk_frozen BK184.out 3; have hfz64_4 := blk_frozen BK184.out 4) | ((with_reducible refine gate_callee (f := 29) rfl ?_); refine goesL_ (some 48) rfl rfl Try.func29 (by kernel_rfl) rfl #[.agg #[.int .u8 a0_0, .int .u32 a0_1], .int .u32 ((x185002_1 + 1) % 4294967296)] rfl (by (try simp only [List.map_toArray, List.map_cons, List.map_nil]); first | done | rfl) ?_; (with_reducible refine (pack_Empty.calls a0_0 a0_1 ((x185002_1 + 1) % 4294967296) t204 t205 t206 t207 t208 t209 _ A38.out).mono ?_); rintro e w65 ⟨rfl, hb⟩; refine ⟨_, rfl, ?_⟩; have n0_ := Aside0.mk (Kd.R_below (by (with_reducible repeat (first | apply Kd.R_alloc | apply Kd.R_drewN | apply Kd.R_drew)); exact HO_10.out) hb); have n1_ := Aside0.mk (blk_below (g := gb177) (o := .cells #[.int .u8 a0_0, .int .u32 a0_1] 49 (0, 0)) (by (with_reducible repeat (first | refine blk_drewN ?_ _ | refine blk_drew ?_ | refine blk_alloc ?_ _)); exact BK177.out) hb); have n2_ := Aside0.mk (blk_below (g := gb184) (o := .cells #[.int .u8 x185000_1, .int .u32 x185001_1, .int .u32 x185002_1, .int .i64 x185003_1, .int .i64 x185004_1] 52 (0, 0)) (by (with_reducible repeat (first | refine blk_drewN ?_ _ | refine blk_drew ?_ | refine blk_alloc ?_ _)); exact BK184.out) hb); have n3_ := Aside0.mk (blk_below (g := gb191) (o := .cells #[.int .u8 t185, .int .u32 t186, .int .u32 t187, .int .i64 t188, .int .i64 t189] 52 (0, 0)) (by (with_reducible repeat (first | refine blk_drewN ?_ _ | refine blk_drew ?_ | refine blk_alloc ?_ _)); exact BK191.out) hb); have n4_ := Aside0.mk (below_step (by repeat (first | (with_reducible first | exact HB.out | apply below_alloc | apply pw_below_drewN | apply below_drew1 | refine below_set ?_ GE177.out | refine below_set ?_ GE184.out | refine below_set ?_ GE191.out) | exact HB.out)) hb); clear HO_10; clear BK177; clear BK184; clear BK191; clear HB; have HO_10 := n0_; have BK177 := n1_; have BK184 := n2_; have BK191 := n3_; have HB := n4_; clear n0_ n1_ n2_ n3_ n4_; (try clear hb); (try clear hb2); (try clear hk); (try clear hi); have hcz66_0 : w65.cell? ⟨gb184, 0, none⟩ = some (.int .u8 x185000_1) := (blk_cell BK184.out 0).trans rfl; have hcz66_1 : w65.cell? ⟨gb184, 1, none⟩ = some (.int .u32 x185001_1) := (blk_cell BK184.out 1).trans rfl; have hcz66_2 : w65.cell? ⟨gb184, 2, none⟩ = some (.int .u32 x185002_1) := (blk_cell BK184.out 2).trans rfl; have hcz66_3 : w65.cell? ⟨gb184, 3, none⟩ = some (.int .i64 x185003_1) := (blk_cell BK184.out 3).trans rfl; have hcz66_4 : w65.cell? ⟨gb184, 4, none⟩ = some (.int .i64 x185004_1) := (blk_cell BK184.out 4).trans rfl; have hfz66_0 := blk_frozen BK184.out 0; have hfz66_1 := blk_frozen BK184.out 1; have hfz66_2 := blk_frozen BK184.out 2; have hfz66_3 := blk_frozen BK184.out 3; have hfz66_4 := blk_frozen BK184.out 4))
          go_ret2
          exact ⟨_, by first | rfl | (simp [errW_none, errW_some] <;> rfl) | (simp [*, errW_none, errW_some] <;> rfl), by first | exact Kd.R_nil _ _ _ _ _ | exact Kd.N_nil _ _ _ _ _ | exact Kd.V_nil _ _ _ _ _ | exact Kd.Q_nil _ _ _ _ _ | exact Kd.S_nil _ _ _ _ _, by repeat (first | (with_reducible first | exact HB.out | apply below_alloc | apply pw_below_drewN | apply below_drew1 | refine below_set ?_ GE177.out | refine below_set ?_ GE184.out | refine below_set ?_ GE191.out) | exact HB.out)⟩
       ·
        replace c22 := Bool.eq_false_iff.mpr c22
        subst c22
        have H1 : (some (([] : List Int), 6)) = some (r1, r2) := by rw [if_neg (show ¬ (false = true) by decide)] at H; exact H
        clear H
        have H := H1
        clear H1
        simp only [Option.some.injEq, Prod.mk.injEq] at H
        obtain ⟨rfl, rfl⟩ := H
        have p192 : 0 ≤ (x31_1 : Int) := of_decide_eq_true (by first | (with_reducible assumption) | assumption)
        have q192 : x31_1 < (l1.length : Int) := of_decide_eq_true (by first | (with_reducible assumption) | assumption)
        obtain ⟨ad192, e192, hx192_0⟩ := Kd.at_int HR1.out x31_1 p192 q192
        cases e192
        replace hx192_0 := (HB.out.cell (World.block_lt_of_cell? w _ hx192_0)).trans hx192_0
        replace p192 := eq_true p192
        replace q192 := eq_true q192
        have hnb67 := NB191_177.out
        have hnc67 := NB177_191.out
        have hnb68 := NB191_184.out
        have hnc68 := NB184_191.out
        have hcz69_0 : wr.cell? ⟨gb191, 0, none⟩ = some (.int .u8 t185) := (blk_cell BK191.out 0).trans rfl
        have hcz69_1 : wr.cell? ⟨gb191, 1, none⟩ = some (.int .u32 t186) := (blk_cell BK191.out 1).trans rfl
        have hcz69_2 : wr.cell? ⟨gb191, 2, none⟩ = some (.int .u32 t187) := (blk_cell BK191.out 2).trans rfl
        have hcz69_3 : wr.cell? ⟨gb191, 3, none⟩ = some (.int .i64 t188) := (blk_cell BK191.out 3).trans rfl
        have hcz69_4 : wr.cell? ⟨gb191, 4, none⟩ = some (.int .i64 t189) := (blk_cell BK191.out 4).trans rfl
        have hfz69_0 := blk_frozen BK191.out 0
        have hfz69_1 := blk_frozen BK191.out 1
        have hfz69_2 := blk_frozen BK191.out 2
        have hfz69_3 := blk_frozen BK191.out 3
        have hfz69_4 := blk_frozen BK191.out 4
        go_wp2_with (first | ((with_reducible refine gate_callee (f := 32) rfl ?_); refine goesL_ (some 37) rfl rfl Try.func32 (by kernel_rfl) rfl #[.agg #[.int .u8 t185, .int .u32 t186, .int .u32 t187, .int .i64 t188, .int .i64 t189], .int .i64 (rd l1 x31_1)] rfl (by (try simp only [List.map_toArray, List.map_cons, List.map_nil]); first | done | rfl) ?_; (with_reducible refine (pack_Room_Fits.calls t185 t186 t187 t188 t189 (rd l1 x31_1) false _ A21.out).mono ?_); rintro e w70 ⟨rfl, hb⟩; refine ⟨_, rfl, ?_⟩; have n0_ := Aside0.mk (Kd.R_below (by (with_reducible repeat (first | apply Kd.R_alloc | apply Kd.R_drewN | apply Kd.R_drew)); exact HO_10.out) hb); have n1_ := Aside0.mk (blk_below (g := gb177) (o := .cells #[.int .u8 a0_0, .int .u32 a0_1] 49 (0, 0)) (by (with_reducible repeat (first | refine blk_drewN ?_ _ | refine blk_drew ?_ | refine blk_alloc ?_ _)); exact BK177.out) hb); have n2_ := Aside0.mk (blk_below (g := gb184) (o := .cells #[.int .u8 x185000_1, .int .u32 x185001_1, .int .u32 x185002_1, .int .i64 x185003_1, .int .i64 x185004_1] 52 (0, 0)) (by (with_reducible repeat (first | refine blk_drewN ?_ _ | refine blk_drew ?_ | refine blk_alloc ?_ _)); exact BK184.out) hb); have n3_ := Aside0.mk (blk_below (g := gb191) (o := .cells #[.int .u8 t185, .int .u32 t186, .int .u32 t187, .int .i64 t188, .int .i64 t189] 52 (0, 0)) (by (with_reducible repeat (first | refine blk_drewN ?_ _ | refine blk_drew ?_ | refine blk_alloc ?_ _)); exact BK191.out) hb); have n4_ := Aside0.mk (below_step (by repeat (first | (with_reducible first | exact HB.out | apply below_alloc | apply pw_below_drewN | apply below_drew1 | refine below_set ?_ GE177.out | refine below_set ?_ GE184.out | refine below_set ?_ GE191.out) | exact HB.out)) hb); clear HO_10; clear BK177; clear BK184; clear BK191; clear HB; have HO_10 := n0_; have BK177 := n1_; have BK184 := n2_; have BK191 := n3_; have HB := n4_; clear n0_ n1_ n2_ n3_ n4_; (try clear hb); (try clear hb2); (try clear hk); (try clear hi)))
        go_ret2
        exact ⟨_, by first | rfl | (simp [errW_none, errW_some] <;> rfl) | (simp [*, errW_none, errW_some] <;> rfl), by first | exact Kd.R_nil _ _ _ _ _ | exact Kd.N_nil _ _ _ _ _ | exact Kd.V_nil _ _ _ _ _ | exact Kd.Q_nil _ _ _ _ _ | exact Kd.S_nil _ _ _ _ _, by repeat (first | (with_reducible first | exact HB.out | apply below_alloc | apply pw_below_drewN | apply below_drew1 | refine below_set ?_ GE177.out | refine below_set ?_ GE184.out | refine below_set ?_ GE191.out) | exact HB.out)⟩
      ·
       rw [if_neg c20] at H
       exact absurd H (by simp)
     ·
      rw [if_neg c19] at H
      exact absurd H (by simp)
    ·
     rw [if_neg c18] at H
     have c18b0 : decide (x31_1 < (l1.length : Int)) = false := decide_eq_false c18
     clear c18
     simp only [Option.some.injEq, Prod.mk.injEq] at H
     obtain ⟨rfl, rfl⟩ := H
     go_wp2
     go_ret2
     exact ⟨_, by first | rfl | (simp [errW_none, errW_some] <;> rfl) | (simp [*, errW_none, errW_some] <;> rfl), by (with_reducible repeat (first | apply Kd.R_alloc | apply Kd.R_drewN | apply Kd.R_drew)); exact HO_10.out, by repeat (first | (with_reducible first | exact HB.out | apply below_alloc | apply pw_below_drewN | apply below_drew1 | refine below_set ?_ GE177.out | refine below_set ?_ GE184.out | refine below_set ?_ GE191.out) | exact HB.out)⟩
 ·
  rw [if_neg c4] at H
  have c4b0 : (t183 == 0) = false := beq_eq_false_iff_ne.mpr c4
  have c4b1 : (t183 != 0) = true := bne_iff_ne.mpr c4
  simp only [Option.some.injEq, Prod.mk.injEq] at H
  obtain ⟨rfl, rfl⟩ := H
  go_enter Try.func37, Try.ntmps37
  go_wp2_with (first | ((with_reducible refine gate_dst (N := 2) rfl ?_); refine box_event ?hg (N := 2) ?hd (cs := #[.int .u8 a0_0, .int .u32 a0_1]) (t := 49) ?hr ?_; (case hd => rfl); (case hg => rfl); (case hr => first | (go_simp; done) | (go_simp; rfl)); intro gb177 hg w71 hbox hb; have n0_ := Aside0.mk (below_step (by repeat (with_reducible first | exact HB.out | apply below_alloc | apply pw_below_drewN | apply below_drew1)) hb); have n1_ := Aside0.mk (hbox); have n2_ := Aside0.mk ((by rw [hg]; exact (below_size (by repeat (with_reducible first | exact HB.out | apply below_alloc | apply pw_below_drewN | apply below_drew1))) : w.heap.size ≤ gb177)); have n3_ := Aside0.mk ((by rw [hg]; exact (below_size (by repeat (with_reducible first | exact HB.out | apply below_alloc | apply pw_below_drewN | apply below_drew1))) : w.heap.size ≤ gb177)); clear HB; have HB := n0_; have BK177 := n1_; have GW177 := n2_; have GE177 := n3_; clear n0_ n1_ n2_ n3_; clear hb hbox hg; have hcz72_0 : w71.cell? ⟨gb177, 0, none⟩ = some (.int .u8 a0_0) := (blk_cell BK177.out 0).trans rfl; have hcz72_1 : w71.cell? ⟨gb177, 1, none⟩ = some (.int .u32 a0_1) := (blk_cell BK177.out 1).trans rfl; have hfz72_0 := blk_frozen BK177.out 0; have hfz72_1 := blk_frozen BK177.out 1) | ((with_reducible refine gate_callee (f := 29) rfl ?_); refine goesL_ (some 15) rfl rfl Try.func29 (by kernel_rfl) rfl #[.agg #[.int .u8 a0_0, .int .u32 a0_1], .int .u32 0] rfl (by (try simp only [List.map_toArray, List.map_cons, List.map_nil]); first | done | rfl) ?_; (with_reducible refine (pack_Empty.calls a0_0 a0_1 0 t178 t179 t180 t181 t182 t183 _ A3.out).mono ?_); rintro e w73 ⟨rfl, hb⟩; refine ⟨_, rfl, ?_⟩; have n0_ := Aside0.mk (blk_below (g := gb177) (o := .cells #[.int .u8 a0_0, .int .u32 a0_1] 49 (0, 0)) (by (with_reducible repeat (first | refine blk_drewN ?_ _ | refine blk_drew ?_ | refine blk_alloc ?_ _)); exact BK177.out) hb); have n1_ := Aside0.mk (below_step (by repeat (first | (with_reducible first | exact HB.out | apply below_alloc | apply pw_below_drewN | apply below_drew1 | refine below_set ?_ GE177.out) | exact HB.out)) hb); clear BK177; clear HB; have BK177 := n0_; have HB := n1_; clear n0_ n1_; (try clear hb); (try clear hb2); (try clear hk); (try clear hi)) | ((with_reducible refine gate_dst (N := 6) rfl ?_); refine box_event ?hg (N := 6) ?hd (cs := #[.int .u8 0, .int .u32 0, .int .u32 0, .int .i64 0, .int .i64 0]) (t := 52) ?hr ?_; (case hd => rfl); (case hg => rfl); (case hr => first | (go_simp; done) | (go_simp; rfl)); intro gb184 hg w74 hbox hb; have n0_ := Aside0.mk (blk_below (g := gb177) (o := .cells #[.int .u8 a0_0, .int .u32 a0_1] 49 (0, 0)) (by (with_reducible repeat (first | refine blk_drewN ?_ _ | refine blk_drew ?_ | refine blk_alloc ?_ _)); exact BK177.out) hb); have n1_ := Aside0.mk (below_step (by repeat (first | (with_reducible first | exact HB.out | apply below_alloc | apply pw_below_drewN | apply below_drew1 | refine below_set ?_ GE177.out) | exact HB.out)) hb); have n2_ := Aside0.mk (hbox); have n3_ := Aside0.mk ((by rw [hg]; exact (below_size (by repeat (first | (with_reducible first | exact HB.out | apply below_alloc | apply pw_below_drewN | apply below_drew1 | refine below_set ?_ GE177.out) | exact HB.out))) : w.heap.size ≤ gb184)); have n4_ := Aside0.mk ((by rw [hg]; exact (below_size (by repeat (first | (with_reducible first | exact HB.out | apply below_alloc | apply pw_below_drewN | apply below_drew1 | refine below_set ?_ GE177.out) | exact HB.out))) : w.heap.size ≤ gb184)); have n5_ := Aside0.mk ((by rw [hg]; exact Nat.ne_of_lt (blk_lt (g := gb177) (o := .cells #[.int .u8 a0_0, .int .u32 a0_1] 49 (0, 0)) (by (with_reducible repeat (first | refine blk_drewN ?_ _ | refine blk_drew ?_ | refine blk_alloc ?_ _)); exact BK177.out)) : gb177 ≠ gb184)); have n6_ := Aside0.mk ((by rw [hg]; exact Nat.ne_of_gt (blk_lt (g := gb177) (o := .cells #[.int .u8 a0_0, .int .u32 a0_1] 49 (0, 0)) (by (with_reducible repeat (first | refine blk_drewN ?_ _ | refine blk_drew ?_ | refine blk_alloc ?_ _)); exact BK177.out)) : gb184 ≠ gb177)); clear BK177; clear HB; have BK177 := n0_; have HB := n1_; have BK184 := n2_; have GW184 := n3_; have GE184 := n4_; have NB177_184 := n5_; have NB184_177 := n6_; clear n0_ n1_ n2_ n3_ n4_ n5_ n6_; clear hb hbox hg; have hnb75 := NB184_177.out; have hnc75 := NB177_184.out; have hcz76_0 : w74.cell? ⟨gb184, 0, none⟩ = some (.int .u8 0) := (blk_cell BK184.out 0).trans rfl; have hcz76_1 : w74.cell? ⟨gb184, 1, none⟩ = some (.int .u32 0) := (blk_cell BK184.out 1).trans rfl; have hcz76_2 : w74.cell? ⟨gb184, 2, none⟩ = some (.int .u32 0) := (blk_cell BK184.out 2).trans rfl; have hcz76_3 : w74.cell? ⟨gb184, 3, none⟩ = some (.int .i64 0) := (blk_cell BK184.out 3).trans rfl; have hcz76_4 : w74.cell? ⟨gb184, 4, none⟩ = some (.int .i64 0) := (blk_cell BK184.out 4).trans rfl; have hfz76_0 := blk_frozen BK184.out 0; have hfz76_1 := blk_frozen BK184.out 1; have hfz76_2 := blk_frozen BK184.out 2; have hfz76_3 := blk_frozen BK184.out 3; have hfz76_4 := blk_frozen BK184.out 4))
  go_ret2
  exact ⟨_, by first | rfl | (simp [errW_none, errW_some] <;> rfl) | (simp [*, errW_none, errW_some] <;> rfl), by first | exact Kd.R_nil _ _ _ _ _ | exact Kd.N_nil _ _ _ _ _ | exact Kd.V_nil _ _ _ _ _ | exact Kd.Q_nil _ _ _ _ _ | exact Kd.S_nil _ _ _ _ _, by repeat (first | (with_reducible first | exact HB.out | apply below_alloc | apply pw_below_drewN | apply below_drew1 | refine below_set ?_ GE177.out | refine below_set ?_ GE184.out) | exact HB.out)⟩

end Go.Proofs.Ytnmdckgaljldhaa.G
-- squeezed
