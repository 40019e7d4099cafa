/- Texts of a claim, one behind the other (shake.py): what it does not use is left out. -/
import Derived.Test.YtekanmieppnpeaaX2
import Derived.Lib.Strings
import Derived.OpenShut
set_option linter.unusedVariables false
set_option linter.unusedSimpArgs false
set_option maxHeartbeats 16000000
set_option maxRecDepth 100000
section
namespace Go.Proofs.Ytekanmieppnpeaa.G
open Go.RowKit Go.Proofs.YtekanmieppnpeaaW.PrintWords Go.Proofs.YtekanmieppnpeaaW.PrintLast Go.Proofs.YtekanmieppnpeaaW.PrintMore
attribute [local go_sem] max2_int min2_int max_two min_two max_three min_three max_four min_four   -- for this text's walks alone
mutual
def fascicleref02_Get.l0 : Nat → Int → Int → Int → ByteArray → Int → Int → Option (ByteArray × Int × Int × Int)
 | 0, _, _, _, _, _, _ => none
 | k + 1, x4, x5, x9, x134000, x134001, x134002 => if x9 < 10 then ((fascicleref01_Get.f k x134000 x134001 x134002 1).bind fun bt135 => (if bt135.2.2.1 = 0 then (if x9 = 9 then (fascicleref02_Get.j1 k x4 x5 x9 bt135.2.2.2 x9 (decide (bt135.2.2.2 > 1)) bt135.1 bt135.2.1 bt135.2.2.1) else (fascicleref02_Get.j1 k x4 x5 x9 bt135.2.2.2 x9 false bt135.1 bt135.2.1 bt135.2.2.1)) else (some (bt135.1, bt135.2.1, bt135.2.2.1, 0)))) else (some (x134000, x134001, x134002, x4))
def fascicleref02_Get.j1 : Nat → Int → Int → Int → Int → Int → Bool → ByteArray → Int → Int → Option (ByteArray × Int × Int × Int)
 | 0, _, _, _, _, _, _, _, _, _ => none
 | k + 1, x4, x5, x6, x8, x9, x27, x134000, x134001, x134002 => if x27 = true then ((fascicleref01_Fail.f x134000 x134001 x134002 3).bind fun bt140 => (some (bt140.1, bt140.2.1, bt140.2.2, 0))) else (if x8 ≥ 128 then (fascicleref02_Get.l0 k (IntKind.u64.wrap (x4 + (IntKind.u64.wrap ((Int.tmod x8 128) * x5)))) (IntKind.u64.wrap (x5 * 128)) (wrap64 (x9 + 1)) x134000 x134001 x134002) else (if x8 = 0 then (if x6 > 0 then ((fascicleref01_Fail.f x134000 x134001 x134002 4).bind fun bt143 => (some (bt143.1, bt143.2.1, bt143.2.2, 0))) else (some (x134000, x134001, x134002, IntKind.u64.wrap (x4 + (IntKind.u64.wrap ((Int.tmod x8 128) * x5)))))) else (some (x134000, x134001, x134002, IntKind.u64.wrap (x4 + (IntKind.u64.wrap ((Int.tmod x8 128) * x5)))))))
end
def fascicleref02_Get.f (k : Nat) (a0_0 : ByteArray) (a0_1 : Int) (a0_2 : Int) : Option (ByteArray × Int × Int × Int) := fascicleref02_Get.l0 k 0 1 0 a0_0 a0_1 a0_2
theorem fascicleref02_Get.mono_l : ∀ k, (∀ y0 y1 y2 y3 y4 y5, LeO (fascicleref02_Get.l0 k y0 y1 y2 y3 y4 y5) (fascicleref02_Get.l0 (k + 1) y0 y1 y2 y3 y4 y5)) ∧ (∀ y0 y1 y2 y3 y4 y5 y6 y7 y8, LeO (fascicleref02_Get.j1 k y0 y1 y2 y3 y4 y5 y6 y7 y8) (fascicleref02_Get.j1 (k + 1) y0 y1 y2 y3 y4 y5 y6 y7 y8))
 | 0 => ⟨fun _ _ _ _ _ _ r h => by simp [fascicleref02_Get.l0] at h, fun _ _ _ _ _ _ _ _ _ r h => by simp [fascicleref02_Get.j1] at h⟩
 | k + 1 => by
  obtain ⟨ih0, ih1⟩ := fascicleref02_Get.mono_l k
  refine ⟨?_, ?_⟩
  ·
   intro y0 y1 y2 y3 y4 y5
   unfold fascicleref02_Get.l0
   repeat' first
   | (with_reducible exact ih0 _ _ _ _ _ _)
   | (with_reducible exact ih1 _ _ _ _ _ _ _ _ _)
   | (with_reducible exact fascicleref01_Get.mono _ _ _ _ _)
   | (with_reducible exact LeO.refl _)
   | (with_reducible exact LeO.none _)
   | (with_reducible refine LeO.ite ?_ ?_)
   | (with_reducible refine LeO.bind ?_ (fun _ => ?_))
   | exact ih0 _ _ _ _ _ _
   | exact ih1 _ _ _ _ _ _ _ _ _
   | exact fascicleref01_Get.mono _ _ _ _ _
   | exact LeO.none _
   | refine LeO.ite ?_ ?_
   | refine LeO.bind ?_ (fun _ => ?_)
  ·
   intro y0 y1 y2 y3 y4 y5 y6 y7 y8
   unfold fascicleref02_Get.j1
   repeat' first
   | (with_reducible exact ih0 _ _ _ _ _ _)
   | (with_reducible exact ih1 _ _ _ _ _ _ _ _ _)
   | (with_reducible exact fascicleref01_Get.mono _ _ _ _ _)
   | (with_reducible exact LeO.refl _)
   | (with_reducible exact LeO.none _)
   | (with_reducible refine LeO.ite ?_ ?_)
   | (with_reducible refine LeO.bind ?_ (fun _ => ?_))
   | exact ih0 _ _ _ _ _ _
   | exact ih1 _ _ _ _ _ _ _ _ _
   | exact fascicleref01_Get.mono _ _ _ _ _
   | exact LeO.none _
   | refine LeO.ite ?_ ?_
   | refine LeO.bind ?_ (fun _ => ?_)
theorem fascicleref02_Get.mono : ∀ a0 a1 a2 k, LeO (fascicleref02_Get.f k a0 a1 a2) (fascicleref02_Get.f (k + 1) a0 a1 a2) := by
 intro a0 a1 a2 k
 obtain ⟨ih0, ih1⟩ := fascicleref02_Get.mono_l k
 unfold fascicleref02_Get.f
 repeat' first
   | (with_reducible exact ih0 _ _ _ _ _ _)
   | (with_reducible exact ih1 _ _ _ _ _ _ _ _ _)
   | (with_reducible exact fascicleref01_Get.mono _ _ _ _ _)
   | (with_reducible exact LeO.refl _)
   | (with_reducible exact LeO.none _)
   | (with_reducible refine LeO.ite ?_ ?_)
   | (with_reducible refine LeO.bind ?_ (fun _ => ?_))
   | exact ih0 _ _ _ _ _ _
   | exact ih1 _ _ _ _ _ _ _ _ _
   | exact fascicleref01_Get.mono _ _ _ _ _
   | exact LeO.none _
   | refine LeO.ite ?_ ?_
   | refine LeO.bind ?_ (fun _ => ?_)
theorem fascicleref02_Get.calls (k : Nat) (a0_0 : ByteArray) (a0_1 : Int) (a0_2 : Int) (r1 : ByteArray) (r2 : Int) (r3 : Int) (r4 : Int) (w : World) (h : fascicleref02_Get.f k a0_0 a0_1 a0_2 = some (r1, r2, r3, r4)) :
  Calls Try.prog 76 #[.agg #[.string a0_0, .int .i64 a0_1, .int .i64 a0_2]] w fun e w' => e = .returned (.tuple #[.agg #[.string r1, .int .i64 r2, .int .i64 r3], .int .u64 r4]) ∧ Below w.heap.size w w' := by
 have hu115 := Try.underlying115
 have HB := Aside0.mk (Below.refl w.heap.size w)
 have H : (fascicleref02_Get.l0 k 0 1 0 a0_0 a0_1 a0_2) = some (r1, r2, r3, r4) := h
 clear h
 have H' := Aside0.mk H
 clear H
 go_enter Try.func76, Try.ntmps76
 go_wp2_with (first | ((with_reducible refine gate_dst (N := 1) rfl ?_); refine box_event ?hg (N := 1) ?hd (cs := #[.string a0_0, .int .i64 a0_1, .int .i64 a0_2]) (t := 115) ?hr ?_; (case hd => rfl); (case hg => rfl); (case hr => first | (go_simp; done) | (go_simp; rfl)); intro gb133 hg w2 hbox hb; have n0_ := Aside0.mk (below_step (by repeat with_reducible first | exact HB.out | apply below_alloc | apply pw_below_drewN | apply below_drew1) hb); have n1_ := Aside0.mk (hbox); have n2_ := Aside0.mk ((by rw [hg]; exact (below_size (by repeat with_reducible first | exact HB.out | apply below_alloc | apply pw_below_drewN | apply below_drew1)) : w.heap.size ≤ gb133)); have n3_ := Aside0.mk ((by rw [hg]; exact (below_size (by repeat with_reducible first | exact HB.out | apply below_alloc | apply pw_below_drewN | apply below_drew1)) : w.heap.size ≤ gb133)); clear HB; have HB := n0_; have BK133 := n1_; have GW133 := n2_; have GE133 := n3_; clear n0_ n1_ n2_ n3_; clear hb hbox hg) | ((with_reducible refine gate_dst (N := 2) rfl ?_); refine box_event ?hg (N := 2) ?hd (cs := #[.string (⟨#[]⟩ : ByteArray), .int .i64 0, .int .i64 0]) (t := 115) ?hr ?_; (case hd => rfl); (case hg => rfl); (case hr => first | (go_simp; done) | (go_simp; rfl)); intro gb134 hg w3 hbox hb; have n0_ := Aside0.mk (blk_below (g := gb133) (o := .cells #[.string a0_0, .int .i64 a0_1, .int .i64 a0_2] 115 (0, 0)) (by (with_reducible repeat (first | refine blk_drewN ?_ _ | refine blk_drew ?_ | refine blk_alloc ?_ _)); exact BK133.out) hb); have n1_ := Aside0.mk (below_step (by repeat with_reducible first | exact HB.out | apply below_alloc | apply pw_below_drewN | apply below_drew1 | refine below_set ?_ GE133.out) hb); have n2_ := Aside0.mk (hbox); have n3_ := Aside0.mk ((by rw [hg]; exact (below_size (by repeat with_reducible first | exact HB.out | apply below_alloc | apply pw_below_drewN | apply below_drew1 | refine below_set ?_ GE133.out)) : w.heap.size ≤ gb134)); have n4_ := Aside0.mk ((by rw [hg]; exact (below_size (by repeat with_reducible first | exact HB.out | apply below_alloc | apply pw_below_drewN | apply below_drew1 | refine below_set ?_ GE133.out)) : w.heap.size ≤ gb134)); have n5_ := Aside0.mk ((by rw [hg]; exact Nat.ne_of_lt (blk_lt (g := gb133) (o := .cells #[.string a0_0, .int .i64 a0_1, .int .i64 a0_2] 115 (0, 0)) (by (with_reducible repeat (first | refine blk_drewN ?_ _ | refine blk_drew ?_ | refine blk_alloc ?_ _)); exact BK133.out)) : gb133 ≠ gb134)); have n6_ := Aside0.mk ((by rw [hg]; exact Nat.ne_of_gt (blk_lt (g := gb133) (o := .cells #[.string a0_0, .int .i64 a0_1, .int .i64 a0_2] 115 (0, 0)) (by (with_reducible repeat (first | refine blk_drewN ?_ _ | refine blk_drew ?_ | refine blk_alloc ?_ _)); exact BK133.out)) : gb134 ≠ gb133)); clear BK133; clear HB; have BK133 := n0_; have HB := n1_; have BK134 := n2_; have GW134 := n3_; have GE134 := n4_; have NB133_134 := n5_; have NB134_133 := n6_; clear n0_ n1_ n2_ n3_ n4_ n5_ n6_; clear hb hbox hg))
 go_loopg [4, 5, 9] k (fun kq v4 v5 v9 w' => ∃ (x4_1 : Int) (x5_1 : Int) (x9_1 : Int) (x134000_1 : ByteArray) (x134001_1 : Int) (x134002_1 : Int) (x135000_1 : ByteArray) (x135001_1 : Int) (x135002_1 : Int), v4 = .int .u64 x4_1 ∧ v5 = .int .u64 x5_1 ∧ v9 = .int .i64 x9_1 ∧ Aside0 (fascicleref02_Get.l0 kq x4_1 x5_1 x9_1 x134000_1 x134001_1 x134002_1 = some (r1, r2, r3, r4)) ∧ Aside0 (kq ≤ k) ∧ Aside0 (w'.heap[gb133]? = some (.cells #[.string x134000_1, .int .i64 x134001_1, .int .i64 x134002_1] 115 (0, 0))) ∧ Aside0 (w'.heap[gb134]? = some (.cells #[.string x135000_1, .int .i64 x135001_1, .int .i64 x135002_1] 115 (0, 0))) ∧ Aside0 (Below w.heap.size w w'))
 case atStart => exact ⟨(0), (1), (0), (a0_0), (a0_1), (a0_2), ((⟨#[]⟩ : ByteArray)), (0), (0), (by first | rfl | (simp; done) | (simp [*]; done) | (simp; exact (fun l : List UInt8 => (by cases l <;> rfl : l.isEmpty = !(l != ([] : List UInt8)))) _)), (by first | rfl | (simp; done) | (simp [*]; done) | (simp; exact (fun l : List UInt8 => (by cases l <;> rfl : l.isEmpty = !(l != ([] : List UInt8)))) _)), (by first | rfl | (simp; done) | (simp [*]; done) | (simp; exact (fun l : List UInt8 => (by cases l <;> rfl : l.isEmpty = !(l != ([] : List UInt8)))) _)), H', ⟨Nat.le_refl _⟩, ⟨by (with_reducible repeat (first | refine blk_drewN ?_ _ | refine blk_drew ?_ | refine blk_alloc ?_ _)); exact BK133.out⟩, ⟨by (with_reducible repeat (first | refine blk_drewN ?_ _ | refine blk_drew ?_ | refine blk_alloc ?_ _)); exact BK134.out⟩, ⟨by repeat (first | (with_reducible first | exact HB.out | apply below_alloc | apply pw_below_drewN | apply below_drew1 | refine below_set ?_ GE133.out | refine below_set ?_ GE134.out) | exact HB.out)⟩⟩
 case round =>
  clear H'
  try clear p2
  obtain ⟨x4_1, x5_1, x9_1, x134000_1, x134001_1, x134002_1, x135000_1, x135001_1, x135002_1, rfl, rfl, rfl, HA, HK1, BK133, BK134, HB⟩ := hrel
  cases gk with
  | zero => exact absurd HA.out (by simp [fascicleref02_Get.l0])
  | succ k1 =>
   have H := HA.out
   clear HA
   simp only [fascicleref02_Get.l0] at H
   by_cases c4 : x9_1 < 10
   ·
    rw [if_pos c4] at H
    have c4b0 : decide (x9_1 < 10) = true := decide_eq_true c4
    clear c4
    replace H := Option.bind_eq_some_iff.mp H
    obtain ⟨⟨t135, t136, t137, t138⟩, A50, H⟩ := H
    replace H : (if t137 = 0 then (if x9_1 = 9 then (fascicleref02_Get.j1 k1 x4_1 x5_1 x9_1 t138 x9_1 (decide (t138 > 1)) t135 t136 t137) else (fascicleref02_Get.j1 k1 x4_1 x5_1 x9_1 t138 x9_1 false t135 t136 t137)) else (some (t135, t136, t137, 0))) = some (r1, r2, r3, r4) := H
    have A5 := Aside0.mk A50
    clear A50
    by_cases c6 : t137 = 0
    ·
     rw [if_pos c6] at H
     have c6b0 : (t137 == 0) = true := beq_iff_eq.mpr c6
     have c6b1 : (t137 != 0) = false := bne_eq_false_iff_eq.mpr c6
     clear c6
     have HC7 := Aside0.mk H
     clear H
     have hnb8 := NB133_134.out
     have hnc8 := NB134_133.out
     have hcz9_0 : wr.cell? ⟨gb133, 0, none⟩ = some (.string x134000_1) := (blk_cell BK133.out 0).trans rfl
     have hcz9_1 : wr.cell? ⟨gb133, 1, none⟩ = some (.int .i64 x134001_1) := (blk_cell BK133.out 1).trans rfl
     have hcz9_2 : wr.cell? ⟨gb133, 2, none⟩ = some (.int .i64 x134002_1) := (blk_cell BK133.out 2).trans rfl
     have hfz9_0 := blk_frozen BK133.out 0
     have hfz9_1 := blk_frozen BK133.out 1
     have hfz9_2 := blk_frozen BK133.out 2
     go_upto_region 10 with (first | ((with_reducible refine gate_callee (f := 75) rfl ?_); refine goesL_ (some 14) rfl rfl Try.func75 (by kernel_rfl) rfl #[.agg #[.string x134000_1, .int .i64 x134001_1, .int .i64 x134002_1], .int .i64 1] rfl (by (try simp only [mA, mB, mC]); first | done | rfl) ?_; (with_reducible refine (fascicleref01_Get.calls k1 x134000_1 x134001_1 x134002_1 1 t135 t136 t137 t138 _ A5.out).mono ?_); rintro e w10 ⟨rfl, hb⟩; refine ⟨_, rfl, ?_⟩; replace BK133 := Aside0.mk (blk_below (g := gb133) (o := .cells #[.string x134000_1, .int .i64 x134001_1, .int .i64 x134002_1] 115 (0, 0)) (by (with_reducible repeat (first | refine blk_drewN ?_ _ | refine blk_drew ?_ | refine blk_alloc ?_ _)); exact BK133.out) hb); replace BK134 := Aside0.mk (blk_below (g := gb134) (o := .cells #[.string x135000_1, .int .i64 x135001_1, .int .i64 x135002_1] 115 (0, 0)) (by (with_reducible repeat (first | refine blk_drewN ?_ _ | refine blk_drew ?_ | refine blk_alloc ?_ _)); exact BK134.out) hb); replace HB := Aside0.mk (below_step (by repeat with_reducible first | exact HB.out | apply below_alloc | apply pw_below_drewN | apply below_drew1 | refine below_set ?_ GE133.out | refine below_set ?_ GE134.out) hb); (try clear hb)) | ((with_reducible refine gate_dst (N := 7) rfl ?_); refine box_event ?hg (N := 7) ?hd (cs := #[.string (⟨#[]⟩ : ByteArray), .int .i64 0, .int .i64 0]) (t := 115) ?hr ?_; (case hd => rfl); (case hg => rfl); (case hr => first | (go_simp; done) | (go_simp; rfl)); intro gb139 hg w11 hbox hb; have n0_ := Aside0.mk (blk_below (g := gb133) (o := .cells #[.string x134000_1, .int .i64 x134001_1, .int .i64 x134002_1] 115 (0, 0)) (by (with_reducible repeat (first | refine blk_drewN ?_ _ | refine blk_drew ?_ | refine blk_alloc ?_ _)); exact BK133.out) hb); have n1_ := Aside0.mk (blk_below (g := gb134) (o := .cells #[.string x135000_1, .int .i64 x135001_1, .int .i64 x135002_1] 115 (0, 0)) (by (with_reducible repeat (first | refine blk_drewN ?_ _ | refine blk_drew ?_ | refine blk_alloc ?_ _)); exact BK134.out) hb); have n2_ := Aside0.mk (below_step (by repeat with_reducible first | exact HB.out | apply below_alloc | apply pw_below_drewN | apply below_drew1 | refine below_set ?_ GE133.out | refine below_set ?_ GE134.out) hb); have n3_ := Aside0.mk (hbox); have n4_ := Aside0.mk ((by rw [hg]; exact (below_size (by repeat with_reducible first | exact HB.out | apply below_alloc | apply pw_below_drewN | apply below_drew1 | refine below_set ?_ GE133.out | refine below_set ?_ GE134.out)) : w.heap.size ≤ gb139)); have n5_ := Aside0.mk ((by rw [hg]; exact (below_size (by repeat with_reducible first | exact HB.out | apply below_alloc | apply pw_below_drewN | apply below_drew1 | refine below_set ?_ GE133.out | refine below_set ?_ GE134.out)) : w.heap.size ≤ gb139)); have n6_ := Aside0.mk ((by rw [hg]; exact Nat.ne_of_lt (blk_lt (g := gb133) (o := .cells #[.string x134000_1, .int .i64 x134001_1, .int .i64 x134002_1] 115 (0, 0)) (by (with_reducible repeat (first | refine blk_drewN ?_ _ | refine blk_drew ?_ | refine blk_alloc ?_ _)); exact BK133.out)) : gb133 ≠ gb139)); have n7_ := Aside0.mk ((by rw [hg]; exact Nat.ne_of_gt (blk_lt (g := gb133) (o := .cells #[.string x134000_1, .int .i64 x134001_1, .int .i64 x134002_1] 115 (0, 0)) (by (with_reducible repeat (first | refine blk_drewN ?_ _ | refine blk_drew ?_ | refine blk_alloc ?_ _)); exact BK133.out)) : gb139 ≠ gb133)); have n8_ := Aside0.mk ((by rw [hg]; exact Nat.ne_of_lt (blk_lt (g := gb134) (o := .cells #[.string x135000_1, .int .i64 x135001_1, .int .i64 x135002_1] 115 (0, 0)) (by (with_reducible repeat (first | refine blk_drewN ?_ _ | refine blk_drew ?_ | refine blk_alloc ?_ _)); exact BK134.out)) : gb134 ≠ gb139)); have n9_ := Aside0.mk ((by rw [hg]; exact Nat.ne_of_gt (blk_lt (g := gb134) (o := .cells #[.string x135000_1, .int .i64 x135001_1, .int .i64 x135002_1] 115 (0, 0)) (by (with_reducible repeat (first | refine blk_drewN ?_ _ | refine blk_drew ?_ | refine blk_alloc ?_ _)); exact BK134.out)) : gb139 ≠ gb134)); clear BK133; clear BK134; clear HB; have BK133 := n0_; have BK134 := n1_; have HB := n2_; have BK139 := n3_; have GW139 := n4_; have GE139 := n5_; have NB133_139 := n6_; have NB139_133 := n7_; have NB134_139 := n8_; have NB139_134 := n9_; clear n0_ n1_ n2_ n3_ n4_ n5_ n6_ n7_ n8_ n9_; clear hb hbox hg; have hnb12 := NB139_133.out; have hnc12 := NB133_139.out; have hnb13 := NB139_134.out; have hnc13 := NB134_139.out; have hcz14_0 : w11.cell? ⟨gb139, 0, none⟩ = some (.string (⟨#[]⟩ : ByteArray)) := (blk_cell BK139.out 0).trans rfl; have hcz14_1 : w11.cell? ⟨gb139, 1, none⟩ = some (.int .i64 0) := (blk_cell BK139.out 1).trans rfl; have hcz14_2 : w11.cell? ⟨gb139, 2, none⟩ = some (.int .i64 0) := (blk_cell BK139.out 2).trans rfl; have hfz14_0 := blk_frozen BK139.out 0; have hfz14_1 := blk_frozen BK139.out 1; have hfz14_2 := blk_frozen BK139.out 2; have hcz15_0 : w11.cell? ⟨gb133, 0, none⟩ = some (.string x134000_1) := (blk_cell BK133.out 0).trans rfl; have hcz15_1 : w11.cell? ⟨gb133, 1, none⟩ = some (.int .i64 x134001_1) := (blk_cell BK133.out 1).trans rfl; have hcz15_2 : w11.cell? ⟨gb133, 2, none⟩ = some (.int .i64 x134002_1) := (blk_cell BK133.out 2).trans rfl; have hfz15_0 := blk_frozen BK133.out 0; have hfz15_1 := blk_frozen BK133.out 1; have hfz15_2 := blk_frozen BK133.out 2))
     (try simp only [Act.put, sA, sB, sC])
     go_cut [27] (fun v27 wc => ∃ (kq : Nat) (x27_6 : Bool), v27 = .bool x27_6 ∧ Aside0 (fascicleref02_Get.j1 kq x4_1 x5_1 x9_1 t138 x9_1 x27_6 t135 t136 t137 = some (r1, r2, r3, r4)) ∧ Aside0 (kq ≤ k1) ∧ Aside0 (wc.heap[gb133]? = some (.cells #[.string t135, .int .i64 t136, .int .i64 t137] 115 (0, 0))) ∧ Aside0 (wc.heap[gb134]? = some (.cells #[.string x135000_1, .int .i64 x135001_1, .int .i64 x135002_1] 115 (0, 0))) ∧ Aside0 (wc.heap[gb139]? = some (.cells #[.string t135, .int .i64 t136, .int .i64 t137] 115 (0, 0))) ∧ Aside0 (Below w.heap.size w wc))
     case first =>
      have H := HC7.out
      clear HC7
      by_cases c16 : x9_1 = 9
      ·
       rw [if_pos c16] at H
       have c16b0 : (x9_1 == 9) = true := beq_iff_eq.mpr c16
       have c16b1 : (x9_1 != 9) = false := bne_eq_false_iff_eq.mpr c16
       clear c16
       (first | rw [c16b0] | (simp only [i64_w, i32_w]; rw [c16b0]) | skip)
       have H' := Aside0.mk H
       clear H
       go_wp2
       go_meet
       case rel => exact ⟨_, (decide (t138 > 1)), (by first | rfl | (simp; done) | (simp [*]; done) | (simp; exact (fun l : List UInt8 => (by cases l <;> rfl : l.isEmpty = !(l != ([] : List UInt8)))) _)), H', ⟨by have := HK1.out; first | omega | exact Nat.le_refl _⟩, ⟨by (with_reducible repeat (first | refine blk_drewN ?_ _ | refine blk_drew ?_ | refine blk_alloc ?_ _)); refine blk_put (cs := #[.string t135, .int .i64 t136, .int .i64 x134002_1]) ?_ 2 _ rfl; refine blk_put (cs := #[.string t135, .int .i64 x134001_1, .int .i64 x134002_1]) ?_ 1 _ rfl; refine blk_put (cs := #[.string x134000_1, .int .i64 x134001_1, .int .i64 x134002_1]) ?_ 0 _ rfl; (with_reducible repeat (first | refine blk_drewN ?_ _ | refine blk_drew ?_ | refine blk_alloc ?_ _)); refine blk_far ?_ NB133_139.out _; refine blk_far ?_ NB133_139.out _; refine blk_far ?_ NB133_139.out _; (with_reducible repeat (first | refine blk_drewN ?_ _ | refine blk_drew ?_ | refine blk_alloc ?_ _)); exact BK133.out⟩, ⟨by (with_reducible repeat (first | refine blk_drewN ?_ _ | refine blk_drew ?_ | refine blk_alloc ?_ _)); refine blk_far ?_ NB134_133.out _; refine blk_far ?_ NB134_133.out _; refine blk_far ?_ NB134_133.out _; (with_reducible repeat (first | refine blk_drewN ?_ _ | refine blk_drew ?_ | refine blk_alloc ?_ _)); refine blk_far ?_ NB134_139.out _; refine blk_far ?_ NB134_139.out _; refine blk_far ?_ NB134_139.out _; (with_reducible repeat (first | refine blk_drewN ?_ _ | refine blk_drew ?_ | refine blk_alloc ?_ _)); exact BK134.out⟩, ⟨by (with_reducible repeat (first | refine blk_drewN ?_ _ | refine blk_drew ?_ | refine blk_alloc ?_ _)); refine blk_far ?_ NB139_133.out _; refine blk_far ?_ NB139_133.out _; refine blk_far ?_ NB139_133.out _; (with_reducible repeat (first | refine blk_drewN ?_ _ | refine blk_drew ?_ | refine blk_alloc ?_ _)); refine blk_put (cs := #[.string t135, .int .i64 t136, .int .i64 0]) ?_ 2 _ rfl; refine blk_put (cs := #[.string t135, .int .i64 0, .int .i64 0]) ?_ 1 _ rfl; refine blk_put (cs := #[.string (⟨#[]⟩ : ByteArray), .int .i64 0, .int .i64 0]) ?_ 0 _ rfl; (with_reducible repeat (first | refine blk_drewN ?_ _ | refine blk_drew ?_ | refine blk_alloc ?_ _)); exact BK139.out⟩, ⟨by repeat (first | (with_reducible first | exact HB.out | apply below_alloc | apply pw_below_drewN | apply below_drew1 | refine below_set ?_ GE133.out | refine below_set ?_ GE134.out | refine below_set ?_ GE139.out) | exact HB.out)⟩⟩
      ·
       rw [if_neg c16] at H
       have c16b0 : (x9_1 == 9) = false := beq_eq_false_iff_ne.mpr c16
       have c16b1 : (x9_1 != 9) = true := bne_iff_ne.mpr c16
       (first | rw [c16b0] | (simp only [i64_w, i32_w]; rw [c16b0]) | skip)
       have H' := Aside0.mk H
       clear H
       go_wp2
       go_meet
       case rel => exact ⟨_, (false), (by first | rfl | (simp; done) | (simp [*]; done) | (simp; exact (fun l : List UInt8 => (by cases l <;> rfl : l.isEmpty = !(l != ([] : List UInt8)))) _)), H', ⟨by have := HK1.out; first | omega | exact Nat.le_refl _⟩, ⟨by (with_reducible repeat (first | refine blk_drewN ?_ _ | refine blk_drew ?_ | refine blk_alloc ?_ _)); refine blk_put (cs := #[.string t135, .int .i64 t136, .int .i64 x134002_1]) ?_ 2 _ rfl; refine blk_put (cs := #[.string t135, .int .i64 x134001_1, .int .i64 x134002_1]) ?_ 1 _ rfl; refine blk_put (cs := #[.string x134000_1, .int .i64 x134001_1, .int .i64 x134002_1]) ?_ 0 _ rfl; (with_reducible repeat (first | refine blk_drewN ?_ _ | refine blk_drew ?_ | refine blk_alloc ?_ _)); refine blk_far ?_ NB133_139.out _; refine blk_far ?_ NB133_139.out _; refine blk_far ?_ NB133_139.out _; (with_reducible repeat (first | refine blk_drewN ?_ _ | refine blk_drew ?_ | refine blk_alloc ?_ _)); exact BK133.out⟩, ⟨by (with_reducible repeat (first | refine blk_drewN ?_ _ | refine blk_drew ?_ | refine blk_alloc ?_ _)); refine blk_far ?_ NB134_133.out _; refine blk_far ?_ NB134_133.out _; refine blk_far ?_ NB134_133.out _; (with_reducible repeat (first | refine blk_drewN ?_ _ | refine blk_drew ?_ | refine blk_alloc ?_ _)); refine blk_far ?_ NB134_139.out _; refine blk_far ?_ NB134_139.out _; refine blk_far ?_ NB134_139.out _; (with_reducible repeat (first | refine blk_drewN ?_ _ | refine blk_drew ?_ | refine blk_alloc ?_ _)); exact BK134.out⟩, ⟨by (with_reducible repeat (first | refine blk_drewN ?_ _ | refine blk_drew ?_ | refine blk_alloc ?_ _)); refine blk_far ?_ NB139_133.out _; refine blk_far ?_ NB139_133.out _; refine blk_far ?_ NB139_133.out _; (with_reducible repeat (first | refine blk_drewN ?_ _ | refine blk_drew ?_ | refine blk_alloc ?_ _)); refine blk_put (cs := #[.string t135, .int .i64 t136, .int .i64 0]) ?_ 2 _ rfl; refine blk_put (cs := #[.string t135, .int .i64 0, .int .i64 0]) ?_ 1 _ rfl; refine blk_put (cs := #[.string (⟨#[]⟩ : ByteArray), .int .i64 0, .int .i64 0]) ?_ 0 _ rfl; (with_reducible repeat (first | refine blk_drewN ?_ _ | refine blk_drew ?_ | refine blk_alloc ?_ _)); exact BK139.out⟩, ⟨by repeat (first | (with_reducible first | exact HB.out | apply below_alloc | apply pw_below_drewN | apply below_drew1 | refine below_set ?_ GE133.out | refine below_set ?_ GE134.out | refine below_set ?_ GE139.out) | exact HB.out)⟩⟩
     case rest =>
      clear HC7
      try clear c1
      try clear p2
      try clear c4
      try clear c4b0
      try clear c6
      try clear c6b0
      try clear c6b1
      try clear c7
      try clear c8
      try clear c12
      try clear c13
      try clear c16
      try clear c16b0
      try clear c16b1
      try clear hcz14_0
      try clear hcz14_1
      try clear hcz14_2
      try clear hcz15_0
      try clear hcz15_1
      try clear hcz15_2
      try clear hcz9_0
      try clear hcz9_1
      try clear hcz9_2
      try clear hfz14_0
      try clear hfz14_1
      try clear hfz14_2
      try clear hfz15_0
      try clear hfz15_1
      try clear hfz15_2
      try clear hfz9_0
      try clear hfz9_1
      try clear hfz9_2
      try clear p2
      obtain ⟨kq, x27_6, rfl, HA, HJ6, BK133, BK134, BK139, HB⟩ := hcut
      cases kq with
      | zero => exact absurd HA.out (by simp [fascicleref02_Get.j1])
      | succ kj6 =>
       have H := HA.out
       clear HA
       simp only [fascicleref02_Get.j1] at H
       by_cases c17 : x27_6 = true
       ·
        subst c17
        have H1 : ((fascicleref01_Fail.f t135 t136 t137 3).bind fun bt140 => (some (bt140.1, bt140.2.1, bt140.2.2, 0))) = some (r1, r2, r3, r4) := by rw [if_pos rfl] at H; exact H
        clear H
        have H := H1
        clear H1
        replace H := Option.bind_eq_some_iff.mp H
        obtain ⟨⟨t140, t141, t142⟩, A180, H⟩ := H
        replace H : (some (t140, t141, t142, 0)) = some (r1, r2, r3, r4) := H
        have A18 := Aside0.mk A180
        clear A180
        simp only [Option.some.injEq, Prod.mk.injEq] at H
        obtain ⟨rfl, rfl, rfl, rfl⟩ := H
        have hnb19 := NB133_134.out
        have hnc19 := NB134_133.out
        have hnb20 := NB133_139.out
        have hnc20 := NB139_133.out
        have hcz21_0 : wc.cell? ⟨gb133, 0, none⟩ = some (.string t135) := (blk_cell BK133.out 0).trans rfl
        have hcz21_1 : wc.cell? ⟨gb133, 1, none⟩ = some (.int .i64 t136) := (blk_cell BK133.out 1).trans rfl
        have hcz21_2 : wc.cell? ⟨gb133, 2, none⟩ = some (.int .i64 t137) := (blk_cell BK133.out 2).trans rfl
        have hfz21_0 := blk_frozen BK133.out 0
        have hfz21_1 := blk_frozen BK133.out 1
        have hfz21_2 := blk_frozen BK133.out 2
        go_wp2_with (first | ((with_reducible refine gate_callee (f := 126) rfl ?_); refine goesL_ (some 29) rfl rfl Try.func126 (by kernel_rfl) rfl #[.agg #[.string t135, .int .i64 t136, .int .i64 t137], .int .i64 3] rfl (by (try simp only [mA, mB, mC]); first | done | rfl) ?_; (with_reducible refine (fascicleref01_Fail.calls t135 t136 t137 3 t140 t141 t142 _ A18.out).mono ?_); rintro e w22 ⟨rfl, hb⟩; refine ⟨_, rfl, ?_⟩; replace BK133 := Aside0.mk (blk_below (g := gb133) (o := .cells #[.string t135, .int .i64 t136, .int .i64 t137] 115 (0, 0)) (by (with_reducible repeat (first | refine blk_drewN ?_ _ | refine blk_drew ?_ | refine blk_alloc ?_ _)); exact BK133.out) hb); replace BK134 := Aside0.mk (blk_below (g := gb134) (o := .cells #[.string x135000_1, .int .i64 x135001_1, .int .i64 x135002_1] 115 (0, 0)) (by (with_reducible repeat (first | refine blk_drewN ?_ _ | refine blk_drew ?_ | refine blk_alloc ?_ _)); exact BK134.out) hb); replace BK139 := Aside0.mk (blk_below (g := gb139) (o := .cells #[.string t135, .int .i64 t136, .int .i64 t137] 115 (0, 0)) (by (with_reducible repeat (first | refine blk_drewN ?_ _ | refine blk_drew ?_ | refine blk_alloc ?_ _)); exact BK139.out) hb); replace HB := Aside0.mk (below_step (by repeat with_reducible first | exact HB.out | apply below_alloc | apply pw_below_drewN | apply below_drew1 | refine below_set ?_ GE133.out | refine below_set ?_ GE134.out | refine below_set ?_ GE139.out) hb); (try clear hb); have hnb23 := NB134_139.out; have hnc23 := NB139_134.out; have hcz24_0 : w22.cell? ⟨gb134, 0, none⟩ = some (.string x135000_1) := (blk_cell BK134.out 0).trans rfl; have hcz24_1 : w22.cell? ⟨gb134, 1, none⟩ = some (.int .i64 x135001_1) := (blk_cell BK134.out 1).trans rfl; have hcz24_2 : w22.cell? ⟨gb134, 2, none⟩ = some (.int .i64 x135002_1) := (blk_cell BK134.out 2).trans rfl; have hfz24_0 := blk_frozen BK134.out 0; have hfz24_1 := blk_frozen BK134.out 1; have hfz24_2 := blk_frozen BK134.out 2))
        refine bodyPost_ret (results_ct rfl _ _ gb134 115 #[.string t140, .int .i64 t141, .int .i64 t142] (0, 0) _ rfl (by (with_reducible repeat (first | refine blk_drewN ?_ _ | refine blk_drew ?_ | refine blk_alloc ?_ _)); refine blk_put (cs := #[.string t140, .int .i64 t141, .int .i64 x135002_1]) ?_ 2 _ rfl; refine blk_put (cs := #[.string t140, .int .i64 x135001_1, .int .i64 x135002_1]) ?_ 1 _ rfl; refine blk_put (cs := #[.string x135000_1, .int .i64 x135001_1, .int .i64 x135002_1]) ?_ 0 _ rfl; (with_reducible repeat (first | refine blk_drewN ?_ _ | refine blk_drew ?_ | refine blk_alloc ?_ _)); exact BK134.out) Try.underlying115 rfl (by kernel_rfl)) rfl ?_
        exact ⟨by first | rfl | (simp <;> rfl) | (simp [*] <;> rfl), by repeat (first | (with_reducible first | exact HB.out | apply below_alloc | apply pw_below_drewN | apply below_drew1 | refine below_set ?_ GE133.out | refine below_set ?_ GE134.out | refine below_set ?_ GE139.out) | exact HB.out)⟩
       ·
        replace c17 := Bool.eq_false_iff.mpr c17
        subst c17
        have H1 : (if t138 ≥ 128 then (fascicleref02_Get.l0 kj6 (IntKind.u64.wrap (x4_1 + (IntKind.u64.wrap ((Int.tmod t138 128) * x5_1)))) (IntKind.u64.wrap (x5_1 * 128)) (wrap64 (x9_1 + 1)) t135 t136 t137) else (if t138 = 0 then (if x9_1 > 0 then ((fascicleref01_Fail.f t135 t136 t137 4).bind fun bt143 => (some (bt143.1, bt143.2.1, bt143.2.2, 0))) else (some (t135, t136, t137, IntKind.u64.wrap (x4_1 + (IntKind.u64.wrap ((Int.tmod t138 128) * x5_1)))))) else (some (t135, t136, t137, IntKind.u64.wrap (x4_1 + (IntKind.u64.wrap ((Int.tmod t138 128) * x5_1))))))) = some (r1, r2, r3, r4) := by rw [if_neg (show ¬ (false = true) by decide)] at H; exact H
        clear H
        have H := H1
        clear H1
        by_cases c25 : t138 ≥ 128
        ·
         rw [if_pos c25] at H
         have c25b0 : decide (128 ≤ t138) = true := decide_eq_true c25
         clear c25
         have H' := Aside0.mk H
         clear H
         go_wp2
         go_roundg kj6
         case measure => have := HK1.out; have := HJ6.out; omega
         case rel => exact ⟨(IntKind.u64.wrap (x4_1 + (IntKind.u64.wrap ((Int.tmod t138 128) * x5_1)))), (IntKind.u64.wrap (x5_1 * 128)), (wrap64 (x9_1 + 1)), (t135), (t136), (t137), (x135000_1), (x135001_1), (x135002_1), (by first | rfl | (simp; done) | (simp [*]; done) | (simp; exact (fun l : List UInt8 => (by cases l <;> rfl : l.isEmpty = !(l != ([] : List UInt8)))) _)), (by first | rfl | (simp; done) | (simp [*]; done) | (simp; exact (fun l : List UInt8 => (by cases l <;> rfl : l.isEmpty = !(l != ([] : List UInt8)))) _)), (by first | rfl | (simp; done) | (simp [*]; done) | (simp; exact (fun l : List UInt8 => (by cases l <;> rfl : l.isEmpty = !(l != ([] : List UInt8)))) _)), H', ⟨by have := HK1.out; have := HJ6.out; omega⟩, ⟨by (with_reducible repeat (first | refine blk_drewN ?_ _ | refine blk_drew ?_ | refine blk_alloc ?_ _)); exact BK133.out⟩, ⟨by (with_reducible repeat (first | refine blk_drewN ?_ _ | refine blk_drew ?_ | refine blk_alloc ?_ _)); exact BK134.out⟩, ⟨by repeat (first | (with_reducible first | exact HB.out | apply below_alloc | apply pw_below_drewN | apply below_drew1 | refine below_set ?_ GE133.out | refine below_set ?_ GE134.out | refine below_set ?_ GE139.out) | exact HB.out)⟩⟩
        ·
         rw [if_neg c25] at H
         have c25b0 : decide (128 ≤ t138) = false := decide_eq_false c25
         clear c25
         by_cases c26 : t138 = 0
         ·
          rw [if_pos c26] at H
          have c26b0 : (t138 == 0) = true := beq_iff_eq.mpr c26
          have c26b1 : (t138 != 0) = false := bne_eq_false_iff_eq.mpr c26
          clear c26
          by_cases c27 : x9_1 > 0
          ·
           rw [if_pos c27] at H
           have c27b0 : decide (0 < x9_1) = true := decide_eq_true c27
           clear c27
           replace H := Option.bind_eq_some_iff.mp H
           obtain ⟨⟨t143, t144, t145⟩, A280, H⟩ := H
           replace H : (some (t143, t144, t145, 0)) = some (r1, r2, r3, r4) := H
           have A28 := Aside0.mk A280
           clear A280
           simp only [Option.some.injEq, Prod.mk.injEq] at H
           obtain ⟨rfl, rfl, rfl, rfl⟩ := H
           have hnb29 := NB133_134.out
           have hnc29 := NB134_133.out
           have hnb30 := NB133_139.out
           have hnc30 := NB139_133.out
           have hcz31_0 : wc.cell? ⟨gb133, 0, none⟩ = some (.string t135) := (blk_cell BK133.out 0).trans rfl
           have hcz31_1 : wc.cell? ⟨gb133, 1, none⟩ = some (.int .i64 t136) := (blk_cell BK133.out 1).trans rfl
           have hcz31_2 : wc.cell? ⟨gb133, 2, none⟩ = some (.int .i64 t137) := (blk_cell BK133.out 2).trans rfl
           have hfz31_0 := blk_frozen BK133.out 0
           have hfz31_1 := blk_frozen BK133.out 1
           have hfz31_2 := blk_frozen BK133.out 2
           go_wp2_with (first | ((with_reducible refine gate_callee (f := 126) rfl ?_); refine goesL_ (some 47) rfl rfl Try.func126 (by kernel_rfl) rfl #[.agg #[.string t135, .int .i64 t136, .int .i64 t137], .int .i64 4] rfl (by (try simp only [mA, mB, mC]); first | done | rfl) ?_; (with_reducible refine (fascicleref01_Fail.calls t135 t136 t137 4 t143 t144 t145 _ A28.out).mono ?_); rintro e w32 ⟨rfl, hb⟩; refine ⟨_, rfl, ?_⟩; replace BK133 := Aside0.mk (blk_below (g := gb133) (o := .cells #[.string t135, .int .i64 t136, .int .i64 t137] 115 (0, 0)) (by (with_reducible repeat (first | refine blk_drewN ?_ _ | refine blk_drew ?_ | refine blk_alloc ?_ _)); exact BK133.out) hb); replace BK134 := Aside0.mk (blk_below (g := gb134) (o := .cells #[.string x135000_1, .int .i64 x135001_1, .int .i64 x135002_1] 115 (0, 0)) (by (with_reducible repeat (first | refine blk_drewN ?_ _ | refine blk_drew ?_ | refine blk_alloc ?_ _)); exact BK134.out) hb); replace BK139 := Aside0.mk (blk_below (g := gb139) (o := .cells #[.string t135, .int .i64 t136, .int .i64 t137] 115 (0, 0)) (by (with_reducible repeat (first | refine blk_drewN ?_ _ | refine blk_drew ?_ | refine blk_alloc ?_ _)); exact BK139.out) hb); replace HB := Aside0.mk (below_step (by repeat with_reducible first | exact HB.out | apply below_alloc | apply pw_below_drewN | apply below_drew1 | refine below_set ?_ GE133.out | refine below_set ?_ GE134.out | refine below_set ?_ GE139.out) hb); (try clear hb); have hnb33 := NB134_139.out; have hnc33 := NB139_134.out; have hcz34_0 : w32.cell? ⟨gb134, 0, none⟩ = some (.string x135000_1) := (blk_cell BK134.out 0).trans rfl; have hcz34_1 : w32.cell? ⟨gb134, 1, none⟩ = some (.int .i64 x135001_1) := (blk_cell BK134.out 1).trans rfl; have hcz34_2 : w32.cell? ⟨gb134, 2, none⟩ = some (.int .i64 x135002_1) := (blk_cell BK134.out 2).trans rfl; have hfz34_0 := blk_frozen BK134.out 0; have hfz34_1 := blk_frozen BK134.out 1; have hfz34_2 := blk_frozen BK134.out 2))
           refine bodyPost_ret (results_ct rfl _ _ gb134 115 #[.string t143, .int .i64 t144, .int .i64 t145] (0, 0) _ rfl (by (with_reducible repeat (first | refine blk_drewN ?_ _ | refine blk_drew ?_ | refine blk_alloc ?_ _)); refine blk_put (cs := #[.string t143, .int .i64 t144, .int .i64 x135002_1]) ?_ 2 _ rfl; refine blk_put (cs := #[.string t143, .int .i64 x135001_1, .int .i64 x135002_1]) ?_ 1 _ rfl; refine blk_put (cs := #[.string x135000_1, .int .i64 x135001_1, .int .i64 x135002_1]) ?_ 0 _ rfl; (with_reducible repeat (first | refine blk_drewN ?_ _ | refine blk_drew ?_ | refine blk_alloc ?_ _)); exact BK134.out) Try.underlying115 rfl (by kernel_rfl)) rfl ?_
           exact ⟨by first | rfl | (simp <;> rfl) | (simp [*] <;> rfl), by repeat (first | (with_reducible first | exact HB.out | apply below_alloc | apply pw_below_drewN | apply below_drew1 | refine below_set ?_ GE133.out | refine below_set ?_ GE134.out | refine below_set ?_ GE139.out) | exact HB.out)⟩
          ·
           rw [if_neg c27] at H
           have c27b0 : decide (0 < x9_1) = false := decide_eq_false c27
           clear c27
           simp only [Option.some.injEq, Prod.mk.injEq] at H
           obtain ⟨rfl, rfl, rfl, rfl⟩ := H
           have hnb35 := NB133_134.out
           have hnc35 := NB134_133.out
           have hnb36 := NB133_139.out
           have hnc36 := NB139_133.out
           have hcz37_0 : wc.cell? ⟨gb133, 0, none⟩ = some (.string t135) := (blk_cell BK133.out 0).trans rfl
           have hcz37_1 : wc.cell? ⟨gb133, 1, none⟩ = some (.int .i64 t136) := (blk_cell BK133.out 1).trans rfl
           have hcz37_2 : wc.cell? ⟨gb133, 2, none⟩ = some (.int .i64 t137) := (blk_cell BK133.out 2).trans rfl
           have hfz37_0 := blk_frozen BK133.out 0
           have hfz37_1 := blk_frozen BK133.out 1
           have hfz37_2 := blk_frozen BK133.out 2
           have hnb38 := NB134_139.out
           have hnc38 := NB139_134.out
           have hcz39_0 : wc.cell? ⟨gb134, 0, none⟩ = some (.string x135000_1) := (blk_cell BK134.out 0).trans rfl
           have hcz39_1 : wc.cell? ⟨gb134, 1, none⟩ = some (.int .i64 x135001_1) := (blk_cell BK134.out 1).trans rfl
           have hcz39_2 : wc.cell? ⟨gb134, 2, none⟩ = some (.int .i64 x135002_1) := (blk_cell BK134.out 2).trans rfl
           have hfz39_0 := blk_frozen BK134.out 0
           have hfz39_1 := blk_frozen BK134.out 1
           have hfz39_2 := blk_frozen BK134.out 2
           go_wp2
           refine bodyPost_ret (results_ct rfl _ _ gb134 115 #[.string t135, .int .i64 t136, .int .i64 t137] (0, 0) _ rfl (by (with_reducible repeat (first | refine blk_drewN ?_ _ | refine blk_drew ?_ | refine blk_alloc ?_ _)); refine blk_put (cs := #[.string t135, .int .i64 t136, .int .i64 x135002_1]) ?_ 2 _ rfl; refine blk_put (cs := #[.string t135, .int .i64 x135001_1, .int .i64 x135002_1]) ?_ 1 _ rfl; refine blk_put (cs := #[.string x135000_1, .int .i64 x135001_1, .int .i64 x135002_1]) ?_ 0 _ rfl; (with_reducible repeat (first | refine blk_drewN ?_ _ | refine blk_drew ?_ | refine blk_alloc ?_ _)); exact BK134.out) Try.underlying115 rfl (by kernel_rfl)) rfl ?_
           exact ⟨by first | rfl | (simp <;> rfl) | (simp [*] <;> rfl), by repeat (first | (with_reducible first | exact HB.out | apply below_alloc | apply pw_below_drewN | apply below_drew1 | refine below_set ?_ GE133.out | refine below_set ?_ GE134.out | refine below_set ?_ GE139.out) | exact HB.out)⟩
         ·
          rw [if_neg c26] at H
          have c26b0 : (t138 == 0) = false := beq_eq_false_iff_ne.mpr c26
          have c26b1 : (t138 != 0) = true := bne_iff_ne.mpr c26
          simp only [Option.some.injEq, Prod.mk.injEq] at H
          obtain ⟨rfl, rfl, rfl, rfl⟩ := H
          have hnb40 := NB133_134.out
          have hnc40 := NB134_133.out
          have hnb41 := NB133_139.out
          have hnc41 := NB139_133.out
          have hcz42_0 : wc.cell? ⟨gb133, 0, none⟩ = some (.string t135) := (blk_cell BK133.out 0).trans rfl
          have hcz42_1 : wc.cell? ⟨gb133, 1, none⟩ = some (.int .i64 t136) := (blk_cell BK133.out 1).trans rfl
          have hcz42_2 : wc.cell? ⟨gb133, 2, none⟩ = some (.int .i64 t137) := (blk_cell BK133.out 2).trans rfl
          have hfz42_0 := blk_frozen BK133.out 0
          have hfz42_1 := blk_frozen BK133.out 1
          have hfz42_2 := blk_frozen BK133.out 2
          have hnb43 := NB134_139.out
          have hnc43 := NB139_134.out
          have hcz44_0 : wc.cell? ⟨gb134, 0, none⟩ = some (.string x135000_1) := (blk_cell BK134.out 0).trans rfl
          have hcz44_1 : wc.cell? ⟨gb134, 1, none⟩ = some (.int .i64 x135001_1) := (blk_cell BK134.out 1).trans rfl
          have hcz44_2 : wc.cell? ⟨gb134, 2, none⟩ = some (.int .i64 x135002_1) := (blk_cell BK134.out 2).trans rfl
          have hfz44_0 := blk_frozen BK134.out 0
          have hfz44_1 := blk_frozen BK134.out 1
          have hfz44_2 := blk_frozen BK134.out 2
          go_wp2
          refine bodyPost_ret (results_ct rfl _ _ gb134 115 #[.string t135, .int .i64 t136, .int .i64 t137] (0, 0) _ rfl (by (with_reducible repeat (first | refine blk_drewN ?_ _ | refine blk_drew ?_ | refine blk_alloc ?_ _)); refine blk_put (cs := #[.string t135, .int .i64 t136, .int .i64 x135002_1]) ?_ 2 _ rfl; refine blk_put (cs := #[.string t135, .int .i64 x135001_1, .int .i64 x135002_1]) ?_ 1 _ rfl; refine blk_put (cs := #[.string x135000_1, .int .i64 x135001_1, .int .i64 x135002_1]) ?_ 0 _ rfl; (with_reducible repeat (first | refine blk_drewN ?_ _ | refine blk_drew ?_ | refine blk_alloc ?_ _)); exact BK134.out) Try.underlying115 rfl (by kernel_rfl)) rfl ?_
          exact ⟨by first | rfl | (simp <;> rfl) | (simp [*] <;> rfl), by repeat (first | (with_reducible first | exact HB.out | apply below_alloc | apply pw_below_drewN | apply below_drew1 | refine below_set ?_ GE133.out | refine below_set ?_ GE134.out | refine below_set ?_ GE139.out) | exact HB.out)⟩
    ·
     rw [if_neg c6] at H
     have c6b0 : (t137 == 0) = false := beq_eq_false_iff_ne.mpr c6
     have c6b1 : (t137 != 0) = true := bne_iff_ne.mpr c6
     simp only [Option.some.injEq, Prod.mk.injEq] at H
     obtain ⟨rfl, rfl, rfl, rfl⟩ := H
     have hnb45 := NB133_134.out
     have hnc45 := NB134_133.out
     have hcz46_0 : wr.cell? ⟨gb133, 0, none⟩ = some (.string x134000_1) := (blk_cell BK133.out 0).trans rfl
     have hcz46_1 : wr.cell? ⟨gb133, 1, none⟩ = some (.int .i64 x134001_1) := (blk_cell BK133.out 1).trans rfl
     have hcz46_2 : wr.cell? ⟨gb133, 2, none⟩ = some (.int .i64 x134002_1) := (blk_cell BK133.out 2).trans rfl
     have hfz46_0 := blk_frozen BK133.out 0
     have hfz46_1 := blk_frozen BK133.out 1
     have hfz46_2 := blk_frozen BK133.out 2
     go_wp2_with (first | ((with_reducible refine gate_callee (f := 75) rfl ?_); refine goesL_ (some 14) rfl rfl Try.func75 (by kernel_rfl) rfl #[.agg #[.string x134000_1, .int .i64 x134001_1, .int .i64 x134002_1], .int .i64 1] rfl (by (try simp only [mA, mB, mC]); first | done | rfl) ?_; (with_reducible refine (fascicleref01_Get.calls k1 x134000_1 x134001_1 x134002_1 1 t135 t136 t137 t138 _ A5.out).mono ?_); rintro e w47 ⟨rfl, hb⟩; refine ⟨_, rfl, ?_⟩; replace BK133 := Aside0.mk (blk_below (g := gb133) (o := .cells #[.string x134000_1, .int .i64 x134001_1, .int .i64 x134002_1] 115 (0, 0)) (by (with_reducible repeat (first | refine blk_drewN ?_ _ | refine blk_drew ?_ | refine blk_alloc ?_ _)); exact BK133.out) hb); replace BK134 := Aside0.mk (blk_below (g := gb134) (o := .cells #[.string x135000_1, .int .i64 x135001_1, .int .i64 x135002_1] 115 (0, 0)) (by (with_reducible repeat (first | refine blk_drewN ?_ _ | refine blk_drew ?_ | refine blk_alloc ?_ _)); exact BK134.out) hb); replace HB := Aside0.mk (below_step (by repeat with_reducible first | exact HB.out | apply below_alloc | apply pw_below_drewN | apply below_drew1 | refine below_set ?_ GE133.out | refine below_set ?_ GE134.out) hb); (try clear hb)) | ((with_reducible refine gate_dst (N := 7) rfl ?_); refine box_event ?hg (N := 7) ?hd (cs := #[.string (⟨#[]⟩ : ByteArray), .int .i64 0, .int .i64 0]) (t := 115) ?hr ?_; (case hd => rfl); (case hg => rfl); (case hr => first | (go_simp; done) | (go_simp; rfl)); intro gb139 hg w48 hbox hb; have n0_ := Aside0.mk (blk_below (g := gb133) (o := .cells #[.string x134000_1, .int .i64 x134001_1, .int .i64 x134002_1] 115 (0, 0)) (by (with_reducible repeat (first | refine blk_drewN ?_ _ | refine blk_drew ?_ | refine blk_alloc ?_ _)); exact BK133.out) hb); have n1_ := Aside0.mk (blk_below (g := gb134) (o := .cells #[.string x135000_1, .int .i64 x135001_1, .int .i64 x135002_1] 115 (0, 0)) (by (with_reducible repeat (first | refine blk_drewN ?_ _ | refine blk_drew ?_ | refine blk_alloc ?_ _)); exact BK134.out) hb); have n2_ := Aside0.mk (below_step (by repeat with_reducible first | exact HB.out | apply below_alloc | apply pw_below_drewN | apply below_drew1 | refine below_set ?_ GE133.out | refine below_set ?_ GE134.out) hb); have n3_ := Aside0.mk (hbox); have n4_ := Aside0.mk ((by rw [hg]; exact (below_size (by repeat with_reducible first | exact HB.out | apply below_alloc | apply pw_below_drewN | apply below_drew1 | refine below_set ?_ GE133.out | refine below_set ?_ GE134.out)) : w.heap.size ≤ gb139)); have n5_ := Aside0.mk ((by rw [hg]; exact (below_size (by repeat with_reducible first | exact HB.out | apply below_alloc | apply pw_below_drewN | apply below_drew1 | refine below_set ?_ GE133.out | refine below_set ?_ GE134.out)) : w.heap.size ≤ gb139)); have n6_ := Aside0.mk ((by rw [hg]; exact Nat.ne_of_lt (blk_lt (g := gb133) (o := .cells #[.string x134000_1, .int .i64 x134001_1, .int .i64 x134002_1] 115 (0, 0)) (by (with_reducible repeat (first | refine blk_drewN ?_ _ | refine blk_drew ?_ | refine blk_alloc ?_ _)); exact BK133.out)) : gb133 ≠ gb139)); have n7_ := Aside0.mk ((by rw [hg]; exact Nat.ne_of_gt (blk_lt (g := gb133) (o := .cells #[.string x134000_1, .int .i64 x134001_1, .int .i64 x134002_1] 115 (0, 0)) (by (with_reducible repeat (first | refine blk_drewN ?_ _ | refine blk_drew ?_ | refine blk_alloc ?_ _)); exact BK133.out)) : gb139 ≠ gb133)); have n8_ := Aside0.mk ((by rw [hg]; exact Nat.ne_of_lt (blk_lt (g := gb134) (o := .cells #[.string x135000_1, .int .i64 x135001_1, .int .i64 x135002_1] 115 (0, 0)) (by (with_reducible repeat (first | refine blk_drewN ?_ _ | refine blk_drew ?_ | refine blk_alloc ?_ _)); exact BK134.out)) : gb134 ≠ gb139)); have n9_ := Aside0.mk ((by rw [hg]; exact Nat.ne_of_gt (blk_lt (g := gb134) (o := .cells #[.string x135000_1, .int .i64 x135001_1, .int .i64 x135002_1] 115 (0, 0)) (by (with_reducible repeat (first | refine blk_drewN ?_ _ | refine blk_drew ?_ | refine blk_alloc ?_ _)); exact BK134.out)) : gb139 ≠ gb134)); clear BK133; clear BK134; clear HB; have BK133 := n0_; have BK134 := n1_; have HB := n2_; have BK139 := n3_; have GW139 := n4_; have GE139 := n5_; have NB133_139 := n6_; have NB139_133 := n7_; have NB134_139 := n8_; have NB139_134 := n9_; clear n0_ n1_ n2_ n3_ n4_ n5_ n6_ n7_ n8_ n9_; clear hb hbox hg; have hnb49 := NB139_133.out; have hnc49 := NB133_139.out; have hnb50 := NB139_134.out; have hnc50 := NB134_139.out; have hcz51_0 : w48.cell? ⟨gb139, 0, none⟩ = some (.string (⟨#[]⟩ : ByteArray)) := (blk_cell BK139.out 0).trans rfl; have hcz51_1 : w48.cell? ⟨gb139, 1, none⟩ = some (.int .i64 0) := (blk_cell BK139.out 1).trans rfl; have hcz51_2 : w48.cell? ⟨gb139, 2, none⟩ = some (.int .i64 0) := (blk_cell BK139.out 2).trans rfl; have hfz51_0 := blk_frozen BK139.out 0; have hfz51_1 := blk_frozen BK139.out 1; have hfz51_2 := blk_frozen BK139.out 2; have hcz52_0 : w48.cell? ⟨gb133, 0, none⟩ = some (.string x134000_1) := (blk_cell BK133.out 0).trans rfl; have hcz52_1 : w48.cell? ⟨gb133, 1, none⟩ = some (.int .i64 x134001_1) := (blk_cell BK133.out 1).trans rfl; have hcz52_2 : w48.cell? ⟨gb133, 2, none⟩ = some (.int .i64 x134002_1) := (blk_cell BK133.out 2).trans rfl; have hfz52_0 := blk_frozen BK133.out 0; have hfz52_1 := blk_frozen BK133.out 1; have hfz52_2 := blk_frozen BK133.out 2; have hcz53_0 : w48.cell? ⟨gb134, 0, none⟩ = some (.string x135000_1) := (blk_cell BK134.out 0).trans rfl; have hcz53_1 : w48.cell? ⟨gb134, 1, none⟩ = some (.int .i64 x135001_1) := (blk_cell BK134.out 1).trans rfl; have hcz53_2 : w48.cell? ⟨gb134, 2, none⟩ = some (.int .i64 x135002_1) := (blk_cell BK134.out 2).trans rfl; have hfz53_0 := blk_frozen BK134.out 0; have hfz53_1 := blk_frozen BK134.out 1; have hfz53_2 := blk_frozen BK134.out 2))
     refine bodyPost_ret (results_ct rfl _ _ gb134 115 #[.string t135, .int .i64 t136, .int .i64 t137] (0, 0) _ rfl (by (with_reducible repeat (first | refine blk_drewN ?_ _ | refine blk_drew ?_ | refine blk_alloc ?_ _)); refine blk_put (cs := #[.string t135, .int .i64 t136, .int .i64 x135002_1]) ?_ 2 _ rfl; refine blk_put (cs := #[.string t135, .int .i64 x135001_1, .int .i64 x135002_1]) ?_ 1 _ rfl; refine blk_put (cs := #[.string x135000_1, .int .i64 x135001_1, .int .i64 x135002_1]) ?_ 0 _ rfl; (with_reducible repeat (first | refine blk_drewN ?_ _ | refine blk_drew ?_ | refine blk_alloc ?_ _)); refine blk_far ?_ NB134_133.out _; refine blk_far ?_ NB134_133.out _; refine blk_far ?_ NB134_133.out _; (with_reducible repeat (first | refine blk_drewN ?_ _ | refine blk_drew ?_ | refine blk_alloc ?_ _)); refine blk_far ?_ NB134_139.out _; refine blk_far ?_ NB134_139.out _; refine blk_far ?_ NB134_139.out _; (with_reducible repeat (first | refine blk_drewN ?_ _ | refine blk_drew ?_ | refine blk_alloc ?_ _)); exact BK134.out) Try.underlying115 rfl (by kernel_rfl)) rfl ?_
     exact ⟨by first | rfl | (simp <;> rfl) | (simp [*] <;> rfl), by repeat (first | (with_reducible first | exact HB.out | apply below_alloc | apply pw_below_drewN | apply below_drew1 | refine below_set ?_ GE133.out | refine below_set ?_ GE134.out | refine below_set ?_ GE139.out) | exact HB.out)⟩
   ·
    rw [if_neg c4] at H
    have c4b0 : decide (x9_1 < 10) = false := decide_eq_false c4
    clear c4
    simp only [Option.some.injEq, Prod.mk.injEq] at H
    obtain ⟨rfl, rfl, rfl, rfl⟩ := H
    have hnb54 := NB133_134.out
    have hnc54 := NB134_133.out
    have hcz55_0 : wr.cell? ⟨gb133, 0, none⟩ = some (.string x134000_1) := (blk_cell BK133.out 0).trans rfl
    have hcz55_1 : wr.cell? ⟨gb133, 1, none⟩ = some (.int .i64 x134001_1) := (blk_cell BK133.out 1).trans rfl
    have hcz55_2 : wr.cell? ⟨gb133, 2, none⟩ = some (.int .i64 x134002_1) := (blk_cell BK133.out 2).trans rfl
    have hfz55_0 := blk_frozen BK133.out 0
    have hfz55_1 := blk_frozen BK133.out 1
    have hfz55_2 := blk_frozen BK133.out 2
    have hcz56_0 : wr.cell? ⟨gb134, 0, none⟩ = some (.string x135000_1) := (blk_cell BK134.out 0).trans rfl
    have hcz56_1 : wr.cell? ⟨gb134, 1, none⟩ = some (.int .i64 x135001_1) := (blk_cell BK134.out 1).trans rfl
    have hcz56_2 : wr.cell? ⟨gb134, 2, none⟩ = some (.int .i64 x135002_1) := (blk_cell BK134.out 2).trans rfl
    have hfz56_0 := blk_frozen BK134.out 0
    have hfz56_1 := blk_frozen BK134.out 1
    have hfz56_2 := blk_frozen BK134.out 2
    go_wp2
    refine bodyPost_ret (results_ct rfl _ _ gb134 115 #[.string x134000_1, .int .i64 x134001_1, .int .i64 x134002_1] (0, 0) _ rfl (by (with_reducible repeat (first | refine blk_drewN ?_ _ | refine blk_drew ?_ | refine blk_alloc ?_ _)); refine blk_put (cs := #[.string x134000_1, .int .i64 x134001_1, .int .i64 x135002_1]) ?_ 2 _ rfl; refine blk_put (cs := #[.string x134000_1, .int .i64 x135001_1, .int .i64 x135002_1]) ?_ 1 _ rfl; refine blk_put (cs := #[.string x135000_1, .int .i64 x135001_1, .int .i64 x135002_1]) ?_ 0 _ rfl; (with_reducible repeat (first | refine blk_drewN ?_ _ | refine blk_drew ?_ | refine blk_alloc ?_ _)); exact BK134.out) Try.underlying115 rfl (by kernel_rfl)) rfl ?_
    exact ⟨by first | rfl | (simp <;> rfl) | (simp [*] <;> rfl), by repeat (first | (with_reducible first | exact HB.out | apply below_alloc | apply pw_below_drewN | apply below_drew1 | refine below_set ?_ GE133.out | refine below_set ?_ GE134.out) | exact HB.out)⟩
mutual
def fascicleref02_GetText.j0 : Nat → Int → Int → Bool → ByteArray → Int → Int → Option (ByteArray × Int × Int × ByteArray)
 | 0, _, _, _, _, _, _ => none
 | k + 1, x1, x8, x23, x147000, x147001, x147002 => if x23 = true then ((fascicleref01_Fail.f x147000 x147001 x147002 3).bind fun bt152 => (fascicleref02_GetText.j1 k x1 x8 bt152.1 bt152.2.1 bt152.2.2)) else (fascicleref02_GetText.j1 k x1 x8 x147000 x147001 x147002)
def fascicleref02_GetText.j1 : Nat → Int → Int → ByteArray → Int → Int → Option (ByteArray × Int × Int × ByteArray)
 | 0, _, _, _, _, _ => none
 | k + 1, x1, x8, x147000, x147001, x147002 => if x147002 = 0 then (fascicleref02_GetText.j2 k x8 (decide (x8 < (IntKind.u64.wrap (mx 0 x1)))) x147000 x147001 x147002) else (fascicleref02_GetText.j2 k x8 false x147000 x147001 x147002)
def fascicleref02_GetText.j2 : Nat → Int → Bool → ByteArray → Int → Int → Option (ByteArray × Int × Int × ByteArray)
 | 0, _, _, _, _, _ => none
 | k + 1, x8, x35, x147000, x147001, x147002 => if x35 = true then ((fascicleref01_Fail.f x147000 x147001 x147002 4).bind fun bt155 => (if bt155.2.2 = 0 then ((fascicleref01_Take.f k bt155.1 bt155.2.1 bt155.2.2 (wrap64 (x8))).bind fun bt158 => (some (bt158.1, bt158.2.1, bt158.2.2.1, bt158.2.2.2))) else (some (bt155.1, bt155.2.1, bt155.2.2, (⟨#[]⟩ : ByteArray))))) else (if x147002 = 0 then ((fascicleref01_Take.f k x147000 x147001 x147002 (wrap64 (x8))).bind fun bt162 => (some (bt162.1, bt162.2.1, bt162.2.2.1, bt162.2.2.2))) else (some (x147000, x147001, x147002, (⟨#[]⟩ : ByteArray))))
end
def fascicleref02_GetText.f (k : Nat) (a0_0 : ByteArray) (a0_1 : Int) (a0_2 : Int) (a1 : Int) (a2 : Int) : Option (ByteArray × Int × Int × ByteArray) := (fascicleref02_Get.f k a0_0 a0_1 a0_2).bind fun bt148 => (if bt148.2.2.1 = 0 then (fascicleref02_GetText.j0 k a1 bt148.2.2.2 (decide (bt148.2.2.2 > (IntKind.u64.wrap (mx 0 a2)))) bt148.1 bt148.2.1 bt148.2.2.1) else (fascicleref02_GetText.j0 k a1 bt148.2.2.2 false bt148.1 bt148.2.1 bt148.2.2.1))
theorem fascicleref02_GetText.mono_l : ∀ k, (∀ y0 y1 y2 y3 y4 y5, LeO (fascicleref02_GetText.j0 k y0 y1 y2 y3 y4 y5) (fascicleref02_GetText.j0 (k + 1) y0 y1 y2 y3 y4 y5)) ∧ (∀ y0 y1 y2 y3 y4, LeO (fascicleref02_GetText.j1 k y0 y1 y2 y3 y4) (fascicleref02_GetText.j1 (k + 1) y0 y1 y2 y3 y4)) ∧ (∀ y0 y1 y2 y3 y4, LeO (fascicleref02_GetText.j2 k y0 y1 y2 y3 y4) (fascicleref02_GetText.j2 (k + 1) y0 y1 y2 y3 y4))
 | 0 => ⟨fun _ _ _ _ _ _ r h => by simp [fascicleref02_GetText.j0] at h, fun _ _ _ _ _ r h => by simp [fascicleref02_GetText.j1] at h, fun _ _ _ _ _ r h => by simp [fascicleref02_GetText.j2] at h⟩
 | k + 1 => by
  obtain ⟨ih0, ih1, ih2⟩ := fascicleref02_GetText.mono_l k
  refine ⟨?_, ?_, ?_⟩
  ·
   intro y0 y1 y2 y3 y4 y5
   unfold fascicleref02_GetText.j0
   repeat' first
   | (with_reducible exact ih0 _ _ _ _ _ _)
   | (with_reducible exact ih1 _ _ _ _ _)
   | (with_reducible exact ih2 _ _ _ _ _)
   | (with_reducible exact fascicleref01_Take.mono _ _ _ _ _)
   | (with_reducible exact fascicleref02_Get.mono _ _ _ _)
   | (with_reducible exact LeO.refl _)
   | (with_reducible exact LeO.none _)
   | (with_reducible refine LeO.ite ?_ ?_)
   | (with_reducible refine LeO.bind ?_ (fun _ => ?_))
   | exact ih0 _ _ _ _ _ _
   | exact ih1 _ _ _ _ _
   | exact ih2 _ _ _ _ _
   | exact fascicleref01_Take.mono _ _ _ _ _
   | exact fascicleref02_Get.mono _ _ _ _
   | exact LeO.none _
   | refine LeO.ite ?_ ?_
   | refine LeO.bind ?_ (fun _ => ?_)
  ·
   intro y0 y1 y2 y3 y4
   unfold fascicleref02_GetText.j1
   repeat' first
   | (with_reducible exact ih0 _ _ _ _ _ _)
   | (with_reducible exact ih1 _ _ _ _ _)
   | (with_reducible exact ih2 _ _ _ _ _)
   | (with_reducible exact fascicleref01_Take.mono _ _ _ _ _)
   | (with_reducible exact fascicleref02_Get.mono _ _ _ _)
   | (with_reducible exact LeO.refl _)
   | (with_reducible exact LeO.none _)
   | (with_reducible refine LeO.ite ?_ ?_)
   | (with_reducible refine LeO.bind ?_ (fun _ => ?_))
   | exact ih0 _ _ _ _ _ _
   | exact ih1 _ _ _ _ _
   | exact ih2 _ _ _ _ _
   | exact fascicleref01_Take.mono _ _ _ _ _
   | exact fascicleref02_Get.mono _ _ _ _
   | exact LeO.none _
   | refine LeO.ite ?_ ?_
   | refine LeO.bind ?_ (fun _ => ?_)
  ·
   intro y0 y1 y2 y3 y4
   unfold fascicleref02_GetText.j2
   repeat' first
   | (with_reducible exact ih0 _ _ _ _ _ _)
   | (with_reducible exact ih1 _ _ _ _ _)
   | (with_reducible exact ih2 _ _ _ _ _)
   | (with_reducible exact fascicleref01_Take.mono _ _ _ _ _)
   | (with_reducible exact fascicleref02_Get.mono _ _ _ _)
   | (with_reducible exact LeO.refl _)
   | (with_reducible exact LeO.none _)
   | (with_reducible refine LeO.ite ?_ ?_)
   | (with_reducible refine LeO.bind ?_ (fun _ => ?_))
   | exact ih0 _ _ _ _ _ _
   | exact ih1 _ _ _ _ _
   | exact ih2 _ _ _ _ _
   | exact fascicleref01_Take.mono _ _ _ _ _
   | exact fascicleref02_Get.mono _ _ _ _
   | exact LeO.none _
   | refine LeO.ite ?_ ?_
   | refine LeO.bind ?_ (fun _ => ?_)
theorem fascicleref02_GetText.mono : ∀ a0 a1 a2 a3 a4 k, LeO (fascicleref02_GetText.f k a0 a1 a2 a3 a4) (fascicleref02_GetText.f (k + 1) a0 a1 a2 a3 a4) := by
 intro a0 a1 a2 a3 a4 k
 obtain ⟨ih0, ih1, ih2⟩ := fascicleref02_GetText.mono_l k
 unfold fascicleref02_GetText.f
 repeat' first
   | (with_reducible exact ih0 _ _ _ _ _ _)
   | (with_reducible exact ih1 _ _ _ _ _)
   | (with_reducible exact ih2 _ _ _ _ _)
   | (with_reducible exact fascicleref01_Take.mono _ _ _ _ _)
   | (with_reducible exact fascicleref02_Get.mono _ _ _ _)
   | (with_reducible exact LeO.refl _)
   | (with_reducible exact LeO.none _)
   | (with_reducible refine LeO.ite ?_ ?_)
   | (with_reducible refine LeO.bind ?_ (fun _ => ?_))
   | exact ih0 _ _ _ _ _ _
   | exact ih1 _ _ _ _ _
   | exact ih2 _ _ _ _ _
   | exact fascicleref01_Take.mono _ _ _ _ _
   | exact fascicleref02_Get.mono _ _ _ _
   | exact LeO.none _
   | refine LeO.ite ?_ ?_
   | refine LeO.bind ?_ (fun _ => ?_)
theorem fascicleref02_GetText.calls (k : Nat) (a0_0 : ByteArray) (a0_1 : Int) (a0_2 : Int) (a1 : Int) (a2 : Int) (r1 : ByteArray) (r2 : Int) (r3 : Int) (r4 : ByteArray) (w : World) (h : fascicleref02_GetText.f k a0_0 a0_1 a0_2 a1 a2 = some (r1, r2, r3, r4)) :
  Calls Try.prog 132 #[.agg #[.string a0_0, .int .i64 a0_1, .int .i64 a0_2], .int .i64 a1, .int .i64 a2] w fun e w' => e = .returned (.tuple #[.agg #[.string r1, .int .i64 r2, .int .i64 r3], .string r4]) ∧ Below w.heap.size w w' := by
 have hu115 := Try.underlying115
 have HB := Aside0.mk (Below.refl w.heap.size w)
 have H : ((fascicleref02_Get.f k a0_0 a0_1 a0_2).bind fun bt148 => (if bt148.2.2.1 = 0 then (fascicleref02_GetText.j0 k a1 bt148.2.2.2 (decide (bt148.2.2.2 > (IntKind.u64.wrap (mx 0 a2)))) bt148.1 bt148.2.1 bt148.2.2.1) else (fascicleref02_GetText.j0 k a1 bt148.2.2.2 false bt148.1 bt148.2.1 bt148.2.2.1))) = some (r1, r2, r3, r4) := h
 clear h
 replace H := Option.bind_eq_some_iff.mp H
 obtain ⟨⟨t148, t149, t150, t151⟩, A40, H⟩ := H
 replace H : (if t150 = 0 then (fascicleref02_GetText.j0 k a1 t151 (decide (t151 > (IntKind.u64.wrap (mx 0 a2)))) t148 t149 t150) else (fascicleref02_GetText.j0 k a1 t151 false t148 t149 t150)) = some (r1, r2, r3, r4) := H
 have A4 := Aside0.mk A40
 clear A40
 have HC5 := Aside0.mk H
 clear H
 go_enter Try.func132, Try.ntmps132
 go_upto_region 2 with (first | ((with_reducible refine gate_dst (N := 3) rfl ?_); (try (refine gate_guard (by rfl) ?_; dsimp only)); refine box_event ?hg (N := 3) ?hd (cs := #[.string a0_0, .int .i64 a0_1, .int .i64 a0_2]) (t := 115) ?hr ?_; (case hd => rfl); (case hg => rfl); (case hr => first | (go_simp; done) | (go_simp; rfl)); intro gb146 hg w6 hbox hb; have n0_ := Aside0.mk (below_step (by repeat with_reducible first | exact HB.out | apply below_alloc | apply pw_below_drewN | apply below_drew1) hb); have n1_ := Aside0.mk (hbox); have n2_ := Aside0.mk ((by rw [hg]; exact (below_size (by repeat with_reducible first | exact HB.out | apply below_alloc | apply pw_below_drewN | apply below_drew1)) : w.heap.size ≤ gb146)); have n3_ := Aside0.mk ((by rw [hg]; exact (below_size (by repeat with_reducible first | exact HB.out | apply below_alloc | apply pw_below_drewN | apply below_drew1)) : w.heap.size ≤ gb146)); clear HB; have HB := n0_; have BK146 := n1_; have GW146 := n2_; have GE146 := n3_; clear n0_ n1_ n2_ n3_; clear hb hbox hg) | ((with_reducible refine gate_dst (N := 6) rfl ?_); (try (refine gate_guard (by rfl) ?_; dsimp only)); refine box_event ?hg (N := 6) ?hd (cs := #[.string (⟨#[]⟩ : ByteArray), .int .i64 0, .int .i64 0]) (t := 115) ?hr ?_; (case hd => rfl); (case hg => rfl); (case hr => first | (go_simp; done) | (go_simp; rfl)); intro gb147 hg w7 hbox hb; have n0_ := Aside0.mk (blk_below (g := gb146) (o := .cells #[.string a0_0, .int .i64 a0_1, .int .i64 a0_2] 115 (0, 0)) (by (with_reducible repeat (first | refine blk_drewN ?_ _ | refine blk_drew ?_ | refine blk_alloc ?_ _)); exact BK146.out) hb); have n1_ := Aside0.mk (below_step (by repeat with_reducible first | exact HB.out | apply below_alloc | apply pw_below_drewN | apply below_drew1 | refine below_set ?_ GE146.out) hb); have n2_ := Aside0.mk (hbox); have n3_ := Aside0.mk ((by rw [hg]; exact (below_size (by repeat with_reducible first | exact HB.out | apply below_alloc | apply pw_below_drewN | apply below_drew1 | refine below_set ?_ GE146.out)) : w.heap.size ≤ gb147)); have n4_ := Aside0.mk ((by rw [hg]; exact (below_size (by repeat with_reducible first | exact HB.out | apply below_alloc | apply pw_below_drewN | apply below_drew1 | refine below_set ?_ GE146.out)) : w.heap.size ≤ gb147)); have n5_ := Aside0.mk ((by rw [hg]; exact Nat.ne_of_lt (blk_lt (g := gb146) (o := .cells #[.string a0_0, .int .i64 a0_1, .int .i64 a0_2] 115 (0, 0)) (by (with_reducible repeat (first | refine blk_drewN ?_ _ | refine blk_drew ?_ | refine blk_alloc ?_ _)); exact BK146.out)) : gb146 ≠ gb147)); have n6_ := Aside0.mk ((by rw [hg]; exact Nat.ne_of_gt (blk_lt (g := gb146) (o := .cells #[.string a0_0, .int .i64 a0_1, .int .i64 a0_2] 115 (0, 0)) (by (with_reducible repeat (first | refine blk_drewN ?_ _ | refine blk_drew ?_ | refine blk_alloc ?_ _)); exact BK146.out)) : gb147 ≠ gb146)); clear BK146; clear HB; have BK146 := n0_; have HB := n1_; have BK147 := n2_; have GW147 := n3_; have GE147 := n4_; have NB146_147 := n5_; have NB147_146 := n6_; clear n0_ n1_ n2_ n3_ n4_ n5_ n6_; clear hb hbox hg; have hnb8 := NB146_147.out; have hnc8 := NB147_146.out; have hcz9_0 : w7.cell? ⟨gb146, 0, none⟩ = some (.string a0_0) := (blk_cell BK146.out 0).trans rfl; have hcz9_1 : w7.cell? ⟨gb146, 1, none⟩ = some (.int .i64 a0_1) := (blk_cell BK146.out 1).trans rfl; have hcz9_2 : w7.cell? ⟨gb146, 2, none⟩ = some (.int .i64 a0_2) := (blk_cell BK146.out 2).trans rfl; have hfz9_0 := blk_frozen BK146.out 0; have hfz9_1 := blk_frozen BK146.out 1; have hfz9_2 := blk_frozen BK146.out 2) | ((with_reducible refine gate_callee (f := 76) rfl ?_); refine goesL_ (some 11) rfl rfl Try.func76 (by kernel_rfl) rfl #[.agg #[.string a0_0, .int .i64 a0_1, .int .i64 a0_2]] rfl (by (try simp only [mA, mB, mC]); first | done | rfl) ?_; (with_reducible refine (fascicleref02_Get.calls k a0_0 a0_1 a0_2 t148 t149 t150 t151 _ A4.out).mono ?_); rintro e w10 ⟨rfl, hb⟩; refine ⟨_, rfl, ?_⟩; replace BK146 := Aside0.mk (blk_below (g := gb146) (o := .cells #[.string a0_0, .int .i64 a0_1, .int .i64 a0_2] 115 (0, 0)) (by (with_reducible repeat (first | refine blk_drewN ?_ _ | refine blk_drew ?_ | refine blk_alloc ?_ _)); exact BK146.out) hb); replace BK147 := Aside0.mk (blk_below (g := gb147) (o := .cells #[.string (⟨#[]⟩ : ByteArray), .int .i64 0, .int .i64 0] 115 (0, 0)) (by (with_reducible repeat (first | refine blk_drewN ?_ _ | refine blk_drew ?_ | refine blk_alloc ?_ _)); exact BK147.out) hb); replace HB := Aside0.mk (below_step (by repeat with_reducible first | exact HB.out | apply below_alloc | apply pw_below_drewN | apply below_drew1 | refine below_set ?_ GE146.out | refine below_set ?_ GE147.out) hb); (try clear hb); have hcz11_0 : w10.cell? ⟨gb146, 0, none⟩ = some (.string a0_0) := (blk_cell BK146.out 0).trans rfl; have hcz11_1 : w10.cell? ⟨gb146, 1, none⟩ = some (.int .i64 a0_1) := (blk_cell BK146.out 1).trans rfl; have hcz11_2 : w10.cell? ⟨gb146, 2, none⟩ = some (.int .i64 a0_2) := (blk_cell BK146.out 2).trans rfl; have hfz11_0 := blk_frozen BK146.out 0; have hfz11_1 := blk_frozen BK146.out 1; have hfz11_2 := blk_frozen BK146.out 2))
 (try simp only [Act.put, sA, sB, sC])
 go_cut [23] (fun v23 wc => ∃ (kq : Nat) (x23_4 : Bool), v23 = .bool x23_4 ∧ Aside0 (fascicleref02_GetText.j0 kq a1 t151 x23_4 t148 t149 t150 = some (r1, r2, r3, r4)) ∧ Aside0 (kq ≤ k) ∧ Aside0 (wc.heap[gb146]? = some (.cells #[.string t148, .int .i64 t149, .int .i64 t150] 115 (0, 0))) ∧ Aside0 (wc.heap[gb147]? = some (.cells #[.string (⟨#[]⟩ : ByteArray), .int .i64 0, .int .i64 0] 115 (0, 0))) ∧ Aside0 (Below w.heap.size w wc))
 case first =>
  have H := HC5.out
  clear HC5
  by_cases c12 : t150 = 0
  ·
   rw [if_pos c12] at H
   have c12b0 : (t150 == 0) = true := beq_iff_eq.mpr c12
   have c12b1 : (t150 != 0) = false := bne_eq_false_iff_eq.mpr c12
   clear c12
   (first | rw [c12b0] | (simp only [i64_w, i32_w]; rw [c12b0]) | skip)
   obtain ⟨ji13, hji13⟩ : ∃ j_ : Int, (mx 0 a2) = j_ := ⟨_, rfl⟩
   replace H : (fascicleref02_GetText.j0 k a1 t151 (decide (t151 > (IntKind.u64.wrap (ji13)))) t148 t149 t150) = some (r1, r2, r3, r4) := by first | (rw [hji13] at H; exact H) | (simp only [hji13] at H ⊢; exact H)
   (try (have hji13l : 0 ≤ ji13 := by (rw [← hji13]; unfold mx; (repeat' split) <;> omega)))
   (try (have hji13m : 0 ≤ ji13 := by omega))
   have hji13_ : (if 0 < a2 then a2 else 0) = ji13 := hji13
   have H' := Aside0.mk H
   clear H
   have hnb14 := NB146_147.out
   have hnc14 := NB147_146.out
   have hcz15_0 : w10.cell? ⟨gb146, 0, none⟩ = some (.string a0_0) := (blk_cell BK146.out 0).trans rfl
   have hcz15_1 : w10.cell? ⟨gb146, 1, none⟩ = some (.int .i64 a0_1) := (blk_cell BK146.out 1).trans rfl
   have hcz15_2 : w10.cell? ⟨gb146, 2, none⟩ = some (.int .i64 a0_2) := (blk_cell BK146.out 2).trans rfl
   have hfz15_0 := blk_frozen BK146.out 0
   have hfz15_1 := blk_frozen BK146.out 1
   have hfz15_2 := blk_frozen BK146.out 2
   go_wp2
   go_meet
   case rel => exact ⟨_, (decide (t151 > (IntKind.u64.wrap (ji13)))), (by first | rfl | (simp; done) | (simp only [← hji13] <;> (first | rfl | simp)) | (simp [*]; done)), H', ⟨by first | omega | exact Nat.le_refl _⟩, ⟨by (with_reducible repeat (first | refine blk_drewN ?_ _ | refine blk_drew ?_ | refine blk_alloc ?_ _)); refine blk_put (cs := #[.string t148, .int .i64 t149, .int .i64 a0_2]) ?_ 2 _ rfl; refine blk_put (cs := #[.string t148, .int .i64 a0_1, .int .i64 a0_2]) ?_ 1 _ rfl; refine blk_put (cs := #[.string a0_0, .int .i64 a0_1, .int .i64 a0_2]) ?_ 0 _ rfl; (with_reducible repeat (first | refine blk_drewN ?_ _ | refine blk_drew ?_ | refine blk_alloc ?_ _)); exact BK146.out⟩, ⟨by (with_reducible repeat (first | refine blk_drewN ?_ _ | refine blk_drew ?_ | refine blk_alloc ?_ _)); refine blk_far ?_ NB147_146.out _; refine blk_far ?_ NB147_146.out _; refine blk_far ?_ NB147_146.out _; (with_reducible repeat (first | refine blk_drewN ?_ _ | refine blk_drew ?_ | refine blk_alloc ?_ _)); exact BK147.out⟩, ⟨by repeat (first | (with_reducible first | exact HB.out | apply below_alloc | apply pw_below_drewN | apply below_drew1 | refine below_set ?_ GE146.out | refine below_set ?_ GE147.out) | exact HB.out)⟩⟩
  ·
   rw [if_neg c12] at H
   have c12b0 : (t150 == 0) = false := beq_eq_false_iff_ne.mpr c12
   have c12b1 : (t150 != 0) = true := bne_iff_ne.mpr c12
   (first | rw [c12b0] | (simp only [i64_w, i32_w]; rw [c12b0]) | skip)
   have H' := Aside0.mk H
   clear H
   have hnb16 := NB146_147.out
   have hnc16 := NB147_146.out
   have hcz17_0 : w10.cell? ⟨gb146, 0, none⟩ = some (.string a0_0) := (blk_cell BK146.out 0).trans rfl
   have hcz17_1 : w10.cell? ⟨gb146, 1, none⟩ = some (.int .i64 a0_1) := (blk_cell BK146.out 1).trans rfl
   have hcz17_2 : w10.cell? ⟨gb146, 2, none⟩ = some (.int .i64 a0_2) := (blk_cell BK146.out 2).trans rfl
   have hfz17_0 := blk_frozen BK146.out 0
   have hfz17_1 := blk_frozen BK146.out 1
   have hfz17_2 := blk_frozen BK146.out 2
   go_wp2
   go_meet
   case rel => exact ⟨_, (false), (by first | rfl | (simp; done) | (simp [*]; done) | (simp; exact (fun l : List UInt8 => (by cases l <;> rfl : l.isEmpty = !(l != ([] : List UInt8)))) _)), H', ⟨by first | omega | exact Nat.le_refl _⟩, ⟨by (with_reducible repeat (first | refine blk_drewN ?_ _ | refine blk_drew ?_ | refine blk_alloc ?_ _)); refine blk_put (cs := #[.string t148, .int .i64 t149, .int .i64 a0_2]) ?_ 2 _ rfl; refine blk_put (cs := #[.string t148, .int .i64 a0_1, .int .i64 a0_2]) ?_ 1 _ rfl; refine blk_put (cs := #[.string a0_0, .int .i64 a0_1, .int .i64 a0_2]) ?_ 0 _ rfl; (with_reducible repeat (first | refine blk_drewN ?_ _ | refine blk_drew ?_ | refine blk_alloc ?_ _)); exact BK146.out⟩, ⟨by (with_reducible repeat (first | refine blk_drewN ?_ _ | refine blk_drew ?_ | refine blk_alloc ?_ _)); refine blk_far ?_ NB147_146.out _; refine blk_far ?_ NB147_146.out _; refine blk_far ?_ NB147_146.out _; (with_reducible repeat (first | refine blk_drewN ?_ _ | refine blk_drew ?_ | refine blk_alloc ?_ _)); exact BK147.out⟩, ⟨by repeat (first | (with_reducible first | exact HB.out | apply below_alloc | apply pw_below_drewN | apply below_drew1 | refine below_set ?_ GE146.out | refine below_set ?_ GE147.out) | exact HB.out)⟩⟩
 case rest =>
  clear HC5
  try clear c1
  try clear p2
  try clear c7
  try clear c8
  try clear c12
  try clear c12b0
  try clear c12b1
  try clear c13
  try clear c14
  try clear c16
  try clear hcz11_0
  try clear hcz11_1
  try clear hcz11_2
  try clear hcz15_0
  try clear hcz15_1
  try clear hcz15_2
  try clear hcz17_0
  try clear hcz17_1
  try clear hcz17_2
  try clear hcz9_0
  try clear hcz9_1
  try clear hcz9_2
  try clear hfz11_0
  try clear hfz11_1
  try clear hfz11_2
  try clear hfz15_0
  try clear hfz15_1
  try clear hfz15_2
  try clear hfz17_0
  try clear hfz17_1
  try clear hfz17_2
  try clear hfz9_0
  try clear hfz9_1
  try clear hfz9_2
  obtain ⟨kq, x23_4, rfl, HA, HJ4, BK146, BK147, HB⟩ := hcut
  cases kq with
  | zero => exact absurd HA.out (by simp [fascicleref02_GetText.j0])
  | succ kj4 =>
   have H := HA.out
   clear HA
   simp only [fascicleref02_GetText.j0] at H
   have HC18 := Aside0.mk H
   clear H
   go_upto_if 23 with (fail)
   go_cut [] (fun wc => ∃ (kq : Nat) (x147000_17 : ByteArray) (x147001_17 : Int) (x147002_17 : Int), Aside0 (fascicleref02_GetText.j1 kq a1 t151 x147000_17 x147001_17 x147002_17 = some (r1, r2, r3, r4)) ∧ Aside0 (kq ≤ kj4) ∧ Aside0 (wc.heap[gb146]? = some (.cells #[.string x147000_17, .int .i64 x147001_17, .int .i64 x147002_17] 115 (0, 0))) ∧ Aside0 (wc.heap[gb147]? = some (.cells #[.string (⟨#[]⟩ : ByteArray), .int .i64 0, .int .i64 0] 115 (0, 0))) ∧ Aside0 (Below w.heap.size w wc))
   case first =>
    have H := HC18.out
    clear HC18
    by_cases c19 : x23_4 = true
    ·
     subst c19
     have H1 : ((fascicleref01_Fail.f t148 t149 t150 3).bind fun bt152 => (fascicleref02_GetText.j1 kj4 a1 t151 bt152.1 bt152.2.1 bt152.2.2)) = some (r1, r2, r3, r4) := by rw [if_pos rfl] at H; exact H
     clear H
     have H := H1
     clear H1
     replace H := Option.bind_eq_some_iff.mp H
     obtain ⟨⟨t152, t153, t154⟩, A200, H⟩ := H
     replace H : (fascicleref02_GetText.j1 kj4 a1 t151 t152 t153 t154) = some (r1, r2, r3, r4) := H
     have A20 := Aside0.mk A200
     clear A200
     have H' := Aside0.mk H
     clear H
     have hnb21 := NB146_147.out
     have hnc21 := NB147_146.out
     have hcz22_0 : wc.cell? ⟨gb146, 0, none⟩ = some (.string t148) := (blk_cell BK146.out 0).trans rfl
     have hcz22_1 : wc.cell? ⟨gb146, 1, none⟩ = some (.int .i64 t149) := (blk_cell BK146.out 1).trans rfl
     have hcz22_2 : wc.cell? ⟨gb146, 2, none⟩ = some (.int .i64 t150) := (blk_cell BK146.out 2).trans rfl
     have hfz22_0 := blk_frozen BK146.out 0
     have hfz22_1 := blk_frozen BK146.out 1
     have hfz22_2 := blk_frozen BK146.out 2
     go_wp2_with (first | ((with_reducible refine gate_callee (f := 126) rfl ?_); refine goesL_ (some 25) rfl rfl Try.func126 (by kernel_rfl) rfl #[.agg #[.string t148, .int .i64 t149, .int .i64 t150], .int .i64 3] rfl (by (try simp only [mA, mB, mC]); first | done | rfl) ?_; (with_reducible refine (fascicleref01_Fail.calls t148 t149 t150 3 t152 t153 t154 _ A20.out).mono ?_); rintro e w23 ⟨rfl, hb⟩; refine ⟨_, rfl, ?_⟩; replace BK146 := Aside0.mk (blk_below (g := gb146) (o := .cells #[.string t148, .int .i64 t149, .int .i64 t150] 115 (0, 0)) (by (with_reducible repeat (first | refine blk_drewN ?_ _ | refine blk_drew ?_ | refine blk_alloc ?_ _)); exact BK146.out) hb); replace BK147 := Aside0.mk (blk_below (g := gb147) (o := .cells #[.string (⟨#[]⟩ : ByteArray), .int .i64 0, .int .i64 0] 115 (0, 0)) (by (with_reducible repeat (first | refine blk_drewN ?_ _ | refine blk_drew ?_ | refine blk_alloc ?_ _)); exact BK147.out) hb); replace HB := Aside0.mk (below_step (by repeat with_reducible first | exact HB.out | apply below_alloc | apply pw_below_drewN | apply below_drew1 | refine below_set ?_ GE146.out | refine below_set ?_ GE147.out) hb); (try clear hb); have hcz24_0 : w23.cell? ⟨gb146, 0, none⟩ = some (.string t148) := (blk_cell BK146.out 0).trans rfl; have hcz24_1 : w23.cell? ⟨gb146, 1, none⟩ = some (.int .i64 t149) := (blk_cell BK146.out 1).trans rfl; have hcz24_2 : w23.cell? ⟨gb146, 2, none⟩ = some (.int .i64 t150) := (blk_cell BK146.out 2).trans rfl; have hfz24_0 := blk_frozen BK146.out 0; have hfz24_1 := blk_frozen BK146.out 1; have hfz24_2 := blk_frozen BK146.out 2))
     go_meet
     case rel => exact ⟨_, (t152), (t153), (t154), H', ⟨by have := HJ4.out; first | omega | exact Nat.le_refl _⟩, ⟨by (with_reducible repeat (first | refine blk_drewN ?_ _ | refine blk_drew ?_ | refine blk_alloc ?_ _)); refine blk_put (cs := #[.string t152, .int .i64 t153, .int .i64 t150]) ?_ 2 _ rfl; refine blk_put (cs := #[.string t152, .int .i64 t149, .int .i64 t150]) ?_ 1 _ rfl; refine blk_put (cs := #[.string t148, .int .i64 t149, .int .i64 t150]) ?_ 0 _ rfl; (with_reducible repeat (first | refine blk_drewN ?_ _ | refine blk_drew ?_ | refine blk_alloc ?_ _)); exact BK146.out⟩, ⟨by (with_reducible repeat (first | refine blk_drewN ?_ _ | refine blk_drew ?_ | refine blk_alloc ?_ _)); refine blk_far ?_ NB147_146.out _; refine blk_far ?_ NB147_146.out _; refine blk_far ?_ NB147_146.out _; (with_reducible repeat (first | refine blk_drewN ?_ _ | refine blk_drew ?_ | refine blk_alloc ?_ _)); exact BK147.out⟩, ⟨by repeat (first | (with_reducible first | exact HB.out | apply below_alloc | apply pw_below_drewN | apply below_drew1 | refine below_set ?_ GE146.out | refine below_set ?_ GE147.out) | exact HB.out)⟩⟩
    ·
     replace c19 := Bool.eq_false_iff.mpr c19
     subst c19
     have H1 : (fascicleref02_GetText.j1 kj4 a1 t151 t148 t149 t150) = some (r1, r2, r3, r4) := by rw [if_neg (show ¬ (false = true) by decide)] at H; exact H
     clear H
     have H := H1
     clear H1
     have H' := Aside0.mk H
     clear H
     go_wp2
     go_meet
     case rel => exact ⟨_, (t148), (t149), (t150), H', ⟨by have := HJ4.out; first | omega | exact Nat.le_refl _⟩, ⟨by (with_reducible repeat (first | refine blk_drewN ?_ _ | refine blk_drew ?_ | refine blk_alloc ?_ _)); exact BK146.out⟩, ⟨by (with_reducible repeat (first | refine blk_drewN ?_ _ | refine blk_drew ?_ | refine blk_alloc ?_ _)); exact BK147.out⟩, ⟨by repeat (first | (with_reducible first | exact HB.out | apply below_alloc | apply pw_below_drewN | apply below_drew1 | refine below_set ?_ GE146.out | refine below_set ?_ GE147.out) | exact HB.out)⟩⟩
   case rest =>
    clear HC18
    try clear c1
    try clear c2
    try clear p2
    try clear c7
    try clear c8
    try clear c12
    try clear c12b0
    try clear c12b1
    try clear c13
    try clear c14
    try clear c16
    try clear c19
    try clear c21
    try clear hcz11_0
    try clear hcz11_1
    try clear hcz11_2
    try clear hcz15_0
    try clear hcz15_1
    try clear hcz15_2
    try clear hcz17_0
    try clear hcz17_1
    try clear hcz17_2
    try clear hcz22_0
    try clear hcz22_1
    try clear hcz22_2
    try clear hcz24_0
    try clear hcz24_1
    try clear hcz24_2
    try clear hcz9_0
    try clear hcz9_1
    try clear hcz9_2
    try clear hfz11_0
    try clear hfz11_1
    try clear hfz11_2
    try clear hfz15_0
    try clear hfz15_1
    try clear hfz15_2
    try clear hfz17_0
    try clear hfz17_1
    try clear hfz17_2
    try clear hfz22_0
    try clear hfz22_1
    try clear hfz22_2
    try clear hfz24_0
    try clear hfz24_1
    try clear hfz24_2
    try clear hfz9_0
    try clear hfz9_1
    try clear hfz9_2
    try clear p2
    obtain ⟨kq, x147000_17, x147001_17, x147002_17, HA, HJ17, BK146, BK147, HB⟩ := hcut
    cases kq with
    | zero => exact absurd HA.out (by simp [fascicleref02_GetText.j1])
    | succ kj17 =>
     have H := HA.out
     clear HA
     simp only [fascicleref02_GetText.j1] at H
     have HC25 := Aside0.mk H
     clear H
     go_upto_region 4 with (fail)
     go_cut [35] (fun v35 wc => ∃ (kq : Nat) (x35_24 : Bool), v35 = .bool x35_24 ∧ Aside0 (fascicleref02_GetText.j2 kq t151 x35_24 x147000_17 x147001_17 x147002_17 = some (r1, r2, r3, r4)) ∧ Aside0 (kq ≤ kj17) ∧ Aside0 (wc.heap[gb146]? = some (.cells #[.string x147000_17, .int .i64 x147001_17, .int .i64 x147002_17] 115 (0, 0))) ∧ Aside0 (wc.heap[gb147]? = some (.cells #[.string (⟨#[]⟩ : ByteArray), .int .i64 0, .int .i64 0] 115 (0, 0))) ∧ Aside0 (Below w.heap.size w wc))
     case first =>
      have H := HC25.out
      clear HC25
      by_cases c26 : x147002_17 = 0
      ·
       rw [if_pos c26] at H
       have c26b0 : (x147002_17 == 0) = true := beq_iff_eq.mpr c26
       have c26b1 : (x147002_17 != 0) = false := bne_eq_false_iff_eq.mpr c26
       clear c26
       (first | rw [c26b0] | (simp only [i64_w, i32_w]; rw [c26b0]) | skip)
       obtain ⟨ji27, hji27⟩ : ∃ j_ : Int, (mx 0 a1) = j_ := ⟨_, rfl⟩
       replace H : (fascicleref02_GetText.j2 kj17 t151 (decide (t151 < (IntKind.u64.wrap (ji27)))) x147000_17 x147001_17 x147002_17) = some (r1, r2, r3, r4) := by first | (rw [hji27] at H; exact H) | (simp only [hji27] at H ⊢; exact H)
       have hji27_ : (if 0 < a1 then a1 else 0) = ji27 := hji27
       have H' := Aside0.mk H
       clear H
       have hnb28 := NB146_147.out
       have hnc28 := NB147_146.out
       have hcz29_0 : wc.cell? ⟨gb146, 0, none⟩ = some (.string x147000_17) := (blk_cell BK146.out 0).trans rfl
       have hcz29_1 : wc.cell? ⟨gb146, 1, none⟩ = some (.int .i64 x147001_17) := (blk_cell BK146.out 1).trans rfl
       have hcz29_2 : wc.cell? ⟨gb146, 2, none⟩ = some (.int .i64 x147002_17) := (blk_cell BK146.out 2).trans rfl
       have hfz29_0 := blk_frozen BK146.out 0
       have hfz29_1 := blk_frozen BK146.out 1
       have hfz29_2 := blk_frozen BK146.out 2
       go_wp2
       go_meet
       case rel => exact ⟨_, (decide (t151 < (IntKind.u64.wrap (ji27)))), (by first | rfl | (simp; done) | (simp only [← hji27] <;> (first | rfl | simp)) | (simp [*]; done)), H', ⟨by have := HJ4.out; have := HJ17.out; first | omega | exact Nat.le_refl _⟩, ⟨by (with_reducible repeat (first | refine blk_drewN ?_ _ | refine blk_drew ?_ | refine blk_alloc ?_ _)); exact BK146.out⟩, ⟨by (with_reducible repeat (first | refine blk_drewN ?_ _ | refine blk_drew ?_ | refine blk_alloc ?_ _)); exact BK147.out⟩, ⟨by repeat (first | (with_reducible first | exact HB.out | apply below_alloc | apply pw_below_drewN | apply below_drew1 | refine below_set ?_ GE146.out | refine below_set ?_ GE147.out) | exact HB.out)⟩⟩
      ·
       rw [if_neg c26] at H
       have c26b0 : (x147002_17 == 0) = false := beq_eq_false_iff_ne.mpr c26
       have c26b1 : (x147002_17 != 0) = true := bne_iff_ne.mpr c26
       (first | rw [c26b0] | (simp only [i64_w, i32_w]; rw [c26b0]) | skip)
       have H' := Aside0.mk H
       clear H
       have hnb30 := NB146_147.out
       have hnc30 := NB147_146.out
       have hcz31_0 : wc.cell? ⟨gb146, 0, none⟩ = some (.string x147000_17) := (blk_cell BK146.out 0).trans rfl
       have hcz31_1 : wc.cell? ⟨gb146, 1, none⟩ = some (.int .i64 x147001_17) := (blk_cell BK146.out 1).trans rfl
       have hcz31_2 : wc.cell? ⟨gb146, 2, none⟩ = some (.int .i64 x147002_17) := (blk_cell BK146.out 2).trans rfl
       have hfz31_0 := blk_frozen BK146.out 0
       have hfz31_1 := blk_frozen BK146.out 1
       have hfz31_2 := blk_frozen BK146.out 2
       go_wp2
       go_meet
       case rel => exact ⟨_, (false), (by first | rfl | (simp; done) | (simp [*]; done) | (simp; exact (fun l : List UInt8 => (by cases l <;> rfl : l.isEmpty = !(l != ([] : List UInt8)))) _)), H', ⟨by have := HJ4.out; have := HJ17.out; first | omega | exact Nat.le_refl _⟩, ⟨by (with_reducible repeat (first | refine blk_drewN ?_ _ | refine blk_drew ?_ | refine blk_alloc ?_ _)); exact BK146.out⟩, ⟨by (with_reducible repeat (first | refine blk_drewN ?_ _ | refine blk_drew ?_ | refine blk_alloc ?_ _)); exact BK147.out⟩, ⟨by repeat (first | (with_reducible first | exact HB.out | apply below_alloc | apply pw_below_drewN | apply below_drew1 | refine below_set ?_ GE146.out | refine below_set ?_ GE147.out) | exact HB.out)⟩⟩
     case rest =>
      clear HC25
      try clear c1
      try clear c2
      try clear p2
      try clear c3
      try clear c7
      try clear c8
      try clear c12
      try clear c12b0
      try clear c12b1
      try clear c13
      try clear c14
      try clear c16
      try clear c19
      try clear c21
      try clear c26
      try clear c26b0
      try clear c26b1
      try clear c28
      try clear c30
      try clear hcz11_0
      try clear hcz11_1
      try clear hcz11_2
      try clear hcz15_0
      try clear hcz15_1
      try clear hcz15_2
      try clear hcz17_0
      try clear hcz17_1
      try clear hcz17_2
      try clear hcz22_0
      try clear hcz22_1
      try clear hcz22_2
      try clear hcz24_0
      try clear hcz24_1
      try clear hcz24_2
      try clear hcz29_0
      try clear hcz29_1
      try clear hcz29_2
      try clear hcz31_0
      try clear hcz31_1
      try clear hcz31_2
      try clear hcz9_0
      try clear hcz9_1
      try clear hcz9_2
      try clear hfz11_0
      try clear hfz11_1
      try clear hfz11_2
      try clear hfz15_0
      try clear hfz15_1
      try clear hfz15_2
      try clear hfz17_0
      try clear hfz17_1
      try clear hfz17_2
      try clear hfz22_0
      try clear hfz22_1
      try clear hfz22_2
      try clear hfz24_0
      try clear hfz24_1
      try clear hfz24_2
      try clear hfz29_0
      try clear hfz29_1
      try clear hfz29_2
      try clear hfz31_0
      try clear hfz31_1
      try clear hfz31_2
      try clear hfz9_0
      try clear hfz9_1
      try clear hfz9_2
      try clear p2
      obtain ⟨kq, x35_24, rfl, HA, HJ24, BK146, BK147, HB⟩ := hcut
      cases kq with
      | zero => exact absurd HA.out (by simp [fascicleref02_GetText.j2])
      | succ kj24 =>
       have H := HA.out
       clear HA
       simp only [fascicleref02_GetText.j2] at H
       by_cases c32 : x35_24 = true
       ·
        subst c32
        have H1 : ((fascicleref01_Fail.f x147000_17 x147001_17 x147002_17 4).bind fun bt155 => (if bt155.2.2 = 0 then ((fascicleref01_Take.f kj24 bt155.1 bt155.2.1 bt155.2.2 (wrap64 (t151))).bind fun bt158 => (some (bt158.1, bt158.2.1, bt158.2.2.1, bt158.2.2.2))) else (some (bt155.1, bt155.2.1, bt155.2.2, (⟨#[]⟩ : ByteArray))))) = some (r1, r2, r3, r4) := by rw [if_pos rfl] at H; exact H
        clear H
        have H := H1
        clear H1
        replace H := Option.bind_eq_some_iff.mp H
        obtain ⟨⟨t155, t156, t157⟩, A330, H⟩ := H
        replace H : (if t157 = 0 then ((fascicleref01_Take.f kj24 t155 t156 t157 (wrap64 (t151))).bind fun bt158 => (some (bt158.1, bt158.2.1, bt158.2.2.1, bt158.2.2.2))) else (some (t155, t156, t157, (⟨#[]⟩ : ByteArray)))) = some (r1, r2, r3, r4) := H
        have A33 := Aside0.mk A330
        clear A330
        by_cases c34 : t157 = 0
        ·
         rw [if_pos c34] at H
         have c34b0 : (t157 == 0) = true := beq_iff_eq.mpr c34
         have c34b1 : (t157 != 0) = false := bne_eq_false_iff_eq.mpr c34
         clear c34
         replace H := Option.bind_eq_some_iff.mp H
         obtain ⟨⟨t158, t159, t160, t161⟩, A350, H⟩ := H
         replace H : (some (t158, t159, t160, t161)) = some (r1, r2, r3, r4) := H
         have A35 := Aside0.mk A350
         clear A350
         simp only [Option.some.injEq, Prod.mk.injEq] at H
         obtain ⟨rfl, rfl, rfl, rfl⟩ := H
         have hnb36 := NB146_147.out
         have hnc36 := NB147_146.out
         have hcz37_0 : wc.cell? ⟨gb146, 0, none⟩ = some (.string x147000_17) := (blk_cell BK146.out 0).trans rfl
         have hcz37_1 : wc.cell? ⟨gb146, 1, none⟩ = some (.int .i64 x147001_17) := (blk_cell BK146.out 1).trans rfl
         have hcz37_2 : wc.cell? ⟨gb146, 2, none⟩ = some (.int .i64 x147002_17) := (blk_cell BK146.out 2).trans rfl
         have hfz37_0 := blk_frozen BK146.out 0
         have hfz37_1 := blk_frozen BK146.out 1
         have hfz37_2 := blk_frozen BK146.out 2
         go_wp2_with (first | ((with_reducible refine gate_callee (f := 126) rfl ?_); refine goesL_ (some 37) rfl rfl Try.func126 (by kernel_rfl) rfl #[.agg #[.string x147000_17, .int .i64 x147001_17, .int .i64 x147002_17], .int .i64 4] rfl (by (try simp only [mA, mB, mC]); first | done | rfl) ?_; (with_reducible refine (fascicleref01_Fail.calls x147000_17 x147001_17 x147002_17 4 t155 t156 t157 _ A33.out).mono ?_); rintro e w38 ⟨rfl, hb⟩; refine ⟨_, rfl, ?_⟩; replace BK146 := Aside0.mk (blk_below (g := gb146) (o := .cells #[.string x147000_17, .int .i64 x147001_17, .int .i64 x147002_17] 115 (0, 0)) (by (with_reducible repeat (first | refine blk_drewN ?_ _ | refine blk_drew ?_ | refine blk_alloc ?_ _)); exact BK146.out) hb); replace BK147 := Aside0.mk (blk_below (g := gb147) (o := .cells #[.string (⟨#[]⟩ : ByteArray), .int .i64 0, .int .i64 0] 115 (0, 0)) (by (with_reducible repeat (first | refine blk_drewN ?_ _ | refine blk_drew ?_ | refine blk_alloc ?_ _)); exact BK147.out) hb); replace HB := Aside0.mk (below_step (by repeat with_reducible first | exact HB.out | apply below_alloc | apply pw_below_drewN | apply below_drew1 | refine below_set ?_ GE146.out | refine below_set ?_ GE147.out) hb); (try clear hb); have hcz39_0 : w38.cell? ⟨gb146, 0, none⟩ = some (.string x147000_17) := (blk_cell BK146.out 0).trans rfl; have hcz39_1 : w38.cell? ⟨gb146, 1, none⟩ = some (.int .i64 x147001_17) := (blk_cell BK146.out 1).trans rfl; have hcz39_2 : w38.cell? ⟨gb146, 2, none⟩ = some (.int .i64 x147002_17) := (blk_cell BK146.out 2).trans rfl; have hfz39_0 := blk_frozen BK146.out 0; have hfz39_1 := blk_frozen BK146.out 1; have hfz39_2 := blk_frozen BK146.out 2) | ((with_reducible refine gate_callee (f := 125) rfl ?_); refine goesL_ (some 45) rfl rfl Try.func125 (by kernel_rfl) rfl #[.agg #[.string t155, .int .i64 t156, .int .i64 t157], .int .i64 (wrap64 (t151))] rfl (by (try simp only [mA, mB, mC]); first | done | rfl | (refine congrArg (fun z => #[Value.int .u64 z]) ?_; rw [IntKind.wrap_u64]; omega)) ?_; (with_reducible refine (fascicleref01_Take.calls kj24 t155 t156 t157 (wrap64 (t151)) t158 t159 t160 t161 _ A35.out).mono ?_); rintro e w40 ⟨rfl, hb⟩; refine ⟨_, rfl, ?_⟩; replace BK146 := Aside0.mk (blk_below (g := gb146) (o := .cells #[.string t155, .int .i64 t156, .int .i64 t157] 115 (0, 0)) (by (with_reducible repeat (first | refine blk_drewN ?_ _ | refine blk_drew ?_ | refine blk_alloc ?_ _)); refine blk_put (cs := #[.string t155, .int .i64 t156, .int .i64 x147002_17]) ?_ 2 _ rfl; refine blk_put (cs := #[.string t155, .int .i64 x147001_17, .int .i64 x147002_17]) ?_ 1 _ rfl; refine blk_put (cs := #[.string x147000_17, .int .i64 x147001_17, .int .i64 x147002_17]) ?_ 0 _ rfl; (with_reducible repeat (first | refine blk_drewN ?_ _ | refine blk_drew ?_ | refine blk_alloc ?_ _)); exact BK146.out) hb); replace BK147 := Aside0.mk (blk_below (g := gb147) (o := .cells #[.string (⟨#[]⟩ : ByteArray), .int .i64 0, .int .i64 0] 115 (0, 0)) (by (with_reducible repeat (first | refine blk_drewN ?_ _ | refine blk_drew ?_ | refine blk_alloc ?_ _)); refine blk_far ?_ NB147_146.out _; refine blk_far ?_ NB147_146.out _; refine blk_far ?_ NB147_146.out _; (with_reducible repeat (first | refine blk_drewN ?_ _ | refine blk_drew ?_ | refine blk_alloc ?_ _)); exact BK147.out) hb); replace HB := Aside0.mk (below_step (by repeat with_reducible first | exact HB.out | apply below_alloc | apply pw_below_drewN | apply below_drew1 | refine below_set ?_ GE146.out | refine below_set ?_ GE147.out) hb); (try clear hb); have hcz41_0 : w40.cell? ⟨gb147, 0, none⟩ = some (.string (⟨#[]⟩ : ByteArray)) := (blk_cell BK147.out 0).trans rfl; have hcz41_1 : w40.cell? ⟨gb147, 1, none⟩ = some (.int .i64 0) := (blk_cell BK147.out 1).trans rfl; have hcz41_2 : w40.cell? ⟨gb147, 2, none⟩ = some (.int .i64 0) := (blk_cell BK147.out 2).trans rfl; have hfz41_0 := blk_frozen BK147.out 0; have hfz41_1 := blk_frozen BK147.out 1; have hfz41_2 := blk_frozen BK147.out 2))
         refine bodyPost_ret (results_ct rfl _ _ gb147 115 #[.string t158, .int .i64 t159, .int .i64 t160] (0, 0) _ rfl (by (with_reducible repeat (first | refine blk_drewN ?_ _ | refine blk_drew ?_ | refine blk_alloc ?_ _)); refine blk_put (cs := #[.string t158, .int .i64 t159, .int .i64 0]) ?_ 2 _ rfl; refine blk_put (cs := #[.string t158, .int .i64 0, .int .i64 0]) ?_ 1 _ rfl; refine blk_put (cs := #[.string (⟨#[]⟩ : ByteArray), .int .i64 0, .int .i64 0]) ?_ 0 _ rfl; (with_reducible repeat (first | refine blk_drewN ?_ _ | refine blk_drew ?_ | refine blk_alloc ?_ _)); exact BK147.out) Try.underlying115 rfl (by kernel_rfl)) rfl ?_
         exact ⟨by first | rfl | (simp <;> rfl) | (simp [*] <;> rfl), by repeat (first | (with_reducible first | exact HB.out | apply below_alloc | apply pw_below_drewN | apply below_drew1 | refine below_set ?_ GE146.out | refine below_set ?_ GE147.out) | exact HB.out)⟩
        ·
         rw [if_neg c34] at H
         have c34b0 : (t157 == 0) = false := beq_eq_false_iff_ne.mpr c34
         have c34b1 : (t157 != 0) = true := bne_iff_ne.mpr c34
         simp only [Option.some.injEq, Prod.mk.injEq] at H
         obtain ⟨rfl, rfl, rfl, rfl⟩ := H
         have hnb42 := NB146_147.out
         have hnc42 := NB147_146.out
         have hcz43_0 : wc.cell? ⟨gb146, 0, none⟩ = some (.string x147000_17) := (blk_cell BK146.out 0).trans rfl
         have hcz43_1 : wc.cell? ⟨gb146, 1, none⟩ = some (.int .i64 x147001_17) := (blk_cell BK146.out 1).trans rfl
         have hcz43_2 : wc.cell? ⟨gb146, 2, none⟩ = some (.int .i64 x147002_17) := (blk_cell BK146.out 2).trans rfl
         have hfz43_0 := blk_frozen BK146.out 0
         have hfz43_1 := blk_frozen BK146.out 1
         have hfz43_2 := blk_frozen BK146.out 2
         go_wp2_with (first | ((with_reducible refine gate_callee (f := 126) rfl ?_); refine goesL_ (some 37) rfl rfl Try.func126 (by kernel_rfl) rfl #[.agg #[.string x147000_17, .int .i64 x147001_17, .int .i64 x147002_17], .int .i64 4] rfl (by (try simp only [mA, mB, mC]); first | done | rfl) ?_; (with_reducible refine (fascicleref01_Fail.calls x147000_17 x147001_17 x147002_17 4 t155 t156 t157 _ A33.out).mono ?_); rintro e w44 ⟨rfl, hb⟩; refine ⟨_, rfl, ?_⟩; replace BK146 := Aside0.mk (blk_below (g := gb146) (o := .cells #[.string x147000_17, .int .i64 x147001_17, .int .i64 x147002_17] 115 (0, 0)) (by (with_reducible repeat (first | refine blk_drewN ?_ _ | refine blk_drew ?_ | refine blk_alloc ?_ _)); exact BK146.out) hb); replace BK147 := Aside0.mk (blk_below (g := gb147) (o := .cells #[.string (⟨#[]⟩ : ByteArray), .int .i64 0, .int .i64 0] 115 (0, 0)) (by (with_reducible repeat (first | refine blk_drewN ?_ _ | refine blk_drew ?_ | refine blk_alloc ?_ _)); exact BK147.out) hb); replace HB := Aside0.mk (below_step (by repeat with_reducible first | exact HB.out | apply below_alloc | apply pw_below_drewN | apply below_drew1 | refine below_set ?_ GE146.out | refine below_set ?_ GE147.out) hb); (try clear hb); have hcz45_0 : w44.cell? ⟨gb146, 0, none⟩ = some (.string x147000_17) := (blk_cell BK146.out 0).trans rfl; have hcz45_1 : w44.cell? ⟨gb146, 1, none⟩ = some (.int .i64 x147001_17) := (blk_cell BK146.out 1).trans rfl; have hcz45_2 : w44.cell? ⟨gb146, 2, none⟩ = some (.int .i64 x147002_17) := (blk_cell BK146.out 2).trans rfl; have hfz45_0 := blk_frozen BK146.out 0; have hfz45_1 := blk_frozen BK146.out 1; have hfz45_2 := blk_frozen BK146.out 2; have hcz46_0 : w44.cell? ⟨gb147, 0, none⟩ = some (.string (⟨#[]⟩ : ByteArray)) := (blk_cell BK147.out 0).trans rfl; have hcz46_1 : w44.cell? ⟨gb147, 1, none⟩ = some (.int .i64 0) := (blk_cell BK147.out 1).trans rfl; have hcz46_2 : w44.cell? ⟨gb147, 2, none⟩ = some (.int .i64 0) := (blk_cell BK147.out 2).trans rfl; have hfz46_0 := blk_frozen BK147.out 0; have hfz46_1 := blk_frozen BK147.out 1; have hfz46_2 := blk_frozen BK147.out 2))
         refine bodyPost_ret (results_ct rfl _ _ gb147 115 #[.string t155, .int .i64 t156, .int .i64 t157] (0, 0) _ rfl (by (with_reducible repeat (first | refine blk_drewN ?_ _ | refine blk_drew ?_ | refine blk_alloc ?_ _)); refine blk_put (cs := #[.string t155, .int .i64 t156, .int .i64 0]) ?_ 2 _ rfl; refine blk_put (cs := #[.string t155, .int .i64 0, .int .i64 0]) ?_ 1 _ rfl; refine blk_put (cs := #[.string (⟨#[]⟩ : ByteArray), .int .i64 0, .int .i64 0]) ?_ 0 _ rfl; (with_reducible repeat (first | refine blk_drewN ?_ _ | refine blk_drew ?_ | refine blk_alloc ?_ _)); refine blk_far ?_ NB147_146.out _; refine blk_far ?_ NB147_146.out _; refine blk_far ?_ NB147_146.out _; (with_reducible repeat (first | refine blk_drewN ?_ _ | refine blk_drew ?_ | refine blk_alloc ?_ _)); exact BK147.out) Try.underlying115 rfl (by kernel_rfl)) rfl ?_
         exact ⟨by first | rfl | (simp <;> rfl) | (simp [*] <;> rfl), by repeat (first | (with_reducible first | exact HB.out | apply below_alloc | apply pw_below_drewN | apply below_drew1 | refine below_set ?_ GE146.out | refine below_set ?_ GE147.out) | exact HB.out)⟩
       ·
        replace c32 := Bool.eq_false_iff.mpr c32
        subst c32
        have H1 : (if x147002_17 = 0 then ((fascicleref01_Take.f kj24 x147000_17 x147001_17 x147002_17 (wrap64 (t151))).bind fun bt162 => (some (bt162.1, bt162.2.1, bt162.2.2.1, bt162.2.2.2))) else (some (x147000_17, x147001_17, x147002_17, (⟨#[]⟩ : ByteArray)))) = some (r1, r2, r3, r4) := by rw [if_neg (show ¬ (false = true) by decide)] at H; exact H
        clear H
        have H := H1
        clear H1
        by_cases c47 : x147002_17 = 0
        ·
         rw [if_pos c47] at H
         have c47b0 : (x147002_17 == 0) = true := beq_iff_eq.mpr c47
         have c47b1 : (x147002_17 != 0) = false := bne_eq_false_iff_eq.mpr c47
         clear c47
         replace H := Option.bind_eq_some_iff.mp H
         obtain ⟨⟨t162, t163, t164, t165⟩, A480, H⟩ := H
         replace H : (some (t162, t163, t164, t165)) = some (r1, r2, r3, r4) := H
         have A48 := Aside0.mk A480
         clear A480
         simp only [Option.some.injEq, Prod.mk.injEq] at H
         obtain ⟨rfl, rfl, rfl, rfl⟩ := H
         have hnb49 := NB146_147.out
         have hnc49 := NB147_146.out
         have hcz50_0 : wc.cell? ⟨gb146, 0, none⟩ = some (.string x147000_17) := (blk_cell BK146.out 0).trans rfl
         have hcz50_1 : wc.cell? ⟨gb146, 1, none⟩ = some (.int .i64 x147001_17) := (blk_cell BK146.out 1).trans rfl
         have hcz50_2 : wc.cell? ⟨gb146, 2, none⟩ = some (.int .i64 x147002_17) := (blk_cell BK146.out 2).trans rfl
         have hfz50_0 := blk_frozen BK146.out 0
         have hfz50_1 := blk_frozen BK146.out 1
         have hfz50_2 := blk_frozen BK146.out 2
         go_wp2_with (first | ((with_reducible refine gate_callee (f := 125) rfl ?_); refine goesL_ (some 45) rfl rfl Try.func125 (by kernel_rfl) rfl #[.agg #[.string x147000_17, .int .i64 x147001_17, .int .i64 x147002_17], .int .i64 (wrap64 (t151))] rfl (by (try simp only [mA, mB, mC]); first | done | rfl | (refine congrArg (fun z => #[Value.int .u64 z]) ?_; rw [IntKind.wrap_u64]; omega)) ?_; (with_reducible refine (fascicleref01_Take.calls kj24 x147000_17 x147001_17 x147002_17 (wrap64 (t151)) t162 t163 t164 t165 _ A48.out).mono ?_); rintro e w51 ⟨rfl, hb⟩; refine ⟨_, rfl, ?_⟩; replace BK146 := Aside0.mk (blk_below (g := gb146) (o := .cells #[.string x147000_17, .int .i64 x147001_17, .int .i64 x147002_17] 115 (0, 0)) (by (with_reducible repeat (first | refine blk_drewN ?_ _ | refine blk_drew ?_ | refine blk_alloc ?_ _)); exact BK146.out) hb); replace BK147 := Aside0.mk (blk_below (g := gb147) (o := .cells #[.string (⟨#[]⟩ : ByteArray), .int .i64 0, .int .i64 0] 115 (0, 0)) (by (with_reducible repeat (first | refine blk_drewN ?_ _ | refine blk_drew ?_ | refine blk_alloc ?_ _)); exact BK147.out) hb); replace HB := Aside0.mk (below_step (by repeat with_reducible first | exact HB.out | apply below_alloc | apply pw_below_drewN | apply below_drew1 | refine below_set ?_ GE146.out | refine below_set ?_ GE147.out) hb); (try clear hb); have hcz52_0 : w51.cell? ⟨gb147, 0, none⟩ = some (.string (⟨#[]⟩ : ByteArray)) := (blk_cell BK147.out 0).trans rfl; have hcz52_1 : w51.cell? ⟨gb147, 1, none⟩ = some (.int .i64 0) := (blk_cell BK147.out 1).trans rfl; have hcz52_2 : w51.cell? ⟨gb147, 2, none⟩ = some (.int .i64 0) := (blk_cell BK147.out 2).trans rfl; have hfz52_0 := blk_frozen BK147.out 0; have hfz52_1 := blk_frozen BK147.out 1; have hfz52_2 := blk_frozen BK147.out 2))
         refine bodyPost_ret (results_ct rfl _ _ gb147 115 #[.string t162, .int .i64 t163, .int .i64 t164] (0, 0) _ rfl (by (with_reducible repeat (first | refine blk_drewN ?_ _ | refine blk_drew ?_ | refine blk_alloc ?_ _)); refine blk_put (cs := #[.string t162, .int .i64 t163, .int .i64 0]) ?_ 2 _ rfl; refine blk_put (cs := #[.string t162, .int .i64 0, .int .i64 0]) ?_ 1 _ rfl; refine blk_put (cs := #[.string (⟨#[]⟩ : ByteArray), .int .i64 0, .int .i64 0]) ?_ 0 _ rfl; (with_reducible repeat (first | refine blk_drewN ?_ _ | refine blk_drew ?_ | refine blk_alloc ?_ _)); exact BK147.out) Try.underlying115 rfl (by kernel_rfl)) rfl ?_
         exact ⟨by first | rfl | (simp <;> rfl) | (simp [*] <;> rfl), by repeat (first | (with_reducible first | exact HB.out | apply below_alloc | apply pw_below_drewN | apply below_drew1 | refine below_set ?_ GE146.out | refine below_set ?_ GE147.out) | exact HB.out)⟩
        ·
         rw [if_neg c47] at H
         have c47b0 : (x147002_17 == 0) = false := beq_eq_false_iff_ne.mpr c47
         have c47b1 : (x147002_17 != 0) = true := bne_iff_ne.mpr c47
         simp only [Option.some.injEq, Prod.mk.injEq] at H
         obtain ⟨rfl, rfl, rfl, rfl⟩ := H
         have hnb53 := NB146_147.out
         have hnc53 := NB147_146.out
         have hcz54_0 : wc.cell? ⟨gb146, 0, none⟩ = some (.string x147000_17) := (blk_cell BK146.out 0).trans rfl
         have hcz54_1 : wc.cell? ⟨gb146, 1, none⟩ = some (.int .i64 x147001_17) := (blk_cell BK146.out 1).trans rfl
         have hcz54_2 : wc.cell? ⟨gb146, 2, none⟩ = some (.int .i64 x147002_17) := (blk_cell BK146.out 2).trans rfl
         have hfz54_0 := blk_frozen BK146.out 0
         have hfz54_1 := blk_frozen BK146.out 1
         have hfz54_2 := blk_frozen BK146.out 2
         have hcz55_0 : wc.cell? ⟨gb147, 0, none⟩ = some (.string (⟨#[]⟩ : ByteArray)) := (blk_cell BK147.out 0).trans rfl
         have hcz55_1 : wc.cell? ⟨gb147, 1, none⟩ = some (.int .i64 0) := (blk_cell BK147.out 1).trans rfl
         have hcz55_2 : wc.cell? ⟨gb147, 2, none⟩ = some (.int .i64 0) := (blk_cell BK147.out 2).trans rfl
         have hfz55_0 := blk_frozen BK147.out 0
         have hfz55_1 := blk_frozen BK147.out 1
         have hfz55_2 := blk_frozen BK147.out 2
         go_wp2
         refine bodyPost_ret (results_ct rfl _ _ gb147 115 #[.string x147000_17, .int .i64 x147001_17, .int .i64 x147002_17] (0, 0) _ rfl (by (with_reducible repeat (first | refine blk_drewN ?_ _ | refine blk_drew ?_ | refine blk_alloc ?_ _)); refine blk_put (cs := #[.string x147000_17, .int .i64 x147001_17, .int .i64 0]) ?_ 2 _ rfl; refine blk_put (cs := #[.string x147000_17, .int .i64 0, .int .i64 0]) ?_ 1 _ rfl; refine blk_put (cs := #[.string (⟨#[]⟩ : ByteArray), .int .i64 0, .int .i64 0]) ?_ 0 _ rfl; (with_reducible repeat (first | refine blk_drewN ?_ _ | refine blk_drew ?_ | refine blk_alloc ?_ _)); exact BK147.out) Try.underlying115 rfl (by kernel_rfl)) rfl ?_
         exact ⟨by first | rfl | (simp <;> rfl) | (simp [*] <;> rfl), by repeat (first | (with_reducible first | exact HB.out | apply below_alloc | apply pw_below_drewN | apply below_drew1 | refine below_set ?_ GE146.out | refine below_set ?_ GE147.out) | exact HB.out)⟩
end Go.Proofs.Ytekanmieppnpeaa.G
end
section
namespace Go.Proofs.Ytekanmieppnpeaa.G
open Go.RowKit Go.Proofs.YtekanmieppnpeaaW.PrintWords Go.Proofs.YtekanmieppnpeaaW.PrintLast Go.Proofs.YtekanmieppnpeaaW.PrintMore
attribute [local go_sem] max2_int min2_int max_two min_two max_three min_three max_four min_four   -- for this text's walks alone
def fascicleref07_Read.j0 : Nat → ByteArray → Bool → Option (Bool × Int × ByteArray × ByteArray × Int)
 | 0, _, _ => none
 | k + 1, x0, x19 => if x19 = true then (some (false, 0, (⟨#[]⟩ : ByteArray), (⟨#[]⟩ : ByteArray), 4)) else (if 0 < (x0.size : Int) then (if 1 ≤ (x0.size : Int) then ((fascicleref02_Get.f k (x0.extract 1 x0.size) 0 0).bind fun bt176 => ((fascicleref02_GetText.f k bt176.1 bt176.2.1 bt176.2.2.1 1 4096).bind fun bt181 => (if ((bt x0 0) = 3) then ((fascicleref01_End.f bt181.1 bt181.2.1 bt181.2.2.1).bind fun bt185 => (if bt185.2.2 = 0 then (some (((bt x0 0) == 3), bt176.2.2.2, bt181.2.2.2, (⟨#[]⟩ : ByteArray), 0)) else (some (false, 0, (⟨#[]⟩ : ByteArray), (⟨#[]⟩ : ByteArray), bt185.2.2)))) else ((fascicleref02_GetText.f k bt181.1 bt181.2.1 bt181.2.2.1 0 1048576).bind fun bt188 => ((fascicleref01_End.f bt188.1 bt188.2.1 bt188.2.2.1).bind fun bt192 => (if bt192.2.2 = 0 then (some (((bt x0 0) == 3), bt176.2.2.2, bt181.2.2.2, bt188.2.2.2, 0)) else (some (false, 0, (⟨#[]⟩ : ByteArray), (⟨#[]⟩ : ByteArray), bt192.2.2)))))))) else (none)) else (none))
def fascicleref07_Read.f (k : Nat) (a0 : ByteArray) : Option (Bool × Int × ByteArray × ByteArray × Int) := if a0.toList = ([] : List UInt8) then (some (false, 0, (⟨#[]⟩ : ByteArray), (⟨#[]⟩ : ByteArray), 2)) else (if 0 < (a0.size : Int) then (if (bt a0 0) = 2 then (fascicleref07_Read.j0 k a0 false) else (fascicleref07_Read.j0 k a0 ((bt a0 0) != 3))) else (none))
theorem fascicleref07_Read.mono_l : ∀ k, (∀ y0 y1, LeO (fascicleref07_Read.j0 k y0 y1) (fascicleref07_Read.j0 (k + 1) y0 y1))
 | 0 => fun _ _ r h => by simp [fascicleref07_Read.j0] at h
 | k + 1 => by
  have ih0 := fascicleref07_Read.mono_l k
  ·
   intro y0 y1
   unfold fascicleref07_Read.j0
   repeat' first
   | (with_reducible exact ih0 _ _)
   | (with_reducible exact fascicleref02_Get.mono _ _ _ _)
   | (with_reducible exact fascicleref02_GetText.mono _ _ _ _ _ _)
   | (with_reducible exact LeO.refl _)
   | (with_reducible exact LeO.none _)
   | (with_reducible refine LeO.ite ?_ ?_)
   | (with_reducible refine LeO.bind ?_ (fun _ => ?_))
   | exact ih0 _ _
   | exact fascicleref02_Get.mono _ _ _ _
   | exact fascicleref02_GetText.mono _ _ _ _ _ _
   | exact LeO.none _
   | refine LeO.ite ?_ ?_
   | refine LeO.bind ?_ (fun _ => ?_)
theorem fascicleref07_Read.mono : ∀ a0 k, LeO (fascicleref07_Read.f k a0) (fascicleref07_Read.f (k + 1) a0) := by
 intro a0 k
 have ih0 := fascicleref07_Read.mono_l k
 unfold fascicleref07_Read.f
 repeat' first
   | (with_reducible exact ih0 _ _)
   | (with_reducible exact fascicleref02_Get.mono _ _ _ _)
   | (with_reducible exact fascicleref02_GetText.mono _ _ _ _ _ _)
   | (with_reducible exact LeO.refl _)
   | (with_reducible exact LeO.none _)
   | (with_reducible refine LeO.ite ?_ ?_)
   | (with_reducible refine LeO.bind ?_ (fun _ => ?_))
   | exact ih0 _ _
   | exact fascicleref02_Get.mono _ _ _ _
   | exact fascicleref02_GetText.mono _ _ _ _ _ _
   | exact LeO.none _
   | refine LeO.ite ?_ ?_
   | refine LeO.bind ?_ (fun _ => ?_)
theorem fascicleref07_Read.calls (k : Nat) (a0 : ByteArray) (r1 : Bool) (r2 : Int) (r3 : ByteArray) (r4 : ByteArray) (r5 : Int) (w : World) (h : fascicleref07_Read.f k a0 = some (r1, r2, r3, r4, r5)) :
  Calls Try.prog 81 #[.string a0] w fun e w' => e = .returned (.tuple #[.agg #[.bool r1, .int .u64 r2, .string r3, .string r4], .int .i64 r5]) ∧ Below w.heap.size w w' := by
 have hu59 := Try.underlying59
 have hu115 := Try.underlying115
 have HB := Aside0.mk (Below.refl w.heap.size w)
 have H : (if a0.toList = ([] : List UInt8) then (some (false, 0, (⟨#[]⟩ : ByteArray), (⟨#[]⟩ : ByteArray), 2)) else (if 0 < (a0.size : Int) then (if (bt a0 0) = 2 then (fascicleref07_Read.j0 k a0 false) else (fascicleref07_Read.j0 k a0 ((bt a0 0) != 3))) else (none))) = some (r1, r2, r3, r4, r5) := h
 clear h
 by_cases c2 : a0.toList = ([] : List UInt8)
 ·
  rw [if_pos c2] at H
  have c2b0 : (a0.toList == ([] : List UInt8)) = true := beq_iff_eq.mpr c2
  have c2b1 : (a0.toList != ([] : List UInt8)) = false := bne_eq_false_iff_eq.mpr c2
  clear c2
  simp only [Option.some.injEq, Prod.mk.injEq] at H
  obtain ⟨rfl, rfl, rfl, rfl, rfl⟩ := H
  go_enter Try.func81, Try.ntmps81
  go_wp2_with (first | ((with_reducible refine gate_dst (N := 2) rfl ?_); refine box_event ?hg (N := 2) ?hd (cs := #[.bool false, .int .u64 0, .string (⟨#[]⟩ : ByteArray), .string (⟨#[]⟩ : ByteArray)]) (t := 59) ?hr ?_; (case hd => rfl); (case hg => rfl); (case hr => first | (go_simp; done) | (go_simp; rfl)); intro gb174 hg w3 hbox hb; have n0_ := Aside0.mk (below_step (by repeat with_reducible first | exact HB.out | apply below_alloc | apply pw_below_drewN | apply below_drew1) hb); have n1_ := Aside0.mk (hbox); have n2_ := Aside0.mk ((by rw [hg]; exact (below_size (by repeat with_reducible first | exact HB.out | apply below_alloc | apply pw_below_drewN | apply below_drew1)) : w.heap.size ≤ gb174)); have n3_ := Aside0.mk ((by rw [hg]; exact (below_size (by repeat with_reducible first | exact HB.out | apply below_alloc | apply pw_below_drewN | apply below_drew1)) : w.heap.size ≤ gb174)); clear HB; have HB := n0_; have BK174 := n1_; have GW174 := n2_; have GE174 := n3_; clear n0_ n1_ n2_ n3_; clear hb hbox hg; have hcz4_0 : w3.cell? ⟨gb174, 0, none⟩ = some (.bool false) := (blk_cell BK174.out 0).trans rfl; have hcz4_1 : w3.cell? ⟨gb174, 1, none⟩ = some (.int .u64 0) := (blk_cell BK174.out 1).trans rfl; have hcz4_2 : w3.cell? ⟨gb174, 2, none⟩ = some (.string (⟨#[]⟩ : ByteArray)) := (blk_cell BK174.out 2).trans rfl; have hcz4_3 : w3.cell? ⟨gb174, 3, none⟩ = some (.string (⟨#[]⟩ : ByteArray)) := (blk_cell BK174.out 3).trans rfl; have hfz4_0 := blk_frozen BK174.out 0; have hfz4_1 := blk_frozen BK174.out 1; have hfz4_2 := blk_frozen BK174.out 2; have hfz4_3 := blk_frozen BK174.out 3))
  refine bodyPost_ret (results_ct rfl _ _ gb174 59 #[.bool false, .int .u64 0, .string (⟨#[]⟩ : ByteArray), .string (⟨#[]⟩ : ByteArray)] (0, 0) _ rfl (by (with_reducible repeat (first | refine blk_drewN ?_ _ | refine blk_drew ?_ | refine blk_alloc ?_ _)); refine blk_put (cs := #[.bool false, .int .u64 0, .string (⟨#[]⟩ : ByteArray), .string (⟨#[]⟩ : ByteArray)]) ?_ 3 _ rfl; refine blk_put (cs := #[.bool false, .int .u64 0, .string (⟨#[]⟩ : ByteArray), .string (⟨#[]⟩ : ByteArray)]) ?_ 2 _ rfl; refine blk_put (cs := #[.bool false, .int .u64 0, .string (⟨#[]⟩ : ByteArray), .string (⟨#[]⟩ : ByteArray)]) ?_ 1 _ rfl; refine blk_put (cs := #[.bool false, .int .u64 0, .string (⟨#[]⟩ : ByteArray), .string (⟨#[]⟩ : ByteArray)]) ?_ 0 _ rfl; (with_reducible repeat (first | refine blk_drewN ?_ _ | refine blk_drew ?_ | refine blk_alloc ?_ _)); exact BK174.out) Try.underlying59 rfl (by kernel_rfl)) rfl ?_
  exact ⟨by first | rfl | (simp <;> rfl) | (simp [*] <;> rfl), by repeat (first | (with_reducible first | exact HB.out | apply below_alloc | apply pw_below_drewN | apply below_drew1 | refine below_set ?_ GE174.out) | exact HB.out)⟩
 ·
  rw [if_neg c2] at H
  have c2b0 : (a0.toList == ([] : List UInt8)) = false := beq_eq_false_iff_ne.mpr c2
  have c2b1 : (a0.toList != ([] : List UInt8)) = true := bne_iff_ne.mpr c2
  have HC5 := Aside0.mk H
  clear H
  go_enter Try.func81, Try.ntmps81
  go_upto_region 3 with (first | ((with_reducible refine gate_dst (N := 2) rfl ?_); refine box_event ?hg (N := 2) ?hd (cs := #[.bool false, .int .u64 0, .string (⟨#[]⟩ : ByteArray), .string (⟨#[]⟩ : ByteArray)]) (t := 59) ?hr ?_; (case hd => rfl); (case hg => rfl); (case hr => first | (go_simp; done) | (go_simp; rfl)); intro gb174 hg w6 hbox hb; have n0_ := Aside0.mk (below_step (by repeat with_reducible first | exact HB.out | apply below_alloc | apply pw_below_drewN | apply below_drew1) hb); have n1_ := Aside0.mk (hbox); have n2_ := Aside0.mk ((by rw [hg]; exact (below_size (by repeat with_reducible first | exact HB.out | apply below_alloc | apply pw_below_drewN | apply below_drew1)) : w.heap.size ≤ gb174)); have n3_ := Aside0.mk ((by rw [hg]; exact (below_size (by repeat with_reducible first | exact HB.out | apply below_alloc | apply pw_below_drewN | apply below_drew1)) : w.heap.size ≤ gb174)); clear HB; have HB := n0_; have BK174 := n1_; have GW174 := n2_; have GE174 := n3_; clear n0_ n1_ n2_ n3_; clear hb hbox hg))
  (try simp only [Act.put, sA, sB, sC])
  go_cut [19] (fun v19 wc => ∃ (kq : Nat) (x19_4 : Bool), v19 = .bool x19_4 ∧ Aside0 (fascicleref07_Read.j0 kq a0 x19_4 = some (r1, r2, r3, r4, r5)) ∧ Aside0 (kq ≤ k) ∧ Aside0 (wc.heap[gb174]? = some (.cells #[.bool false, .int .u64 0, .string (⟨#[]⟩ : ByteArray), .string (⟨#[]⟩ : ByteArray)] 59 (0, 0))) ∧ Aside0 (Below w.heap.size w wc))
  case first =>
   have H := HC5.out
   clear HC5
   by_cases c7 : 0 < (a0.size : Int)
   ·
    rw [if_pos c7] at H
    have c7b0 : decide (0 < (a0.size : Int)) = true := decide_eq_true c7
    have c7b1 : decide (0 < a0.size) = true := decide_eq_true (by omega)
    clear c7
    (first | rw [c7b0] | (simp only [i64_w, i32_w]; rw [c7b0]) | skip)
    by_cases c9 : (bt a0 0) = 2
    ·
     rw [if_pos c9] at H
     have c9b0 : ((bt a0 0) == 2) = true := beq_iff_eq.mpr c9
     have c9b1 : ((bt a0 0) != 2) = false := bne_eq_false_iff_eq.mpr c9
     clear c9
     have H' := Aside0.mk H
     clear H
     have p8 : 0 ≤ (0 : Int) := (by omega)
     have q8 : 0 < a0.size := (by have : (0 : Int) < (a0.size : Int) := of_decide_eq_true (by first | (with_reducible assumption) | assumption); omega)
     have hx8 : ∀ h : 0 < a0.size, ((a0[0]'h).toNat : Int) = bt a0 0 := bt_at a0 0
     clear p8
     have qi8 : (0 < (a0.size : Int)) = True := eq_true (of_decide_eq_true (by first | (with_reducible assumption) | assumption))
     replace q8 := eq_true q8
     go_wp2
     go_meet
     case rel => exact ⟨_, (false), (by first | rfl | (simp; done) | (simp [*]; done) | (simp; exact (fun l : List UInt8 => (by cases l <;> rfl : l.isEmpty = !(l != ([] : List UInt8)))) _)), H', ⟨by first | omega | exact Nat.le_refl _⟩, ⟨by (with_reducible repeat (first | refine blk_drewN ?_ _ | refine blk_drew ?_ | refine blk_alloc ?_ _)); exact BK174.out⟩, ⟨by repeat (first | (with_reducible first | exact HB.out | apply below_alloc | apply pw_below_drewN | apply below_drew1 | refine below_set ?_ GE174.out) | exact HB.out)⟩⟩
    ·
     rw [if_neg c9] at H
     have c9b0 : ((bt a0 0) == 2) = false := beq_eq_false_iff_ne.mpr c9
     have c9b1 : ((bt a0 0) != 2) = true := bne_iff_ne.mpr c9
     have H' := Aside0.mk H
     clear H
     have p8 : 0 ≤ (0 : Int) := (by omega)
     have q8 : 0 < a0.size := (by have : (0 : Int) < (a0.size : Int) := of_decide_eq_true (by first | (with_reducible assumption) | assumption); omega)
     have hx8 : ∀ h : 0 < a0.size, ((a0[0]'h).toNat : Int) = bt a0 0 := bt_at a0 0
     clear p8
     have qi8 : (0 < (a0.size : Int)) = True := eq_true (of_decide_eq_true (by first | (with_reducible assumption) | assumption))
     replace q8 := eq_true q8
     have p10 : 0 ≤ (0 : Int) := (by omega)
     have q10 : 0 < a0.size := (by have : (0 : Int) < (a0.size : Int) := of_decide_eq_true (by first | (with_reducible assumption) | assumption); omega)
     have hx10 : ∀ h : 0 < a0.size, ((a0[0]'h).toNat : Int) = bt a0 0 := bt_at a0 0
     clear p10
     have qi10 : (0 < (a0.size : Int)) = True := eq_true (of_decide_eq_true (by first | (with_reducible assumption) | assumption))
     replace q10 := eq_true q10
     go_wp2
     go_meet
     case rel => exact ⟨_, (((bt a0 0) != 3)), (by first | rfl | (simp; done) | (simp [*]; done) | (simp; exact (fun l : List UInt8 => (by cases l <;> rfl : l.isEmpty = !(l != ([] : List UInt8)))) _)), H', ⟨by first | omega | exact Nat.le_refl _⟩, ⟨by (with_reducible repeat (first | refine blk_drewN ?_ _ | refine blk_drew ?_ | refine blk_alloc ?_ _)); exact BK174.out⟩, ⟨by repeat (first | (with_reducible first | exact HB.out | apply below_alloc | apply pw_below_drewN | apply below_drew1 | refine below_set ?_ GE174.out) | exact HB.out)⟩⟩
   ·
    rw [if_neg c7] at H
    exact absurd H (by simp)
  case rest =>
   clear HC5
   try clear p1
   try clear q1
   try clear hx1
   try clear qi1
   try clear c2
   try clear c2b0
   try clear c2b1
   try clear p2
   try clear c7
   try clear c7b0
   try clear c7b1
   try clear c8
   try clear p8
   try clear q8
   try clear hx8
   try clear qi8
   try clear c9
   try clear c9b0
   try clear c9b1
   try clear p10
   try clear q10
   try clear hx10
   try clear qi10
   try clear hcz4_0
   try clear hcz4_1
   try clear hcz4_2
   try clear hcz4_3
   try clear hfz4_0
   try clear hfz4_1
   try clear hfz4_2
   try clear hfz4_3
   try clear p10
   try clear p8
   try clear q10
   try clear q8
   obtain ⟨kq, x19_4, rfl, HA, HJ4, BK174, HB⟩ := hcut
   cases kq with
   | zero => exact absurd HA.out (by simp [fascicleref07_Read.j0])
   | succ kj4 =>
    have H := HA.out
    clear HA
    simp only [fascicleref07_Read.j0] at H
    by_cases c11 : x19_4 = true
    ·
     subst c11
     have H1 : (some (false, 0, (⟨#[]⟩ : ByteArray), (⟨#[]⟩ : ByteArray), 4)) = some (r1, r2, r3, r4, r5) := by rw [if_pos rfl] at H; exact H
     clear H
     have H := H1
     clear H1
     simp only [Option.some.injEq, Prod.mk.injEq] at H
     obtain ⟨rfl, rfl, rfl, rfl, rfl⟩ := H
     have hcz12_0 : wc.cell? ⟨gb174, 0, none⟩ = some (.bool false) := (blk_cell BK174.out 0).trans rfl
     have hcz12_1 : wc.cell? ⟨gb174, 1, none⟩ = some (.int .u64 0) := (blk_cell BK174.out 1).trans rfl
     have hcz12_2 : wc.cell? ⟨gb174, 2, none⟩ = some (.string (⟨#[]⟩ : ByteArray)) := (blk_cell BK174.out 2).trans rfl
     have hcz12_3 : wc.cell? ⟨gb174, 3, none⟩ = some (.string (⟨#[]⟩ : ByteArray)) := (blk_cell BK174.out 3).trans rfl
     have hfz12_0 := blk_frozen BK174.out 0
     have hfz12_1 := blk_frozen BK174.out 1
     have hfz12_2 := blk_frozen BK174.out 2
     have hfz12_3 := blk_frozen BK174.out 3
     go_wp2
     refine bodyPost_ret (results_ct rfl _ _ gb174 59 #[.bool false, .int .u64 0, .string (⟨#[]⟩ : ByteArray), .string (⟨#[]⟩ : ByteArray)] (0, 0) _ rfl (by (with_reducible repeat (first | refine blk_drewN ?_ _ | refine blk_drew ?_ | refine blk_alloc ?_ _)); refine blk_put (cs := #[.bool false, .int .u64 0, .string (⟨#[]⟩ : ByteArray), .string (⟨#[]⟩ : ByteArray)]) ?_ 3 _ rfl; refine blk_put (cs := #[.bool false, .int .u64 0, .string (⟨#[]⟩ : ByteArray), .string (⟨#[]⟩ : ByteArray)]) ?_ 2 _ rfl; refine blk_put (cs := #[.bool false, .int .u64 0, .string (⟨#[]⟩ : ByteArray), .string (⟨#[]⟩ : ByteArray)]) ?_ 1 _ rfl; refine blk_put (cs := #[.bool false, .int .u64 0, .string (⟨#[]⟩ : ByteArray), .string (⟨#[]⟩ : ByteArray)]) ?_ 0 _ rfl; (with_reducible repeat (first | refine blk_drewN ?_ _ | refine blk_drew ?_ | refine blk_alloc ?_ _)); exact BK174.out) Try.underlying59 rfl (by kernel_rfl)) rfl ?_
     exact ⟨by first | rfl | (simp <;> rfl) | (simp [*] <;> rfl), by repeat (first | (with_reducible first | exact HB.out | apply below_alloc | apply pw_below_drewN | apply below_drew1 | refine below_set ?_ GE174.out) | exact HB.out)⟩
    ·
     replace c11 := Bool.eq_false_iff.mpr c11
     subst c11
     have H1 : (if 0 < (a0.size : Int) then (if 1 ≤ (a0.size : Int) then ((fascicleref02_Get.f kj4 (a0.extract 1 a0.size) 0 0).bind fun bt176 => ((fascicleref02_GetText.f kj4 bt176.1 bt176.2.1 bt176.2.2.1 1 4096).bind fun bt181 => (if ((bt a0 0) = 3) then ((fascicleref01_End.f bt181.1 bt181.2.1 bt181.2.2.1).bind fun bt185 => (if bt185.2.2 = 0 then (some (((bt a0 0) == 3), bt176.2.2.2, bt181.2.2.2, (⟨#[]⟩ : ByteArray), 0)) else (some (false, 0, (⟨#[]⟩ : ByteArray), (⟨#[]⟩ : ByteArray), bt185.2.2)))) else ((fascicleref02_GetText.f kj4 bt181.1 bt181.2.1 bt181.2.2.1 0 1048576).bind fun bt188 => ((fascicleref01_End.f bt188.1 bt188.2.1 bt188.2.2.1).bind fun bt192 => (if bt192.2.2 = 0 then (some (((bt a0 0) == 3), bt176.2.2.2, bt181.2.2.2, bt188.2.2.2, 0)) else (some (false, 0, (⟨#[]⟩ : ByteArray), (⟨#[]⟩ : ByteArray), bt192.2.2)))))))) else (none)) else (none)) = some (r1, r2, r3, r4, r5) := by rw [if_neg (show ¬ (false = true) by decide)] at H; exact H
     clear H
     have H := H1
     clear H1
     by_cases c13 : 0 < (a0.size : Int)
     ·
      rw [if_pos c13] at H
      have c13b0 : decide (0 < (a0.size : Int)) = true := decide_eq_true c13
      have c13b1 : decide (0 < a0.size) = true := decide_eq_true (by omega)
      clear c13
      by_cases c15 : 1 ≤ (a0.size : Int)
      ·
       rw [if_pos c15] at H
       have c15b0 := eq_true c15
       have c15b1 : decide (1 ≤ (a0.size : Int)) = true := decide_eq_true c15
       clear c15
       replace H := Option.bind_eq_some_iff.mp H
       obtain ⟨⟨t176, t177, t178, t179⟩, A160, H⟩ := H
       replace H : ((fascicleref02_GetText.f kj4 t176 t177 t178 1 4096).bind fun bt181 => (if ((bt a0 0) = 3) then ((fascicleref01_End.f bt181.1 bt181.2.1 bt181.2.2.1).bind fun bt185 => (if bt185.2.2 = 0 then (some (((bt a0 0) == 3), t179, bt181.2.2.2, (⟨#[]⟩ : ByteArray), 0)) else (some (false, 0, (⟨#[]⟩ : ByteArray), (⟨#[]⟩ : ByteArray), bt185.2.2)))) else ((fascicleref02_GetText.f kj4 bt181.1 bt181.2.1 bt181.2.2.1 0 1048576).bind fun bt188 => ((fascicleref01_End.f bt188.1 bt188.2.1 bt188.2.2.1).bind fun bt192 => (if bt192.2.2 = 0 then (some (((bt a0 0) == 3), t179, bt181.2.2.2, bt188.2.2.2, 0)) else (some (false, 0, (⟨#[]⟩ : ByteArray), (⟨#[]⟩ : ByteArray), bt192.2.2))))))) = some (r1, r2, r3, r4, r5) := H
       have A16 := Aside0.mk A160
       clear A160
       replace H := Option.bind_eq_some_iff.mp H
       obtain ⟨⟨t181, t182, t183, t184⟩, A170, H⟩ := H
       replace H : (if ((bt a0 0) = 3) then ((fascicleref01_End.f t181 t182 t183).bind fun bt185 => (if bt185.2.2 = 0 then (some (((bt a0 0) == 3), t179, t184, (⟨#[]⟩ : ByteArray), 0)) else (some (false, 0, (⟨#[]⟩ : ByteArray), (⟨#[]⟩ : ByteArray), bt185.2.2)))) else ((fascicleref02_GetText.f kj4 t181 t182 t183 0 1048576).bind fun bt188 => ((fascicleref01_End.f bt188.1 bt188.2.1 bt188.2.2.1).bind fun bt192 => (if bt192.2.2 = 0 then (some (((bt a0 0) == 3), t179, t184, bt188.2.2.2, 0)) else (some (false, 0, (⟨#[]⟩ : ByteArray), (⟨#[]⟩ : ByteArray), bt192.2.2)))))) = some (r1, r2, r3, r4, r5) := H
       have A17 := Aside0.mk A170
       clear A170
       by_cases c18 : ((bt a0 0) = 3)
       ·
        rw [if_pos c18] at H
        have c18b0 : ((bt a0 0) == 3) = true := beq_iff_eq.mpr c18
        have c18b1 : ((bt a0 0) != 3) = false := bne_eq_false_iff_eq.mpr c18
        clear c18
        replace H := Option.bind_eq_some_iff.mp H
        obtain ⟨⟨t185, t186, t187⟩, A190, H⟩ := H
        replace H : (if t187 = 0 then (some (((bt a0 0) == 3), t179, t184, (⟨#[]⟩ : ByteArray), 0)) else (some (false, 0, (⟨#[]⟩ : ByteArray), (⟨#[]⟩ : ByteArray), t187))) = some (r1, r2, r3, r4, r5) := H
        have A19 := Aside0.mk A190
        clear A190
        by_cases c20 : t187 = 0
        ·
         rw [if_pos c20] at H
         have c20b0 : (t187 == 0) = true := beq_iff_eq.mpr c20
         have c20b1 : (t187 != 0) = false := bne_eq_false_iff_eq.mpr c20
         clear c20
         simp only [Option.some.injEq, Prod.mk.injEq] at H
         obtain ⟨rfl, rfl, rfl, rfl, rfl⟩ := H
         have p14 : 0 ≤ (0 : Int) := (by omega)
         have q14 : 0 < a0.size := (by have : (0 : Int) < (a0.size : Int) := of_decide_eq_true (by first | (with_reducible assumption) | assumption); omega)
         have hx14 : ∀ h : 0 < a0.size, ((a0[0]'h).toNat : Int) = bt a0 0 := bt_at a0 0
         clear p14
         have qi14 : (0 < (a0.size : Int)) = True := eq_true (of_decide_eq_true (by first | (with_reducible assumption) | assumption))
         replace q14 := eq_true q14
         go_wp2_with (first | ((with_reducible refine gate_dst (N := 4) rfl ?_); refine box_event ?hg (N := 4) ?hd (cs := #[.bool false, .int .u64 0, .string (⟨#[]⟩ : ByteArray), .string (⟨#[]⟩ : ByteArray)]) (t := 59) ?hr ?_; (case hd => rfl); (case hg => rfl); (case hr => first | (go_simp; done) | (go_simp; rfl)); intro gb175 hg w21 hbox hb; have n0_ := Aside0.mk (blk_below (g := gb174) (o := .cells #[.bool false, .int .u64 0, .string (⟨#[]⟩ : ByteArray), .string (⟨#[]⟩ : ByteArray)] 59 (0, 0)) (by (with_reducible repeat (first | refine blk_drewN ?_ _ | refine blk_drew ?_ | refine blk_alloc ?_ _)); exact BK174.out) hb); have n1_ := Aside0.mk (below_step (by repeat with_reducible first | exact HB.out | apply below_alloc | apply pw_below_drewN | apply below_drew1 | refine below_set ?_ GE174.out) hb); have n2_ := Aside0.mk (hbox); have n3_ := Aside0.mk ((by rw [hg]; exact (below_size (by repeat with_reducible first | exact HB.out | apply below_alloc | apply pw_below_drewN | apply below_drew1 | refine below_set ?_ GE174.out)) : w.heap.size ≤ gb175)); have n4_ := Aside0.mk ((by rw [hg]; exact (below_size (by repeat with_reducible first | exact HB.out | apply below_alloc | apply pw_below_drewN | apply below_drew1 | refine below_set ?_ GE174.out)) : w.heap.size ≤ gb175)); have n5_ := Aside0.mk ((by rw [hg]; exact Nat.ne_of_lt (blk_lt (g := gb174) (o := .cells #[.bool false, .int .u64 0, .string (⟨#[]⟩ : ByteArray), .string (⟨#[]⟩ : ByteArray)] 59 (0, 0)) (by (with_reducible repeat (first | refine blk_drewN ?_ _ | refine blk_drew ?_ | refine blk_alloc ?_ _)); exact BK174.out)) : gb174 ≠ gb175)); have n6_ := Aside0.mk ((by rw [hg]; exact Nat.ne_of_gt (blk_lt (g := gb174) (o := .cells #[.bool false, .int .u64 0, .string (⟨#[]⟩ : ByteArray), .string (⟨#[]⟩ : ByteArray)] 59 (0, 0)) (by (with_reducible repeat (first | refine blk_drewN ?_ _ | refine blk_drew ?_ | refine blk_alloc ?_ _)); exact BK174.out)) : gb175 ≠ gb174)); clear BK174; clear HB; have BK174 := n0_; have HB := n1_; have BK175 := n2_; have GW175 := n3_; have GE175 := n4_; have NB174_175 := n5_; have NB175_174 := n6_; clear n0_ n1_ n2_ n3_ n4_ n5_ n6_; clear hb hbox hg; have hnb22 := NB175_174.out; have hnc22 := NB174_175.out; have hcz23_0 : w21.cell? ⟨gb175, 0, none⟩ = some (.bool false) := (blk_cell BK175.out 0).trans rfl; have hcz23_1 : w21.cell? ⟨gb175, 1, none⟩ = some (.int .u64 0) := (blk_cell BK175.out 1).trans rfl; have hcz23_2 : w21.cell? ⟨gb175, 2, none⟩ = some (.string (⟨#[]⟩ : ByteArray)) := (blk_cell BK175.out 2).trans rfl; have hcz23_3 : w21.cell? ⟨gb175, 3, none⟩ = some (.string (⟨#[]⟩ : ByteArray)) := (blk_cell BK175.out 3).trans rfl; have hfz23_0 := blk_frozen BK175.out 0; have hfz23_1 := blk_frozen BK175.out 1; have hfz23_2 := blk_frozen BK175.out 2; have hfz23_3 := blk_frozen BK175.out 3) | ((with_reducible refine gate_callee (f := 76) rfl ?_); refine goesL_ (some 29) rfl rfl Try.func76 (by kernel_rfl) rfl #[.agg #[.string (a0.extract 1 a0.size), .int .i64 0, .int .i64 0]] rfl (by (try simp only [mA, mB, mC]); first | done | rfl) ?_; (with_reducible refine (fascicleref02_Get.calls kj4 (a0.extract 1 a0.size) 0 0 t176 t177 t178 t179 _ A16.out).mono ?_); rintro e w24 ⟨rfl, hb⟩; refine ⟨_, rfl, ?_⟩; replace BK174 := Aside0.mk (blk_below (g := gb174) (o := .cells #[.bool false, .int .u64 0, .string (⟨#[]⟩ : ByteArray), .string (⟨#[]⟩ : ByteArray)] 59 (0, 0)) (by (with_reducible repeat (first | refine blk_drewN ?_ _ | refine blk_drew ?_ | refine blk_alloc ?_ _)); refine blk_far ?_ NB174_175.out _; refine blk_far ?_ NB174_175.out _; refine blk_far ?_ NB174_175.out _; refine blk_far ?_ NB174_175.out _; (with_reducible repeat (first | refine blk_drewN ?_ _ | refine blk_drew ?_ | refine blk_alloc ?_ _)); exact BK174.out) hb); replace BK175 := Aside0.mk (blk_below (g := gb175) (o := .cells #[.bool true, .int .u64 0, .string (⟨#[]⟩ : ByteArray), .string (⟨#[]⟩ : ByteArray)] 59 (0, 0)) (by (with_reducible repeat (first | refine blk_drewN ?_ _ | refine blk_drew ?_ | refine blk_alloc ?_ _)); refine blk_put (cs := #[.bool true, .int .u64 0, .string (⟨#[]⟩ : ByteArray), .string (⟨#[]⟩ : ByteArray)]) ?_ 3 _ rfl; refine blk_put (cs := #[.bool true, .int .u64 0, .string (⟨#[]⟩ : ByteArray), .string (⟨#[]⟩ : ByteArray)]) ?_ 2 _ rfl; refine blk_put (cs := #[.bool true, .int .u64 0, .string (⟨#[]⟩ : ByteArray), .string (⟨#[]⟩ : ByteArray)]) ?_ 1 _ rfl; refine blk_put (cs := #[.bool false, .int .u64 0, .string (⟨#[]⟩ : ByteArray), .string (⟨#[]⟩ : ByteArray)]) ?_ 0 _ rfl; (with_reducible repeat (first | refine blk_drewN ?_ _ | refine blk_drew ?_ | refine blk_alloc ?_ _)); exact BK175.out) hb); replace HB := Aside0.mk (below_step (by repeat with_reducible first | exact HB.out | apply below_alloc | apply pw_below_drewN | apply below_drew1 | refine below_set ?_ GE174.out | refine below_set ?_ GE175.out) hb); (try clear hb)) | ((with_reducible refine gate_dst (N := 5) rfl ?_); refine box_event ?hg (N := 5) ?hd (cs := #[.string (⟨#[]⟩ : ByteArray), .int .i64 0, .int .i64 0]) (t := 115) ?hr ?_; (case hd => rfl); (case hg => rfl); (case hr => first | (go_simp; done) | (go_simp; rfl)); intro gb180 hg w25 hbox hb; have n0_ := Aside0.mk (blk_below (g := gb174) (o := .cells #[.bool false, .int .u64 0, .string (⟨#[]⟩ : ByteArray), .string (⟨#[]⟩ : ByteArray)] 59 (0, 0)) (by (with_reducible repeat (first | refine blk_drewN ?_ _ | refine blk_drew ?_ | refine blk_alloc ?_ _)); exact BK174.out) hb); have n1_ := Aside0.mk (blk_below (g := gb175) (o := .cells #[.bool true, .int .u64 0, .string (⟨#[]⟩ : ByteArray), .string (⟨#[]⟩ : ByteArray)] 59 (0, 0)) (by (with_reducible repeat (first | refine blk_drewN ?_ _ | refine blk_drew ?_ | refine blk_alloc ?_ _)); exact BK175.out) hb); have n2_ := Aside0.mk (below_step (by repeat with_reducible first | exact HB.out | apply below_alloc | apply pw_below_drewN | apply below_drew1 | refine below_set ?_ GE174.out | refine below_set ?_ GE175.out) hb); have n3_ := Aside0.mk (hbox); have n4_ := Aside0.mk ((by rw [hg]; exact (below_size (by repeat with_reducible first | exact HB.out | apply below_alloc | apply pw_below_drewN | apply below_drew1 | refine below_set ?_ GE174.out | refine below_set ?_ GE175.out)) : w.heap.size ≤ gb180)); have n5_ := Aside0.mk ((by rw [hg]; exact (below_size (by repeat with_reducible first | exact HB.out | apply below_alloc | apply pw_below_drewN | apply below_drew1 | refine below_set ?_ GE174.out | refine below_set ?_ GE175.out)) : w.heap.size ≤ gb180)); have n6_ := Aside0.mk ((by rw [hg]; exact Nat.ne_of_lt (blk_lt (g := gb174) (o := .cells #[.bool false, .int .u64 0, .string (⟨#[]⟩ : ByteArray), .string (⟨#[]⟩ : ByteArray)] 59 (0, 0)) (by (with_reducible repeat (first | refine blk_drewN ?_ _ | refine blk_drew ?_ | refine blk_alloc ?_ _)); exact BK174.out)) : gb174 ≠ gb180)); have n7_ := Aside0.mk ((by rw [hg]; exact Nat.ne_of_gt (blk_lt (g := gb174) (o := .cells #[.bool false, .int .u64 0, .string (⟨#[]⟩ : ByteArray), .string (⟨#[]⟩ : ByteArray)] 59 (0, 0)) (by (with_reducible repeat (first | refine blk_drewN ?_ _ | refine blk_drew ?_ | refine blk_alloc ?_ _)); exact BK174.out)) : gb180 ≠ gb174)); have n8_ := Aside0.mk ((by rw [hg]; exact Nat.ne_of_lt (blk_lt (g := gb175) (o := .cells #[.bool true, .int .u64 0, .string (⟨#[]⟩ : ByteArray), .string (⟨#[]⟩ : ByteArray)] 59 (0, 0)) (by (with_reducible repeat (first | refine blk_drewN ?_ _ | refine blk_drew ?_ | refine blk_alloc ?_ _)); exact BK175.out)) : gb175 ≠ gb180)); have n9_ := Aside0.mk ((by rw [hg]; exact Nat.ne_of_gt (blk_lt (g := gb175) (o := .cells #[.bool true, .int .u64 0, .string (⟨#[]⟩ : ByteArray), .string (⟨#[]⟩ : ByteArray)] 59 (0, 0)) (by (with_reducible repeat (first | refine blk_drewN ?_ _ | refine blk_drew ?_ | refine blk_alloc ?_ _)); exact BK175.out)) : gb180 ≠ gb175)); clear BK174; clear BK175; clear HB; have BK174 := n0_; have BK175 := n1_; have HB := n2_; have BK180 := n3_; have GW180 := n4_; have GE180 := n5_; have NB174_180 := n6_; have NB180_174 := n7_; have NB175_180 := n8_; have NB180_175 := n9_; clear n0_ n1_ n2_ n3_ n4_ n5_ n6_ n7_ n8_ n9_; clear hb hbox hg; have hnb26 := NB180_174.out; have hnc26 := NB174_180.out; have hnb27 := NB180_175.out; have hnc27 := NB175_180.out; have hcz28_0 : w25.cell? ⟨gb180, 0, none⟩ = some (.string (⟨#[]⟩ : ByteArray)) := (blk_cell BK180.out 0).trans rfl; have hcz28_1 : w25.cell? ⟨gb180, 1, none⟩ = some (.int .i64 0) := (blk_cell BK180.out 1).trans rfl; have hcz28_2 : w25.cell? ⟨gb180, 2, none⟩ = some (.int .i64 0) := (blk_cell BK180.out 2).trans rfl; have hfz28_0 := blk_frozen BK180.out 0; have hfz28_1 := blk_frozen BK180.out 1; have hfz28_2 := blk_frozen BK180.out 2) | ((with_reducible refine gate_callee (f := 132) rfl ?_); refine goesL_ (some 34) rfl rfl Try.func132 (by kernel_rfl) rfl #[.agg #[.string t176, .int .i64 t177, .int .i64 t178], .int .i64 1, .int .i64 4096] rfl (by (try simp only [mA, mB, mC]); first | done | rfl) ?_; (with_reducible refine (fascicleref02_GetText.calls kj4 t176 t177 t178 1 4096 t181 t182 t183 t184 _ A17.out).mono ?_); rintro e w29 ⟨rfl, hb⟩; refine ⟨_, rfl, ?_⟩; replace BK174 := Aside0.mk (blk_below (g := gb174) (o := .cells #[.bool false, .int .u64 0, .string (⟨#[]⟩ : ByteArray), .string (⟨#[]⟩ : ByteArray)] 59 (0, 0)) (by (with_reducible repeat (first | refine blk_drewN ?_ _ | refine blk_drew ?_ | refine blk_alloc ?_ _)); refine blk_far ?_ NB174_180.out _; refine blk_far ?_ NB174_180.out _; refine blk_far ?_ NB174_180.out _; (with_reducible repeat (first | refine blk_drewN ?_ _ | refine blk_drew ?_ | refine blk_alloc ?_ _)); exact BK174.out) hb); replace BK175 := Aside0.mk (blk_below (g := gb175) (o := .cells #[.bool true, .int .u64 0, .string (⟨#[]⟩ : ByteArray), .string (⟨#[]⟩ : ByteArray)] 59 (0, 0)) (by (with_reducible repeat (first | refine blk_drewN ?_ _ | refine blk_drew ?_ | refine blk_alloc ?_ _)); refine blk_far ?_ NB175_180.out _; refine blk_far ?_ NB175_180.out _; refine blk_far ?_ NB175_180.out _; (with_reducible repeat (first | refine blk_drewN ?_ _ | refine blk_drew ?_ | refine blk_alloc ?_ _)); exact BK175.out) hb); replace BK180 := Aside0.mk (blk_below (g := gb180) (o := .cells #[.string t176, .int .i64 t177, .int .i64 t178] 115 (0, 0)) (by (with_reducible repeat (first | refine blk_drewN ?_ _ | refine blk_drew ?_ | refine blk_alloc ?_ _)); refine blk_put (cs := #[.string t176, .int .i64 t177, .int .i64 0]) ?_ 2 _ rfl; refine blk_put (cs := #[.string t176, .int .i64 0, .int .i64 0]) ?_ 1 _ rfl; refine blk_put (cs := #[.string (⟨#[]⟩ : ByteArray), .int .i64 0, .int .i64 0]) ?_ 0 _ rfl; (with_reducible repeat (first | refine blk_drewN ?_ _ | refine blk_drew ?_ | refine blk_alloc ?_ _)); exact BK180.out) hb); replace HB := Aside0.mk (below_step (by repeat with_reducible first | exact HB.out | apply below_alloc | apply pw_below_drewN | apply below_drew1 | refine below_set ?_ GE174.out | refine below_set ?_ GE175.out | refine below_set ?_ GE180.out) hb); (try clear hb); have hcz30_0 : w29.cell? ⟨gb180, 0, none⟩ = some (.string t176) := (blk_cell BK180.out 0).trans rfl; have hcz30_1 : w29.cell? ⟨gb180, 1, none⟩ = some (.int .i64 t177) := (blk_cell BK180.out 1).trans rfl; have hcz30_2 : w29.cell? ⟨gb180, 2, none⟩ = some (.int .i64 t178) := (blk_cell BK180.out 2).trans rfl; have hfz30_0 := blk_frozen BK180.out 0; have hfz30_1 := blk_frozen BK180.out 1; have hfz30_2 := blk_frozen BK180.out 2; have hcz31_0 : w29.cell? ⟨gb175, 0, none⟩ = some (.bool true) := (blk_cell BK175.out 0).trans rfl; have hcz31_1 : w29.cell? ⟨gb175, 1, none⟩ = some (.int .u64 0) := (blk_cell BK175.out 1).trans rfl; have hcz31_2 : w29.cell? ⟨gb175, 2, none⟩ = some (.string (⟨#[]⟩ : ByteArray)) := (blk_cell BK175.out 2).trans rfl; have hcz31_3 : w29.cell? ⟨gb175, 3, none⟩ = some (.string (⟨#[]⟩ : ByteArray)) := (blk_cell BK175.out 3).trans rfl; have hfz31_0 := blk_frozen BK175.out 0; have hfz31_1 := blk_frozen BK175.out 1; have hfz31_2 := blk_frozen BK175.out 2; have hfz31_3 := blk_frozen BK175.out 3) | ((with_reducible refine gate_callee (f := 77) rfl ?_); refine goesL_ (some 46) rfl rfl Try.func77 (by kernel_rfl) rfl #[.agg #[.string t181, .int .i64 t182, .int .i64 t183]] rfl (by (try simp only [mA, mB, mC]); first | done | rfl) ?_; (with_reducible refine (fascicleref01_End.calls t181 t182 t183 t185 t186 t187 _ A19.out).mono ?_); rintro e w32 ⟨rfl, hb⟩; refine ⟨_, rfl, ?_⟩; replace BK174 := Aside0.mk (blk_below (g := gb174) (o := .cells #[.bool false, .int .u64 0, .string (⟨#[]⟩ : ByteArray), .string (⟨#[]⟩ : ByteArray)] 59 (0, 0)) (by (with_reducible repeat (first | refine blk_drewN ?_ _ | refine blk_drew ?_ | refine blk_alloc ?_ _)); refine blk_far ?_ NB174_180.out _; refine blk_far ?_ NB174_180.out _; refine blk_far ?_ NB174_180.out _; (with_reducible repeat (first | refine blk_drewN ?_ _ | refine blk_drew ?_ | refine blk_alloc ?_ _)); exact BK174.out) hb); replace BK175 := Aside0.mk (blk_below (g := gb175) (o := .cells #[.bool true, .int .u64 0, .string (⟨#[]⟩ : ByteArray), .string (⟨#[]⟩ : ByteArray)] 59 (0, 0)) (by (with_reducible repeat (first | refine blk_drewN ?_ _ | refine blk_drew ?_ | refine blk_alloc ?_ _)); refine blk_far ?_ NB175_180.out _; refine blk_far ?_ NB175_180.out _; refine blk_far ?_ NB175_180.out _; (with_reducible repeat (first | refine blk_drewN ?_ _ | refine blk_drew ?_ | refine blk_alloc ?_ _)); exact BK175.out) hb); replace BK180 := Aside0.mk (blk_below (g := gb180) (o := .cells #[.string t181, .int .i64 t182, .int .i64 t183] 115 (0, 0)) (by (with_reducible repeat (first | refine blk_drewN ?_ _ | refine blk_drew ?_ | refine blk_alloc ?_ _)); refine blk_put (cs := #[.string t181, .int .i64 t182, .int .i64 t178]) ?_ 2 _ rfl; refine blk_put (cs := #[.string t181, .int .i64 t177, .int .i64 t178]) ?_ 1 _ rfl; refine blk_put (cs := #[.string t176, .int .i64 t177, .int .i64 t178]) ?_ 0 _ rfl; (with_reducible repeat (first | refine blk_drewN ?_ _ | refine blk_drew ?_ | refine blk_alloc ?_ _)); exact BK180.out) hb); replace HB := Aside0.mk (below_step (by repeat with_reducible first | exact HB.out | apply below_alloc | apply pw_below_drewN | apply below_drew1 | refine below_set ?_ GE174.out | refine below_set ?_ GE175.out | refine below_set ?_ GE180.out) hb); (try clear hb); have hcz33_0 : w32.cell? ⟨gb180, 0, none⟩ = some (.string t181) := (blk_cell BK180.out 0).trans rfl; have hcz33_1 : w32.cell? ⟨gb180, 1, none⟩ = some (.int .i64 t182) := (blk_cell BK180.out 1).trans rfl; have hcz33_2 : w32.cell? ⟨gb180, 2, none⟩ = some (.int .i64 t183) := (blk_cell BK180.out 2).trans rfl; have hfz33_0 := blk_frozen BK180.out 0; have hfz33_1 := blk_frozen BK180.out 1; have hfz33_2 := blk_frozen BK180.out 2; have hcz34_0 : w32.cell? ⟨gb175, 0, none⟩ = some (.bool true) := (blk_cell BK175.out 0).trans rfl; have hcz34_1 : w32.cell? ⟨gb175, 1, none⟩ = some (.int .u64 0) := (blk_cell BK175.out 1).trans rfl; have hcz34_2 : w32.cell? ⟨gb175, 2, none⟩ = some (.string (⟨#[]⟩ : ByteArray)) := (blk_cell BK175.out 2).trans rfl; have hcz34_3 : w32.cell? ⟨gb175, 3, none⟩ = some (.string (⟨#[]⟩ : ByteArray)) := (blk_cell BK175.out 3).trans rfl; have hfz34_0 := blk_frozen BK175.out 0; have hfz34_1 := blk_frozen BK175.out 1; have hfz34_2 := blk_frozen BK175.out 2; have hfz34_3 := blk_frozen BK175.out 3; have hcz35_0 : w32.cell? ⟨gb174, 0, none⟩ = some (.bool false) := (blk_cell BK174.out 0).trans rfl; have hcz35_1 : w32.cell? ⟨gb174, 1, none⟩ = some (.int .u64 0) := (blk_cell BK174.out 1).trans rfl; have hcz35_2 : w32.cell? ⟨gb174, 2, none⟩ = some (.string (⟨#[]⟩ : ByteArray)) := (blk_cell BK174.out 2).trans rfl; have hcz35_3 : w32.cell? ⟨gb174, 3, none⟩ = some (.string (⟨#[]⟩ : ByteArray)) := (blk_cell BK174.out 3).trans rfl; have hfz35_0 := blk_frozen BK174.out 0; have hfz35_1 := blk_frozen BK174.out 1; have hfz35_2 := blk_frozen BK174.out 2; have hfz35_3 := blk_frozen BK174.out 3))
         refine bodyPost_ret (results_ct rfl _ _ gb174 59 #[.bool true, .int .u64 t179, .string t184, .string (⟨#[]⟩ : ByteArray)] (0, 0) _ rfl (by (with_reducible repeat (first | refine blk_drewN ?_ _ | refine blk_drew ?_ | refine blk_alloc ?_ _)); refine blk_put (cs := #[.bool true, .int .u64 t179, .string t184, .string (⟨#[]⟩ : ByteArray)]) ?_ 3 _ rfl; refine blk_put (cs := #[.bool true, .int .u64 t179, .string (⟨#[]⟩ : ByteArray), .string (⟨#[]⟩ : ByteArray)]) ?_ 2 _ rfl; refine blk_put (cs := #[.bool true, .int .u64 0, .string (⟨#[]⟩ : ByteArray), .string (⟨#[]⟩ : ByteArray)]) ?_ 1 _ rfl; refine blk_put (cs := #[.bool false, .int .u64 0, .string (⟨#[]⟩ : ByteArray), .string (⟨#[]⟩ : ByteArray)]) ?_ 0 _ rfl; (with_reducible repeat (first | refine blk_drewN ?_ _ | refine blk_drew ?_ | refine blk_alloc ?_ _)); refine blk_far ?_ NB174_175.out _; refine blk_far ?_ NB174_175.out _; refine blk_far ?_ NB174_175.out _; (with_reducible repeat (first | refine blk_drewN ?_ _ | refine blk_drew ?_ | refine blk_alloc ?_ _)); refine blk_far ?_ NB174_180.out _; refine blk_far ?_ NB174_180.out _; refine blk_far ?_ NB174_180.out _; (with_reducible repeat (first | refine blk_drewN ?_ _ | refine blk_drew ?_ | refine blk_alloc ?_ _)); exact BK174.out) Try.underlying59 rfl (by kernel_rfl)) rfl ?_
         exact ⟨by first | rfl | (simp <;> rfl) | (simp [*] <;> rfl), by repeat (first | (with_reducible first | exact HB.out | apply below_alloc | apply pw_below_drewN | apply below_drew1 | refine below_set ?_ GE174.out | refine below_set ?_ GE175.out | refine below_set ?_ GE180.out) | exact HB.out)⟩
        ·
         rw [if_neg c20] at H
         have c20b0 : (t187 == 0) = false := beq_eq_false_iff_ne.mpr c20
         have c20b1 : (t187 != 0) = true := bne_iff_ne.mpr c20
         simp only [Option.some.injEq, Prod.mk.injEq] at H
         obtain ⟨rfl, rfl, rfl, rfl, rfl⟩ := H
         have p14 : 0 ≤ (0 : Int) := (by omega)
         have q14 : 0 < a0.size := (by have : (0 : Int) < (a0.size : Int) := of_decide_eq_true (by first | (with_reducible assumption) | assumption); omega)
         have hx14 : ∀ h : 0 < a0.size, ((a0[0]'h).toNat : Int) = bt a0 0 := bt_at a0 0
         clear p14
         have qi14 : (0 < (a0.size : Int)) = True := eq_true (of_decide_eq_true (by first | (with_reducible assumption) | assumption))
         replace q14 := eq_true q14
         try go_wp2_with (first | ((with_reducible refine gate_dst (N := 4) rfl ?_); refine box_event ?hg (N := 4) ?hd (cs := #[.bool false, .int .u64 0, .string (⟨#[]⟩ : ByteArray), .string (⟨#[]⟩ : ByteArray)]) (t := 59) ?hr ?_; (case hd => rfl); (case hg => rfl); (case hr => first | (go_simp; done) | (go_simp; rfl)); intro gb175 hg w36 hbox hb; have n0_ := Aside0.mk (blk_below (g := gb174) (o := .cells #[.bool false, .int .u64 0, .string (⟨#[]⟩ : ByteArray), .string (⟨#[]⟩ : ByteArray)] 59 (0, 0)) (by (with_reducible repeat (first | refine blk_drewN ?_ _ | refine blk_drew ?_ | refine blk_alloc ?_ _)); exact BK174.out) hb); have n1_ := Aside0.mk (below_step (by repeat with_reducible first | exact HB.out | apply below_alloc | apply pw_below_drewN | apply below_drew1 | refine below_set ?_ GE174.out) hb); have n2_ := Aside0.mk (hbox); have n3_ := Aside0.mk ((by rw [hg]; exact (below_size (by repeat with_reducible first | exact HB.out | apply below_alloc | apply pw_below_drewN | apply below_drew1 | refine below_set ?_ GE174.out)) : w.heap.size ≤ gb175)); have n4_ := Aside0.mk ((by rw [hg]; exact (below_size (by repeat with_reducible first | exact HB.out | apply below_alloc | apply pw_below_drewN | apply below_drew1 | refine below_set ?_ GE174.out)) : w.heap.size ≤ gb175)); have n5_ := Aside0.mk ((by rw [hg]; exact Nat.ne_of_lt (blk_lt (g := gb174) (o := .cells #[.bool false, .int .u64 0, .string (⟨#[]⟩ : ByteArray), .string (⟨#[]⟩ : ByteArray)] 59 (0, 0)) (by (with_reducible repeat (first | refine blk_drewN ?_ _ | refine blk_drew ?_ | refine blk_alloc ?_ _)); exact BK174.out)) : gb174 ≠ gb175)); have n6_ := Aside0.mk ((by rw [hg]; exact Nat.ne_of_gt (blk_lt (g := gb174) (o := .cells #[.bool false, .int .u64 0, .string (⟨#[]⟩ : ByteArray), .string (⟨#[]⟩ : ByteArray)] 59 (0, 0)) (by (with_reducible repeat (first | refine blk_drewN ?_ _ | refine blk_drew ?_ | refine blk_alloc ?_ _)); exact BK174.out)) : gb175 ≠ gb174)); clear BK174; clear HB; have BK174 := n0_; have HB := n1_; have BK175 := n2_; have GW175 := n3_; have GE175 := n4_; have NB174_175 := n5_; have NB175_174 := n6_; clear n0_ n1_ n2_ n3_ n4_ n5_ n6_; clear hb hbox hg; have hnb37 := NB175_174.out; have hnc37 := NB174_175.out; have hcz38_0 : w36.cell? ⟨gb175, 0, none⟩ = some (.bool false) := (blk_cell BK175.out 0).trans rfl; have hcz38_1 : w36.cell? ⟨gb175, 1, none⟩ = some (.int .u64 0) := (blk_cell BK175.out 1).trans rfl; have hcz38_2 : w36.cell? ⟨gb175, 2, none⟩ = some (.string (⟨#[]⟩ : ByteArray)) := (blk_cell BK175.out 2).trans rfl; have hcz38_3 : w36.cell? ⟨gb175, 3, none⟩ = some (.string (⟨#[]⟩ : ByteArray)) := (blk_cell BK175.out 3).trans rfl; have hfz38_0 := blk_frozen BK175.out 0; have hfz38_1 := blk_frozen BK175.out 1; have hfz38_2 := blk_frozen BK175.out 2; have hfz38_3 := blk_frozen BK175.out 3) | ((with_reducible refine gate_callee (f := 76) rfl ?_); refine goesL_ (some 29) rfl rfl Try.func76 (by kernel_rfl) rfl #[.agg #[.string (a0.extract 1 a0.size), .int .i64 0, .int .i64 0]] rfl (by (try simp only [mA, mB, mC]); first | done | rfl) ?_; (with_reducible refine (fascicleref02_Get.calls kj4 (a0.extract 1 a0.size) 0 0 t176 t177 t178 t179 _ A16.out).mono ?_); rintro e w39 ⟨rfl, hb⟩; refine ⟨_, rfl, ?_⟩; replace BK174 := Aside0.mk (blk_below (g := gb174) (o := .cells #[.bool false, .int .u64 0, .string (⟨#[]⟩ : ByteArray), .string (⟨#[]⟩ : ByteArray)] 59 (0, 0)) (by (with_reducible repeat (first | refine blk_drewN ?_ _ | refine blk_drew ?_ | refine blk_alloc ?_ _)); refine blk_far ?_ NB174_175.out _; refine blk_far ?_ NB174_175.out _; refine blk_far ?_ NB174_175.out _; refine blk_far ?_ NB174_175.out _; (with_reducible repeat (first | refine blk_drewN ?_ _ | refine blk_drew ?_ | refine blk_alloc ?_ _)); exact BK174.out) hb); replace BK175 := Aside0.mk (blk_below (g := gb175) (o := .cells #[.bool true, .int .u64 0, .string (⟨#[]⟩ : ByteArray), .string (⟨#[]⟩ : ByteArray)] 59 (0, 0)) (by (with_reducible repeat (first | refine blk_drewN ?_ _ | refine blk_drew ?_ | refine blk_alloc ?_ _)); refine blk_put (cs := #[.bool true, .int .u64 0, .string (⟨#[]⟩ : ByteArray), .string (⟨#[]⟩ : ByteArray)]) ?_ 3 _ rfl; refine blk_put (cs := #[.bool true, .int .u64 0, .string (⟨#[]⟩ : ByteArray), .string (⟨#[]⟩ : ByteArray)]) ?_ 2 _ rfl; refine blk_put (cs := #[.bool true, .int .u64 0, .string (⟨#[]⟩ : ByteArray), .string (⟨#[]⟩ : ByteArray)]) ?_ 1 _ rfl; refine blk_put (cs := #[.bool false, .int .u64 0, .string (⟨#[]⟩ : ByteArray), .string (⟨#[]⟩ : ByteArray)]) ?_ 0 _ rfl; (with_reducible repeat (first | refine blk_drewN ?_ _ | refine blk_drew ?_ | refine blk_alloc ?_ _)); exact BK175.out) hb); replace HB := Aside0.mk (below_step (by repeat with_reducible first | exact HB.out | apply below_alloc | apply pw_below_drewN | apply below_drew1 | refine below_set ?_ GE174.out | refine below_set ?_ GE175.out) hb); (try clear hb)) | ((with_reducible refine gate_dst (N := 5) rfl ?_); refine box_event ?hg (N := 5) ?hd (cs := #[.string (⟨#[]⟩ : ByteArray), .int .i64 0, .int .i64 0]) (t := 115) ?hr ?_; (case hd => rfl); (case hg => rfl); (case hr => first | (go_simp; done) | (go_simp; rfl)); intro gb180 hg w40 hbox hb; have n0_ := Aside0.mk (blk_below (g := gb174) (o := .cells #[.bool false, .int .u64 0, .string (⟨#[]⟩ : ByteArray), .string (⟨#[]⟩ : ByteArray)] 59 (0, 0)) (by (with_reducible repeat (first | refine blk_drewN ?_ _ | refine blk_drew ?_ | refine blk_alloc ?_ _)); exact BK174.out) hb); have n1_ := Aside0.mk (blk_below (g := gb175) (o := .cells #[.bool true, .int .u64 0, .string (⟨#[]⟩ : ByteArray), .string (⟨#[]⟩ : ByteArray)] 59 (0, 0)) (by (with_reducible repeat (first | refine blk_drewN ?_ _ | refine blk_drew ?_ | refine blk_alloc ?_ _)); exact BK175.out) hb); have n2_ := Aside0.mk (below_step (by repeat with_reducible first | exact HB.out | apply below_alloc | apply pw_below_drewN | apply below_drew1 | refine below_set ?_ GE174.out | refine below_set ?_ GE175.out) hb); have n3_ := Aside0.mk (hbox); have n4_ := Aside0.mk ((by rw [hg]; exact (below_size (by repeat with_reducible first | exact HB.out | apply below_alloc | apply pw_below_drewN | apply below_drew1 | refine below_set ?_ GE174.out | refine below_set ?_ GE175.out)) : w.heap.size ≤ gb180)); have n5_ := Aside0.mk ((by rw [hg]; exact (below_size (by repeat with_reducible first | exact HB.out | apply below_alloc | apply pw_below_drewN | apply below_drew1 | refine below_set ?_ GE174.out | refine below_set ?_ GE175.out)) : w.heap.size ≤ gb180)); have n6_ := Aside0.mk ((by rw [hg]; exact Nat.ne_of_lt (blk_lt (g := gb174) (o := .cells #[.bool false, .int .u64 0, .string (⟨#[]⟩ : ByteArray), .string (⟨#[]⟩ : ByteArray)] 59 (0, 0)) (by (with_reducible repeat (first | refine blk_drewN ?_ _ | refine blk_drew ?_ | refine blk_alloc ?_ _)); exact BK174.out)) : gb174 ≠ gb180)); have n7_ := Aside0.mk ((by rw [hg]; exact Nat.ne_of_gt (blk_lt (g := gb174) (o := .cells #[.bool false, .int .u64 0, .string (⟨#[]⟩ : ByteArray), .string (⟨#[]⟩ : ByteArray)] 59 (0, 0)) (by (with_reducible repeat (first | refine blk_drewN ?_ _ | refine blk_drew ?_ | refine blk_alloc ?_ _)); exact BK174.out)) : gb180 ≠ gb174)); have n8_ := Aside0.mk ((by rw [hg]; exact Nat.ne_of_lt (blk_lt (g := gb175) (o := .cells #[.bool true, .int .u64 0, .string (⟨#[]⟩ : ByteArray), .string (⟨#[]⟩ : ByteArray)] 59 (0, 0)) (by (with_reducible repeat (first | refine blk_drewN ?_ _ | refine blk_drew ?_ | refine blk_alloc ?_ _)); exact BK175.out)) : gb175 ≠ gb180)); have n9_ := Aside0.mk ((by rw [hg]; exact Nat.ne_of_gt (blk_lt (g := gb175) (o := .cells #[.bool true, .int .u64 0, .string (⟨#[]⟩ : ByteArray), .string (⟨#[]⟩ : ByteArray)] 59 (0, 0)) (by (with_reducible repeat (first | refine blk_drewN ?_ _ | refine blk_drew ?_ | refine blk_alloc ?_ _)); exact BK175.out)) : gb180 ≠ gb175)); clear BK174; clear BK175; clear HB; have BK174 := n0_; have BK175 := n1_; have HB := n2_; have BK180 := n3_; have GW180 := n4_; have GE180 := n5_; have NB174_180 := n6_; have NB180_174 := n7_; have NB175_180 := n8_; have NB180_175 := n9_; clear n0_ n1_ n2_ n3_ n4_ n5_ n6_ n7_ n8_ n9_; clear hb hbox hg; have hnb41 := NB180_174.out; have hnc41 := NB174_180.out; have hnb42 := NB180_175.out; have hnc42 := NB175_180.out; have hcz43_0 : w40.cell? ⟨gb180, 0, none⟩ = some (.string (⟨#[]⟩ : ByteArray)) := (blk_cell BK180.out 0).trans rfl; have hcz43_1 : w40.cell? ⟨gb180, 1, none⟩ = some (.int .i64 0) := (blk_cell BK180.out 1).trans rfl; have hcz43_2 : w40.cell? ⟨gb180, 2, none⟩ = some (.int .i64 0) := (blk_cell BK180.out 2).trans rfl; have hfz43_0 := blk_frozen BK180.out 0; have hfz43_1 := blk_frozen BK180.out 1; have hfz43_2 := blk_frozen BK180.out 2) | ((with_reducible refine gate_callee (f := 132) rfl ?_); refine goesL_ (some 34) rfl rfl Try.func132 (by kernel_rfl) rfl #[.agg #[.string t176, .int .i64 t177, .int .i64 t178], .int .i64 1, .int .i64 4096] rfl (by (try simp only [mA, mB, mC]); first | done | rfl) ?_; (with_reducible refine (fascicleref02_GetText.calls kj4 t176 t177 t178 1 4096 t181 t182 t183 t184 _ A17.out).mono ?_); rintro e w44 ⟨rfl, hb⟩; refine ⟨_, rfl, ?_⟩; replace BK174 := Aside0.mk (blk_below (g := gb174) (o := .cells #[.bool false, .int .u64 0, .string (⟨#[]⟩ : ByteArray), .string (⟨#[]⟩ : ByteArray)] 59 (0, 0)) (by (with_reducible repeat (first | refine blk_drewN ?_ _ | refine blk_drew ?_ | refine blk_alloc ?_ _)); refine blk_far ?_ NB174_180.out _; refine blk_far ?_ NB174_180.out _; refine blk_far ?_ NB174_180.out _; (with_reducible repeat (first | refine blk_drewN ?_ _ | refine blk_drew ?_ | refine blk_alloc ?_ _)); exact BK174.out) hb); replace BK175 := Aside0.mk (blk_below (g := gb175) (o := .cells #[.bool true, .int .u64 0, .string (⟨#[]⟩ : ByteArray), .string (⟨#[]⟩ : ByteArray)] 59 (0, 0)) (by (with_reducible repeat (first | refine blk_drewN ?_ _ | refine blk_drew ?_ | refine blk_alloc ?_ _)); refine blk_far ?_ NB175_180.out _; refine blk_far ?_ NB175_180.out _; refine blk_far ?_ NB175_180.out _; (with_reducible repeat (first | refine blk_drewN ?_ _ | refine blk_drew ?_ | refine blk_alloc ?_ _)); exact BK175.out) hb); replace BK180 := Aside0.mk (blk_below (g := gb180) (o := .cells #[.string t176, .int .i64 t177, .int .i64 t178] 115 (0, 0)) (by (with_reducible repeat (first | refine blk_drewN ?_ _ | refine blk_drew ?_ | refine blk_alloc ?_ _)); refine blk_put (cs := #[.string t176, .int .i64 t177, .int .i64 0]) ?_ 2 _ rfl; refine blk_put (cs := #[.string t176, .int .i64 0, .int .i64 0]) ?_ 1 _ rfl; refine blk_put (cs := #[.string (⟨#[]⟩ : ByteArray), .int .i64 0, .int .i64 0]) ?_ 0 _ rfl; (with_reducible repeat (first | refine blk_drewN ?_ _ | refine blk_drew ?_ | refine blk_alloc ?_ _)); exact BK180.out) hb); replace HB := Aside0.mk (below_step (by repeat with_reducible first | exact HB.out | apply below_alloc | apply pw_below_drewN | apply below_drew1 | refine below_set ?_ GE174.out | refine below_set ?_ GE175.out | refine below_set ?_ GE180.out) hb); (try clear hb); have hcz45_0 : w44.cell? ⟨gb180, 0, none⟩ = some (.string t176) := (blk_cell BK180.out 0).trans rfl; have hcz45_1 : w44.cell? ⟨gb180, 1, none⟩ = some (.int .i64 t177) := (blk_cell BK180.out 1).trans rfl; have hcz45_2 : w44.cell? ⟨gb180, 2, none⟩ = some (.int .i64 t178) := (blk_cell BK180.out 2).trans rfl; have hfz45_0 := blk_frozen BK180.out 0; have hfz45_1 := blk_frozen BK180.out 1; have hfz45_2 := blk_frozen BK180.out 2; have hcz46_0 : w44.cell? ⟨gb175, 0, none⟩ = some (.bool true) := (blk_cell BK175.out 0).trans rfl; have hcz46_1 : w44.cell? ⟨gb175, 1, none⟩ = some (.int .u64 0) := (blk_cell BK175.out 1).trans rfl; have hcz46_2 : w44.cell? ⟨gb175, 2, none⟩ = some (.string (⟨#[]⟩ : ByteArray)) := (blk_cell BK175.out 2).trans rfl; have hcz46_3 : w44.cell? ⟨gb175, 3, none⟩ = some (.string (⟨#[]⟩ : ByteArray)) := (blk_cell BK175.out 3).trans rfl; have hfz46_0 := blk_frozen BK175.out 0; have hfz46_1 := blk_frozen BK175.out 1; have hfz46_2 := blk_frozen BK175.out 2; have hfz46_3 := blk_frozen BK175.out 3) | ((with_reducible refine gate_callee (f := 77) rfl ?_); refine goesL_ (some 46) rfl rfl Try.func77 (by kernel_rfl) rfl #[.agg #[.string t181, .int .i64 t182, .int .i64 t183]] rfl (by (try simp only [mA, mB, mC]); first | done | rfl) ?_; (with_reducible refine (fascicleref01_End.calls t181 t182 t183 t185 t186 t187 _ A19.out).mono ?_); rintro e w47 ⟨rfl, hb⟩; refine ⟨_, rfl, ?_⟩; replace BK174 := Aside0.mk (blk_below (g := gb174) (o := .cells #[.bool false, .int .u64 0, .string (⟨#[]⟩ : ByteArray), .string (⟨#[]⟩ : ByteArray)] 59 (0, 0)) (by (with_reducible repeat (first | refine blk_drewN ?_ _ | refine blk_drew ?_ | refine blk_alloc ?_ _)); refine blk_far ?_ NB174_180.out _; refine blk_far ?_ NB174_180.out _; refine blk_far ?_ NB174_180.out _; (with_reducible repeat (first | refine blk_drewN ?_ _ | refine blk_drew ?_ | refine blk_alloc ?_ _)); exact BK174.out) hb); replace BK175 := Aside0.mk (blk_below (g := gb175) (o := .cells #[.bool true, .int .u64 0, .string (⟨#[]⟩ : ByteArray), .string (⟨#[]⟩ : ByteArray)] 59 (0, 0)) (by (with_reducible repeat (first | refine blk_drewN ?_ _ | refine blk_drew ?_ | refine blk_alloc ?_ _)); refine blk_far ?_ NB175_180.out _; refine blk_far ?_ NB175_180.out _; refine blk_far ?_ NB175_180.out _; (with_reducible repeat (first | refine blk_drewN ?_ _ | refine blk_drew ?_ | refine blk_alloc ?_ _)); exact BK175.out) hb); replace BK180 := Aside0.mk (blk_below (g := gb180) (o := .cells #[.string t181, .int .i64 t182, .int .i64 t183] 115 (0, 0)) (by (with_reducible repeat (first | refine blk_drewN ?_ _ | refine blk_drew ?_ | refine blk_alloc ?_ _)); refine blk_put (cs := #[.string t181, .int .i64 t182, .int .i64 t178]) ?_ 2 _ rfl; refine blk_put (cs := #[.string t181, .int .i64 t177, .int .i64 t178]) ?_ 1 _ rfl; refine blk_put (cs := #[.string t176, .int .i64 t177, .int .i64 t178]) ?_ 0 _ rfl; (with_reducible repeat (first | refine blk_drewN ?_ _ | refine blk_drew ?_ | refine blk_alloc ?_ _)); exact BK180.out) hb); replace HB := Aside0.mk (below_step (by repeat with_reducible first | exact HB.out | apply below_alloc | apply pw_below_drewN | apply below_drew1 | refine below_set ?_ GE174.out | refine below_set ?_ GE175.out | refine below_set ?_ GE180.out) hb); (try clear hb); have hcz48_0 : w47.cell? ⟨gb180, 0, none⟩ = some (.string t181) := (blk_cell BK180.out 0).trans rfl; have hcz48_1 : w47.cell? ⟨gb180, 1, none⟩ = some (.int .i64 t182) := (blk_cell BK180.out 1).trans rfl; have hcz48_2 : w47.cell? ⟨gb180, 2, none⟩ = some (.int .i64 t183) := (blk_cell BK180.out 2).trans rfl; have hfz48_0 := blk_frozen BK180.out 0; have hfz48_1 := blk_frozen BK180.out 1; have hfz48_2 := blk_frozen BK180.out 2))
         have n0_ : Aside0 ((((w47.setCell ⟨gb180, 0, none⟩ (.string t185)).setCell ⟨gb180, 1, none⟩ (.int .i64 t186)).setCell ⟨gb180, 2, none⟩ (.int .i64 t187)).heap[gb174]? = some (.cells #[.bool false, .int .u64 0, .string (⟨#[]⟩ : ByteArray), .string (⟨#[]⟩ : ByteArray)] 59 (0, 0))) := ⟨by (with_reducible repeat (first | refine blk_drewN ?_ _ | refine blk_drew ?_ | refine blk_alloc ?_ _)); refine blk_far ?_ NB174_180.out _; refine blk_far ?_ NB174_180.out _; refine blk_far ?_ NB174_180.out _; (with_reducible repeat (first | refine blk_drewN ?_ _ | refine blk_drew ?_ | refine blk_alloc ?_ _)); exact BK174.out⟩
         have n1_ : Aside0 ((((w47.setCell ⟨gb180, 0, none⟩ (.string t185)).setCell ⟨gb180, 1, none⟩ (.int .i64 t186)).setCell ⟨gb180, 2, none⟩ (.int .i64 t187)).heap[gb175]? = some (.cells #[.bool true, .int .u64 0, .string (⟨#[]⟩ : ByteArray), .string (⟨#[]⟩ : ByteArray)] 59 (0, 0))) := ⟨by (with_reducible repeat (first | refine blk_drewN ?_ _ | refine blk_drew ?_ | refine blk_alloc ?_ _)); refine blk_far ?_ NB175_180.out _; refine blk_far ?_ NB175_180.out _; refine blk_far ?_ NB175_180.out _; (with_reducible repeat (first | refine blk_drewN ?_ _ | refine blk_drew ?_ | refine blk_alloc ?_ _)); exact BK175.out⟩
         have n2_ : Aside0 ((((w47.setCell ⟨gb180, 0, none⟩ (.string t185)).setCell ⟨gb180, 1, none⟩ (.int .i64 t186)).setCell ⟨gb180, 2, none⟩ (.int .i64 t187)).heap[gb180]? = some (.cells #[.string t185, .int .i64 t186, .int .i64 t187] 115 (0, 0))) := ⟨by (with_reducible repeat (first | refine blk_drewN ?_ _ | refine blk_drew ?_ | refine blk_alloc ?_ _)); refine blk_put (cs := #[.string t185, .int .i64 t186, .int .i64 t183]) ?_ 2 _ rfl; refine blk_put (cs := #[.string t185, .int .i64 t182, .int .i64 t183]) ?_ 1 _ rfl; refine blk_put (cs := #[.string t181, .int .i64 t182, .int .i64 t183]) ?_ 0 _ rfl; (with_reducible repeat (first | refine blk_drewN ?_ _ | refine blk_drew ?_ | refine blk_alloc ?_ _)); exact BK180.out⟩
         have n3_ : Aside0 (Below w.heap.size w (((w47.setCell ⟨gb180, 0, none⟩ (.string t185)).setCell ⟨gb180, 1, none⟩ (.int .i64 t186)).setCell ⟨gb180, 2, none⟩ (.int .i64 t187))) := ⟨by repeat (first | (with_reducible first | exact HB.out | apply below_alloc | apply pw_below_drewN | apply below_drew1 | refine below_set ?_ GE174.out | refine below_set ?_ GE175.out | refine below_set ?_ GE180.out) | exact HB.out)⟩
         (try clear BK174)
         (try clear BK175)
         (try clear BK180)
         (try clear HB)
         generalize (((w47.setCell ⟨gb180, 0, none⟩ (.string t185)).setCell ⟨gb180, 1, none⟩ (.int .i64 t186)).setCell ⟨gb180, 2, none⟩ (.int .i64 t187)) = w49 at n0_ n1_ n2_ n3_ ⊢
         have BK174 := n0_
         have BK175 := n1_
         have BK180 := n2_
         have HB := n3_
         clear n0_ n1_ n2_ n3_
         have n0_ := Aside0.mk (blk_drew BK174.out)
         have n1_ := Aside0.mk (blk_drew BK175.out)
         have n2_ := Aside0.mk (blk_drew BK180.out)
         have n3_ := Aside0.mk (below_drew1 HB.out)
         clear BK174
         clear BK175
         clear BK180
         clear HB
         have BK174 := n0_
         have BK175 := n1_
         have BK180 := n2_
         have HB := n3_
         clear n0_ n1_ n2_ n3_
         refine start_ (n := 5) (S := fun w' => w'.cell? ⟨gb180, 0, none⟩ = some (.string t185) ∧ w'.cell? ⟨gb180, 1, none⟩ = some (.int .i64 t186) ∧ w'.cell? ⟨gb180, 2, none⟩ = some (.int .i64 t187)) (ds := []) #[false, false, false, false, false] (by kernel_rfl) rfl rfl ⟨(blk_cell BK180.out 0).trans rfl, (blk_cell BK180.out 1).trans rfl, (blk_cell BK180.out 2).trans rfl⟩ (fun hHeld => ?_)
         generalize w49.drew = w50 at BK174 BK175 BK180 HB hHeld ⊢
         refine pure_ (i := 0) (N := some 50) (v := ?_) (a' := ?_) #[true, false, false, false, false] rfl rfl (by kernel_rfl) (fun _ _ _ h => h) (Or.inl ⟨by rfl, ?_⟩) ?_ ?_
         rotate_left
         · intro w'; go_simp; with_reducible rfl
         rotate_left
         · simp only [Act.put, sA, sB, sC, i64_w, i32_w]; rfl
         refine pure_ (i := 1) (N := some 51) (v := ?_) (a' := ?_) #[true, true, false, false, false] rfl rfl (by kernel_rfl) (fun _ _ _ h => h) (Or.inl ⟨by rfl, ?_⟩) ?_ ?_
         rotate_left
         · intro w'; go_simp; with_reducible rfl
         rotate_left
         · simp only [Act.put, sA, sB, sC, i64_w, i32_w]; rfl
         refine take_ (i := 2) (N := some 52) (v := ?_) (a' := ?_) #[true, true, true, false, false] rfl rfl (by kernel_rfl) (fun _ _ _ h => h) (Or.inl ⟨by rfl, ?_⟩) hHeld ?_ ?_
         rotate_left
         ·
          rintro w' ⟨s0, s1, s2⟩
          go_simp
          with_reducible rfl
         rotate_left
         · simp only [Act.put, sA, sB, sC, i64_w, i32_w]; rfl
         refine one_ (i := 3) (N := none) #[true, true, true, true, false] rfl rfl (by kernel_rfl) (by decide) (fun K hK => ?_)
         have hs51 : w50.cell? ⟨gb174, 0, none⟩ = some (.bool false) := (blk_cell BK174.out 0).trans rfl
         have hfs51 := blk_frozen BK174.out 0
         have hns51_1 := NB175_174.out
         have hns51_2 := NB180_174.out
         have hms51_1 := NB174_175.out
         have hms51_2 := NB174_180.out
         have hs52 : w50.cell? ⟨gb174, 1, none⟩ = some (.int .u64 0) := (blk_cell BK174.out 1).trans rfl
         have hfs52 := blk_frozen BK174.out 1
         have hns52_1 := NB175_174.out
         have hns52_2 := NB180_174.out
         have hms52_1 := NB174_175.out
         have hms52_2 := NB174_180.out
         have hs53 : w50.cell? ⟨gb174, 2, none⟩ = some (.string (⟨#[]⟩ : ByteArray)) := (blk_cell BK174.out 2).trans rfl
         have hfs53 := blk_frozen BK174.out 2
         have hns53_1 := NB175_174.out
         have hns53_2 := NB180_174.out
         have hms53_1 := NB174_175.out
         have hms53_2 := NB174_180.out
         have hs54 : w50.cell? ⟨gb174, 3, none⟩ = some (.string (⟨#[]⟩ : ByteArray)) := (blk_cell BK174.out 3).trans rfl
         have hfs54 := blk_frozen BK174.out 3
         have hns54_1 := NB175_174.out
         have hns54_2 := NB180_174.out
         have hms54_1 := NB174_175.out
         have hms54_2 := NB174_180.out
         refine skip_ (w1 := ?_) (by rfl) rfl ?_ ?_
         rotate_left
         ·
          go_simp
          rfl
         refine hK.out _ _ ⟨((cell_far (p := ⟨gb174, _, none⟩) NB180_174.out _).trans (((cell_far (p := ⟨gb174, _, none⟩) NB180_174.out _).trans (((cell_far (p := ⟨gb174, _, none⟩) NB180_174.out _).trans (((cell_far (p := ⟨gb174, _, none⟩) NB180_174.out _).trans (hHeld.1)))))))), ((cell_far (p := ⟨gb174, _, none⟩) NB180_174.out _).trans (((cell_far (p := ⟨gb174, _, none⟩) NB180_174.out _).trans (((cell_far (p := ⟨gb174, _, none⟩) NB180_174.out _).trans (((cell_far (p := ⟨gb174, _, none⟩) NB180_174.out _).trans (hHeld.2.1)))))))), ((cell_far (p := ⟨gb174, _, none⟩) NB180_174.out _).trans (((cell_far (p := ⟨gb174, _, none⟩) NB180_174.out _).trans (((cell_far (p := ⟨gb174, _, none⟩) NB180_174.out _).trans (((cell_far (p := ⟨gb174, _, none⟩) NB180_174.out _).trans (hHeld.2.2))))))))⟩ (fun hHeld => ?_)
         clear hK K
         refine pure_ (i := 4) (N := some 3) (v := ?_) (a' := ?_) #[true, true, true, true, true] rfl rfl (by kernel_rfl) (fun _ _ _ h => h) (Or.inl ⟨by rfl, ?_⟩) ?_ ?_
         rotate_left
         · intro w'; go_simp; with_reducible rfl
         rotate_left
         · simp only [Act.put, sA, sB, sC, i64_w, i32_w]; rfl
         refine done_ (by kernel_rfl) ?_
         try go_wp2
         refine bodyPost_ret (results_ct rfl _ _ gb174 59 #[.bool false, .int .u64 0, .string (⟨#[]⟩ : ByteArray), .string (⟨#[]⟩ : ByteArray)] (0, 0) _ rfl (by (with_reducible repeat (first | refine blk_drewN ?_ _ | refine blk_drew ?_ | refine blk_alloc ?_ _)); refine blk_put (cs := #[.bool false, .int .u64 0, .string (⟨#[]⟩ : ByteArray), .string (⟨#[]⟩ : ByteArray)]) ?_ 3 _ rfl; refine blk_put (cs := #[.bool false, .int .u64 0, .string (⟨#[]⟩ : ByteArray), .string (⟨#[]⟩ : ByteArray)]) ?_ 2 _ rfl; refine blk_put (cs := #[.bool false, .int .u64 0, .string (⟨#[]⟩ : ByteArray), .string (⟨#[]⟩ : ByteArray)]) ?_ 1 _ rfl; refine blk_put (cs := #[.bool false, .int .u64 0, .string (⟨#[]⟩ : ByteArray), .string (⟨#[]⟩ : ByteArray)]) ?_ 0 _ rfl; (with_reducible repeat (first | refine blk_drewN ?_ _ | refine blk_drew ?_ | refine blk_alloc ?_ _)); exact BK174.out) Try.underlying59 rfl (by kernel_rfl)) rfl ?_
         exact ⟨by first | rfl | (simp <;> rfl) | (simp [*] <;> rfl), by repeat (first | (with_reducible first | exact HB.out | apply below_alloc | apply pw_below_drewN | apply below_drew1 | refine below_set ?_ GE174.out | refine below_set ?_ GE175.out | refine below_set ?_ GE180.out) | exact HB.out)⟩
       ·
        rw [if_neg c18] at H
        have c18b0 : ((bt a0 0) == 3) = false := beq_eq_false_iff_ne.mpr c18
        have c18b1 : ((bt a0 0) != 3) = true := bne_iff_ne.mpr c18
        replace H := Option.bind_eq_some_iff.mp H
        obtain ⟨⟨t188, t189, t190, t191⟩, A550, H⟩ := H
        replace H : ((fascicleref01_End.f t188 t189 t190).bind fun bt192 => (if bt192.2.2 = 0 then (some (((bt a0 0) == 3), t179, t184, t191, 0)) else (some (false, 0, (⟨#[]⟩ : ByteArray), (⟨#[]⟩ : ByteArray), bt192.2.2)))) = some (r1, r2, r3, r4, r5) := H
        have A55 := Aside0.mk A550
        clear A550
        replace H := Option.bind_eq_some_iff.mp H
        obtain ⟨⟨t192, t193, t194⟩, A560, H⟩ := H
        replace H : (if t194 = 0 then (some (((bt a0 0) == 3), t179, t184, t191, 0)) else (some (false, 0, (⟨#[]⟩ : ByteArray), (⟨#[]⟩ : ByteArray), t194))) = some (r1, r2, r3, r4, r5) := H
        have A56 := Aside0.mk A560
        clear A560
        by_cases c57 : t194 = 0
        ·
         rw [if_pos c57] at H
         have c57b0 : (t194 == 0) = true := beq_iff_eq.mpr c57
         have c57b1 : (t194 != 0) = false := bne_eq_false_iff_eq.mpr c57
         clear c57
         simp only [Option.some.injEq, Prod.mk.injEq] at H
         obtain ⟨rfl, rfl, rfl, rfl, rfl⟩ := H
         have p14 : 0 ≤ (0 : Int) := (by omega)
         have q14 : 0 < a0.size := (by have : (0 : Int) < (a0.size : Int) := of_decide_eq_true (by first | (with_reducible assumption) | assumption); omega)
         have hx14 : ∀ h : 0 < a0.size, ((a0[0]'h).toNat : Int) = bt a0 0 := bt_at a0 0
         clear p14
         have qi14 : (0 < (a0.size : Int)) = True := eq_true (of_decide_eq_true (by first | (with_reducible assumption) | assumption))
         replace q14 := eq_true q14
         go_wp2_with (first | ((with_reducible refine gate_dst (N := 4) rfl ?_); refine box_event ?hg (N := 4) ?hd (cs := #[.bool false, .int .u64 0, .string (⟨#[]⟩ : ByteArray), .string (⟨#[]⟩ : ByteArray)]) (t := 59) ?hr ?_; (case hd => rfl); (case hg => rfl); (case hr => first | (go_simp; done) | (go_simp; rfl)); intro gb175 hg w58 hbox hb; have n0_ := Aside0.mk (blk_below (g := gb174) (o := .cells #[.bool false, .int .u64 0, .string (⟨#[]⟩ : ByteArray), .string (⟨#[]⟩ : ByteArray)] 59 (0, 0)) (by (with_reducible repeat (first | refine blk_drewN ?_ _ | refine blk_drew ?_ | refine blk_alloc ?_ _)); exact BK174.out) hb); have n1_ := Aside0.mk (below_step (by repeat with_reducible first | exact HB.out | apply below_alloc | apply pw_below_drewN | apply below_drew1 | refine below_set ?_ GE174.out) hb); have n2_ := Aside0.mk (hbox); have n3_ := Aside0.mk ((by rw [hg]; exact (below_size (by repeat with_reducible first | exact HB.out | apply below_alloc | apply pw_below_drewN | apply below_drew1 | refine below_set ?_ GE174.out)) : w.heap.size ≤ gb175)); have n4_ := Aside0.mk ((by rw [hg]; exact (below_size (by repeat with_reducible first | exact HB.out | apply below_alloc | apply pw_below_drewN | apply below_drew1 | refine below_set ?_ GE174.out)) : w.heap.size ≤ gb175)); have n5_ := Aside0.mk ((by rw [hg]; exact Nat.ne_of_lt (blk_lt (g := gb174) (o := .cells #[.bool false, .int .u64 0, .string (⟨#[]⟩ : ByteArray), .string (⟨#[]⟩ : ByteArray)] 59 (0, 0)) (by (with_reducible repeat (first | refine blk_drewN ?_ _ | refine blk_drew ?_ | refine blk_alloc ?_ _)); exact BK174.out)) : gb174 ≠ gb175)); have n6_ := Aside0.mk ((by rw [hg]; exact Nat.ne_of_gt (blk_lt (g := gb174) (o := .cells #[.bool false, .int .u64 0, .string (⟨#[]⟩ : ByteArray), .string (⟨#[]⟩ : ByteArray)] 59 (0, 0)) (by (with_reducible repeat (first | refine blk_drewN ?_ _ | refine blk_drew ?_ | refine blk_alloc ?_ _)); exact BK174.out)) : gb175 ≠ gb174)); clear BK174; clear HB; have BK174 := n0_; have HB := n1_; have BK175 := n2_; have GW175 := n3_; have GE175 := n4_; have NB174_175 := n5_; have NB175_174 := n6_; clear n0_ n1_ n2_ n3_ n4_ n5_ n6_; clear hb hbox hg; have hnb59 := NB175_174.out; have hnc59 := NB174_175.out; have hcz60_0 : w58.cell? ⟨gb175, 0, none⟩ = some (.bool false) := (blk_cell BK175.out 0).trans rfl; have hcz60_1 : w58.cell? ⟨gb175, 1, none⟩ = some (.int .u64 0) := (blk_cell BK175.out 1).trans rfl; have hcz60_2 : w58.cell? ⟨gb175, 2, none⟩ = some (.string (⟨#[]⟩ : ByteArray)) := (blk_cell BK175.out 2).trans rfl; have hcz60_3 : w58.cell? ⟨gb175, 3, none⟩ = some (.string (⟨#[]⟩ : ByteArray)) := (blk_cell BK175.out 3).trans rfl; have hfz60_0 := blk_frozen BK175.out 0; have hfz60_1 := blk_frozen BK175.out 1; have hfz60_2 := blk_frozen BK175.out 2; have hfz60_3 := blk_frozen BK175.out 3) | ((with_reducible refine gate_callee (f := 76) rfl ?_); refine goesL_ (some 29) rfl rfl Try.func76 (by kernel_rfl) rfl #[.agg #[.string (a0.extract 1 a0.size), .int .i64 0, .int .i64 0]] rfl (by (try simp only [mA, mB, mC]); first | done | rfl) ?_; (with_reducible refine (fascicleref02_Get.calls kj4 (a0.extract 1 a0.size) 0 0 t176 t177 t178 t179 _ A16.out).mono ?_); rintro e w61 ⟨rfl, hb⟩; refine ⟨_, rfl, ?_⟩; replace BK174 := Aside0.mk (blk_below (g := gb174) (o := .cells #[.bool false, .int .u64 0, .string (⟨#[]⟩ : ByteArray), .string (⟨#[]⟩ : ByteArray)] 59 (0, 0)) (by (with_reducible repeat (first | refine blk_drewN ?_ _ | refine blk_drew ?_ | refine blk_alloc ?_ _)); refine blk_far ?_ NB174_175.out _; refine blk_far ?_ NB174_175.out _; refine blk_far ?_ NB174_175.out _; refine blk_far ?_ NB174_175.out _; (with_reducible repeat (first | refine blk_drewN ?_ _ | refine blk_drew ?_ | refine blk_alloc ?_ _)); exact BK174.out) hb); replace BK175 := Aside0.mk (blk_below (g := gb175) (o := .cells #[.bool false, .int .u64 0, .string (⟨#[]⟩ : ByteArray), .string (⟨#[]⟩ : ByteArray)] 59 (0, 0)) (by (with_reducible repeat (first | refine blk_drewN ?_ _ | refine blk_drew ?_ | refine blk_alloc ?_ _)); refine blk_put (cs := #[.bool false, .int .u64 0, .string (⟨#[]⟩ : ByteArray), .string (⟨#[]⟩ : ByteArray)]) ?_ 3 _ rfl; refine blk_put (cs := #[.bool false, .int .u64 0, .string (⟨#[]⟩ : ByteArray), .string (⟨#[]⟩ : ByteArray)]) ?_ 2 _ rfl; refine blk_put (cs := #[.bool false, .int .u64 0, .string (⟨#[]⟩ : ByteArray), .string (⟨#[]⟩ : ByteArray)]) ?_ 1 _ rfl; refine blk_put (cs := #[.bool false, .int .u64 0, .string (⟨#[]⟩ : ByteArray), .string (⟨#[]⟩ : ByteArray)]) ?_ 0 _ rfl; (with_reducible repeat (first | refine blk_drewN ?_ _ | refine blk_drew ?_ | refine blk_alloc ?_ _)); exact BK175.out) hb); replace HB := Aside0.mk (below_step (by repeat with_reducible first | exact HB.out | apply below_alloc | apply pw_below_drewN | apply below_drew1 | refine below_set ?_ GE174.out | refine below_set ?_ GE175.out) hb); (try clear hb)) | ((with_reducible refine gate_dst (N := 5) rfl ?_); refine box_event ?hg (N := 5) ?hd (cs := #[.string (⟨#[]⟩ : ByteArray), .int .i64 0, .int .i64 0]) (t := 115) ?hr ?_; (case hd => rfl); (case hg => rfl); (case hr => first | (go_simp; done) | (go_simp; rfl)); intro gb180 hg w62 hbox hb; have n0_ := Aside0.mk (blk_below (g := gb174) (o := .cells #[.bool false, .int .u64 0, .string (⟨#[]⟩ : ByteArray), .string (⟨#[]⟩ : ByteArray)] 59 (0, 0)) (by (with_reducible repeat (first | refine blk_drewN ?_ _ | refine blk_drew ?_ | refine blk_alloc ?_ _)); exact BK174.out) hb); have n1_ := Aside0.mk (blk_below (g := gb175) (o := .cells #[.bool false, .int .u64 0, .string (⟨#[]⟩ : ByteArray), .string (⟨#[]⟩ : ByteArray)] 59 (0, 0)) (by (with_reducible repeat (first | refine blk_drewN ?_ _ | refine blk_drew ?_ | refine blk_alloc ?_ _)); exact BK175.out) hb); have n2_ := Aside0.mk (below_step (by repeat with_reducible first | exact HB.out | apply below_alloc | apply pw_below_drewN | apply below_drew1 | refine below_set ?_ GE174.out | refine below_set ?_ GE175.out) hb); have n3_ := Aside0.mk (hbox); have n4_ := Aside0.mk ((by rw [hg]; exact (below_size (by repeat with_reducible first | exact HB.out | apply below_alloc | apply pw_below_drewN | apply below_drew1 | refine below_set ?_ GE174.out | refine below_set ?_ GE175.out)) : w.heap.size ≤ gb180)); have n5_ := Aside0.mk ((by rw [hg]; exact (below_size (by repeat with_reducible first | exact HB.out | apply below_alloc | apply pw_below_drewN | apply below_drew1 | refine below_set ?_ GE174.out | refine below_set ?_ GE175.out)) : w.heap.size ≤ gb180)); have n6_ := Aside0.mk ((by rw [hg]; exact Nat.ne_of_lt (blk_lt (g := gb174) (o := .cells #[.bool false, .int .u64 0, .string (⟨#[]⟩ : ByteArray), .string (⟨#[]⟩ : ByteArray)] 59 (0, 0)) (by (with_reducible repeat (first | refine blk_drewN ?_ _ | refine blk_drew ?_ | refine blk_alloc ?_ _)); exact BK174.out)) : gb174 ≠ gb180)); have n7_ := Aside0.mk ((by rw [hg]; exact Nat.ne_of_gt (blk_lt (g := gb174) (o := .cells #[.bool false, .int .u64 0, .string (⟨#[]⟩ : ByteArray), .string (⟨#[]⟩ : ByteArray)] 59 (0, 0)) (by (with_reducible repeat (first | refine blk_drewN ?_ _ | refine blk_drew ?_ | refine blk_alloc ?_ _)); exact BK174.out)) : gb180 ≠ gb174)); have n8_ := Aside0.mk ((by rw [hg]; exact Nat.ne_of_lt (blk_lt (g := gb175) (o := .cells #[.bool false, .int .u64 0, .string (⟨#[]⟩ : ByteArray), .string (⟨#[]⟩ : ByteArray)] 59 (0, 0)) (by (with_reducible repeat (first | refine blk_drewN ?_ _ | refine blk_drew ?_ | refine blk_alloc ?_ _)); exact BK175.out)) : gb175 ≠ gb180)); have n9_ := Aside0.mk ((by rw [hg]; exact Nat.ne_of_gt (blk_lt (g := gb175) (o := .cells #[.bool false, .int .u64 0, .string (⟨#[]⟩ : ByteArray), .string (⟨#[]⟩ : ByteArray)] 59 (0, 0)) (by (with_reducible repeat (first | refine blk_drewN ?_ _ | refine blk_drew ?_ | refine blk_alloc ?_ _)); exact BK175.out)) : gb180 ≠ gb175)); clear BK174; clear BK175; clear HB; have BK174 := n0_; have BK175 := n1_; have HB := n2_; have BK180 := n3_; have GW180 := n4_; have GE180 := n5_; have NB174_180 := n6_; have NB180_174 := n7_; have NB175_180 := n8_; have NB180_175 := n9_; clear n0_ n1_ n2_ n3_ n4_ n5_ n6_ n7_ n8_ n9_; clear hb hbox hg; have hnb63 := NB180_174.out; have hnc63 := NB174_180.out; have hnb64 := NB180_175.out; have hnc64 := NB175_180.out; have hcz65_0 : w62.cell? ⟨gb180, 0, none⟩ = some (.string (⟨#[]⟩ : ByteArray)) := (blk_cell BK180.out 0).trans rfl; have hcz65_1 : w62.cell? ⟨gb180, 1, none⟩ = some (.int .i64 0) := (blk_cell BK180.out 1).trans rfl; have hcz65_2 : w62.cell? ⟨gb180, 2, none⟩ = some (.int .i64 0) := (blk_cell BK180.out 2).trans rfl; have hfz65_0 := blk_frozen BK180.out 0; have hfz65_1 := blk_frozen BK180.out 1; have hfz65_2 := blk_frozen BK180.out 2) | ((with_reducible refine gate_callee (f := 132) rfl ?_); refine goesL_ (some 34) rfl rfl Try.func132 (by kernel_rfl) rfl #[.agg #[.string t176, .int .i64 t177, .int .i64 t178], .int .i64 1, .int .i64 4096] rfl (by (try simp only [mA, mB, mC]); first | done | rfl) ?_; (with_reducible refine (fascicleref02_GetText.calls kj4 t176 t177 t178 1 4096 t181 t182 t183 t184 _ A17.out).mono ?_); rintro e w66 ⟨rfl, hb⟩; refine ⟨_, rfl, ?_⟩; replace BK174 := Aside0.mk (blk_below (g := gb174) (o := .cells #[.bool false, .int .u64 0, .string (⟨#[]⟩ : ByteArray), .string (⟨#[]⟩ : ByteArray)] 59 (0, 0)) (by (with_reducible repeat (first | refine blk_drewN ?_ _ | refine blk_drew ?_ | refine blk_alloc ?_ _)); refine blk_far ?_ NB174_180.out _; refine blk_far ?_ NB174_180.out _; refine blk_far ?_ NB174_180.out _; (with_reducible repeat (first | refine blk_drewN ?_ _ | refine blk_drew ?_ | refine blk_alloc ?_ _)); exact BK174.out) hb); replace BK175 := Aside0.mk (blk_below (g := gb175) (o := .cells #[.bool false, .int .u64 0, .string (⟨#[]⟩ : ByteArray), .string (⟨#[]⟩ : ByteArray)] 59 (0, 0)) (by (with_reducible repeat (first | refine blk_drewN ?_ _ | refine blk_drew ?_ | refine blk_alloc ?_ _)); refine blk_far ?_ NB175_180.out _; refine blk_far ?_ NB175_180.out _; refine blk_far ?_ NB175_180.out _; (with_reducible repeat (first | refine blk_drewN ?_ _ | refine blk_drew ?_ | refine blk_alloc ?_ _)); exact BK175.out) hb); replace BK180 := Aside0.mk (blk_below (g := gb180) (o := .cells #[.string t176, .int .i64 t177, .int .i64 t178] 115 (0, 0)) (by (with_reducible repeat (first | refine blk_drewN ?_ _ | refine blk_drew ?_ | refine blk_alloc ?_ _)); refine blk_put (cs := #[.string t176, .int .i64 t177, .int .i64 0]) ?_ 2 _ rfl; refine blk_put (cs := #[.string t176, .int .i64 0, .int .i64 0]) ?_ 1 _ rfl; refine blk_put (cs := #[.string (⟨#[]⟩ : ByteArray), .int .i64 0, .int .i64 0]) ?_ 0 _ rfl; (with_reducible repeat (first | refine blk_drewN ?_ _ | refine blk_drew ?_ | refine blk_alloc ?_ _)); exact BK180.out) hb); replace HB := Aside0.mk (below_step (by repeat with_reducible first | exact HB.out | apply below_alloc | apply pw_below_drewN | apply below_drew1 | refine below_set ?_ GE174.out | refine below_set ?_ GE175.out | refine below_set ?_ GE180.out) hb); (try clear hb); have hcz67_0 : w66.cell? ⟨gb180, 0, none⟩ = some (.string t176) := (blk_cell BK180.out 0).trans rfl; have hcz67_1 : w66.cell? ⟨gb180, 1, none⟩ = some (.int .i64 t177) := (blk_cell BK180.out 1).trans rfl; have hcz67_2 : w66.cell? ⟨gb180, 2, none⟩ = some (.int .i64 t178) := (blk_cell BK180.out 2).trans rfl; have hfz67_0 := blk_frozen BK180.out 0; have hfz67_1 := blk_frozen BK180.out 1; have hfz67_2 := blk_frozen BK180.out 2; have hcz68_0 : w66.cell? ⟨gb175, 0, none⟩ = some (.bool false) := (blk_cell BK175.out 0).trans rfl; have hcz68_1 : w66.cell? ⟨gb175, 1, none⟩ = some (.int .u64 0) := (blk_cell BK175.out 1).trans rfl; have hcz68_2 : w66.cell? ⟨gb175, 2, none⟩ = some (.string (⟨#[]⟩ : ByteArray)) := (blk_cell BK175.out 2).trans rfl; have hcz68_3 : w66.cell? ⟨gb175, 3, none⟩ = some (.string (⟨#[]⟩ : ByteArray)) := (blk_cell BK175.out 3).trans rfl; have hfz68_0 := blk_frozen BK175.out 0; have hfz68_1 := blk_frozen BK175.out 1; have hfz68_2 := blk_frozen BK175.out 2; have hfz68_3 := blk_frozen BK175.out 3) | ((with_reducible refine gate_callee (f := 132) rfl ?_); refine goesL_ (some 42) rfl rfl Try.func132 (by kernel_rfl) rfl #[.agg #[.string t181, .int .i64 t182, .int .i64 t183], .int .i64 0, .int .i64 1048576] rfl (by (try simp only [mA, mB, mC]); first | done | rfl) ?_; (with_reducible refine (fascicleref02_GetText.calls kj4 t181 t182 t183 0 1048576 t188 t189 t190 t191 _ A55.out).mono ?_); rintro e w69 ⟨rfl, hb⟩; refine ⟨_, rfl, ?_⟩; replace BK174 := Aside0.mk (blk_below (g := gb174) (o := .cells #[.bool false, .int .u64 0, .string (⟨#[]⟩ : ByteArray), .string (⟨#[]⟩ : ByteArray)] 59 (0, 0)) (by (with_reducible repeat (first | refine blk_drewN ?_ _ | refine blk_drew ?_ | refine blk_alloc ?_ _)); refine blk_far ?_ NB174_180.out _; refine blk_far ?_ NB174_180.out _; refine blk_far ?_ NB174_180.out _; (with_reducible repeat (first | refine blk_drewN ?_ _ | refine blk_drew ?_ | refine blk_alloc ?_ _)); exact BK174.out) hb); replace BK175 := Aside0.mk (blk_below (g := gb175) (o := .cells #[.bool false, .int .u64 0, .string (⟨#[]⟩ : ByteArray), .string (⟨#[]⟩ : ByteArray)] 59 (0, 0)) (by (with_reducible repeat (first | refine blk_drewN ?_ _ | refine blk_drew ?_ | refine blk_alloc ?_ _)); refine blk_far ?_ NB175_180.out _; refine blk_far ?_ NB175_180.out _; refine blk_far ?_ NB175_180.out _; (with_reducible repeat (first | refine blk_drewN ?_ _ | refine blk_drew ?_ | refine blk_alloc ?_ _)); exact BK175.out) hb); replace BK180 := Aside0.mk (blk_below (g := gb180) (o := .cells #[.string t181, .int .i64 t182, .int .i64 t183] 115 (0, 0)) (by (with_reducible repeat (first | refine blk_drewN ?_ _ | refine blk_drew ?_ | refine blk_alloc ?_ _)); refine blk_put (cs := #[.string t181, .int .i64 t182, .int .i64 t178]) ?_ 2 _ rfl; refine blk_put (cs := #[.string t181, .int .i64 t177, .int .i64 t178]) ?_ 1 _ rfl; refine blk_put (cs := #[.string t176, .int .i64 t177, .int .i64 t178]) ?_ 0 _ rfl; (with_reducible repeat (first | refine blk_drewN ?_ _ | refine blk_drew ?_ | refine blk_alloc ?_ _)); exact BK180.out) hb); replace HB := Aside0.mk (below_step (by repeat with_reducible first | exact HB.out | apply below_alloc | apply pw_below_drewN | apply below_drew1 | refine below_set ?_ GE174.out | refine below_set ?_ GE175.out | refine below_set ?_ GE180.out) hb); (try clear hb); have hcz70_0 : w69.cell? ⟨gb180, 0, none⟩ = some (.string t181) := (blk_cell BK180.out 0).trans rfl; have hcz70_1 : w69.cell? ⟨gb180, 1, none⟩ = some (.int .i64 t182) := (blk_cell BK180.out 1).trans rfl; have hcz70_2 : w69.cell? ⟨gb180, 2, none⟩ = some (.int .i64 t183) := (blk_cell BK180.out 2).trans rfl; have hfz70_0 := blk_frozen BK180.out 0; have hfz70_1 := blk_frozen BK180.out 1; have hfz70_2 := blk_frozen BK180.out 2) | ((with_reducible refine gate_callee (f := 77) rfl ?_); refine goesL_ (some 46) rfl rfl Try.func77 (by kernel_rfl) rfl #[.agg #[.string t188, .int .i64 t189, .int .i64 t190]] rfl (by (try simp only [mA, mB, mC]); first | done | rfl) ?_; (with_reducible refine (fascicleref01_End.calls t188 t189 t190 t192 t193 t194 _ A56.out).mono ?_); rintro e w71 ⟨rfl, hb⟩; refine ⟨_, rfl, ?_⟩; replace BK174 := Aside0.mk (blk_below (g := gb174) (o := .cells #[.bool false, .int .u64 0, .string (⟨#[]⟩ : ByteArray), .string (⟨#[]⟩ : ByteArray)] 59 (0, 0)) (by (with_reducible repeat (first | refine blk_drewN ?_ _ | refine blk_drew ?_ | refine blk_alloc ?_ _)); refine blk_far ?_ NB174_180.out _; refine blk_far ?_ NB174_180.out _; refine blk_far ?_ NB174_180.out _; (with_reducible repeat (first | refine blk_drewN ?_ _ | refine blk_drew ?_ | refine blk_alloc ?_ _)); exact BK174.out) hb); replace BK175 := Aside0.mk (blk_below (g := gb175) (o := .cells #[.bool false, .int .u64 0, .string (⟨#[]⟩ : ByteArray), .string (⟨#[]⟩ : ByteArray)] 59 (0, 0)) (by (with_reducible repeat (first | refine blk_drewN ?_ _ | refine blk_drew ?_ | refine blk_alloc ?_ _)); refine blk_far ?_ NB175_180.out _; refine blk_far ?_ NB175_180.out _; refine blk_far ?_ NB175_180.out _; (with_reducible repeat (first | refine blk_drewN ?_ _ | refine blk_drew ?_ | refine blk_alloc ?_ _)); exact BK175.out) hb); replace BK180 := Aside0.mk (blk_below (g := gb180) (o := .cells #[.string t188, .int .i64 t189, .int .i64 t190] 115 (0, 0)) (by (with_reducible repeat (first | refine blk_drewN ?_ _ | refine blk_drew ?_ | refine blk_alloc ?_ _)); refine blk_put (cs := #[.string t188, .int .i64 t189, .int .i64 t183]) ?_ 2 _ rfl; refine blk_put (cs := #[.string t188, .int .i64 t182, .int .i64 t183]) ?_ 1 _ rfl; refine blk_put (cs := #[.string t181, .int .i64 t182, .int .i64 t183]) ?_ 0 _ rfl; (with_reducible repeat (first | refine blk_drewN ?_ _ | refine blk_drew ?_ | refine blk_alloc ?_ _)); exact BK180.out) hb); replace HB := Aside0.mk (below_step (by repeat with_reducible first | exact HB.out | apply below_alloc | apply pw_below_drewN | apply below_drew1 | refine below_set ?_ GE174.out | refine below_set ?_ GE175.out | refine below_set ?_ GE180.out) hb); (try clear hb); have hcz72_0 : w71.cell? ⟨gb180, 0, none⟩ = some (.string t188) := (blk_cell BK180.out 0).trans rfl; have hcz72_1 : w71.cell? ⟨gb180, 1, none⟩ = some (.int .i64 t189) := (blk_cell BK180.out 1).trans rfl; have hcz72_2 : w71.cell? ⟨gb180, 2, none⟩ = some (.int .i64 t190) := (blk_cell BK180.out 2).trans rfl; have hfz72_0 := blk_frozen BK180.out 0; have hfz72_1 := blk_frozen BK180.out 1; have hfz72_2 := blk_frozen BK180.out 2; have hcz73_0 : w71.cell? ⟨gb175, 0, none⟩ = some (.bool false) := (blk_cell BK175.out 0).trans rfl; have hcz73_1 : w71.cell? ⟨gb175, 1, none⟩ = some (.int .u64 0) := (blk_cell BK175.out 1).trans rfl; have hcz73_2 : w71.cell? ⟨gb175, 2, none⟩ = some (.string (⟨#[]⟩ : ByteArray)) := (blk_cell BK175.out 2).trans rfl; have hcz73_3 : w71.cell? ⟨gb175, 3, none⟩ = some (.string (⟨#[]⟩ : ByteArray)) := (blk_cell BK175.out 3).trans rfl; have hfz73_0 := blk_frozen BK175.out 0; have hfz73_1 := blk_frozen BK175.out 1; have hfz73_2 := blk_frozen BK175.out 2; have hfz73_3 := blk_frozen BK175.out 3; have hcz74_0 : w71.cell? ⟨gb174, 0, none⟩ = some (.bool false) := (blk_cell BK174.out 0).trans rfl; have hcz74_1 : w71.cell? ⟨gb174, 1, none⟩ = some (.int .u64 0) := (blk_cell BK174.out 1).trans rfl; have hcz74_2 : w71.cell? ⟨gb174, 2, none⟩ = some (.string (⟨#[]⟩ : ByteArray)) := (blk_cell BK174.out 2).trans rfl; have hcz74_3 : w71.cell? ⟨gb174, 3, none⟩ = some (.string (⟨#[]⟩ : ByteArray)) := (blk_cell BK174.out 3).trans rfl; have hfz74_0 := blk_frozen BK174.out 0; have hfz74_1 := blk_frozen BK174.out 1; have hfz74_2 := blk_frozen BK174.out 2; have hfz74_3 := blk_frozen BK174.out 3))
         refine bodyPost_ret (results_ct rfl _ _ gb174 59 #[.bool false, .int .u64 t179, .string t184, .string t191] (0, 0) _ rfl (by (with_reducible repeat (first | refine blk_drewN ?_ _ | refine blk_drew ?_ | refine blk_alloc ?_ _)); refine blk_put (cs := #[.bool false, .int .u64 t179, .string t184, .string (⟨#[]⟩ : ByteArray)]) ?_ 3 _ rfl; refine blk_put (cs := #[.bool false, .int .u64 t179, .string (⟨#[]⟩ : ByteArray), .string (⟨#[]⟩ : ByteArray)]) ?_ 2 _ rfl; refine blk_put (cs := #[.bool false, .int .u64 0, .string (⟨#[]⟩ : ByteArray), .string (⟨#[]⟩ : ByteArray)]) ?_ 1 _ rfl; refine blk_put (cs := #[.bool false, .int .u64 0, .string (⟨#[]⟩ : ByteArray), .string (⟨#[]⟩ : ByteArray)]) ?_ 0 _ rfl; (with_reducible repeat (first | refine blk_drewN ?_ _ | refine blk_drew ?_ | refine blk_alloc ?_ _)); refine blk_far ?_ NB174_175.out _; refine blk_far ?_ NB174_175.out _; refine blk_far ?_ NB174_175.out _; (with_reducible repeat (first | refine blk_drewN ?_ _ | refine blk_drew ?_ | refine blk_alloc ?_ _)); refine blk_far ?_ NB174_180.out _; refine blk_far ?_ NB174_180.out _; refine blk_far ?_ NB174_180.out _; (with_reducible repeat (first | refine blk_drewN ?_ _ | refine blk_drew ?_ | refine blk_alloc ?_ _)); exact BK174.out) Try.underlying59 rfl (by kernel_rfl)) rfl ?_
         exact ⟨by first | rfl | (simp <;> rfl) | (simp [*] <;> rfl), by repeat (first | (with_reducible first | exact HB.out | apply below_alloc | apply pw_below_drewN | apply below_drew1 | refine below_set ?_ GE174.out | refine below_set ?_ GE175.out | refine below_set ?_ GE180.out) | exact HB.out)⟩
        ·
         rw [if_neg c57] at H
         have c57b0 : (t194 == 0) = false := beq_eq_false_iff_ne.mpr c57
         have c57b1 : (t194 != 0) = true := bne_iff_ne.mpr c57
         simp only [Option.some.injEq, Prod.mk.injEq] at H
         obtain ⟨rfl, rfl, rfl, rfl, rfl⟩ := H
         have p14 : 0 ≤ (0 : Int) := (by omega)
         have q14 : 0 < a0.size := (by have : (0 : Int) < (a0.size : Int) := of_decide_eq_true (by first | (with_reducible assumption) | assumption); omega)
         have hx14 : ∀ h : 0 < a0.size, ((a0[0]'h).toNat : Int) = bt a0 0 := bt_at a0 0
         clear p14
         have qi14 : (0 < (a0.size : Int)) = True := eq_true (of_decide_eq_true (by first | (with_reducible assumption) | assumption))
         replace q14 := eq_true q14
         try go_wp2_with (first | ((with_reducible refine gate_dst (N := 4) rfl ?_); refine box_event ?hg (N := 4) ?hd (cs := #[.bool false, .int .u64 0, .string (⟨#[]⟩ : ByteArray), .string (⟨#[]⟩ : ByteArray)]) (t := 59) ?hr ?_; (case hd => rfl); (case hg => rfl); (case hr => first | (go_simp; done) | (go_simp; rfl)); intro gb175 hg w75 hbox hb; have n0_ := Aside0.mk (blk_below (g := gb174) (o := .cells #[.bool false, .int .u64 0, .string (⟨#[]⟩ : ByteArray), .string (⟨#[]⟩ : ByteArray)] 59 (0, 0)) (by (with_reducible repeat (first | refine blk_drewN ?_ _ | refine blk_drew ?_ | refine blk_alloc ?_ _)); exact BK174.out) hb); have n1_ := Aside0.mk (below_step (by repeat with_reducible first | exact HB.out | apply below_alloc | apply pw_below_drewN | apply below_drew1 | refine below_set ?_ GE174.out) hb); have n2_ := Aside0.mk (hbox); have n3_ := Aside0.mk ((by rw [hg]; exact (below_size (by repeat with_reducible first | exact HB.out | apply below_alloc | apply pw_below_drewN | apply below_drew1 | refine below_set ?_ GE174.out)) : w.heap.size ≤ gb175)); have n4_ := Aside0.mk ((by rw [hg]; exact (below_size (by repeat with_reducible first | exact HB.out | apply below_alloc | apply pw_below_drewN | apply below_drew1 | refine below_set ?_ GE174.out)) : w.heap.size ≤ gb175)); have n5_ := Aside0.mk ((by rw [hg]; exact Nat.ne_of_lt (blk_lt (g := gb174) (o := .cells #[.bool false, .int .u64 0, .string (⟨#[]⟩ : ByteArray), .string (⟨#[]⟩ : ByteArray)] 59 (0, 0)) (by (with_reducible repeat (first | refine blk_drewN ?_ _ | refine blk_drew ?_ | refine blk_alloc ?_ _)); exact BK174.out)) : gb174 ≠ gb175)); have n6_ := Aside0.mk ((by rw [hg]; exact Nat.ne_of_gt (blk_lt (g := gb174) (o := .cells #[.bool false, .int .u64 0, .string (⟨#[]⟩ : ByteArray), .string (⟨#[]⟩ : ByteArray)] 59 (0, 0)) (by (with_reducible repeat (first | refine blk_drewN ?_ _ | refine blk_drew ?_ | refine blk_alloc ?_ _)); exact BK174.out)) : gb175 ≠ gb174)); clear BK174; clear HB; have BK174 := n0_; have HB := n1_; have BK175 := n2_; have GW175 := n3_; have GE175 := n4_; have NB174_175 := n5_; have NB175_174 := n6_; clear n0_ n1_ n2_ n3_ n4_ n5_ n6_; clear hb hbox hg; have hnb76 := NB175_174.out; have hnc76 := NB174_175.out; have hcz77_0 : w75.cell? ⟨gb175, 0, none⟩ = some (.bool false) := (blk_cell BK175.out 0).trans rfl; have hcz77_1 : w75.cell? ⟨gb175, 1, none⟩ = some (.int .u64 0) := (blk_cell BK175.out 1).trans rfl; have hcz77_2 : w75.cell? ⟨gb175, 2, none⟩ = some (.string (⟨#[]⟩ : ByteArray)) := (blk_cell BK175.out 2).trans rfl; have hcz77_3 : w75.cell? ⟨gb175, 3, none⟩ = some (.string (⟨#[]⟩ : ByteArray)) := (blk_cell BK175.out 3).trans rfl; have hfz77_0 := blk_frozen BK175.out 0; have hfz77_1 := blk_frozen BK175.out 1; have hfz77_2 := blk_frozen BK175.out 2; have hfz77_3 := blk_frozen BK175.out 3) | ((with_reducible refine gate_callee (f := 76) rfl ?_); refine goesL_ (some 29) rfl rfl Try.func76 (by kernel_rfl) rfl #[.agg #[.string (a0.extract 1 a0.size), .int .i64 0, .int .i64 0]] rfl (by (try simp only [mA, mB, mC]); first | done | rfl) ?_; (with_reducible refine (fascicleref02_Get.calls kj4 (a0.extract 1 a0.size) 0 0 t176 t177 t178 t179 _ A16.out).mono ?_); rintro e w78 ⟨rfl, hb⟩; refine ⟨_, rfl, ?_⟩; replace BK174 := Aside0.mk (blk_below (g := gb174) (o := .cells #[.bool false, .int .u64 0, .string (⟨#[]⟩ : ByteArray), .string (⟨#[]⟩ : ByteArray)] 59 (0, 0)) (by (with_reducible repeat (first | refine blk_drewN ?_ _ | refine blk_drew ?_ | refine blk_alloc ?_ _)); refine blk_far ?_ NB174_175.out _; refine blk_far ?_ NB174_175.out _; refine blk_far ?_ NB174_175.out _; refine blk_far ?_ NB174_175.out _; (with_reducible repeat (first | refine blk_drewN ?_ _ | refine blk_drew ?_ | refine blk_alloc ?_ _)); exact BK174.out) hb); replace BK175 := Aside0.mk (blk_below (g := gb175) (o := .cells #[.bool false, .int .u64 0, .string (⟨#[]⟩ : ByteArray), .string (⟨#[]⟩ : ByteArray)] 59 (0, 0)) (by (with_reducible repeat (first | refine blk_drewN ?_ _ | refine blk_drew ?_ | refine blk_alloc ?_ _)); refine blk_put (cs := #[.bool false, .int .u64 0, .string (⟨#[]⟩ : ByteArray), .string (⟨#[]⟩ : ByteArray)]) ?_ 3 _ rfl; refine blk_put (cs := #[.bool false, .int .u64 0, .string (⟨#[]⟩ : ByteArray), .string (⟨#[]⟩ : ByteArray)]) ?_ 2 _ rfl; refine blk_put (cs := #[.bool false, .int .u64 0, .string (⟨#[]⟩ : ByteArray), .string (⟨#[]⟩ : ByteArray)]) ?_ 1 _ rfl; refine blk_put (cs := #[.bool false, .int .u64 0, .string (⟨#[]⟩ : ByteArray), .string (⟨#[]⟩ : ByteArray)]) ?_ 0 _ rfl; (with_reducible repeat (first | refine blk_drewN ?_ _ | refine blk_drew ?_ | refine blk_alloc ?_ _)); exact BK175.out) hb); replace HB := Aside0.mk (below_step (by repeat with_reducible first | exact HB.out | apply below_alloc | apply pw_below_drewN | apply below_drew1 | refine below_set ?_ GE174.out | refine below_set ?_ GE175.out) hb); (try clear hb)) | ((with_reducible refine gate_dst (N := 5) rfl ?_); refine box_event ?hg (N := 5) ?hd (cs := #[.string (⟨#[]⟩ : ByteArray), .int .i64 0, .int .i64 0]) (t := 115) ?hr ?_; (case hd => rfl); (case hg => rfl); (case hr => first | (go_simp; done) | (go_simp; rfl)); intro gb180 hg w79 hbox hb; have n0_ := Aside0.mk (blk_below (g := gb174) (o := .cells #[.bool false, .int .u64 0, .string (⟨#[]⟩ : ByteArray), .string (⟨#[]⟩ : ByteArray)] 59 (0, 0)) (by (with_reducible repeat (first | refine blk_drewN ?_ _ | refine blk_drew ?_ | refine blk_alloc ?_ _)); exact BK174.out) hb); have n1_ := Aside0.mk (blk_below (g := gb175) (o := .cells #[.bool false, .int .u64 0, .string (⟨#[]⟩ : ByteArray), .string (⟨#[]⟩ : ByteArray)] 59 (0, 0)) (by (with_reducible repeat (first | refine blk_drewN ?_ _ | refine blk_drew ?_ | refine blk_alloc ?_ _)); exact BK175.out) hb); have n2_ := Aside0.mk (below_step (by repeat with_reducible first | exact HB.out | apply below_alloc | apply pw_below_drewN | apply below_drew1 | refine below_set ?_ GE174.out | refine below_set ?_ GE175.out) hb); have n3_ := Aside0.mk (hbox); have n4_ := Aside0.mk ((by rw [hg]; exact (below_size (by repeat with_reducible first | exact HB.out | apply below_alloc | apply pw_below_drewN | apply below_drew1 | refine below_set ?_ GE174.out | refine below_set ?_ GE175.out)) : w.heap.size ≤ gb180)); have n5_ := Aside0.mk ((by rw [hg]; exact (below_size (by repeat with_reducible first | exact HB.out | apply below_alloc | apply pw_below_drewN | apply below_drew1 | refine below_set ?_ GE174.out | refine below_set ?_ GE175.out)) : w.heap.size ≤ gb180)); have n6_ := Aside0.mk ((by rw [hg]; exact Nat.ne_of_lt (blk_lt (g := gb174) (o := .cells #[.bool false, .int .u64 0, .string (⟨#[]⟩ : ByteArray), .string (⟨#[]⟩ : ByteArray)] 59 (0, 0)) (by (with_reducible repeat (first | refine blk_drewN ?_ _ | refine blk_drew ?_ | refine blk_alloc ?_ _)); exact BK174.out)) : gb174 ≠ gb180)); have n7_ := Aside0.mk ((by rw [hg]; exact Nat.ne_of_gt (blk_lt (g := gb174) (o := .cells #[.bool false, .int .u64 0, .string (⟨#[]⟩ : ByteArray), .string (⟨#[]⟩ : ByteArray)] 59 (0, 0)) (by (with_reducible repeat (first | refine blk_drewN ?_ _ | refine blk_drew ?_ | refine blk_alloc ?_ _)); exact BK174.out)) : gb180 ≠ gb174)); have n8_ := Aside0.mk ((by rw [hg]; exact Nat.ne_of_lt (blk_lt (g := gb175) (o := .cells #[.bool false, .int .u64 0, .string (⟨#[]⟩ : ByteArray), .string (⟨#[]⟩ : ByteArray)] 59 (0, 0)) (by (with_reducible repeat (first | refine blk_drewN ?_ _ | refine blk_drew ?_ | refine blk_alloc ?_ _)); exact BK175.out)) : gb175 ≠ gb180)); have n9_ := Aside0.mk ((by rw [hg]; exact Nat.ne_of_gt (blk_lt (g := gb175) (o := .cells #[.bool false, .int .u64 0, .string (⟨#[]⟩ : ByteArray), .string (⟨#[]⟩ : ByteArray)] 59 (0, 0)) (by (with_reducible repeat (first | refine blk_drewN ?_ _ | refine blk_drew ?_ | refine blk_alloc ?_ _)); exact BK175.out)) : gb180 ≠ gb175)); clear BK174; clear BK175; clear HB; have BK174 := n0_; have BK175 := n1_; have HB := n2_; have BK180 := n3_; have GW180 := n4_; have GE180 := n5_; have NB174_180 := n6_; have NB180_174 := n7_; have NB175_180 := n8_; have NB180_175 := n9_; clear n0_ n1_ n2_ n3_ n4_ n5_ n6_ n7_ n8_ n9_; clear hb hbox hg; have hnb80 := NB180_174.out; have hnc80 := NB174_180.out; have hnb81 := NB180_175.out; have hnc81 := NB175_180.out; have hcz82_0 : w79.cell? ⟨gb180, 0, none⟩ = some (.string (⟨#[]⟩ : ByteArray)) := (blk_cell BK180.out 0).trans rfl; have hcz82_1 : w79.cell? ⟨gb180, 1, none⟩ = some (.int .i64 0) := (blk_cell BK180.out 1).trans rfl; have hcz82_2 : w79.cell? ⟨gb180, 2, none⟩ = some (.int .i64 0) := (blk_cell BK180.out 2).trans rfl; have hfz82_0 := blk_frozen BK180.out 0; have hfz82_1 := blk_frozen BK180.out 1; have hfz82_2 := blk_frozen BK180.out 2) | ((with_reducible refine gate_callee (f := 132) rfl ?_); refine goesL_ (some 34) rfl rfl Try.func132 (by kernel_rfl) rfl #[.agg #[.string t176, .int .i64 t177, .int .i64 t178], .int .i64 1, .int .i64 4096] rfl (by (try simp only [mA, mB, mC]); first | done | rfl) ?_; (with_reducible refine (fascicleref02_GetText.calls kj4 t176 t177 t178 1 4096 t181 t182 t183 t184 _ A17.out).mono ?_); rintro e w83 ⟨rfl, hb⟩; refine ⟨_, rfl, ?_⟩; replace BK174 := Aside0.mk (blk_below (g := gb174) (o := .cells #[.bool false, .int .u64 0, .string (⟨#[]⟩ : ByteArray), .string (⟨#[]⟩ : ByteArray)] 59 (0, 0)) (by (with_reducible repeat (first | refine blk_drewN ?_ _ | refine blk_drew ?_ | refine blk_alloc ?_ _)); refine blk_far ?_ NB174_180.out _; refine blk_far ?_ NB174_180.out _; refine blk_far ?_ NB174_180.out _; (with_reducible repeat (first | refine blk_drewN ?_ _ | refine blk_drew ?_ | refine blk_alloc ?_ _)); exact BK174.out) hb); replace BK175 := Aside0.mk (blk_below (g := gb175) (o := .cells #[.bool false, .int .u64 0, .string (⟨#[]⟩ : ByteArray), .string (⟨#[]⟩ : ByteArray)] 59 (0, 0)) (by (with_reducible repeat (first | refine blk_drewN ?_ _ | refine blk_drew ?_ | refine blk_alloc ?_ _)); refine blk_far ?_ NB175_180.out _; refine blk_far ?_ NB175_180.out _; refine blk_far ?_ NB175_180.out _; (with_reducible repeat (first | refine blk_drewN ?_ _ | refine blk_drew ?_ | refine blk_alloc ?_ _)); exact BK175.out) hb); replace BK180 := Aside0.mk (blk_below (g := gb180) (o := .cells #[.string t176, .int .i64 t177, .int .i64 t178] 115 (0, 0)) (by (with_reducible repeat (first | refine blk_drewN ?_ _ | refine blk_drew ?_ | refine blk_alloc ?_ _)); refine blk_put (cs := #[.string t176, .int .i64 t177, .int .i64 0]) ?_ 2 _ rfl; refine blk_put (cs := #[.string t176, .int .i64 0, .int .i64 0]) ?_ 1 _ rfl; refine blk_put (cs := #[.string (⟨#[]⟩ : ByteArray), .int .i64 0, .int .i64 0]) ?_ 0 _ rfl; (with_reducible repeat (first | refine blk_drewN ?_ _ | refine blk_drew ?_ | refine blk_alloc ?_ _)); exact BK180.out) hb); replace HB := Aside0.mk (below_step (by repeat with_reducible first | exact HB.out | apply below_alloc | apply pw_below_drewN | apply below_drew1 | refine below_set ?_ GE174.out | refine below_set ?_ GE175.out | refine below_set ?_ GE180.out) hb); (try clear hb); have hcz84_0 : w83.cell? ⟨gb180, 0, none⟩ = some (.string t176) := (blk_cell BK180.out 0).trans rfl; have hcz84_1 : w83.cell? ⟨gb180, 1, none⟩ = some (.int .i64 t177) := (blk_cell BK180.out 1).trans rfl; have hcz84_2 : w83.cell? ⟨gb180, 2, none⟩ = some (.int .i64 t178) := (blk_cell BK180.out 2).trans rfl; have hfz84_0 := blk_frozen BK180.out 0; have hfz84_1 := blk_frozen BK180.out 1; have hfz84_2 := blk_frozen BK180.out 2; have hcz85_0 : w83.cell? ⟨gb175, 0, none⟩ = some (.bool false) := (blk_cell BK175.out 0).trans rfl; have hcz85_1 : w83.cell? ⟨gb175, 1, none⟩ = some (.int .u64 0) := (blk_cell BK175.out 1).trans rfl; have hcz85_2 : w83.cell? ⟨gb175, 2, none⟩ = some (.string (⟨#[]⟩ : ByteArray)) := (blk_cell BK175.out 2).trans rfl; have hcz85_3 : w83.cell? ⟨gb175, 3, none⟩ = some (.string (⟨#[]⟩ : ByteArray)) := (blk_cell BK175.out 3).trans rfl; have hfz85_0 := blk_frozen BK175.out 0; have hfz85_1 := blk_frozen BK175.out 1; have hfz85_2 := blk_frozen BK175.out 2; have hfz85_3 := blk_frozen BK175.out 3) | ((with_reducible refine gate_callee (f := 132) rfl ?_); refine goesL_ (some 42) rfl rfl Try.func132 (by kernel_rfl) rfl #[.agg #[.string t181, .int .i64 t182, .int .i64 t183], .int .i64 0, .int .i64 1048576] rfl (by (try simp only [mA, mB, mC]); first | done | rfl) ?_; (with_reducible refine (fascicleref02_GetText.calls kj4 t181 t182 t183 0 1048576 t188 t189 t190 t191 _ A55.out).mono ?_); rintro e w86 ⟨rfl, hb⟩; refine ⟨_, rfl, ?_⟩; replace BK174 := Aside0.mk (blk_below (g := gb174) (o := .cells #[.bool false, .int .u64 0, .string (⟨#[]⟩ : ByteArray), .string (⟨#[]⟩ : ByteArray)] 59 (0, 0)) (by (with_reducible repeat (first | refine blk_drewN ?_ _ | refine blk_drew ?_ | refine blk_alloc ?_ _)); refine blk_far ?_ NB174_180.out _; refine blk_far ?_ NB174_180.out _; refine blk_far ?_ NB174_180.out _; (with_reducible repeat (first | refine blk_drewN ?_ _ | refine blk_drew ?_ | refine blk_alloc ?_ _)); exact BK174.out) hb); replace BK175 := Aside0.mk (blk_below (g := gb175) (o := .cells #[.bool false, .int .u64 0, .string (⟨#[]⟩ : ByteArray), .string (⟨#[]⟩ : ByteArray)] 59 (0, 0)) (by (with_reducible repeat (first | refine blk_drewN ?_ _ | refine blk_drew ?_ | refine blk_alloc ?_ _)); refine blk_far ?_ NB175_180.out _; refine blk_far ?_ NB175_180.out _; refine blk_far ?_ NB175_180.out _; (with_reducible repeat (first | refine blk_drewN ?_ _ | refine blk_drew ?_ | refine blk_alloc ?_ _)); exact BK175.out) hb); replace BK180 := Aside0.mk (blk_below (g := gb180) (o := .cells #[.string t181, .int .i64 t182, .int .i64 t183] 115 (0, 0)) (by (with_reducible repeat (first | refine blk_drewN ?_ _ | refine blk_drew ?_ | refine blk_alloc ?_ _)); refine blk_put (cs := #[.string t181, .int .i64 t182, .int .i64 t178]) ?_ 2 _ rfl; refine blk_put (cs := #[.string t181, .int .i64 t177, .int .i64 t178]) ?_ 1 _ rfl; refine blk_put (cs := #[.string t176, .int .i64 t177, .int .i64 t178]) ?_ 0 _ rfl; (with_reducible repeat (first | refine blk_drewN ?_ _ | refine blk_drew ?_ | refine blk_alloc ?_ _)); exact BK180.out) hb); replace HB := Aside0.mk (below_step (by repeat with_reducible first | exact HB.out | apply below_alloc | apply pw_below_drewN | apply below_drew1 | refine below_set ?_ GE174.out | refine below_set ?_ GE175.out | refine below_set ?_ GE180.out) hb); (try clear hb); have hcz87_0 : w86.cell? ⟨gb180, 0, none⟩ = some (.string t181) := (blk_cell BK180.out 0).trans rfl; have hcz87_1 : w86.cell? ⟨gb180, 1, none⟩ = some (.int .i64 t182) := (blk_cell BK180.out 1).trans rfl; have hcz87_2 : w86.cell? ⟨gb180, 2, none⟩ = some (.int .i64 t183) := (blk_cell BK180.out 2).trans rfl; have hfz87_0 := blk_frozen BK180.out 0; have hfz87_1 := blk_frozen BK180.out 1; have hfz87_2 := blk_frozen BK180.out 2) | ((with_reducible refine gate_callee (f := 77) rfl ?_); refine goesL_ (some 46) rfl rfl Try.func77 (by kernel_rfl) rfl #[.agg #[.string t188, .int .i64 t189, .int .i64 t190]] rfl (by (try simp only [mA, mB, mC]); first | done | rfl) ?_; (with_reducible refine (fascicleref01_End.calls t188 t189 t190 t192 t193 t194 _ A56.out).mono ?_); rintro e w88 ⟨rfl, hb⟩; refine ⟨_, rfl, ?_⟩; replace BK174 := Aside0.mk (blk_below (g := gb174) (o := .cells #[.bool false, .int .u64 0, .string (⟨#[]⟩ : ByteArray), .string (⟨#[]⟩ : ByteArray)] 59 (0, 0)) (by (with_reducible repeat (first | refine blk_drewN ?_ _ | refine blk_drew ?_ | refine blk_alloc ?_ _)); refine blk_far ?_ NB174_180.out _; refine blk_far ?_ NB174_180.out _; refine blk_far ?_ NB174_180.out _; (with_reducible repeat (first | refine blk_drewN ?_ _ | refine blk_drew ?_ | refine blk_alloc ?_ _)); exact BK174.out) hb); replace BK175 := Aside0.mk (blk_below (g := gb175) (o := .cells #[.bool false, .int .u64 0, .string (⟨#[]⟩ : ByteArray), .string (⟨#[]⟩ : ByteArray)] 59 (0, 0)) (by (with_reducible repeat (first | refine blk_drewN ?_ _ | refine blk_drew ?_ | refine blk_alloc ?_ _)); refine blk_far ?_ NB175_180.out _; refine blk_far ?_ NB175_180.out _; refine blk_far ?_ NB175_180.out _; (with_reducible repeat (first | refine blk_drewN ?_ _ | refine blk_drew ?_ | refine blk_alloc ?_ _)); exact BK175.out) hb); replace BK180 := Aside0.mk (blk_below (g := gb180) (o := .cells #[.string t188, .int .i64 t189, .int .i64 t190] 115 (0, 0)) (by (with_reducible repeat (first | refine blk_drewN ?_ _ | refine blk_drew ?_ | refine blk_alloc ?_ _)); refine blk_put (cs := #[.string t188, .int .i64 t189, .int .i64 t183]) ?_ 2 _ rfl; refine blk_put (cs := #[.string t188, .int .i64 t182, .int .i64 t183]) ?_ 1 _ rfl; refine blk_put (cs := #[.string t181, .int .i64 t182, .int .i64 t183]) ?_ 0 _ rfl; (with_reducible repeat (first | refine blk_drewN ?_ _ | refine blk_drew ?_ | refine blk_alloc ?_ _)); exact BK180.out) hb); replace HB := Aside0.mk (below_step (by repeat with_reducible first | exact HB.out | apply below_alloc | apply pw_below_drewN | apply below_drew1 | refine below_set ?_ GE174.out | refine below_set ?_ GE175.out | refine below_set ?_ GE180.out) hb); (try clear hb); have hcz89_0 : w88.cell? ⟨gb180, 0, none⟩ = some (.string t188) := (blk_cell BK180.out 0).trans rfl; have hcz89_1 : w88.cell? ⟨gb180, 1, none⟩ = some (.int .i64 t189) := (blk_cell BK180.out 1).trans rfl; have hcz89_2 : w88.cell? ⟨gb180, 2, none⟩ = some (.int .i64 t190) := (blk_cell BK180.out 2).trans rfl; have hfz89_0 := blk_frozen BK180.out 0; have hfz89_1 := blk_frozen BK180.out 1; have hfz89_2 := blk_frozen BK180.out 2))
         have n0_ : Aside0 ((((w88.setCell ⟨gb180, 0, none⟩ (.string t192)).setCell ⟨gb180, 1, none⟩ (.int .i64 t193)).setCell ⟨gb180, 2, none⟩ (.int .i64 t194)).heap[gb174]? = some (.cells #[.bool false, .int .u64 0, .string (⟨#[]⟩ : ByteArray), .string (⟨#[]⟩ : ByteArray)] 59 (0, 0))) := ⟨by (with_reducible repeat (first | refine blk_drewN ?_ _ | refine blk_drew ?_ | refine blk_alloc ?_ _)); refine blk_far ?_ NB174_180.out _; refine blk_far ?_ NB174_180.out _; refine blk_far ?_ NB174_180.out _; (with_reducible repeat (first | refine blk_drewN ?_ _ | refine blk_drew ?_ | refine blk_alloc ?_ _)); exact BK174.out⟩
         have n1_ : Aside0 ((((w88.setCell ⟨gb180, 0, none⟩ (.string t192)).setCell ⟨gb180, 1, none⟩ (.int .i64 t193)).setCell ⟨gb180, 2, none⟩ (.int .i64 t194)).heap[gb175]? = some (.cells #[.bool false, .int .u64 0, .string (⟨#[]⟩ : ByteArray), .string (⟨#[]⟩ : ByteArray)] 59 (0, 0))) := ⟨by (with_reducible repeat (first | refine blk_drewN ?_ _ | refine blk_drew ?_ | refine blk_alloc ?_ _)); refine blk_far ?_ NB175_180.out _; refine blk_far ?_ NB175_180.out _; refine blk_far ?_ NB175_180.out _; (with_reducible repeat (first | refine blk_drewN ?_ _ | refine blk_drew ?_ | refine blk_alloc ?_ _)); exact BK175.out⟩
         have n2_ : Aside0 ((((w88.setCell ⟨gb180, 0, none⟩ (.string t192)).setCell ⟨gb180, 1, none⟩ (.int .i64 t193)).setCell ⟨gb180, 2, none⟩ (.int .i64 t194)).heap[gb180]? = some (.cells #[.string t192, .int .i64 t193, .int .i64 t194] 115 (0, 0))) := ⟨by (with_reducible repeat (first | refine blk_drewN ?_ _ | refine blk_drew ?_ | refine blk_alloc ?_ _)); refine blk_put (cs := #[.string t192, .int .i64 t193, .int .i64 t190]) ?_ 2 _ rfl; refine blk_put (cs := #[.string t192, .int .i64 t189, .int .i64 t190]) ?_ 1 _ rfl; refine blk_put (cs := #[.string t188, .int .i64 t189, .int .i64 t190]) ?_ 0 _ rfl; (with_reducible repeat (first | refine blk_drewN ?_ _ | refine blk_drew ?_ | refine blk_alloc ?_ _)); exact BK180.out⟩
         have n3_ : Aside0 (Below w.heap.size w (((w88.setCell ⟨gb180, 0, none⟩ (.string t192)).setCell ⟨gb180, 1, none⟩ (.int .i64 t193)).setCell ⟨gb180, 2, none⟩ (.int .i64 t194))) := ⟨by repeat (first | (with_reducible first | exact HB.out | apply below_alloc | apply pw_below_drewN | apply below_drew1 | refine below_set ?_ GE174.out | refine below_set ?_ GE175.out | refine below_set ?_ GE180.out) | exact HB.out)⟩
         (try clear BK174)
         (try clear BK175)
         (try clear BK180)
         (try clear HB)
         generalize (((w88.setCell ⟨gb180, 0, none⟩ (.string t192)).setCell ⟨gb180, 1, none⟩ (.int .i64 t193)).setCell ⟨gb180, 2, none⟩ (.int .i64 t194)) = w90 at n0_ n1_ n2_ n3_ ⊢
         have BK174 := n0_
         have BK175 := n1_
         have BK180 := n2_
         have HB := n3_
         clear n0_ n1_ n2_ n3_
         have n0_ := Aside0.mk (blk_drew BK174.out)
         have n1_ := Aside0.mk (blk_drew BK175.out)
         have n2_ := Aside0.mk (blk_drew BK180.out)
         have n3_ := Aside0.mk (below_drew1 HB.out)
         clear BK174
         clear BK175
         clear BK180
         clear HB
         have BK174 := n0_
         have BK175 := n1_
         have BK180 := n2_
         have HB := n3_
         clear n0_ n1_ n2_ n3_
         refine start_ (n := 5) (S := fun w' => w'.cell? ⟨gb180, 0, none⟩ = some (.string t192) ∧ w'.cell? ⟨gb180, 1, none⟩ = some (.int .i64 t193) ∧ w'.cell? ⟨gb180, 2, none⟩ = some (.int .i64 t194)) (ds := []) #[false, false, false, false, false] (by kernel_rfl) rfl rfl ⟨(blk_cell BK180.out 0).trans rfl, (blk_cell BK180.out 1).trans rfl, (blk_cell BK180.out 2).trans rfl⟩ (fun hHeld => ?_)
         generalize w90.drew = w91 at BK174 BK175 BK180 HB hHeld ⊢
         refine pure_ (i := 0) (N := some 50) (v := ?_) (a' := ?_) #[true, false, false, false, false] rfl rfl (by kernel_rfl) (fun _ _ _ h => h) (Or.inl ⟨by rfl, ?_⟩) ?_ ?_
         rotate_left
         · intro w'; go_simp; with_reducible rfl
         rotate_left
         · simp only [Act.put, sA, sB, sC, i64_w, i32_w]; rfl
         refine pure_ (i := 1) (N := some 51) (v := ?_) (a' := ?_) #[true, true, false, false, false] rfl rfl (by kernel_rfl) (fun _ _ _ h => h) (Or.inl ⟨by rfl, ?_⟩) ?_ ?_
         rotate_left
         · intro w'; go_simp; with_reducible rfl
         rotate_left
         · simp only [Act.put, sA, sB, sC, i64_w, i32_w]; rfl
         refine take_ (i := 2) (N := some 52) (v := ?_) (a' := ?_) #[true, true, true, false, false] rfl rfl (by kernel_rfl) (fun _ _ _ h => h) (Or.inl ⟨by rfl, ?_⟩) hHeld ?_ ?_
         rotate_left
         ·
          rintro w' ⟨s0, s1, s2⟩
          go_simp
          with_reducible rfl
         rotate_left
         · simp only [Act.put, sA, sB, sC, i64_w, i32_w]; rfl
         refine one_ (i := 3) (N := none) #[true, true, true, true, false] rfl rfl (by kernel_rfl) (by decide) (fun K hK => ?_)
         have hs92 : w91.cell? ⟨gb174, 0, none⟩ = some (.bool false) := (blk_cell BK174.out 0).trans rfl
         have hfs92 := blk_frozen BK174.out 0
         have hns92_1 := NB175_174.out
         have hns92_2 := NB180_174.out
         have hms92_1 := NB174_175.out
         have hms92_2 := NB174_180.out
         have hs93 : w91.cell? ⟨gb174, 1, none⟩ = some (.int .u64 0) := (blk_cell BK174.out 1).trans rfl
         have hfs93 := blk_frozen BK174.out 1
         have hns93_1 := NB175_174.out
         have hns93_2 := NB180_174.out
         have hms93_1 := NB174_175.out
         have hms93_2 := NB174_180.out
         have hs94 : w91.cell? ⟨gb174, 2, none⟩ = some (.string (⟨#[]⟩ : ByteArray)) := (blk_cell BK174.out 2).trans rfl
         have hfs94 := blk_frozen BK174.out 2
         have hns94_1 := NB175_174.out
         have hns94_2 := NB180_174.out
         have hms94_1 := NB174_175.out
         have hms94_2 := NB174_180.out
         have hs95 : w91.cell? ⟨gb174, 3, none⟩ = some (.string (⟨#[]⟩ : ByteArray)) := (blk_cell BK174.out 3).trans rfl
         have hfs95 := blk_frozen BK174.out 3
         have hns95_1 := NB175_174.out
         have hns95_2 := NB180_174.out
         have hms95_1 := NB174_175.out
         have hms95_2 := NB174_180.out
         refine skip_ (w1 := ?_) (by rfl) rfl ?_ ?_
         rotate_left
         ·
          go_simp
          rfl
         refine hK.out _ _ ⟨((cell_far (p := ⟨gb174, _, none⟩) NB180_174.out _).trans (((cell_far (p := ⟨gb174, _, none⟩) NB180_174.out _).trans (((cell_far (p := ⟨gb174, _, none⟩) NB180_174.out _).trans (((cell_far (p := ⟨gb174, _, none⟩) NB180_174.out _).trans (hHeld.1)))))))), ((cell_far (p := ⟨gb174, _, none⟩) NB180_174.out _).trans (((cell_far (p := ⟨gb174, _, none⟩) NB180_174.out _).trans (((cell_far (p := ⟨gb174, _, none⟩) NB180_174.out _).trans (((cell_far (p := ⟨gb174, _, none⟩) NB180_174.out _).trans (hHeld.2.1)))))))), ((cell_far (p := ⟨gb174, _, none⟩) NB180_174.out _).trans (((cell_far (p := ⟨gb174, _, none⟩) NB180_174.out _).trans (((cell_far (p := ⟨gb174, _, none⟩) NB180_174.out _).trans (((cell_far (p := ⟨gb174, _, none⟩) NB180_174.out _).trans (hHeld.2.2))))))))⟩ (fun hHeld => ?_)
         clear hK K
         refine pure_ (i := 4) (N := some 3) (v := ?_) (a' := ?_) #[true, true, true, true, true] rfl rfl (by kernel_rfl) (fun _ _ _ h => h) (Or.inl ⟨by rfl, ?_⟩) ?_ ?_
         rotate_left
         · intro w'; go_simp; with_reducible rfl
         rotate_left
         · simp only [Act.put, sA, sB, sC, i64_w, i32_w]; rfl
         refine done_ (by kernel_rfl) ?_
         try go_wp2
         refine bodyPost_ret (results_ct rfl _ _ gb174 59 #[.bool false, .int .u64 0, .string (⟨#[]⟩ : ByteArray), .string (⟨#[]⟩ : ByteArray)] (0, 0) _ rfl (by (with_reducible repeat (first | refine blk_drewN ?_ _ | refine blk_drew ?_ | refine blk_alloc ?_ _)); refine blk_put (cs := #[.bool false, .int .u64 0, .string (⟨#[]⟩ : ByteArray), .string (⟨#[]⟩ : ByteArray)]) ?_ 3 _ rfl; refine blk_put (cs := #[.bool false, .int .u64 0, .string (⟨#[]⟩ : ByteArray), .string (⟨#[]⟩ : ByteArray)]) ?_ 2 _ rfl; refine blk_put (cs := #[.bool false, .int .u64 0, .string (⟨#[]⟩ : ByteArray), .string (⟨#[]⟩ : ByteArray)]) ?_ 1 _ rfl; refine blk_put (cs := #[.bool false, .int .u64 0, .string (⟨#[]⟩ : ByteArray), .string (⟨#[]⟩ : ByteArray)]) ?_ 0 _ rfl; (with_reducible repeat (first | refine blk_drewN ?_ _ | refine blk_drew ?_ | refine blk_alloc ?_ _)); exact BK174.out) Try.underlying59 rfl (by kernel_rfl)) rfl ?_
         exact ⟨by first | rfl | (simp <;> rfl) | (simp [*] <;> rfl), by repeat (first | (with_reducible first | exact HB.out | apply below_alloc | apply pw_below_drewN | apply below_drew1 | refine below_set ?_ GE174.out | refine below_set ?_ GE175.out | refine below_set ?_ GE180.out) | exact HB.out)⟩
      ·
       rw [if_neg c15] at H
       exact absurd H (by simp)
     ·
      rw [if_neg c13] at H
      exact absurd H (by simp)
mutual
def fascicleref05_Stuff.l0 : Nat → ByteArray → ByteArray → ByteArray → Int → Option (ByteArray)
 | 0, _, _, _, _ => none
 | k + 1, x3, x4, x5, x6 => if x6 < (x3.size : Int) then (if 0 ≤ x6 then (if (bt x3 x6) = 0 then (if x6 = (wrap64 ((x3.size : Int) - 1)) then (if x5.toList = ([] : List UInt8) then (if x6 > 0 then (if 0 ≤ (wrap64 (x6 - 1)) then (if (wrap64 (x6 - 1)) < (x3.size : Int) then (fascicleref05_Stuff.j1 k x3 x4 x5 x6 ((bt x3 (wrap64 (x6 - 1))) != 0)) else (none)) else (none)) else (fascicleref05_Stuff.j1 k x3 x4 x5 x6 false)) else (fascicleref05_Stuff.j1 k x3 x4 x5 x6 false)) else (fascicleref05_Stuff.j1 k x3 x4 x5 x6 false)) else (if x6 ≤ (wrap64 (x6 + 1)) then (if (wrap64 (x6 + 1)) ≤ (x3.size : Int) then (if x5.size + (x3.extract (x6 : Int).toNat ((wrap64 (x6 + 1)) : Int).toNat).size ≤ 9223372036854775807 then (if ((x5 ++ (x3.extract (x6 : Int).toNat ((wrap64 (x6 + 1)) : Int).toNat)).size : Int) = 254 then (if x4.size + 1 ≤ 9223372036854775807 then (if (x4 ++ (⟨#[255]⟩ : ByteArray)).size + (x5 ++ (x3.extract (x6 : Int).toNat ((wrap64 (x6 + 1)) : Int).toNat)).size ≤ 9223372036854775807 then (fascicleref05_Stuff.l0 k x3 ((x4 ++ (⟨#[255]⟩ : ByteArray)) ++ (x5 ++ (x3.extract (x6 : Int).toNat ((wrap64 (x6 + 1)) : Int).toNat))) (⟨#[]⟩ : ByteArray) (wrap64 (x6 + 1))) else (none)) else (none)) else (fascicleref05_Stuff.l0 k x3 x4 (x5 ++ (x3.extract (x6 : Int).toNat ((wrap64 (x6 + 1)) : Int).toNat)) (wrap64 (x6 + 1)))) else (none)) else (none)) else (none))) else (none)) else (some x4)
def fascicleref05_Stuff.j1 : Nat → ByteArray → ByteArray → ByteArray → Int → Bool → Option (ByteArray)
 | 0, _, _, _, _, _ => none
 | k + 1, x3, x4, x5, x6, x38 => if x38 = true then (some x4) else ((some (([(wrap64 ((x5.size : Int) + 1)) % 256] : List Int) : List Int)).bind fun y195 => (if x4.size + (strOfNums y195).size ≤ 9223372036854775807 then (if (x4 ++ (strOfNums y195)).size + x5.size ≤ 9223372036854775807 then (fascicleref05_Stuff.l0 k x3 ((x4 ++ (strOfNums y195)) ++ x5) (⟨#[]⟩ : ByteArray) (wrap64 (x6 + 1))) else (none)) else (none)))
end
def fascicleref05_Stuff.f (k : Nat) (a0 : ByteArray) : Option (ByteArray) := if a0.size + 1 ≤ 9223372036854775807 then (fascicleref05_Stuff.l0 k (a0 ++ (⟨#[0]⟩ : ByteArray)) (⟨#[]⟩ : ByteArray) (⟨#[]⟩ : ByteArray) 0) else (none)
theorem fascicleref05_Stuff.mono_l : ∀ k, (∀ y0 y1 y2 y3, LeO (fascicleref05_Stuff.l0 k y0 y1 y2 y3) (fascicleref05_Stuff.l0 (k + 1) y0 y1 y2 y3)) ∧ (∀ y0 y1 y2 y3 y4, LeO (fascicleref05_Stuff.j1 k y0 y1 y2 y3 y4) (fascicleref05_Stuff.j1 (k + 1) y0 y1 y2 y3 y4))
 | 0 => ⟨fun _ _ _ _ r h => by simp [fascicleref05_Stuff.l0] at h, fun _ _ _ _ _ r h => by simp [fascicleref05_Stuff.j1] at h⟩
 | k + 1 => by
  obtain ⟨ih0, ih1⟩ := fascicleref05_Stuff.mono_l k
  refine ⟨?_, ?_⟩
  ·
   intro y0 y1 y2 y3
   unfold fascicleref05_Stuff.l0
   repeat' first
   | (with_reducible exact ih0 _ _ _ _)
   | (with_reducible exact ih1 _ _ _ _ _)
   | (with_reducible exact LeO.refl _)
   | (with_reducible exact LeO.none _)
   | (with_reducible refine LeO.ite ?_ ?_)
   | (with_reducible refine LeO.bind ?_ (fun _ => ?_))
   | exact ih0 _ _ _ _
   | exact ih1 _ _ _ _ _
   | exact LeO.none _
   | refine LeO.ite ?_ ?_
   | refine LeO.bind ?_ (fun _ => ?_)
  ·
   intro y0 y1 y2 y3 y4
   unfold fascicleref05_Stuff.j1
   repeat' first
   | (with_reducible exact ih0 _ _ _ _)
   | (with_reducible exact ih1 _ _ _ _ _)
   | (with_reducible exact LeO.refl _)
   | (with_reducible exact LeO.none _)
   | (with_reducible refine LeO.ite ?_ ?_)
   | (with_reducible refine LeO.bind ?_ (fun _ => ?_))
   | exact ih0 _ _ _ _
   | exact ih1 _ _ _ _ _
   | exact LeO.none _
   | refine LeO.ite ?_ ?_
   | refine LeO.bind ?_ (fun _ => ?_)
theorem fascicleref05_Stuff.mono : ∀ a0 k, LeO (fascicleref05_Stuff.f k a0) (fascicleref05_Stuff.f (k + 1) a0) := by
 intro a0 k
 obtain ⟨ih0, ih1⟩ := fascicleref05_Stuff.mono_l k
 unfold fascicleref05_Stuff.f
 repeat' first
   | (with_reducible exact ih0 _ _ _ _)
   | (with_reducible exact ih1 _ _ _ _ _)
   | (with_reducible exact LeO.refl _)
   | (with_reducible exact LeO.none _)
   | (with_reducible refine LeO.ite ?_ ?_)
   | (with_reducible refine LeO.bind ?_ (fun _ => ?_))
   | exact ih0 _ _ _ _
   | exact ih1 _ _ _ _ _
   | exact LeO.none _
   | refine LeO.ite ?_ ?_
   | refine LeO.bind ?_ (fun _ => ?_)
theorem fascicleref05_Stuff.calls (k : Nat) (a0 : ByteArray) (r : ByteArray) (w : World) (h : fascicleref05_Stuff.f k a0 = some r) :
  Calls Try.prog 62 #[.string a0] w fun e w' => e = .returned (.string r) ∧ Below w.heap.size w w' := by
 have HB := Aside0.mk (Below.refl w.heap.size w)
 have H : (if a0.size + 1 ≤ 9223372036854775807 then (fascicleref05_Stuff.l0 k (a0 ++ (⟨#[0]⟩ : ByteArray)) (⟨#[]⟩ : ByteArray) (⟨#[]⟩ : ByteArray) 0) else (none)) = some r := h
 clear h
 by_cases c2 : a0.size + 1 ≤ 9223372036854775807
 ·
  rw [if_pos c2] at H
  have c2b0 := eq_true c2
  have c2b1 : decide (a0.size + 1 ≤ 9223372036854775807) = true := decide_eq_true c2
  try have c2b2 : (9223372036854775807 < a0.size + 1) = False := eq_false (Nat.not_lt.2 c2)
  try (have c2b4 := Nat.not_lt.2 c2; simp [ByteArray.size_append, -Nat.not_lt] at c2b4; (try simp only [show ∀ x : UInt8, (⟨#[x]⟩ : ByteArray).size = 1 from fun _ => rfl, show ∀ x y : UInt8, (⟨#[x, y]⟩ : ByteArray).size = 2 from fun _ _ => rfl] at c2b4); have c2b5 := eq_false c2b4)
  have H' := Aside0.mk H
  clear H
  go_enter Try.func62, Try.ntmps62
  go_wp2
  generalize (a0 ++ (⟨#[0]⟩ : ByteArray)) = all_ at *
  go_loopg [4, 5, 6] k (fun kq v4 v5 v6 w' => ∃ (x4_1 : ByteArray) (x5_1 : ByteArray) (x6_1 : Int), v4 = .string x4_1 ∧ v5 = .string x5_1 ∧ v6 = .int .i64 x6_1 ∧ Aside0 (fascicleref05_Stuff.l0 kq all_ x4_1 x5_1 x6_1 = some r) ∧ Aside0 (kq ≤ k) ∧ Aside0 (Below w.heap.size w w'))
  case atStart => exact ⟨((⟨#[]⟩ : ByteArray)), ((⟨#[]⟩ : ByteArray)), (0), (by first | rfl | (simp; done) | (simp [*]; done) | (simp; exact (fun l : List UInt8 => (by cases l <;> rfl : l.isEmpty = !(l != ([] : List UInt8)))) _)), (by first | rfl | (simp; done) | (simp [*]; done) | (simp; exact (fun l : List UInt8 => (by cases l <;> rfl : l.isEmpty = !(l != ([] : List UInt8)))) _)), (by first | rfl | (simp; done) | (simp [*]; done) | (simp; exact (fun l : List UInt8 => (by cases l <;> rfl : l.isEmpty = !(l != ([] : List UInt8)))) _)), H', ⟨Nat.le_refl _⟩, ⟨by repeat (first | (with_reducible first | exact HB.out | apply below_alloc | apply pw_below_drewN | apply below_drew1) | exact HB.out)⟩⟩
  case round =>
   clear H'
   try clear c2
   try clear c2b0
   try clear c2b1
   try clear c2b2
   try clear p2
   obtain ⟨x4_1, x5_1, x6_1, rfl, rfl, rfl, HA, HK1, HB⟩ := hrel
   cases gk with
   | zero => exact absurd HA.out (by simp [fascicleref05_Stuff.l0])
   | succ k1 =>
    have H := HA.out
    clear HA
    simp only [fascicleref05_Stuff.l0] at H
    by_cases c3 : x6_1 < (all_.size : Int)
    ·
     rw [if_pos c3] at H
     have c3b0 : decide (x6_1 < (all_.size : Int)) = true := decide_eq_true c3
     clear c3
     by_cases c4 : 0 ≤ x6_1
     ·
      rw [if_pos c4] at H
      have c4b0 : decide (0 ≤ x6_1) = true := decide_eq_true c4
      clear c4
      by_cases c6 : (bt all_ x6_1) = 0
      ·
       rw [if_pos c6] at H
       have c6b0 : ((bt all_ x6_1) == 0) = true := beq_iff_eq.mpr c6
       have c6b1 : ((bt all_ x6_1) != 0) = false := bne_eq_false_iff_eq.mpr c6
       clear c6
       have HC7 := Aside0.mk H
       clear H
       have p5 : 0 ≤ (x6_1 : Int) := of_decide_eq_true (by first | (with_reducible assumption) | assumption)
       have q5 : x6_1 < (all_.size : Int) := of_decide_eq_true (by first | (with_reducible assumption) | assumption)
       have hx5 := bt_at all_ x6_1
       replace p5 := eq_true p5
       replace q5 := eq_true q5
       go_upto_region 8 with (fail)
       go_cut [38] (fun v38 wc => ∃ (kq : Nat) (x38_6 : Bool), v38 = .bool x38_6 ∧ Aside0 (fascicleref05_Stuff.j1 kq all_ x4_1 x5_1 x6_1 x38_6 = some r) ∧ Aside0 (kq ≤ k1) ∧ Aside0 (Below w.heap.size w wc))
       case first =>
        have H := HC7.out
        clear HC7
        by_cases c8 : x6_1 = (wrap64 ((all_.size : Int) - 1))
        ·
         rw [if_pos c8] at H
         have c8b0 : (x6_1 == (wrap64 ((all_.size : Int) - 1))) = true := beq_iff_eq.mpr c8
         have c8b1 : (x6_1 != (wrap64 ((all_.size : Int) - 1))) = false := bne_eq_false_iff_eq.mpr c8
         clear c8
         (first | rw [c8b0] | (simp only [i64_w, i32_w]; rw [c8b0]) | skip)
         by_cases c9 : x5_1.toList = ([] : List UInt8)
         ·
          rw [if_pos c9] at H
          have c9b0 : (x5_1.toList == ([] : List UInt8)) = true := beq_iff_eq.mpr c9
          have c9b1 : (x5_1.toList != ([] : List UInt8)) = false := bne_eq_false_iff_eq.mpr c9
          clear c9
          by_cases c10 : x6_1 > 0
          ·
           rw [if_pos c10] at H
           have c10b0 : decide (0 < x6_1) = true := decide_eq_true c10
           clear c10
           obtain ⟨ji11, hji11⟩ : ∃ j_ : Int, (wrap64 (x6_1 - 1)) = j_ := ⟨_, rfl⟩
           replace H : (if 0 ≤ (ji11) then (if (ji11) < (all_.size : Int) then (fascicleref05_Stuff.j1 k1 all_ x4_1 x5_1 x6_1 ((bt all_ (ji11)) != 0)) else (none)) else (none)) = some r := by first | (rw [hji11] at H; exact H) | (simp only [hji11] at H ⊢; exact H)
           have hji11w : (IntKind.i64.wrap (x6_1 - 1)) = ji11 := (i64_w _).trans hji11
           by_cases c12 : 0 ≤ (ji11)
           ·
            rw [if_pos c12] at H
            have c12b0 : decide (0 ≤ (ji11)) = true := decide_eq_true c12
            clear c12
            by_cases c13 : (ji11) < (all_.size : Int)
            ·
             rw [if_pos c13] at H
             have c13b0 : decide ((ji11) < (all_.size : Int)) = true := decide_eq_true c13
             clear c13
             have H' := Aside0.mk H
             clear H
             have p14 : 0 ≤ ((ji11) : Int) := of_decide_eq_true (by first | (with_reducible assumption) | assumption)
             have q14 : (ji11) < (all_.size : Int) := of_decide_eq_true (by first | (with_reducible assumption) | assumption)
             have hx14 := bt_at all_ (ji11)
             replace p14 := eq_true p14
             replace q14 := eq_true q14
             go_wp2
             go_meet
             case rel => exact ⟨_, (((bt all_ (ji11)) != 0)), (by first | rfl | (simp; done) | (simp only [← hji11] <;> (first | rfl | simp)) | (simp [*]; done)), H', ⟨by have := HK1.out; first | omega | exact Nat.le_refl _⟩, ⟨by repeat (first | (with_reducible first | exact HB.out | apply below_alloc | apply pw_below_drewN | apply below_drew1) | exact HB.out)⟩⟩
            ·
             rw [if_neg c13] at H
             exact absurd H (by simp)
           ·
            rw [if_neg c12] at H
            exact absurd H (by simp)
          ·
           rw [if_neg c10] at H
           have c10b0 : decide (0 < x6_1) = false := decide_eq_false c10
           clear c10
           have H' := Aside0.mk H
           clear H
           go_wp2
           go_meet
           case rel => exact ⟨_, (false), (by first | rfl | (simp; done) | (simp [*]; done) | (simp; exact (fun l : List UInt8 => (by cases l <;> rfl : l.isEmpty = !(l != ([] : List UInt8)))) _)), H', ⟨by have := HK1.out; first | omega | exact Nat.le_refl _⟩, ⟨by repeat (first | (with_reducible first | exact HB.out | apply below_alloc | apply pw_below_drewN | apply below_drew1) | exact HB.out)⟩⟩
         ·
          rw [if_neg c9] at H
          have c9b0 : (x5_1.toList == ([] : List UInt8)) = false := beq_eq_false_iff_ne.mpr c9
          have c9b1 : (x5_1.toList != ([] : List UInt8)) = true := bne_iff_ne.mpr c9
          have H' := Aside0.mk H
          clear H
          go_wp2
          go_meet
          case rel => exact ⟨_, (false), (by first | rfl | (simp; done) | (simp [*]; done) | (simp; exact (fun l : List UInt8 => (by cases l <;> rfl : l.isEmpty = !(l != ([] : List UInt8)))) _)), H', ⟨by have := HK1.out; first | omega | exact Nat.le_refl _⟩, ⟨by repeat (first | (with_reducible first | exact HB.out | apply below_alloc | apply pw_below_drewN | apply below_drew1) | exact HB.out)⟩⟩
        ·
         rw [if_neg c8] at H
         have c8b0 : (x6_1 == (wrap64 ((all_.size : Int) - 1))) = false := beq_eq_false_iff_ne.mpr c8
         have c8b1 : (x6_1 != (wrap64 ((all_.size : Int) - 1))) = true := bne_iff_ne.mpr c8
         (first | rw [c8b0] | (simp only [i64_w, i32_w]; rw [c8b0]) | skip)
         have H' := Aside0.mk H
         clear H
         go_wp2
         go_meet
         case rel => exact ⟨_, (false), (by first | rfl | (simp; done) | (simp [*]; done) | (simp; exact (fun l : List UInt8 => (by cases l <;> rfl : l.isEmpty = !(l != ([] : List UInt8)))) _)), H', ⟨by have := HK1.out; first | omega | exact Nat.le_refl _⟩, ⟨by repeat (first | (with_reducible first | exact HB.out | apply below_alloc | apply pw_below_drewN | apply below_drew1) | exact HB.out)⟩⟩
       case rest =>
        clear HC7
        try clear c1
        try clear p1
        try clear q1
        try clear hx1
        try clear c2
        try clear c2b0
        try clear c2b1
        try clear c2b2
        try clear p2
        try clear c3
        try clear c3b0
        try clear c4
        try clear c4b0
        try clear p5
        try clear q5
        try clear hx5
        try clear c6
        try clear c6b0
        try clear c6b1
        try clear p6
        try clear c8
        try clear c8b0
        try clear c8b1
        try clear c9
        try clear c9b0
        try clear c9b1
        try clear c10
        try clear c10b0
        try clear c12
        try clear c12b0
        try clear c13
        try clear c13b0
        try clear p14
        try clear q14
        try clear hx14
        try clear p14
        try clear p2
        try clear p5
        try clear q14
        try clear q5
        obtain ⟨kq, x38_6, rfl, HA, HJ6, HB⟩ := hcut
        cases kq with
        | zero => exact absurd HA.out (by simp [fascicleref05_Stuff.j1])
        | succ kj6 =>
         have H := HA.out
         clear HA
         simp only [fascicleref05_Stuff.j1] at H
         by_cases c15 : x38_6 = true
         ·
          subst c15
          have H1 : (some x4_1) = some r := by rw [if_pos rfl] at H; exact H
          clear H
          have H := H1
          clear H1
          obtain rfl := Option.some.inj H
          go_wp2
          go_ret
          exact ⟨by first | rfl | (simp <;> rfl) | (simp [*] <;> rfl), by repeat (first | (with_reducible first | exact HB.out | apply below_alloc | apply pw_below_drewN | apply below_drew1) | exact HB.out)⟩
         ·
          replace c15 := Bool.eq_false_iff.mpr c15
          subst c15
          have H1 : ((some (([(wrap64 ((x5_1.size : Int) + 1)) % 256] : List Int) : List Int)).bind fun y195 => (if x4_1.size + (strOfNums y195).size ≤ 9223372036854775807 then (if (x4_1 ++ (strOfNums y195)).size + x5_1.size ≤ 9223372036854775807 then (fascicleref05_Stuff.l0 kj6 all_ ((x4_1 ++ (strOfNums y195)) ++ x5_1) (⟨#[]⟩ : ByteArray) (wrap64 (x6_1 + 1))) else (none)) else (none))) = some r := by rw [if_neg (show ¬ (false = true) by decide)] at H; exact H
          clear H
          have H := H1
          clear H1
          obtain ⟨y195, hy195⟩ : ∃ y_ : List Int, y_ = (([(wrap64 ((x5_1.size : Int) + 1)) % 256] : List Int)) := ⟨_, rfl⟩
          replace H : (if x4_1.size + (strOfNums y195).size ≤ 9223372036854775807 then (if (x4_1 ++ (strOfNums y195)).size + x5_1.size ≤ 9223372036854775807 then (fascicleref05_Stuff.l0 kj6 all_ ((x4_1 ++ (strOfNums y195)) ++ x5_1) (⟨#[]⟩ : ByteArray) (wrap64 (x6_1 + 1))) else (none)) else (none)) = some r := by first | (rw [hy195]; with_reducible exact H) | (have H2_ := (Option.bind_some _ _).symm.trans H; rw [hy195]; with_reducible exact H2_) | (have H2_ := (Option.bind_some _ _).symm.trans H; with_reducible exact H2_) | with_reducible exact H | (rw [hy195]; exact H) | exact H
          have Ny195 := Aside0.mk hy195
          clear hy195
          by_cases c16 : x4_1.size + (strOfNums y195).size ≤ 9223372036854775807
          ·
           rw [if_pos c16] at H
           have c16b0 := eq_true c16
           have c16b1 : decide (x4_1.size + (strOfNums y195).size ≤ 9223372036854775807) = true := decide_eq_true c16
           try have c16b2 : (9223372036854775807 < x4_1.size + (strOfNums y195).size) = False := eq_false (Nat.not_lt.2 c16)
           try (have c16b4 := Nat.not_lt.2 c16; simp [ByteArray.size_append, -Nat.not_lt] at c16b4; (try simp only [show ∀ x : UInt8, (⟨#[x]⟩ : ByteArray).size = 1 from fun _ => rfl, show ∀ x y : UInt8, (⟨#[x, y]⟩ : ByteArray).size = 2 from fun _ _ => rfl] at c16b4); have c16b5 := eq_false c16b4)
           obtain ⟨ys1, hys1⟩ : ∃ y_ : ByteArray, (x4_1 ++ (strOfNums y195)) = y_ := ⟨_, rfl⟩
           (try simp only [hys1] at H)
           by_cases c17 : ys1.size + x5_1.size ≤ 9223372036854775807
           ·
            rw [if_pos c17] at H
            have c17b0 := eq_true c17
            have c17b1 : decide (ys1.size + x5_1.size ≤ 9223372036854775807) = true := decide_eq_true c17
            try have c17b2 : (9223372036854775807 < ys1.size + x5_1.size) = False := eq_false (Nat.not_lt.2 c17)
            try (have c17b4 := Nat.not_lt.2 c17; simp [ByteArray.size_append, -Nat.not_lt] at c17b4; (try simp only [show ∀ x : UInt8, (⟨#[x]⟩ : ByteArray).size = 1 from fun _ => rfl, show ∀ x y : UInt8, (⟨#[x, y]⟩ : ByteArray).size = 2 from fun _ _ => rfl] at c17b4); have c17b5 := eq_false c17b4)
            have H' := Aside0.mk H
            clear H
            go_wp2_with (first | ((with_reducible refine gate_dst (N := 44) rfl ?_); refine Kd.R_lit (Kd.int .u8) _ 5 ?hg (N := 44) ?hd (xs := ([(wrap64 ((x5_1.size : Int) + 1)) % 256] : List Int)) (inner := [.int .u8 ((wrap64 ((x5_1.size : Int) + 1)) % 256)]) (ok := fun _ => True) (okp := fun _ => True) ?hr ?hp (fun _ hk => hk) trivial (Below.refl _ _) (Nat.le_refl _) (by simp) ?_; (case hd => rfl); (case hg => rfl); (case hr => first | (go_simp; done) | (go_simp; rfl)); (case hp => exact (Reps.one (show Kd.M (Kd.int .u8) _ _ _ ((wrap64 ((x5_1.size : Int) + 1)) % 256) [.int .u8 ((wrap64 ((x5_1.size : Int) + 1)) % 256)] from rfl) (Reps.none _ _))); intro v196 w18 ho19 hb hg_ hnew_; clear hg_ hnew_; (first | rw [← Ny195.out] at ho19 | (simp only [Int.reduceToNat] at ho19; rw [← Ny195.out] at ho19)); have HO197 := Aside0.mk (Kd.R_lower ho19 (below_size (by repeat with_reducible first | exact HB.out | apply below_alloc | apply pw_below_drewN | apply below_drew1))); replace HB := Aside0.mk (below_step (by repeat with_reducible first | exact HB.out | apply below_alloc | apply pw_below_drewN | apply below_drew1) hb); clear hb ho19; have hcv20 := own_string (P := Try.prog) Try.underlying39 Try.underlying5 Try.underlying9 (Kd.own_of_R HO197.out)))
            subst hys1
            go_roundg kj6
            case measure => have := HK1.out; have := HJ6.out; omega
            case rel => exact ⟨((x4_1 ++ (strOfNums y195)) ++ x5_1), ((⟨#[]⟩ : ByteArray)), (wrap64 (x6_1 + 1)), (by first | rfl | (simp; done) | (simp [*]; done) | (simp; exact (fun l : List UInt8 => (by cases l <;> rfl : l.isEmpty = !(l != ([] : List UInt8)))) _)), (by first | rfl | (simp; done) | (simp [*]; done) | (simp; exact (fun l : List UInt8 => (by cases l <;> rfl : l.isEmpty = !(l != ([] : List UInt8)))) _)), (by first | rfl | (simp; done) | (simp [*]; done) | (simp; exact (fun l : List UInt8 => (by cases l <;> rfl : l.isEmpty = !(l != ([] : List UInt8)))) _)), H', ⟨by have := HK1.out; have := HJ6.out; omega⟩, ⟨by repeat (first | (with_reducible first | exact HB.out | apply below_alloc | apply pw_below_drewN | apply below_drew1) | exact HB.out)⟩⟩
           ·
            rw [if_neg c17] at H
            exact absurd H (by simp)
          ·
           rw [if_neg c16] at H
           exact absurd H (by simp)
      ·
       rw [if_neg c6] at H
       have c6b0 : ((bt all_ x6_1) == 0) = false := beq_eq_false_iff_ne.mpr c6
       have c6b1 : ((bt all_ x6_1) != 0) = true := bne_iff_ne.mpr c6
       have c21b0 := eq_true (of_decide_eq_true (by first | (with_reducible assumption) | assumption) : 0 ≤ x6_1)
       by_cases c22 : x6_1 ≤ (wrap64 (x6_1 + 1))
       ·
        rw [if_pos c22] at H
        have c22b0 := eq_true c22
        have c22b1 : decide (x6_1 ≤ (wrap64 (x6_1 + 1))) = true := decide_eq_true c22
        by_cases c23 : (wrap64 (x6_1 + 1)) ≤ (all_.size : Int)
        ·
         rw [if_pos c23] at H
         have c23b0 := eq_true c23
         have c23b1 : decide ((wrap64 (x6_1 + 1)) ≤ (all_.size : Int)) = true := decide_eq_true c23
         obtain ⟨ys2, hys2⟩ : ∃ y_ : ByteArray, (all_.extract (x6_1 : Int).toNat ((wrap64 (x6_1 + 1)) : Int).toNat) = y_ := ⟨_, rfl⟩
         (try simp only [hys2] at H)
         by_cases c24 : x5_1.size + ys2.size ≤ 9223372036854775807
         ·
          rw [if_pos c24] at H
          have c24b0 := eq_true c24
          have c24b1 : decide (x5_1.size + ys2.size ≤ 9223372036854775807) = true := decide_eq_true c24
          try have c24b2 : (9223372036854775807 < x5_1.size + ys2.size) = False := eq_false (Nat.not_lt.2 c24)
          try (have c24b4 := Nat.not_lt.2 c24; simp [ByteArray.size_append, -Nat.not_lt] at c24b4; (try simp only [show ∀ x : UInt8, (⟨#[x]⟩ : ByteArray).size = 1 from fun _ => rfl, show ∀ x y : UInt8, (⟨#[x, y]⟩ : ByteArray).size = 2 from fun _ _ => rfl] at c24b4); have c24b5 := eq_false c24b4)
          obtain ⟨ys3, hys3⟩ : ∃ y_ : ByteArray, (x5_1 ++ ys2) = y_ := ⟨_, rfl⟩
          (try simp only [hys3] at H)
          by_cases c25 : (ys3.size : Int) = 254
          ·
           rw [if_pos c25] at H
           have c25b0 : ((ys3.size : Int) == 254) = true := beq_iff_eq.mpr c25
           have c25b1 : ((ys3.size : Int) != 254) = false := bne_eq_false_iff_eq.mpr c25
           clear c25
           by_cases c26 : x4_1.size + 1 ≤ 9223372036854775807
           ·
            rw [if_pos c26] at H
            have c26b0 := eq_true c26
            have c26b1 : decide (x4_1.size + 1 ≤ 9223372036854775807) = true := decide_eq_true c26
            try have c26b2 : (9223372036854775807 < x4_1.size + 1) = False := eq_false (Nat.not_lt.2 c26)
            try (have c26b4 := Nat.not_lt.2 c26; simp [ByteArray.size_append, -Nat.not_lt] at c26b4; (try simp only [show ∀ x : UInt8, (⟨#[x]⟩ : ByteArray).size = 1 from fun _ => rfl, show ∀ x y : UInt8, (⟨#[x, y]⟩ : ByteArray).size = 2 from fun _ _ => rfl] at c26b4); have c26b5 := eq_false c26b4)
            obtain ⟨ys4, hys4⟩ : ∃ y_ : ByteArray, (x4_1 ++ (⟨#[255]⟩ : ByteArray)) = y_ := ⟨_, rfl⟩
            (try simp only [hys4] at H)
            by_cases c27 : ys4.size + ys3.size ≤ 9223372036854775807
            ·
             rw [if_pos c27] at H
             have c27b0 := eq_true c27
             have c27b1 : decide (ys4.size + ys3.size ≤ 9223372036854775807) = true := decide_eq_true c27
             try have c27b2 : (9223372036854775807 < ys4.size + ys3.size) = False := eq_false (Nat.not_lt.2 c27)
             try (have c27b4 := Nat.not_lt.2 c27; simp [ByteArray.size_append, -Nat.not_lt] at c27b4; (try simp only [show ∀ x : UInt8, (⟨#[x]⟩ : ByteArray).size = 1 from fun _ => rfl, show ∀ x y : UInt8, (⟨#[x, y]⟩ : ByteArray).size = 2 from fun _ _ => rfl] at c27b4); have c27b5 := eq_false c27b4)
             have H' := Aside0.mk H
             clear H
             have p5 : 0 ≤ (x6_1 : Int) := of_decide_eq_true (by first | (with_reducible assumption) | assumption)
             have q5 : x6_1 < (all_.size : Int) := of_decide_eq_true (by first | (with_reducible assumption) | assumption)
             have hx5 := bt_at all_ x6_1
             replace p5 := eq_true p5
             replace q5 := eq_true q5
             go_wp2
             subst hys4
             subst hys3
             subst hys2
             go_roundg k1
             case measure => have := HK1.out; omega
             case rel => exact ⟨((x4_1 ++ (⟨#[255]⟩ : ByteArray)) ++ (x5_1 ++ (all_.extract (x6_1 : Int).toNat ((wrap64 (x6_1 + 1)) : Int).toNat))), ((⟨#[]⟩ : ByteArray)), (wrap64 (x6_1 + 1)), (by first | rfl | (simp; done) | (simp [*]; done) | (simp; exact (fun l : List UInt8 => (by cases l <;> rfl : l.isEmpty = !(l != ([] : List UInt8)))) _)), (by first | rfl | (simp; done) | (simp [*]; done) | (simp; exact (fun l : List UInt8 => (by cases l <;> rfl : l.isEmpty = !(l != ([] : List UInt8)))) _)), (by first | rfl | (simp; done) | (simp [*]; done) | (simp; exact (fun l : List UInt8 => (by cases l <;> rfl : l.isEmpty = !(l != ([] : List UInt8)))) _)), H', ⟨by have := HK1.out; omega⟩, ⟨by repeat (first | (with_reducible first | exact HB.out | apply below_alloc | apply pw_below_drewN | apply below_drew1) | exact HB.out)⟩⟩
            ·
             rw [if_neg c27] at H
             exact absurd H (by simp)
           ·
            rw [if_neg c26] at H
            exact absurd H (by simp)
          ·
           rw [if_neg c25] at H
           have c25b0 : ((ys3.size : Int) == 254) = false := beq_eq_false_iff_ne.mpr c25
           have c25b1 : ((ys3.size : Int) != 254) = true := bne_iff_ne.mpr c25
           have H' := Aside0.mk H
           clear H
           have p5 : 0 ≤ (x6_1 : Int) := of_decide_eq_true (by first | (with_reducible assumption) | assumption)
           have q5 : x6_1 < (all_.size : Int) := of_decide_eq_true (by first | (with_reducible assumption) | assumption)
           have hx5 := bt_at all_ x6_1
           replace p5 := eq_true p5
           replace q5 := eq_true q5
           go_wp2
           subst hys3
           subst hys2
           go_roundg k1
           case measure => have := HK1.out; omega
           case rel => exact ⟨(x4_1), (x5_1 ++ (all_.extract (x6_1 : Int).toNat ((wrap64 (x6_1 + 1)) : Int).toNat)), (wrap64 (x6_1 + 1)), (by first | rfl | (simp; done) | (simp [*]; done) | (simp; exact (fun l : List UInt8 => (by cases l <;> rfl : l.isEmpty = !(l != ([] : List UInt8)))) _)), (by first | rfl | (simp; done) | (simp [*]; done) | (simp; exact (fun l : List UInt8 => (by cases l <;> rfl : l.isEmpty = !(l != ([] : List UInt8)))) _)), (by first | rfl | (simp; done) | (simp [*]; done) | (simp; exact (fun l : List UInt8 => (by cases l <;> rfl : l.isEmpty = !(l != ([] : List UInt8)))) _)), H', ⟨by have := HK1.out; omega⟩, ⟨by repeat (first | (with_reducible first | exact HB.out | apply below_alloc | apply pw_below_drewN | apply below_drew1) | exact HB.out)⟩⟩
         ·
          rw [if_neg c24] at H
          exact absurd H (by simp)
        ·
         rw [if_neg c23] at H
         exact absurd H (by simp)
       ·
        rw [if_neg c22] at H
        exact absurd H (by simp)
     ·
      rw [if_neg c4] at H
      exact absurd H (by simp)
    ·
     rw [if_neg c3] at H
     have c3b0 : decide (x6_1 < (all_.size : Int)) = false := decide_eq_false c3
     clear c3
     obtain rfl := Option.some.inj H
     go_wp2
     go_ret
     exact ⟨by first | rfl | (simp <;> rfl) | (simp [*] <;> rfl), by repeat (first | (with_reducible first | exact HB.out | apply below_alloc | apply pw_below_drewN | apply below_drew1) | exact HB.out)⟩
 ·
  rw [if_neg c2] at H
  exact absurd H (by simp)
end Go.Proofs.Ytekanmieppnpeaa.G
end
section
namespace Go.Proofs.Ytekanmieppnpeaa.G
open Go.RowKit Go.Proofs.YtekanmieppnpeaaW.PrintWords Go.Proofs.YtekanmieppnpeaaW.PrintLast Go.Proofs.YtekanmieppnpeaaW.PrintMore
attribute [local go_sem] max2_int min2_int max_two min_two max_three min_three max_four min_four   -- for this text's walks alone
mutual
def fascicleref05_Unstuff.l0 : Nat → ByteArray → Int → Option (ByteArray × Int)
 | 0, _, _ => none
 | k + 1, x0, x4 => if x4 < (x0.size : Int) then (if 0 ≤ x4 then (if (bt x0 x4) = 0 then (some ((⟨#[]⟩ : ByteArray), 4)) else (fascicleref05_Unstuff.l0 k x0 (wrap64 (x4 + 1)))) else (none)) else (if x0.toList = ([] : List UInt8) then (some ((⟨#[]⟩ : ByteArray), 2)) else (fascicleref05_Unstuff.l1 k x0 (⟨#[]⟩ : ByteArray) x0))
def fascicleref05_Unstuff.l1 : Nat → ByteArray → ByteArray → ByteArray → Option (ByteArray × Int)
 | 0, _, _, _ => none
 | k + 1, x0, x5, x6 => if x6.toList = ([] : List UInt8) then ((fascicleref05_Stuff.f k x5).bind fun t198 => (if t198.toList = x0.toList then (some (x5, 0)) else (some ((⟨#[]⟩ : ByteArray), 4)))) else (if 0 < (x6.size : Int) then (if (wrap64 (bt x6 0)) > (x6.size : Int) then (some ((⟨#[]⟩ : ByteArray), 2)) else (if 1 ≤ (wrap64 (bt x6 0)) then (if (wrap64 (bt x6 0)) ≤ (x6.size : Int) then (if x5.size + (x6.extract 1 ((wrap64 (bt x6 0)) : Int).toNat).size ≤ 9223372036854775807 then (if 0 ≤ (wrap64 (bt x6 0)) then (if (wrap64 (bt x6 0)) < 255 then (if (x6.extract ((wrap64 (bt x6 0)) : Int).toNat x6.size).toList = ([] : List UInt8) then (fascicleref05_Unstuff.l1 k x0 (x5 ++ (x6.extract 1 ((wrap64 (bt x6 0)) : Int).toNat)) (x6.extract ((wrap64 (bt x6 0)) : Int).toNat x6.size)) else (if (x5 ++ (x6.extract 1 ((wrap64 (bt x6 0)) : Int).toNat)).size + 1 ≤ 9223372036854775807 then (fascicleref05_Unstuff.l1 k x0 ((x5 ++ (x6.extract 1 ((wrap64 (bt x6 0)) : Int).toNat)) ++ (⟨#[0]⟩ : ByteArray)) (x6.extract ((wrap64 (bt x6 0)) : Int).toNat x6.size)) else (none))) else (fascicleref05_Unstuff.l1 k x0 (x5 ++ (x6.extract 1 ((wrap64 (bt x6 0)) : Int).toNat)) (x6.extract ((wrap64 (bt x6 0)) : Int).toNat x6.size))) else (none)) else (none)) else (none)) else (none))) else (none))
end
def fascicleref05_Unstuff.f (k : Nat) (a0 : ByteArray) : Option (ByteArray × Int) := fascicleref05_Unstuff.l0 k a0 0
theorem fascicleref05_Unstuff.mono_l : ∀ k, (∀ y0 y1, LeO (fascicleref05_Unstuff.l0 k y0 y1) (fascicleref05_Unstuff.l0 (k + 1) y0 y1)) ∧ (∀ y0 y1 y2, LeO (fascicleref05_Unstuff.l1 k y0 y1 y2) (fascicleref05_Unstuff.l1 (k + 1) y0 y1 y2))
 | 0 => ⟨fun _ _ r h => by simp [fascicleref05_Unstuff.l0] at h, fun _ _ _ r h => by simp [fascicleref05_Unstuff.l1] at h⟩
 | k + 1 => by
  obtain ⟨ih0, ih1⟩ := fascicleref05_Unstuff.mono_l k
  refine ⟨?_, ?_⟩
  ·
   intro y0 y1
   unfold fascicleref05_Unstuff.l0
   repeat' first
   | (with_reducible exact ih0 _ _)
   | (with_reducible exact ih1 _ _ _)
   | (with_reducible exact fascicleref05_Stuff.mono _ _)
   | (with_reducible exact LeO.refl _)
   | (with_reducible exact LeO.none _)
   | (with_reducible refine LeO.ite ?_ ?_)
   | (with_reducible refine LeO.bind ?_ (fun _ => ?_))
   | exact ih0 _ _
   | exact ih1 _ _ _
   | exact fascicleref05_Stuff.mono _ _
   | exact LeO.none _
   | refine LeO.ite ?_ ?_
   | refine LeO.bind ?_ (fun _ => ?_)
  ·
   intro y0 y1 y2
   unfold fascicleref05_Unstuff.l1
   repeat' first
   | (with_reducible exact ih0 _ _)
   | (with_reducible exact ih1 _ _ _)
   | (with_reducible exact fascicleref05_Stuff.mono _ _)
   | (with_reducible exact LeO.refl _)
   | (with_reducible exact LeO.none _)
   | (with_reducible refine LeO.ite ?_ ?_)
   | (with_reducible refine LeO.bind ?_ (fun _ => ?_))
   | exact ih0 _ _
   | exact ih1 _ _ _
   | exact fascicleref05_Stuff.mono _ _
   | exact LeO.none _
   | refine LeO.ite ?_ ?_
   | refine LeO.bind ?_ (fun _ => ?_)
theorem fascicleref05_Unstuff.mono : ∀ a0 k, LeO (fascicleref05_Unstuff.f k a0) (fascicleref05_Unstuff.f (k + 1) a0) := by
 intro a0 k
 obtain ⟨ih0, ih1⟩ := fascicleref05_Unstuff.mono_l k
 unfold fascicleref05_Unstuff.f
 repeat' first
   | (with_reducible exact ih0 _ _)
   | (with_reducible exact ih1 _ _ _)
   | (with_reducible exact fascicleref05_Stuff.mono _ _)
   | (with_reducible exact LeO.refl _)
   | (with_reducible exact LeO.none _)
   | (with_reducible refine LeO.ite ?_ ?_)
   | (with_reducible refine LeO.bind ?_ (fun _ => ?_))
   | exact ih0 _ _
   | exact ih1 _ _ _
   | exact fascicleref05_Stuff.mono _ _
   | exact LeO.none _
   | refine LeO.ite ?_ ?_
   | refine LeO.bind ?_ (fun _ => ?_)
theorem fascicleref05_Unstuff.calls (k : Nat) (a0 : ByteArray) (r1 : ByteArray) (r2 : Int) (w : World) (h : fascicleref05_Unstuff.f k a0 = some (r1, r2)) :
  Calls Try.prog 55 #[.string a0] w fun e w' => e = .returned (.tuple #[.string r1, .int .i64 r2]) ∧ Below w.heap.size w w' := by
 have HB := Aside0.mk (Below.refl w.heap.size w)
 have H : (fascicleref05_Unstuff.l0 k a0 0) = some (r1, r2) := h
 clear h
 have H' := Aside0.mk H
 clear H
 go_enter Try.func55, Try.ntmps55
 go_wp2
 go_loopg [4] k (fun kq v4 w' => ∃ (x4_1 : Int), v4 = .int .i64 x4_1 ∧ Aside0 (fascicleref05_Unstuff.l0 kq a0 x4_1 = some (r1, r2)) ∧ Aside0 (kq ≤ k) ∧ Aside0 (Below w.heap.size w w'))
 case atStart => exact ⟨(0), (by first | rfl | (simp; done) | (simp [*]; done) | (simp; exact (fun l : List UInt8 => (by cases l <;> rfl : l.isEmpty = !(l != ([] : List UInt8)))) _)), H', ⟨Nat.le_refl _⟩, ⟨by repeat (first | (with_reducible first | exact HB.out | apply below_alloc | apply pw_below_drewN | apply below_drew1) | exact HB.out)⟩⟩
 case round =>
  clear H'
  obtain ⟨x4_1, rfl, HA, HK1, HB⟩ := hrel
  cases gk with
  | zero => exact absurd HA.out (by simp [fascicleref05_Unstuff.l0])
  | succ k1 =>
   have H := HA.out
   clear HA
   simp only [fascicleref05_Unstuff.l0] at H
   by_cases c2 : x4_1 < (a0.size : Int)
   ·
    rw [if_pos c2] at H
    have c2b0 : decide (x4_1 < (a0.size : Int)) = true := decide_eq_true c2
    clear c2
    by_cases c3 : 0 ≤ x4_1
    ·
     rw [if_pos c3] at H
     have c3b0 : decide (0 ≤ x4_1) = true := decide_eq_true c3
     clear c3
     by_cases c5 : (bt a0 x4_1) = 0
     ·
      rw [if_pos c5] at H
      have c5b0 : ((bt a0 x4_1) == 0) = true := beq_iff_eq.mpr c5
      have c5b1 : ((bt a0 x4_1) != 0) = false := bne_eq_false_iff_eq.mpr c5
      clear c5
      simp only [Option.some.injEq, Prod.mk.injEq] at H
      obtain ⟨rfl, rfl⟩ := H
      have p4 : 0 ≤ (x4_1 : Int) := of_decide_eq_true (by first | (with_reducible assumption) | assumption)
      have q4 : x4_1 < (a0.size : Int) := of_decide_eq_true (by first | (with_reducible assumption) | assumption)
      have hx4 := bt_at a0 x4_1
      replace p4 := eq_true p4
      replace q4 := eq_true q4
      go_wp2
      go_ret2
      exact ⟨by first | rfl | (simp <;> rfl) | (simp [*] <;> rfl), by repeat (first | (with_reducible first | exact HB.out | apply below_alloc | apply pw_below_drewN | apply below_drew1) | exact HB.out)⟩
     ·
      rw [if_neg c5] at H
      have c5b0 : ((bt a0 x4_1) == 0) = false := beq_eq_false_iff_ne.mpr c5
      have c5b1 : ((bt a0 x4_1) != 0) = true := bne_iff_ne.mpr c5
      have H' := Aside0.mk H
      clear H
      have p4 : 0 ≤ (x4_1 : Int) := of_decide_eq_true (by first | (with_reducible assumption) | assumption)
      have q4 : x4_1 < (a0.size : Int) := of_decide_eq_true (by first | (with_reducible assumption) | assumption)
      have hx4 := bt_at a0 x4_1
      replace p4 := eq_true p4
      replace q4 := eq_true q4
      go_wp2
      go_roundg k1
      case measure => have := HK1.out; omega
      case rel => exact ⟨(wrap64 (x4_1 + 1)), (by first | rfl | (simp; done) | (simp [*]; done) | (simp; exact (fun l : List UInt8 => (by cases l <;> rfl : l.isEmpty = !(l != ([] : List UInt8)))) _)), H', ⟨by have := HK1.out; omega⟩, ⟨by repeat (first | (with_reducible first | exact HB.out | apply below_alloc | apply pw_below_drewN | apply below_drew1) | exact HB.out)⟩⟩
    ·
     rw [if_neg c3] at H
     exact absurd H (by simp)
   ·
    rw [if_neg c2] at H
    have c2b0 : decide (x4_1 < (a0.size : Int)) = false := decide_eq_false c2
    clear c2
    by_cases c6 : a0.toList = ([] : List UInt8)
    ·
     rw [if_pos c6] at H
     have c6b0 : (a0.toList == ([] : List UInt8)) = true := beq_iff_eq.mpr c6
     have c6b1 : (a0.toList != ([] : List UInt8)) = false := bne_eq_false_iff_eq.mpr c6
     clear c6
     simp only [Option.some.injEq, Prod.mk.injEq] at H
     obtain ⟨rfl, rfl⟩ := H
     go_wp2
     go_ret2
     exact ⟨by first | rfl | (simp <;> rfl) | (simp [*] <;> rfl), by repeat (first | (with_reducible first | exact HB.out | apply below_alloc | apply pw_below_drewN | apply below_drew1) | exact HB.out)⟩
    ·
     rw [if_neg c6] at H
     have c6b0 : (a0.toList == ([] : List UInt8)) = false := beq_eq_false_iff_ne.mpr c6
     have c6b1 : (a0.toList != ([] : List UInt8)) = true := bne_iff_ne.mpr c6
     have H' := Aside0.mk H
     clear H
     go_wp2
     go_loopg [5, 6] k1 (fun kq v5 v6 w' => ∃ (x5_2 : ByteArray) (x6_2 : ByteArray), v5 = .string x5_2 ∧ v6 = .string x6_2 ∧ Aside0 (fascicleref05_Unstuff.l1 kq a0 x5_2 x6_2 = some (r1, r2)) ∧ Aside0 (kq ≤ k1) ∧ Aside0 (Below w.heap.size w w'))
     case atStart => exact ⟨((⟨#[]⟩ : ByteArray)), (a0), (by first | rfl | (simp; done) | (simp [*]; done) | (simp; exact (fun l : List UInt8 => (by cases l <;> rfl : l.isEmpty = !(l != ([] : List UInt8)))) _)), (by first | rfl | (simp; done) | (simp [*]; done) | (simp; exact (fun l : List UInt8 => (by cases l <;> rfl : l.isEmpty = !(l != ([] : List UInt8)))) _)), H', ⟨Nat.le_refl _⟩, ⟨by repeat (first | (with_reducible first | exact HB.out | apply below_alloc | apply pw_below_drewN | apply below_drew1) | exact HB.out)⟩⟩
     case round =>
      clear H'
      try clear c2
      try clear c2b0
      try clear p2
      try clear c3
      try clear c3b0
      try clear p4
      try clear q4
      try clear hx4
      try clear c5
      try clear c5b0
      try clear c5b1
      try clear c6
      try clear c6b0
      try clear c6b1
      try clear p6
      try clear p4
      try clear q4
      obtain ⟨x5_2, x6_2, rfl, rfl, HA, HK2, HB⟩ := hrel
      cases gk with
      | zero => exact absurd HA.out (by simp [fascicleref05_Unstuff.l1])
      | succ k2 =>
       have H := HA.out
       clear HA
       simp only [fascicleref05_Unstuff.l1] at H
       by_cases c7 : x6_2.toList = ([] : List UInt8)
       ·
        rw [if_pos c7] at H
        have c7b0 : (x6_2.toList == ([] : List UInt8)) = true := beq_iff_eq.mpr c7
        have c7b1 : (x6_2.toList != ([] : List UInt8)) = false := bne_eq_false_iff_eq.mpr c7
        clear c7
        replace H := Option.bind_eq_some_iff.mp H
        obtain ⟨t198, A80, H⟩ := H
        replace H : (if t198.toList = a0.toList then (some (x5_2, 0)) else (some ((⟨#[]⟩ : ByteArray), 4))) = some (r1, r2) := H
        have A8 := Aside0.mk A80
        clear A80
        by_cases c9 : t198.toList = a0.toList
        ·
         rw [if_pos c9] at H
         have c9b0 : (t198.toList == a0.toList) = true := beq_iff_eq.mpr c9
         have c9b1 : (t198.toList != a0.toList) = false := bne_eq_false_iff_eq.mpr c9
         clear c9
         simp only [Option.some.injEq, Prod.mk.injEq] at H
         obtain ⟨rfl, rfl⟩ := H
         go_wp2_with (first | ((with_reducible refine gate_callee (f := 62) rfl ?_); refine goesL_ (some 47) rfl rfl Try.func62 (by kernel_rfl) rfl #[.string x5_2] rfl (by (try simp only [mA, mB, mC]); first | done | rfl) ?_; (with_reducible refine (fascicleref05_Stuff.calls k2 x5_2 t198 _ A8.out).mono ?_); rintro e w10 ⟨rfl, hb⟩; refine ⟨_, rfl, ?_⟩; replace HB := Aside0.mk (below_step (by repeat with_reducible first | exact HB.out | apply below_alloc | apply pw_below_drewN | apply below_drew1) hb); (try clear hb)))
         go_ret2
         exact ⟨by first | rfl | (simp <;> rfl) | (simp [*] <;> rfl), by repeat (first | (with_reducible first | exact HB.out | apply below_alloc | apply pw_below_drewN | apply below_drew1) | exact HB.out)⟩
        ·
         rw [if_neg c9] at H
         have c9b0 : (t198.toList == a0.toList) = false := beq_eq_false_iff_ne.mpr c9
         have c9b1 : (t198.toList != a0.toList) = true := bne_iff_ne.mpr c9
         simp only [Option.some.injEq, Prod.mk.injEq] at H
         obtain ⟨rfl, rfl⟩ := H
         go_wp2_with (first | ((with_reducible refine gate_callee (f := 62) rfl ?_); refine goesL_ (some 47) rfl rfl Try.func62 (by kernel_rfl) rfl #[.string x5_2] rfl (by (try simp only [mA, mB, mC]); first | done | rfl) ?_; (with_reducible refine (fascicleref05_Stuff.calls k2 x5_2 t198 _ A8.out).mono ?_); rintro e w11 ⟨rfl, hb⟩; refine ⟨_, rfl, ?_⟩; replace HB := Aside0.mk (below_step (by repeat with_reducible first | exact HB.out | apply below_alloc | apply pw_below_drewN | apply below_drew1) hb); (try clear hb)))
         go_ret2
         exact ⟨by first | rfl | (simp <;> rfl) | (simp [*] <;> rfl), by repeat (first | (with_reducible first | exact HB.out | apply below_alloc | apply pw_below_drewN | apply below_drew1) | exact HB.out)⟩
       ·
        rw [if_neg c7] at H
        have c7b0 : (x6_2.toList == ([] : List UInt8)) = false := beq_eq_false_iff_ne.mpr c7
        have c7b1 : (x6_2.toList != ([] : List UInt8)) = true := bne_iff_ne.mpr c7
        by_cases c12 : 0 < (x6_2.size : Int)
        ·
         rw [if_pos c12] at H
         have c12b0 : decide (0 < (x6_2.size : Int)) = true := decide_eq_true c12
         have c12b1 : decide (0 < x6_2.size) = true := decide_eq_true (by omega)
         clear c12
         by_cases c14 : (wrap64 (bt x6_2 0)) > (x6_2.size : Int)
         ·
          rw [if_pos c14] at H
          have c14b0 : decide ((x6_2.size : Int) < (wrap64 (bt x6_2 0))) = true := decide_eq_true c14
          clear c14
          simp only [Option.some.injEq, Prod.mk.injEq] at H
          obtain ⟨rfl, rfl⟩ := H
          have p13 : 0 ≤ (0 : Int) := (by omega)
          have q13 : 0 < x6_2.size := (by have : (0 : Int) < (x6_2.size : Int) := of_decide_eq_true (by first | (with_reducible assumption) | assumption); omega)
          have hx13 : ∀ h : 0 < x6_2.size, ((x6_2[0]'h).toNat : Int) = bt x6_2 0 := bt_at x6_2 0
          clear p13
          have qi13 : (0 < (x6_2.size : Int)) = True := eq_true (of_decide_eq_true (by first | (with_reducible assumption) | assumption))
          replace q13 := eq_true q13
          go_wp2
          go_ret2
          exact ⟨by first | rfl | (simp <;> rfl) | (simp [*] <;> rfl), by repeat (first | (with_reducible first | exact HB.out | apply below_alloc | apply pw_below_drewN | apply below_drew1) | exact HB.out)⟩
         ·
          rw [if_neg c14] at H
          have c14b0 : decide ((x6_2.size : Int) < (wrap64 (bt x6_2 0))) = false := decide_eq_false c14
          clear c14
          by_cases c15 : 1 ≤ (wrap64 (bt x6_2 0))
          ·
           rw [if_pos c15] at H
           have c15b0 := eq_true c15
           have c15b1 : decide (1 ≤ (wrap64 (bt x6_2 0))) = true := decide_eq_true c15
           clear c15
           by_cases c16 : (wrap64 (bt x6_2 0)) ≤ (x6_2.size : Int)
           ·
            rw [if_pos c16] at H
            have c16b0 := eq_true c16
            have c16b1 : decide ((wrap64 (bt x6_2 0)) ≤ (x6_2.size : Int)) = true := decide_eq_true c16
            clear c16
            by_cases c17 : x5_2.size + (x6_2.extract 1 ((wrap64 (bt x6_2 0)) : Int).toNat).size ≤ 9223372036854775807
            ·
             rw [if_pos c17] at H
             have c17b0 := eq_true c17
             have c17b1 : decide (x5_2.size + (x6_2.extract 1 ((wrap64 (bt x6_2 0)) : Int).toNat).size ≤ 9223372036854775807) = true := decide_eq_true c17
             try have c17b2 : (9223372036854775807 < x5_2.size + (x6_2.extract 1 ((wrap64 (bt x6_2 0)) : Int).toNat).size) = False := eq_false (Nat.not_lt.2 c17)
             try (have c17b4 := Nat.not_lt.2 c17; simp [ByteArray.size_append, -Nat.not_lt] at c17b4; (try simp only [show ∀ x : UInt8, (⟨#[x]⟩ : ByteArray).size = 1 from fun _ => rfl, show ∀ x y : UInt8, (⟨#[x, y]⟩ : ByteArray).size = 2 from fun _ _ => rfl] at c17b4); have c17b5 := eq_false c17b4)
             obtain ⟨ji18, hji18⟩ : ∃ j_ : Int, (wrap64 (bt x6_2 0)) = j_ := ⟨_, rfl⟩
             replace H : (if 0 ≤ (ji18) then (if (ji18) < 255 then (if (x6_2.extract ((ji18) : Int).toNat x6_2.size).toList = ([] : List UInt8) then (fascicleref05_Unstuff.l1 k2 a0 (x5_2 ++ (x6_2.extract 1 ((ji18) : Int).toNat)) (x6_2.extract ((ji18) : Int).toNat x6_2.size)) else (if (x5_2 ++ (x6_2.extract 1 ((ji18) : Int).toNat)).size + 1 ≤ 9223372036854775807 then (fascicleref05_Unstuff.l1 k2 a0 ((x5_2 ++ (x6_2.extract 1 ((ji18) : Int).toNat)) ++ (⟨#[0]⟩ : ByteArray)) (x6_2.extract ((ji18) : Int).toNat x6_2.size)) else (none))) else (fascicleref05_Unstuff.l1 k2 a0 (x5_2 ++ (x6_2.extract 1 ((ji18) : Int).toNat)) (x6_2.extract ((ji18) : Int).toNat x6_2.size))) else (none)) = some (r1, r2) := by first | (rw [hji18] at H; exact H) | (simp only [hji18] at H ⊢; exact H)
             (try rw [hji18] at c14b0)
             (try rw [hji18] at c15b0)
             (try rw [hji18] at c15b1)
             (try rw [hji18] at c16b0)
             (try rw [hji18] at c16b1)
             (try rw [hji18] at c17b0)
             (try rw [hji18] at c17b1)
             (try rw [hji18] at c17)
             have hji18w : (IntKind.i64.wrap (bt x6_2 0)) = ji18 := (i64_w _).trans hji18
             by_cases c19 : 0 ≤ (ji18)
             ·
              rw [if_pos c19] at H
              have c19b0 := eq_true c19
              have c19b1 : decide (0 ≤ (ji18)) = true := decide_eq_true c19
              clear c19
              have c20b0 := eq_true (of_decide_eq_true (by first | (with_reducible assumption) | assumption) : (ji18) ≤ (x6_2.size : Int))
              by_cases c21 : (ji18) < 255
              ·
               rw [if_pos c21] at H
               have c21b0 : decide ((ji18) < 255) = true := decide_eq_true c21
               clear c21
               by_cases c22 : (x6_2.extract ((ji18) : Int).toNat x6_2.size).toList = ([] : List UInt8)
               ·
                rw [if_pos c22] at H
                have c22b0 : ((x6_2.extract ((ji18) : Int).toNat x6_2.size).toList == ([] : List UInt8)) = true := beq_iff_eq.mpr c22
                have c22b1 : ((x6_2.extract ((ji18) : Int).toNat x6_2.size).toList != ([] : List UInt8)) = false := bne_eq_false_iff_eq.mpr c22
                clear c22
                have H' := Aside0.mk H
                clear H
                have p13 : 0 ≤ (0 : Int) := (by omega)
                have q13 : 0 < x6_2.size := (by have : (0 : Int) < (x6_2.size : Int) := of_decide_eq_true (by first | (with_reducible assumption) | assumption); omega)
                have hx13 : ∀ h : 0 < x6_2.size, ((x6_2[0]'h).toNat : Int) = bt x6_2 0 := bt_at x6_2 0
                clear p13
                have qi13 : (0 < (x6_2.size : Int)) = True := eq_true (of_decide_eq_true (by first | (with_reducible assumption) | assumption))
                replace q13 := eq_true q13
                go_wp2
                go_roundg k2
                case measure => have := HK1.out; have := HK2.out; omega
                case rel => exact ⟨(x5_2 ++ (x6_2.extract 1 ((ji18) : Int).toNat)), (x6_2.extract ((ji18) : Int).toNat x6_2.size), (by first | rfl | (simp; done) | (simp only [← hji18] <;> (first | rfl | simp)) | (simp [*]; done)), (by first | rfl | (simp; done) | (simp only [← hji18] <;> (first | rfl | simp)) | (simp [*]; done)), H', ⟨by have := HK1.out; have := HK2.out; omega⟩, ⟨by repeat (first | (with_reducible first | exact HB.out | apply below_alloc | apply pw_below_drewN | apply below_drew1) | exact HB.out)⟩⟩
               ·
                rw [if_neg c22] at H
                have c22b0 : ((x6_2.extract ((ji18) : Int).toNat x6_2.size).toList == ([] : List UInt8)) = false := beq_eq_false_iff_ne.mpr c22
                have c22b1 : ((x6_2.extract ((ji18) : Int).toNat x6_2.size).toList != ([] : List UInt8)) = true := bne_iff_ne.mpr c22
                obtain ⟨ys1, hys1⟩ : ∃ y_ : ByteArray, (x5_2 ++ (x6_2.extract 1 ((ji18) : Int).toNat)) = y_ := ⟨_, rfl⟩
                (try simp only [hys1] at H)
                by_cases c23 : ys1.size + 1 ≤ 9223372036854775807
                ·
                 rw [if_pos c23] at H
                 have c23b0 := eq_true c23
                 have c23b1 : decide (ys1.size + 1 ≤ 9223372036854775807) = true := decide_eq_true c23
                 try have c23b2 : (9223372036854775807 < ys1.size + 1) = False := eq_false (Nat.not_lt.2 c23)
                 try (have c23b4 := Nat.not_lt.2 c23; simp [ByteArray.size_append, -Nat.not_lt] at c23b4; (try simp only [show ∀ x : UInt8, (⟨#[x]⟩ : ByteArray).size = 1 from fun _ => rfl, show ∀ x y : UInt8, (⟨#[x, y]⟩ : ByteArray).size = 2 from fun _ _ => rfl] at c23b4); have c23b5 := eq_false c23b4)
                 have H' := Aside0.mk H
                 clear H
                 have p13 : 0 ≤ (0 : Int) := (by omega)
                 have q13 : 0 < x6_2.size := (by have : (0 : Int) < (x6_2.size : Int) := of_decide_eq_true (by first | (with_reducible assumption) | assumption); omega)
                 have hx13 : ∀ h : 0 < x6_2.size, ((x6_2[0]'h).toNat : Int) = bt x6_2 0 := bt_at x6_2 0
                 clear p13
                 have qi13 : (0 < (x6_2.size : Int)) = True := eq_true (of_decide_eq_true (by first | (with_reducible assumption) | assumption))
                 replace q13 := eq_true q13
                 go_wp2
                 subst hys1
                 go_roundg k2
                 case measure => have := HK1.out; have := HK2.out; omega
                 case rel => exact ⟨((x5_2 ++ (x6_2.extract 1 ((ji18) : Int).toNat)) ++ (⟨#[0]⟩ : ByteArray)), (x6_2.extract ((ji18) : Int).toNat x6_2.size), (by first | rfl | (simp; done) | (simp only [← hji18] <;> (first | rfl | simp)) | (simp [*]; done)), (by first | rfl | (simp; done) | (simp only [← hji18] <;> (first | rfl | simp)) | (simp [*]; done)), H', ⟨by have := HK1.out; have := HK2.out; omega⟩, ⟨by repeat (first | (with_reducible first | exact HB.out | apply below_alloc | apply pw_below_drewN | apply below_drew1) | exact HB.out)⟩⟩
                ·
                 rw [if_neg c23] at H
                 exact absurd H (by simp)
              ·
               rw [if_neg c21] at H
               have c21b0 : decide ((ji18) < 255) = false := decide_eq_false c21
               clear c21
               have H' := Aside0.mk H
               clear H
               have p13 : 0 ≤ (0 : Int) := (by omega)
               have q13 : 0 < x6_2.size := (by have : (0 : Int) < (x6_2.size : Int) := of_decide_eq_true (by first | (with_reducible assumption) | assumption); omega)
               have hx13 : ∀ h : 0 < x6_2.size, ((x6_2[0]'h).toNat : Int) = bt x6_2 0 := bt_at x6_2 0
               clear p13
               have qi13 : (0 < (x6_2.size : Int)) = True := eq_true (of_decide_eq_true (by first | (with_reducible assumption) | assumption))
               replace q13 := eq_true q13
               go_wp2
               go_roundg k2
               case measure => have := HK1.out; have := HK2.out; omega
               case rel => exact ⟨(x5_2 ++ (x6_2.extract 1 ((ji18) : Int).toNat)), (x6_2.extract ((ji18) : Int).toNat x6_2.size), (by first | rfl | (simp; done) | (simp only [← hji18] <;> (first | rfl | simp)) | (simp [*]; done)), (by first | rfl | (simp; done) | (simp only [← hji18] <;> (first | rfl | simp)) | (simp [*]; done)), H', ⟨by have := HK1.out; have := HK2.out; omega⟩, ⟨by repeat (first | (with_reducible first | exact HB.out | apply below_alloc | apply pw_below_drewN | apply below_drew1) | exact HB.out)⟩⟩
             ·
              rw [if_neg c19] at H
              exact absurd H (by simp)
            ·
             rw [if_neg c17] at H
             exact absurd H (by simp)
           ·
            rw [if_neg c16] at H
            exact absurd H (by simp)
          ·
           rw [if_neg c15] at H
           exact absurd H (by simp)
        ·
         rw [if_neg c12] at H
         exact absurd H (by simp)
end Go.Proofs.Ytekanmieppnpeaa.G
end
section
namespace Go.Proofs.Ytekanmieppnpeaa.PureKit
open Go.RowKit Go.Proofs.YtekanmieppnpeaaW.PrintWords Go.Proofs.YtekanmieppnpeaaW.PrintLast Go.Proofs.YtekanmieppnpeaaW.PrintMore
def Bytes (xs : List Int) : Prop := ∀ x ∈ xs, 0 ≤ x ∧ x ≤ 255
theorem Bytes.nil : Bytes [] := fun _ h => by cases h
theorem Bytes.drop {xs : List Int} (h : Bytes xs) (n : Nat) : Bytes (xs.drop n) := fun x hx => h x (List.mem_of_mem_drop hx)
theorem Bytes.take {xs : List Int} (h : Bytes xs) (n : Nat) : Bytes (xs.take n) := fun x hx => h x (List.mem_of_mem_take hx)
theorem Bytes.append {xs ys : List Int} (h : Bytes xs) (h' : Bytes ys) : Bytes (xs ++ ys) := fun x hx => by
 rcases List.mem_append.1 hx with hx | hx
 ·
  exact h x hx
 ·
  exact h' x hx
theorem Bytes.tail {x : Int} {xs : List Int} (h : Bytes (x :: xs)) : Bytes xs := fun y hy => h y (List.mem_cons_of_mem _ hy)
theorem Bytes.head {x : Int} {xs : List Int} (h : Bytes (x :: xs)) : 0 ≤ x ∧ x ≤ 255 := h x List.mem_cons_self
theorem Bytes.cons {x : Int} {xs : List Int} (h0 : 0 ≤ x ∧ x ≤ 255) (h : Bytes xs) : Bytes (x :: xs) := fun y hy => by
 rcases List.mem_cons.1 hy with rfl | hy
 ·
  exact h0
 ·
  exact h y hy
theorem Bytes.of_wf {xs : List Int} (h : ∀ x ∈ xs, (Lit.int .u8 x).wf = true) : Bytes xs := fun x hx =>
 bounds_u8 (h x hx)
theorem w64 {x : Int} (h0 : -9223372036854775808 ≤ x) (h1 : x ≤ 9223372036854775807) : wrap64 x = x := by unfold wrap64; omega
theorem wu64 {x : Int} (h0 : 0 ≤ x) (h1 : x < 18446744073709551616) : IntKind.u64.wrap x = x := by
 rw [IntKind.wrap_u64]; omega
theorem rd_at (l : List Int) (i : Nat) (h : i < l.length) : rd l (i : Int) = l[i] := by
 simp [rd, List.getD_eq_getElem?_getD, h]
theorem nums_size (xs : List Int) : (strOfNums xs).size = xs.length := by simp [strOfNums, ByteArray.size]
theorem nums_bytes (xs : List Int) : (strOfNums xs).data.toList = xs.map fun n => UInt8.ofNat n.toNat := by simp [strOfNums]
theorem ext_bytes {s t : ByteArray} (h : s.data.toList = t.data.toList) : s = t := ByteArray.ext (by rw [← Array.toArray_toList (xs := s.data), h, Array.toArray_toList])
theorem bt_nums (xs : List Int) (hb : Bytes xs) (i : Nat) (h : i < xs.length) : bt (strOfNums xs) (i : Int) = xs[i] := by
 have h2 : i < (strOfNums xs).size := by rw [nums_size]; exact h
 have hx := hb xs[i] (List.getElem_mem h)
 rw [← bt_at (strOfNums xs) i (by simpa using h2)]
 have : (strOfNums xs)[i]'h2 = UInt8.ofNat (xs[i]).toNat := by simp [strOfNums, ByteArray.getElem_eq_getElem_data]
 simp only [Int.toNat_natCast, this]
 simp
 omega
theorem nums_extract (xs : List Int) (a b : Nat) : (strOfNums xs).extract a b = strOfNums ((xs.take b).drop a) := by
 apply ext_bytes
 rw [Lib.extract_data, nums_bytes, nums_bytes, List.map_drop, List.map_take, List.drop_take]
theorem nums_nil (xs : List Int) : ((strOfNums xs).toList = ([] : List UInt8)) ↔ xs = [] := by
 rw [Lib.toList_data, nums_bytes, List.map_eq_nil_iff]
theorem nums_append (xs ys : List Int) : strOfNums xs ++ strOfNums ys = strOfNums (xs ++ ys) := by
 apply ext_bytes
 simp [strOfNums, ByteArray.data_append]
theorem nums_inj {xs ys : List Int} (hx : Bytes xs) (hy : Bytes ys) (h : strOfNums xs = strOfNums ys) : xs = ys := by
 have h1 := congrArg (fun s => s.data.toList) h
 simp only [nums_bytes] at h1
 induction xs generalizing ys with
 | nil => cases ys with
  | nil => rfl
  | cons y ys => simp at h1
 | cons x xs ih => cases ys with
  | nil => simp at h1
  | cons y ys =>
   simp only [List.map_cons, List.cons.injEq] at h1
   have h2 := congrArg UInt8.toNat h1.1
   have a := hx.head
   have b := hy.head
   simp at h2
   have : x = y := by omega
   rw [this, ih hx.tail hy.tail (by apply ext_bytes; rw [nums_bytes, nums_bytes]; exact h1.2) h1.2]
theorem nums_eq {xs ys : List Int} (hx : Bytes xs) (hy : Bytes ys) : ((strOfNums xs).toList = (strOfNums ys).toList) ↔ xs = ys := by
 constructor
 ·
  intro h
  rw [Lib.toList_data, Lib.toList_data] at h
  exact nums_inj hx hy (ext_bytes h)
 ·
  rintro rfl; rfl
theorem nums_beq {xs ys : List Int} (hx : Bytes xs) (hy : Bytes ys) : ((strOfNums xs).toList == (strOfNums ys).toList) = decide (xs = ys) := by
 by_cases h : xs = ys
 ·
  subst h; simp
 ·
  rw [decide_eq_false h]
  exact beq_eq_false_iff_ne.2 (fun e => h ((nums_eq hx hy).1 e))
theorem rounds_of {α : Type} {g : Nat → Option α} {r : α} (h : Ev g r) : ∃ k, g k = some r := h.rounds
theorem Ev.eq {α : Type} {g : Nat → Option α} {a b : α} (h : Ev g a) (e : a = b) : Ev g b := e ▸ h
end Go.Proofs.Ytekanmieppnpeaa.PureKit
end
