-- Written by gprint.py (the kit's print.py with contracts of my own taken as given)
import Derived.Test.YtnmdckgaljldhaaGx0
import Derived.Test.YtnmdckgaljldhaaGx8
namespace Go.Proofs.Ytnmdckgaljldhaa.G
open Go.RowKit Go.Proofs.YtnmdckgaljldhaaW.PrintWords Go.Proofs.YtnmdckgaljldhaaW.PrintLast Go.Proofs.YtnmdckgaljldhaaW.PrintMore
attribute [local go_sem] max2_int min2_int max_two min_two max_three min_three max_four min_four   -- for this text's walks alone
set_option linter.unusedVariables false
set_option linter.unusedSimpArgs false

/-! ### fascicleref13_Most: function 81 -/
def fascicleref13_Most.f (a0 : Int) : Option (Int) := some (wrap64 ((wrap64 ((wrap64 ((wrap64 ((wrap64 ((wrap64 (9 + (wrap64 (12 * a0)))) + (wrap64 (8 * (wrap64 (Int.tdiv (wrap64 (a0 + 15)) 16)))))) + 8)) + 1)) + (wrap64 (Int.tdiv (wrap64 ((wrap64 ((wrap64 ((wrap64 (9 + (wrap64 (12 * a0)))) + (wrap64 (8 * (wrap64 (Int.tdiv (wrap64 (a0 + 15)) 16)))))) + 8)) - 1)) 254)))) + 1))
set_option maxHeartbeats 8000000 in
set_option maxRecDepth 100000 in
theorem fascicleref13_Most.calls (a0 : Int) (r : Int) (w : World) (h : fascicleref13_Most.f a0 = some r) :
  Calls Try.prog 81 #[.int .i64 a0] w fun e w' => e = .returned (.int .i64 r) ∧ Drawn0 w w' := by
 have H : (some (wrap64 ((wrap64 ((wrap64 ((wrap64 ((wrap64 ((wrap64 (9 + (wrap64 (12 * a0)))) + (wrap64 (8 * (wrap64 (Int.tdiv (wrap64 (a0 + 15)) 16)))))) + 8)) + 1)) + (wrap64 (Int.tdiv (wrap64 ((wrap64 ((wrap64 ((wrap64 (9 + (wrap64 (12 * a0)))) + (wrap64 (8 * (wrap64 (Int.tdiv (wrap64 (a0 + 15)) 16)))))) + 8)) - 1)) 254)))) + 1))) = some r := h
 clear h
 obtain rfl := Option.some.inj H
 go_enter Try.func81, Try.ntmps81
 go_wp2
 go_ret
 exact ⟨by first | rfl | (simp; done) | (simp [*]; done), by repeat (first | exact Drawn0.refl _ | apply Drawn0.step)⟩

/-! ### fascicleref14_Fits: function 33 -/
def fascicleref14_Fits.j0 : Nat → Int → Bool → Int → Int → Int → Int → Int → Option (Bool)
 | 0, _, _, _, _, _, _, _ => none
 | k + 1, x1, x14, x259000, x259001, x259002, x259003, x259004 => if x14 = true then (some false) else ((fascicleref13_Most.f (wrap64 (x259004 + 1))).bind fun t260 => ((fascicleref08_Size.f k x259000 x259001).bind fun t261 => (some (decide ((IntKind.u64.wrap (wrap64 ((wrap64 (x259003 + x1)) + t260))) ≤ t261)))))
def fascicleref14_Fits.f (k : Nat) (a0_0 : Int) (a0_1 : Int) (a0_2 : Int) (a0_3 : Int) (a0_4 : Int) (a1 : Int) : Option (Bool) := if a1 < 1 then (fascicleref14_Fits.j0 k a1 true a0_0 a0_1 a0_2 a0_3 a0_4) else ((fascicleref08_Size.f k a0_0 a0_1).bind fun t259 => (fascicleref14_Fits.j0 k a1 (decide ((IntKind.u64.wrap (a1)) > t259)) a0_0 a0_1 a0_2 a0_3 a0_4))
theorem fascicleref14_Fits.mono_l : ∀ k, (∀ y0 y1 y2 y3 y4 y5 y6, LeO (fascicleref14_Fits.j0 k y0 y1 y2 y3 y4 y5 y6) (fascicleref14_Fits.j0 (k + 1) y0 y1 y2 y3 y4 y5 y6))
 | 0 => fun _ _ _ _ _ _ _ r h => by simp [fascicleref14_Fits.j0] at h
 | k + 1 => by
  have ih0 := fascicleref14_Fits.mono_l k
  ·
   intro y0 y1 y2 y3 y4 y5 y6
   unfold fascicleref14_Fits.j0
   repeat' first
   | (with_reducible exact ih0 _ _ _ _ _ _ _)
   | (with_reducible exact fascicleref08_Size.mono _ _ _)
   | (with_reducible exact LeO.refl _)
   | (with_reducible exact LeO.none _)
   | (with_reducible refine LeO.ite ?_ ?_)
   | (with_reducible refine LeO.bind ?_ (fun _ => ?_))
   | exact ih0 _ _ _ _ _ _ _
   | exact fascicleref08_Size.mono _ _ _
   | exact LeO.none _
   | refine LeO.ite ?_ ?_
   | refine LeO.bind ?_ (fun _ => ?_)
theorem fascicleref14_Fits.mono : ∀ a0 a1 a2 a3 a4 a5 k, LeO (fascicleref14_Fits.f k a0 a1 a2 a3 a4 a5) (fascicleref14_Fits.f (k + 1) a0 a1 a2 a3 a4 a5) := by
 intro a0 a1 a2 a3 a4 a5 k
 have ih0 := fascicleref14_Fits.mono_l k
 unfold fascicleref14_Fits.f
 repeat' first
   | (with_reducible exact ih0 _ _ _ _ _ _ _)
   | (with_reducible exact fascicleref08_Size.mono _ _ _)
   | (with_reducible exact LeO.refl _)
   | (with_reducible exact LeO.none _)
   | (with_reducible refine LeO.ite ?_ ?_)
   | (with_reducible refine LeO.bind ?_ (fun _ => ?_))
   | exact ih0 _ _ _ _ _ _ _
   | exact fascicleref08_Size.mono _ _ _
   | exact LeO.none _
   | refine LeO.ite ?_ ?_
   | refine LeO.bind ?_ (fun _ => ?_)
def fascicleref14_Fits.T3 : Bool × List (List Nat × List Nat) := (true, [([], []), ([0], [0]), ([], []), ([1, 2], [1, 2]), ([], []), ([4], [4]), ([5], [5]), ([6], [6]), ([3, 7], [3, 7]), ([8], [8]), ([], []), ([10], [10]), ([11, 7], [11]), ([9, 12], [9, 12]), ([13, 12, 0, 1, 2, 3, 4, 5, 6, 7, 8, 9, 10, 11, 12, 13], [13])])
def fascicleref14_Fits.B3 : List Nat := [0, 1, 0, 7, 0, 16, 48, 112, 255, 511, 0, 1024, 3312, 8191, 16383]
theorem fascicleref14_Fits.tab3 : rtab .any (opsOf Try.f33 3) = fascicleref14_Fits.T3 := by kernel_rfl
theorem fascicleref14_Fits.bits3 : waitsOk fascicleref14_Fits.T3.2 fascicleref14_Fits.B3 = true := by kernel_rfl
set_option maxHeartbeats 8000000 in
set_option maxRecDepth 100000 in
theorem fascicleref14_Fits.calls (k : Nat) (a0_0 : Int) (a0_1 : Int) (a0_2 : Int) (a0_3 : Int) (a0_4 : Int) (a1 : Int) (r : Bool) (w : World) (h : fascicleref14_Fits.f k a0_0 a0_1 a0_2 a0_3 a0_4 a1 = some r) :
  Calls Try.prog 33 #[.agg #[.int .u8 a0_0, .int .u32 a0_1, .int .u64 a0_2, .int .i64 a0_3, .int .i64 a0_4], .int .i64 a1] w fun e w' => e = .returned (.bool r) ∧ Below w.heap.size w w' := by
 have hu57 := Try.underlying57
 have hu49 := Try.underlying49
 have HB := Aside0.mk (Below.refl w.heap.size w)
 have H : (if a1 < 1 then (fascicleref14_Fits.j0 k a1 true a0_0 a0_1 a0_2 a0_3 a0_4) else ((fascicleref08_Size.f k a0_0 a0_1).bind fun t259 => (fascicleref14_Fits.j0 k a1 (decide ((IntKind.u64.wrap (a1)) > t259)) a0_0 a0_1 a0_2 a0_3 a0_4))) = some r := h
 clear h
 have HC3 := Aside0.mk H
 clear H
 go_enter Try.func33, Try.ntmps33
 go_upto_region 1 with (first | ((with_reducible refine gate_dst (N := 2) rfl ?_); refine box_event ?hg (N := 2) ?hd (cs := #[.int .u8 a0_0, .int .u32 a0_1, .int .u64 a0_2, .int .i64 a0_3, .int .i64 a0_4]) (t := 57) ?hr ?_; (case hd => rfl); (case hg => rfl); (case hr => first | (go_simp; done) | (go_simp; rfl)); intro gb258 hg w4 hbox hb; have n0_ := Aside0.mk (below_step (by repeat (with_reducible first | exact HB.out | apply below_alloc | apply pw_below_drewN | apply below_drew1)) hb); have n1_ := Aside0.mk (hbox); have n2_ := Aside0.mk ((by rw [hg]; exact (below_size (by repeat (with_reducible first | exact HB.out | apply below_alloc | apply pw_below_drewN | apply below_drew1))) : w.heap.size ≤ gb258)); have n3_ := Aside0.mk ((by rw [hg]; exact (below_size (by repeat (with_reducible first | exact HB.out | apply below_alloc | apply pw_below_drewN | apply below_drew1))) : w.heap.size ≤ gb258)); clear HB; have HB := n0_; have BK258 := n1_; have GW258 := n2_; have GE258 := n3_; clear n0_ n1_ n2_ n3_; clear hb hbox hg))
 (try simp only [Act.put, List.setIfInBounds_toArray, List.set_cons_zero, List.set_cons_succ])
 go_cut [14] (fun v14 wc => ∃ (kq : Nat) (x14_2 : Bool), v14 = .bool x14_2 ∧ Aside0 (fascicleref14_Fits.j0 kq a1 x14_2 a0_0 a0_1 a0_2 a0_3 a0_4 = some r) ∧ Aside0 (kq ≤ k) ∧ Aside0 (wc.heap[gb258]? = some (.cells #[.int .u8 a0_0, .int .u32 a0_1, .int .u64 a0_2, .int .i64 a0_3, .int .i64 a0_4] 57 (0, 0))) ∧ Aside0 (Below w.heap.size w wc))
 case first =>
  have H := HC3.out
  clear HC3
  by_cases c5 : a1 < 1
  ·
   rw [if_pos c5] at H
   have c5b0 : decide (a1 < 1) = true := decide_eq_true c5
   clear c5
   (first | rw [c5b0] | (simp only [i64_w, i32_w]; rw [c5b0]) | skip)
   have H' := Aside0.mk H
   clear H
   go_wp2
   go_meet
   case rel => exact ⟨_, (true), (by first | rfl | (simp; done) | (simp [*]; done) | (simp; exact (fun l : List UInt8 => (by cases l <;> rfl : l.isEmpty = !(l != ([] : List UInt8)))) _)), H', ⟨by first | omega | exact Nat.le_refl _⟩, ⟨by (with_reducible repeat (first | refine blk_drewN ?_ _ | refine blk_drew ?_ | refine blk_alloc ?_ _)); exact BK258.out⟩, ⟨by repeat (first | (with_reducible first | exact HB.out | apply below_alloc | apply pw_below_drewN | apply below_drew1 | refine below_set ?_ GE258.out) | exact HB.out)⟩⟩
  ·
   rw [if_neg c5] at H
   have c5b0 : decide (a1 < 1) = false := decide_eq_false c5
   clear c5
   (first | rw [c5b0] | (simp only [i64_w, i32_w]; rw [c5b0]) | skip)
   replace H := Option.bind_eq_some_iff.mp H
   obtain ⟨t259, A60, H⟩ := H
   replace H : (fascicleref14_Fits.j0 k a1 (decide ((IntKind.u64.wrap (a1)) > t259)) a0_0 a0_1 a0_2 a0_3 a0_4) = some r := H
   have A6 := Aside0.mk A60
   clear A60
   have H' := Aside0.mk H
   clear H
   have hcz7_0 : w4.cell? ⟨gb258, 0, none⟩ = some (.int .u8 a0_0) := (blk_cell BK258.out 0).trans rfl
   have hcz7_1 : w4.cell? ⟨gb258, 1, none⟩ = some (.int .u32 a0_1) := (blk_cell BK258.out 1).trans rfl
   have hcz7_2 : w4.cell? ⟨gb258, 2, none⟩ = some (.int .u64 a0_2) := (blk_cell BK258.out 2).trans rfl
   have hcz7_3 : w4.cell? ⟨gb258, 3, none⟩ = some (.int .i64 a0_3) := (blk_cell BK258.out 3).trans rfl
   have hcz7_4 : w4.cell? ⟨gb258, 4, none⟩ = some (.int .i64 a0_4) := (blk_cell BK258.out 4).trans rfl
   have hfz7_0 := blk_frozen BK258.out 0
   have hfz7_1 := blk_frozen BK258.out 1
   have hfz7_2 := blk_frozen BK258.out 2
   have hfz7_3 := blk_frozen BK258.out 3
   have hfz7_4 := blk_frozen BK258.out 4
   go_wp2_with (first | (go_at_call 80; (with_reducible refine (fascicleref08_Size.calls k a0_0 a0_1 t259 _ A6.out).mono ?_); rintro e w8 ⟨rfl, hb⟩; have n0_ := Aside0.mk (blk_below (g := gb258) (o := .cells #[.int .u8 a0_0, .int .u32 a0_1, .int .u64 a0_2, .int .i64 a0_3, .int .i64 a0_4] 57 (0, 0)) (by (with_reducible repeat (first | refine blk_drewN ?_ _ | refine blk_drew ?_ | refine blk_alloc ?_ _)); exact BK258.out) hb); have n1_ := Aside0.mk (below_step (by repeat (first | (with_reducible first | exact HB.out | apply below_alloc | apply pw_below_drewN | apply below_drew1 | refine below_set ?_ GE258.out) | exact HB.out)) hb); clear BK258; clear HB; have BK258 := n0_; have HB := n1_; clear n0_ n1_; (try clear hb); (try clear hb2); (try clear hk); (try clear hi)))
   go_meet
   case rel => exact ⟨_, (decide ((IntKind.u64.wrap (a1)) > t259)), (by first | rfl | (simp; done) | (simp [*]; done) | (simp; exact (fun l : List UInt8 => (by cases l <;> rfl : l.isEmpty = !(l != ([] : List UInt8)))) _)), H', ⟨by first | omega | exact Nat.le_refl _⟩, ⟨by (with_reducible repeat (first | refine blk_drewN ?_ _ | refine blk_drew ?_ | refine blk_alloc ?_ _)); exact BK258.out⟩, ⟨by repeat (first | (with_reducible first | exact HB.out | apply below_alloc | apply pw_below_drewN | apply below_drew1 | refine below_set ?_ GE258.out) | exact HB.out)⟩⟩
 case rest =>
  clear HC3
  try clear p2
  try clear c3
  try clear c5
  try clear c5b0
  try clear hcz7_0
  try clear hcz7_1
  try clear hcz7_2
  try clear hcz7_3
  try clear hcz7_4
  try clear hfz7_0
  try clear hfz7_1
  try clear hfz7_2
  try clear hfz7_3
  try clear hfz7_4
  obtain ⟨kq, x14_2, rfl, HA, HJ2, BK258, HB⟩ := hcut
  cases kq with
  | zero => exact absurd HA.out (by simp [fascicleref14_Fits.j0])
  | succ kj2 =>
   have H := HA.out
   clear HA
   simp only [fascicleref14_Fits.j0] at H
   by_cases c9 : x14_2 = true
   ·
    subst c9
    have H1 : (some false) = some r := by rw [if_pos rfl] at H; exact H
    clear H
    have H := H1
    clear H1
    obtain rfl := Option.some.inj H
    go_wp2
    go_ret
    exact ⟨by first | rfl | (simp [errW_none, errW_some] <;> rfl) | (simp [*, errW_none, errW_some] <;> rfl), by repeat (first | (with_reducible first | exact HB.out | apply below_alloc | apply pw_below_drewN | apply below_drew1 | refine below_set ?_ GE258.out) | exact HB.out)⟩
   ·
    replace c9 := Bool.eq_false_iff.mpr c9
    subst c9
    have H1 : ((fascicleref13_Most.f (wrap64 (a0_4 + 1))).bind fun t260 => ((fascicleref08_Size.f kj2 a0_0 a0_1).bind fun t261 => (some (decide ((IntKind.u64.wrap (wrap64 ((wrap64 (a0_3 + a1)) + t260))) ≤ t261))))) = some r := by rw [if_neg (show ¬ (false = true) by decide)] at H; exact H
    clear H
    have H := H1
    clear H1
    replace H := Option.bind_eq_some_iff.mp H
    obtain ⟨t260, A100, H⟩ := H
    replace H : ((fascicleref08_Size.f kj2 a0_0 a0_1).bind fun t261 => (some (decide ((IntKind.u64.wrap (wrap64 ((wrap64 (a0_3 + a1)) + t260))) ≤ t261)))) = some r := H
    have A10 := Aside0.mk A100
    clear A100
    replace H := Option.bind_eq_some_iff.mp H
    obtain ⟨t261, A110, H⟩ := H
    replace H : (some (decide ((IntKind.u64.wrap (wrap64 ((wrap64 (a0_3 + a1)) + t260))) ≤ t261))) = some r := H
    have A11 := Aside0.mk A110
    clear A110
    obtain rfl := Option.some.inj H
    try go_wp2
    have n0_ := Aside0.mk (blk_drew BK258.out)
    have n1_ := Aside0.mk (below_drew1 HB.out)
    clear BK258
    clear HB
    have BK258 := n0_
    have HB := n1_
    clear n0_ n1_
    refine start_ (n := 15) (S := fun w' => w'.cell? ⟨gb258, 0, none⟩ = some (.int .u8 a0_0) ∧ w'.cell? ⟨gb258, 1, none⟩ = some (.int .u32 a0_1) ∧ w'.cell? ⟨gb258, 2, none⟩ = some (.int .u64 a0_2) ∧ w'.cell? ⟨gb258, 3, none⟩ = some (.int .i64 a0_3) ∧ w'.cell? ⟨gb258, 4, none⟩ = some (.int .i64 a0_4)) (ds := []) #[false, false, false, false, false, false, false, false, false, false, false, false, false, false, false] (by kernel_rfl) rfl rfl ⟨(blk_cell BK258.out 0).trans rfl, (blk_cell BK258.out 1).trans rfl, (blk_cell BK258.out 2).trans rfl, (blk_cell BK258.out 3).trans rfl, (blk_cell BK258.out 4).trans rfl⟩ (fun hHeld => ?_); refine with_tabW fascicleref14_Fits.tab3 fascicleref14_Fits.bits3 (fun HT_ HW_ => ?_)
    generalize wc.drew = w12 at BK258 HB hHeld ⊢
    refine pure_ (i := 0) (N := some 15) (v := ?_) (a' := ?_) #[true, false, false, false, false, false, false, false, false, false, false, false, false, false, false] rfl rfl (any_of HT_.out (by kernel_rfl)) (fun _ _ _ h => h) (Or.inl ⟨by rfl, ?_⟩) ?_ ?_
    rotate_left
    ·
     intro w'
     go_simp
     with_reducible rfl
    rotate_left
    ·
     simp only [Act.put, List.setIfInBounds_toArray, List.set_cons_zero, List.set_cons_succ, i64_w, i32_w]
     rfl
    refine pure_ (i := 2) (N := some 17) (v := ?_) (a' := ?_) #[true, false, true, false, false, false, false, false, false, false, false, false, false, false, false] rfl rfl (any_of HT_.out (by kernel_rfl)) (fun _ _ _ h => h) (Or.inl ⟨by rfl, ?_⟩) ?_ ?_
    rotate_left
    ·
     intro w'
     go_simp
     with_reducible rfl
    rotate_left
    ·
     simp only [Act.put, List.setIfInBounds_toArray, List.set_cons_zero, List.set_cons_succ, i64_w, i32_w]
     rfl
    refine pure_ (i := 4) (N := some 19) (v := ?_) (a' := ?_) #[true, false, true, false, true, false, false, false, false, false, false, false, false, false, false] rfl rfl (any_of HT_.out (by kernel_rfl)) (fun _ _ _ h => h) (Or.inl ⟨by rfl, ?_⟩) ?_ ?_
    rotate_left
    ·
     intro w'
     go_simp
     with_reducible rfl
    rotate_left
    ·
     simp only [Act.put, List.setIfInBounds_toArray, List.set_cons_zero, List.set_cons_succ, i64_w, i32_w]
     rfl
    refine pure_ (i := 10) (N := some 25) (v := ?_) (a' := ?_) #[true, false, true, false, true, false, false, false, false, false, true, false, false, false, false] rfl rfl (any_of HT_.out (by kernel_rfl)) (fun _ _ _ h => h) (Or.inl ⟨by rfl, ?_⟩) ?_ ?_
    rotate_left
    ·
     intro w'
     go_simp
     with_reducible rfl
    rotate_left
    ·
     simp only [Act.put, List.setIfInBounds_toArray, List.set_cons_zero, List.set_cons_succ, i64_w, i32_w]
     rfl
    refine take_ (i := 1) (N := some 16) (v := ?_) (a' := ?_) #[true, true, true, false, true, false, false, false, false, false, true, false, false, false, false] rfl rfl (take_ofW HT_.out HW_.out (by kernel_rfl)) (fun _ _ _ h => h) (Or.inl ⟨by rfl, ?_⟩) hHeld ?_ ?_
    rotate_left
    ·
     rintro w' ⟨s0, s1, s2, s3, s4⟩
     go_simp
     with_reducible rfl
    rotate_left
    ·
     simp only [Act.put, List.setIfInBounds_toArray, List.set_cons_zero, List.set_cons_succ, i64_w, i32_w]
     rfl
    refine pure_ (i := 3) (N := some 18) (v := ?_) (a' := ?_) #[true, true, true, true, true, false, false, false, false, false, true, false, false, false, false] rfl rfl (any_of HT_.out (by kernel_rfl)) (fun _ _ _ h => h) (Or.inl ⟨by rfl, ?_⟩) ?_ ?_
    rotate_left
    ·
     intro w'
     go_simp
     with_reducible rfl
    rotate_left
    ·
     simp only [Act.put, List.setIfInBounds_toArray, List.set_cons_zero, List.set_cons_succ, i64_w, i32_w]
     rfl
    refine take_ (i := 5) (N := some 20) (v := ?_) (a' := ?_) #[true, true, true, true, true, true, false, false, false, false, true, false, false, false, false] rfl rfl (take_ofW HT_.out HW_.out (by kernel_rfl)) (fun _ _ _ h => h) (Or.inl ⟨by rfl, ?_⟩) hHeld ?_ ?_
    rotate_left
    ·
     rintro w' ⟨s0, s1, s2, s3, s4⟩
     go_simp
     with_reducible rfl
    rotate_left
    ·
     simp only [Act.put, List.setIfInBounds_toArray, List.set_cons_zero, List.set_cons_succ, i64_w, i32_w]
     rfl
    refine pure_ (i := 6) (N := some 21) (v := ?_) (a' := ?_) #[true, true, true, true, true, true, true, false, false, false, true, false, false, false, false] rfl rfl (any_of HT_.out (by kernel_rfl)) (fun _ _ _ h => h) (Or.inl ⟨by rfl, ?_⟩) ?_ ?_
    rotate_left
    ·
     intro w'
     go_simp
     with_reducible rfl
    rotate_left
    ·
     simp only [Act.put, List.setIfInBounds_toArray, List.set_cons_zero, List.set_cons_succ, i64_w, i32_w]
     rfl
    refine take_ (i := 11) (N := some 26) (v := ?_) (a' := ?_) #[true, true, true, true, true, true, true, false, false, false, true, true, false, false, false] rfl rfl (take_ofW HT_.out HW_.out (by kernel_rfl)) (fun _ _ _ h => h) (Or.inl ⟨by rfl, ?_⟩) hHeld ?_ ?_
    rotate_left
    ·
     rintro w' ⟨s0, s1, s2, s3, s4⟩
     go_simp
     with_reducible rfl
    rotate_left
    ·
     simp only [Act.put, List.setIfInBounds_toArray, List.set_cons_zero, List.set_cons_succ, i64_w, i32_w]
     rfl
    refine one_ (i := 7) (N := some 22) #[true, true, true, true, true, true, true, true, false, false, true, true, false, false, false] rfl rfl (one_of HT_.out (by kernel_rfl)) (by decide) (fun K hK => ?_)
    refine goes_ Try.func81 (by kernel_rfl) rfl #[.int .i64 (wrap64 (a0_4 + 1))] (by rfl) rfl rfl (by (try simp only [List.map_toArray, List.map_cons, List.map_nil]); first | done | rfl) ?_
    with_reducible refine (fascicleref13_Most.calls (wrap64 (a0_4 + 1)) t260 _ A10.out).mono ?_
    rintro e w' ⟨rfl, ⟨nd, rfl⟩⟩
    refine ⟨_, rfl, ?_⟩
    refine hK.out _ _ ⟨(blk_cell BK258.out 0).trans rfl, (blk_cell BK258.out 1).trans rfl, (blk_cell BK258.out 2).trans rfl, (blk_cell BK258.out 3).trans rfl, (blk_cell BK258.out 4).trans rfl⟩ (fun hHeld => ?_)
    clear hK K
    refine norm_ (a' := ?_) ?_ ?_
    rotate_left
    ·
     show Act.put _ (some 22) _ = _
     simp only [Act.put, List.setIfInBounds_toArray, List.set_cons_zero, List.set_cons_succ, i64_w, i32_w]
     rfl
    refine pure_ (i := 8) (N := some 23) (v := ?_) (a' := ?_) #[true, true, true, true, true, true, true, true, true, false, true, true, false, false, false] rfl rfl (any_of HT_.out (by kernel_rfl)) (fun _ _ _ h => h) (Or.inl ⟨by rfl, ?_⟩) ?_ ?_
    rotate_left
    ·
     intro w'
     go_simp
     with_reducible rfl
    rotate_left
    ·
     simp only [Act.put, List.setIfInBounds_toArray, List.set_cons_zero, List.set_cons_succ, i64_w, i32_w]
     rfl
    refine pure_ (i := 9) (N := some 24) (v := ?_) (a' := ?_) #[true, true, true, true, true, true, true, true, true, true, true, true, false, false, false] rfl rfl (any_of HT_.out (by kernel_rfl)) (fun _ _ _ h => h) (Or.inl ⟨by rfl, ?_⟩) ?_ ?_
    rotate_left
    ·
     intro w'
     go_simp
     with_reducible rfl
    rotate_left
    ·
     simp only [Act.put, List.setIfInBounds_toArray, List.set_cons_zero, List.set_cons_succ, i64_w, i32_w]
     rfl
    refine one_ (i := 12) (N := some 27) #[true, true, true, true, true, true, true, true, true, true, true, true, true, false, false] rfl rfl (one_of HT_.out (by kernel_rfl)) (by decide) (fun K hK => ?_)
    refine goes_ Try.func80 (by kernel_rfl) rfl #[.agg #[.int .u8 a0_0, .int .u32 a0_1]] (by rfl) rfl rfl (by (try simp only [List.map_toArray, List.map_cons, List.map_nil]); first | done | rfl) ?_
    with_reducible refine (fascicleref08_Size.calls kj2 a0_0 a0_1 t261 _ A11.out).mono ?_
    rintro e w13 ⟨rfl, hb⟩
    refine ⟨_, rfl, ?_⟩
    have n0_ := Aside0.mk (blk_below (g := gb258) (o := .cells #[.int .u8 a0_0, .int .u32 a0_1, .int .u64 a0_2, .int .i64 a0_3, .int .i64 a0_4] 57 (0, 0)) (by (with_reducible repeat (first | refine blk_drewN ?_ _ | refine blk_drew ?_ | refine blk_alloc ?_ _)); exact BK258.out) hb)
    have n1_ := Aside0.mk (below_step (by repeat (first | (with_reducible first | exact HB.out | apply below_alloc | apply pw_below_drewN | apply below_drew1 | refine below_set ?_ GE258.out) | exact HB.out)) hb)
    clear BK258
    clear HB
    have BK258 := n0_
    have HB := n1_
    clear n0_ n1_
    (try clear hb)
    (try clear hb2)
    (try clear hk)
    (try clear hi)
    refine hK.out _ _ ⟨(blk_cell BK258.out 0).trans rfl, (blk_cell BK258.out 1).trans rfl, (blk_cell BK258.out 2).trans rfl, (blk_cell BK258.out 3).trans rfl, (blk_cell BK258.out 4).trans rfl⟩ (fun hHeld => ?_)
    clear hK K
    refine norm_ (a' := ?_) ?_ ?_
    rotate_left
    ·
     show Act.put _ (some 27) _ = _
     simp only [Act.put, List.setIfInBounds_toArray, List.set_cons_zero, List.set_cons_succ, i64_w, i32_w]
     rfl
    refine pure_ (i := 13) (N := some 28) (v := ?_) (a' := ?_) #[true, true, true, true, true, true, true, true, true, true, true, true, true, true, false] rfl rfl (any_of HT_.out (by kernel_rfl)) (fun _ _ _ h => h) (Or.inl ⟨by rfl, ?_⟩) ?_ ?_
    rotate_left
    ·
     intro w'
     go_simp
     with_reducible rfl
    rotate_left
    ·
     simp only [Act.put, List.setIfInBounds_toArray, List.set_cons_zero, List.set_cons_succ, i64_w, i32_w]
     rfl
    refine pure_ (i := 14) (N := some 4) (v := ?_) (a' := ?_) #[true, true, true, true, true, true, true, true, true, true, true, true, true, true, true] rfl rfl (any_of HT_.out (by kernel_rfl)) (fun _ _ _ h => h) (Or.inl ⟨by rfl, ?_⟩) ?_ ?_
    rotate_left
    ·
     intro w'
     go_simp
     with_reducible rfl
    rotate_left
    ·
     simp only [Act.put, List.setIfInBounds_toArray, List.set_cons_zero, List.set_cons_succ, i64_w, i32_w]
     rfl
    refine done_ (done_of HT_.out (by kernel_rfl)) ?_
    try go_wp2
    go_ret
    exact ⟨by first | rfl | (simp [errW_none, errW_some] <;> rfl) | (simp [*, errW_none, errW_some] <;> rfl), by repeat (first | (with_reducible first | exact HB.out | apply below_alloc | apply pw_below_drewN | apply below_drew1 | refine below_set ?_ GE258.out) | exact HB.out)⟩

/-! ### fascicleref14_Take: function 36 -/
def fascicleref14_Take.f (a0_0 : Int) (a0_1 : Int) (a0_2 : Int) (a0_3 : Int) (a0_4 : Int) (a1 : Int) : Option (Int × Int × Int × Int × Int) := some (a0_0, a0_1, a0_2, wrap64 (a0_3 + a1), wrap64 (a0_4 + 1))
set_option maxHeartbeats 8000000 in
set_option maxRecDepth 100000 in
theorem fascicleref14_Take.calls (a0_0 : Int) (a0_1 : Int) (a0_2 : Int) (a0_3 : Int) (a0_4 : Int) (a1 : Int) (r1 : Int) (r2 : Int) (r3 : Int) (r4 : Int) (r5 : Int) (w : World) (h : fascicleref14_Take.f a0_0 a0_1 a0_2 a0_3 a0_4 a1 = some (r1, r2, r3, r4, r5)) :
  Calls Try.prog 36 #[.agg #[.int .u8 a0_0, .int .u32 a0_1, .int .u64 a0_2, .int .i64 a0_3, .int .i64 a0_4], .int .i64 a1] w fun e w' => e = .returned (.agg #[.int .u8 r1, .int .u32 r2, .int .u64 r3, .int .i64 r4, .int .i64 r5]) ∧ Below w.heap.size w w' := by
 have hu57 := Try.underlying57
 have HB := Aside0.mk (Below.refl w.heap.size w)
 have H : (some (a0_0, a0_1, a0_2, wrap64 (a0_3 + a1), wrap64 (a0_4 + 1))) = some (r1, r2, r3, r4, r5) := h
 clear h
 simp only [Option.some.injEq, Prod.mk.injEq] at H
 obtain ⟨rfl, rfl, rfl, rfl, rfl⟩ := H
 go_enter Try.func36, Try.ntmps36
 go_wp2_with (first | ((with_reducible refine gate_dst (N := 2) rfl ?_); refine box_event ?hg (N := 2) ?hd (cs := #[.int .u8 a0_0, .int .u32 a0_1, .int .u64 a0_2, .int .i64 a0_3, .int .i64 a0_4]) (t := 57) ?hr ?_; (case hd => rfl); (case hg => rfl); (case hr => first | (go_simp; done) | (go_simp; rfl)); intro gb262 hg w3 hbox hb; have n0_ := Aside0.mk (below_step (by repeat (with_reducible first | exact HB.out | apply below_alloc | apply pw_below_drewN | apply below_drew1)) hb); have n1_ := Aside0.mk (hbox); have n2_ := Aside0.mk ((by rw [hg]; exact (below_size (by repeat (with_reducible first | exact HB.out | apply below_alloc | apply pw_below_drewN | apply below_drew1))) : w.heap.size ≤ gb262)); have n3_ := Aside0.mk ((by rw [hg]; exact (below_size (by repeat (with_reducible first | exact HB.out | apply below_alloc | apply pw_below_drewN | apply below_drew1))) : w.heap.size ≤ gb262)); clear HB; have HB := n0_; have BK262 := n1_; have GW262 := n2_; have GE262 := n3_; clear n0_ n1_ n2_ n3_; clear hb hbox hg) | ((with_reducible refine gate_dst (N := 4) rfl ?_); refine box_event ?hg (N := 4) ?hd (cs := #[.int .u8 0, .int .u32 0, .int .u64 0, .int .i64 0, .int .i64 0]) (t := 57) ?hr ?_; (case hd => rfl); (case hg => rfl); (case hr => first | (go_simp; done) | (go_simp; rfl)); intro gb263 hg w4 hbox hb; have n0_ := Aside0.mk (blk_below (g := gb262) (o := .cells #[.int .u8 a0_0, .int .u32 a0_1, .int .u64 a0_2, .int .i64 a0_3, .int .i64 a0_4] 57 (0, 0)) (by (with_reducible repeat (first | refine blk_drewN ?_ _ | refine blk_drew ?_ | refine blk_alloc ?_ _)); exact BK262.out) hb); have n1_ := Aside0.mk (below_step (by repeat (first | (with_reducible first | exact HB.out | apply below_alloc | apply pw_below_drewN | apply below_drew1 | refine below_set ?_ GE262.out) | exact HB.out)) hb); have n2_ := Aside0.mk (hbox); have n3_ := Aside0.mk ((by rw [hg]; exact (below_size (by repeat (first | (with_reducible first | exact HB.out | apply below_alloc | apply pw_below_drewN | apply below_drew1 | refine below_set ?_ GE262.out) | exact HB.out))) : w.heap.size ≤ gb263)); have n4_ := Aside0.mk ((by rw [hg]; exact (below_size (by repeat (first | (with_reducible first | exact HB.out | apply below_alloc | apply pw_below_drewN | apply below_drew1 | refine below_set ?_ GE262.out) | exact HB.out))) : w.heap.size ≤ gb263)); have n5_ := Aside0.mk ((by rw [hg]; exact Nat.ne_of_lt (blk_lt (g := gb262) (o := .cells #[.int .u8 a0_0, .int .u32 a0_1, .int .u64 a0_2, .int .i64 a0_3, .int .i64 a0_4] 57 (0, 0)) (by (with_reducible repeat (first | refine blk_drewN ?_ _ | refine blk_drew ?_ | refine blk_alloc ?_ _)); exact BK262.out)) : gb262 ≠ gb263)); have n6_ := Aside0.mk ((by rw [hg]; exact Nat.ne_of_gt (blk_lt (g := gb262) (o := .cells #[.int .u8 a0_0, .int .u32 a0_1, .int .u64 a0_2, .int .i64 a0_3, .int .i64 a0_4] 57 (0, 0)) (by (with_reducible repeat (first | refine blk_drewN ?_ _ | refine blk_drew ?_ | refine blk_alloc ?_ _)); exact BK262.out)) : gb263 ≠ gb262)); clear BK262; clear HB; have BK262 := n0_; have HB := n1_; have BK263 := n2_; have GW263 := n3_; have GE263 := n4_; have NB262_263 := n5_; have NB263_262 := n6_; clear n0_ n1_ n2_ n3_ n4_ n5_ n6_; clear hb hbox hg; have hnb5 := NB262_263.out; have hnc5 := NB263_262.out; have hcz6_0 : w4.cell? ⟨gb262, 0, none⟩ = some (.int .u8 a0_0) := (blk_cell BK262.out 0).trans rfl; have hcz6_1 : w4.cell? ⟨gb262, 1, none⟩ = some (.int .u32 a0_1) := (blk_cell BK262.out 1).trans rfl; have hcz6_2 : w4.cell? ⟨gb262, 2, none⟩ = some (.int .u64 a0_2) := (blk_cell BK262.out 2).trans rfl; have hcz6_3 : w4.cell? ⟨gb262, 3, none⟩ = some (.int .i64 a0_3) := (blk_cell BK262.out 3).trans rfl; have hcz6_4 : w4.cell? ⟨gb262, 4, none⟩ = some (.int .i64 a0_4) := (blk_cell BK262.out 4).trans rfl; have hfz6_0 := blk_frozen BK262.out 0; have hfz6_1 := blk_frozen BK262.out 1; have hfz6_2 := blk_frozen BK262.out 2; have hfz6_3 := blk_frozen BK262.out 3; have hfz6_4 := blk_frozen BK262.out 4; have hcz7_0 : w4.cell? ⟨gb263, 0, none⟩ = some (.int .u8 0) := (blk_cell BK263.out 0).trans rfl; have hcz7_1 : w4.cell? ⟨gb263, 1, none⟩ = some (.int .u32 0) := (blk_cell BK263.out 1).trans rfl; have hcz7_2 : w4.cell? ⟨gb263, 2, none⟩ = some (.int .u64 0) := (blk_cell BK263.out 2).trans rfl; have hcz7_3 : w4.cell? ⟨gb263, 3, none⟩ = some (.int .i64 0) := (blk_cell BK263.out 3).trans rfl; have hcz7_4 : w4.cell? ⟨gb263, 4, none⟩ = some (.int .i64 0) := (blk_cell BK263.out 4).trans rfl; have hfz7_0 := blk_frozen BK263.out 0; have hfz7_1 := blk_frozen BK263.out 1; have hfz7_2 := blk_frozen BK263.out 2; have hfz7_3 := blk_frozen BK263.out 3; have hfz7_4 := blk_frozen BK263.out 4))
 refine bodyPost_ret (results_cell_row rfl _ _ gb263 57 #[.int .u8 a0_0, .int .u32 a0_1, .int .u64 a0_2, .int .i64 (wrap64 (a0_3 + a1)), .int .i64 (wrap64 (a0_4 + 1))] (0, 0) _ rfl (by (with_reducible repeat (first | refine blk_drewN ?_ _ | refine blk_drew ?_ | refine blk_alloc ?_ _)); refine blk_put (cs := #[.int .u8 a0_0, .int .u32 a0_1, .int .u64 a0_2, .int .i64 (wrap64 (a0_3 + a1)), .int .i64 0]) ?_ 4 _ rfl; (with_reducible repeat (first | refine blk_drewN ?_ _ | refine blk_drew ?_ | refine blk_alloc ?_ _)); refine blk_put (cs := #[.int .u8 a0_0, .int .u32 a0_1, .int .u64 a0_2, .int .i64 0, .int .i64 0]) ?_ 3 _ rfl; (with_reducible repeat (first | refine blk_drewN ?_ _ | refine blk_drew ?_ | refine blk_alloc ?_ _)); refine blk_put (cs := #[.int .u8 a0_0, .int .u32 a0_1, .int .u64 0, .int .i64 0, .int .i64 0]) ?_ 2 _ rfl; (with_reducible repeat (first | refine blk_drewN ?_ _ | refine blk_drew ?_ | refine blk_alloc ?_ _)); refine blk_put (cs := #[.int .u8 a0_0, .int .u32 0, .int .u64 0, .int .i64 0, .int .i64 0]) ?_ 1 _ rfl; (with_reducible repeat (first | refine blk_drewN ?_ _ | refine blk_drew ?_ | refine blk_alloc ?_ _)); refine blk_put (cs := #[.int .u8 0, .int .u32 0, .int .u64 0, .int .i64 0, .int .i64 0]) ?_ 0 _ rfl; (with_reducible repeat (first | refine blk_drewN ?_ _ | refine blk_drew ?_ | refine blk_alloc ?_ _)); refine blk_far ?_ NB263_262.out _; (with_reducible repeat (first | refine blk_drewN ?_ _ | refine blk_drew ?_ | refine blk_alloc ?_ _)); refine blk_far ?_ NB263_262.out _; (with_reducible repeat (first | refine blk_drewN ?_ _ | refine blk_drew ?_ | refine blk_alloc ?_ _)); exact BK263.out) Try.underlying57 rfl (by kernel_rfl)) rfl ?_
 exact ⟨by first | rfl | (simp [errW_none, errW_some] <;> rfl) | (simp [*, errW_none, errW_some] <;> rfl), by repeat (first | (with_reducible first | exact HB.out | apply below_alloc | apply pw_below_drewN | apply below_drew1 | refine below_set ?_ GE262.out | refine below_set ?_ GE263.out) | exact HB.out)⟩

/-! ### fascicleref08_May: function 44 -/
def fascicleref08_May.f (a0_0 : Int) (a0_1 : Int) : Option (Bool) := if a0_0 ≥ 12 then (if a0_0 ≤ 24 then (if a0_1 ≥ 1 then (some (decide (a0_1 ≤ 65536))) else (some false)) else (some false)) else (some false)
set_option maxHeartbeats 8000000 in
set_option maxRecDepth 100000 in
theorem fascicleref08_May.calls (a0_0 : Int) (a0_1 : Int) (r : Bool) (w : World) (h : fascicleref08_May.f a0_0 a0_1 = some r) :
  Calls Try.prog 44 #[.agg #[.int .u8 a0_0, .int .u32 a0_1]] w fun e w' => e = .returned (.bool r) ∧ Below w.heap.size w w' := by
 have hu49 := Try.underlying49
 have HB := Aside0.mk (Below.refl w.heap.size w)
 have H : (if a0_0 ≥ 12 then (if a0_0 ≤ 24 then (if a0_1 ≥ 1 then (some (decide (a0_1 ≤ 65536))) else (some false)) else (some false)) else (some false)) = some r := h
 clear h
 by_cases c2 : a0_0 ≥ 12
 ·
  rw [if_pos c2] at H
  have c2b0 : decide (12 ≤ a0_0) = true := decide_eq_true c2
  clear c2
  by_cases c3 : a0_0 ≤ 24
  ·
   rw [if_pos c3] at H
   have c3b0 : decide (a0_0 ≤ 24) = true := decide_eq_true c3
   clear c3
   by_cases c4 : a0_1 ≥ 1
   ·
    rw [if_pos c4] at H
    have c4b0 : decide (1 ≤ a0_1) = true := decide_eq_true c4
    clear c4
    obtain rfl := Option.some.inj H
    go_enter Try.func44, Try.ntmps44
    go_wp2_with (first | ((with_reducible refine gate_dst (N := 1) rfl ?_); refine box_event ?hg (N := 1) ?hd (cs := #[.int .u8 a0_0, .int .u32 a0_1]) (t := 49) ?hr ?_; (case hd => rfl); (case hg => rfl); (case hr => first | (go_simp; done) | (go_simp; rfl)); intro gb264 hg w5 hbox hb; have n0_ := Aside0.mk (below_step (by repeat (with_reducible first | exact HB.out | apply below_alloc | apply pw_below_drewN | apply below_drew1)) hb); have n1_ := Aside0.mk (hbox); have n2_ := Aside0.mk ((by rw [hg]; exact (below_size (by repeat (with_reducible first | exact HB.out | apply below_alloc | apply pw_below_drewN | apply below_drew1))) : w.heap.size ≤ gb264)); have n3_ := Aside0.mk ((by rw [hg]; exact (below_size (by repeat (with_reducible first | exact HB.out | apply below_alloc | apply pw_below_drewN | apply below_drew1))) : w.heap.size ≤ gb264)); clear HB; have HB := n0_; have BK264 := n1_; have GW264 := n2_; have GE264 := n3_; clear n0_ n1_ n2_ n3_; clear hb hbox hg; have hcz6_0 : w5.cell? ⟨gb264, 0, none⟩ = some (.int .u8 a0_0) := (blk_cell BK264.out 0).trans rfl; have hcz6_1 : w5.cell? ⟨gb264, 1, none⟩ = some (.int .u32 a0_1) := (blk_cell BK264.out 1).trans rfl; have hfz6_0 := blk_frozen BK264.out 0; have hfz6_1 := blk_frozen BK264.out 1))
    go_ret
    exact ⟨by first | rfl | (simp [errW_none, errW_some] <;> rfl) | (simp [*, errW_none, errW_some] <;> rfl), by repeat (first | (with_reducible first | exact HB.out | apply below_alloc | apply pw_below_drewN | apply below_drew1 | refine below_set ?_ GE264.out) | exact HB.out)⟩
   ·
    rw [if_neg c4] at H
    have c4b0 : decide (1 ≤ a0_1) = false := decide_eq_false c4
    clear c4
    obtain rfl := Option.some.inj H
    go_enter Try.func44, Try.ntmps44
    go_wp2_with (first | ((with_reducible refine gate_dst (N := 1) rfl ?_); refine box_event ?hg (N := 1) ?hd (cs := #[.int .u8 a0_0, .int .u32 a0_1]) (t := 49) ?hr ?_; (case hd => rfl); (case hg => rfl); (case hr => first | (go_simp; done) | (go_simp; rfl)); intro gb264 hg w7 hbox hb; have n0_ := Aside0.mk (below_step (by repeat (with_reducible first | exact HB.out | apply below_alloc | apply pw_below_drewN | apply below_drew1)) hb); have n1_ := Aside0.mk (hbox); have n2_ := Aside0.mk ((by rw [hg]; exact (below_size (by repeat (with_reducible first | exact HB.out | apply below_alloc | apply pw_below_drewN | apply below_drew1))) : w.heap.size ≤ gb264)); have n3_ := Aside0.mk ((by rw [hg]; exact (below_size (by repeat (with_reducible first | exact HB.out | apply below_alloc | apply pw_below_drewN | apply below_drew1))) : w.heap.size ≤ gb264)); clear HB; have HB := n0_; have BK264 := n1_; have GW264 := n2_; have GE264 := n3_; clear n0_ n1_ n2_ n3_; clear hb hbox hg; have hcz8_0 : w7.cell? ⟨gb264, 0, none⟩ = some (.int .u8 a0_0) := (blk_cell BK264.out 0).trans rfl; have hcz8_1 : w7.cell? ⟨gb264, 1, none⟩ = some (.int .u32 a0_1) := (blk_cell BK264.out 1).trans rfl; have hfz8_0 := blk_frozen BK264.out 0; have hfz8_1 := blk_frozen BK264.out 1))
    go_ret
    exact ⟨by first | rfl | (simp [errW_none, errW_some] <;> rfl) | (simp [*, errW_none, errW_some] <;> rfl), by repeat (first | (with_reducible first | exact HB.out | apply below_alloc | apply pw_below_drewN | apply below_drew1 | refine below_set ?_ GE264.out) | exact HB.out)⟩
  ·
   rw [if_neg c3] at H
   have c3b0 : decide (a0_0 ≤ 24) = false := decide_eq_false c3
   clear c3
   obtain rfl := Option.some.inj H
   go_enter Try.func44, Try.ntmps44
   go_wp2_with (first | ((with_reducible refine gate_dst (N := 1) rfl ?_); refine box_event ?hg (N := 1) ?hd (cs := #[.int .u8 a0_0, .int .u32 a0_1]) (t := 49) ?hr ?_; (case hd => rfl); (case hg => rfl); (case hr => first | (go_simp; done) | (go_simp; rfl)); intro gb264 hg w9 hbox hb; have n0_ := Aside0.mk (below_step (by repeat (with_reducible first | exact HB.out | apply below_alloc | apply pw_below_drewN | apply below_drew1)) hb); have n1_ := Aside0.mk (hbox); have n2_ := Aside0.mk ((by rw [hg]; exact (below_size (by repeat (with_reducible first | exact HB.out | apply below_alloc | apply pw_below_drewN | apply below_drew1))) : w.heap.size ≤ gb264)); have n3_ := Aside0.mk ((by rw [hg]; exact (below_size (by repeat (with_reducible first | exact HB.out | apply below_alloc | apply pw_below_drewN | apply below_drew1))) : w.heap.size ≤ gb264)); clear HB; have HB := n0_; have BK264 := n1_; have GW264 := n2_; have GE264 := n3_; clear n0_ n1_ n2_ n3_; clear hb hbox hg; have hcz10_0 : w9.cell? ⟨gb264, 0, none⟩ = some (.int .u8 a0_0) := (blk_cell BK264.out 0).trans rfl; have hcz10_1 : w9.cell? ⟨gb264, 1, none⟩ = some (.int .u32 a0_1) := (blk_cell BK264.out 1).trans rfl; have hfz10_0 := blk_frozen BK264.out 0; have hfz10_1 := blk_frozen BK264.out 1))
   go_ret
   exact ⟨by first | rfl | (simp [errW_none, errW_some] <;> rfl) | (simp [*, errW_none, errW_some] <;> rfl), by repeat (first | (with_reducible first | exact HB.out | apply below_alloc | apply pw_below_drewN | apply below_drew1 | refine below_set ?_ GE264.out) | exact HB.out)⟩
 ·
  rw [if_neg c2] at H
  have c2b0 : decide (12 ≤ a0_0) = false := decide_eq_false c2
  clear c2
  obtain rfl := Option.some.inj H
  go_enter Try.func44, Try.ntmps44
  go_wp2_with (first | ((with_reducible refine gate_dst (N := 1) rfl ?_); refine box_event ?hg (N := 1) ?hd (cs := #[.int .u8 a0_0, .int .u32 a0_1]) (t := 49) ?hr ?_; (case hd => rfl); (case hg => rfl); (case hr => first | (go_simp; done) | (go_simp; rfl)); intro gb264 hg w11 hbox hb; have n0_ := Aside0.mk (below_step (by repeat (with_reducible first | exact HB.out | apply below_alloc | apply pw_below_drewN | apply below_drew1)) hb); have n1_ := Aside0.mk (hbox); have n2_ := Aside0.mk ((by rw [hg]; exact (below_size (by repeat (with_reducible first | exact HB.out | apply below_alloc | apply pw_below_drewN | apply below_drew1))) : w.heap.size ≤ gb264)); have n3_ := Aside0.mk ((by rw [hg]; exact (below_size (by repeat (with_reducible first | exact HB.out | apply below_alloc | apply pw_below_drewN | apply below_drew1))) : w.heap.size ≤ gb264)); clear HB; have HB := n0_; have BK264 := n1_; have GW264 := n2_; have GE264 := n3_; clear n0_ n1_ n2_ n3_; clear hb hbox hg; have hcz12_0 : w11.cell? ⟨gb264, 0, none⟩ = some (.int .u8 a0_0) := (blk_cell BK264.out 0).trans rfl; have hcz12_1 : w11.cell? ⟨gb264, 1, none⟩ = some (.int .u32 a0_1) := (blk_cell BK264.out 1).trans rfl; have hfz12_0 := blk_frozen BK264.out 0; have hfz12_1 := blk_frozen BK264.out 1))
  go_ret
  exact ⟨by first | rfl | (simp [errW_none, errW_some] <;> rfl) | (simp [*, errW_none, errW_some] <;> rfl), by repeat (first | (with_reducible first | exact HB.out | apply below_alloc | apply pw_below_drewN | apply below_drew1 | refine below_set ?_ GE264.out) | exact HB.out)⟩

/-! ### fascicleref14_Plan: function 38 -/
def fascicleref14_Plan.l0 : Nat → List Int → List Int → Int → Int → Int → Int → Int → Int → Int → Int → Int → Int → Int → Int → Int → Int → Option (List Int × Int)
 | 0, _, _, _, _, _, _, _, _, _, _, _, _, _, _, _, _ => none
 | k + 1, x8, x22, x23, x24, x266000, x266001, x273000, x273001, x273002, x273003, x273004, x279000, x279001, x279002, x279003, x279004 => if x24 < x23 then (if 0 ≤ x24 then (if x24 < (x22.length : Int) then ((fascicleref14_Fits.f k x279000 x279001 x279002 x279003 x279004 (rd x22 x24)).bind fun t280 => (if t280 = true then ((fascicleref14_Fits.f k x273000 x273001 x273002 x273003 x273004 (rd x22 x24)).bind fun t281 => (if t281 = true then ((fascicleref14_Take.f x273000 x273001 x273002 x273003 x273004 (rd x22 x24)).bind fun bt282 => (if x8.length < 17592186044416 then (fascicleref14_Plan.l0 k (x8 ++ [bt282.2.2.1]) x22 x23 (wrap64 (x24 + 1)) x266000 x266001 bt282.1 bt282.2.1 bt282.2.2.1 bt282.2.2.2.1 bt282.2.2.2.2 x279000 x279001 x279002 x279003 x279004) else (none))) else (if (IntKind.u64.wrap (x273002 + 1)) ≥ (IntKind.u64.wrap (x266001)) then (some (([] : List Int), 7)) else ((fascicleref14_Empty.f k x266000 x266001 (IntKind.u64.wrap (x273002 + 1))).bind fun bt290 => ((fascicleref14_Take.f bt290.1 bt290.2.1 bt290.2.2.1 bt290.2.2.2.1 bt290.2.2.2.2 (rd x22 x24)).bind fun bt295 => (if x8.length < 17592186044416 then (fascicleref14_Plan.l0 k (x8 ++ [bt295.2.2.1]) x22 x23 (wrap64 (x24 + 1)) x266000 x266001 bt295.1 bt295.2.1 bt295.2.2.1 bt295.2.2.2.1 bt295.2.2.2.2 x279000 x279001 x279002 x279003 x279004) else (none))))))) else (some (([] : List Int), 6)))) else (none)) else (none)) else (some (x8, 0))
def fascicleref14_Plan.f (k : Nat) (a0_0 : Int) (a0_1 : Int) (l1 : List Int) : Option (List Int × Int) := (fascicleref08_May.f a0_0 a0_1).bind fun t266 => (if t266 = true then ((fascicleref14_Empty.f k a0_0 a0_1 0).bind fun bt267 => ((fascicleref14_Empty.f k a0_0 a0_1 (IntKind.u64.wrap ((IntKind.u64.wrap (a0_1)) - 1))).bind fun bt273 => (fascicleref14_Plan.l0 k ([] : List Int) l1 (l1.length : Int) 0 a0_0 a0_1 bt267.1 bt267.2.1 bt267.2.2.1 bt267.2.2.2.1 bt267.2.2.2.2 bt273.1 bt273.2.1 bt273.2.2.1 bt273.2.2.2.1 bt273.2.2.2.2))) else (some (([] : List Int), 1)))
theorem fascicleref14_Plan.mono_l : ∀ k, (∀ y0 y1 y2 y3 y4 y5 y6 y7 y8 y9 y10 y11 y12 y13 y14 y15, LeO (fascicleref14_Plan.l0 k y0 y1 y2 y3 y4 y5 y6 y7 y8 y9 y10 y11 y12 y13 y14 y15) (fascicleref14_Plan.l0 (k + 1) y0 y1 y2 y3 y4 y5 y6 y7 y8 y9 y10 y11 y12 y13 y14 y15))
 | 0 => fun _ _ _ _ _ _ _ _ _ _ _ _ _ _ _ _ r h => by simp [fascicleref14_Plan.l0] at h
 | k + 1 => by
  have ih0 := fascicleref14_Plan.mono_l k
  ·
   intro y0 y1 y2 y3 y4 y5 y6 y7 y8 y9 y10 y11 y12 y13 y14 y15
   unfold fascicleref14_Plan.l0
   repeat' first
   | (with_reducible exact ih0 _ _ _ _ _ _ _ _ _ _ _ _ _ _ _ _)
   | (with_reducible exact fascicleref14_Empty.mono _ _ _ _)
   | (with_reducible exact fascicleref14_Fits.mono _ _ _ _ _ _ _)
   | (with_reducible exact LeO.refl _)
   | (with_reducible exact LeO.none _)
   | (with_reducible refine LeO.ite ?_ ?_)
   | (with_reducible refine LeO.bind ?_ (fun _ => ?_))
   | exact ih0 _ _ _ _ _ _ _ _ _ _ _ _ _ _ _ _
   | exact fascicleref14_Empty.mono _ _ _ _
   | exact fascicleref14_Fits.mono _ _ _ _ _ _ _
   | exact LeO.none _
   | refine LeO.ite ?_ ?_
   | refine LeO.bind ?_ (fun _ => ?_)
theorem fascicleref14_Plan.mono : ∀ a0 a1 a2 k, LeO (fascicleref14_Plan.f k a0 a1 a2) (fascicleref14_Plan.f (k + 1) a0 a1 a2) := by
 intro a0 a1 a2 k
 have ih0 := fascicleref14_Plan.mono_l k
 unfold fascicleref14_Plan.f
 repeat' first
   | (with_reducible exact ih0 _ _ _ _ _ _ _ _ _ _ _ _ _ _ _ _)
   | (with_reducible exact fascicleref14_Empty.mono _ _ _ _)
   | (with_reducible exact fascicleref14_Fits.mono _ _ _ _ _ _ _)
   | (with_reducible exact LeO.refl _)
   | (with_reducible exact LeO.none _)
   | (with_reducible refine LeO.ite ?_ ?_)
   | (with_reducible refine LeO.bind ?_ (fun _ => ?_))
   | exact ih0 _ _ _ _ _ _ _ _ _ _ _ _ _ _ _ _
   | exact fascicleref14_Empty.mono _ _ _ _
   | exact fascicleref14_Fits.mono _ _ _ _ _ _ _
   | exact LeO.none _
   | refine LeO.ite ?_ ?_
   | refine LeO.bind ?_ (fun _ => ?_)
set_option maxHeartbeats 8000000 in
set_option maxRecDepth 100000 in
theorem fascicleref14_Plan.calls (k : Nat) (a0_0 : Int) (a0_1 : Int) (A1 : Option Addr) (c1 : Nat) (l1 : List Int) (r1 : List Int) (r2 : Int) (w : World) (hr1 : Kd.C (Kd.int .i64) w A1 l1.length l1) (hc1 : l1.length ≤ c1) (h : fascicleref14_Plan.f k a0_0 a0_1 l1 = some (r1, r2)) :
  Calls Try.prog 38 #[.agg #[.int .u8 a0_0, .int .u32 a0_1], .slice A1 l1.length c1] w fun e w' => ∃ v0_ : Value, e = .returned (.tuple #[v0_, .int .i64 r2]) ∧ Kd.R (Kd.int .u64) 39 w' w.heap.size (fun _ => True) v0_ r1 ∧ Below w.heap.size w w' := by
 have hu49 := Try.underlying49
 have hu57 := Try.underlying57
 have HR1 := Aside0.mk hr1
 have HC1 := Aside0.mk hc1
 clear hr1 hc1
 have HB := Aside0.mk (Below.refl w.heap.size w)
 have H : ((fascicleref08_May.f a0_0 a0_1).bind fun t266 => (if t266 = true then ((fascicleref14_Empty.f k a0_0 a0_1 0).bind fun bt267 => ((fascicleref14_Empty.f k a0_0 a0_1 (IntKind.u64.wrap ((IntKind.u64.wrap (a0_1)) - 1))).bind fun bt273 => (fascicleref14_Plan.l0 k ([] : List Int) l1 (l1.length : Int) 0 a0_0 a0_1 bt267.1 bt267.2.1 bt267.2.2.1 bt267.2.2.2.1 bt267.2.2.2.2 bt273.1 bt273.2.1 bt273.2.2.1 bt273.2.2.2.1 bt273.2.2.2.2))) else (some (([] : List Int), 1)))) = some (r1, r2) := h
 clear h
 replace H := Option.bind_eq_some_iff.mp H
 obtain ⟨t266, A30, H⟩ := H
 replace H : (if t266 = true then ((fascicleref14_Empty.f k a0_0 a0_1 0).bind fun bt267 => ((fascicleref14_Empty.f k a0_0 a0_1 (IntKind.u64.wrap ((IntKind.u64.wrap (a0_1)) - 1))).bind fun bt273 => (fascicleref14_Plan.l0 k ([] : List Int) l1 (l1.length : Int) 0 a0_0 a0_1 bt267.1 bt267.2.1 bt267.2.2.1 bt267.2.2.2.1 bt267.2.2.2.2 bt273.1 bt273.2.1 bt273.2.2.1 bt273.2.2.2.1 bt273.2.2.2.2))) else (some (([] : List Int), 1))) = some (r1, r2) := H
 have A3 := Aside0.mk A30
 clear A30
 by_cases c4 : t266 = true
 ·
  subst c4
  have H1 : ((fascicleref14_Empty.f k a0_0 a0_1 0).bind fun bt267 => ((fascicleref14_Empty.f k a0_0 a0_1 (IntKind.u64.wrap ((IntKind.u64.wrap (a0_1)) - 1))).bind fun bt273 => (fascicleref14_Plan.l0 k ([] : List Int) l1 (l1.length : Int) 0 a0_0 a0_1 bt267.1 bt267.2.1 bt267.2.2.1 bt267.2.2.2.1 bt267.2.2.2.2 bt273.1 bt273.2.1 bt273.2.2.1 bt273.2.2.2.1 bt273.2.2.2.2))) = some (r1, r2) := by rw [if_pos rfl] at H; exact H
  clear H
  have H := H1
  clear H1
  replace H := Option.bind_eq_some_iff.mp H
  obtain ⟨⟨t267, t268, t269, t270, t271⟩, A50, H⟩ := H
  replace H : ((fascicleref14_Empty.f k a0_0 a0_1 (IntKind.u64.wrap ((IntKind.u64.wrap (a0_1)) - 1))).bind fun bt273 => (fascicleref14_Plan.l0 k ([] : List Int) l1 (l1.length : Int) 0 a0_0 a0_1 t267 t268 t269 t270 t271 bt273.1 bt273.2.1 bt273.2.2.1 bt273.2.2.2.1 bt273.2.2.2.2)) = some (r1, r2) := H
  have A5 := Aside0.mk A50
  clear A50
  replace H := Option.bind_eq_some_iff.mp H
  obtain ⟨⟨t273, t274, t275, t276, t277⟩, A60, H⟩ := H
  replace H : (fascicleref14_Plan.l0 k ([] : List Int) l1 (l1.length : Int) 0 a0_0 a0_1 t267 t268 t269 t270 t271 t273 t274 t275 t276 t277) = some (r1, r2) := H
  have A6 := Aside0.mk A60
  clear A60
  have H' := Aside0.mk H
  clear H
  go_enter Try.func38, Try.ntmps38
  go_wp2_with (first | ((with_reducible refine gate_dst (N := 2) rfl ?_); refine box_event ?hg (N := 2) ?hd (cs := #[.int .u8 a0_0, .int .u32 a0_1]) (t := 49) ?hr ?_; (case hd => rfl); (case hg => rfl); (case hr => first | (go_simp; done) | (go_simp; rfl)); intro gb265 hg w7 hbox hb; have n0_ := Aside0.mk (below_step (by repeat (with_reducible first | exact HB.out | apply below_alloc | apply pw_below_drewN | apply below_drew1)) hb); have n1_ := Aside0.mk (hbox); have n2_ := Aside0.mk ((by rw [hg]; exact (below_size (by repeat (with_reducible first | exact HB.out | apply below_alloc | apply pw_below_drewN | apply below_drew1))) : w.heap.size ≤ gb265)); have n3_ := Aside0.mk ((by rw [hg]; exact (below_size (by repeat (with_reducible first | exact HB.out | apply below_alloc | apply pw_below_drewN | apply below_drew1))) : w.heap.size ≤ gb265)); clear HB; have HB := n0_; have BK265 := n1_; have GW265 := n2_; have GE265 := n3_; clear n0_ n1_ n2_ n3_; clear hb hbox hg; have hcz8_0 : w7.cell? ⟨gb265, 0, none⟩ = some (.int .u8 a0_0) := (blk_cell BK265.out 0).trans rfl; have hcz8_1 : w7.cell? ⟨gb265, 1, none⟩ = some (.int .u32 a0_1) := (blk_cell BK265.out 1).trans rfl; have hfz8_0 := blk_frozen BK265.out 0; have hfz8_1 := blk_frozen BK265.out 1) | ((with_reducible refine gate_callee (f := 44) rfl ?_); refine goesL_ (some 12) rfl rfl Try.func44 (by kernel_rfl) rfl #[.agg #[.int .u8 a0_0, .int .u32 a0_1]] rfl (by (try simp only [List.map_toArray, List.map_cons, List.map_nil]); first | done | rfl) ?_; (with_reducible refine (fascicleref08_May.calls a0_0 a0_1 true _ A3.out).mono ?_); rintro e w9 ⟨rfl, hb⟩; refine ⟨_, rfl, ?_⟩; have n0_ := Aside0.mk (blk_below (g := gb265) (o := .cells #[.int .u8 a0_0, .int .u32 a0_1] 49 (0, 0)) (by (with_reducible repeat (first | refine blk_drewN ?_ _ | refine blk_drew ?_ | refine blk_alloc ?_ _)); exact BK265.out) hb); have n1_ := Aside0.mk (below_step (by repeat (first | (with_reducible first | exact HB.out | apply below_alloc | apply pw_below_drewN | apply below_drew1 | refine below_set ?_ GE265.out) | exact HB.out)) hb); clear BK265; clear HB; have BK265 := n0_; have HB := n1_; clear n0_ n1_; (try clear hb); (try clear hb2); (try clear hk); (try clear hi); have hcz10_0 : w9.cell? ⟨gb265, 0, none⟩ = some (.int .u8 a0_0) := (blk_cell BK265.out 0).trans rfl; have hcz10_1 : w9.cell? ⟨gb265, 1, none⟩ = some (.int .u32 a0_1) := (blk_cell BK265.out 1).trans rfl; have hfz10_0 := blk_frozen BK265.out 0; have hfz10_1 := blk_frozen BK265.out 1) | ((with_reducible refine gate_callee (f := 31) rfl ?_); refine goesL_ (some 15) rfl rfl Try.func31 (by kernel_rfl) rfl #[.agg #[.int .u8 a0_0, .int .u32 a0_1], .int .u64 0] rfl (by (try simp only [List.map_toArray, List.map_cons, List.map_nil]); first | done | rfl) ?_; (with_reducible refine (fascicleref14_Empty.calls k a0_0 a0_1 0 t267 t268 t269 t270 t271 _ A5.out).mono ?_); rintro e w11 ⟨rfl, hb⟩; refine ⟨_, rfl, ?_⟩; have n0_ := Aside0.mk (blk_below (g := gb265) (o := .cells #[.int .u8 a0_0, .int .u32 a0_1] 49 (0, 0)) (by (with_reducible repeat (first | refine blk_drewN ?_ _ | refine blk_drew ?_ | refine blk_alloc ?_ _)); exact BK265.out) hb); have n1_ := Aside0.mk (below_step (by repeat (first | (with_reducible first | exact HB.out | apply below_alloc | apply pw_below_drewN | apply below_drew1 | refine below_set ?_ GE265.out) | exact HB.out)) hb); clear BK265; clear HB; have BK265 := n0_; have HB := n1_; clear n0_ n1_; (try clear hb); (try clear hb2); (try clear hk); (try clear hi)) | ((with_reducible refine gate_dst (N := 6) rfl ?_); refine box_event ?hg (N := 6) ?hd (cs := #[.int .u8 0, .int .u32 0, .int .u64 0, .int .i64 0, .int .i64 0]) (t := 57) ?hr ?_; (case hd => rfl); (case hg => rfl); (case hr => first | (go_simp; done) | (go_simp; rfl)); intro gb272 hg w12 hbox hb; have n0_ := Aside0.mk (blk_below (g := gb265) (o := .cells #[.int .u8 a0_0, .int .u32 a0_1] 49 (0, 0)) (by (with_reducible repeat (first | refine blk_drewN ?_ _ | refine blk_drew ?_ | refine blk_alloc ?_ _)); exact BK265.out) hb); have n1_ := Aside0.mk (below_step (by repeat (first | (with_reducible first | exact HB.out | apply below_alloc | apply pw_below_drewN | apply below_drew1 | refine below_set ?_ GE265.out) | exact HB.out)) hb); have n2_ := Aside0.mk (hbox); have n3_ := Aside0.mk ((by rw [hg]; exact (below_size (by repeat (first | (with_reducible first | exact HB.out | apply below_alloc | apply pw_below_drewN | apply below_drew1 | refine below_set ?_ GE265.out) | exact HB.out))) : w.heap.size ≤ gb272)); have n4_ := Aside0.mk ((by rw [hg]; exact (below_size (by repeat (first | (with_reducible first | exact HB.out | apply below_alloc | apply pw_below_drewN | apply below_drew1 | refine below_set ?_ GE265.out) | exact HB.out))) : w.heap.size ≤ gb272)); have n5_ := Aside0.mk ((by rw [hg]; exact Nat.ne_of_lt (blk_lt (g := gb265) (o := .cells #[.int .u8 a0_0, .int .u32 a0_1] 49 (0, 0)) (by (with_reducible repeat (first | refine blk_drewN ?_ _ | refine blk_drew ?_ | refine blk_alloc ?_ _)); exact BK265.out)) : gb265 ≠ gb272)); have n6_ := Aside0.mk ((by rw [hg]; exact Nat.ne_of_gt (blk_lt (g := gb265) (o := .cells #[.int .u8 a0_0, .int .u32 a0_1] 49 (0, 0)) (by (with_reducible repeat (first | refine blk_drewN ?_ _ | refine blk_drew ?_ | refine blk_alloc ?_ _)); exact BK265.out)) : gb272 ≠ gb265)); clear BK265; clear HB; have BK265 := n0_; have HB := n1_; have BK272 := n2_; have GW272 := n3_; have GE272 := n4_; have NB265_272 := n5_; have NB272_265 := n6_; clear n0_ n1_ n2_ n3_ n4_ n5_ n6_; clear hb hbox hg; have hnb13 := NB272_265.out; have hnc13 := NB265_272.out; have hcz14_0 : w12.cell? ⟨gb272, 0, none⟩ = some (.int .u8 0) := (blk_cell BK272.out 0).trans rfl; have hcz14_1 : w12.cell? ⟨gb272, 1, none⟩ = some (.int .u32 0) := (blk_cell BK272.out 1).trans rfl; have hcz14_2 : w12.cell? ⟨gb272, 2, none⟩ = some (.int .u64 0) := (blk_cell BK272.out 2).trans rfl; have hcz14_3 : w12.cell? ⟨gb272, 3, none⟩ = some (.int .i64 0) := (blk_cell BK272.out 3).trans rfl; have hcz14_4 : w12.cell? ⟨gb272, 4, none⟩ = some (.int .i64 0) := (blk_cell BK272.out 4).trans rfl; have hfz14_0 := blk_frozen BK272.out 0; have hfz14_1 := blk_frozen BK272.out 1; have hfz14_2 := blk_frozen BK272.out 2; have hfz14_3 := blk_frozen BK272.out 3; have hfz14_4 := blk_frozen BK272.out 4; have hcz15_0 : w12.cell? ⟨gb265, 0, none⟩ = some (.int .u8 a0_0) := (blk_cell BK265.out 0).trans rfl; have hcz15_1 : w12.cell? ⟨gb265, 1, none⟩ = some (.int .u32 a0_1) := (blk_cell BK265.out 1).trans rfl; have hfz15_0 := blk_frozen BK265.out 0; have hfz15_1 := blk_frozen BK265.out 1) | ((with_reducible refine gate_callee (f := 31) rfl ?_); refine goesL_ (some 21) rfl rfl Try.func31 (by kernel_rfl) rfl #[.agg #[.int .u8 a0_0, .int .u32 a0_1], .int .u64 (IntKind.u64.wrap ((IntKind.u64.wrap (a0_1)) - 1))] rfl (by (try simp only [List.map_toArray, List.map_cons, List.map_nil]); first | done | rfl) ?_; (with_reducible refine (fascicleref14_Empty.calls k a0_0 a0_1 (IntKind.u64.wrap ((IntKind.u64.wrap (a0_1)) - 1)) t273 t274 t275 t276 t277 _ A6.out).mono ?_); rintro e w16 ⟨rfl, hb⟩; refine ⟨_, rfl, ?_⟩; have n0_ := Aside0.mk (blk_below (g := gb265) (o := .cells #[.int .u8 a0_0, .int .u32 a0_1] 49 (0, 0)) (by (with_reducible repeat (first | refine blk_drewN ?_ _ | refine blk_drew ?_ | refine blk_alloc ?_ _)); refine blk_far ?_ NB265_272.out _; (with_reducible repeat (first | refine blk_drewN ?_ _ | refine blk_drew ?_ | refine blk_alloc ?_ _)); refine blk_far ?_ NB265_272.out _; (with_reducible repeat (first | refine blk_drewN ?_ _ | refine blk_drew ?_ | refine blk_alloc ?_ _)); refine blk_far ?_ NB265_272.out _; (with_reducible repeat (first | refine blk_drewN ?_ _ | refine blk_drew ?_ | refine blk_alloc ?_ _)); refine blk_far ?_ NB265_272.out _; (with_reducible repeat (first | refine blk_drewN ?_ _ | refine blk_drew ?_ | refine blk_alloc ?_ _)); refine blk_far ?_ NB265_272.out _; (with_reducible repeat (first | refine blk_drewN ?_ _ | refine blk_drew ?_ | refine blk_alloc ?_ _)); exact BK265.out) hb); have n1_ := Aside0.mk (blk_below (g := gb272) (o := .cells #[.int .u8 t267, .int .u32 t268, .int .u64 t269, .int .i64 t270, .int .i64 t271] 57 (0, 0)) (by (with_reducible repeat (first | refine blk_drewN ?_ _ | refine blk_drew ?_ | refine blk_alloc ?_ _)); refine blk_put (cs := #[.int .u8 t267, .int .u32 t268, .int .u64 t269, .int .i64 t270, .int .i64 0]) ?_ 4 _ rfl; (with_reducible repeat (first | refine blk_drewN ?_ _ | refine blk_drew ?_ | refine blk_alloc ?_ _)); refine blk_put (cs := #[.int .u8 t267, .int .u32 t268, .int .u64 t269, .int .i64 0, .int .i64 0]) ?_ 3 _ rfl; (with_reducible repeat (first | refine blk_drewN ?_ _ | refine blk_drew ?_ | refine blk_alloc ?_ _)); refine blk_put (cs := #[.int .u8 t267, .int .u32 t268, .int .u64 0, .int .i64 0, .int .i64 0]) ?_ 2 _ rfl; (with_reducible repeat (first | refine blk_drewN ?_ _ | refine blk_drew ?_ | refine blk_alloc ?_ _)); refine blk_put (cs := #[.int .u8 t267, .int .u32 0, .int .u64 0, .int .i64 0, .int .i64 0]) ?_ 1 _ rfl; (with_reducible repeat (first | refine blk_drewN ?_ _ | refine blk_drew ?_ | refine blk_alloc ?_ _)); refine blk_put (cs := #[.int .u8 0, .int .u32 0, .int .u64 0, .int .i64 0, .int .i64 0]) ?_ 0 _ rfl; (with_reducible repeat (first | refine blk_drewN ?_ _ | refine blk_drew ?_ | refine blk_alloc ?_ _)); exact BK272.out) hb); have n2_ := Aside0.mk (below_step (by repeat (first | (with_reducible first | exact HB.out | apply below_alloc | apply pw_below_drewN | apply below_drew1 | refine below_set ?_ GE265.out | refine below_set ?_ GE272.out) | exact HB.out)) hb); clear BK265; clear BK272; clear HB; have BK265 := n0_; have BK272 := n1_; have HB := n2_; clear n0_ n1_ n2_; (try clear hb); (try clear hb2); (try clear hk); (try clear hi)) | ((with_reducible refine gate_dst (N := 7) rfl ?_); refine box_event ?hg (N := 7) ?hd (cs := #[.int .u8 0, .int .u32 0, .int .u64 0, .int .i64 0, .int .i64 0]) (t := 57) ?hr ?_; (case hd => rfl); (case hg => rfl); (case hr => first | (go_simp; done) | (go_simp; rfl)); intro gb278 hg w17 hbox hb; have n0_ := Aside0.mk (blk_below (g := gb265) (o := .cells #[.int .u8 a0_0, .int .u32 a0_1] 49 (0, 0)) (by (with_reducible repeat (first | refine blk_drewN ?_ _ | refine blk_drew ?_ | refine blk_alloc ?_ _)); exact BK265.out) hb); have n1_ := Aside0.mk (blk_below (g := gb272) (o := .cells #[.int .u8 t267, .int .u32 t268, .int .u64 t269, .int .i64 t270, .int .i64 t271] 57 (0, 0)) (by (with_reducible repeat (first | refine blk_drewN ?_ _ | refine blk_drew ?_ | refine blk_alloc ?_ _)); exact BK272.out) hb); have n2_ := Aside0.mk (below_step (by repeat (first | (with_reducible first | exact HB.out | apply below_alloc | apply pw_below_drewN | apply below_drew1 | refine below_set ?_ GE265.out | refine below_set ?_ GE272.out) | exact HB.out)) hb); have n3_ := Aside0.mk (hbox); have n4_ := Aside0.mk ((by rw [hg]; exact (below_size (by repeat (first | (with_reducible first | exact HB.out | apply below_alloc | apply pw_below_drewN | apply below_drew1 | refine below_set ?_ GE265.out | refine below_set ?_ GE272.out) | exact HB.out))) : w.heap.size ≤ gb278)); have n5_ := Aside0.mk ((by rw [hg]; exact (below_size (by repeat (first | (with_reducible first | exact HB.out | apply below_alloc | apply pw_below_drewN | apply below_drew1 | refine below_set ?_ GE265.out | refine below_set ?_ GE272.out) | exact HB.out))) : w.heap.size ≤ gb278)); have n6_ := Aside0.mk ((by rw [hg]; exact Nat.ne_of_lt (blk_lt (g := gb265) (o := .cells #[.int .u8 a0_0, .int .u32 a0_1] 49 (0, 0)) (by (with_reducible repeat (first | refine blk_drewN ?_ _ | refine blk_drew ?_ | refine blk_alloc ?_ _)); exact BK265.out)) : gb265 ≠ gb278)); have n7_ := Aside0.mk ((by rw [hg]; exact Nat.ne_of_gt (blk_lt (g := gb265) (o := .cells #[.int .u8 a0_0, .int .u32 a0_1] 49 (0, 0)) (by (with_reducible repeat (first | refine blk_drewN ?_ _ | refine blk_drew ?_ | refine blk_alloc ?_ _)); exact BK265.out)) : gb278 ≠ gb265)); have n8_ := Aside0.mk ((by rw [hg]; exact Nat.ne_of_lt (blk_lt (g := gb272) (o := .cells #[.int .u8 t267, .int .u32 t268, .int .u64 t269, .int .i64 t270, .int .i64 t271] 57 (0, 0)) (by (with_reducible repeat (first | refine blk_drewN ?_ _ | refine blk_drew ?_ | refine blk_alloc ?_ _)); exact BK272.out)) : gb272 ≠ gb278)); have n9_ := Aside0.mk ((by rw [hg]; exact Nat.ne_of_gt (blk_lt (g := gb272) (o := .cells #[.int .u8 t267, .int .u32 t268, .int .u64 t269, .int .i64 t270, .int .i64 t271] 57 (0, 0)) (by (with_reducible repeat (first | refine blk_drewN ?_ _ | refine blk_drew ?_ | refine blk_alloc ?_ _)); exact BK272.out)) : gb278 ≠ gb272)); clear BK265; clear BK272; clear HB; have BK265 := n0_; have BK272 := n1_; have HB := n2_; have BK278 := n3_; have GW278 := n4_; have GE278 := n5_; have NB265_278 := n6_; have NB278_265 := n7_; have NB272_278 := n8_; have NB278_272 := n9_; clear n0_ n1_ n2_ n3_ n4_ n5_ n6_ n7_ n8_ n9_; clear hb hbox hg; have hnb18 := NB278_265.out; have hnc18 := NB265_278.out; have hnb19 := NB278_272.out; have hnc19 := NB272_278.out; have hcz20_0 : w17.cell? ⟨gb278, 0, none⟩ = some (.int .u8 0) := (blk_cell BK278.out 0).trans rfl; have hcz20_1 : w17.cell? ⟨gb278, 1, none⟩ = some (.int .u32 0) := (blk_cell BK278.out 1).trans rfl; have hcz20_2 : w17.cell? ⟨gb278, 2, none⟩ = some (.int .u64 0) := (blk_cell BK278.out 2).trans rfl; have hcz20_3 : w17.cell? ⟨gb278, 3, none⟩ = some (.int .i64 0) := (blk_cell BK278.out 3).trans rfl; have hcz20_4 : w17.cell? ⟨gb278, 4, none⟩ = some (.int .i64 0) := (blk_cell BK278.out 4).trans rfl; have hfz20_0 := blk_frozen BK278.out 0; have hfz20_1 := blk_frozen BK278.out 1; have hfz20_2 := blk_frozen BK278.out 2; have hfz20_3 := blk_frozen BK278.out 3; have hfz20_4 := blk_frozen BK278.out 4))
  go_loopg [8, 24] k (fun kq v8 v24 w' => ∃ (x8_1 : List Int) (x24_1 : Int) (x273000_1 : Int) (x273001_1 : Int) (x273002_1 : Int) (x273003_1 : Int) (x273004_1 : Int), v24 = .int .i64 x24_1 ∧ Aside0 (fascicleref14_Plan.l0 kq x8_1 l1 (l1.length : Int) x24_1 a0_0 a0_1 x273000_1 x273001_1 x273002_1 x273003_1 x273004_1 t273 t274 t275 t276 t277 = some (r1, r2)) ∧ Aside0 (kq ≤ k) ∧ Aside0 (Kd.R (Kd.int .u64) 39 w' w.heap.size (fun _ => True) v8 x8_1) ∧ Aside0 (w'.heap[gb265]? = some (.cells #[.int .u8 a0_0, .int .u32 a0_1] 49 (0, 0))) ∧ Aside0 (w'.heap[gb272]? = some (.cells #[.int .u8 x273000_1, .int .u32 x273001_1, .int .u64 x273002_1, .int .i64 x273003_1, .int .i64 x273004_1] 57 (0, 0))) ∧ Aside0 (w'.heap[gb278]? = some (.cells #[.int .u8 t273, .int .u32 t274, .int .u64 t275, .int .i64 t276, .int .i64 t277] 57 (0, 0))) ∧ Aside0 (Below w.heap.size w w'))
  case atStart => exact ⟨(([] : List Int)), (0), (t267), (t268), (t269), (t270), (t271), (by first | rfl | (simp; done) | (simp [*]; done) | (simp; exact (fun l : List UInt8 => (by cases l <;> rfl : l.isEmpty = !(l != ([] : List UInt8)))) _)), H', ⟨Nat.le_refl _⟩, ⟨by first | exact Kd.R_nil _ _ _ _ _ | exact Kd.N_nil _ _ _ _ _ | exact Kd.V_nil _ _ _ _ _ | exact Kd.Q_nil _ _ _ _ _ | exact Kd.S_nil _ _ _ _ _⟩, ⟨by (with_reducible repeat (first | refine blk_drewN ?_ _ | refine blk_drew ?_ | refine blk_alloc ?_ _)); refine blk_far ?_ NB265_278.out _; (with_reducible repeat (first | refine blk_drewN ?_ _ | refine blk_drew ?_ | refine blk_alloc ?_ _)); refine blk_far ?_ NB265_278.out _; (with_reducible repeat (first | refine blk_drewN ?_ _ | refine blk_drew ?_ | refine blk_alloc ?_ _)); refine blk_far ?_ NB265_278.out _; (with_reducible repeat (first | refine blk_drewN ?_ _ | refine blk_drew ?_ | refine blk_alloc ?_ _)); refine blk_far ?_ NB265_278.out _; (with_reducible repeat (first | refine blk_drewN ?_ _ | refine blk_drew ?_ | refine blk_alloc ?_ _)); refine blk_far ?_ NB265_278.out _; (with_reducible repeat (first | refine blk_drewN ?_ _ | refine blk_drew ?_ | refine blk_alloc ?_ _)); exact BK265.out⟩, ⟨by (with_reducible repeat (first | refine blk_drewN ?_ _ | refine blk_drew ?_ | refine blk_alloc ?_ _)); refine blk_far ?_ NB272_278.out _; (with_reducible repeat (first | refine blk_drewN ?_ _ | refine blk_drew ?_ | refine blk_alloc ?_ _)); refine blk_far ?_ NB272_278.out _; (with_reducible repeat (first | refine blk_drewN ?_ _ | refine blk_drew ?_ | refine blk_alloc ?_ _)); refine blk_far ?_ NB272_278.out _; (with_reducible repeat (first | refine blk_drewN ?_ _ | refine blk_drew ?_ | refine blk_alloc ?_ _)); refine blk_far ?_ NB272_278.out _; (with_reducible repeat (first | refine blk_drewN ?_ _ | refine blk_drew ?_ | refine blk_alloc ?_ _)); refine blk_far ?_ NB272_278.out _; (with_reducible repeat (first | refine blk_drewN ?_ _ | refine blk_drew ?_ | refine blk_alloc ?_ _)); exact BK272.out⟩, ⟨by (with_reducible repeat (first | refine blk_drewN ?_ _ | refine blk_drew ?_ | refine blk_alloc ?_ _)); refine blk_put (cs := #[.int .u8 t273, .int .u32 t274, .int .u64 t275, .int .i64 t276, .int .i64 0]) ?_ 4 _ rfl; (with_reducible repeat (first | refine blk_drewN ?_ _ | refine blk_drew ?_ | refine blk_alloc ?_ _)); refine blk_put (cs := #[.int .u8 t273, .int .u32 t274, .int .u64 t275, .int .i64 0, .int .i64 0]) ?_ 3 _ rfl; (with_reducible repeat (first | refine blk_drewN ?_ _ | refine blk_drew ?_ | refine blk_alloc ?_ _)); refine blk_put (cs := #[.int .u8 t273, .int .u32 t274, .int .u64 0, .int .i64 0, .int .i64 0]) ?_ 2 _ rfl; (with_reducible repeat (first | refine blk_drewN ?_ _ | refine blk_drew ?_ | refine blk_alloc ?_ _)); refine blk_put (cs := #[.int .u8 t273, .int .u32 0, .int .u64 0, .int .i64 0, .int .i64 0]) ?_ 1 _ rfl; (with_reducible repeat (first | refine blk_drewN ?_ _ | refine blk_drew ?_ | refine blk_alloc ?_ _)); refine blk_put (cs := #[.int .u8 0, .int .u32 0, .int .u64 0, .int .i64 0, .int .i64 0]) ?_ 0 _ rfl; (with_reducible repeat (first | refine blk_drewN ?_ _ | refine blk_drew ?_ | refine blk_alloc ?_ _)); exact BK278.out⟩, ⟨by repeat (first | (with_reducible first | exact HB.out | apply below_alloc | apply pw_below_drewN | apply below_drew1 | refine below_set ?_ GE265.out | refine below_set ?_ GE272.out | refine below_set ?_ GE278.out) | exact HB.out)⟩⟩
  case round =>
   clear H'
   try clear c1
   try clear p2
   try clear c3
   try clear c4
   try clear c13
   try clear c18
   try clear c19
   try clear hcz10_0
   try clear hcz10_1
   try clear hcz14_0
   try clear hcz14_1
   try clear hcz14_2
   try clear hcz14_3
   try clear hcz14_4
   try clear hcz15_0
   try clear hcz15_1
   try clear hcz20_0
   try clear hcz20_1
   try clear hcz20_2
   try clear hcz20_3
   try clear hcz20_4
   try clear hcz8_0
   try clear hcz8_1
   try clear hfz10_0
   try clear hfz10_1
   try clear hfz14_0
   try clear hfz14_1
   try clear hfz14_2
   try clear hfz14_3
   try clear hfz14_4
   try clear hfz15_0
   try clear hfz15_1
   try clear hfz20_0
   try clear hfz20_1
   try clear hfz20_2
   try clear hfz20_3
   try clear hfz20_4
   try clear hfz8_0
   try clear hfz8_1
   obtain ⟨x8_1, x24_1, x273000_1, x273001_1, x273002_1, x273003_1, x273004_1, rfl, HA, HK1, HO_8, BK265, BK272, BK278, HB⟩ := hrel
   cases gk with
   | zero => exact absurd HA.out (by simp [fascicleref14_Plan.l0])
   | succ k1 =>
    have H := HA.out
    clear HA
    simp only [fascicleref14_Plan.l0] at H
    by_cases c21 : x24_1 < (l1.length : Int)
    ·
     rw [if_pos c21] at H
     have c21b0 : decide (x24_1 < (l1.length : Int)) = true := decide_eq_true c21
     clear c21
     by_cases c22 : 0 ≤ x24_1
     ·
      rw [if_pos c22] at H
      have c22b0 : decide (0 ≤ x24_1) = true := decide_eq_true c22
      clear c22
      by_cases c23 : x24_1 < (l1.length : Int)
      ·
       rw [if_pos c23] at H
       have c23b0 : decide (x24_1 < (l1.length : Int)) = true := decide_eq_true c23
       clear c23
       replace H := Option.bind_eq_some_iff.mp H
       obtain ⟨t280, A240, H⟩ := H
       replace H : (if t280 = true then ((fascicleref14_Fits.f k1 x273000_1 x273001_1 x273002_1 x273003_1 x273004_1 (rd l1 x24_1)).bind fun t281 => (if t281 = true then ((fascicleref14_Take.f x273000_1 x273001_1 x273002_1 x273003_1 x273004_1 (rd l1 x24_1)).bind fun bt282 => (if x8_1.length < 17592186044416 then (fascicleref14_Plan.l0 k1 (x8_1 ++ [bt282.2.2.1]) l1 (l1.length : Int) (wrap64 (x24_1 + 1)) a0_0 a0_1 bt282.1 bt282.2.1 bt282.2.2.1 bt282.2.2.2.1 bt282.2.2.2.2 t273 t274 t275 t276 t277) else (none))) else (if (IntKind.u64.wrap (x273002_1 + 1)) ≥ (IntKind.u64.wrap (a0_1)) then (some (([] : List Int), 7)) else ((fascicleref14_Empty.f k1 a0_0 a0_1 (IntKind.u64.wrap (x273002_1 + 1))).bind fun bt290 => ((fascicleref14_Take.f bt290.1 bt290.2.1 bt290.2.2.1 bt290.2.2.2.1 bt290.2.2.2.2 (rd l1 x24_1)).bind fun bt295 => (if x8_1.length < 17592186044416 then (fascicleref14_Plan.l0 k1 (x8_1 ++ [bt295.2.2.1]) l1 (l1.length : Int) (wrap64 (x24_1 + 1)) a0_0 a0_1 bt295.1 bt295.2.1 bt295.2.2.1 bt295.2.2.2.1 bt295.2.2.2.2 t273 t274 t275 t276 t277) else (none))))))) else (some (([] : List Int), 6))) = some (r1, r2) := H
       have A24 := Aside0.mk A240
       clear A240
       by_cases c25 : t280 = true
       ·
        subst c25
        have H1 : ((fascicleref14_Fits.f k1 x273000_1 x273001_1 x273002_1 x273003_1 x273004_1 (rd l1 x24_1)).bind fun t281 => (if t281 = true then ((fascicleref14_Take.f x273000_1 x273001_1 x273002_1 x273003_1 x273004_1 (rd l1 x24_1)).bind fun bt282 => (if x8_1.length < 17592186044416 then (fascicleref14_Plan.l0 k1 (x8_1 ++ [bt282.2.2.1]) l1 (l1.length : Int) (wrap64 (x24_1 + 1)) a0_0 a0_1 bt282.1 bt282.2.1 bt282.2.2.1 bt282.2.2.2.1 bt282.2.2.2.2 t273 t274 t275 t276 t277) else (none))) else (if (IntKind.u64.wrap (x273002_1 + 1)) ≥ (IntKind.u64.wrap (a0_1)) then (some (([] : List Int), 7)) else ((fascicleref14_Empty.f k1 a0_0 a0_1 (IntKind.u64.wrap (x273002_1 + 1))).bind fun bt290 => ((fascicleref14_Take.f bt290.1 bt290.2.1 bt290.2.2.1 bt290.2.2.2.1 bt290.2.2.2.2 (rd l1 x24_1)).bind fun bt295 => (if x8_1.length < 17592186044416 then (fascicleref14_Plan.l0 k1 (x8_1 ++ [bt295.2.2.1]) l1 (l1.length : Int) (wrap64 (x24_1 + 1)) a0_0 a0_1 bt295.1 bt295.2.1 bt295.2.2.1 bt295.2.2.2.1 bt295.2.2.2.2 t273 t274 t275 t276 t277) else (none))))))) = some (r1, r2) := by rw [if_pos rfl] at H; exact H
        clear H
        have H := H1
        clear H1
        replace H := Option.bind_eq_some_iff.mp H
        obtain ⟨t281, A260, H⟩ := H
        replace H : (if t281 = true then ((fascicleref14_Take.f x273000_1 x273001_1 x273002_1 x273003_1 x273004_1 (rd l1 x24_1)).bind fun bt282 => (if x8_1.length < 17592186044416 then (fascicleref14_Plan.l0 k1 (x8_1 ++ [bt282.2.2.1]) l1 (l1.length : Int) (wrap64 (x24_1 + 1)) a0_0 a0_1 bt282.1 bt282.2.1 bt282.2.2.1 bt282.2.2.2.1 bt282.2.2.2.2 t273 t274 t275 t276 t277) else (none))) else (if (IntKind.u64.wrap (x273002_1 + 1)) ≥ (IntKind.u64.wrap (a0_1)) then (some (([] : List Int), 7)) else ((fascicleref14_Empty.f k1 a0_0 a0_1 (IntKind.u64.wrap (x273002_1 + 1))).bind fun bt290 => ((fascicleref14_Take.f bt290.1 bt290.2.1 bt290.2.2.1 bt290.2.2.2.1 bt290.2.2.2.2 (rd l1 x24_1)).bind fun bt295 => (if x8_1.length < 17592186044416 then (fascicleref14_Plan.l0 k1 (x8_1 ++ [bt295.2.2.1]) l1 (l1.length : Int) (wrap64 (x24_1 + 1)) a0_0 a0_1 bt295.1 bt295.2.1 bt295.2.2.1 bt295.2.2.2.1 bt295.2.2.2.2 t273 t274 t275 t276 t277) else (none)))))) = some (r1, r2) := H
        have A26 := Aside0.mk A260
        clear A260
        by_cases c27 : t281 = true
        ·
         subst c27
         have H1 : ((fascicleref14_Take.f x273000_1 x273001_1 x273002_1 x273003_1 x273004_1 (rd l1 x24_1)).bind fun bt282 => (if x8_1.length < 17592186044416 then (fascicleref14_Plan.l0 k1 (x8_1 ++ [bt282.2.2.1]) l1 (l1.length : Int) (wrap64 (x24_1 + 1)) a0_0 a0_1 bt282.1 bt282.2.1 bt282.2.2.1 bt282.2.2.2.1 bt282.2.2.2.2 t273 t274 t275 t276 t277) else (none))) = some (r1, r2) := by rw [if_pos rfl] at H; exact H
         clear H
         have H := H1
         clear H1
         replace H := Option.bind_eq_some_iff.mp H
         obtain ⟨⟨t282, t283, t284, t285, t286⟩, A280, H⟩ := H
         replace H : (if x8_1.length < 17592186044416 then (fascicleref14_Plan.l0 k1 (x8_1 ++ [t284]) l1 (l1.length : Int) (wrap64 (x24_1 + 1)) a0_0 a0_1 t282 t283 t284 t285 t286 t273 t274 t275 t276 t277) else (none)) = some (r1, r2) := H
         have A28 := Aside0.mk A280
         clear A280
         by_cases c29 : x8_1.length < 17592186044416
         ·
          rw [if_pos c29] at H
          have LMc29 := Aside0.mk c29
          clear c29
          obtain ⟨y287, hy287⟩ : ∃ y_ : List Int, y_ = (x8_1 ++ [t284]) := ⟨_, rfl⟩
          replace H : (fascicleref14_Plan.l0 k1 y287 l1 (l1.length : Int) (wrap64 (x24_1 + 1)) a0_0 a0_1 t282 t283 t284 t285 t286 t273 t274 t275 t276 t277) = some (r1, r2) := by first | (rw [hy287]; with_reducible exact H) | (have H2_ := (Option.bind_some _ _).symm.trans H; rw [hy287]; with_reducible exact H2_) | (have H2_ := (Option.bind_some _ _).symm.trans H; with_reducible exact H2_) | with_reducible exact H | (rw [hy287]; exact H) | exact H
          have Ny287 := Aside0.mk hy287
          clear hy287
          have H' := Aside0.mk H
          clear H
          have p279 : 0 ≤ (x24_1 : Int) := of_decide_eq_true (by first | (with_reducible assumption) | assumption)
          have q279 : x24_1 < (l1.length : Int) := of_decide_eq_true (by first | (with_reducible assumption) | assumption)
          obtain ⟨ad279, e279, hx279_0⟩ := Kd.at_int HR1.out x24_1 p279 q279
          cases e279
          replace hx279_0 := (HB.out.cell (World.block_lt_of_cell? w _ hx279_0)).trans hx279_0
          replace p279 := eq_true p279
          replace q279 := eq_true q279
          have hnb30 := NB278_265.out
          have hnc30 := NB265_278.out
          have hnb31 := NB278_272.out
          have hnc31 := NB272_278.out
          have hcz32_0 : wr.cell? ⟨gb278, 0, none⟩ = some (.int .u8 t273) := (blk_cell BK278.out 0).trans rfl
          have hcz32_1 : wr.cell? ⟨gb278, 1, none⟩ = some (.int .u32 t274) := (blk_cell BK278.out 1).trans rfl
          have hcz32_2 : wr.cell? ⟨gb278, 2, none⟩ = some (.int .u64 t275) := (blk_cell BK278.out 2).trans rfl
          have hcz32_3 : wr.cell? ⟨gb278, 3, none⟩ = some (.int .i64 t276) := (blk_cell BK278.out 3).trans rfl
          have hcz32_4 : wr.cell? ⟨gb278, 4, none⟩ = some (.int .i64 t277) := (blk_cell BK278.out 4).trans rfl
          have hfz32_0 := blk_frozen BK278.out 0
          have hfz32_1 := blk_frozen BK278.out 1
          have hfz32_2 := blk_frozen BK278.out 2
          have hfz32_3 := blk_frozen BK278.out 3
          have hfz32_4 := blk_frozen BK278.out 4
          go_wp2_with (first | ((with_reducible refine gate_callee (f := 33) rfl ?_); refine goesL_ (some 30) rfl rfl Try.func33 (by kernel_rfl) rfl #[.agg #[.int .u8 t273, .int .u32 t274, .int .u64 t275, .int .i64 t276, .int .i64 t277], .int .i64 (rd l1 x24_1)] rfl (by (try simp only [List.map_toArray, List.map_cons, List.map_nil]); first | done | rfl) ?_; (with_reducible refine (fascicleref14_Fits.calls k1 t273 t274 t275 t276 t277 (rd l1 x24_1) true _ A24.out).mono ?_); rintro e w33 ⟨rfl, hb⟩; refine ⟨_, rfl, ?_⟩; have n0_ := Aside0.mk (Kd.R_below (by (with_reducible repeat (first | apply Kd.R_alloc | apply Kd.R_drewN | apply Kd.R_drew)); exact HO_8.out) hb); have n1_ := Aside0.mk (blk_below (g := gb265) (o := .cells #[.int .u8 a0_0, .int .u32 a0_1] 49 (0, 0)) (by (with_reducible repeat (first | refine blk_drewN ?_ _ | refine blk_drew ?_ | refine blk_alloc ?_ _)); exact BK265.out) hb); have n2_ := Aside0.mk (blk_below (g := gb272) (o := .cells #[.int .u8 x273000_1, .int .u32 x273001_1, .int .u64 x273002_1, .int .i64 x273003_1, .int .i64 x273004_1] 57 (0, 0)) (by (with_reducible repeat (first | refine blk_drewN ?_ _ | refine blk_drew ?_ | refine blk_alloc ?_ _)); exact BK272.out) hb); have n3_ := Aside0.mk (blk_below (g := gb278) (o := .cells #[.int .u8 t273, .int .u32 t274, .int .u64 t275, .int .i64 t276, .int .i64 t277] 57 (0, 0)) (by (with_reducible repeat (first | refine blk_drewN ?_ _ | refine blk_drew ?_ | refine blk_alloc ?_ _)); exact BK278.out) hb); have n4_ := Aside0.mk (below_step (by repeat (first | (with_reducible first | exact HB.out | apply below_alloc | apply pw_below_drewN | apply below_drew1 | refine below_set ?_ GE265.out | refine below_set ?_ GE272.out | refine below_set ?_ GE278.out) | exact HB.out)) hb); clear HO_8; clear BK265; clear BK272; clear BK278; clear HB; have HO_8 := n0_; have BK265 := n1_; have BK272 := n2_; have BK278 := n3_; have HB := n4_; clear n0_ n1_ n2_ n3_ n4_; (try clear hb); (try clear hb2); (try clear hk); (try clear hi); have hnb34 := NB272_265.out; have hnc34 := NB265_272.out; have hcz35_0 : w33.cell? ⟨gb272, 0, none⟩ = some (.int .u8 x273000_1) := (blk_cell BK272.out 0).trans rfl; have hcz35_1 : w33.cell? ⟨gb272, 1, none⟩ = some (.int .u32 x273001_1) := (blk_cell BK272.out 1).trans rfl; have hcz35_2 : w33.cell? ⟨gb272, 2, none⟩ = some (.int .u64 x273002_1) := (blk_cell BK272.out 2).trans rfl; have hcz35_3 : w33.cell? ⟨gb272, 3, none⟩ = some (.int .i64 x273003_1) := (blk_cell BK272.out 3).trans rfl; have hcz35_4 : w33.cell? ⟨gb272, 4, none⟩ = some (.int .i64 x273004_1) := (blk_cell BK272.out 4).trans rfl; have hfz35_0 := blk_frozen BK272.out 0; have hfz35_1 := blk_frozen BK272.out 1; have hfz35_2 := blk_frozen BK272.out 2; have hfz35_3 := blk_frozen BK272.out 3; have hfz35_4 := blk_frozen BK272.out 4) | ((with_reducible refine gate_callee (f := 33) rfl ?_); refine goesL_ (some 34) rfl rfl Try.func33 (by kernel_rfl) rfl #[.agg #[.int .u8 x273000_1, .int .u32 x273001_1, .int .u64 x273002_1, .int .i64 x273003_1, .int .i64 x273004_1], .int .i64 (rd l1 x24_1)] rfl (by (try simp only [List.map_toArray, List.map_cons, List.map_nil]); first | done | rfl) ?_; (with_reducible refine (fascicleref14_Fits.calls k1 x273000_1 x273001_1 x273002_1 x273003_1 x273004_1 (rd l1 x24_1) true _ A26.out).mono ?_); rintro e w36 ⟨rfl, hb⟩; refine ⟨_, rfl, ?_⟩; have n0_ := Aside0.mk (Kd.R_below (by (with_reducible repeat (first | apply Kd.R_alloc | apply Kd.R_drewN | apply Kd.R_drew)); exact HO_8.out) hb); have n1_ := Aside0.mk (blk_below (g := gb265) (o := .cells #[.int .u8 a0_0, .int .u32 a0_1] 49 (0, 0)) (by (with_reducible repeat (first | refine blk_drewN ?_ _ | refine blk_drew ?_ | refine blk_alloc ?_ _)); exact BK265.out) hb); have n2_ := Aside0.mk (blk_below (g := gb272) (o := .cells #[.int .u8 x273000_1, .int .u32 x273001_1, .int .u64 x273002_1, .int .i64 x273003_1, .int .i64 x273004_1] 57 (0, 0)) (by (with_reducible repeat (first | refine blk_drewN ?_ _ | refine blk_drew ?_ | refine blk_alloc ?_ _)); exact BK272.out) hb); have n3_ := Aside0.mk (blk_below (g := gb278) (o := .cells #[.int .u8 t273, .int .u32 t274, .int .u64 t275, .int .i64 t276, .int .i64 t277] 57 (0, 0)) (by (with_reducible repeat (first | refine blk_drewN ?_ _ | refine blk_drew ?_ | refine blk_alloc ?_ _)); exact BK278.out) hb); have n4_ := Aside0.mk (below_step (by repeat (first | (with_reducible first | exact HB.out | apply below_alloc | apply pw_below_drewN | apply below_drew1 | refine below_set ?_ GE265.out | refine below_set ?_ GE272.out | refine below_set ?_ GE278.out) | exact HB.out)) hb); clear HO_8; clear BK265; clear BK272; clear BK278; clear HB; have HO_8 := n0_; have BK265 := n1_; have BK272 := n2_; have BK278 := n3_; have HB := n4_; clear n0_ n1_ n2_ n3_ n4_; (try clear hb); (try clear hb2); (try clear hk); (try clear hi); have hcz37_0 : w36.cell? ⟨gb272, 0, none⟩ = some (.int .u8 x273000_1) := (blk_cell BK272.out 0).trans rfl; have hcz37_1 : w36.cell? ⟨gb272, 1, none⟩ = some (.int .u32 x273001_1) := (blk_cell BK272.out 1).trans rfl; have hcz37_2 : w36.cell? ⟨gb272, 2, none⟩ = some (.int .u64 x273002_1) := (blk_cell BK272.out 2).trans rfl; have hcz37_3 : w36.cell? ⟨gb272, 3, none⟩ = some (.int .i64 x273003_1) := (blk_cell BK272.out 3).trans rfl; have hcz37_4 : w36.cell? ⟨gb272, 4, none⟩ = some (.int .i64 x273004_1) := (blk_cell BK272.out 4).trans rfl; have hfz37_0 := blk_frozen BK272.out 0; have hfz37_1 := blk_frozen BK272.out 1; have hfz37_2 := blk_frozen BK272.out 2; have hfz37_3 := blk_frozen BK272.out 3; have hfz37_4 := blk_frozen BK272.out 4) | ((with_reducible refine gate_callee (f := 36) rfl ?_); refine goesL_ (some 50) rfl rfl Try.func36 (by kernel_rfl) rfl #[.agg #[.int .u8 x273000_1, .int .u32 x273001_1, .int .u64 x273002_1, .int .i64 x273003_1, .int .i64 x273004_1], .int .i64 (rd l1 x24_1)] rfl (by (try simp only [List.map_toArray, List.map_cons, List.map_nil]); first | done | rfl) ?_; (with_reducible refine (fascicleref14_Take.calls x273000_1 x273001_1 x273002_1 x273003_1 x273004_1 (rd l1 x24_1) t282 t283 t284 t285 t286 _ A28.out).mono ?_); rintro e w38 ⟨rfl, hb⟩; refine ⟨_, rfl, ?_⟩; have n0_ := Aside0.mk (Kd.R_below (by (with_reducible repeat (first | apply Kd.R_alloc | apply Kd.R_drewN | apply Kd.R_drew)); exact HO_8.out) hb); have n1_ := Aside0.mk (blk_below (g := gb265) (o := .cells #[.int .u8 a0_0, .int .u32 a0_1] 49 (0, 0)) (by (with_reducible repeat (first | refine blk_drewN ?_ _ | refine blk_drew ?_ | refine blk_alloc ?_ _)); exact BK265.out) hb); have n2_ := Aside0.mk (blk_below (g := gb272) (o := .cells #[.int .u8 x273000_1, .int .u32 x273001_1, .int .u64 x273002_1, .int .i64 x273003_1, .int .i64 x273004_1] 57 (0, 0)) (by (with_reducible repeat (first | refine blk_drewN ?_ _ | refine blk_drew ?_ | refine blk_alloc ?_ _)); exact BK272.out) hb); have n3_ := Aside0.mk (blk_below (g := gb278) (o := .cells #[.int .u8 t273, .int .u32 t274, .int .u64 t275, .int .i64 t276, .int .i64 t277] 57 (0, 0)) (by (with_reducible repeat (first | refine blk_drewN ?_ _ | refine blk_drew ?_ | refine blk_alloc ?_ _)); exact BK278.out) hb); have n4_ := Aside0.mk (below_step (by repeat (first | (with_reducible first | exact HB.out | apply below_alloc | apply pw_below_drewN | apply below_drew1 | refine below_set ?_ GE265.out | refine below_set ?_ GE272.out | refine below_set ?_ GE278.out) | exact HB.out)) hb); clear HO_8; clear BK265; clear BK272; clear BK278; clear HB; have HO_8 := n0_; have BK265 := n1_; have BK272 := n2_; have BK278 := n3_; have HB := n4_; clear n0_ n1_ n2_ n3_ n4_; (try clear hb); (try clear hb2); (try clear hk); (try clear hi); have hcz39_0 : w38.cell? ⟨gb272, 0, none⟩ = some (.int .u8 x273000_1) := (blk_cell BK272.out 0).trans rfl; have hcz39_1 : w38.cell? ⟨gb272, 1, none⟩ = some (.int .u32 x273001_1) := (blk_cell BK272.out 1).trans rfl; have hcz39_2 : w38.cell? ⟨gb272, 2, none⟩ = some (.int .u64 x273002_1) := (blk_cell BK272.out 2).trans rfl; have hcz39_3 : w38.cell? ⟨gb272, 3, none⟩ = some (.int .i64 x273003_1) := (blk_cell BK272.out 3).trans rfl; have hcz39_4 : w38.cell? ⟨gb272, 4, none⟩ = some (.int .i64 x273004_1) := (blk_cell BK272.out 4).trans rfl; have hfz39_0 := blk_frozen BK272.out 0; have hfz39_1 := blk_frozen BK272.out 1; have hfz39_2 := blk_frozen BK272.out 2; have hfz39_3 := blk_frozen BK272.out 3; have hfz39_4 := blk_frozen BK272.out 4) | ((with_reducible refine gate_builtin (b := .append) (xs := #[.tmp 51, .tmp 54]) rfl ?_); at_builtin; refine Kd.R_append (Kd.int .u64) (w0 := w) w.heap.size rfl (.tmp 51) (.tmp 54) 26 39 (.int .u64 0) 8 rfl Try.underlying26 info39 rfl (by decide) (by omega) u8 x8_1 t284 [.int .u64 t284] (fun _ => True) (fun _ => False) rfl (by first | (go_simp; done) | (go_simp; rfl)) ?aP (fun _ hk => hk.elim) ?aF ?aO ?aB ?aS ?aL ?_; (case aP => exact rfl); (case aB => exact (by repeat (first | (with_reducible first | exact HB.out | apply below_alloc | apply pw_below_drewN | apply below_drew1 | refine below_set ?_ GE265.out | refine below_set ?_ GE272.out | refine below_set ?_ GE278.out) | exact HB.out))); (case aF => exact (fun _ _ => trivial)); (case aO => exact (by (with_reducible repeat (first | apply Kd.R_alloc | apply Kd.R_drewN | apply Kd.R_drew)); exact Kd.R_mono (Kd.R_far (p := ⟨gb272, 4, none⟩) (Kd.R_far (p := ⟨gb272, 3, none⟩) (Kd.R_far (p := ⟨gb272, 2, none⟩) (Kd.R_far (p := ⟨gb272, 1, none⟩) (Kd.R_far (p := ⟨gb272, 0, none⟩) (Kd.R_types HO_8.out BK272.out (by decide)) (fun _ hk => by first | exact hk.2 | exact hk) (.int .u8 t282)) (fun _ hk => by first | exact hk.2 | exact hk) (.int .u32 t283)) (fun _ hk => by first | exact hk.2 | exact hk) (.int .u64 t284)) (fun _ hk => by first | exact hk.2 | exact hk) (.int .i64 t285)) (fun _ hk => by first | exact hk.2 | exact hk) (.int .i64 t286)) (fun _ hk => trivial))); (case aS => exact (below_size (by repeat (first | (with_reducible first | exact HB.out | apply below_alloc | apply pw_below_drewN | apply below_drew1 | refine below_set ?_ GE265.out | refine below_set ?_ GE272.out | refine below_set ?_ GE278.out) | exact HB.out)))); (case aL => have := LMc29.out; omega); intro v288 w40 ho hb hg hat; rw [← Ny287.out] at ho; have n0_ := Aside0.mk (blk_grown (g := gb265) (o := .cells #[.int .u8 a0_0, .int .u32 a0_1] 49 (0, 0)) (by (with_reducible repeat (first | refine blk_drewN ?_ _ | refine blk_drew ?_ | refine blk_alloc ?_ _)); refine blk_far ?_ NB265_272.out _; (with_reducible repeat (first | refine blk_drewN ?_ _ | refine blk_drew ?_ | refine blk_alloc ?_ _)); refine blk_far ?_ NB265_272.out _; (with_reducible repeat (first | refine blk_drewN ?_ _ | refine blk_drew ?_ | refine blk_alloc ?_ _)); refine blk_far ?_ NB265_272.out _; (with_reducible repeat (first | refine blk_drewN ?_ _ | refine blk_drew ?_ | refine blk_alloc ?_ _)); refine blk_far ?_ NB265_272.out _; (with_reducible repeat (first | refine blk_drewN ?_ _ | refine blk_drew ?_ | refine blk_alloc ?_ _)); refine blk_far ?_ NB265_272.out _; (with_reducible repeat (first | refine blk_drewN ?_ _ | refine blk_drew ?_ | refine blk_alloc ?_ _)); exact BK265.out) hg (Kd.R_ne HO_8.out BK265.out (by decide))); have n1_ := Aside0.mk (blk_grown (g := gb272) (o := .cells #[.int .u8 t282, .int .u32 t283, .int .u64 t284, .int .i64 t285, .int .i64 t286] 57 (0, 0)) (by (with_reducible repeat (first | refine blk_drewN ?_ _ | refine blk_drew ?_ | refine blk_alloc ?_ _)); refine blk_put (cs := #[.int .u8 t282, .int .u32 t283, .int .u64 t284, .int .i64 t285, .int .i64 x273004_1]) ?_ 4 _ rfl; (with_reducible repeat (first | refine blk_drewN ?_ _ | refine blk_drew ?_ | refine blk_alloc ?_ _)); refine blk_put (cs := #[.int .u8 t282, .int .u32 t283, .int .u64 t284, .int .i64 x273003_1, .int .i64 x273004_1]) ?_ 3 _ rfl; (with_reducible repeat (first | refine blk_drewN ?_ _ | refine blk_drew ?_ | refine blk_alloc ?_ _)); refine blk_put (cs := #[.int .u8 t282, .int .u32 t283, .int .u64 x273002_1, .int .i64 x273003_1, .int .i64 x273004_1]) ?_ 2 _ rfl; (with_reducible repeat (first | refine blk_drewN ?_ _ | refine blk_drew ?_ | refine blk_alloc ?_ _)); refine blk_put (cs := #[.int .u8 t282, .int .u32 x273001_1, .int .u64 x273002_1, .int .i64 x273003_1, .int .i64 x273004_1]) ?_ 1 _ rfl; (with_reducible repeat (first | refine blk_drewN ?_ _ | refine blk_drew ?_ | refine blk_alloc ?_ _)); refine blk_put (cs := #[.int .u8 x273000_1, .int .u32 x273001_1, .int .u64 x273002_1, .int .i64 x273003_1, .int .i64 x273004_1]) ?_ 0 _ rfl; (with_reducible repeat (first | refine blk_drewN ?_ _ | refine blk_drew ?_ | refine blk_alloc ?_ _)); exact BK272.out) hg (Kd.R_ne HO_8.out BK272.out (by decide))); have n2_ := Aside0.mk (blk_grown (g := gb278) (o := .cells #[.int .u8 t273, .int .u32 t274, .int .u64 t275, .int .i64 t276, .int .i64 t277] 57 (0, 0)) (by (with_reducible repeat (first | refine blk_drewN ?_ _ | refine blk_drew ?_ | refine blk_alloc ?_ _)); refine blk_far ?_ NB278_272.out _; (with_reducible repeat (first | refine blk_drewN ?_ _ | refine blk_drew ?_ | refine blk_alloc ?_ _)); refine blk_far ?_ NB278_272.out _; (with_reducible repeat (first | refine blk_drewN ?_ _ | refine blk_drew ?_ | refine blk_alloc ?_ _)); refine blk_far ?_ NB278_272.out _; (with_reducible repeat (first | refine blk_drewN ?_ _ | refine blk_drew ?_ | refine blk_alloc ?_ _)); refine blk_far ?_ NB278_272.out _; (with_reducible repeat (first | refine blk_drewN ?_ _ | refine blk_drew ?_ | refine blk_alloc ?_ _)); refine blk_far ?_ NB278_272.out _; (with_reducible repeat (first | refine blk_drewN ?_ _ | refine blk_drew ?_ | refine blk_alloc ?_ _)); exact BK278.out) hg (Kd.R_ne HO_8.out BK278.out (by decide))); have n3_ := Aside0.mk (hb); have n4_ := Aside0.mk (ho); clear BK265; clear BK272; clear BK278; clear HB; clear HO_8; have BK265 := n0_; have BK272 := n1_; have BK278 := n2_; have HB := n3_; have HO289 := n4_; clear n0_ n1_ n2_ n3_ n4_; clear ho hb hg hat))
          go_roundg k1
          case measure => have := HK1.out; omega
          case rel => exact ⟨(y287), (wrap64 (x24_1 + 1)), (t282), (t283), (t284), (t285), (t286), (by first | rfl | (simp; done) | (simp [*]; done) | (simp; exact (fun l : List UInt8 => (by cases l <;> rfl : l.isEmpty = !(l != ([] : List UInt8)))) _)), H', ⟨by have := HK1.out; omega⟩, ⟨by (with_reducible repeat (first | apply Kd.R_alloc | apply Kd.R_drewN | apply Kd.R_drew)); exact HO289.out⟩, ⟨by (with_reducible repeat (first | refine blk_drewN ?_ _ | refine blk_drew ?_ | refine blk_alloc ?_ _)); exact BK265.out⟩, ⟨by (with_reducible repeat (first | refine blk_drewN ?_ _ | refine blk_drew ?_ | refine blk_alloc ?_ _)); exact BK272.out⟩, ⟨by (with_reducible repeat (first | refine blk_drewN ?_ _ | refine blk_drew ?_ | refine blk_alloc ?_ _)); exact BK278.out⟩, ⟨by repeat (first | (with_reducible first | exact HB.out | apply below_alloc | apply pw_below_drewN | apply below_drew1 | refine below_set ?_ GE265.out | refine below_set ?_ GE272.out | refine below_set ?_ GE278.out) | exact HB.out)⟩⟩
         ·
          rw [if_neg c29] at H
          exact absurd H (by simp)
        ·
         replace c27 := Bool.eq_false_iff.mpr c27
         subst c27
         have H1 : (if (IntKind.u64.wrap (x273002_1 + 1)) ≥ (IntKind.u64.wrap (a0_1)) then (some (([] : List Int), 7)) else ((fascicleref14_Empty.f k1 a0_0 a0_1 (IntKind.u64.wrap (x273002_1 + 1))).bind fun bt290 => ((fascicleref14_Take.f bt290.1 bt290.2.1 bt290.2.2.1 bt290.2.2.2.1 bt290.2.2.2.2 (rd l1 x24_1)).bind fun bt295 => (if x8_1.length < 17592186044416 then (fascicleref14_Plan.l0 k1 (x8_1 ++ [bt295.2.2.1]) l1 (l1.length : Int) (wrap64 (x24_1 + 1)) a0_0 a0_1 bt295.1 bt295.2.1 bt295.2.2.1 bt295.2.2.2.1 bt295.2.2.2.2 t273 t274 t275 t276 t277) else (none))))) = some (r1, r2) := by rw [if_neg (show ¬ (false = true) by decide)] at H; exact H
         clear H
         have H := H1
         clear H1
         by_cases c41 : (IntKind.u64.wrap (x273002_1 + 1)) ≥ (IntKind.u64.wrap (a0_1))
         ·
          rw [if_pos c41] at H
          have c41b0 : decide ((IntKind.u64.wrap (a0_1)) ≤ (IntKind.u64.wrap (x273002_1 + 1))) = true := decide_eq_true c41
          clear c41
          simp only [Option.some.injEq, Prod.mk.injEq] at H
          obtain ⟨rfl, rfl⟩ := H
          have p279 : 0 ≤ (x24_1 : Int) := of_decide_eq_true (by first | (with_reducible assumption) | assumption)
          have q279 : x24_1 < (l1.length : Int) := of_decide_eq_true (by first | (with_reducible assumption) | assumption)
          obtain ⟨ad279, e279, hx279_0⟩ := Kd.at_int HR1.out x24_1 p279 q279
          cases e279
          replace hx279_0 := (HB.out.cell (World.block_lt_of_cell? w _ hx279_0)).trans hx279_0
          replace p279 := eq_true p279
          replace q279 := eq_true q279
          have hnb42 := NB278_265.out
          have hnc42 := NB265_278.out
          have hnb43 := NB278_272.out
          have hnc43 := NB272_278.out
          have hcz44_0 : wr.cell? ⟨gb278, 0, none⟩ = some (.int .u8 t273) := (blk_cell BK278.out 0).trans rfl
          have hcz44_1 : wr.cell? ⟨gb278, 1, none⟩ = some (.int .u32 t274) := (blk_cell BK278.out 1).trans rfl
          have hcz44_2 : wr.cell? ⟨gb278, 2, none⟩ = some (.int .u64 t275) := (blk_cell BK278.out 2).trans rfl
          have hcz44_3 : wr.cell? ⟨gb278, 3, none⟩ = some (.int .i64 t276) := (blk_cell BK278.out 3).trans rfl
          have hcz44_4 : wr.cell? ⟨gb278, 4, none⟩ = some (.int .i64 t277) := (blk_cell BK278.out 4).trans rfl
          have hfz44_0 := blk_frozen BK278.out 0
          have hfz44_1 := blk_frozen BK278.out 1
          have hfz44_2 := blk_frozen BK278.out 2
          have hfz44_3 := blk_frozen BK278.out 3
          have hfz44_4 := blk_frozen BK278.out 4
          go_wp2_with (first | ((with_reducible refine gate_callee (f := 33) rfl ?_); refine goesL_ (some 30) rfl rfl Try.func33 (by kernel_rfl) rfl #[.agg #[.int .u8 t273, .int .u32 t274, .int .u64 t275, .int .i64 t276, .int .i64 t277], .int .i64 (rd l1 x24_1)] rfl (by (try simp only [List.map_toArray, List.map_cons, List.map_nil]); first | done | rfl) ?_; (with_reducible refine (fascicleref14_Fits.calls k1 t273 t274 t275 t276 t277 (rd l1 x24_1) true _ A24.out).mono ?_); rintro e w45 ⟨rfl, hb⟩; refine ⟨_, rfl, ?_⟩; have n0_ := Aside0.mk (Kd.R_below (by (with_reducible repeat (first | apply Kd.R_alloc | apply Kd.R_drewN | apply Kd.R_drew)); exact HO_8.out) hb); have n1_ := Aside0.mk (blk_below (g := gb265) (o := .cells #[.int .u8 a0_0, .int .u32 a0_1] 49 (0, 0)) (by (with_reducible repeat (first | refine blk_drewN ?_ _ | refine blk_drew ?_ | refine blk_alloc ?_ _)); exact BK265.out) hb); have n2_ := Aside0.mk (blk_below (g := gb272) (o := .cells #[.int .u8 x273000_1, .int .u32 x273001_1, .int .u64 x273002_1, .int .i64 x273003_1, .int .i64 x273004_1] 57 (0, 0)) (by (with_reducible repeat (first | refine blk_drewN ?_ _ | refine blk_drew ?_ | refine blk_alloc ?_ _)); exact BK272.out) hb); have n3_ := Aside0.mk (blk_below (g := gb278) (o := .cells #[.int .u8 t273, .int .u32 t274, .int .u64 t275, .int .i64 t276, .int .i64 t277] 57 (0, 0)) (by (with_reducible repeat (first | refine blk_drewN ?_ _ | refine blk_drew ?_ | refine blk_alloc ?_ _)); exact BK278.out) hb); have n4_ := Aside0.mk (below_step (by repeat (first | (with_reducible first | exact HB.out | apply below_alloc | apply pw_below_drewN | apply below_drew1 | refine below_set ?_ GE265.out | refine below_set ?_ GE272.out | refine below_set ?_ GE278.out) | exact HB.out)) hb); clear HO_8; clear BK265; clear BK272; clear BK278; clear HB; have HO_8 := n0_; have BK265 := n1_; have BK272 := n2_; have BK278 := n3_; have HB := n4_; clear n0_ n1_ n2_ n3_ n4_; (try clear hb); (try clear hb2); (try clear hk); (try clear hi); have hnb46 := NB272_265.out; have hnc46 := NB265_272.out; have hcz47_0 : w45.cell? ⟨gb272, 0, none⟩ = some (.int .u8 x273000_1) := (blk_cell BK272.out 0).trans rfl; have hcz47_1 : w45.cell? ⟨gb272, 1, none⟩ = some (.int .u32 x273001_1) := (blk_cell BK272.out 1).trans rfl; have hcz47_2 : w45.cell? ⟨gb272, 2, none⟩ = some (.int .u64 x273002_1) := (blk_cell BK272.out 2).trans rfl; have hcz47_3 : w45.cell? ⟨gb272, 3, none⟩ = some (.int .i64 x273003_1) := (blk_cell BK272.out 3).trans rfl; have hcz47_4 : w45.cell? ⟨gb272, 4, none⟩ = some (.int .i64 x273004_1) := (blk_cell BK272.out 4).trans rfl; have hfz47_0 := blk_frozen BK272.out 0; have hfz47_1 := blk_frozen BK272.out 1; have hfz47_2 := blk_frozen BK272.out 2; have hfz47_3 := blk_frozen BK272.out 3; have hfz47_4 := blk_frozen BK272.out 4) | ((with_reducible refine gate_callee (f := 33) rfl ?_); refine goesL_ (some 34) rfl rfl Try.func33 (by kernel_rfl) rfl #[.agg #[.int .u8 x273000_1, .int .u32 x273001_1, .int .u64 x273002_1, .int .i64 x273003_1, .int .i64 x273004_1], .int .i64 (rd l1 x24_1)] rfl (by (try simp only [List.map_toArray, List.map_cons, List.map_nil]); first | done | rfl) ?_; (with_reducible refine (fascicleref14_Fits.calls k1 x273000_1 x273001_1 x273002_1 x273003_1 x273004_1 (rd l1 x24_1) false _ A26.out).mono ?_); rintro e w48 ⟨rfl, hb⟩; refine ⟨_, rfl, ?_⟩; have n0_ := Aside0.mk (Kd.R_below (by (with_reducible repeat (first | apply Kd.R_alloc | apply Kd.R_drewN | apply Kd.R_drew)); exact HO_8.out) hb); have n1_ := Aside0.mk (blk_below (g := gb265) (o := .cells #[.int .u8 a0_0, .int .u32 a0_1] 49 (0, 0)) (by (with_reducible repeat (first | refine blk_drewN ?_ _ | refine blk_drew ?_ | refine blk_alloc ?_ _)); exact BK265.out) hb); have n2_ := Aside0.mk (blk_below (g := gb272) (o := .cells #[.int .u8 x273000_1, .int .u32 x273001_1, .int .u64 x273002_1, .int .i64 x273003_1, .int .i64 x273004_1] 57 (0, 0)) (by (with_reducible repeat (first | refine blk_drewN ?_ _ | refine blk_drew ?_ | refine blk_alloc ?_ _)); exact BK272.out) hb); have n3_ := Aside0.mk (blk_below (g := gb278) (o := .cells #[.int .u8 t273, .int .u32 t274, .int .u64 t275, .int .i64 t276, .int .i64 t277] 57 (0, 0)) (by (with_reducible repeat (first | refine blk_drewN ?_ _ | refine blk_drew ?_ | refine blk_alloc ?_ _)); exact BK278.out) hb); have n4_ := Aside0.mk (below_step (by repeat (first | (with_reducible first | exact HB.out | apply below_alloc | apply pw_below_drewN | apply below_drew1 | refine below_set ?_ GE265.out | refine below_set ?_ GE272.out | refine below_set ?_ GE278.out) | exact HB.out)) hb); clear HO_8; clear BK265; clear BK272; clear BK278; clear HB; have HO_8 := n0_; have BK265 := n1_; have BK272 := n2_; have BK278 := n3_; have HB := n4_; clear n0_ n1_ n2_ n3_ n4_; (try clear hb); (try clear hb2); (try clear hk); (try clear hi); have hcz49_0 : w48.cell? ⟨gb272, 0, none⟩ = some (.int .u8 x273000_1) := (blk_cell BK272.out 0).trans rfl; have hcz49_1 : w48.cell? ⟨gb272, 1, none⟩ = some (.int .u32 x273001_1) := (blk_cell BK272.out 1).trans rfl; have hcz49_2 : w48.cell? ⟨gb272, 2, none⟩ = some (.int .u64 x273002_1) := (blk_cell BK272.out 2).trans rfl; have hcz49_3 : w48.cell? ⟨gb272, 3, none⟩ = some (.int .i64 x273003_1) := (blk_cell BK272.out 3).trans rfl; have hcz49_4 : w48.cell? ⟨gb272, 4, none⟩ = some (.int .i64 x273004_1) := (blk_cell BK272.out 4).trans rfl; have hfz49_0 := blk_frozen BK272.out 0; have hfz49_1 := blk_frozen BK272.out 1; have hfz49_2 := blk_frozen BK272.out 2; have hfz49_3 := blk_frozen BK272.out 3; have hfz49_4 := blk_frozen BK272.out 4; have hcz50_0 : w48.cell? ⟨gb265, 0, none⟩ = some (.int .u8 a0_0) := (blk_cell BK265.out 0).trans rfl; have hcz50_1 : w48.cell? ⟨gb265, 1, none⟩ = some (.int .u32 a0_1) := (blk_cell BK265.out 1).trans rfl; have hfz50_0 := blk_frozen BK265.out 0; have hfz50_1 := blk_frozen BK265.out 1))
          go_ret2
          exact ⟨_, by first | rfl | (simp [errW_none, errW_some] <;> rfl) | (simp [*, errW_none, errW_some] <;> rfl), by first | exact Kd.R_nil _ _ _ _ _ | exact Kd.N_nil _ _ _ _ _ | exact Kd.V_nil _ _ _ _ _ | exact Kd.Q_nil _ _ _ _ _ | exact Kd.S_nil _ _ _ _ _, by repeat (first | (with_reducible first | exact HB.out | apply below_alloc | apply pw_below_drewN | apply below_drew1 | refine below_set ?_ GE265.out | refine below_set ?_ GE272.out | refine below_set ?_ GE278.out) | exact HB.out)⟩
         ·
          rw [if_neg c41] at H
          have c41b0 : decide ((IntKind.u64.wrap (a0_1)) ≤ (IntKind.u64.wrap (x273002_1 + 1))) = false := decide_eq_false c41
          clear c41
          replace H := Option.bind_eq_some_iff.mp H
          obtain ⟨⟨t290, t291, t292, t293, t294⟩, A510, H⟩ := H
          replace H : ((fascicleref14_Take.f t290 t291 t292 t293 t294 (rd l1 x24_1)).bind fun bt295 => (if x8_1.length < 17592186044416 then (fascicleref14_Plan.l0 k1 (x8_1 ++ [bt295.2.2.1]) l1 (l1.length : Int) (wrap64 (x24_1 + 1)) a0_0 a0_1 bt295.1 bt295.2.1 bt295.2.2.1 bt295.2.2.2.1 bt295.2.2.2.2 t273 t274 t275 t276 t277) else (none))) = some (r1, r2) := H
          have A51 := Aside0.mk A510
          clear A510
          replace H := Option.bind_eq_some_iff.mp H
          obtain ⟨⟨t295, t296, t297, t298, t299⟩, A520, H⟩ := H
          replace H : (if x8_1.length < 17592186044416 then (fascicleref14_Plan.l0 k1 (x8_1 ++ [t297]) l1 (l1.length : Int) (wrap64 (x24_1 + 1)) a0_0 a0_1 t295 t296 t297 t298 t299 t273 t274 t275 t276 t277) else (none)) = some (r1, r2) := H
          have A52 := Aside0.mk A520
          clear A520
          by_cases c53 : x8_1.length < 17592186044416
          ·
           rw [if_pos c53] at H
           have LMc53 := Aside0.mk c53
           clear c53
           obtain ⟨y300, hy300⟩ : ∃ y_ : List Int, y_ = (x8_1 ++ [t297]) := ⟨_, rfl⟩
           replace H : (fascicleref14_Plan.l0 k1 y300 l1 (l1.length : Int) (wrap64 (x24_1 + 1)) a0_0 a0_1 t295 t296 t297 t298 t299 t273 t274 t275 t276 t277) = some (r1, r2) := by first | (rw [hy300]; with_reducible exact H) | (have H2_ := (Option.bind_some _ _).symm.trans H; rw [hy300]; with_reducible exact H2_) | (have H2_ := (Option.bind_some _ _).symm.trans H; with_reducible exact H2_) | with_reducible exact H | (rw [hy300]; exact H) | exact H
           have Ny300 := Aside0.mk hy300
           clear hy300
           have H' := Aside0.mk H
           clear H
           have p279 : 0 ≤ (x24_1 : Int) := of_decide_eq_true (by first | (with_reducible assumption) | assumption)
           have q279 : x24_1 < (l1.length : Int) := of_decide_eq_true (by first | (with_reducible assumption) | assumption)
           obtain ⟨ad279, e279, hx279_0⟩ := Kd.at_int HR1.out x24_1 p279 q279
           cases e279
           replace hx279_0 := (HB.out.cell (World.block_lt_of_cell? w _ hx279_0)).trans hx279_0
           replace p279 := eq_true p279
           replace q279 := eq_true q279
           have hnb54 := NB278_265.out
           have hnc54 := NB265_278.out
           have hnb55 := NB278_272.out
           have hnc55 := NB272_278.out
           have hcz56_0 : wr.cell? ⟨gb278, 0, none⟩ = some (.int .u8 t273) := (blk_cell BK278.out 0).trans rfl
           have hcz56_1 : wr.cell? ⟨gb278, 1, none⟩ = some (.int .u32 t274) := (blk_cell BK278.out 1).trans rfl
           have hcz56_2 : wr.cell? ⟨gb278, 2, none⟩ = some (.int .u64 t275) := (blk_cell BK278.out 2).trans rfl
           have hcz56_3 : wr.cell? ⟨gb278, 3, none⟩ = some (.int .i64 t276) := (blk_cell BK278.out 3).trans rfl
           have hcz56_4 : wr.cell? ⟨gb278, 4, none⟩ = some (.int .i64 t277) := (blk_cell BK278.out 4).trans rfl
           have hfz56_0 := blk_frozen BK278.out 0
           have hfz56_1 := blk_frozen BK278.out 1
           have hfz56_2 := blk_frozen BK278.out 2
           have hfz56_3 := blk_frozen BK278.out 3
           have hfz56_4 := blk_frozen BK278.out 4
           go_wp2_with (first | ((with_reducible refine gate_callee (f := 33) rfl ?_); refine goesL_ (some 30) rfl rfl Try.func33 (by kernel_rfl) rfl #[.agg #[.int .u8 t273, .int .u32 t274, .int .u64 t275, .int .i64 t276, .int .i64 t277], .int .i64 (rd l1 x24_1)] rfl (by (try simp only [List.map_toArray, List.map_cons, List.map_nil]); first | done | rfl) ?_; (with_reducible refine (fascicleref14_Fits.calls k1 t273 t274 t275 t276 t277 (rd l1 x24_1) true _ A24.out).mono ?_); rintro e w57 ⟨rfl, hb⟩; refine ⟨_, rfl, ?_⟩; have n0_ := Aside0.mk (Kd.R_below (by (with_reducible repeat (first | apply Kd.R_alloc | apply Kd.R_drewN | apply Kd.R_drew)); exact HO_8.out) hb); have n1_ := Aside0.mk (blk_below (g := gb265) (o := .cells #[.int .u8 a0_0, .int .u32 a0_1] 49 (0, 0)) (by (with_reducible repeat (first | refine blk_drewN ?_ _ | refine blk_drew ?_ | refine blk_alloc ?_ _)); exact BK265.out) hb); have n2_ := Aside0.mk (blk_below (g := gb272) (o := .cells #[.int .u8 x273000_1, .int .u32 x273001_1, .int .u64 x273002_1, .int .i64 x273003_1, .int .i64 x273004_1] 57 (0, 0)) (by (with_reducible repeat (first | refine blk_drewN ?_ _ | refine blk_drew ?_ | refine blk_alloc ?_ _)); exact BK272.out) hb); have n3_ := Aside0.mk (blk_below (g := gb278) (o := .cells #[.int .u8 t273, .int .u32 t274, .int .u64 t275, .int .i64 t276, .int .i64 t277] 57 (0, 0)) (by (with_reducible repeat (first | refine blk_drewN ?_ _ | refine blk_drew ?_ | refine blk_alloc ?_ _)); exact BK278.out) hb); have n4_ := Aside0.mk (below_step (by repeat (first | (with_reducible first | exact HB.out | apply below_alloc | apply pw_below_drewN | apply below_drew1 | refine below_set ?_ GE265.out | refine below_set ?_ GE272.out | refine below_set ?_ GE278.out) | exact HB.out)) hb); clear HO_8; clear BK265; clear BK272; clear BK278; clear HB; have HO_8 := n0_; have BK265 := n1_; have BK272 := n2_; have BK278 := n3_; have HB := n4_; clear n0_ n1_ n2_ n3_ n4_; (try clear hb); (try clear hb2); (try clear hk); (try clear hi); have hnb58 := NB272_265.out; have hnc58 := NB265_272.out; have hcz59_0 : w57.cell? ⟨gb272, 0, none⟩ = some (.int .u8 x273000_1) := (blk_cell BK272.out 0).trans rfl; have hcz59_1 : w57.cell? ⟨gb272, 1, none⟩ = some (.int .u32 x273001_1) := (blk_cell BK272.out 1).trans rfl; have hcz59_2 : w57.cell? ⟨gb272, 2, none⟩ = some (.int .u64 x273002_1) := (blk_cell BK272.out 2).trans rfl; have hcz59_3 : w57.cell? ⟨gb272, 3, none⟩ = some (.int .i64 x273003_1) := (blk_cell BK272.out 3).trans rfl; have hcz59_4 : w57.cell? ⟨gb272, 4, none⟩ = some (.int .i64 x273004_1) := (blk_cell BK272.out 4).trans rfl; have hfz59_0 := blk_frozen BK272.out 0; have hfz59_1 := blk_frozen BK272.out 1; have hfz59_2 := blk_frozen BK272.out 2; have hfz59_3 := blk_frozen BK272.out 3; have hfz59_4 := blk_frozen BK272.out 4) | ((with_reducible refine gate_callee (f := 33) rfl ?_); refine goesL_ (some 34) rfl rfl Try.func33 (by kernel_rfl) rfl #[.agg #[.int .u8 x273000_1, .int .u32 x273001_1, .int .u64 x273002_1, .int .i64 x273003_1, .int .i64 x273004_1], .int .i64 (rd l1 x24_1)] rfl (by (try simp only [List.map_toArray, List.map_cons, List.map_nil]); first | done | rfl) ?_; (with_reducible refine (fascicleref14_Fits.calls k1 x273000_1 x273001_1 x273002_1 x273003_1 x273004_1 (rd l1 x24_1) false _ A26.out).mono ?_); rintro e w60 ⟨rfl, hb⟩; refine ⟨_, rfl, ?_⟩; have n0_ := Aside0.mk (Kd.R_below (by (with_reducible repeat (first | apply Kd.R_alloc | apply Kd.R_drewN | apply Kd.R_drew)); exact HO_8.out) hb); have n1_ := Aside0.mk (blk_below (g := gb265) (o := .cells #[.int .u8 a0_0, .int .u32 a0_1] 49 (0, 0)) (by (with_reducible repeat (first | refine blk_drewN ?_ _ | refine blk_drew ?_ | refine blk_alloc ?_ _)); exact BK265.out) hb); have n2_ := Aside0.mk (blk_below (g := gb272) (o := .cells #[.int .u8 x273000_1, .int .u32 x273001_1, .int .u64 x273002_1, .int .i64 x273003_1, .int .i64 x273004_1] 57 (0, 0)) (by (with_reducible repeat (first | refine blk_drewN ?_ _ | refine blk_drew ?_ | refine blk_alloc ?_ _)); exact BK272.out) hb); have n3_ := Aside0.mk (blk_below (g := gb278) (o := .cells #[.int .u8 t273, .int .u32 t274, .int .u64 t275, .int .i64 t276, .int .i64 t277] 57 (0, 0)) (by (with_reducible repeat (first | refine blk_drewN ?_ _ | refine blk_drew ?_ | refine blk_alloc ?_ _)); exact BK278.out) hb); have n4_ := Aside0.mk (below_step (by repeat (first | (with_reducible first | exact HB.out | apply below_alloc | apply pw_below_drewN | apply below_drew1 | refine below_set ?_ GE265.out | refine below_set ?_ GE272.out | refine below_set ?_ GE278.out) | exact HB.out)) hb); clear HO_8; clear BK265; clear BK272; clear BK278; clear HB; have HO_8 := n0_; have BK265 := n1_; have BK272 := n2_; have BK278 := n3_; have HB := n4_; clear n0_ n1_ n2_ n3_ n4_; (try clear hb); (try clear hb2); (try clear hk); (try clear hi); have hcz61_0 : w60.cell? ⟨gb272, 0, none⟩ = some (.int .u8 x273000_1) := (blk_cell BK272.out 0).trans rfl; have hcz61_1 : w60.cell? ⟨gb272, 1, none⟩ = some (.int .u32 x273001_1) := (blk_cell BK272.out 1).trans rfl; have hcz61_2 : w60.cell? ⟨gb272, 2, none⟩ = some (.int .u64 x273002_1) := (blk_cell BK272.out 2).trans rfl; have hcz61_3 : w60.cell? ⟨gb272, 3, none⟩ = some (.int .i64 x273003_1) := (blk_cell BK272.out 3).trans rfl; have hcz61_4 : w60.cell? ⟨gb272, 4, none⟩ = some (.int .i64 x273004_1) := (blk_cell BK272.out 4).trans rfl; have hfz61_0 := blk_frozen BK272.out 0; have hfz61_1 := blk_frozen BK272.out 1; have hfz61_2 := blk_frozen BK272.out 2; have hfz61_3 := blk_frozen BK272.out 3; have hfz61_4 := blk_frozen BK272.out 4; have hcz62_0 : w60.cell? ⟨gb265, 0, none⟩ = some (.int .u8 a0_0) := (blk_cell BK265.out 0).trans rfl; have hcz62_1 : w60.cell? ⟨gb265, 1, none⟩ = some (.int .u32 a0_1) := (blk_cell BK265.out 1).trans rfl; have hfz62_0 := blk_frozen BK265.out 0; have hfz62_1 := blk_frozen BK265.out 1) | ((with_reducible refine gate_callee (f := 31) rfl ?_); refine goesL_ (some 47) rfl rfl Try.func31 (by kernel_rfl) rfl #[.agg #[.int .u8 a0_0, .int .u32 a0_1], .int .u64 (IntKind.u64.wrap (x273002_1 + 1))] rfl (by (try simp only [List.map_toArray, List.map_cons, List.map_nil]); first | done | rfl) ?_; (with_reducible refine (fascicleref14_Empty.calls k1 a0_0 a0_1 (IntKind.u64.wrap (x273002_1 + 1)) t290 t291 t292 t293 t294 _ A51.out).mono ?_); rintro e w63 ⟨rfl, hb⟩; refine ⟨_, rfl, ?_⟩; have n0_ := Aside0.mk (Kd.R_below (by (with_reducible repeat (first | apply Kd.R_alloc | apply Kd.R_drewN | apply Kd.R_drew)); exact HO_8.out) hb); have n1_ := Aside0.mk (blk_below (g := gb265) (o := .cells #[.int .u8 a0_0, .int .u32 a0_1] 49 (0, 0)) (by (with_reducible repeat (first | refine blk_drewN ?_ _ | refine blk_drew ?_ | refine blk_alloc ?_ _)); exact BK265.out) hb); have n2_ := Aside0.mk (blk_below (g := gb272) (o := .cells #[.int .u8 x273000_1, .int .u32 x273001_1, .int .u64 x273002_1, .int .i64 x273003_1, .int .i64 x273004_1] 57 (0, 0)) (by (with_reducible repeat (first | refine blk_drewN ?_ _ | refine blk_drew ?_ | refine blk_alloc ?_ _)); exact BK272.out) hb); have n3_ := Aside0.mk (blk_below (g := gb278) (o := .cells #[.int .u8 t273, .int .u32 t274, .int .u64 t275, .int .i64 t276, .int .i64 t277] 57 (0, 0)) (by (with_reducible repeat (first | refine blk_drewN ?_ _ | refine blk_drew ?_ | refine blk_alloc ?_ _)); exact BK278.out) hb); have n4_ := Aside0.mk (below_step (by repeat (first | (with_reducible first | exact HB.out | apply below_alloc | apply pw_below_drewN | apply below_drew1 | refine below_set ?_ GE265.out | refine below_set ?_ GE272.out | refine below_set ?_ GE278.out) | exact HB.out)) hb); clear HO_8; clear BK265; clear BK272; clear BK278; clear HB; have HO_8 := n0_; have BK265 := n1_; have BK272 := n2_; have BK278 := n3_; have HB := n4_; clear n0_ n1_ n2_ n3_ n4_; (try clear hb); (try clear hb2); (try clear hk); (try clear hi); have hcz64_0 : w63.cell? ⟨gb272, 0, none⟩ = some (.int .u8 x273000_1) := (blk_cell BK272.out 0).trans rfl; have hcz64_1 : w63.cell? ⟨gb272, 1, none⟩ = some (.int .u32 x273001_1) := (blk_cell BK272.out 1).trans rfl; have hcz64_2 : w63.cell? ⟨gb272, 2, none⟩ = some (.int .u64 x273002_1) := (blk_cell BK272.out 2).trans rfl; have hcz64_3 : w63.cell? ⟨gb272, 3, none⟩ = some (.int .i64 x273003_1) := (blk_cell BK272.out 3).trans rfl; have hcz64_4 : w63.cell? ⟨gb272, 4, none⟩ = some (.int .i64 x273004_1) := (blk_cell BK272.out 4).trans rfl; have hfz64_0 := blk_frozen BK272.out 0; have hfz64_1 := blk_frozen BK272.out 1; have hfz64_2 := blk_frozen BK272.out 2; have hfz64_3 := blk_frozen BK272.out 3; have hfz64_4 := blk_frozen BK272.out 4) | ((with_reducible refine gate_callee (f := 36) rfl ?_); refine goesL_ (some 50) rfl rfl Try.func36 (by kernel_rfl) rfl #[.agg #[.int .u8 t290, .int .u32 t291, .int .u64 t292, .int .i64 t293, .int .i64 t294], .int .i64 (rd l1 x24_1)] rfl (by (try simp only [List.map_toArray, List.map_cons, List.map_nil]); first | done | rfl) ?_; (with_reducible refine (fascicleref14_Take.calls t290 t291 t292 t293 t294 (rd l1 x24_1) t295 t296 t297 t298 t299 _ A52.out).mono ?_); rintro e w65 ⟨rfl, hb⟩; refine ⟨_, rfl, ?_⟩; have n0_ := Aside0.mk (Kd.R_below (by (with_reducible repeat (first | apply Kd.R_alloc | apply Kd.R_drewN | apply Kd.R_drew)); exact (Kd.R_mono (Kd.R_far (p := ⟨gb272, 4, none⟩) (Kd.R_far (p := ⟨gb272, 3, none⟩) (Kd.R_far (p := ⟨gb272, 2, none⟩) (Kd.R_far (p := ⟨gb272, 1, none⟩) (Kd.R_far (p := ⟨gb272, 0, none⟩) (Kd.R_types HO_8.out BK272.out (by decide)) (fun _ hk => by first | exact hk.2 | exact hk) (.int .u8 t290)) (fun _ hk => by first | exact hk.2 | exact hk) (.int .u32 t291)) (fun _ hk => by first | exact hk.2 | exact hk) (.int .u64 t292)) (fun _ hk => by first | exact hk.2 | exact hk) (.int .i64 t293)) (fun _ hk => by first | exact hk.2 | exact hk) (.int .i64 t294)) (fun _ h_ => h_.1))) hb); have n1_ := Aside0.mk (blk_below (g := gb265) (o := .cells #[.int .u8 a0_0, .int .u32 a0_1] 49 (0, 0)) (by (with_reducible repeat (first | refine blk_drewN ?_ _ | refine blk_drew ?_ | refine blk_alloc ?_ _)); refine blk_far ?_ NB265_272.out _; (with_reducible repeat (first | refine blk_drewN ?_ _ | refine blk_drew ?_ | refine blk_alloc ?_ _)); refine blk_far ?_ NB265_272.out _; (with_reducible repeat (first | refine blk_drewN ?_ _ | refine blk_drew ?_ | refine blk_alloc ?_ _)); refine blk_far ?_ NB265_272.out _; (with_reducible repeat (first | refine blk_drewN ?_ _ | refine blk_drew ?_ | refine blk_alloc ?_ _)); refine blk_far ?_ NB265_272.out _; (with_reducible repeat (first | refine blk_drewN ?_ _ | refine blk_drew ?_ | refine blk_alloc ?_ _)); refine blk_far ?_ NB265_272.out _; (with_reducible repeat (first | refine blk_drewN ?_ _ | refine blk_drew ?_ | refine blk_alloc ?_ _)); exact BK265.out) hb); have n2_ := Aside0.mk (blk_below (g := gb272) (o := .cells #[.int .u8 t290, .int .u32 t291, .int .u64 t292, .int .i64 t293, .int .i64 t294] 57 (0, 0)) (by (with_reducible repeat (first | refine blk_drewN ?_ _ | refine blk_drew ?_ | refine blk_alloc ?_ _)); refine blk_put (cs := #[.int .u8 t290, .int .u32 t291, .int .u64 t292, .int .i64 t293, .int .i64 x273004_1]) ?_ 4 _ rfl; (with_reducible repeat (first | refine blk_drewN ?_ _ | refine blk_drew ?_ | refine blk_alloc ?_ _)); refine blk_put (cs := #[.int .u8 t290, .int .u32 t291, .int .u64 t292, .int .i64 x273003_1, .int .i64 x273004_1]) ?_ 3 _ rfl; (with_reducible repeat (first | refine blk_drewN ?_ _ | refine blk_drew ?_ | refine blk_alloc ?_ _)); refine blk_put (cs := #[.int .u8 t290, .int .u32 t291, .int .u64 x273002_1, .int .i64 x273003_1, .int .i64 x273004_1]) ?_ 2 _ rfl; (with_reducible repeat (first | refine blk_drewN ?_ _ | refine blk_drew ?_ | refine blk_alloc ?_ _)); refine blk_put (cs := #[.int .u8 t290, .int .u32 x273001_1, .int .u64 x273002_1, .int .i64 x273003_1, .int .i64 x273004_1]) ?_ 1 _ rfl; (with_reducible repeat (first | refine blk_drewN ?_ _ | refine blk_drew ?_ | refine blk_alloc ?_ _)); refine blk_put (cs := #[.int .u8 x273000_1, .int .u32 x273001_1, .int .u64 x273002_1, .int .i64 x273003_1, .int .i64 x273004_1]) ?_ 0 _ rfl; (with_reducible repeat (first | refine blk_drewN ?_ _ | refine blk_drew ?_ | refine blk_alloc ?_ _)); exact BK272.out) hb); have n3_ := Aside0.mk (blk_below (g := gb278) (o := .cells #[.int .u8 t273, .int .u32 t274, .int .u64 t275, .int .i64 t276, .int .i64 t277] 57 (0, 0)) (by (with_reducible repeat (first | refine blk_drewN ?_ _ | refine blk_drew ?_ | refine blk_alloc ?_ _)); refine blk_far ?_ NB278_272.out _; (with_reducible repeat (first | refine blk_drewN ?_ _ | refine blk_drew ?_ | refine blk_alloc ?_ _)); refine blk_far ?_ NB278_272.out _; (with_reducible repeat (first | refine blk_drewN ?_ _ | refine blk_drew ?_ | refine blk_alloc ?_ _)); refine blk_far ?_ NB278_272.out _; (with_reducible repeat (first | refine blk_drewN ?_ _ | refine blk_drew ?_ | refine blk_alloc ?_ _)); refine blk_far ?_ NB278_272.out _; (with_reducible repeat (first | refine blk_drewN ?_ _ | refine blk_drew ?_ | refine blk_alloc ?_ _)); refine blk_far ?_ NB278_272.out _; (with_reducible repeat (first | refine blk_drewN ?_ _ | refine blk_drew ?_ | refine blk_alloc ?_ _)); exact BK278.out) hb); have n4_ := Aside0.mk (below_step (by repeat (first | (with_reducible first | exact HB.out | apply below_alloc | apply pw_below_drewN | apply below_drew1 | refine below_set ?_ GE265.out | refine below_set ?_ GE272.out | refine below_set ?_ GE278.out) | exact HB.out)) hb); clear HO_8; clear BK265; clear BK272; clear BK278; clear HB; have HO_8 := n0_; have BK265 := n1_; have BK272 := n2_; have BK278 := n3_; have HB := n4_; clear n0_ n1_ n2_ n3_ n4_; (try clear hb); (try clear hb2); (try clear hk); (try clear hi); have hcz66_0 : w65.cell? ⟨gb272, 0, none⟩ = some (.int .u8 t290) := (blk_cell BK272.out 0).trans rfl; have hcz66_1 : w65.cell? ⟨gb272, 1, none⟩ = some (.int .u32 t291) := (blk_cell BK272.out 1).trans rfl; have hcz66_2 : w65.cell? ⟨gb272, 2, none⟩ = some (.int .u64 t292) := (blk_cell BK272.out 2).trans rfl; have hcz66_3 : w65.cell? ⟨gb272, 3, none⟩ = some (.int .i64 t293) := (blk_cell BK272.out 3).trans rfl; have hcz66_4 : w65.cell? ⟨gb272, 4, none⟩ = some (.int .i64 t294) := (blk_cell BK272.out 4).trans rfl; have hfz66_0 := blk_frozen BK272.out 0; have hfz66_1 := blk_frozen BK272.out 1; have hfz66_2 := blk_frozen BK272.out 2; have hfz66_3 := blk_frozen BK272.out 3; have hfz66_4 := blk_frozen BK272.out 4) | ((with_reducible refine gate_builtin (b := .append) (xs := #[.tmp 51, .tmp 54]) rfl ?_); at_builtin; refine Kd.R_append (Kd.int .u64) (w0 := w) w.heap.size rfl (.tmp 51) (.tmp 54) 26 39 (.int .u64 0) 8 rfl Try.underlying26 info39 rfl (by decide) (by omega) u8 x8_1 t297 [.int .u64 t297] (fun _ => True) (fun _ => False) rfl (by first | (go_simp; done) | (go_simp; rfl)) ?aP (fun _ hk => hk.elim) ?aF ?aO ?aB ?aS ?aL ?_; (case aP => exact rfl); (case aB => exact (by repeat (first | (with_reducible first | exact HB.out | apply below_alloc | apply pw_below_drewN | apply below_drew1 | refine below_set ?_ GE265.out | refine below_set ?_ GE272.out | refine below_set ?_ GE278.out) | exact HB.out))); (case aF => exact (fun _ _ => trivial)); (case aO => exact (by (with_reducible repeat (first | apply Kd.R_alloc | apply Kd.R_drewN | apply Kd.R_drew)); exact Kd.R_mono (Kd.R_far (p := ⟨gb272, 4, none⟩) (Kd.R_far (p := ⟨gb272, 3, none⟩) (Kd.R_far (p := ⟨gb272, 2, none⟩) (Kd.R_far (p := ⟨gb272, 1, none⟩) (Kd.R_far (p := ⟨gb272, 0, none⟩) (Kd.R_types HO_8.out BK272.out (by decide)) (fun _ hk => by first | exact hk.2 | exact hk) (.int .u8 t295)) (fun _ hk => by first | exact hk.2 | exact hk) (.int .u32 t296)) (fun _ hk => by first | exact hk.2 | exact hk) (.int .u64 t297)) (fun _ hk => by first | exact hk.2 | exact hk) (.int .i64 t298)) (fun _ hk => by first | exact hk.2 | exact hk) (.int .i64 t299)) (fun _ hk => trivial))); (case aS => exact (below_size (by repeat (first | (with_reducible first | exact HB.out | apply below_alloc | apply pw_below_drewN | apply below_drew1 | refine below_set ?_ GE265.out | refine below_set ?_ GE272.out | refine below_set ?_ GE278.out) | exact HB.out)))); (case aL => have := LMc53.out; omega); intro v301 w67 ho hb hg hat; rw [← Ny300.out] at ho; have n0_ := Aside0.mk (blk_grown (g := gb265) (o := .cells #[.int .u8 a0_0, .int .u32 a0_1] 49 (0, 0)) (by (with_reducible repeat (first | refine blk_drewN ?_ _ | refine blk_drew ?_ | refine blk_alloc ?_ _)); refine blk_far ?_ NB265_272.out _; (with_reducible repeat (first | refine blk_drewN ?_ _ | refine blk_drew ?_ | refine blk_alloc ?_ _)); refine blk_far ?_ NB265_272.out _; (with_reducible repeat (first | refine blk_drewN ?_ _ | refine blk_drew ?_ | refine blk_alloc ?_ _)); refine blk_far ?_ NB265_272.out _; (with_reducible repeat (first | refine blk_drewN ?_ _ | refine blk_drew ?_ | refine blk_alloc ?_ _)); refine blk_far ?_ NB265_272.out _; (with_reducible repeat (first | refine blk_drewN ?_ _ | refine blk_drew ?_ | refine blk_alloc ?_ _)); refine blk_far ?_ NB265_272.out _; (with_reducible repeat (first | refine blk_drewN ?_ _ | refine blk_drew ?_ | refine blk_alloc ?_ _)); exact BK265.out) hg (Kd.R_ne HO_8.out BK265.out (by decide))); have n1_ := Aside0.mk (blk_grown (g := gb272) (o := .cells #[.int .u8 t295, .int .u32 t296, .int .u64 t297, .int .i64 t298, .int .i64 t299] 57 (0, 0)) (by (with_reducible repeat (first | refine blk_drewN ?_ _ | refine blk_drew ?_ | refine blk_alloc ?_ _)); refine blk_put (cs := #[.int .u8 t295, .int .u32 t296, .int .u64 t297, .int .i64 t298, .int .i64 t294]) ?_ 4 _ rfl; (with_reducible repeat (first | refine blk_drewN ?_ _ | refine blk_drew ?_ | refine blk_alloc ?_ _)); refine blk_put (cs := #[.int .u8 t295, .int .u32 t296, .int .u64 t297, .int .i64 t293, .int .i64 t294]) ?_ 3 _ rfl; (with_reducible repeat (first | refine blk_drewN ?_ _ | refine blk_drew ?_ | refine blk_alloc ?_ _)); refine blk_put (cs := #[.int .u8 t295, .int .u32 t296, .int .u64 t292, .int .i64 t293, .int .i64 t294]) ?_ 2 _ rfl; (with_reducible repeat (first | refine blk_drewN ?_ _ | refine blk_drew ?_ | refine blk_alloc ?_ _)); refine blk_put (cs := #[.int .u8 t295, .int .u32 t291, .int .u64 t292, .int .i64 t293, .int .i64 t294]) ?_ 1 _ rfl; (with_reducible repeat (first | refine blk_drewN ?_ _ | refine blk_drew ?_ | refine blk_alloc ?_ _)); refine blk_put (cs := #[.int .u8 t290, .int .u32 t291, .int .u64 t292, .int .i64 t293, .int .i64 t294]) ?_ 0 _ rfl; (with_reducible repeat (first | refine blk_drewN ?_ _ | refine blk_drew ?_ | refine blk_alloc ?_ _)); exact BK272.out) hg (Kd.R_ne HO_8.out BK272.out (by decide))); have n2_ := Aside0.mk (blk_grown (g := gb278) (o := .cells #[.int .u8 t273, .int .u32 t274, .int .u64 t275, .int .i64 t276, .int .i64 t277] 57 (0, 0)) (by (with_reducible repeat (first | refine blk_drewN ?_ _ | refine blk_drew ?_ | refine blk_alloc ?_ _)); refine blk_far ?_ NB278_272.out _; (with_reducible repeat (first | refine blk_drewN ?_ _ | refine blk_drew ?_ | refine blk_alloc ?_ _)); refine blk_far ?_ NB278_272.out _; (with_reducible repeat (first | refine blk_drewN ?_ _ | refine blk_drew ?_ | refine blk_alloc ?_ _)); refine blk_far ?_ NB278_272.out _; (with_reducible repeat (first | refine blk_drewN ?_ _ | refine blk_drew ?_ | refine blk_alloc ?_ _)); refine blk_far ?_ NB278_272.out _; (with_reducible repeat (first | refine blk_drewN ?_ _ | refine blk_drew ?_ | refine blk_alloc ?_ _)); refine blk_far ?_ NB278_272.out _; (with_reducible repeat (first | refine blk_drewN ?_ _ | refine blk_drew ?_ | refine blk_alloc ?_ _)); exact BK278.out) hg (Kd.R_ne HO_8.out BK278.out (by decide))); have n3_ := Aside0.mk (hb); have n4_ := Aside0.mk (ho); clear BK265; clear BK272; clear BK278; clear HB; clear HO_8; have BK265 := n0_; have BK272 := n1_; have BK278 := n2_; have HB := n3_; have HO302 := n4_; clear n0_ n1_ n2_ n3_ n4_; clear ho hb hg hat))
           go_roundg k1
           case measure => have := HK1.out; omega
           case rel => exact ⟨(y300), (wrap64 (x24_1 + 1)), (t295), (t296), (t297), (t298), (t299), (by first | rfl | (simp; done) | (simp [*]; done) | (simp; exact (fun l : List UInt8 => (by cases l <;> rfl : l.isEmpty = !(l != ([] : List UInt8)))) _)), H', ⟨by have := HK1.out; omega⟩, ⟨by (with_reducible repeat (first | apply Kd.R_alloc | apply Kd.R_drewN | apply Kd.R_drew)); exact HO302.out⟩, ⟨by (with_reducible repeat (first | refine blk_drewN ?_ _ | refine blk_drew ?_ | refine blk_alloc ?_ _)); exact BK265.out⟩, ⟨by (with_reducible repeat (first | refine blk_drewN ?_ _ | refine blk_drew ?_ | refine blk_alloc ?_ _)); exact BK272.out⟩, ⟨by (with_reducible repeat (first | refine blk_drewN ?_ _ | refine blk_drew ?_ | refine blk_alloc ?_ _)); exact BK278.out⟩, ⟨by repeat (first | (with_reducible first | exact HB.out | apply below_alloc | apply pw_below_drewN | apply below_drew1 | refine below_set ?_ GE265.out | refine below_set ?_ GE272.out | refine below_set ?_ GE278.out) | exact HB.out)⟩⟩
          ·
           rw [if_neg c53] at H
           exact absurd H (by simp)
       ·
        replace c25 := Bool.eq_false_iff.mpr c25
        subst c25
        have H1 : (some (([] : List Int), 6)) = some (r1, r2) := by rw [if_neg (show ¬ (false = true) by decide)] at H; exact H
        clear H
        have H := H1
        clear H1
        simp only [Option.some.injEq, Prod.mk.injEq] at H
        obtain ⟨rfl, rfl⟩ := H
        have p279 : 0 ≤ (x24_1 : Int) := of_decide_eq_true (by first | (with_reducible assumption) | assumption)
        have q279 : x24_1 < (l1.length : Int) := of_decide_eq_true (by first | (with_reducible assumption) | assumption)
        obtain ⟨ad279, e279, hx279_0⟩ := Kd.at_int HR1.out x24_1 p279 q279
        cases e279
        replace hx279_0 := (HB.out.cell (World.block_lt_of_cell? w _ hx279_0)).trans hx279_0
        replace p279 := eq_true p279
        replace q279 := eq_true q279
        have hnb68 := NB278_265.out
        have hnc68 := NB265_278.out
        have hnb69 := NB278_272.out
        have hnc69 := NB272_278.out
        have hcz70_0 : wr.cell? ⟨gb278, 0, none⟩ = some (.int .u8 t273) := (blk_cell BK278.out 0).trans rfl
        have hcz70_1 : wr.cell? ⟨gb278, 1, none⟩ = some (.int .u32 t274) := (blk_cell BK278.out 1).trans rfl
        have hcz70_2 : wr.cell? ⟨gb278, 2, none⟩ = some (.int .u64 t275) := (blk_cell BK278.out 2).trans rfl
        have hcz70_3 : wr.cell? ⟨gb278, 3, none⟩ = some (.int .i64 t276) := (blk_cell BK278.out 3).trans rfl
        have hcz70_4 : wr.cell? ⟨gb278, 4, none⟩ = some (.int .i64 t277) := (blk_cell BK278.out 4).trans rfl
        have hfz70_0 := blk_frozen BK278.out 0
        have hfz70_1 := blk_frozen BK278.out 1
        have hfz70_2 := blk_frozen BK278.out 2
        have hfz70_3 := blk_frozen BK278.out 3
        have hfz70_4 := blk_frozen BK278.out 4
        go_wp2_with (first | ((with_reducible refine gate_callee (f := 33) rfl ?_); refine goesL_ (some 30) rfl rfl Try.func33 (by kernel_rfl) rfl #[.agg #[.int .u8 t273, .int .u32 t274, .int .u64 t275, .int .i64 t276, .int .i64 t277], .int .i64 (rd l1 x24_1)] rfl (by (try simp only [List.map_toArray, List.map_cons, List.map_nil]); first | done | rfl) ?_; (with_reducible refine (fascicleref14_Fits.calls k1 t273 t274 t275 t276 t277 (rd l1 x24_1) false _ A24.out).mono ?_); rintro e w71 ⟨rfl, hb⟩; refine ⟨_, rfl, ?_⟩; have n0_ := Aside0.mk (Kd.R_below (by (with_reducible repeat (first | apply Kd.R_alloc | apply Kd.R_drewN | apply Kd.R_drew)); exact HO_8.out) hb); have n1_ := Aside0.mk (blk_below (g := gb265) (o := .cells #[.int .u8 a0_0, .int .u32 a0_1] 49 (0, 0)) (by (with_reducible repeat (first | refine blk_drewN ?_ _ | refine blk_drew ?_ | refine blk_alloc ?_ _)); exact BK265.out) hb); have n2_ := Aside0.mk (blk_below (g := gb272) (o := .cells #[.int .u8 x273000_1, .int .u32 x273001_1, .int .u64 x273002_1, .int .i64 x273003_1, .int .i64 x273004_1] 57 (0, 0)) (by (with_reducible repeat (first | refine blk_drewN ?_ _ | refine blk_drew ?_ | refine blk_alloc ?_ _)); exact BK272.out) hb); have n3_ := Aside0.mk (blk_below (g := gb278) (o := .cells #[.int .u8 t273, .int .u32 t274, .int .u64 t275, .int .i64 t276, .int .i64 t277] 57 (0, 0)) (by (with_reducible repeat (first | refine blk_drewN ?_ _ | refine blk_drew ?_ | refine blk_alloc ?_ _)); exact BK278.out) hb); have n4_ := Aside0.mk (below_step (by repeat (first | (with_reducible first | exact HB.out | apply below_alloc | apply pw_below_drewN | apply below_drew1 | refine below_set ?_ GE265.out | refine below_set ?_ GE272.out | refine below_set ?_ GE278.out) | exact HB.out)) hb); clear HO_8; clear BK265; clear BK272; clear BK278; clear HB; have HO_8 := n0_; have BK265 := n1_; have BK272 := n2_; have BK278 := n3_; have HB := n4_; clear n0_ n1_ n2_ n3_ n4_; (try clear hb); (try clear hb2); (try clear hk); (try clear hi)))
        go_ret2
        exact ⟨_, by first | rfl | (simp [errW_none, errW_some] <;> rfl) | (simp [*, errW_none, errW_some] <;> rfl), by first | exact Kd.R_nil _ _ _ _ _ | exact Kd.N_nil _ _ _ _ _ | exact Kd.V_nil _ _ _ _ _ | exact Kd.Q_nil _ _ _ _ _ | exact Kd.S_nil _ _ _ _ _, by repeat (first | (with_reducible first | exact HB.out | apply below_alloc | apply pw_below_drewN | apply below_drew1 | refine below_set ?_ GE265.out | refine below_set ?_ GE272.out | refine below_set ?_ GE278.out) | exact HB.out)⟩
      ·
       rw [if_neg c23] at H
       exact absurd H (by simp)
     ·
      rw [if_neg c22] at H
      exact absurd H (by simp)
    ·
     rw [if_neg c21] at H
     have c21b0 : decide (x24_1 < (l1.length : Int)) = false := decide_eq_false c21
     clear c21
     simp only [Option.some.injEq, Prod.mk.injEq] at H
     obtain ⟨rfl, rfl⟩ := H
     go_wp2
     go_ret2
     exact ⟨_, by first | rfl | (simp [errW_none, errW_some] <;> rfl) | (simp [*, errW_none, errW_some] <;> rfl), by (with_reducible repeat (first | apply Kd.R_alloc | apply Kd.R_drewN | apply Kd.R_drew)); exact HO_8.out, by repeat (first | (with_reducible first | exact HB.out | apply below_alloc | apply pw_below_drewN | apply below_drew1 | refine below_set ?_ GE265.out | refine below_set ?_ GE272.out | refine below_set ?_ GE278.out) | exact HB.out)⟩
 ·
  replace c4 := Bool.eq_false_iff.mpr c4
  subst c4
  have H1 : (some (([] : List Int), 1)) = some (r1, r2) := by rw [if_neg (show ¬ (false = true) by decide)] at H; exact H
  clear H
  have H := H1
  clear H1
  simp only [Option.some.injEq, Prod.mk.injEq] at H
  obtain ⟨rfl, rfl⟩ := H
  go_enter Try.func38, Try.ntmps38
  go_wp2_with (first | ((with_reducible refine gate_dst (N := 2) rfl ?_); refine box_event ?hg (N := 2) ?hd (cs := #[.int .u8 a0_0, .int .u32 a0_1]) (t := 49) ?hr ?_; (case hd => rfl); (case hg => rfl); (case hr => first | (go_simp; done) | (go_simp; rfl)); intro gb265 hg w72 hbox hb; have n0_ := Aside0.mk (below_step (by repeat (with_reducible first | exact HB.out | apply below_alloc | apply pw_below_drewN | apply below_drew1)) hb); have n1_ := Aside0.mk (hbox); have n2_ := Aside0.mk ((by rw [hg]; exact (below_size (by repeat (with_reducible first | exact HB.out | apply below_alloc | apply pw_below_drewN | apply below_drew1))) : w.heap.size ≤ gb265)); have n3_ := Aside0.mk ((by rw [hg]; exact (below_size (by repeat (with_reducible first | exact HB.out | apply below_alloc | apply pw_below_drewN | apply below_drew1))) : w.heap.size ≤ gb265)); clear HB; have HB := n0_; have BK265 := n1_; have GW265 := n2_; have GE265 := n3_; clear n0_ n1_ n2_ n3_; clear hb hbox hg; have hcz73_0 : w72.cell? ⟨gb265, 0, none⟩ = some (.int .u8 a0_0) := (blk_cell BK265.out 0).trans rfl; have hcz73_1 : w72.cell? ⟨gb265, 1, none⟩ = some (.int .u32 a0_1) := (blk_cell BK265.out 1).trans rfl; have hfz73_0 := blk_frozen BK265.out 0; have hfz73_1 := blk_frozen BK265.out 1) | ((with_reducible refine gate_callee (f := 44) rfl ?_); refine goesL_ (some 12) rfl rfl Try.func44 (by kernel_rfl) rfl #[.agg #[.int .u8 a0_0, .int .u32 a0_1]] rfl (by (try simp only [List.map_toArray, List.map_cons, List.map_nil]); first | done | rfl) ?_; (with_reducible refine (fascicleref08_May.calls a0_0 a0_1 false _ A3.out).mono ?_); rintro e w74 ⟨rfl, hb⟩; refine ⟨_, rfl, ?_⟩; have n0_ := Aside0.mk (blk_below (g := gb265) (o := .cells #[.int .u8 a0_0, .int .u32 a0_1] 49 (0, 0)) (by (with_reducible repeat (first | refine blk_drewN ?_ _ | refine blk_drew ?_ | refine blk_alloc ?_ _)); exact BK265.out) hb); have n1_ := Aside0.mk (below_step (by repeat (first | (with_reducible first | exact HB.out | apply below_alloc | apply pw_below_drewN | apply below_drew1 | refine below_set ?_ GE265.out) | exact HB.out)) hb); clear BK265; clear HB; have BK265 := n0_; have HB := n1_; clear n0_ n1_; (try clear hb); (try clear hb2); (try clear hk); (try clear hi)))
  go_ret2
  exact ⟨_, by first | rfl | (simp [errW_none, errW_some] <;> rfl) | (simp [*, errW_none, errW_some] <;> rfl), by first | exact Kd.R_nil _ _ _ _ _ | exact Kd.N_nil _ _ _ _ _ | exact Kd.V_nil _ _ _ _ _ | exact Kd.Q_nil _ _ _ _ _ | exact Kd.S_nil _ _ _ _ _, by repeat (first | (with_reducible first | exact HB.out | apply below_alloc | apply pw_below_drewN | apply below_drew1 | refine below_set ?_ GE265.out) | exact HB.out)⟩

end Go.Proofs.Ytnmdckgaljldhaa.G
-- squeezed
