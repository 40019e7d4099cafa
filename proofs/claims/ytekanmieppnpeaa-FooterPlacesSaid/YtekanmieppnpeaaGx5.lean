-- Written by gprint.py (the kit's print.py with contracts of my own taken as given)
import Derived.Test.YtekanmieppnpeaaGx0
import Derived.Test.YtekanmieppnpeaaHFenceG
import Derived.Test.YtekanmieppnpeaaHFenceRange
import Derived.Test.YtekanmieppnpeaaHFootCheck
import Derived.Test.YtekanmieppnpeaaHTFind
namespace Go.Proofs.Ytekanmieppnpeaa.G
open Go.RowKit Go.Proofs.YtekanmieppnpeaaW.PrintWords Go.Proofs.YtekanmieppnpeaaW.PrintLast Go.Proofs.YtekanmieppnpeaaW.PrintMore
attribute [local go_sem] max2_int min2_int max_two min_two max_three min_three max_four min_four   -- for this text's walks alone
set_option linter.unusedVariables false
set_option linter.unusedSimpArgs false

/-! ### footer_Places: function 16 -/
def footer_Places.l0 : Nat → List Int → List (S33) → Int → Int → Option (List Int)
  | 0, _, _, _, _ => none
  | k + 1, x8, x39, x40, x41 => if x41 < x40 then (if 0 ≤ x41 then (if x41 < (x39.length : Int) then (if x8.length < 35184372088832 then (footer_Places.l0 k (x8 ++ [(rd_T33 x39 x41).f1]) x39 x40 (wrap64 (x41 + 1))) else (none)) else (none)) else (none)) else (some x8)
def footer_Places.f (k : Nat) (a0_0 : Int) (l0_1 : List (S33)) (a1 : Int) : Option (List Int) := (footer_Check.f a0_0 l0_1).bind fun t122 => (if t122 = 0 then ((fence_Of.f l0_1).bind fun t123 => ((fence_Range.f t123 (l0_1.length : Int) a1).bind fun bt126 => (if 0 ≤ bt126.1 then (if bt126.1 ≤ bt126.2 then (if bt126.2 ≤ (l0_1.length : Int) then ((some ((l0_1.take (bt126.2 : Int).toNat).drop (bt126.1 : Int).toNat : List (S33))).bind fun y128 => ((table_Find.f y128 a1).bind fun bt132 => (if 0 ≤ bt132.1 then (if bt132.1 ≤ bt132.2 then (if bt132.2 ≤ (y128.length : Int) then ((some ((y128.take (bt132.2 : Int).toNat).drop (bt132.1 : Int).toNat : List (S33))).bind fun y134 => (footer_Places.l0 k ([] : List Int) y134 (y134.length : Int) 0)) else (none)) else (none)) else (none)))) else (none)) else (none)) else (none)))) else (some ([] : List Int)))
theorem footer_Places.mono_l : ∀ k, (∀ y0 y1 y2 y3, LeO (footer_Places.l0 k y0 y1 y2 y3) (footer_Places.l0 (k + 1) y0 y1 y2 y3))
  | 0 => fun _ _ _ _ r h => by simp [footer_Places.l0] at h
  | k + 1 => by
    have ih0 := footer_Places.mono_l k
    · intro y0 y1 y2 y3
      unfold footer_Places.l0
      repeat' first
      | (with_reducible exact ih0 _ _ _ _)
      | (with_reducible exact LeO.refl _)
      | (with_reducible exact LeO.none _)
      | (with_reducible refine LeO.ite ?_ ?_)
      | (with_reducible refine LeO.bind ?_ (fun _ => ?_))
      | exact ih0 _ _ _ _
      | exact LeO.none _
      | refine LeO.ite ?_ ?_
      | refine LeO.bind ?_ (fun _ => ?_)
theorem footer_Places.mono : ∀ a0 a1 a2 k, LeO (footer_Places.f k a0 a1 a2) (footer_Places.f (k + 1) a0 a1 a2) := by
  intro a0 a1 a2 k
  have ih0 := footer_Places.mono_l k
  unfold footer_Places.f
  repeat' first
      | (with_reducible exact ih0 _ _ _ _)
      | (with_reducible exact LeO.refl _)
      | (with_reducible exact LeO.none _)
      | (with_reducible refine LeO.ite ?_ ?_)
      | (with_reducible refine LeO.bind ?_ (fun _ => ?_))
      | exact ih0 _ _ _ _
      | exact LeO.none _
      | refine LeO.ite ?_ ?_
      | refine LeO.bind ?_ (fun _ => ?_)
def footer_Places.T3 : Bool × List (List Nat × List Nat) := (true, [([], []), ([0], [0]), ([1], [1]), ([], []), ([3], [3]), ([4], [4]), ([], []), ([2, 5, 6, 2], [2, 5, 6]), ([7], [7]), ([8], [8]), ([8], [8]), ([9, 7, 0, 1, 2, 3, 4, 5, 6, 7, 8, 9], [9]), ([10, 11, 0, 1, 2, 3, 4, 5, 6, 7, 8, 9, 10, 11], [10])])
def footer_Places.B3 : List Nat := [0, 1, 3, 0, 8, 24, 0, 127, 255, 511, 511, 1023, 4095]
theorem footer_Places.tab3 : rtab .any (opsOf Try.f16 3) = footer_Places.T3 := by kernel_rfl
theorem footer_Places.bits3 : waitsOk footer_Places.T3.2 footer_Places.B3 = true := by kernel_rfl
set_option maxHeartbeats 8000000 in
set_option maxRecDepth 100000 in
theorem footer_Places.calls (k : Nat) (a0_0 : Int) (A0_1 : Option Addr) (c0_1 : Nat) (l0_1 : List (S33)) (a1 : Int) (r : List Int) (w : World) (hr0_1 : Kd.C k33 w A0_1 l0_1.length l0_1) (hc0_1 : l0_1.length ≤ c0_1) (h : footer_Places.f k a0_0 l0_1 a1 = some r) :
    Calls Try.prog 16 #[.agg #[.int .u32 a0_0, .slice A0_1 l0_1.length c0_1], .int .u64 a1] w fun e w' => ∃ v0_ : Value, e = .returned (v0_) ∧ Kd.R (Kd.int .u32) 26 w' w.heap.size (fun _ => True) v0_ r ∧ Below w.heap.size w w' := by
  have hu29 := Try.underlying29
  have hu33 := Try.underlying33
  have HR0_1 := Aside0.mk hr0_1
  have HC0_1 := Aside0.mk hc0_1
  clear hr0_1 hc0_1
  have HB := Aside0.mk (Below.refl w.heap.size w)
  have H : ((footer_Check.f a0_0 l0_1).bind fun t122 => (if t122 = 0 then ((fence_Of.f l0_1).bind fun t123 => ((fence_Range.f t123 (l0_1.length : Int) a1).bind fun bt126 => (if 0 ≤ bt126.1 then (if bt126.1 ≤ bt126.2 then (if bt126.2 ≤ (l0_1.length : Int) then ((some ((l0_1.take (bt126.2 : Int).toNat).drop (bt126.1 : Int).toNat : List (S33))).bind fun y128 => ((table_Find.f y128 a1).bind fun bt132 => (if 0 ≤ bt132.1 then (if bt132.1 ≤ bt132.2 then (if bt132.2 ≤ (y128.length : Int) then ((some ((y128.take (bt132.2 : Int).toNat).drop (bt132.1 : Int).toNat : List (S33))).bind fun y134 => (footer_Places.l0 k ([] : List Int) y134 (y134.length : Int) 0)) else (none)) else (none)) else (none)))) else (none)) else (none)) else (none)))) else (some ([] : List Int)))) = some r := h
  clear h
  replace H := Option.bind_eq_some_iff.mp H
  obtain ⟨t122, A30, H⟩ := H
  replace H : (if t122 = 0 then ((fence_Of.f l0_1).bind fun t123 => ((fence_Range.f t123 (l0_1.length : Int) a1).bind fun bt126 => (if 0 ≤ bt126.1 then (if bt126.1 ≤ bt126.2 then (if bt126.2 ≤ (l0_1.length : Int) then ((some ((l0_1.take (bt126.2 : Int).toNat).drop (bt126.1 : Int).toNat : List (S33))).bind fun y128 => ((table_Find.f y128 a1).bind fun bt132 => (if 0 ≤ bt132.1 then (if bt132.1 ≤ bt132.2 then (if bt132.2 ≤ (y128.length : Int) then ((some ((y128.take (bt132.2 : Int).toNat).drop (bt132.1 : Int).toNat : List (S33))).bind fun y134 => (footer_Places.l0 k ([] : List Int) y134 (y134.length : Int) 0)) else (none)) else (none)) else (none)))) else (none)) else (none)) else (none)))) else (some ([] : List Int))) = some r := H
  have A3 := Aside0.mk A30
  clear A30
  by_cases c4 : t122 = 0
  · rw [if_pos c4] at H
    have c4b0 : (t122 == 0) = true := beq_iff_eq.mpr c4
    have c4b1 : (t122 != 0) = false := bne_eq_false_iff_eq.mpr c4
    clear c4
    replace H := Option.bind_eq_some_iff.mp H
    obtain ⟨t123, A50, H⟩ := H
    replace H : ((fence_Range.f t123 (l0_1.length : Int) a1).bind fun bt126 => (if 0 ≤ bt126.1 then (if bt126.1 ≤ bt126.2 then (if bt126.2 ≤ (l0_1.length : Int) then ((some ((l0_1.take (bt126.2 : Int).toNat).drop (bt126.1 : Int).toNat : List (S33))).bind fun y128 => ((table_Find.f y128 a1).bind fun bt132 => (if 0 ≤ bt132.1 then (if bt132.1 ≤ bt132.2 then (if bt132.2 ≤ (y128.length : Int) then ((some ((y128.take (bt132.2 : Int).toNat).drop (bt132.1 : Int).toNat : List (S33))).bind fun y134 => (footer_Places.l0 k ([] : List Int) y134 (y134.length : Int) 0)) else (none)) else (none)) else (none)))) else (none)) else (none)) else (none))) = some r := H
    have A5 := Aside0.mk A50
    clear A50
    replace H := Option.bind_eq_some_iff.mp H
    obtain ⟨⟨t126, t127⟩, A60, H⟩ := H
    replace H : (if 0 ≤ t126 then (if t126 ≤ t127 then (if t127 ≤ (l0_1.length : Int) then ((some ((l0_1.take (t127 : Int).toNat).drop (t126 : Int).toNat : List (S33))).bind fun y128 => ((table_Find.f y128 a1).bind fun bt132 => (if 0 ≤ bt132.1 then (if bt132.1 ≤ bt132.2 then (if bt132.2 ≤ (y128.length : Int) then ((some ((y128.take (bt132.2 : Int).toNat).drop (bt132.1 : Int).toNat : List (S33))).bind fun y134 => (footer_Places.l0 k ([] : List Int) y134 (y134.length : Int) 0)) else (none)) else (none)) else (none)))) else (none)) else (none)) else (none)) = some r := H
    have A6 := Aside0.mk A60
    clear A60
    by_cases c7 : 0 ≤ t126
    · rw [if_pos c7] at H
      have c7b0 := eq_true c7
      have c7b1 : decide (0 ≤ t126) = true := decide_eq_true c7
      clear c7
      by_cases c8 : t126 ≤ t127
      · rw [if_pos c8] at H
        have c8b0 := eq_true c8
        have c8b1 : decide (t126 ≤ t127) = true := decide_eq_true c8
        clear c8
        by_cases c9 : t127 ≤ (l0_1.length : Int)
        · rw [if_pos c9] at H
          have c9b0 := eq_true c9
          have c9b1 : decide (t127 ≤ (l0_1.length : Int)) = true := decide_eq_true c9
          clear c9
          obtain ⟨y128, hy128⟩ : ∃ y_ : List (S33), y_ = ((l0_1.take (t127 : Int).toNat).drop (t126 : Int).toNat) := ⟨_, rfl⟩
          replace H : ((table_Find.f y128 a1).bind fun bt132 => (if 0 ≤ bt132.1 then (if bt132.1 ≤ bt132.2 then (if bt132.2 ≤ (y128.length : Int) then ((some ((y128.take (bt132.2 : Int).toNat).drop (bt132.1 : Int).toNat : List (S33))).bind fun y134 => (footer_Places.l0 k ([] : List Int) y134 (y134.length : Int) 0)) else (none)) else (none)) else (none))) = some r := by first | (rw [hy128]; with_reducible exact H) | (have H2_ := (Option.bind_some _ _).symm.trans H; rw [hy128]; with_reducible exact H2_) | (have H2_ := (Option.bind_some _ _).symm.trans H; with_reducible exact H2_) | with_reducible exact H | (rw [hy128]; exact H) | exact H
          have Ny128 := Aside0.mk hy128
          clear hy128
          replace H := Option.bind_eq_some_iff.mp H
          obtain ⟨⟨t132, t133⟩, A100, H⟩ := H
          replace H : (if 0 ≤ t132 then (if t132 ≤ t133 then (if t133 ≤ (y128.length : Int) then ((some ((y128.take (t133 : Int).toNat).drop (t132 : Int).toNat : List (S33))).bind fun y134 => (footer_Places.l0 k ([] : List Int) y134 (y134.length : Int) 0)) else (none)) else (none)) else (none)) = some r := H
          have A10 := Aside0.mk A100
          clear A100
          by_cases c11 : 0 ≤ t132
          · rw [if_pos c11] at H
            have c11b0 := eq_true c11
            have c11b1 : decide (0 ≤ t132) = true := decide_eq_true c11
            clear c11
            by_cases c12 : t132 ≤ t133
            · rw [if_pos c12] at H
              have c12b0 := eq_true c12
              have c12b1 : decide (t132 ≤ t133) = true := decide_eq_true c12
              clear c12
              by_cases c13 : t133 ≤ (y128.length : Int)
              · rw [if_pos c13] at H
                have c13b0 := eq_true c13
                have c13b1 : decide (t133 ≤ (y128.length : Int)) = true := decide_eq_true c13
                clear c13
                obtain ⟨y134, hy134⟩ : ∃ y_ : List (S33), y_ = ((y128.take (t133 : Int).toNat).drop (t132 : Int).toNat) := ⟨_, rfl⟩
                replace H : (footer_Places.l0 k ([] : List Int) y134 (y134.length : Int) 0) = some r := by first | (rw [hy134]; with_reducible exact H) | (have H2_ := (Option.bind_some _ _).symm.trans H; rw [hy134]; with_reducible exact H2_) | (have H2_ := (Option.bind_some _ _).symm.trans H; with_reducible exact H2_) | with_reducible exact H | (rw [hy134]; exact H) | exact H
                have Ny134 := Aside0.mk hy134
                clear hy134
                have H' := Aside0.mk H
                clear H
                go_enter Try.func16, Try.ntmps16
                try go_wp2_with (first | ((with_reducible refine gate_dst (N := 2) rfl ?_); refine box_event ?hg (N := 2) ?hd (cs := #[.int .u32 a0_0, .slice A0_1 l0_1.length c0_1]) (t := 29) ?hr ?_; (case hd => rfl); (case hg => rfl); (case hr => first | (go_simp; done) | (go_simp; rfl)); intro gb121 hg w14 hbox hb; have n0_ := Aside0.mk (below_step (by repeat (first | (with_reducible first | exact HB.out | apply below_alloc | apply pw_below_drewN | apply below_drew1) | exact HB.out)) hb); have n1_ := Aside0.mk (hbox); have n2_ := Aside0.mk ((by rw [hg]; exact (below_size (by repeat (first | (with_reducible first | exact HB.out | apply below_alloc | apply pw_below_drewN | apply below_drew1) | exact HB.out))) : w.heap.size ≤ gb121)); have n3_ := Aside0.mk ((by rw [hg]; exact (below_size (by repeat (first | (with_reducible first | exact HB.out | apply below_alloc | apply pw_below_drewN | apply below_drew1) | exact HB.out))) : w.heap.size ≤ gb121)); clear HB; have HB := n0_; have BK121 := n1_; have GW121 := n2_; have GE121 := n3_; clear n0_ n1_ n2_ n3_; clear hb hbox hg; have hcz15_0 : w14.cell? ⟨gb121, 0, none⟩ = some (.int .u32 a0_0) := (blk_cell BK121.out 0).trans rfl; have hcz15_1 : w14.cell? ⟨gb121, 1, none⟩ = some (.slice A0_1 l0_1.length c0_1) := (blk_cell BK121.out 1).trans rfl; have hfz15_0 := blk_frozen BK121.out 0; have hfz15_1 := blk_frozen BK121.out 1) | ((with_reducible refine gate_callee (f := 17) rfl ?_); refine goesL_ (some 12) rfl rfl Try.func17 (by kernel_rfl) rfl #[.agg #[.int .u32 a0_0, .slice A0_1 l0_1.length c0_1]] rfl (by (try simp only [List.map_toArray, List.map_cons, List.map_nil]); first | done | rfl | (simp only [List.length_drop, List.length_take]; rfl) | (refine congrArg (fun z => #[Value.int .u64 z]) ?_; rw [IntKind.wrap_u64]; omega)) ?_; (with_reducible refine (footer_Check.calls a0_0 _ _ l0_1 t122 _ ?side1 ?side2 A3.out).mono ?_); (case side1 => repeat (first | exact (Kd.C_below HR0_1.out HB.out) | (with_reducible refine Kd.C_alloc ?_ _) | (with_reducible refine Kd.C_drewN ?_ _) | (with_reducible refine Kd.C_drew ?_))); (case side2 => exact HC0_1.out); rintro e w16 ⟨rfl, hb⟩; refine ⟨_, rfl, ?_⟩; have n0_ := Aside0.mk (blk_below (g := gb121) (o := .cells #[.int .u32 a0_0, .slice A0_1 l0_1.length c0_1] 29 (0, 0)) (by (with_reducible repeat (first | refine blk_drewN ?_ _ | refine blk_drew ?_ | refine blk_alloc ?_ _)); exact BK121.out) hb); have n1_ := Aside0.mk (below_step (by repeat (first | (with_reducible first | exact HB.out | apply below_alloc | apply pw_below_drewN | apply below_drew1 | refine below_set ?_ GE121.out) | exact HB.out)) hb); clear BK121; clear HB; have BK121 := n0_; have HB := n1_; clear n0_ n1_; (try clear hb); (try clear hb2); (try clear hk); (try clear hi)))
                have n0_ := Aside0.mk (blk_drew BK121.out)
                have n1_ := Aside0.mk (below_drew1 HB.out)
                clear BK121
                clear HB
                have BK121 := n0_
                have HB := n1_
                clear n0_ n1_
                refine start_ (n := 13) (S := fun w' => w'.cell? ⟨gb121, 0, none⟩ = some (.int .u32 a0_0) ∧ w'.cell? ⟨gb121, 1, none⟩ = some (.slice A0_1 l0_1.length c0_1)) (ds := []) #[false, false, false, false, false, false, false, false, false, false, false, false, false] (by kernel_rfl) rfl rfl ⟨(blk_cell BK121.out 0).trans rfl, (blk_cell BK121.out 1).trans rfl⟩ (fun hHeld => ?_); refine with_tabW footer_Places.tab3 footer_Places.bits3 (fun HT_ HW_ => ?_)
                generalize w16.drew = w17 at BK121 HB hHeld ⊢
                refine pure_ (i := 0) (N := some 15) (v := ?_) (a' := ?_) #[true, false, false, false, false, false, false, false, false, false, false, false, false] rfl rfl (any_of HT_.out (by kernel_rfl)) (fun _ _ _ h => h) (Or.inl ⟨by rfl, ?_⟩) ?_ ?_
                rotate_left
                · intro w'
                  go_simp
                  with_reducible rfl
                rotate_left
                · simp only [Act.put, List.setIfInBounds_toArray, List.set_cons_zero, List.set_cons_succ, i64_w, i32_w]
                  rfl
                refine pure_ (i := 3) (N := some 18) (v := ?_) (a' := ?_) #[true, false, false, true, false, false, false, false, false, false, false, false, false] rfl rfl (any_of HT_.out (by kernel_rfl)) (fun _ _ _ h => h) (Or.inl ⟨by rfl, ?_⟩) ?_ ?_
                rotate_left
                · intro w'
                  go_simp
                  with_reducible rfl
                rotate_left
                · simp only [Act.put, List.setIfInBounds_toArray, List.set_cons_zero, List.set_cons_succ, i64_w, i32_w]
                  rfl
                refine pure_ (i := 6) (N := some 21) (v := ?_) (a' := ?_) #[true, false, false, true, false, false, true, false, false, false, false, false, false] rfl rfl (any_of HT_.out (by kernel_rfl)) (fun _ _ _ h => h) (Or.inl ⟨by rfl, ?_⟩) ?_ ?_
                rotate_left
                · intro w'
                  go_simp
                  with_reducible rfl
                rotate_left
                · simp only [Act.put, List.setIfInBounds_toArray, List.set_cons_zero, List.set_cons_succ, i64_w, i32_w]
                  rfl
                refine take_ (i := 1) (N := some 16) (v := ?_) (a' := ?_) #[true, true, false, true, false, false, true, false, false, false, false, false, false] rfl rfl (take_ofW HT_.out HW_.out (by kernel_rfl)) (fun _ _ _ h => h) (Or.inl ⟨by rfl, ?_⟩) hHeld ?_ ?_
                rotate_left
                · rintro w' ⟨s0, s1⟩
                  go_simp
                  with_reducible rfl
                rotate_left
                · simp only [Act.put, List.setIfInBounds_toArray, List.set_cons_zero, List.set_cons_succ, i64_w, i32_w]
                  rfl
                refine take_ (i := 4) (N := some 19) (v := ?_) (a' := ?_) #[true, true, false, true, true, false, true, false, false, false, false, false, false] rfl rfl (take_ofW HT_.out HW_.out (by kernel_rfl)) (fun _ _ _ h => h) (Or.inl ⟨by rfl, ?_⟩) hHeld ?_ ?_
                rotate_left
                · rintro w' ⟨s0, s1⟩
                  go_simp
                  with_reducible rfl
                rotate_left
                · simp only [Act.put, List.setIfInBounds_toArray, List.set_cons_zero, List.set_cons_succ, i64_w, i32_w]
                  rfl
                refine pure_ (i := 5) (N := some 20) (v := ?_) (a' := ?_) #[true, true, false, true, true, true, true, false, false, false, false, false, false] rfl rfl (any_of HT_.out (by kernel_rfl)) (fun _ _ _ h => h) (Or.inl ⟨by rfl, ?_⟩) ?_ ?_
                rotate_left
                · intro w'
                  go_simp
                  with_reducible rfl
                rotate_left
                · simp only [Act.put, List.setIfInBounds_toArray, List.set_cons_zero, List.set_cons_succ, i64_w, i32_w]
                  rfl
                refine one_ (i := 2) (N := some 17) #[true, true, true, true, true, true, true, false, false, false, false, false, false] rfl rfl (one_of HT_.out (by kernel_rfl)) (by decide) (fun K hK => ?_)
                refine goes_ Try.func45 (by kernel_rfl) rfl #[.slice A0_1 l0_1.length c0_1] (by rfl) rfl rfl (by (try simp only [List.map_toArray, List.map_cons, List.map_nil]); first | done | rfl | (simp only [List.length_drop, List.length_take]; rfl) | (refine congrArg (fun z => #[Value.int .u64 z]) ?_; rw [IntKind.wrap_u64]; omega)) ?_
                with_reducible refine (fence_Of.calls _ _ l0_1 t123 _ ?side1 ?side2 A5.out).mono ?_
                (case side1 => repeat (first | exact (Kd.C_below HR0_1.out HB.out) | (with_reducible refine Kd.C_alloc ?_ _) | (with_reducible refine Kd.C_drewN ?_ _) | (with_reducible refine Kd.C_drew ?_)))
                (case side2 => exact HC0_1.out)
                rintro e w18 ⟨v124, rfl, ho0, hb⟩
                refine ⟨_, rfl, ?_⟩
                have n0_ := Aside0.mk (Kd.R_lower ho0 (below_size (by repeat (first | (with_reducible first | exact HB.out | apply below_alloc | apply pw_below_drewN | apply below_drew1 | refine below_set ?_ GE121.out) | exact HB.out))))
                have n1_ := Aside0.mk (blk_below (g := gb121) (o := .cells #[.int .u32 a0_0, .slice A0_1 l0_1.length c0_1] 29 (0, 0)) (by (with_reducible repeat (first | refine blk_drewN ?_ _ | refine blk_drew ?_ | refine blk_alloc ?_ _)); exact BK121.out) hb)
                have n2_ := Aside0.mk (below_step (by repeat (first | (with_reducible first | exact HB.out | apply below_alloc | apply pw_below_drewN | apply below_drew1 | refine below_set ?_ GE121.out) | exact HB.out)) hb)
                clear BK121
                clear HB
                have HO125 := n0_
                have BK121 := n1_
                have HB := n2_
                clear n0_ n1_ n2_
                (try clear hb)
                (try clear hb2)
                (try clear hk)
                (try clear hi)
                (try clear ho0)
                obtain ⟨Ao19, co19, eo19⟩ := Kd.R_slice HO125.out
                (first | subst eo19 | (injection eo19 with f1_ f2_ f3_; have f4_ := f1_.symm; have f5_ := f3_.symm; clear f1_ f2_ f3_; subst f4_; subst f5_))
                refine hK.out _ _ ⟨(blk_cell BK121.out 0).trans rfl, (blk_cell BK121.out 1).trans rfl⟩ (fun hHeld => ?_)
                clear hK K
                refine norm_ (a' := ?_) ?_ ?_
                rotate_left
                · show Act.put _ (some 17) _ = _
                  simp only [Act.put, List.setIfInBounds_toArray, List.set_cons_zero, List.set_cons_succ, i64_w, i32_w]
                  rfl
                refine one_ (i := 7) (N := some 22) #[true, true, true, true, true, true, true, true, false, false, false, false, false] rfl rfl (one_of HT_.out (by kernel_rfl)) (by decide) (fun K hK => ?_)
                refine goes_ Try.func44 (by kernel_rfl) rfl #[.slice Ao19 t123.length co19, .int .i64 (l0_1.length : Int), .int .u64 a1] (by rfl) rfl rfl (by (try simp only [List.map_toArray, List.map_cons, List.map_nil]); first | done | rfl | (simp only [List.length_drop, List.length_take]; rfl) | (refine congrArg (fun z => #[Value.int .u64 z]) ?_; rw [IntKind.wrap_u64]; omega)) ?_
                with_reducible refine (fence_Range.calls _ _ t123 (l0_1.length : Int) a1 t126 t127 _ ?side1 ?side2 A6.out).mono ?_
                (case side1 => repeat (first | exact (Kd.R_reads' HO125.out).2.2 | (with_reducible refine Kd.C_alloc ?_ _) | (with_reducible refine Kd.C_drewN ?_ _) | (with_reducible refine Kd.C_drew ?_)))
                (case side2 => exact (Kd.R_reads' HO125.out).2.1)
                rintro e w20 ⟨rfl, hb⟩
                refine ⟨_, rfl, ?_⟩
                have n0_ := Aside0.mk (Kd.R_below (by (with_reducible repeat (first | apply Kd.R_alloc | apply Kd.R_drewN | apply Kd.R_drew)); exact HO125.out) hb)
                have n1_ := Aside0.mk (blk_below (g := gb121) (o := .cells #[.int .u32 a0_0, .slice A0_1 l0_1.length c0_1] 29 (0, 0)) (by (with_reducible repeat (first | refine blk_drewN ?_ _ | refine blk_drew ?_ | refine blk_alloc ?_ _)); exact BK121.out) hb)
                have n2_ := Aside0.mk (below_step (by repeat (first | (with_reducible first | exact HB.out | apply below_alloc | apply pw_below_drewN | apply below_drew1 | refine below_set ?_ GE121.out) | exact HB.out)) hb)
                clear HO125
                clear BK121
                clear HB
                have HO125 := n0_
                have BK121 := n1_
                have HB := n2_
                clear n0_ n1_ n2_
                (try clear hb)
                (try clear hb2)
                (try clear hk)
                (try clear hi)
                refine hK.out _ _ ⟨(blk_cell BK121.out 0).trans rfl, (blk_cell BK121.out 1).trans rfl⟩ (fun hHeld => ?_)
                clear hK K
                refine norm_ (a' := ?_) ?_ ?_
                rotate_left
                · show Act.put _ (some 22) _ = _
                  simp only [Act.put, List.setIfInBounds_toArray, List.set_cons_zero, List.set_cons_succ, i64_w, i32_w]
                  rfl
                refine pure_ (i := 8) (N := some 14) (v := ?_) (a' := ?_) #[true, true, true, true, true, true, true, true, true, false, false, false, false] rfl rfl (any_of HT_.out (by kernel_rfl)) (fun _ _ _ h => h) (Or.inl ⟨by rfl, ?_⟩) ?_ ?_
                rotate_left
                · intro w'
                  go_simp
                  with_reducible rfl
                rotate_left
                · simp only [Act.put, List.setIfInBounds_toArray, List.set_cons_zero, List.set_cons_succ, i64_w, i32_w]
                  rfl
                refine pure_ (i := 9) (N := some 23) (v := ?_) (a' := ?_) #[true, true, true, true, true, true, true, true, true, true, false, false, false] rfl rfl (any_of HT_.out (by kernel_rfl)) (fun _ _ _ h => h) (Or.inl ⟨by rfl, ?_⟩) ?_ ?_
                rotate_left
                · intro w'
                  go_simp
                  with_reducible rfl
                rotate_left
                · simp only [Act.put, List.setIfInBounds_toArray, List.set_cons_zero, List.set_cons_succ, i64_w, i32_w]
                  rfl
                refine pure_ (i := 10) (N := some 24) (v := ?_) (a' := ?_) #[true, true, true, true, true, true, true, true, true, true, true, false, false] rfl rfl (any_of HT_.out (by kernel_rfl)) (fun _ _ _ h => h) (Or.inl ⟨by rfl, ?_⟩) ?_ ?_
                rotate_left
                · intro w'
                  go_simp
                  with_reducible rfl
                rotate_left
                · simp only [Act.put, List.setIfInBounds_toArray, List.set_cons_zero, List.set_cons_succ, i64_w, i32_w]
                  rfl
                refine pure_ (i := 11) (N := some 5) (v := ?_) (a' := ?_) #[true, true, true, true, true, true, true, true, true, true, true, true, false] rfl rfl (any_of HT_.out (by kernel_rfl)) (fun _ _ _ h => h) (Or.inl ⟨by rfl, ?_⟩) ?_ ?_
                rotate_left
                · intro w'
                  go_simp
                  with_reducible rfl
                rotate_left
                · simp only [Act.put, List.setIfInBounds_toArray, List.set_cons_zero, List.set_cons_succ, i64_w, i32_w]
                  rfl
                refine pure_ (i := 12) (N := some 6) (v := ?_) (a' := ?_) #[true, true, true, true, true, true, true, true, true, true, true, true, true] rfl rfl (any_of HT_.out (by kernel_rfl)) (fun _ _ _ h => h) (Or.inl ⟨by rfl, ?_⟩) ?_ ?_
                rotate_left
                · intro w'
                  go_simp
                  with_reducible rfl
                rotate_left
                · simp only [Act.put, List.setIfInBounds_toArray, List.set_cons_zero, List.set_cons_succ, i64_w, i32_w]
                  rfl
                refine done_ (done_of HT_.out (by kernel_rfl)) ?_
                have hcz21_0 : w20.cell? ⟨gb121, 0, none⟩ = some (.int .u32 a0_0) := (blk_cell BK121.out 0).trans rfl
                have hcz21_1 : w20.cell? ⟨gb121, 1, none⟩ = some (.slice A0_1 l0_1.length c0_1) := (blk_cell BK121.out 1).trans rfl
                have hfz21_0 := blk_frozen BK121.out 0
                have hfz21_1 := blk_frozen BK121.out 1
                have q22 : (t127 : Int) ≤ ((l0_1.length : Int) : Int) := of_decide_eq_true (by first | (with_reducible assumption) | assumption)
                obtain ⟨i022, hi022, _, hsz22, _⟩ := info_parts info33
                have hroom22 : l0_1.length ≤ c0_1 := HC0_1.out
                have hC22 : Kd.C k33 _ A0_1 l0_1.length l0_1 := HR0_1.out
                have ql22 : (t126 : Int) ≤ (t127 : Int) := of_decide_eq_true (by first | (with_reducible assumption) | assumption)
                have q022 : (0 : Int) ≤ (t126 : Int) := of_decide_eq_true (by first | (with_reducible assumption) | assumption)
                have hcut22 := cut_mid (P := Try.prog) 27 33 .i64 .i64 Try.underlying27 hi022 2 hsz22 A0_1 l0_1.length c0_1 t126 t127 q022 ql22 q22 hroom22
                have hr22 := Kd.C_mid (lo := (t126 : Int).toNat) (hi := (t127 : Int).toNat) (c := c0_1) hC22 (by omega) (by omega) hroom22
                obtain ⟨A22, hA22⟩ : ∃ A1, A1 = (if c0_1 = (t126 : Int).toNat then A0_1 else (A0_1 : Option Addr).map (·.add ((t126 : Int).toNat * 2))) := ⟨_, rfl⟩
                obtain ⟨c22, hc22⟩ : ∃ c1, c1 = c0_1 - (t126 : Int).toNat := ⟨_, rfl⟩
                have hy22 : y128.length = (t127 : Int).toNat - (t126 : Int).toNat := (by rw [Ny128.out, List.length_drop, List.length_take] <;> omega)
                rw [show ((l0_1).take (t127 : Int).toNat).drop (t126 : Int).toNat = y128 from Ny128.out.symm] at hr22
                replace hr22 : Kd.C k33 _ A22 y128.length y128 := (by rw [hA22]; exact hr22)
                rw [← hy22, ← hA22, ← hc22] at hcut22
                have HR131 := Aside0.mk hr22
                have HC131 := Aside0.mk (show y128.length ≤ c22 from by rw [hy22, hc22]; exact Nat.sub_le_sub_right (Nat.le_trans (by omega) hroom22) _)
                clear hr22 hC22 hroom22 hi022 hsz22 hc22
                have KY22 := Aside0.mk hy22
                have KA22 := Aside0.mk hA22
                clear hy22 hA22
                replace q22 := eq_true q22
                try go_wp2_with (first | ((with_reducible refine gate_callee (f := 46) rfl ?_); refine goesL_ (some 33) rfl rfl Try.func46 (by kernel_rfl) rfl #[.slice A22 y128.length c22, .int .u64 a1] rfl (by (try simp only [List.map_toArray, List.map_cons, List.map_nil]); first | done | rfl | (simp only [List.length_drop, List.length_take]; rfl) | (refine congrArg (fun z => #[Value.int .u64 z]) ?_; rw [IntKind.wrap_u64]; omega)) ?_; (with_reducible refine (table_Find.calls _ _ y128 a1 t132 t133 _ ?side1 ?side2 A10.out).mono ?_); (case side1 => repeat (first | exact (Kd.C_below HR131.out HB.out) | (with_reducible refine Kd.C_alloc ?_ _) | (with_reducible refine Kd.C_drewN ?_ _) | (with_reducible refine Kd.C_drew ?_))); (case side2 => exact HC131.out); rintro e w23 ⟨rfl, hb⟩; refine ⟨_, rfl, ?_⟩; have n0_ := Aside0.mk (Kd.R_below (by (with_reducible repeat (first | apply Kd.R_alloc | apply Kd.R_drewN | apply Kd.R_drew)); exact HO125.out) hb); have n1_ := Aside0.mk (blk_below (g := gb121) (o := .cells #[.int .u32 a0_0, .slice A0_1 l0_1.length c0_1] 29 (0, 0)) (by (with_reducible repeat (first | refine blk_drewN ?_ _ | refine blk_drew ?_ | refine blk_alloc ?_ _)); exact BK121.out) hb); have n2_ := Aside0.mk (below_step (by repeat (first | (with_reducible first | exact HB.out | apply below_alloc | apply pw_below_drewN | apply below_drew1 | refine below_set ?_ GE121.out) | exact HB.out)) hb); clear HO125; clear BK121; clear HB; have HO125 := n0_; have BK121 := n1_; have HB := n2_; clear n0_ n1_ n2_; (try clear hb); (try clear hb2); (try clear hk); (try clear hi); have q24 : (t133 : Int) ≤ ((y128.length : Int) : Int) := of_decide_eq_true (by first | (with_reducible assumption) | assumption); obtain ⟨i024, hi024, _, hsz24, _⟩ := info_parts info33; have hroom24 : y128.length ≤ c22 := HC131.out; have hC24 : Kd.C k33 _ A22 y128.length y128 := HR131.out; have ql24 : (t132 : Int) ≤ (t133 : Int) := of_decide_eq_true (by first | (with_reducible assumption) | assumption); have q024 : (0 : Int) ≤ (t132 : Int) := of_decide_eq_true (by first | (with_reducible assumption) | assumption); have hcut24 := cut_mid (P := Try.prog) 27 33 .i64 .i64 Try.underlying27 hi024 2 hsz24 A22 y128.length c22 t132 t133 q024 ql24 q24 hroom24; have hr24 := Kd.C_mid (lo := (t132 : Int).toNat) (hi := (t133 : Int).toNat) (c := c22) hC24 (by omega) (by omega) hroom24; obtain ⟨A24, hA24⟩ : ∃ A1, A1 = (if c22 = (t132 : Int).toNat then A22 else (A22 : Option Addr).map (·.add ((t132 : Int).toNat * 2))) := ⟨_, rfl⟩; obtain ⟨c24, hc24⟩ : ∃ c1, c1 = c22 - (t132 : Int).toNat := ⟨_, rfl⟩; have hy24 : y134.length = (t133 : Int).toNat - (t132 : Int).toNat := (by rw [Ny134.out, List.length_drop, List.length_take] <;> omega); rw [show ((y128).take (t133 : Int).toNat).drop (t132 : Int).toNat = y134 from Ny134.out.symm] at hr24; replace hr24 : Kd.C k33 _ A24 y134.length y134 := (by rw [hA24]; exact hr24); rw [← hy24, ← hA24, ← hc24] at hcut24; have HR137 := Aside0.mk hr24; have HC137 := Aside0.mk (show y134.length ≤ c24 from by rw [hy24, hc24]; exact Nat.sub_le_sub_right (Nat.le_trans (by omega) hroom24) _); clear hr24 hC24 hroom24 hi024 hsz24 hc24; have KY24 := Aside0.mk hy24; have KA24 := Aside0.mk hA24; clear hy24 hA24; replace q24 := eq_true q24))
                go_loopg [8, 41] k (fun kq v8 v41 w' => ∃ (x8_1 : List Int) (x41_1 : Int), v41 = .int .i64 x41_1 ∧ Aside0 (footer_Places.l0 kq x8_1 y134 (y134.length : Int) x41_1 = some r) ∧ Aside0 (kq ≤ k) ∧ Aside0 (Kd.R (Kd.int .u32) 26 w' w.heap.size (fun _ => True) v8 x8_1) ∧ Aside0 (w'.heap[gb121]? = some (.cells #[.int .u32 a0_0, (.slice A0_1 l0_1.length c0_1)] 29 (0, 0))) ∧ Aside0 (Below w.heap.size w w'))
                case atStart => exact ⟨(([] : List Int)), (0), (by first | rfl | (simp; done) | (simp [*]; done) | (simp; exact (fun l : List UInt8 => (by cases l <;> rfl : l.isEmpty = !(l != ([] : List UInt8)))) _)), H', ⟨Nat.le_refl _⟩, ⟨by first | exact Kd.R_nil _ _ _ _ _ | exact Kd.N_nil _ _ _ _ _ | exact Kd.V_nil _ _ _ _ _ | exact Kd.Q_nil _ _ _ _ _ | exact Kd.S_nil _ _ _ _ _⟩, ⟨by (with_reducible repeat (first | refine blk_drewN ?_ _ | refine blk_drew ?_ | refine blk_alloc ?_ _)); exact BK121.out⟩, ⟨by repeat (first | (with_reducible first | exact HB.out | apply below_alloc | apply pw_below_drewN | apply below_drew1 | refine below_set ?_ GE121.out) | exact HB.out)⟩⟩
                case round =>
                  clear H'
                  try clear c1
                  try clear c2
                  try clear p2
                  try clear q2
                  try clear c4
                  try clear c4b0
                  try clear c4b1
                  try clear c7
                  try clear c7b0
                  try clear c7b1
                  try clear c8
                  try clear c8b0
                  try clear c8b1
                  try clear c9
                  try clear c9b0
                  try clear c9b1
                  try clear c11
                  try clear c11b0
                  try clear c11b1
                  try clear c12
                  try clear c12b0
                  try clear c12b1
                  try clear c13
                  try clear c13b0
                  try clear c13b1
                  try clear c16
                  try clear c17
                  try clear c22
                  try clear q22
                  try clear c24
                  try clear q24
                  try clear hcz15_0
                  try clear hcz15_1
                  try clear hcz21_0
                  try clear hcz21_1
                  try clear hfz15_0
                  try clear hfz15_1
                  try clear hfz21_0
                  try clear hfz21_1
                  try clear q022
                  try clear q024
                  try clear q22
                  try clear q24
                  obtain ⟨x8_1, x41_1, rfl, HA, HK1, HO_8, BK121, HB⟩ := hrel
                  cases gk with
                  | zero => exact absurd HA.out (by simp [footer_Places.l0])
                  | succ k1 =>
                    have H := HA.out
                    clear HA
                    simp only [footer_Places.l0] at H
                    by_cases c25 : x41_1 < (y134.length : Int)
                    · rw [if_pos c25] at H
                      have c25b0 : decide (x41_1 < (y134.length : Int)) = true := decide_eq_true c25
                      clear c25
                      by_cases c26 : 0 ≤ x41_1
                      · rw [if_pos c26] at H
                        have c26b0 : decide (0 ≤ x41_1) = true := decide_eq_true c26
                        clear c26
                        by_cases c27 : x41_1 < (y134.length : Int)
                        · rw [if_pos c27] at H
                          have c27b0 : decide (x41_1 < (y134.length : Int)) = true := decide_eq_true c27
                          clear c27
                          by_cases c28 : x8_1.length < 35184372088832
                          · rw [if_pos c28] at H
                            have LMc28 := Aside0.mk c28
                            clear c28
                            obtain ⟨y140, hy140⟩ : ∃ y_ : List Int, y_ = (x8_1 ++ [(rd_T33 y134 x41_1).f1]) := ⟨_, rfl⟩
                            replace H : (footer_Places.l0 k1 y140 y134 (y134.length : Int) (wrap64 (x41_1 + 1))) = some r := by first | (rw [hy140]; with_reducible exact H) | (have H2_ := (Option.bind_some _ _).symm.trans H; rw [hy140]; with_reducible exact H2_) | (have H2_ := (Option.bind_some _ _).symm.trans H; with_reducible exact H2_) | with_reducible exact H | (rw [hy140]; exact H) | exact H
                            have Ny140 := Aside0.mk hy140
                            clear hy140
                            have H' := Aside0.mk H
                            clear H
                            have p138 : 0 ≤ (x41_1 : Int) := of_decide_eq_true (by first | (with_reducible assumption) | assumption)
                            have q138 : x41_1 < (y134.length : Int) := of_decide_eq_true (by first | (with_reducible assumption) | assumption)
                            obtain ⟨ad138, e138, hx138_0, hx138_1⟩ := at_T33 HR137.out x41_1 p138 q138
                            cases e138
                            replace hx138_0 := (HB.out.cell (World.block_lt_of_cell? w _ hx138_0)).trans hx138_0
                            replace hx138_1 := (HB.out.cell (World.block_lt_of_cell? w _ hx138_1)).trans hx138_1
                            replace p138 := eq_true p138
                            replace q138 := eq_true q138
                            go_wp2_with (first | ((with_reducible refine gate_dst (N := 10) rfl ?_); refine box_event ?hg (N := 10) ?hd (cs := #[.int .u64 0, .int .u32 0]) (t := 33) ?hr ?_; (case hd => rfl); (case hg => rfl); (case hr => first | (go_simp; done) | (go_simp; rfl)); intro gb139 hg w29 hbox hb; have n0_ := Aside0.mk (Kd.R_below (by (with_reducible repeat (first | apply Kd.R_alloc | apply Kd.R_drewN | apply Kd.R_drew)); exact HO_8.out) hb); have n1_ := Aside0.mk (blk_below (g := gb121) (o := .cells #[.int .u32 a0_0, .slice A0_1 l0_1.length c0_1] 29 (0, 0)) (by (with_reducible repeat (first | refine blk_drewN ?_ _ | refine blk_drew ?_ | refine blk_alloc ?_ _)); exact BK121.out) hb); have n2_ := Aside0.mk (below_step (by repeat (first | (with_reducible first | exact HB.out | apply below_alloc | apply pw_below_drewN | apply below_drew1 | refine below_set ?_ GE121.out) | exact HB.out)) hb); have n3_ := Aside0.mk (hbox); have n4_ := Aside0.mk ((by rw [hg]; exact (below_size (by repeat (first | (with_reducible first | exact HB.out | apply below_alloc | apply pw_below_drewN | apply below_drew1 | refine below_set ?_ GE121.out) | exact HB.out))) : w.heap.size ≤ gb139)); have n5_ := Aside0.mk ((by rw [hg]; exact (below_size (by repeat (first | (with_reducible first | exact HB.out | apply below_alloc | apply pw_below_drewN | apply below_drew1 | refine below_set ?_ GE121.out) | exact HB.out))) : w.heap.size ≤ gb139)); have n6_ := Aside0.mk ((by rw [hg]; exact Nat.ne_of_lt (blk_lt (g := gb121) (o := .cells #[.int .u32 a0_0, .slice A0_1 l0_1.length c0_1] 29 (0, 0)) (by (with_reducible repeat (first | refine blk_drewN ?_ _ | refine blk_drew ?_ | refine blk_alloc ?_ _)); exact BK121.out)) : gb121 ≠ gb139)); have n7_ := Aside0.mk ((by rw [hg]; exact Nat.ne_of_gt (blk_lt (g := gb121) (o := .cells #[.int .u32 a0_0, .slice A0_1 l0_1.length c0_1] 29 (0, 0)) (by (with_reducible repeat (first | refine blk_drewN ?_ _ | refine blk_drew ?_ | refine blk_alloc ?_ _)); exact BK121.out)) : gb139 ≠ gb121)); clear HO_8; clear BK121; clear HB; have HO_8 := n0_; have BK121 := n1_; have HB := n2_; have BK139 := n3_; have GW139 := n4_; have GE139 := n5_; have NB121_139 := n6_; have NB139_121 := n7_; clear n0_ n1_ n2_ n3_ n4_ n5_ n6_ n7_; clear hb hbox hg; have hnb30 := NB139_121.out; have hnc30 := NB121_139.out; have hcz31_0 : w29.cell? ⟨gb139, 0, none⟩ = some (.int .u64 0) := (blk_cell BK139.out 0).trans rfl; have hcz31_1 : w29.cell? ⟨gb139, 1, none⟩ = some (.int .u32 0) := (blk_cell BK139.out 1).trans rfl; have hfz31_0 := blk_frozen BK139.out 0; have hfz31_1 := blk_frozen BK139.out 1) | ((with_reducible refine gate_builtin (b := .append) (xs := #[.tmp 45, .tmp 48]) rfl ?_); at_builtin; refine Kd.R_append (Kd.int .u32) (w0 := w) w.heap.size rfl (.tmp 45) (.tmp 48) 34 26 (.int .u32 0) 4 rfl Try.underlying34 info26 rfl (by decide) (by omega) u8 x8_1 ((rd_T33 y134 x41_1).f1) [.int .u32 ((rd_T33 y134 x41_1).f1)] (fun _ => True) (fun _ => False) rfl (by first | (go_simp; done) | (go_simp; rfl)) ?aP (fun _ hk => hk.elim) ?aF ?aO ?aB ?aS ?aL ?_; (case aP => exact rfl); (case aB => exact (by repeat (first | (with_reducible first | exact HB.out | apply below_alloc | apply pw_below_drewN | apply below_drew1 | refine below_set ?_ GE121.out | refine below_set ?_ GE139.out) | exact HB.out))); (case aF => exact (fun _ _ => trivial)); (case aO => exact (by (with_reducible repeat (first | apply Kd.R_alloc | apply Kd.R_drewN | apply Kd.R_drew)); exact Kd.R_mono (Kd.R_far (p := ⟨gb139, 1, none⟩) (Kd.R_far (p := ⟨gb139, 0, none⟩) (Kd.R_types HO_8.out BK139.out (by decide)) (fun _ hk => by first | exact hk.2 | exact hk) (.int .u64 ((rd_T33 y134 x41_1).f0))) (fun _ hk => by first | exact hk.2 | exact hk) (.int .u32 ((rd_T33 y134 x41_1).f1))) (fun _ hk => trivial))); (case aS => exact (below_size (by repeat (first | (with_reducible first | exact HB.out | apply below_alloc | apply pw_below_drewN | apply below_drew1 | refine below_set ?_ GE121.out | refine below_set ?_ GE139.out) | exact HB.out)))); (case aL => have := LMc28.out; omega); intro v141 w32 ho hb hg hat; rw [← Ny140.out] at ho; have n0_ := Aside0.mk (blk_grown (g := gb121) (o := .cells #[.int .u32 a0_0, .slice A0_1 l0_1.length c0_1] 29 (0, 0)) (by (with_reducible repeat (first | refine blk_drewN ?_ _ | refine blk_drew ?_ | refine blk_alloc ?_ _)); refine blk_far ?_ NB121_139.out _; (with_reducible repeat (first | refine blk_drewN ?_ _ | refine blk_drew ?_ | refine blk_alloc ?_ _)); refine blk_far ?_ NB121_139.out _; (with_reducible repeat (first | refine blk_drewN ?_ _ | refine blk_drew ?_ | refine blk_alloc ?_ _)); exact BK121.out) hg (Kd.R_ne HO_8.out BK121.out (by decide))); have n1_ := Aside0.mk (blk_grown (g := gb139) (o := .cells #[.int .u64 ((rd_T33 y134 x41_1).f0), .int .u32 ((rd_T33 y134 x41_1).f1)] 33 (0, 0)) (by (with_reducible repeat (first | refine blk_drewN ?_ _ | refine blk_drew ?_ | refine blk_alloc ?_ _)); refine blk_put (cs := #[.int .u64 ((rd_T33 y134 x41_1).f0), .int .u32 0]) ?_ 1 _ rfl; (with_reducible repeat (first | refine blk_drewN ?_ _ | refine blk_drew ?_ | refine blk_alloc ?_ _)); refine blk_put (cs := #[.int .u64 0, .int .u32 0]) ?_ 0 _ rfl; (with_reducible repeat (first | refine blk_drewN ?_ _ | refine blk_drew ?_ | refine blk_alloc ?_ _)); exact BK139.out) hg (Kd.R_ne HO_8.out BK139.out (by decide))); have n2_ := Aside0.mk (hb); have n3_ := Aside0.mk (ho); clear BK121; clear BK139; clear HB; clear HO_8; have BK121 := n0_; have BK139 := n1_; have HB := n2_; have HO142 := n3_; clear n0_ n1_ n2_ n3_; clear ho hb hg hat))
                            go_roundg k1
                            case measure => have := HK1.out; omega
                            case rel => exact ⟨(y140), (wrap64 (x41_1 + 1)), (by first | rfl | (simp; done) | (simp [*]; done) | (simp; exact (fun l : List UInt8 => (by cases l <;> rfl : l.isEmpty = !(l != ([] : List UInt8)))) _)), H', ⟨by have := HK1.out; omega⟩, ⟨by (with_reducible repeat (first | apply Kd.R_alloc | apply Kd.R_drewN | apply Kd.R_drew)); exact HO142.out⟩, ⟨by (with_reducible repeat (first | refine blk_drewN ?_ _ | refine blk_drew ?_ | refine blk_alloc ?_ _)); exact BK121.out⟩, ⟨by repeat (first | (with_reducible first | exact HB.out | apply below_alloc | apply pw_below_drewN | apply below_drew1 | refine below_set ?_ GE121.out | refine below_set ?_ GE139.out) | exact HB.out)⟩⟩
                          · rw [if_neg c28] at H
                            exact absurd H (by simp)
                        · rw [if_neg c27] at H
                          exact absurd H (by simp)
                      · rw [if_neg c26] at H
                        exact absurd H (by simp)
                    · rw [if_neg c25] at H
                      have c25b0 : decide (x41_1 < (y134.length : Int)) = false := decide_eq_false c25
                      clear c25
                      obtain rfl := Option.some.inj H
                      go_wp2
                      go_ret
                      exact ⟨_, by first | rfl | (simp [errW_none, errW_some] <;> rfl) | (simp [*, errW_none, errW_some] <;> rfl), by (with_reducible repeat (first | apply Kd.R_alloc | apply Kd.R_drewN | apply Kd.R_drew)); exact HO_8.out, by repeat (first | (with_reducible first | exact HB.out | apply below_alloc | apply pw_below_drewN | apply below_drew1 | refine below_set ?_ GE121.out) | exact HB.out)⟩
              · rw [if_neg c13] at H
                exact absurd H (by simp)
            · rw [if_neg c12] at H
              exact absurd H (by simp)
          · rw [if_neg c11] at H
            exact absurd H (by simp)
        · rw [if_neg c9] at H
          exact absurd H (by simp)
      · rw [if_neg c8] at H
        exact absurd H (by simp)
    · rw [if_neg c7] at H
      exact absurd H (by simp)
  · rw [if_neg c4] at H
    have c4b0 : (t122 == 0) = false := beq_eq_false_iff_ne.mpr c4
    have c4b1 : (t122 != 0) = true := bne_iff_ne.mpr c4
    obtain rfl := Option.some.inj H
    go_enter Try.func16, Try.ntmps16
    go_wp2_with (first | ((with_reducible refine gate_dst (N := 2) rfl ?_); refine box_event ?hg (N := 2) ?hd (cs := #[.int .u32 a0_0, .slice A0_1 l0_1.length c0_1]) (t := 29) ?hr ?_; (case hd => rfl); (case hg => rfl); (case hr => first | (go_simp; done) | (go_simp; rfl)); intro gb121 hg w33 hbox hb; have n0_ := Aside0.mk (below_step (by repeat (first | (with_reducible first | exact HB.out | apply below_alloc | apply pw_below_drewN | apply below_drew1) | exact HB.out)) hb); have n1_ := Aside0.mk (hbox); have n2_ := Aside0.mk ((by rw [hg]; exact (below_size (by repeat (first | (with_reducible first | exact HB.out | apply below_alloc | apply pw_below_drewN | apply below_drew1) | exact HB.out))) : w.heap.size ≤ gb121)); have n3_ := Aside0.mk ((by rw [hg]; exact (below_size (by repeat (first | (with_reducible first | exact HB.out | apply below_alloc | apply pw_below_drewN | apply below_drew1) | exact HB.out))) : w.heap.size ≤ gb121)); clear HB; have HB := n0_; have BK121 := n1_; have GW121 := n2_; have GE121 := n3_; clear n0_ n1_ n2_ n3_; clear hb hbox hg; have hcz34_0 : w33.cell? ⟨gb121, 0, none⟩ = some (.int .u32 a0_0) := (blk_cell BK121.out 0).trans rfl; have hcz34_1 : w33.cell? ⟨gb121, 1, none⟩ = some (.slice A0_1 l0_1.length c0_1) := (blk_cell BK121.out 1).trans rfl; have hfz34_0 := blk_frozen BK121.out 0; have hfz34_1 := blk_frozen BK121.out 1) | ((with_reducible refine gate_callee (f := 17) rfl ?_); refine goesL_ (some 12) rfl rfl Try.func17 (by kernel_rfl) rfl #[.agg #[.int .u32 a0_0, .slice A0_1 l0_1.length c0_1]] rfl (by (try simp only [List.map_toArray, List.map_cons, List.map_nil]); first | done | rfl | (simp only [List.length_drop, List.length_take]; rfl) | (refine congrArg (fun z => #[Value.int .u64 z]) ?_; rw [IntKind.wrap_u64]; omega)) ?_; (with_reducible refine (footer_Check.calls a0_0 _ _ l0_1 t122 _ ?side1 ?side2 A3.out).mono ?_); (case side1 => repeat (first | exact (Kd.C_below HR0_1.out HB.out) | (with_reducible refine Kd.C_alloc ?_ _) | (with_reducible refine Kd.C_drewN ?_ _) | (with_reducible refine Kd.C_drew ?_))); (case side2 => exact HC0_1.out); rintro e w35 ⟨rfl, hb⟩; refine ⟨_, rfl, ?_⟩; have n0_ := Aside0.mk (blk_below (g := gb121) (o := .cells #[.int .u32 a0_0, .slice A0_1 l0_1.length c0_1] 29 (0, 0)) (by (with_reducible repeat (first | refine blk_drewN ?_ _ | refine blk_drew ?_ | refine blk_alloc ?_ _)); exact BK121.out) hb); have n1_ := Aside0.mk (below_step (by repeat (first | (with_reducible first | exact HB.out | apply below_alloc | apply pw_below_drewN | apply below_drew1 | refine below_set ?_ GE121.out) | exact HB.out)) hb); clear BK121; clear HB; have BK121 := n0_; have HB := n1_; clear n0_ n1_; (try clear hb); (try clear hb2); (try clear hk); (try clear hi)))
    go_ret
    exact ⟨_, by first | rfl | (simp [errW_none, errW_some] <;> rfl) | (simp [*, errW_none, errW_some] <;> rfl), by first | exact Kd.R_nil _ _ _ _ _ | exact Kd.N_nil _ _ _ _ _ | exact Kd.V_nil _ _ _ _ _ | exact Kd.Q_nil _ _ _ _ _ | exact Kd.S_nil _ _ _ _ _, by repeat (first | (with_reducible first | exact HB.out | apply below_alloc | apply pw_below_drewN | apply below_drew1 | refine below_set ?_ GE121.out) | exact HB.out)⟩

end Go.Proofs.Ytekanmieppnpeaa.G
