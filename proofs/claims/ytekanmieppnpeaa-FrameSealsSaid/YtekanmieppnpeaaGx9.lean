-- Written by gprint.py (the kit's print.py with contracts of my own taken as given)
import Derived.Test.YtekanmieppnpeaaGx0
import Derived.Test.YtekanmieppnpeaaGx6
import Derived.Test.YtekanmieppnpeaaGx7
namespace Go.Proofs.Ytekanmieppnpeaa.G
open Go.RowKit Go.Proofs.YtekanmieppnpeaaW.PrintWords Go.Proofs.YtekanmieppnpeaaW.PrintLast Go.Proofs.YtekanmieppnpeaaW.PrintMore
attribute [local go_sem] max2_int min2_int max_two min_two max_three min_three max_four min_four   -- for this text's walks alone
set_option linter.unusedVariables false
set_option linter.unusedSimpArgs false

/-! ### fascicleref05_Unstuff: function 55 -/
mutual
def fascicleref05_Unstuff.l0 : Nat → ByteArray → Int → Option (ByteArray × Int)
  | 0, _, _ => none
  | k + 1, x0, x4 => if x4 < (x0.size : Int) then (if 0 ≤ x4 then (if (bt x0 x4) = 0 then (some ((⟨#[]⟩ : ByteArray), 4)) else (fascicleref05_Unstuff.l0 k x0 (wrap64 (x4 + 1)))) else (none)) else (if x0.toList = ([] : List UInt8) then (some ((⟨#[]⟩ : ByteArray), 2)) else (fascicleref05_Unstuff.l1 k x0 (⟨#[]⟩ : ByteArray) x0))
def fascicleref05_Unstuff.l1 : Nat → ByteArray → ByteArray → ByteArray → Option (ByteArray × Int)
  | 0, _, _, _ => none
  | k + 1, x0, x5, x6 => if x6.toList = ([] : List UInt8) then ((fascicleref05_Stuff.f k x5).bind fun t198 => (if t198.toList = x0.toList then (some (x5, 0)) else (some ((⟨#[]⟩ : ByteArray), 4)))) else (if 0 < (x6.size : Int) then (if (wrap64 (bt x6 0)) > (x6.size : Int) then (some ((⟨#[]⟩ : ByteArray), 2)) else (if 1 ≤ (wrap64 (bt x6 0)) then (if (wrap64 (bt x6 0)) ≤ (x6.size : Int) then (if x5.size + (x6.extract 1 ((wrap64 (bt x6 0)) : Int).toNat).size ≤ 9223372036854775807 then (if 0 ≤ (wrap64 (bt x6 0)) then (if (wrap64 (bt x6 0)) < 255 then (if (x6.extract ((wrap64 (bt x6 0)) : Int).toNat x6.size).toList = ([] : List UInt8) then (fascicleref05_Unstuff.l1 k x0 (x5 ++ (x6.extract 1 ((wrap64 (bt x6 0)) : Int).toNat)) (x6.extract ((wrap64 (bt x6 0)) : Int).toNat x6.size)) else (if (x5 ++ (x6.extract 1 ((wrap64 (bt x6 0)) : Int).toNat)).size + 1 ≤ 9223372036854775807 then (fascicleref05_Unstuff.l1 k x0 ((x5 ++ (x6.extract 1 ((wrap64 (bt x6 0)) : Int).toNat)) ++ (⟨#[0]⟩ : ByteArray)) (x6.extract ((wrap64 (bt x6 0)) : Int).toNat x6.size)) else (none))) else (fascicleref05_Unstuff.l1 k x0 (x5 ++ (x6.extract 1 ((wrap64 (bt x6 0)) : Int).toNat)) (x6.extract ((wrap64 (bt x6 0)) : Int).toNat x6.size))) else (none)) else (none)) else (none)) else (none))) else (none))
end
def fascicleref05_Unstuff.f (k : Nat) (a0 : ByteArray) : Option (ByteArray × Int) := fascicleref05_Unstuff.l0 k a0 0
theorem fascicleref05_Unstuff.mono_l : ∀ k, (∀ y0 y1, LeO (fascicleref05_Unstuff.l0 k y0 y1) (fascicleref05_Unstuff.l0 (k + 1) y0 y1)) ∧ (∀ y0 y1 y2, LeO (fascicleref05_Unstuff.l1 k y0 y1 y2) (fascicleref05_Unstuff.l1 (k + 1) y0 y1 y2))
  | 0 => ⟨fun _ _ r h => by simp [fascicleref05_Unstuff.l0] at h, fun _ _ _ r h => by simp [fascicleref05_Unstuff.l1] at h⟩
  | k + 1 => by
    obtain ⟨ih0, ih1⟩ := fascicleref05_Unstuff.mono_l k
    refine ⟨?_, ?_⟩
    · intro y0 y1
      unfold fascicleref05_Unstuff.l0
      repeat' first
      | (with_reducible exact ih0 _ _)
      | (with_reducible exact ih1 _ _ _)
      | (with_reducible exact fascicleref05_Stuff.mono _ _)
      | (with_reducible exact LeO.refl _)
      | (with_reducible exact LeO.none _)
      | (with_reducible refine LeO.ite ?_ ?_)
      | (with_reducible refine LeO.bind ?_ (fun _ => ?_))
      | exact ih0 _ _
      | exact ih1 _ _ _
      | exact fascicleref05_Stuff.mono _ _
      | exact LeO.none _
      | refine LeO.ite ?_ ?_
      | refine LeO.bind ?_ (fun _ => ?_)
    · intro y0 y1 y2
      unfold fascicleref05_Unstuff.l1
      repeat' first
      | (with_reducible exact ih0 _ _)
      | (with_reducible exact ih1 _ _ _)
      | (with_reducible exact fascicleref05_Stuff.mono _ _)
      | (with_reducible exact LeO.refl _)
      | (with_reducible exact LeO.none _)
      | (with_reducible refine LeO.ite ?_ ?_)
      | (with_reducible refine LeO.bind ?_ (fun _ => ?_))
      | exact ih0 _ _
      | exact ih1 _ _ _
      | exact fascicleref05_Stuff.mono _ _
      | exact LeO.none _
      | refine LeO.ite ?_ ?_
      | refine LeO.bind ?_ (fun _ => ?_)
theorem fascicleref05_Unstuff.mono : ∀ a0 k, LeO (fascicleref05_Unstuff.f k a0) (fascicleref05_Unstuff.f (k + 1) a0) := by
  intro a0 k
  obtain ⟨ih0, ih1⟩ := fascicleref05_Unstuff.mono_l k
  unfold fascicleref05_Unstuff.f
  repeat' first
      | (with_reducible exact ih0 _ _)
      | (with_reducible exact ih1 _ _ _)
      | (with_reducible exact fascicleref05_Stuff.mono _ _)
      | (with_reducible exact LeO.refl _)
      | (with_reducible exact LeO.none _)
      | (with_reducible refine LeO.ite ?_ ?_)
      | (with_reducible refine LeO.bind ?_ (fun _ => ?_))
      | exact ih0 _ _
      | exact ih1 _ _ _
      | exact fascicleref05_Stuff.mono _ _
      | exact LeO.none _
      | refine LeO.ite ?_ ?_
      | refine LeO.bind ?_ (fun _ => ?_)
set_option maxHeartbeats 8000000 in
set_option maxRecDepth 100000 in
theorem fascicleref05_Unstuff.calls (k : Nat) (a0 : ByteArray) (r1 : ByteArray) (r2 : Int) (w : World) (h : fascicleref05_Unstuff.f k a0 = some (r1, r2)) :
    Calls Try.prog 55 #[.string a0] w fun e w' => e = .returned (.tuple #[.string r1, .int .i64 r2]) ∧ Below w.heap.size w w' := by
  have HB := Aside0.mk (Below.refl w.heap.size w)
  have H : (fascicleref05_Unstuff.l0 k a0 0) = some (r1, r2) := h
  clear h
  have H' := Aside0.mk H
  clear H
  go_enter Try.func55, Try.ntmps55
  go_wp2
  go_loopg [4] k (fun kq v4 w' => ∃ (x4_1 : Int), v4 = .int .i64 x4_1 ∧ Aside0 (fascicleref05_Unstuff.l0 kq a0 x4_1 = some (r1, r2)) ∧ Aside0 (kq ≤ k) ∧ Aside0 (Below w.heap.size w w'))
  case atStart => exact ⟨(0), (by first | rfl | (simp; done) | (simp [*]; done) | (simp; exact (fun l : List UInt8 => (by cases l <;> rfl : l.isEmpty = !(l != ([] : List UInt8)))) _)), H', ⟨Nat.le_refl _⟩, ⟨by repeat (first | (with_reducible first | exact HB.out | apply below_alloc | apply pw_below_drewN | apply below_drew1) | exact HB.out)⟩⟩
  case round =>
    clear H'
    obtain ⟨x4_1, rfl, HA, HK1, HB⟩ := hrel
    cases gk with
    | zero => exact absurd HA.out (by simp [fascicleref05_Unstuff.l0])
    | succ k1 =>
      have H := HA.out
      clear HA
      simp only [fascicleref05_Unstuff.l0] at H
      by_cases c2 : x4_1 < (a0.size : Int)
      · rw [if_pos c2] at H
        have c2b0 : decide (x4_1 < (a0.size : Int)) = true := decide_eq_true c2
        clear c2
        by_cases c3 : 0 ≤ x4_1
        · rw [if_pos c3] at H
          have c3b0 : decide (0 ≤ x4_1) = true := decide_eq_true c3
          clear c3
          by_cases c5 : (bt a0 x4_1) = 0
          · rw [if_pos c5] at H
            have c5b0 : ((bt a0 x4_1) == 0) = true := beq_iff_eq.mpr c5
            have c5b1 : ((bt a0 x4_1) != 0) = false := bne_eq_false_iff_eq.mpr c5
            clear c5
            simp only [Option.some.injEq, Prod.mk.injEq] at H
            obtain ⟨rfl, rfl⟩ := H
            have p4 : 0 ≤ (x4_1 : Int) := of_decide_eq_true (by first | (with_reducible assumption) | assumption)
            have q4 : x4_1 < (a0.size : Int) := of_decide_eq_true (by first | (with_reducible assumption) | assumption)
            have hx4 := bt_at a0 x4_1
            replace p4 := eq_true p4
            replace q4 := eq_true q4
            go_wp2
            go_ret2
            exact ⟨by first | rfl | (simp [errW_none, errW_some] <;> rfl) | (simp [*, errW_none, errW_some] <;> rfl), by repeat (first | (with_reducible first | exact HB.out | apply below_alloc | apply pw_below_drewN | apply below_drew1) | exact HB.out)⟩
          · rw [if_neg c5] at H
            have c5b0 : ((bt a0 x4_1) == 0) = false := beq_eq_false_iff_ne.mpr c5
            have c5b1 : ((bt a0 x4_1) != 0) = true := bne_iff_ne.mpr c5
            have H' := Aside0.mk H
            clear H
            have p4 : 0 ≤ (x4_1 : Int) := of_decide_eq_true (by first | (with_reducible assumption) | assumption)
            have q4 : x4_1 < (a0.size : Int) := of_decide_eq_true (by first | (with_reducible assumption) | assumption)
            have hx4 := bt_at a0 x4_1
            replace p4 := eq_true p4
            replace q4 := eq_true q4
            go_wp2
            go_roundg k1
            case measure => have := HK1.out; omega
            case rel => exact ⟨(wrap64 (x4_1 + 1)), (by first | rfl | (simp; done) | (simp [*]; done) | (simp; exact (fun l : List UInt8 => (by cases l <;> rfl : l.isEmpty = !(l != ([] : List UInt8)))) _)), H', ⟨by have := HK1.out; omega⟩, ⟨by repeat (first | (with_reducible first | exact HB.out | apply below_alloc | apply pw_below_drewN | apply below_drew1) | exact HB.out)⟩⟩
        · rw [if_neg c3] at H
          exact absurd H (by simp)
      · rw [if_neg c2] at H
        have c2b0 : decide (x4_1 < (a0.size : Int)) = false := decide_eq_false c2
        clear c2
        by_cases c6 : a0.toList = ([] : List UInt8)
        · rw [if_pos c6] at H
          have c6b0 : (a0.toList == ([] : List UInt8)) = true := beq_iff_eq.mpr c6
          have c6b1 : (a0.toList != ([] : List UInt8)) = false := bne_eq_false_iff_eq.mpr c6
          clear c6
          simp only [Option.some.injEq, Prod.mk.injEq] at H
          obtain ⟨rfl, rfl⟩ := H
          go_wp2
          go_ret2
          exact ⟨by first | rfl | (simp [errW_none, errW_some] <;> rfl) | (simp [*, errW_none, errW_some] <;> rfl), by repeat (first | (with_reducible first | exact HB.out | apply below_alloc | apply pw_below_drewN | apply below_drew1) | exact HB.out)⟩
        · rw [if_neg c6] at H
          have c6b0 : (a0.toList == ([] : List UInt8)) = false := beq_eq_false_iff_ne.mpr c6
          have c6b1 : (a0.toList != ([] : List UInt8)) = true := bne_iff_ne.mpr c6
          have H' := Aside0.mk H
          clear H
          go_wp2
          go_loopg [5, 6] k1 (fun kq v5 v6 w' => ∃ (x5_2 : ByteArray) (x6_2 : ByteArray), v5 = .string x5_2 ∧ v6 = .string x6_2 ∧ Aside0 (fascicleref05_Unstuff.l1 kq a0 x5_2 x6_2 = some (r1, r2)) ∧ Aside0 (kq ≤ k1) ∧ Aside0 (Below w.heap.size w w'))
          case atStart => exact ⟨((⟨#[]⟩ : ByteArray)), (a0), (by first | rfl | (simp; done) | (simp [*]; done) | (simp; exact (fun l : List UInt8 => (by cases l <;> rfl : l.isEmpty = !(l != ([] : List UInt8)))) _)), (by first | rfl | (simp; done) | (simp [*]; done) | (simp; exact (fun l : List UInt8 => (by cases l <;> rfl : l.isEmpty = !(l != ([] : List UInt8)))) _)), H', ⟨Nat.le_refl _⟩, ⟨by repeat (first | (with_reducible first | exact HB.out | apply below_alloc | apply pw_below_drewN | apply below_drew1) | exact HB.out)⟩⟩
          case round =>
            clear H'
            try clear c2
            try clear c2b0
            try clear p2
            try clear c3
            try clear c3b0
            try clear p4
            try clear q4
            try clear hx4
            try clear c5
            try clear c5b0
            try clear c5b1
            try clear c6
            try clear c6b0
            try clear c6b1
            try clear p6
            try clear p4
            try clear q4
            obtain ⟨x5_2, x6_2, rfl, rfl, HA, HK2, HB⟩ := hrel
            cases gk with
            | zero => exact absurd HA.out (by simp [fascicleref05_Unstuff.l1])
            | succ k2 =>
              have H := HA.out
              clear HA
              simp only [fascicleref05_Unstuff.l1] at H
              by_cases c7 : x6_2.toList = ([] : List UInt8)
              · rw [if_pos c7] at H
                have c7b0 : (x6_2.toList == ([] : List UInt8)) = true := beq_iff_eq.mpr c7
                have c7b1 : (x6_2.toList != ([] : List UInt8)) = false := bne_eq_false_iff_eq.mpr c7
                clear c7
                replace H := Option.bind_eq_some_iff.mp H
                obtain ⟨t198, A80, H⟩ := H
                replace H : (if t198.toList = a0.toList then (some (x5_2, 0)) else (some ((⟨#[]⟩ : ByteArray), 4))) = some (r1, r2) := H
                have A8 := Aside0.mk A80
                clear A80
                by_cases c9 : t198.toList = a0.toList
                · rw [if_pos c9] at H
                  have c9b0 : (t198.toList == a0.toList) = true := beq_iff_eq.mpr c9
                  have c9b1 : (t198.toList != a0.toList) = false := bne_eq_false_iff_eq.mpr c9
                  clear c9
                  simp only [Option.some.injEq, Prod.mk.injEq] at H
                  obtain ⟨rfl, rfl⟩ := H
                  go_wp2_with (first | ((with_reducible refine gate_callee (f := 62) rfl ?_); refine goesL_ (some 47) rfl rfl Try.func62 (by kernel_rfl) rfl #[.string x5_2] rfl (by (try simp only [List.map_toArray, List.map_cons, List.map_nil]); first | done | rfl | (simp only [List.length_drop, List.length_take]; rfl) | (refine congrArg (fun z => #[Value.int .u64 z]) ?_; rw [IntKind.wrap_u64]; omega)) ?_; (with_reducible refine (fascicleref05_Stuff.calls k2 x5_2 t198 _ A8.out).mono ?_); rintro e w10 ⟨rfl, hb⟩; refine ⟨_, rfl, ?_⟩; have n0_ := Aside0.mk (below_step (by repeat (first | (with_reducible first | exact HB.out | apply below_alloc | apply pw_below_drewN | apply below_drew1) | exact HB.out)) hb); clear HB; have HB := n0_; clear n0_; (try clear hb); (try clear hb2); (try clear hk); (try clear hi)))
                  go_ret2
                  exact ⟨by first | rfl | (simp [errW_none, errW_some] <;> rfl) | (simp [*, errW_none, errW_some] <;> rfl), by repeat (first | (with_reducible first | exact HB.out | apply below_alloc | apply pw_below_drewN | apply below_drew1) | exact HB.out)⟩
                · rw [if_neg c9] at H
                  have c9b0 : (t198.toList == a0.toList) = false := beq_eq_false_iff_ne.mpr c9
                  have c9b1 : (t198.toList != a0.toList) = true := bne_iff_ne.mpr c9
                  simp only [Option.some.injEq, Prod.mk.injEq] at H
                  obtain ⟨rfl, rfl⟩ := H
                  go_wp2_with (first | ((with_reducible refine gate_callee (f := 62) rfl ?_); refine goesL_ (some 47) rfl rfl Try.func62 (by kernel_rfl) rfl #[.string x5_2] rfl (by (try simp only [List.map_toArray, List.map_cons, List.map_nil]); first | done | rfl | (simp only [List.length_drop, List.length_take]; rfl) | (refine congrArg (fun z => #[Value.int .u64 z]) ?_; rw [IntKind.wrap_u64]; omega)) ?_; (with_reducible refine (fascicleref05_Stuff.calls k2 x5_2 t198 _ A8.out).mono ?_); rintro e w11 ⟨rfl, hb⟩; refine ⟨_, rfl, ?_⟩; have n0_ := Aside0.mk (below_step (by repeat (first | (with_reducible first | exact HB.out | apply below_alloc | apply pw_below_drewN | apply below_drew1) | exact HB.out)) hb); clear HB; have HB := n0_; clear n0_; (try clear hb); (try clear hb2); (try clear hk); (try clear hi)))
                  go_ret2
                  exact ⟨by first | rfl | (simp [errW_none, errW_some] <;> rfl) | (simp [*, errW_none, errW_some] <;> rfl), by repeat (first | (with_reducible first | exact HB.out | apply below_alloc | apply pw_below_drewN | apply below_drew1) | exact HB.out)⟩
              · rw [if_neg c7] at H
                have c7b0 : (x6_2.toList == ([] : List UInt8)) = false := beq_eq_false_iff_ne.mpr c7
                have c7b1 : (x6_2.toList != ([] : List UInt8)) = true := bne_iff_ne.mpr c7
                by_cases c12 : 0 < (x6_2.size : Int)
                · rw [if_pos c12] at H
                  have c12b0 : decide (0 < (x6_2.size : Int)) = true := decide_eq_true c12
                  have c12b1 : decide (0 < x6_2.size) = true := decide_eq_true (by omega)
                  clear c12
                  by_cases c14 : (wrap64 (bt x6_2 0)) > (x6_2.size : Int)
                  · rw [if_pos c14] at H
                    have c14b0 : decide ((x6_2.size : Int) < (wrap64 (bt x6_2 0))) = true := decide_eq_true c14
                    clear c14
                    simp only [Option.some.injEq, Prod.mk.injEq] at H
                    obtain ⟨rfl, rfl⟩ := H
                    have p13 : 0 ≤ (0 : Int) := (by omega)
                    have q13 : 0 < x6_2.size := (by have : (0 : Int) < (x6_2.size : Int) := of_decide_eq_true (by first | (with_reducible assumption) | assumption); omega)
                    have hx13 : ∀ h : 0 < x6_2.size, ((x6_2[0]'h).toNat : Int) = bt x6_2 0 := bt_at x6_2 0
                    clear p13
                    have qi13 : (0 < (x6_2.size : Int)) = True := eq_true (of_decide_eq_true (by first | (with_reducible assumption) | assumption))
                    replace q13 := eq_true q13
                    go_wp2
                    go_ret2
                    exact ⟨by first | rfl | (simp [errW_none, errW_some] <;> rfl) | (simp [*, errW_none, errW_some] <;> rfl), by repeat (first | (with_reducible first | exact HB.out | apply below_alloc | apply pw_below_drewN | apply below_drew1) | exact HB.out)⟩
                  · rw [if_neg c14] at H
                    have c14b0 : decide ((x6_2.size : Int) < (wrap64 (bt x6_2 0))) = false := decide_eq_false c14
                    clear c14
                    by_cases c15 : 1 ≤ (wrap64 (bt x6_2 0))
                    · rw [if_pos c15] at H
                      have c15b0 := eq_true c15
                      have c15b1 : decide (1 ≤ (wrap64 (bt x6_2 0))) = true := decide_eq_true c15
                      clear c15
                      by_cases c16 : (wrap64 (bt x6_2 0)) ≤ (x6_2.size : Int)
                      · rw [if_pos c16] at H
                        have c16b0 := eq_true c16
                        have c16b1 : decide ((wrap64 (bt x6_2 0)) ≤ (x6_2.size : Int)) = true := decide_eq_true c16
                        clear c16
                        by_cases c17 : x5_2.size + (x6_2.extract 1 ((wrap64 (bt x6_2 0)) : Int).toNat).size ≤ 9223372036854775807
                        · rw [if_pos c17] at H
                          have c17b0 := eq_true c17
                          have c17b1 : decide (x5_2.size + (x6_2.extract 1 ((wrap64 (bt x6_2 0)) : Int).toNat).size ≤ 9223372036854775807) = true := decide_eq_true c17
                          try have c17b2 : (9223372036854775807 < x5_2.size + (x6_2.extract 1 ((wrap64 (bt x6_2 0)) : Int).toNat).size) = False := eq_false (Nat.not_lt.2 c17)
                          try (have c17b4 := Nat.not_lt.2 c17; simp [ByteArray.size_append, -Nat.not_lt] at c17b4; (try simp only [show ∀ x : UInt8, (⟨#[x]⟩ : ByteArray).size = 1 from fun _ => rfl, show ∀ x y : UInt8, (⟨#[x, y]⟩ : ByteArray).size = 2 from fun _ _ => rfl] at c17b4); have c17b5 := eq_false c17b4)
                          obtain ⟨ji18, hji18⟩ : ∃ j_ : Int, (wrap64 (bt x6_2 0)) = j_ := ⟨_, rfl⟩
                          replace H : (if 0 ≤ (ji18) then (if (ji18) < 255 then (if (x6_2.extract ((ji18) : Int).toNat x6_2.size).toList = ([] : List UInt8) then (fascicleref05_Unstuff.l1 k2 a0 (x5_2 ++ (x6_2.extract 1 ((ji18) : Int).toNat)) (x6_2.extract ((ji18) : Int).toNat x6_2.size)) else (if (x5_2 ++ (x6_2.extract 1 ((ji18) : Int).toNat)).size + 1 ≤ 9223372036854775807 then (fascicleref05_Unstuff.l1 k2 a0 ((x5_2 ++ (x6_2.extract 1 ((ji18) : Int).toNat)) ++ (⟨#[0]⟩ : ByteArray)) (x6_2.extract ((ji18) : Int).toNat x6_2.size)) else (none))) else (fascicleref05_Unstuff.l1 k2 a0 (x5_2 ++ (x6_2.extract 1 ((ji18) : Int).toNat)) (x6_2.extract ((ji18) : Int).toNat x6_2.size))) else (none)) = some (r1, r2) := by first | (rw [hji18] at H; exact H) | (simp only [hji18] at H ⊢; exact H)
                          (try rw [hji18] at c14b0)
                          (try rw [hji18] at c15b0)
                          (try rw [hji18] at c15b1)
                          (try rw [hji18] at c16b0)
                          (try rw [hji18] at c16b1)
                          (try rw [hji18] at c17b0)
                          (try rw [hji18] at c17b1)
                          (try rw [hji18] at c17)
                          have hji18w : (IntKind.i64.wrap (bt x6_2 0)) = ji18 := (i64_w _).trans hji18
                          by_cases c19 : 0 ≤ (ji18)
                          · rw [if_pos c19] at H
                            have c19b0 := eq_true c19
                            have c19b1 : decide (0 ≤ (ji18)) = true := decide_eq_true c19
                            clear c19
                            have c20b0 := eq_true (of_decide_eq_true (by first | (with_reducible assumption) | assumption) : (ji18) ≤ (x6_2.size : Int))
                            by_cases c21 : (ji18) < 255
                            · rw [if_pos c21] at H
                              have c21b0 : decide ((ji18) < 255) = true := decide_eq_true c21
                              clear c21
                              by_cases c22 : (x6_2.extract ((ji18) : Int).toNat x6_2.size).toList = ([] : List UInt8)
                              · rw [if_pos c22] at H
                                have c22b0 : ((x6_2.extract ((ji18) : Int).toNat x6_2.size).toList == ([] : List UInt8)) = true := beq_iff_eq.mpr c22
                                have c22b1 : ((x6_2.extract ((ji18) : Int).toNat x6_2.size).toList != ([] : List UInt8)) = false := bne_eq_false_iff_eq.mpr c22
                                clear c22
                                have H' := Aside0.mk H
                                clear H
                                have p13 : 0 ≤ (0 : Int) := (by omega)
                                have q13 : 0 < x6_2.size := (by have : (0 : Int) < (x6_2.size : Int) := of_decide_eq_true (by first | (with_reducible assumption) | assumption); omega)
                                have hx13 : ∀ h : 0 < x6_2.size, ((x6_2[0]'h).toNat : Int) = bt x6_2 0 := bt_at x6_2 0
                                clear p13
                                have qi13 : (0 < (x6_2.size : Int)) = True := eq_true (of_decide_eq_true (by first | (with_reducible assumption) | assumption))
                                replace q13 := eq_true q13
                                go_wp2
                                go_roundg k2
                                case measure => have := HK1.out; have := HK2.out; omega
                                case rel => exact ⟨(x5_2 ++ (x6_2.extract 1 ((ji18) : Int).toNat)), (x6_2.extract ((ji18) : Int).toNat x6_2.size), (by first | rfl | (simp; done) | (simp only [← hji18] <;> (first | rfl | simp)) | (simp [*]; done)), (by first | rfl | (simp; done) | (simp only [← hji18] <;> (first | rfl | simp)) | (simp [*]; done)), H', ⟨by have := HK1.out; have := HK2.out; omega⟩, ⟨by repeat (first | (with_reducible first | exact HB.out | apply below_alloc | apply pw_below_drewN | apply below_drew1) | exact HB.out)⟩⟩
                              · rw [if_neg c22] at H
                                have c22b0 : ((x6_2.extract ((ji18) : Int).toNat x6_2.size).toList == ([] : List UInt8)) = false := beq_eq_false_iff_ne.mpr c22
                                have c22b1 : ((x6_2.extract ((ji18) : Int).toNat x6_2.size).toList != ([] : List UInt8)) = true := bne_iff_ne.mpr c22
                                obtain ⟨ys1, hys1⟩ : ∃ y_ : ByteArray, (x5_2 ++ (x6_2.extract 1 ((ji18) : Int).toNat)) = y_ := ⟨_, rfl⟩
                                (try simp only [hys1] at H)
                                by_cases c23 : ys1.size + 1 ≤ 9223372036854775807
                                · rw [if_pos c23] at H
                                  have c23b0 := eq_true c23
                                  have c23b1 : decide (ys1.size + 1 ≤ 9223372036854775807) = true := decide_eq_true c23
                                  try have c23b2 : (9223372036854775807 < ys1.size + 1) = False := eq_false (Nat.not_lt.2 c23)
                                  try (have c23b4 := Nat.not_lt.2 c23; simp [ByteArray.size_append, -Nat.not_lt] at c23b4; (try simp only [show ∀ x : UInt8, (⟨#[x]⟩ : ByteArray).size = 1 from fun _ => rfl, show ∀ x y : UInt8, (⟨#[x, y]⟩ : ByteArray).size = 2 from fun _ _ => rfl] at c23b4); have c23b5 := eq_false c23b4)
                                  have H' := Aside0.mk H
                                  clear H
                                  have p13 : 0 ≤ (0 : Int) := (by omega)
                                  have q13 : 0 < x6_2.size := (by have : (0 : Int) < (x6_2.size : Int) := of_decide_eq_true (by first | (with_reducible assumption) | assumption); omega)
                                  have hx13 : ∀ h : 0 < x6_2.size, ((x6_2[0]'h).toNat : Int) = bt x6_2 0 := bt_at x6_2 0
                                  clear p13
                                  have qi13 : (0 < (x6_2.size : Int)) = True := eq_true (of_decide_eq_true (by first | (with_reducible assumption) | assumption))
                                  replace q13 := eq_true q13
                                  go_wp2
                                  subst hys1
                                  go_roundg k2
                                  case measure => have := HK1.out; have := HK2.out; omega
                                  case rel => exact ⟨((x5_2 ++ (x6_2.extract 1 ((ji18) : Int).toNat)) ++ (⟨#[0]⟩ : ByteArray)), (x6_2.extract ((ji18) : Int).toNat x6_2.size), (by first | rfl | (simp; done) | (simp only [← hji18] <;> (first | rfl | simp)) | (simp [*]; done)), (by first | rfl | (simp; done) | (simp only [← hji18] <;> (first | rfl | simp)) | (simp [*]; done)), H', ⟨by have := HK1.out; have := HK2.out; omega⟩, ⟨by repeat (first | (with_reducible first | exact HB.out | apply below_alloc | apply pw_below_drewN | apply below_drew1) | exact HB.out)⟩⟩
                                · rw [if_neg c23] at H
                                  exact absurd H (by simp)
                            · rw [if_neg c21] at H
                              have c21b0 : decide ((ji18) < 255) = false := decide_eq_false c21
                              clear c21
                              have H' := Aside0.mk H
                              clear H
                              have p13 : 0 ≤ (0 : Int) := (by omega)
                              have q13 : 0 < x6_2.size := (by have : (0 : Int) < (x6_2.size : Int) := of_decide_eq_true (by first | (with_reducible assumption) | assumption); omega)
                              have hx13 : ∀ h : 0 < x6_2.size, ((x6_2[0]'h).toNat : Int) = bt x6_2 0 := bt_at x6_2 0
                              clear p13
                              have qi13 : (0 < (x6_2.size : Int)) = True := eq_true (of_decide_eq_true (by first | (with_reducible assumption) | assumption))
                              replace q13 := eq_true q13
                              go_wp2
                              go_roundg k2
                              case measure => have := HK1.out; have := HK2.out; omega
                              case rel => exact ⟨(x5_2 ++ (x6_2.extract 1 ((ji18) : Int).toNat)), (x6_2.extract ((ji18) : Int).toNat x6_2.size), (by first | rfl | (simp; done) | (simp only [← hji18] <;> (first | rfl | simp)) | (simp [*]; done)), (by first | rfl | (simp; done) | (simp only [← hji18] <;> (first | rfl | simp)) | (simp [*]; done)), H', ⟨by have := HK1.out; have := HK2.out; omega⟩, ⟨by repeat (first | (with_reducible first | exact HB.out | apply below_alloc | apply pw_below_drewN | apply below_drew1) | exact HB.out)⟩⟩
                          · rw [if_neg c19] at H
                            exact absurd H (by simp)
                        · rw [if_neg c17] at H
                          exact absurd H (by simp)
                      · rw [if_neg c16] at H
                        exact absurd H (by simp)
                    · rw [if_neg c15] at H
                      exact absurd H (by simp)
                · rw [if_neg c12] at H
                  exact absurd H (by simp)

/-! ### fascicleref09_Open: function 20 -/
def fascicleref09_Open.f (k : Nat) (a0 : ByteArray) : Option (ByteArray × Int) := (fascicleref05_Unstuff.f k a0).bind fun bt199 => (if bt199.2 = 0 then (if (wrap64 ((bt199.1.size : Int) - 8)) < 0 then (some ((⟨#[]⟩ : ByteArray), 2)) else (if 0 ≤ (wrap64 ((bt199.1.size : Int) - 8)) then (if (wrap64 ((bt199.1.size : Int) - 8)) ≤ (bt199.1.size : Int) then ((fascicleref01_Value.f k (bt199.1.extract ((wrap64 ((bt199.1.size : Int) - 8)) : Int).toNat bt199.1.size)).bind fun t201 => ((fascicleref04_Sum.f k 0 (bt199.1.extract 0 ((wrap64 ((bt199.1.size : Int) - 8)) : Int).toNat)).bind fun t202 => (if t201 = t202 then (some (bt199.1.extract 0 ((wrap64 ((bt199.1.size : Int) - 8)) : Int).toNat, 0)) else (some ((⟨#[]⟩ : ByteArray), 5))))) else (none)) else (none))) else (some ((⟨#[]⟩ : ByteArray), bt199.2)))
theorem fascicleref09_Open.mono : ∀ a0 k, LeO (fascicleref09_Open.f k a0) (fascicleref09_Open.f (k + 1) a0) := by
  intro a0 k
  unfold fascicleref09_Open.f
  repeat' first
      | (with_reducible exact fascicleref01_Value.mono _ _)
      | (with_reducible exact fascicleref04_Sum.mono _ _ _)
      | (with_reducible exact fascicleref05_Unstuff.mono _ _)
      | (with_reducible exact LeO.refl _)
      | (with_reducible exact LeO.none _)
      | (with_reducible refine LeO.ite ?_ ?_)
      | (with_reducible refine LeO.bind ?_ (fun _ => ?_))
      | exact fascicleref01_Value.mono _ _
      | exact fascicleref04_Sum.mono _ _ _
      | exact fascicleref05_Unstuff.mono _ _
      | exact LeO.none _
      | refine LeO.ite ?_ ?_
      | refine LeO.bind ?_ (fun _ => ?_)
def fascicleref09_Open.T7 : Bool × List (List Nat × List Nat) := (true, [([], []), ([], []), ([0, 1], [0, 1]), ([2], [2]), ([], []), ([], []), ([4, 5], [4, 5]), ([6, 3], [6]), ([3, 7], [3, 7])])
def fascicleref09_Open.B7 : List Nat := [0, 0, 3, 7, 0, 0, 48, 127, 255]
theorem fascicleref09_Open.tab7 : rtab .any (opsOf Try.f20 7) = fascicleref09_Open.T7 := by kernel_rfl
theorem fascicleref09_Open.bits7 : waitsOk fascicleref09_Open.T7.2 fascicleref09_Open.B7 = true := by kernel_rfl
set_option maxHeartbeats 8000000 in
set_option maxRecDepth 100000 in
theorem fascicleref09_Open.calls (k : Nat) (a0 : ByteArray) (r1 : ByteArray) (r2 : Int) (w : World) (h : fascicleref09_Open.f k a0 = some (r1, r2)) :
    Calls Try.prog 20 #[.string a0] w fun e w' => e = .returned (.tuple #[.string r1, .int .i64 r2]) ∧ Below w.heap.size w w' := by
  have HB := Aside0.mk (Below.refl w.heap.size w)
  have H : ((fascicleref05_Unstuff.f k a0).bind fun bt199 => (if bt199.2 = 0 then (if (wrap64 ((bt199.1.size : Int) - 8)) < 0 then (some ((⟨#[]⟩ : ByteArray), 2)) else (if 0 ≤ (wrap64 ((bt199.1.size : Int) - 8)) then (if (wrap64 ((bt199.1.size : Int) - 8)) ≤ (bt199.1.size : Int) then ((fascicleref01_Value.f k (bt199.1.extract ((wrap64 ((bt199.1.size : Int) - 8)) : Int).toNat bt199.1.size)).bind fun t201 => ((fascicleref04_Sum.f k 0 (bt199.1.extract 0 ((wrap64 ((bt199.1.size : Int) - 8)) : Int).toNat)).bind fun t202 => (if t201 = t202 then (some (bt199.1.extract 0 ((wrap64 ((bt199.1.size : Int) - 8)) : Int).toNat, 0)) else (some ((⟨#[]⟩ : ByteArray), 5))))) else (none)) else (none))) else (some ((⟨#[]⟩ : ByteArray), bt199.2)))) = some (r1, r2) := h
  clear h
  replace H := Option.bind_eq_some_iff.mp H
  obtain ⟨⟨t199, t200⟩, A20, H⟩ := H
  replace H : (if t200 = 0 then (if (wrap64 ((t199.size : Int) - 8)) < 0 then (some ((⟨#[]⟩ : ByteArray), 2)) else (if 0 ≤ (wrap64 ((t199.size : Int) - 8)) then (if (wrap64 ((t199.size : Int) - 8)) ≤ (t199.size : Int) then ((fascicleref01_Value.f k (t199.extract ((wrap64 ((t199.size : Int) - 8)) : Int).toNat t199.size)).bind fun t201 => ((fascicleref04_Sum.f k 0 (t199.extract 0 ((wrap64 ((t199.size : Int) - 8)) : Int).toNat)).bind fun t202 => (if t201 = t202 then (some (t199.extract 0 ((wrap64 ((t199.size : Int) - 8)) : Int).toNat, 0)) else (some ((⟨#[]⟩ : ByteArray), 5))))) else (none)) else (none))) else (some ((⟨#[]⟩ : ByteArray), t200))) = some (r1, r2) := H
  have A2 := Aside0.mk A20
  clear A20
  by_cases c3 : t200 = 0
  · rw [if_pos c3] at H
    have c3b0 : (t200 == 0) = true := beq_iff_eq.mpr c3
    have c3b1 : (t200 != 0) = false := bne_eq_false_iff_eq.mpr c3
    clear c3
    by_cases c4 : (wrap64 ((t199.size : Int) - 8)) < 0
    · rw [if_pos c4] at H
      have c4b0 : decide ((wrap64 ((t199.size : Int) - 8)) < 0) = true := decide_eq_true c4
      clear c4
      simp only [Option.some.injEq, Prod.mk.injEq] at H
      obtain ⟨rfl, rfl⟩ := H
      go_enter Try.func20, Try.ntmps20
      go_wp2_with (first | ((with_reducible refine gate_callee (f := 55) rfl ?_); refine goesL_ (some 9) rfl rfl Try.func55 (by kernel_rfl) rfl #[.string a0] rfl (by (try simp only [List.map_toArray, List.map_cons, List.map_nil]); first | done | rfl | (simp only [List.length_drop, List.length_take]; rfl) | (refine congrArg (fun z => #[Value.int .u64 z]) ?_; rw [IntKind.wrap_u64]; omega)) ?_; (with_reducible refine (fascicleref05_Unstuff.calls k a0 t199 t200 _ A2.out).mono ?_); rintro e w5 ⟨rfl, hb⟩; refine ⟨_, rfl, ?_⟩; have n0_ := Aside0.mk (below_step (by repeat (first | (with_reducible first | exact HB.out | apply below_alloc | apply pw_below_drewN | apply below_drew1) | exact HB.out)) hb); clear HB; have HB := n0_; clear n0_; (try clear hb); (try clear hb2); (try clear hk); (try clear hi)))
      go_ret2
      exact ⟨by first | rfl | (simp [errW_none, errW_some] <;> rfl) | (simp [*, errW_none, errW_some] <;> rfl), by repeat (first | (with_reducible first | exact HB.out | apply below_alloc | apply pw_below_drewN | apply below_drew1) | exact HB.out)⟩
    · rw [if_neg c4] at H
      have c4b0 : decide ((wrap64 ((t199.size : Int) - 8)) < 0) = false := decide_eq_false c4
      clear c4
      obtain ⟨ji6, hji6⟩ : ∃ j_ : Int, (wrap64 ((t199.size : Int) - 8)) = j_ := ⟨_, rfl⟩
      replace H : (if 0 ≤ (ji6) then (if (ji6) ≤ (t199.size : Int) then ((fascicleref01_Value.f k (t199.extract ((ji6) : Int).toNat t199.size)).bind fun t201 => ((fascicleref04_Sum.f k 0 (t199.extract 0 ((ji6) : Int).toNat)).bind fun t202 => (if t201 = t202 then (some (t199.extract 0 ((ji6) : Int).toNat, 0)) else (some ((⟨#[]⟩ : ByteArray), 5))))) else (none)) else (none)) = some (r1, r2) := by first | (rw [hji6] at H; exact H) | (simp only [hji6] at H ⊢; exact H)
      (try rw [hji6] at c4b0)
      (try rw [hji6] at A2)
      have hji6w : (IntKind.i64.wrap ((t199.size : Int) - 8)) = ji6 := (i64_w _).trans hji6
      by_cases c7 : 0 ≤ (ji6)
      · rw [if_pos c7] at H
        have c7b0 := eq_true c7
        have c7b1 : decide (0 ≤ (ji6)) = true := decide_eq_true c7
        clear c7
        by_cases c8 : (ji6) ≤ (t199.size : Int)
        · rw [if_pos c8] at H
          have c8b0 := eq_true c8
          have c8b1 : decide ((ji6) ≤ (t199.size : Int)) = true := decide_eq_true c8
          clear c8
          replace H := Option.bind_eq_some_iff.mp H
          obtain ⟨t201, A90, H⟩ := H
          replace H : ((fascicleref04_Sum.f k 0 (t199.extract 0 ((ji6) : Int).toNat)).bind fun t202 => (if t201 = t202 then (some (t199.extract 0 ((ji6) : Int).toNat, 0)) else (some ((⟨#[]⟩ : ByteArray), 5)))) = some (r1, r2) := H
          have A9 := Aside0.mk A90
          clear A90
          have c10b0 := eq_true (of_decide_eq_true (by first | (with_reducible assumption) | assumption) : 0 ≤ (ji6))
          have c11b0 := eq_true (of_decide_eq_true (by first | (with_reducible assumption) | assumption) : (ji6) ≤ (t199.size : Int))
          replace H := Option.bind_eq_some_iff.mp H
          obtain ⟨t202, A120, H⟩ := H
          replace H : (if t201 = t202 then (some (t199.extract 0 ((ji6) : Int).toNat, 0)) else (some ((⟨#[]⟩ : ByteArray), 5))) = some (r1, r2) := H
          have A12 := Aside0.mk A120
          clear A120
          by_cases c13 : t201 = t202
          · rw [if_pos c13] at H
            have c13b0 : (t201 == t202) = true := beq_iff_eq.mpr c13
            have c13b1 : (t201 != t202) = false := bne_eq_false_iff_eq.mpr c13
            clear c13
            have c14b0 := eq_true (of_decide_eq_true (by first | (with_reducible assumption) | assumption) : 0 ≤ (ji6))
            have c15b0 := eq_true (of_decide_eq_true (by first | (with_reducible assumption) | assumption) : (ji6) ≤ (t199.size : Int))
            simp only [Option.some.injEq, Prod.mk.injEq] at H
            obtain ⟨rfl, rfl⟩ := H
            go_enter Try.func20, Try.ntmps20
            try go_wp2_with (first | ((with_reducible refine gate_callee (f := 55) rfl ?_); refine goesL_ (some 9) rfl rfl Try.func55 (by kernel_rfl) rfl #[.string a0] rfl (by (try simp only [List.map_toArray, List.map_cons, List.map_nil]); first | done | rfl | (simp only [List.length_drop, List.length_take]; rfl) | (refine congrArg (fun z => #[Value.int .u64 z]) ?_; rw [IntKind.wrap_u64]; omega)) ?_; (with_reducible refine (fascicleref05_Unstuff.calls k a0 t199 t200 _ A2.out).mono ?_); rintro e w16 ⟨rfl, hb⟩; refine ⟨_, rfl, ?_⟩; have n0_ := Aside0.mk (below_step (by repeat (first | (with_reducible first | exact HB.out | apply below_alloc | apply pw_below_drewN | apply below_drew1) | exact HB.out)) hb); clear HB; have HB := n0_; clear n0_; (try clear hb); (try clear hb2); (try clear hk); (try clear hi)))
            have n0_ := Aside0.mk (below_drew1 HB.out)
            clear HB
            have HB := n0_
            clear n0_
            refine start_ (n := 9) (S := fun w' => True) (ds := []) #[false, false, false, false, false, false, false, false, false] (by kernel_rfl) rfl rfl trivial (fun hHeld => ?_); refine with_tabW fascicleref09_Open.tab7 fascicleref09_Open.bits7 (fun HT_ HW_ => ?_)
            generalize w16.drew = w17 at HB hHeld ⊢
            refine pure_ (i := 0) (N := some 20) (v := ?_) (a' := ?_) #[true, false, false, false, false, false, false, false, false] rfl rfl (any_of HT_.out (by kernel_rfl)) (fun _ _ _ h => h) (Or.inl ⟨by rfl, ?_⟩) ?_ ?_
            rotate_left
            · intro w'
              go_simp
              with_reducible rfl
            rotate_left
            · simp only [Act.put, List.setIfInBounds_toArray, List.set_cons_zero, List.set_cons_succ, i64_w, i32_w]
              rfl
            refine pure_ (i := 1) (N := some 21) (v := ?_) (a' := ?_) #[true, true, false, false, false, false, false, false, false] rfl rfl (any_of HT_.out (by kernel_rfl)) (fun _ _ _ h => h) (Or.inl ⟨by rfl, ?_⟩) ?_ ?_
            rotate_left
            · intro w'
              go_simp
              with_reducible rfl
            rotate_left
            · simp only [Act.put, List.setIfInBounds_toArray, List.set_cons_zero, List.set_cons_succ, i64_w, i32_w]
              rfl
            refine pure_ (i := 2) (N := some 22) (v := ?_) (a' := ?_) #[true, true, true, false, false, false, false, false, false] rfl rfl (any_of HT_.out (by kernel_rfl)) (fun _ _ _ h => h) (Or.inl ⟨by rfl, ?_⟩) ?_ ?_
            rotate_left
            · intro w'
              go_simp
              with_reducible rfl
            rotate_left
            · simp only [Act.put, List.setIfInBounds_toArray, List.set_cons_zero, List.set_cons_succ, i64_w, i32_w]
              rfl
            refine pure_ (i := 4) (N := some 24) (v := ?_) (a' := ?_) #[true, true, true, false, true, false, false, false, false] rfl rfl (any_of HT_.out (by kernel_rfl)) (fun _ _ _ h => h) (Or.inl ⟨by rfl, ?_⟩) ?_ ?_
            rotate_left
            · intro w'
              go_simp
              with_reducible rfl
            rotate_left
            · simp only [Act.put, List.setIfInBounds_toArray, List.set_cons_zero, List.set_cons_succ, i64_w, i32_w]
              rfl
            refine pure_ (i := 5) (N := some 25) (v := ?_) (a' := ?_) #[true, true, true, false, true, true, false, false, false] rfl rfl (any_of HT_.out (by kernel_rfl)) (fun _ _ _ h => h) (Or.inl ⟨by rfl, ?_⟩) ?_ ?_
            rotate_left
            · intro w'
              go_simp
              with_reducible rfl
            rotate_left
            · simp only [Act.put, List.setIfInBounds_toArray, List.set_cons_zero, List.set_cons_succ, i64_w, i32_w]
              rfl
            refine pure_ (i := 6) (N := some 26) (v := ?_) (a' := ?_) #[true, true, true, false, true, true, true, false, false] rfl rfl (any_of HT_.out (by kernel_rfl)) (fun _ _ _ h => h) (Or.inl ⟨by rfl, ?_⟩) ?_ ?_
            rotate_left
            · intro w'
              go_simp
              with_reducible rfl
            rotate_left
            · simp only [Act.put, List.setIfInBounds_toArray, List.set_cons_zero, List.set_cons_succ, i64_w, i32_w]
              rfl
            refine one_ (i := 3) (N := some 23) #[true, true, true, true, true, true, true, false, false] rfl rfl (one_of HT_.out (by kernel_rfl)) (by decide) (fun K hK => ?_)
            refine goes_ Try.func56 (by kernel_rfl) rfl #[.string (t199.extract ((ji6) : Int).toNat t199.size)] (by rfl) rfl rfl (by (try simp only [List.map_toArray, List.map_cons, List.map_nil]); first | done | (simp only [hji6]; rfl) | rfl | (simp only [List.length_drop, List.length_take]; rfl)) ?_
            with_reducible refine (fascicleref01_Value.calls k (t199.extract ((ji6) : Int).toNat t199.size) t201 _ A9.out).mono ?_
            rintro e w' ⟨rfl, ⟨nd, rfl⟩⟩
            refine ⟨_, rfl, ?_⟩
            refine hK.out _ _ trivial (fun hHeld => ?_)
            clear hK K
            refine norm_ (a' := ?_) ?_ ?_
            rotate_left
            · show Act.put _ (some 23) _ = _
              simp only [Act.put, List.setIfInBounds_toArray, List.set_cons_zero, List.set_cons_succ, i64_w, i32_w]
              rfl
            refine one_ (i := 7) (N := some 27) #[true, true, true, true, true, true, true, true, false] rfl rfl (one_of HT_.out (by kernel_rfl)) (by decide) (fun K hK => ?_)
            refine goes_ Try.func57 (by kernel_rfl) rfl #[.int .u64 0, .string (t199.extract 0 ((ji6) : Int).toNat)] (by rfl) rfl rfl (by (try simp only [List.map_toArray, List.map_cons, List.map_nil]); first | done | (simp only [hji6]; rfl) | rfl | (simp only [List.length_drop, List.length_take]; rfl)) ?_
            with_reducible refine (fascicleref04_Sum.calls k 0 (t199.extract 0 ((ji6) : Int).toNat) t202 _ A12.out).mono ?_
            rintro e w18 ⟨rfl, hb⟩
            refine ⟨_, rfl, ?_⟩
            have n0_ := Aside0.mk (below_step (by repeat (first | (with_reducible first | exact HB.out | apply below_alloc | apply pw_below_drewN | apply below_drew1) | exact HB.out)) hb)
            clear HB
            have HB := n0_
            clear n0_
            (try clear hb)
            (try clear hb2)
            (try clear hk)
            (try clear hi)
            refine hK.out _ _ trivial (fun hHeld => ?_)
            clear hK K
            refine norm_ (a' := ?_) ?_ ?_
            rotate_left
            · show Act.put _ (some 27) _ = _
              simp only [Act.put, List.setIfInBounds_toArray, List.set_cons_zero, List.set_cons_succ, i64_w, i32_w]
              rfl
            refine pure_ (i := 8) (N := some 28) (v := ?_) (a' := ?_) #[true, true, true, true, true, true, true, true, true] rfl rfl (any_of HT_.out (by kernel_rfl)) (fun _ _ _ h => h) (Or.inl ⟨by rfl, ?_⟩) ?_ ?_
            rotate_left
            · intro w'
              go_simp
              with_reducible rfl
            rotate_left
            · simp only [Act.put, List.setIfInBounds_toArray, List.set_cons_zero, List.set_cons_succ, i64_w, i32_w]
              rfl
            refine done_ (done_of HT_.out (by kernel_rfl)) ?_
            try go_wp2
            go_ret2
            exact ⟨by first | rfl | (simp [errW_none, errW_some] <;> rfl) | (simp only [← hji6]; first | rfl | (simp [errW_none, errW_some] <;> rfl)) | (simp [*, errW_none, errW_some] <;> rfl), by repeat (first | (with_reducible first | exact HB.out | apply below_alloc | apply pw_below_drewN | apply below_drew1) | exact HB.out)⟩
          · rw [if_neg c13] at H
            have c13b0 : (t201 == t202) = false := beq_eq_false_iff_ne.mpr c13
            have c13b1 : (t201 != t202) = true := bne_iff_ne.mpr c13
            simp only [Option.some.injEq, Prod.mk.injEq] at H
            obtain ⟨rfl, rfl⟩ := H
            go_enter Try.func20, Try.ntmps20
            try go_wp2_with (first | ((with_reducible refine gate_callee (f := 55) rfl ?_); refine goesL_ (some 9) rfl rfl Try.func55 (by kernel_rfl) rfl #[.string a0] rfl (by (try simp only [List.map_toArray, List.map_cons, List.map_nil]); first | done | rfl | (simp only [List.length_drop, List.length_take]; rfl) | (refine congrArg (fun z => #[Value.int .u64 z]) ?_; rw [IntKind.wrap_u64]; omega)) ?_; (with_reducible refine (fascicleref05_Unstuff.calls k a0 t199 t200 _ A2.out).mono ?_); rintro e w19 ⟨rfl, hb⟩; refine ⟨_, rfl, ?_⟩; have n0_ := Aside0.mk (below_step (by repeat (first | (with_reducible first | exact HB.out | apply below_alloc | apply pw_below_drewN | apply below_drew1) | exact HB.out)) hb); clear HB; have HB := n0_; clear n0_; (try clear hb); (try clear hb2); (try clear hk); (try clear hi)))
            have n0_ := Aside0.mk (below_drew1 HB.out)
            clear HB
            have HB := n0_
            clear n0_
            refine start_ (n := 9) (S := fun w' => True) (ds := []) #[false, false, false, false, false, false, false, false, false] (by kernel_rfl) rfl rfl trivial (fun hHeld => ?_); refine with_tabW fascicleref09_Open.tab7 fascicleref09_Open.bits7 (fun HT_ HW_ => ?_)
            generalize w19.drew = w20 at HB hHeld ⊢
            refine pure_ (i := 0) (N := some 20) (v := ?_) (a' := ?_) #[true, false, false, false, false, false, false, false, false] rfl rfl (any_of HT_.out (by kernel_rfl)) (fun _ _ _ h => h) (Or.inl ⟨by rfl, ?_⟩) ?_ ?_
            rotate_left
            · intro w'
              go_simp
              with_reducible rfl
            rotate_left
            · simp only [Act.put, List.setIfInBounds_toArray, List.set_cons_zero, List.set_cons_succ, i64_w, i32_w]
              rfl
            refine pure_ (i := 1) (N := some 21) (v := ?_) (a' := ?_) #[true, true, false, false, false, false, false, false, false] rfl rfl (any_of HT_.out (by kernel_rfl)) (fun _ _ _ h => h) (Or.inl ⟨by rfl, ?_⟩) ?_ ?_
            rotate_left
            · intro w'
              go_simp
              with_reducible rfl
            rotate_left
            · simp only [Act.put, List.setIfInBounds_toArray, List.set_cons_zero, List.set_cons_succ, i64_w, i32_w]
              rfl
            refine pure_ (i := 2) (N := some 22) (v := ?_) (a' := ?_) #[true, true, true, false, false, false, false, false, false] rfl rfl (any_of HT_.out (by kernel_rfl)) (fun _ _ _ h => h) (Or.inl ⟨by rfl, ?_⟩) ?_ ?_
            rotate_left
            · intro w'
              go_simp
              with_reducible rfl
            rotate_left
            · simp only [Act.put, List.setIfInBounds_toArray, List.set_cons_zero, List.set_cons_succ, i64_w, i32_w]
              rfl
            refine pure_ (i := 4) (N := some 24) (v := ?_) (a' := ?_) #[true, true, true, false, true, false, false, false, false] rfl rfl (any_of HT_.out (by kernel_rfl)) (fun _ _ _ h => h) (Or.inl ⟨by rfl, ?_⟩) ?_ ?_
            rotate_left
            · intro w'
              go_simp
              with_reducible rfl
            rotate_left
            · simp only [Act.put, List.setIfInBounds_toArray, List.set_cons_zero, List.set_cons_succ, i64_w, i32_w]
              rfl
            refine pure_ (i := 5) (N := some 25) (v := ?_) (a' := ?_) #[true, true, true, false, true, true, false, false, false] rfl rfl (any_of HT_.out (by kernel_rfl)) (fun _ _ _ h => h) (Or.inl ⟨by rfl, ?_⟩) ?_ ?_
            rotate_left
            · intro w'
              go_simp
              with_reducible rfl
            rotate_left
            · simp only [Act.put, List.setIfInBounds_toArray, List.set_cons_zero, List.set_cons_succ, i64_w, i32_w]
              rfl
            refine pure_ (i := 6) (N := some 26) (v := ?_) (a' := ?_) #[true, true, true, false, true, true, true, false, false] rfl rfl (any_of HT_.out (by kernel_rfl)) (fun _ _ _ h => h) (Or.inl ⟨by rfl, ?_⟩) ?_ ?_
            rotate_left
            · intro w'
              go_simp
              with_reducible rfl
            rotate_left
            · simp only [Act.put, List.setIfInBounds_toArray, List.set_cons_zero, List.set_cons_succ, i64_w, i32_w]
              rfl
            refine one_ (i := 3) (N := some 23) #[true, true, true, true, true, true, true, false, false] rfl rfl (one_of HT_.out (by kernel_rfl)) (by decide) (fun K hK => ?_)
            refine goes_ Try.func56 (by kernel_rfl) rfl #[.string (t199.extract ((ji6) : Int).toNat t199.size)] (by rfl) rfl rfl (by (try simp only [List.map_toArray, List.map_cons, List.map_nil]); first | done | (simp only [hji6]; rfl) | rfl | (simp only [List.length_drop, List.length_take]; rfl)) ?_
            with_reducible refine (fascicleref01_Value.calls k (t199.extract ((ji6) : Int).toNat t199.size) t201 _ A9.out).mono ?_
            rintro e w' ⟨rfl, ⟨nd, rfl⟩⟩
            refine ⟨_, rfl, ?_⟩
            refine hK.out _ _ trivial (fun hHeld => ?_)
            clear hK K
            refine norm_ (a' := ?_) ?_ ?_
            rotate_left
            · show Act.put _ (some 23) _ = _
              simp only [Act.put, List.setIfInBounds_toArray, List.set_cons_zero, List.set_cons_succ, i64_w, i32_w]
              rfl
            refine one_ (i := 7) (N := some 27) #[true, true, true, true, true, true, true, true, false] rfl rfl (one_of HT_.out (by kernel_rfl)) (by decide) (fun K hK => ?_)
            refine goes_ Try.func57 (by kernel_rfl) rfl #[.int .u64 0, .string (t199.extract 0 ((ji6) : Int).toNat)] (by rfl) rfl rfl (by (try simp only [List.map_toArray, List.map_cons, List.map_nil]); first | done | (simp only [hji6]; rfl) | rfl | (simp only [List.length_drop, List.length_take]; rfl)) ?_
            with_reducible refine (fascicleref04_Sum.calls k 0 (t199.extract 0 ((ji6) : Int).toNat) t202 _ A12.out).mono ?_
            rintro e w21 ⟨rfl, hb⟩
            refine ⟨_, rfl, ?_⟩
            have n0_ := Aside0.mk (below_step (by repeat (first | (with_reducible first | exact HB.out | apply below_alloc | apply pw_below_drewN | apply below_drew1) | exact HB.out)) hb)
            clear HB
            have HB := n0_
            clear n0_
            (try clear hb)
            (try clear hb2)
            (try clear hk)
            (try clear hi)
            refine hK.out _ _ trivial (fun hHeld => ?_)
            clear hK K
            refine norm_ (a' := ?_) ?_ ?_
            rotate_left
            · show Act.put _ (some 27) _ = _
              simp only [Act.put, List.setIfInBounds_toArray, List.set_cons_zero, List.set_cons_succ, i64_w, i32_w]
              rfl
            refine pure_ (i := 8) (N := some 28) (v := ?_) (a' := ?_) #[true, true, true, true, true, true, true, true, true] rfl rfl (any_of HT_.out (by kernel_rfl)) (fun _ _ _ h => h) (Or.inl ⟨by rfl, ?_⟩) ?_ ?_
            rotate_left
            · intro w'
              go_simp
              with_reducible rfl
            rotate_left
            · simp only [Act.put, List.setIfInBounds_toArray, List.set_cons_zero, List.set_cons_succ, i64_w, i32_w]
              rfl
            refine done_ (done_of HT_.out (by kernel_rfl)) ?_
            try go_wp2
            go_ret2
            exact ⟨by first | rfl | (simp [errW_none, errW_some] <;> rfl) | (simp only [← hji6]; first | rfl | (simp [errW_none, errW_some] <;> rfl)) | (simp [*, errW_none, errW_some] <;> rfl), by repeat (first | (with_reducible first | exact HB.out | apply below_alloc | apply pw_below_drewN | apply below_drew1) | exact HB.out)⟩
        · rw [if_neg c8] at H
          exact absurd H (by simp)
      · rw [if_neg c7] at H
        exact absurd H (by simp)
  · rw [if_neg c3] at H
    have c3b0 : (t200 == 0) = false := beq_eq_false_iff_ne.mpr c3
    have c3b1 : (t200 != 0) = true := bne_iff_ne.mpr c3
    simp only [Option.some.injEq, Prod.mk.injEq] at H
    obtain ⟨rfl, rfl⟩ := H
    go_enter Try.func20, Try.ntmps20
    go_wp2_with (first | ((with_reducible refine gate_callee (f := 55) rfl ?_); refine goesL_ (some 9) rfl rfl Try.func55 (by kernel_rfl) rfl #[.string a0] rfl (by (try simp only [List.map_toArray, List.map_cons, List.map_nil]); first | done | rfl | (simp only [List.length_drop, List.length_take]; rfl) | (refine congrArg (fun z => #[Value.int .u64 z]) ?_; rw [IntKind.wrap_u64]; omega)) ?_; (with_reducible refine (fascicleref05_Unstuff.calls k a0 t199 t200 _ A2.out).mono ?_); rintro e w22 ⟨rfl, hb⟩; refine ⟨_, rfl, ?_⟩; have n0_ := Aside0.mk (below_step (by repeat (first | (with_reducible first | exact HB.out | apply below_alloc | apply pw_below_drewN | apply below_drew1) | exact HB.out)) hb); clear HB; have HB := n0_; clear n0_; (try clear hb); (try clear hb2); (try clear hk); (try clear hi)))
    go_ret2
    exact ⟨by first | rfl | (simp [errW_none, errW_some] <;> rfl) | (simp [*, errW_none, errW_some] <;> rfl), by repeat (first | (with_reducible first | exact HB.out | apply below_alloc | apply pw_below_drewN | apply below_drew1) | exact HB.out)⟩

end Go.Proofs.Ytekanmieppnpeaa.G
