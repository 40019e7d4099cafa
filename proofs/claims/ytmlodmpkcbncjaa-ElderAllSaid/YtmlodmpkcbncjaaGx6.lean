-- Written by gprint.py (the kit's print.py with contracts of my own taken as given)
import Derived.Test.YtmlodmpkcbncjaaGx0
import Derived.Test.YtmlodmpkcbncjaaGx5
import Derived.Test.YtmlodmpkcbncjaaMRef
namespace Go.Proofs.Ytmlodmpkcbncjaa.G
open Go.RowKit Go.Proofs.YtmlodmpkcbncjaaW.PrintWords Go.Proofs.YtmlodmpkcbncjaaW.PrintLast Go.Proofs.YtmlodmpkcbncjaaW.PrintMore
attribute [local go_sem] max2_int min2_int max_two min_two max_three min_three max_four min_four   -- for this text's walks alone
set_option linter.unusedVariables false
set_option linter.unusedSimpArgs false

/-! ### fascicleref10_Text: function 44 -/
def fascicleref10_Text.f (k : Nat) (a0_0 : ByteArray) (a0_1 : ByteArray) : Option (ByteArray) := (fascicleref01_Num.f k (IntKind.u64.wrap ((a0_0.size : Int))) 4).bind fun t115 => ((fascicleref01_Num.f k (IntKind.u64.wrap ((a0_1.size : Int))) 4).bind fun t116 => (if t115.size + t116.size ≤ 9223372036854775807 then (if (t115 ++ t116).size + a0_0.size ≤ 9223372036854775807 then (if ((t115 ++ t116) ++ a0_0).size + a0_1.size ≤ 9223372036854775807 then ((fascicleref03_Sum.f 0 (((t115 ++ t116) ++ a0_0) ++ a0_1)).bind fun t117 => ((fascicleref01_Num.f k (IntKind.u64.wrap (t117)) 4).bind fun t118 => (if (((t115 ++ t116) ++ a0_0) ++ a0_1).size + t118.size ≤ 9223372036854775807 then (some ((((t115 ++ t116) ++ a0_0) ++ a0_1) ++ t118)) else (none)))) else (none)) else (none)) else (none)))
theorem fascicleref10_Text.mono : ∀ a0 a1 k, LeO (fascicleref10_Text.f k a0 a1) (fascicleref10_Text.f (k + 1) a0 a1) := by
  intro a0 a1 k
  unfold fascicleref10_Text.f
  repeat' first
      | (with_reducible exact fascicleref01_Num.mono _ _ _)
      | (with_reducible exact LeO.refl _)
      | (with_reducible exact LeO.none _)
      | (with_reducible refine LeO.ite ?_ ?_)
      | (with_reducible refine LeO.bind ?_ (fun _ => ?_))
      | exact fascicleref01_Num.mono _ _ _
      | exact LeO.none _
      | refine LeO.ite ?_ ?_
      | refine LeO.bind ?_ (fun _ => ?_)
def fascicleref10_Text.T1 : Bool × List (List Nat × List Nat) := (true, [([], []), ([0], [0]), ([1], [1]), ([2], [2]), ([3], [3]), ([], []), ([5], [5]), ([6], [6]), ([7], [7]), ([8, 4], [8]), ([4, 9], [4, 9]), ([], []), ([11], [11]), ([10, 12], [10, 12]), ([], []), ([14], [14]), ([13, 15], [13, 15]), ([16, 9, 0, 1, 2, 3, 4, 5, 6, 7, 8, 9, 10, 11, 12, 13, 14, 15, 16], [16])])
def fascicleref10_Text.B1 : List Nat := [0, 1, 3, 7, 15, 0, 32, 96, 224, 511, 1023, 0, 2048, 8191, 0, 16384, 65535, 131071]
theorem fascicleref10_Text.tab1 : rtab .any (opsOf Try.f44 1) = fascicleref10_Text.T1 := by kernel_rfl
theorem fascicleref10_Text.bits1 : waitsOk fascicleref10_Text.T1.2 fascicleref10_Text.B1 = true := by kernel_rfl
set_option maxHeartbeats 8000000 in
set_option maxRecDepth 100000 in
theorem fascicleref10_Text.calls (k : Nat) (a0_0 : ByteArray) (a0_1 : ByteArray) (r : ByteArray) (w : World) (h : fascicleref10_Text.f k a0_0 a0_1 = some r) :
    Calls Try.prog 44 #[.agg #[.string a0_0, .string a0_1]] w fun e w' => e = .returned (.string r) ∧ Below w.heap.size w w' := by
  have hu68 := Try.underlying68
  have HB := Aside0.mk (Below.refl w.heap.size w)
  have H : ((fascicleref01_Num.f k (IntKind.u64.wrap ((a0_0.size : Int))) 4).bind fun t115 => ((fascicleref01_Num.f k (IntKind.u64.wrap ((a0_1.size : Int))) 4).bind fun t116 => (if t115.size + t116.size ≤ 9223372036854775807 then (if (t115 ++ t116).size + a0_0.size ≤ 9223372036854775807 then (if ((t115 ++ t116) ++ a0_0).size + a0_1.size ≤ 9223372036854775807 then ((fascicleref03_Sum.f 0 (((t115 ++ t116) ++ a0_0) ++ a0_1)).bind fun t117 => ((fascicleref01_Num.f k (IntKind.u64.wrap (t117)) 4).bind fun t118 => (if (((t115 ++ t116) ++ a0_0) ++ a0_1).size + t118.size ≤ 9223372036854775807 then (some ((((t115 ++ t116) ++ a0_0) ++ a0_1) ++ t118)) else (none)))) else (none)) else (none)) else (none)))) = some r := h
  clear h
  replace H := Option.bind_eq_some_iff.mp H
  obtain ⟨t115, A20, H⟩ := H
  replace H : ((fascicleref01_Num.f k (IntKind.u64.wrap ((a0_1.size : Int))) 4).bind fun t116 => (if t115.size + t116.size ≤ 9223372036854775807 then (if (t115 ++ t116).size + a0_0.size ≤ 9223372036854775807 then (if ((t115 ++ t116) ++ a0_0).size + a0_1.size ≤ 9223372036854775807 then ((fascicleref03_Sum.f 0 (((t115 ++ t116) ++ a0_0) ++ a0_1)).bind fun t117 => ((fascicleref01_Num.f k (IntKind.u64.wrap (t117)) 4).bind fun t118 => (if (((t115 ++ t116) ++ a0_0) ++ a0_1).size + t118.size ≤ 9223372036854775807 then (some ((((t115 ++ t116) ++ a0_0) ++ a0_1) ++ t118)) else (none)))) else (none)) else (none)) else (none))) = some r := H
  have A2 := Aside0.mk A20
  clear A20
  replace H := Option.bind_eq_some_iff.mp H
  obtain ⟨t116, A30, H⟩ := H
  replace H : (if t115.size + t116.size ≤ 9223372036854775807 then (if (t115 ++ t116).size + a0_0.size ≤ 9223372036854775807 then (if ((t115 ++ t116) ++ a0_0).size + a0_1.size ≤ 9223372036854775807 then ((fascicleref03_Sum.f 0 (((t115 ++ t116) ++ a0_0) ++ a0_1)).bind fun t117 => ((fascicleref01_Num.f k (IntKind.u64.wrap (t117)) 4).bind fun t118 => (if (((t115 ++ t116) ++ a0_0) ++ a0_1).size + t118.size ≤ 9223372036854775807 then (some ((((t115 ++ t116) ++ a0_0) ++ a0_1) ++ t118)) else (none)))) else (none)) else (none)) else (none)) = some r := H
  have A3 := Aside0.mk A30
  clear A30
  by_cases c4 : t115.size + t116.size ≤ 9223372036854775807
  · rw [if_pos c4] at H
    have c4b0 := eq_true c4
    have c4b1 : decide (t115.size + t116.size ≤ 9223372036854775807) = true := decide_eq_true c4
    try have c4b2 : (9223372036854775807 < t115.size + t116.size) = False := eq_false (Nat.not_lt.2 c4)
    try (have c4b4 := Nat.not_lt.2 c4; simp [ByteArray.size_append, -Nat.not_lt] at c4b4; (try simp only [show ∀ x : UInt8, (⟨#[x]⟩ : ByteArray).size = 1 from fun _ => rfl, show ∀ x y : UInt8, (⟨#[x, y]⟩ : ByteArray).size = 2 from fun _ _ => rfl] at c4b4); have c4b5 := eq_false c4b4)
    by_cases c5 : (t115 ++ t116).size + a0_0.size ≤ 9223372036854775807
    · rw [if_pos c5] at H
      have c5b0 := eq_true c5
      have c5b1 : decide ((t115 ++ t116).size + a0_0.size ≤ 9223372036854775807) = true := decide_eq_true c5
      try have c5b2 : (9223372036854775807 < (t115 ++ t116).size + a0_0.size) = False := eq_false (Nat.not_lt.2 c5)
      try (have c5b4 := Nat.not_lt.2 c5; simp [ByteArray.size_append, -Nat.not_lt] at c5b4; (try simp only [show ∀ x : UInt8, (⟨#[x]⟩ : ByteArray).size = 1 from fun _ => rfl, show ∀ x y : UInt8, (⟨#[x, y]⟩ : ByteArray).size = 2 from fun _ _ => rfl] at c5b4); have c5b5 := eq_false c5b4)
      by_cases c6 : ((t115 ++ t116) ++ a0_0).size + a0_1.size ≤ 9223372036854775807
      · rw [if_pos c6] at H
        have c6b0 := eq_true c6
        have c6b1 : decide (((t115 ++ t116) ++ a0_0).size + a0_1.size ≤ 9223372036854775807) = true := decide_eq_true c6
        try have c6b2 : (9223372036854775807 < ((t115 ++ t116) ++ a0_0).size + a0_1.size) = False := eq_false (Nat.not_lt.2 c6)
        try (have c6b4 := Nat.not_lt.2 c6; simp [ByteArray.size_append, -Nat.not_lt] at c6b4; (try simp only [show ∀ x : UInt8, (⟨#[x]⟩ : ByteArray).size = 1 from fun _ => rfl, show ∀ x y : UInt8, (⟨#[x, y]⟩ : ByteArray).size = 2 from fun _ _ => rfl] at c6b4); have c6b5 := eq_false c6b4)
        replace H := Option.bind_eq_some_iff.mp H
        obtain ⟨t117, A70, H⟩ := H
        replace H : ((fascicleref01_Num.f k (IntKind.u64.wrap (t117)) 4).bind fun t118 => (if (((t115 ++ t116) ++ a0_0) ++ a0_1).size + t118.size ≤ 9223372036854775807 then (some ((((t115 ++ t116) ++ a0_0) ++ a0_1) ++ t118)) else (none))) = some r := H
        have A7 := Aside0.mk A70
        clear A70
        replace H := Option.bind_eq_some_iff.mp H
        obtain ⟨t118, A80, H⟩ := H
        replace H : (if (((t115 ++ t116) ++ a0_0) ++ a0_1).size + t118.size ≤ 9223372036854775807 then (some ((((t115 ++ t116) ++ a0_0) ++ a0_1) ++ t118)) else (none)) = some r := H
        have A8 := Aside0.mk A80
        clear A80
        by_cases c9 : (((t115 ++ t116) ++ a0_0) ++ a0_1).size + t118.size ≤ 9223372036854775807
        · rw [if_pos c9] at H
          have c9b0 := eq_true c9
          have c9b1 : decide ((((t115 ++ t116) ++ a0_0) ++ a0_1).size + t118.size ≤ 9223372036854775807) = true := decide_eq_true c9
          try have c9b2 : (9223372036854775807 < (((t115 ++ t116) ++ a0_0) ++ a0_1).size + t118.size) = False := eq_false (Nat.not_lt.2 c9)
          try (have c9b4 := Nat.not_lt.2 c9; simp [ByteArray.size_append, -Nat.not_lt] at c9b4; (try simp only [show ∀ x : UInt8, (⟨#[x]⟩ : ByteArray).size = 1 from fun _ => rfl, show ∀ x y : UInt8, (⟨#[x, y]⟩ : ByteArray).size = 2 from fun _ _ => rfl] at c9b4); have c9b5 := eq_false c9b4)
          obtain rfl := Option.some.inj H
          go_enter Try.func44, Try.ntmps44
          try go_wp2_with (first | ((with_reducible refine gate_dst (N := 1) rfl ?_); refine box_event ?hg (N := 1) ?hd (cs := #[.string a0_0, .string a0_1]) (t := 68) ?hr ?_; (case hd => rfl); (case hg => rfl); (case hr => first | (go_simp; done) | (go_simp; rfl)); intro gb114 hg w10 hbox hb; have n0_ := Aside0.mk (below_step (by repeat (first | (with_reducible first | exact HB.out | apply below_alloc | apply pw_below_drewN | apply below_drew1) | exact HB.out)) hb); have n1_ := Aside0.mk (hbox); have n2_ := Aside0.mk ((by rw [hg]; exact (below_size (by repeat (first | (with_reducible first | exact HB.out | apply below_alloc | apply pw_below_drewN | apply below_drew1) | exact HB.out))) : w.heap.size ≤ gb114)); have n3_ := Aside0.mk ((by rw [hg]; exact (below_size (by repeat (first | (with_reducible first | exact HB.out | apply below_alloc | apply pw_below_drewN | apply below_drew1) | exact HB.out))) : w.heap.size ≤ gb114)); clear HB; have HB := n0_; have BK114 := n1_; have GW114 := n2_; have GE114 := n3_; clear n0_ n1_ n2_ n3_; clear hb hbox hg))
          have n0_ := Aside0.mk (blk_drew BK114.out)
          have n1_ := Aside0.mk (below_drew1 HB.out)
          clear BK114
          clear HB
          have BK114 := n0_
          have HB := n1_
          clear n0_ n1_
          refine start_ (n := 18) (S := fun w' => w'.cell? ⟨gb114, 0, none⟩ = some (.string a0_0) ∧ w'.cell? ⟨gb114, 1, none⟩ = some (.string a0_1)) (ds := []) #[false, false, false, false, false, false, false, false, false, false, false, false, false, false, false, false, false, false] (by kernel_rfl) rfl rfl ⟨(blk_cell BK114.out 0).trans rfl, (blk_cell BK114.out 1).trans rfl⟩ (fun hHeld => ?_); refine with_tabW fascicleref10_Text.tab1 fascicleref10_Text.bits1 (fun HT_ HW_ => ?_)
          generalize w10.drew = w11 at BK114 HB hHeld ⊢
          refine pure_ (i := 0) (N := some 4) (v := ?_) (a' := ?_) #[true, false, false, false, false, false, false, false, false, false, false, false, false, false, false, false, false, false] rfl rfl (any_of HT_.out (by kernel_rfl)) (fun _ _ _ h => h) (Or.inl ⟨by rfl, ?_⟩) ?_ ?_
          rotate_left
          · intro w'
            go_simp
            with_reducible rfl
          rotate_left
          · simp only [Act.put, List.setIfInBounds_toArray, List.set_cons_zero, List.set_cons_succ, i64_w, i32_w]
            rfl
          refine pure_ (i := 5) (N := some 9) (v := ?_) (a' := ?_) #[true, false, false, false, false, true, false, false, false, false, false, false, false, false, false, false, false, false] rfl rfl (any_of HT_.out (by kernel_rfl)) (fun _ _ _ h => h) (Or.inl ⟨by rfl, ?_⟩) ?_ ?_
          rotate_left
          · intro w'
            go_simp
            with_reducible rfl
          rotate_left
          · simp only [Act.put, List.setIfInBounds_toArray, List.set_cons_zero, List.set_cons_succ, i64_w, i32_w]
            rfl
          refine pure_ (i := 11) (N := some 15) (v := ?_) (a' := ?_) #[true, false, false, false, false, true, false, false, false, false, false, true, false, false, false, false, false, false] rfl rfl (any_of HT_.out (by kernel_rfl)) (fun _ _ _ h => h) (Or.inl ⟨by rfl, ?_⟩) ?_ ?_
          rotate_left
          · intro w'
            go_simp
            with_reducible rfl
          rotate_left
          · simp only [Act.put, List.setIfInBounds_toArray, List.set_cons_zero, List.set_cons_succ, i64_w, i32_w]
            rfl
          refine pure_ (i := 14) (N := some 18) (v := ?_) (a' := ?_) #[true, false, false, false, false, true, false, false, false, false, false, true, false, false, true, false, false, false] rfl rfl (any_of HT_.out (by kernel_rfl)) (fun _ _ _ h => h) (Or.inl ⟨by rfl, ?_⟩) ?_ ?_
          rotate_left
          · intro w'
            go_simp
            with_reducible rfl
          rotate_left
          · simp only [Act.put, List.setIfInBounds_toArray, List.set_cons_zero, List.set_cons_succ, i64_w, i32_w]
            rfl
          refine take_ (i := 1) (N := some 5) (v := ?_) (a' := ?_) #[true, true, false, false, false, true, false, false, false, false, false, true, false, false, true, false, false, false] rfl rfl (take_ofW HT_.out HW_.out (by kernel_rfl)) (fun _ _ _ h => h) (Or.inl ⟨by rfl, ?_⟩) hHeld ?_ ?_
          rotate_left
          · rintro w' ⟨s0, s1⟩
            go_simp
            with_reducible rfl
          rotate_left
          · simp only [Act.put, List.setIfInBounds_toArray, List.set_cons_zero, List.set_cons_succ, i64_w, i32_w]
            rfl
          refine pure_ (i := 2) (N := some 6) (v := ?_) (a' := ?_) #[true, true, true, false, false, true, false, false, false, false, false, true, false, false, true, false, false, false] rfl rfl (any_of HT_.out (by kernel_rfl)) (fun _ _ _ h => h) (Or.inl ⟨by rfl, ?_⟩) ?_ ?_
          rotate_left
          · intro w'
            go_simp
            with_reducible rfl
          rotate_left
          · simp only [Act.put, List.setIfInBounds_toArray, List.set_cons_zero, List.set_cons_succ, i64_w, i32_w]
            rfl
          refine pure_ (i := 3) (N := some 7) (v := ?_) (a' := ?_) #[true, true, true, true, false, true, false, false, false, false, false, true, false, false, true, false, false, false] rfl rfl (any_of HT_.out (by kernel_rfl)) (fun _ _ _ h => h) (Or.inl ⟨by rfl, ?_⟩) ?_ ?_
          rotate_left
          · intro w'
            go_simp
            with_reducible rfl
          rotate_left
          · simp only [Act.put, List.setIfInBounds_toArray, List.set_cons_zero, List.set_cons_succ, i64_w, i32_w]
            rfl
          refine take_ (i := 6) (N := some 10) (v := ?_) (a' := ?_) #[true, true, true, true, false, true, true, false, false, false, false, true, false, false, true, false, false, false] rfl rfl (take_ofW HT_.out HW_.out (by kernel_rfl)) (fun _ _ _ h => h) (Or.inl ⟨by rfl, ?_⟩) hHeld ?_ ?_
          rotate_left
          · rintro w' ⟨s0, s1⟩
            go_simp
            with_reducible rfl
          rotate_left
          · simp only [Act.put, List.setIfInBounds_toArray, List.set_cons_zero, List.set_cons_succ, i64_w, i32_w]
            rfl
          refine pure_ (i := 7) (N := some 11) (v := ?_) (a' := ?_) #[true, true, true, true, false, true, true, true, false, false, false, true, false, false, true, false, false, false] rfl rfl (any_of HT_.out (by kernel_rfl)) (fun _ _ _ h => h) (Or.inl ⟨by rfl, ?_⟩) ?_ ?_
          rotate_left
          · intro w'
            go_simp
            with_reducible rfl
          rotate_left
          · simp only [Act.put, List.setIfInBounds_toArray, List.set_cons_zero, List.set_cons_succ, i64_w, i32_w]
            rfl
          refine pure_ (i := 8) (N := some 12) (v := ?_) (a' := ?_) #[true, true, true, true, false, true, true, true, true, false, false, true, false, false, true, false, false, false] rfl rfl (any_of HT_.out (by kernel_rfl)) (fun _ _ _ h => h) (Or.inl ⟨by rfl, ?_⟩) ?_ ?_
          rotate_left
          · intro w'
            go_simp
            with_reducible rfl
          rotate_left
          · simp only [Act.put, List.setIfInBounds_toArray, List.set_cons_zero, List.set_cons_succ, i64_w, i32_w]
            rfl
          refine take_ (i := 12) (N := some 16) (v := ?_) (a' := ?_) #[true, true, true, true, false, true, true, true, true, false, false, true, true, false, true, false, false, false] rfl rfl (take_ofW HT_.out HW_.out (by kernel_rfl)) (fun _ _ _ h => h) (Or.inl ⟨by rfl, ?_⟩) hHeld ?_ ?_
          rotate_left
          · rintro w' ⟨s0, s1⟩
            go_simp
            with_reducible rfl
          rotate_left
          · simp only [Act.put, List.setIfInBounds_toArray, List.set_cons_zero, List.set_cons_succ, i64_w, i32_w]
            rfl
          refine take_ (i := 15) (N := some 19) (v := ?_) (a' := ?_) #[true, true, true, true, false, true, true, true, true, false, false, true, true, false, true, true, false, false] rfl rfl (take_ofW HT_.out HW_.out (by kernel_rfl)) (fun _ _ _ h => h) (Or.inl ⟨by rfl, ?_⟩) hHeld ?_ ?_
          rotate_left
          · rintro w' ⟨s0, s1⟩
            go_simp
            with_reducible rfl
          rotate_left
          · simp only [Act.put, List.setIfInBounds_toArray, List.set_cons_zero, List.set_cons_succ, i64_w, i32_w]
            rfl
          refine one_ (i := 4) (N := some 8) #[true, true, true, true, true, true, true, true, true, false, false, true, true, false, true, true, false, false] rfl rfl (one_of HT_.out (by kernel_rfl)) (by decide) (fun K hK => ?_)
          refine goes_ Try.func30 (by kernel_rfl) rfl #[.int .u64 (IntKind.u64.wrap ((a0_0.size : Int))), .int .i64 4] (by rfl) rfl rfl (by (try simp only [List.map_toArray, List.map_cons, List.map_nil]); first | done | rfl | (simp only [List.length_drop, List.length_take]; rfl) | (refine congrArg (fun z => #[Value.int .u64 z]) ?_; rw [IntKind.wrap_u64]; omega)) ?_
          with_reducible refine (fascicleref01_Num.calls k (IntKind.u64.wrap ((a0_0.size : Int))) 4 t115 _ A2.out).mono ?_
          rintro e w12 ⟨rfl, hb⟩
          refine ⟨_, rfl, ?_⟩
          have n0_ := Aside0.mk (blk_below (g := gb114) (o := .cells #[.string a0_0, .string a0_1] 68 (0, 0)) (by (with_reducible repeat (first | refine blk_drewN ?_ _ | refine blk_drew ?_ | refine blk_alloc ?_ _)); exact BK114.out) hb)
          have n1_ := Aside0.mk (below_step (by repeat (first | (with_reducible first | exact HB.out | apply below_alloc | apply pw_below_drewN | apply below_drew1 | refine below_set ?_ GE114.out) | exact HB.out)) hb)
          clear BK114
          clear HB
          have BK114 := n0_
          have HB := n1_
          clear n0_ n1_
          (try clear hb)
          (try clear hb2)
          (try clear hk)
          (try clear hi)
          refine hK.out _ _ ⟨(blk_cell BK114.out 0).trans rfl, (blk_cell BK114.out 1).trans rfl⟩ (fun hHeld => ?_)
          clear hK K
          refine norm_ (a' := ?_) ?_ ?_
          rotate_left
          · show Act.put _ (some 8) _ = _
            simp only [Act.put, List.setIfInBounds_toArray, List.set_cons_zero, List.set_cons_succ, i64_w, i32_w]
            rfl
          refine one_ (i := 9) (N := some 13) #[true, true, true, true, true, true, true, true, true, true, false, true, true, false, true, true, false, false] rfl rfl (one_of HT_.out (by kernel_rfl)) (by decide) (fun K hK => ?_)
          refine goes_ Try.func30 (by kernel_rfl) rfl #[.int .u64 (IntKind.u64.wrap ((a0_1.size : Int))), .int .i64 4] (by rfl) rfl rfl (by (try simp only [List.map_toArray, List.map_cons, List.map_nil]); first | done | rfl | (simp only [List.length_drop, List.length_take]; rfl) | (refine congrArg (fun z => #[Value.int .u64 z]) ?_; rw [IntKind.wrap_u64]; omega)) ?_
          with_reducible refine (fascicleref01_Num.calls k (IntKind.u64.wrap ((a0_1.size : Int))) 4 t116 _ A3.out).mono ?_
          rintro e w13 ⟨rfl, hb⟩
          refine ⟨_, rfl, ?_⟩
          have n0_ := Aside0.mk (blk_below (g := gb114) (o := .cells #[.string a0_0, .string a0_1] 68 (0, 0)) (by (with_reducible repeat (first | refine blk_drewN ?_ _ | refine blk_drew ?_ | refine blk_alloc ?_ _)); exact BK114.out) hb)
          have n1_ := Aside0.mk (below_step (by repeat (first | (with_reducible first | exact HB.out | apply below_alloc | apply pw_below_drewN | apply below_drew1 | refine below_set ?_ GE114.out) | exact HB.out)) hb)
          clear BK114
          clear HB
          have BK114 := n0_
          have HB := n1_
          clear n0_ n1_
          (try clear hb)
          (try clear hb2)
          (try clear hk)
          (try clear hi)
          refine hK.out _ _ ⟨(blk_cell BK114.out 0).trans rfl, (blk_cell BK114.out 1).trans rfl⟩ (fun hHeld => ?_)
          clear hK K
          refine norm_ (a' := ?_) ?_ ?_
          rotate_left
          · show Act.put _ (some 13) _ = _
            simp only [Act.put, List.setIfInBounds_toArray, List.set_cons_zero, List.set_cons_succ, i64_w, i32_w]
            rfl
          refine pure_ (i := 10) (N := some 14) (v := ?_) (a' := ?_) #[true, true, true, true, true, true, true, true, true, true, true, true, true, false, true, true, false, false] rfl rfl (any_of HT_.out (by kernel_rfl)) (fun _ _ _ h => h) (Or.inl ⟨by rfl, ?_⟩) ?_ ?_
          rotate_left
          · intro w'
            go_simp
            with_reducible rfl
          rotate_left
          · simp only [Act.put, List.setIfInBounds_toArray, List.set_cons_zero, List.set_cons_succ, i64_w, i32_w]
            rfl
          refine pure_ (i := 13) (N := some 17) (v := ?_) (a' := ?_) #[true, true, true, true, true, true, true, true, true, true, true, true, true, true, true, true, false, false] rfl rfl (any_of HT_.out (by kernel_rfl)) (fun _ _ _ h => h) (Or.inl ⟨by rfl, ?_⟩) ?_ ?_
          rotate_left
          · intro w'
            go_simp
            with_reducible rfl
          rotate_left
          · simp only [Act.put, List.setIfInBounds_toArray, List.set_cons_zero, List.set_cons_succ, i64_w, i32_w]
            rfl
          refine pure_ (i := 16) (N := some 20) (v := ?_) (a' := ?_) #[true, true, true, true, true, true, true, true, true, true, true, true, true, true, true, true, true, false] rfl rfl (any_of HT_.out (by kernel_rfl)) (fun _ _ _ h => h) (Or.inl ⟨by rfl, ?_⟩) ?_ ?_
          rotate_left
          · intro w'
            go_simp
            with_reducible rfl
          rotate_left
          · simp only [Act.put, List.setIfInBounds_toArray, List.set_cons_zero, List.set_cons_succ, i64_w, i32_w]
            rfl
          refine pure_ (i := 17) (N := some 3) (v := ?_) (a' := ?_) #[true, true, true, true, true, true, true, true, true, true, true, true, true, true, true, true, true, true] rfl rfl (any_of HT_.out (by kernel_rfl)) (fun _ _ _ h => h) (Or.inl ⟨by rfl, ?_⟩) ?_ ?_
          rotate_left
          · intro w'
            go_simp
            with_reducible rfl
          rotate_left
          · simp only [Act.put, List.setIfInBounds_toArray, List.set_cons_zero, List.set_cons_succ, i64_w, i32_w]
            rfl
          refine done_ (done_of HT_.out (by kernel_rfl)) ?_
          try go_wp2_with (first | ((with_reducible refine gate_callee (f := 70) rfl ?_); refine goesL_ (some 23) rfl rfl Try.func70 (by kernel_rfl) rfl #[.int .u32 0, .string (((t115 ++ t116) ++ a0_0) ++ a0_1)] rfl (by (try simp only [List.map_toArray, List.map_cons, List.map_nil]); first | done | rfl | (simp only [List.length_drop, List.length_take]; rfl) | (refine congrArg (fun z => #[Value.int .u64 z]) ?_; rw [IntKind.wrap_u64]; omega)) ?_; (with_reducible refine (fascicleref03_Sum.calls 0 (((t115 ++ t116) ++ a0_0) ++ a0_1) t117 _ A7.out).mono ?_); rintro e w14 ⟨rfl, hb⟩; refine ⟨_, rfl, ?_⟩; have n0_ := Aside0.mk (blk_below (g := gb114) (o := .cells #[.string a0_0, .string a0_1] 68 (0, 0)) (by (with_reducible repeat (first | refine blk_drewN ?_ _ | refine blk_drew ?_ | refine blk_alloc ?_ _)); exact BK114.out) hb); have n1_ := Aside0.mk (below_step (by repeat (first | (with_reducible first | exact HB.out | apply below_alloc | apply pw_below_drewN | apply below_drew1 | refine below_set ?_ GE114.out) | exact HB.out)) hb); clear BK114; clear HB; have BK114 := n0_; have HB := n1_; clear n0_ n1_; (try clear hb); (try clear hb2); (try clear hk); (try clear hi)) | ((with_reducible refine gate_callee (f := 30) rfl ?_); refine goesL_ (some 25) rfl rfl Try.func30 (by kernel_rfl) rfl #[.int .u64 (IntKind.u64.wrap (t117)), .int .i64 4] rfl (by (try simp only [List.map_toArray, List.map_cons, List.map_nil]); first | done | rfl | (simp only [List.length_drop, List.length_take]; rfl) | (refine congrArg (fun z => #[Value.int .u64 z]) ?_; rw [IntKind.wrap_u64]; omega)) ?_; (with_reducible refine (fascicleref01_Num.calls k (IntKind.u64.wrap (t117)) 4 t118 _ A8.out).mono ?_); rintro e w15 ⟨rfl, hb⟩; refine ⟨_, rfl, ?_⟩; have n0_ := Aside0.mk (blk_below (g := gb114) (o := .cells #[.string a0_0, .string a0_1] 68 (0, 0)) (by (with_reducible repeat (first | refine blk_drewN ?_ _ | refine blk_drew ?_ | refine blk_alloc ?_ _)); exact BK114.out) hb); have n1_ := Aside0.mk (below_step (by repeat (first | (with_reducible first | exact HB.out | apply below_alloc | apply pw_below_drewN | apply below_drew1 | refine below_set ?_ GE114.out) | exact HB.out)) hb); clear BK114; clear HB; have BK114 := n0_; have HB := n1_; clear n0_ n1_; (try clear hb); (try clear hb2); (try clear hk); (try clear hi)))
          go_ret
          exact ⟨by first | rfl | (simp [errW_none, errW_some] <;> rfl) | (simp [*, errW_none, errW_some] <;> rfl), by repeat (first | (with_reducible first | exact HB.out | apply below_alloc | apply pw_below_drewN | apply below_drew1 | refine below_set ?_ GE114.out) | exact HB.out)⟩
        · rw [if_neg c9] at H
          exact absurd H (by simp)
      · rw [if_neg c6] at H
        exact absurd H (by simp)
    · rw [if_neg c5] at H
      exact absurd H (by simp)
  · rw [if_neg c4] at H
    exact absurd H (by simp)

end Go.Proofs.Ytmlodmpkcbncjaa.G
