-- Written by gprint.py (the kit's print.py with contracts of my own taken as given)
import Derived.Test.YtekanmieppnpeaaGx0
import Derived.Test.YtekanmieppnpeaaGx2
import Derived.Test.YtekanmieppnpeaaGx7
namespace Go.Proofs.Ytekanmieppnpeaa.G
open Go.RowKit Go.Proofs.YtekanmieppnpeaaW.PrintWords Go.Proofs.YtekanmieppnpeaaW.PrintLast Go.Proofs.YtekanmieppnpeaaW.PrintMore
attribute [local go_sem] max2_int min2_int max_two min_two max_three min_three max_four min_four   -- for this text's walks alone
set_option linter.unusedVariables false
set_option linter.unusedSimpArgs false

/-! ### fascicleref01_Num: function 63 -/
def fascicleref01_Num.l0 : Nat → Int → ByteArray → Int → Int → Option (ByteArray)
  | 0, _, _, _, _ => none
  | k + 1, x0, x5, x6, x7 => if x7 < x6 then ((some (([(Int.tmod x0 256) % 256] : List Int) : List Int)).bind fun y191 => (if x5.size + (strOfNums y191).size ≤ 9223372036854775807 then (fascicleref01_Num.l0 k (IntKind.u64.wrap (Int.tdiv x0 256)) (x5 ++ (strOfNums y191)) x6 (wrap64 (x7 + 1))) else (none))) else (some x5)
def fascicleref01_Num.f (k : Nat) (a0 : Int) (a1 : Int) : Option (ByteArray) := fascicleref01_Num.l0 k a0 (⟨#[]⟩ : ByteArray) a1 0
theorem fascicleref01_Num.mono_l : ∀ k, (∀ y0 y1 y2 y3, LeO (fascicleref01_Num.l0 k y0 y1 y2 y3) (fascicleref01_Num.l0 (k + 1) y0 y1 y2 y3))
  | 0 => fun _ _ _ _ r h => by simp [fascicleref01_Num.l0] at h
  | k + 1 => by
    have ih0 := fascicleref01_Num.mono_l k
    · intro y0 y1 y2 y3
      unfold fascicleref01_Num.l0
      repeat' first
      | (with_reducible exact ih0 _ _ _ _)
      | (with_reducible exact LeO.refl _)
      | (with_reducible exact LeO.none _)
      | (with_reducible refine LeO.ite ?_ ?_)
      | (with_reducible refine LeO.bind ?_ (fun _ => ?_))
      | exact ih0 _ _ _ _
      | exact LeO.none _
      | refine LeO.ite ?_ ?_
      | refine LeO.bind ?_ (fun _ => ?_)
theorem fascicleref01_Num.mono : ∀ a0 a1 k, LeO (fascicleref01_Num.f k a0 a1) (fascicleref01_Num.f (k + 1) a0 a1) := by
  intro a0 a1 k
  have ih0 := fascicleref01_Num.mono_l k
  unfold fascicleref01_Num.f
  repeat' first
      | (with_reducible exact ih0 _ _ _ _)
      | (with_reducible exact LeO.refl _)
      | (with_reducible exact LeO.none _)
      | (with_reducible refine LeO.ite ?_ ?_)
      | (with_reducible refine LeO.bind ?_ (fun _ => ?_))
      | exact ih0 _ _ _ _
      | exact LeO.none _
      | refine LeO.ite ?_ ?_
      | refine LeO.bind ?_ (fun _ => ?_)
set_option maxHeartbeats 8000000 in
set_option maxRecDepth 100000 in
theorem fascicleref01_Num.calls (k : Nat) (a0 : Int) (a1 : Int) (r : ByteArray) (w : World) (h : fascicleref01_Num.f k a0 a1 = some r) :
    Calls Try.prog 63 #[.int .u64 a0, .int .i64 a1] w fun e w' => e = .returned (.string r) ∧ Below w.heap.size w w' := by
  have HB := Aside0.mk (Below.refl w.heap.size w)
  have H : (fascicleref01_Num.l0 k a0 (⟨#[]⟩ : ByteArray) a1 0) = some r := h
  clear h
  have H' := Aside0.mk H
  clear H
  go_enter Try.func63, Try.ntmps63
  go_wp2
  go_loopg [0, 5, 7] k (fun kq v0 v5 v7 w' => ∃ (x0_1 : Int) (x5_1 : ByteArray) (x7_1 : Int), v0 = .int .u64 x0_1 ∧ v5 = .string x5_1 ∧ v7 = .int .i64 x7_1 ∧ Aside0 (fascicleref01_Num.l0 kq x0_1 x5_1 a1 x7_1 = some r) ∧ Aside0 (kq ≤ k) ∧ Aside0 (Below w.heap.size w w'))
  case atStart => exact ⟨(a0), ((⟨#[]⟩ : ByteArray)), (0), (by first | rfl | (simp; done) | (simp [*]; done) | (simp; exact (fun l : List UInt8 => (by cases l <;> rfl : l.isEmpty = !(l != ([] : List UInt8)))) _)), (by first | rfl | (simp; done) | (simp [*]; done) | (simp; exact (fun l : List UInt8 => (by cases l <;> rfl : l.isEmpty = !(l != ([] : List UInt8)))) _)), (by first | rfl | (simp; done) | (simp [*]; done) | (simp; exact (fun l : List UInt8 => (by cases l <;> rfl : l.isEmpty = !(l != ([] : List UInt8)))) _)), H', ⟨Nat.le_refl _⟩, ⟨by repeat (first | (with_reducible first | exact HB.out | apply below_alloc | apply pw_below_drewN | apply below_drew1) | exact HB.out)⟩⟩
  case round =>
    clear H'
    try clear p2
    obtain ⟨x0_1, x5_1, x7_1, rfl, rfl, rfl, HA, HK1, HB⟩ := hrel
    cases gk with
    | zero => exact absurd HA.out (by simp [fascicleref01_Num.l0])
    | succ k1 =>
      have H := HA.out
      clear HA
      simp only [fascicleref01_Num.l0] at H
      by_cases c3 : x7_1 < a1
      · rw [if_pos c3] at H
        have c3b0 : decide (x7_1 < a1) = true := decide_eq_true c3
        clear c3
        obtain ⟨y191, hy191⟩ : ∃ y_ : List Int, y_ = (([(Int.tmod x0_1 256) % 256] : List Int)) := ⟨_, rfl⟩
        replace H : (if x5_1.size + (strOfNums y191).size ≤ 9223372036854775807 then (fascicleref01_Num.l0 k1 (IntKind.u64.wrap (Int.tdiv x0_1 256)) (x5_1 ++ (strOfNums y191)) a1 (wrap64 (x7_1 + 1))) else (none)) = some r := by first | (rw [hy191]; with_reducible exact H) | (have H2_ := (Option.bind_some _ _).symm.trans H; rw [hy191]; with_reducible exact H2_) | (have H2_ := (Option.bind_some _ _).symm.trans H; with_reducible exact H2_) | with_reducible exact H | (rw [hy191]; exact H) | exact H
        have Ny191 := Aside0.mk hy191
        clear hy191
        by_cases c4 : x5_1.size + (strOfNums y191).size ≤ 9223372036854775807
        · rw [if_pos c4] at H
          have c4b0 := eq_true c4
          have c4b1 : decide (x5_1.size + (strOfNums y191).size ≤ 9223372036854775807) = true := decide_eq_true c4
          try have c4b2 : (9223372036854775807 < x5_1.size + (strOfNums y191).size) = False := eq_false (Nat.not_lt.2 c4)
          try (have c4b4 := Nat.not_lt.2 c4; simp [ByteArray.size_append, -Nat.not_lt] at c4b4; (try simp only [show ∀ x : UInt8, (⟨#[x]⟩ : ByteArray).size = 1 from fun _ => rfl, show ∀ x y : UInt8, (⟨#[x, y]⟩ : ByteArray).size = 2 from fun _ _ => rfl] at c4b4); have c4b5 := eq_false c4b4)
          have H' := Aside0.mk H
          clear H
          go_wp2_with (first | ((with_reducible refine gate_dst (N := 13) rfl ?_); refine Kd.R_lit (Kd.int .u8) _ 5 ?hg (N := 13) ?hd (xs := ([(Int.tmod x0_1 256) % 256] : List Int)) (inner := [.int .u8 ((Int.tmod x0_1 256) % 256)]) (ok := fun _ => True) (okp := fun _ => True) ?hr ?hp (fun _ hk => hk) trivial (Below.refl _ _) (Nat.le_refl _) (by simp) ?_; (case hd => rfl); (case hg => rfl); (case hr => first | (go_simp; done) | (go_simp; rfl)); (case hp => exact (Reps.one (show Kd.M (Kd.int .u8) _ _ _ ((Int.tmod x0_1 256) % 256) [.int .u8 ((Int.tmod x0_1 256) % 256)] from rfl) (Reps.none _ _))); intro v192 w5 ho6 hb hg_ hnew_; clear hg_ hnew_; (first | rw [← Ny191.out] at ho6 | (simp only [Int.reduceToNat] at ho6; rw [← Ny191.out] at ho6)); have n0_ := Aside0.mk (Kd.R_lower ho6 (below_size (by repeat (first | (with_reducible first | exact HB.out | apply below_alloc | apply pw_below_drewN | apply below_drew1) | exact HB.out)))); have n1_ := Aside0.mk (below_step (by repeat (first | (with_reducible first | exact HB.out | apply below_alloc | apply pw_below_drewN | apply below_drew1) | exact HB.out)) hb); clear HB; have HO193 := n0_; have HB := n1_; clear n0_ n1_; clear hb ho6; have hcv7 := own_string (P := Try.prog) Try.underlying39 Try.underlying5 Try.underlying9 (Kd.own_of_R HO193.out)))
          go_roundg k1
          case measure => have := HK1.out; omega
          case rel => exact ⟨(IntKind.u64.wrap (Int.tdiv x0_1 256)), (x5_1 ++ (strOfNums y191)), (wrap64 (x7_1 + 1)), (by first | rfl | (simp; done) | (simp [*]; done) | (simp; exact (fun l : List UInt8 => (by cases l <;> rfl : l.isEmpty = !(l != ([] : List UInt8)))) _)), (by first | rfl | (simp; done) | (simp [*]; done) | (simp; exact (fun l : List UInt8 => (by cases l <;> rfl : l.isEmpty = !(l != ([] : List UInt8)))) _)), (by first | rfl | (simp; done) | (simp [*]; done) | (simp; exact (fun l : List UInt8 => (by cases l <;> rfl : l.isEmpty = !(l != ([] : List UInt8)))) _)), H', ⟨by have := HK1.out; omega⟩, ⟨by repeat (first | (with_reducible first | exact HB.out | apply below_alloc | apply pw_below_drewN | apply below_drew1) | exact HB.out)⟩⟩
        · rw [if_neg c4] at H
          exact absurd H (by simp)
      · rw [if_neg c3] at H
        have c3b0 : decide (x7_1 < a1) = false := decide_eq_false c3
        clear c3
        obtain rfl := Option.some.inj H
        go_wp2
        go_ret
        exact ⟨by first | rfl | (simp [errW_none, errW_some] <;> rfl) | (simp [*, errW_none, errW_some] <;> rfl), by repeat (first | (with_reducible first | exact HB.out | apply below_alloc | apply pw_below_drewN | apply below_drew1) | exact HB.out)⟩

/-! ### fascicleref09_Seal: function 22 -/
def fascicleref09_Seal.f (k : Nat) (a0 : ByteArray) : Option (ByteArray) := (fascicleref04_Sum.f k 0 a0).bind fun t194 => ((fascicleref01_Num.f k t194 8).bind fun t195 => (if a0.size + t195.size ≤ 9223372036854775807 then ((fascicleref05_Stuff.f k (a0 ++ t195)).bind fun t196 => (if t196.size + 1 ≤ 9223372036854775807 then (some (t196 ++ (⟨#[0]⟩ : ByteArray))) else (none))) else (none)))
theorem fascicleref09_Seal.mono : ∀ a0 k, LeO (fascicleref09_Seal.f k a0) (fascicleref09_Seal.f (k + 1) a0) := by
  intro a0 k
  unfold fascicleref09_Seal.f
  repeat' first
      | (with_reducible exact fascicleref01_Num.mono _ _ _)
      | (with_reducible exact fascicleref04_Sum.mono _ _ _)
      | (with_reducible exact fascicleref05_Stuff.mono _ _)
      | (with_reducible exact LeO.refl _)
      | (with_reducible exact LeO.none _)
      | (with_reducible refine LeO.ite ?_ ?_)
      | (with_reducible refine LeO.bind ?_ (fun _ => ?_))
      | exact fascicleref01_Num.mono _ _ _
      | exact fascicleref04_Sum.mono _ _ _
      | exact fascicleref05_Stuff.mono _ _
      | exact LeO.none _
      | refine LeO.ite ?_ ?_
      | refine LeO.bind ?_ (fun _ => ?_)
set_option maxHeartbeats 8000000 in
set_option maxRecDepth 100000 in
theorem fascicleref09_Seal.calls (k : Nat) (a0 : ByteArray) (r : ByteArray) (w : World) (h : fascicleref09_Seal.f k a0 = some r) :
    Calls Try.prog 22 #[.string a0] w fun e w' => e = .returned (.string r) ∧ Below w.heap.size w w' := by
  have HB := Aside0.mk (Below.refl w.heap.size w)
  have H : ((fascicleref04_Sum.f k 0 a0).bind fun t194 => ((fascicleref01_Num.f k t194 8).bind fun t195 => (if a0.size + t195.size ≤ 9223372036854775807 then ((fascicleref05_Stuff.f k (a0 ++ t195)).bind fun t196 => (if t196.size + 1 ≤ 9223372036854775807 then (some (t196 ++ (⟨#[0]⟩ : ByteArray))) else (none))) else (none)))) = some r := h
  clear h
  replace H := Option.bind_eq_some_iff.mp H
  obtain ⟨t194, A20, H⟩ := H
  replace H : ((fascicleref01_Num.f k t194 8).bind fun t195 => (if a0.size + t195.size ≤ 9223372036854775807 then ((fascicleref05_Stuff.f k (a0 ++ t195)).bind fun t196 => (if t196.size + 1 ≤ 9223372036854775807 then (some (t196 ++ (⟨#[0]⟩ : ByteArray))) else (none))) else (none))) = some r := H
  have A2 := Aside0.mk A20
  clear A20
  replace H := Option.bind_eq_some_iff.mp H
  obtain ⟨t195, A30, H⟩ := H
  replace H : (if a0.size + t195.size ≤ 9223372036854775807 then ((fascicleref05_Stuff.f k (a0 ++ t195)).bind fun t196 => (if t196.size + 1 ≤ 9223372036854775807 then (some (t196 ++ (⟨#[0]⟩ : ByteArray))) else (none))) else (none)) = some r := H
  have A3 := Aside0.mk A30
  clear A30
  by_cases c4 : a0.size + t195.size ≤ 9223372036854775807
  · rw [if_pos c4] at H
    have c4b0 := eq_true c4
    have c4b1 : decide (a0.size + t195.size ≤ 9223372036854775807) = true := decide_eq_true c4
    try have c4b2 : (9223372036854775807 < a0.size + t195.size) = False := eq_false (Nat.not_lt.2 c4)
    try (have c4b4 := Nat.not_lt.2 c4; simp [ByteArray.size_append, -Nat.not_lt] at c4b4; (try simp only [show ∀ x : UInt8, (⟨#[x]⟩ : ByteArray).size = 1 from fun _ => rfl, show ∀ x y : UInt8, (⟨#[x, y]⟩ : ByteArray).size = 2 from fun _ _ => rfl] at c4b4); have c4b5 := eq_false c4b4)
    replace H := Option.bind_eq_some_iff.mp H
    obtain ⟨t196, A50, H⟩ := H
    replace H : (if t196.size + 1 ≤ 9223372036854775807 then (some (t196 ++ (⟨#[0]⟩ : ByteArray))) else (none)) = some r := H
    have A5 := Aside0.mk A50
    clear A50
    by_cases c6 : t196.size + 1 ≤ 9223372036854775807
    · rw [if_pos c6] at H
      have c6b0 := eq_true c6
      have c6b1 : decide (t196.size + 1 ≤ 9223372036854775807) = true := decide_eq_true c6
      try have c6b2 : (9223372036854775807 < t196.size + 1) = False := eq_false (Nat.not_lt.2 c6)
      try (have c6b4 := Nat.not_lt.2 c6; simp [ByteArray.size_append, -Nat.not_lt] at c6b4; (try simp only [show ∀ x : UInt8, (⟨#[x]⟩ : ByteArray).size = 1 from fun _ => rfl, show ∀ x y : UInt8, (⟨#[x, y]⟩ : ByteArray).size = 2 from fun _ _ => rfl] at c6b4); have c6b5 := eq_false c6b4)
      obtain rfl := Option.some.inj H
      go_enter Try.func22, Try.ntmps22
      go_wp2_with (first | ((with_reducible refine gate_callee (f := 57) rfl ?_); refine goesL_ (some 5) rfl rfl Try.func57 (by kernel_rfl) rfl #[.int .u64 0, .string a0] rfl (by (try simp only [List.map_toArray, List.map_cons, List.map_nil]); first | done | rfl | (simp only [List.length_drop, List.length_take]; rfl) | (refine congrArg (fun z => #[Value.int .u64 z]) ?_; rw [IntKind.wrap_u64]; omega)) ?_; (with_reducible refine (fascicleref04_Sum.calls k 0 a0 t194 _ A2.out).mono ?_); rintro e w7 ⟨rfl, hb⟩; refine ⟨_, rfl, ?_⟩; have n0_ := Aside0.mk (below_step (by repeat (first | (with_reducible first | exact HB.out | apply below_alloc | apply pw_below_drewN | apply below_drew1) | exact HB.out)) hb); clear HB; have HB := n0_; clear n0_; (try clear hb); (try clear hb2); (try clear hk); (try clear hi)) | ((with_reducible refine gate_callee (f := 63) rfl ?_); refine goesL_ (some 6) rfl rfl Try.func63 (by kernel_rfl) rfl #[.int .u64 t194, .int .i64 8] rfl (by (try simp only [List.map_toArray, List.map_cons, List.map_nil]); first | done | rfl | (simp only [List.length_drop, List.length_take]; rfl) | (refine congrArg (fun z => #[Value.int .u64 z]) ?_; rw [IntKind.wrap_u64]; omega)) ?_; (with_reducible refine (fascicleref01_Num.calls k t194 8 t195 _ A3.out).mono ?_); rintro e w8 ⟨rfl, hb⟩; refine ⟨_, rfl, ?_⟩; have n0_ := Aside0.mk (below_step (by repeat (first | (with_reducible first | exact HB.out | apply below_alloc | apply pw_below_drewN | apply below_drew1) | exact HB.out)) hb); clear HB; have HB := n0_; clear n0_; (try clear hb); (try clear hb2); (try clear hk); (try clear hi)) | ((with_reducible refine gate_callee (f := 62) rfl ?_); refine goesL_ (some 8) rfl rfl Try.func62 (by kernel_rfl) rfl #[.string (a0 ++ t195)] rfl (by (try simp only [List.map_toArray, List.map_cons, List.map_nil]); first | done | rfl | (simp only [List.length_drop, List.length_take]; rfl) | (refine congrArg (fun z => #[Value.int .u64 z]) ?_; rw [IntKind.wrap_u64]; omega)) ?_; (with_reducible refine (fascicleref05_Stuff.calls k (a0 ++ t195) t196 _ A5.out).mono ?_); rintro e w9 ⟨rfl, hb⟩; refine ⟨_, rfl, ?_⟩; have n0_ := Aside0.mk (below_step (by repeat (first | (with_reducible first | exact HB.out | apply below_alloc | apply pw_below_drewN | apply below_drew1) | exact HB.out)) hb); clear HB; have HB := n0_; clear n0_; (try clear hb); (try clear hb2); (try clear hk); (try clear hi)))
      go_ret
      exact ⟨by first | rfl | (simp [errW_none, errW_some] <;> rfl) | (simp [*, errW_none, errW_some] <;> rfl), by repeat (first | (with_reducible first | exact HB.out | apply below_alloc | apply pw_below_drewN | apply below_drew1) | exact HB.out)⟩
    · rw [if_neg c6] at H
      exact absurd H (by simp)
  · rw [if_neg c4] at H
    exact absurd H (by simp)

/-! ### frame_Size: function 23 -/
def frame_Size.f (a0 : Int) : Option (Int) := (cobs_Most.f (wrap64 ((mx 0 a0) + 8))).bind fun t197 => (some (wrap64 (t197 + 1)))
set_option maxHeartbeats 8000000 in
set_option maxRecDepth 100000 in
theorem frame_Size.calls (a0 : Int) (r : Int) (w : World) (h : frame_Size.f a0 = some r) :
    Calls Try.prog 23 #[.int .i64 a0] w fun e w' => e = .returned (.int .i64 r) ∧ Below w.heap.size w w' := by
  have HB := Aside0.mk (Below.refl w.heap.size w)
  have H : ((cobs_Most.f (wrap64 ((mx 0 a0) + 8))).bind fun t197 => (some (wrap64 (t197 + 1)))) = some r := h
  clear h
  obtain ⟨ji2, hji2⟩ : ∃ j_ : Int, (mx 0 a0) = j_ := ⟨_, rfl⟩
  replace H : ((cobs_Most.f (wrap64 ((ji2) + 8))).bind fun t197 => (some (wrap64 (t197 + 1)))) = some r := by first | (rw [hji2] at H; exact H) | (simp only [hji2] at H ⊢; exact H)
  (try (have hji2l : 0 ≤ ji2 := by (rw [← hji2]; unfold mx; (repeat' split) <;> omega)))
  (try (have hji2m : 0 ≤ ji2 := by omega))
  have hji2_ : (if 0 < a0 then a0 else 0) = ji2 := hji2
  replace H := Option.bind_eq_some_iff.mp H
  obtain ⟨t197, A30, H⟩ := H
  replace H : (some (wrap64 (t197 + 1))) = some r := H
  have A3 := Aside0.mk A30
  clear A30
  obtain rfl := Option.some.inj H
  go_enter Try.func23, Try.ntmps23
  go_wp2_with (first | ((with_reducible refine gate_callee (f := 64) rfl ?_); refine goesL_ (some 6) rfl rfl Try.func64 (by kernel_rfl) rfl #[.int .i64 (wrap64 ((ji2) + 8))] rfl (by (try simp only [List.map_toArray, List.map_cons, List.map_nil]); first | done | (simp only [hji2]; rfl) | rfl | (simp only [List.length_drop, List.length_take]; rfl)) ?_; (with_reducible refine (cobs_Most.calls (wrap64 ((ji2) + 8)) t197 _ A3.out).mono ?_); rintro e w' ⟨rfl, ⟨nd, rfl⟩⟩; refine ⟨_, rfl, ?_⟩))
  go_ret
  exact ⟨by first | rfl | (simp [errW_none, errW_some] <;> rfl) | (simp only [← hji2]; first | rfl | (simp [errW_none, errW_some] <;> rfl)) | (simp [*, errW_none, errW_some] <;> rfl), by repeat (first | (with_reducible first | exact HB.out | apply below_alloc | apply pw_below_drewN | apply below_drew1) | exact HB.out)⟩

end Go.Proofs.Ytekanmieppnpeaa.G
