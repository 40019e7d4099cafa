-- Written by gprint.py (the kit's print.py with contracts of my own taken as given)
import Derived.Test.YtnmdckgaljldhaaGx0
import Derived.Test.YtnmdckgaljldhaaGx3
import Derived.Test.YtnmdckgaljldhaaGx4
import Derived.Test.YtnmdckgaljldhaaGx5
import Derived.Test.YtnmdckgaljldhaaHRefBegin
import Derived.Test.YtnmdckgaljldhaaHTFind
import Derived.Test.YtnmdckgaljldhaaHTHash
import Derived.Test.YtnmdckgaljldhaaHTSorted
namespace Go.Proofs.Ytnmdckgaljldhaa.G
open Go.RowKit Go.Proofs.YtnmdckgaljldhaaW.PrintWords Go.Proofs.YtnmdckgaljldhaaW.PrintLast Go.Proofs.YtnmdckgaljldhaaW.PrintMore
attribute [local go_sem] max2_int min2_int max_two min_two max_three min_three max_four min_four   -- for this text's walks alone
set_option linter.unusedVariables false
set_option linter.unusedSimpArgs false

/-! ### fascicleref04_mix: function 104 -/
def fascicleref04_mix.l0 : Nat → Int → Int → Int → Int → Option (Int)
  | 0, _, _, _, _ => none
  | k + 1, x0, x5, x7, x8 => if x8 < x7 then (fascicleref04_mix.l0 k x0 (IntKind.u64.wrap (Int.tdiv x5 2)) x7 (wrap64 (x8 + 1))) else (some (Go.bits .xor .u64 x0 x5))
def fascicleref04_mix.f (k : Nat) (a0 : Int) (a1 : Int) : Option (Int) := fascicleref04_mix.l0 k a0 a0 a1 0
theorem fascicleref04_mix.mono_l : ∀ k, (∀ y0 y1 y2 y3, LeO (fascicleref04_mix.l0 k y0 y1 y2 y3) (fascicleref04_mix.l0 (k + 1) y0 y1 y2 y3))
  | 0 => fun _ _ _ _ r h => by simp [fascicleref04_mix.l0] at h
  | k + 1 => by
    have ih0 := fascicleref04_mix.mono_l k
    · intro y0 y1 y2 y3
      unfold fascicleref04_mix.l0
      repeat' first
      | (with_reducible exact ih0 _ _ _ _)
      | (with_reducible exact LeO.refl _)
      | (with_reducible exact LeO.none _)
      | (with_reducible refine LeO.ite ?_ ?_)
      | (with_reducible refine LeO.bind ?_ (fun _ => ?_))
      | exact ih0 _ _ _ _
      | exact LeO.none _
      | refine LeO.ite ?_ ?_
      | refine LeO.bind ?_ (fun _ => ?_)
theorem fascicleref04_mix.mono : ∀ a0 a1 k, LeO (fascicleref04_mix.f k a0 a1) (fascicleref04_mix.f (k + 1) a0 a1) := by
  intro a0 a1 k
  have ih0 := fascicleref04_mix.mono_l k
  unfold fascicleref04_mix.f
  repeat' first
      | (with_reducible exact ih0 _ _ _ _)
      | (with_reducible exact LeO.refl _)
      | (with_reducible exact LeO.none _)
      | (with_reducible refine LeO.ite ?_ ?_)
      | (with_reducible refine LeO.bind ?_ (fun _ => ?_))
      | exact ih0 _ _ _ _
      | exact LeO.none _
      | refine LeO.ite ?_ ?_
      | refine LeO.bind ?_ (fun _ => ?_)
set_option maxHeartbeats 8000000 in
set_option maxRecDepth 100000 in
theorem fascicleref04_mix.calls (k : Nat) (a0 : Int) (a1 : Int) (r : Int) (w : World) (h : fascicleref04_mix.f k a0 a1 = some r) :
    Calls Try.prog 104 #[.int .u64 a0, .int .i64 a1] w fun e w' => e = .returned (.int .u64 r) ∧ Drawn0 w w' := by
  have H : (fascicleref04_mix.l0 k a0 a0 a1 0) = some r := h
  clear h
  have H' := Aside0.mk H
  clear H
  go_enter Try.func104, Try.ntmps104
  go_wp2
  go_loopg [5, 8] k (fun kq v5 v8 w' => ∃ (x5_1 : Int) (x8_1 : Int), v5 = .int .u64 x5_1 ∧ v8 = .int .i64 x8_1 ∧ Aside0 (fascicleref04_mix.l0 kq a0 x5_1 a1 x8_1 = some r) ∧ Aside0 (kq ≤ k) ∧ Drawn0 w w')
  case atStart => exact ⟨(a0), (0), (by first | rfl | (simp; done) | (simp [*]; done) | (simp; exact (fun l : List UInt8 => (by cases l <;> rfl : l.isEmpty = !(l != ([] : List UInt8)))) _)), (by first | rfl | (simp; done) | (simp [*]; done) | (simp; exact (fun l : List UInt8 => (by cases l <;> rfl : l.isEmpty = !(l != ([] : List UInt8)))) _)), H', ⟨Nat.le_refl _⟩, by repeat (first | exact Drawn0.refl _ | apply Drawn0.step)⟩
  case round =>
    clear H'
    try clear c1
    try clear p2
    obtain ⟨x5_1, x8_1, rfl, rfl, HA, HK1, ⟨m1, rfl⟩⟩ := hrel
    cases gk with
    | zero => exact absurd HA.out (by simp [fascicleref04_mix.l0])
    | succ k1 =>
      have H := HA.out
      clear HA
      simp only [fascicleref04_mix.l0] at H
      by_cases c3 : x8_1 < a1
      · rw [if_pos c3] at H
        have c3b0 : decide (x8_1 < a1) = true := decide_eq_true c3
        clear c3
        have H' := Aside0.mk H
        clear H
        go_wp2
        go_roundg k1
        case measure => have := HK1.out; omega
        case rel => exact ⟨(IntKind.u64.wrap (Int.tdiv x5_1 2)), (wrap64 (x8_1 + 1)), (by first | rfl | (simp; done) | (simp [*]; done) | (simp; exact (fun l : List UInt8 => (by cases l <;> rfl : l.isEmpty = !(l != ([] : List UInt8)))) _)), (by first | rfl | (simp; done) | (simp [*]; done) | (simp; exact (fun l : List UInt8 => (by cases l <;> rfl : l.isEmpty = !(l != ([] : List UInt8)))) _)), H', ⟨by have := HK1.out; omega⟩, by repeat (first | exact Drawn0.refl _ | apply Drawn0.step)⟩
      · rw [if_neg c3] at H
        have c3b0 : decide (x8_1 < a1) = false := decide_eq_false c3
        clear c3
        obtain rfl := Option.some.inj H
        go_wp2
        go_ret
        exact ⟨by first | rfl | (simp; done) | (simp [*]; done), by repeat (first | exact Drawn0.refl _ | apply Drawn0.step)⟩

/-! ### fascicleref04_Sum: function 61 -/
mutual
def fascicleref04_Sum.j0 : Nat → ByteArray → Int → Int → Option (Int)
  | 0, _, _, _ => none
  | k + 1, x1, x5, x6 => fascicleref04_Sum.l0 k x1 (IntKind.u64.wrap (x6 + x5))
def fascicleref04_Sum.l0 : Nat → ByteArray → Int → Option (Int)
  | 0, _, _ => none
  | k + 1, x1, x6 => if (x1.size : Int) ≥ 8 then (if 0 ≤ 8 then (if 8 ≤ (x1.size : Int) then ((fascicleref01_Value.f k (x1.extract 0 8)).bind fun t145 => ((fascicleref04_into.f k 0 t145).bind fun t146 => ((fascicleref04_turn.f k (Go.bits .xor .u64 x6 t146) 27).bind fun t147 => (fascicleref04_Sum.l0 k (x1.extract 8 x1.size) (IntKind.u64.wrap ((IntKind.u64.wrap (t147 * 11400714785074694791)) + 9650029242287828579)))))) else (none)) else (none)) else (fascicleref04_Sum.l1 k x1 x6)
def fascicleref04_Sum.l1 : Nat → ByteArray → Int → Option (Int)
  | 0, _, _ => none
  | k + 1, x1, x6 => if (x1.size : Int) ≥ 4 then (if 0 ≤ 4 then (if 4 ≤ (x1.size : Int) then ((fascicleref01_Value.f k (x1.extract 0 4)).bind fun t148 => ((fascicleref04_turn.f k (Go.bits .xor .u64 x6 (IntKind.u64.wrap (t148 * 11400714785074694791))) 23).bind fun t149 => (fascicleref04_Sum.l1 k (x1.extract 4 x1.size) (IntKind.u64.wrap ((IntKind.u64.wrap (t149 * 14029467366897019727)) + 1609587929392839161))))) else (none)) else (none)) else (fascicleref04_Sum.l2 k x1 x6 0)
def fascicleref04_Sum.l2 : Nat → ByteArray → Int → Int → Option (Int)
  | 0, _, _, _ => none
  | k + 1, x1, x6, x8 => if x8 < (x1.size : Int) then (if 0 ≤ x8 then ((fascicleref04_turn.f k (Go.bits .xor .u64 x6 (IntKind.u64.wrap ((IntKind.u64.wrap (bt x1 x8)) * 2870177450012600261))) 11).bind fun t150 => (fascicleref04_Sum.l2 k x1 (IntKind.u64.wrap (t150 * 11400714785074694791)) (wrap64 (x8 + 1)))) else (none)) else ((fascicleref04_mix.f k x6 33).bind fun t151 => ((fascicleref04_mix.f k (IntKind.u64.wrap (t151 * 14029467366897019727)) 29).bind fun t152 => ((fascicleref04_mix.f k (IntKind.u64.wrap (t152 * 1609587929392839161)) 32).bind fun t153 => (some t153))))
end
def fascicleref04_Sum.f (k : Nat) (a0 : Int) (a1 : ByteArray) : Option (Int) := if (a1.size : Int) ≥ 32 then ((fascicleref04_begin.f a0 a1).bind fun bt143 => (fascicleref04_Sum.j0 k bt143.2 (IntKind.u64.wrap ((a1.size : Int))) bt143.1)) else (fascicleref04_Sum.j0 k a1 (IntKind.u64.wrap ((a1.size : Int))) (IntKind.u64.wrap (a0 + 2870177450012600261)))
theorem fascicleref04_Sum.mono_l : ∀ k, (∀ y0 y1 y2, LeO (fascicleref04_Sum.j0 k y0 y1 y2) (fascicleref04_Sum.j0 (k + 1) y0 y1 y2)) ∧ (∀ y0 y1, LeO (fascicleref04_Sum.l0 k y0 y1) (fascicleref04_Sum.l0 (k + 1) y0 y1)) ∧ (∀ y0 y1, LeO (fascicleref04_Sum.l1 k y0 y1) (fascicleref04_Sum.l1 (k + 1) y0 y1)) ∧ (∀ y0 y1 y2, LeO (fascicleref04_Sum.l2 k y0 y1 y2) (fascicleref04_Sum.l2 (k + 1) y0 y1 y2))
  | 0 => ⟨fun _ _ _ r h => by simp [fascicleref04_Sum.j0] at h, fun _ _ r h => by simp [fascicleref04_Sum.l0] at h, fun _ _ r h => by simp [fascicleref04_Sum.l1] at h, fun _ _ _ r h => by simp [fascicleref04_Sum.l2] at h⟩
  | k + 1 => by
    obtain ⟨ih0, ih1, ih2, ih3⟩ := fascicleref04_Sum.mono_l k
    refine ⟨?_, ?_, ?_, ?_⟩
    · intro y0 y1 y2
      unfold fascicleref04_Sum.j0
      repeat' first
      | (with_reducible exact ih0 _ _ _)
      | (with_reducible exact ih1 _ _)
      | (with_reducible exact ih2 _ _)
      | (with_reducible exact ih3 _ _ _)
      | (with_reducible exact fascicleref01_Value.mono _ _)
      | (with_reducible exact fascicleref04_into.mono _ _ _)
      | (with_reducible exact fascicleref04_mix.mono _ _ _)
      | (with_reducible exact fascicleref04_turn.mono _ _ _)
      | (with_reducible exact LeO.refl _)
      | (with_reducible exact LeO.none _)
      | (with_reducible refine LeO.ite ?_ ?_)
      | (with_reducible refine LeO.bind ?_ (fun _ => ?_))
      | exact ih0 _ _ _
      | exact ih1 _ _
      | exact ih2 _ _
      | exact ih3 _ _ _
      | exact fascicleref01_Value.mono _ _
      | exact fascicleref04_into.mono _ _ _
      | exact fascicleref04_mix.mono _ _ _
      | exact fascicleref04_turn.mono _ _ _
      | exact LeO.none _
      | refine LeO.ite ?_ ?_
      | refine LeO.bind ?_ (fun _ => ?_)
    · intro y0 y1
      unfold fascicleref04_Sum.l0
      repeat' first
      | (with_reducible exact ih0 _ _ _)
      | (with_reducible exact ih1 _ _)
      | (with_reducible exact ih2 _ _)
      | (with_reducible exact ih3 _ _ _)
      | (with_reducible exact fascicleref01_Value.mono _ _)
      | (with_reducible exact fascicleref04_into.mono _ _ _)
      | (with_reducible exact fascicleref04_mix.mono _ _ _)
      | (with_reducible exact fascicleref04_turn.mono _ _ _)
      | (with_reducible exact LeO.refl _)
      | (with_reducible exact LeO.none _)
      | (with_reducible refine LeO.ite ?_ ?_)
      | (with_reducible refine LeO.bind ?_ (fun _ => ?_))
      | exact ih0 _ _ _
      | exact ih1 _ _
      | exact ih2 _ _
      | exact ih3 _ _ _
      | exact fascicleref01_Value.mono _ _
      | exact fascicleref04_into.mono _ _ _
      | exact fascicleref04_mix.mono _ _ _
      | exact fascicleref04_turn.mono _ _ _
      | exact LeO.none _
      | refine LeO.ite ?_ ?_
      | refine LeO.bind ?_ (fun _ => ?_)
    · intro y0 y1
      unfold fascicleref04_Sum.l1
      repeat' first
      | (with_reducible exact ih0 _ _ _)
      | (with_reducible exact ih1 _ _)
      | (with_reducible exact ih2 _ _)
      | (with_reducible exact ih3 _ _ _)
      | (with_reducible exact fascicleref01_Value.mono _ _)
      | (with_reducible exact fascicleref04_into.mono _ _ _)
      | (with_reducible exact fascicleref04_mix.mono _ _ _)
      | (with_reducible exact fascicleref04_turn.mono _ _ _)
      | (with_reducible exact LeO.refl _)
      | (with_reducible exact LeO.none _)
      | (with_reducible refine LeO.ite ?_ ?_)
      | (with_reducible refine LeO.bind ?_ (fun _ => ?_))
      | exact ih0 _ _ _
      | exact ih1 _ _
      | exact ih2 _ _
      | exact ih3 _ _ _
      | exact fascicleref01_Value.mono _ _
      | exact fascicleref04_into.mono _ _ _
      | exact fascicleref04_mix.mono _ _ _
      | exact fascicleref04_turn.mono _ _ _
      | exact LeO.none _
      | refine LeO.ite ?_ ?_
      | refine LeO.bind ?_ (fun _ => ?_)
    · intro y0 y1 y2
      unfold fascicleref04_Sum.l2
      repeat' first
      | (with_reducible exact ih0 _ _ _)
      | (with_reducible exact ih1 _ _)
      | (with_reducible exact ih2 _ _)
      | (with_reducible exact ih3 _ _ _)
      | (with_reducible exact fascicleref01_Value.mono _ _)
      | (with_reducible exact fascicleref04_into.mono _ _ _)
      | (with_reducible exact fascicleref04_mix.mono _ _ _)
      | (with_reducible exact fascicleref04_turn.mono _ _ _)
      | (with_reducible exact LeO.refl _)
      | (with_reducible exact LeO.none _)
      | (with_reducible refine LeO.ite ?_ ?_)
      | (with_reducible refine LeO.bind ?_ (fun _ => ?_))
      | exact ih0 _ _ _
      | exact ih1 _ _
      | exact ih2 _ _
      | exact ih3 _ _ _
      | exact fascicleref01_Value.mono _ _
      | exact fascicleref04_into.mono _ _ _
      | exact fascicleref04_mix.mono _ _ _
      | exact fascicleref04_turn.mono _ _ _
      | exact LeO.none _
      | refine LeO.ite ?_ ?_
      | refine LeO.bind ?_ (fun _ => ?_)
theorem fascicleref04_Sum.mono : ∀ a0 a1 k, LeO (fascicleref04_Sum.f k a0 a1) (fascicleref04_Sum.f (k + 1) a0 a1) := by
  intro a0 a1 k
  obtain ⟨ih0, ih1, ih2, ih3⟩ := fascicleref04_Sum.mono_l k
  unfold fascicleref04_Sum.f
  repeat' first
      | (with_reducible exact ih0 _ _ _)
      | (with_reducible exact ih1 _ _)
      | (with_reducible exact ih2 _ _)
      | (with_reducible exact ih3 _ _ _)
      | (with_reducible exact fascicleref01_Value.mono _ _)
      | (with_reducible exact fascicleref04_into.mono _ _ _)
      | (with_reducible exact fascicleref04_mix.mono _ _ _)
      | (with_reducible exact fascicleref04_turn.mono _ _ _)
      | (with_reducible exact LeO.refl _)
      | (with_reducible exact LeO.none _)
      | (with_reducible refine LeO.ite ?_ ?_)
      | (with_reducible refine LeO.bind ?_ (fun _ => ?_))
      | exact ih0 _ _ _
      | exact ih1 _ _
      | exact ih2 _ _
      | exact ih3 _ _ _
      | exact fascicleref01_Value.mono _ _
      | exact fascicleref04_into.mono _ _ _
      | exact fascicleref04_mix.mono _ _ _
      | exact fascicleref04_turn.mono _ _ _
      | exact LeO.none _
      | refine LeO.ite ?_ ?_
      | refine LeO.bind ?_ (fun _ => ?_)
set_option maxHeartbeats 8000000 in
set_option maxRecDepth 100000 in
theorem fascicleref04_Sum.calls (k : Nat) (a0 : Int) (a1 : ByteArray) (r : Int) (w : World) (h : fascicleref04_Sum.f k a0 a1 = some r) :
    Calls Try.prog 61 #[.int .u64 a0, .string a1] w fun e w' => e = .returned (.int .u64 r) ∧ Below w.heap.size w w' := by
  have HB := Aside0.mk (Below.refl w.heap.size w)
  have H : (if (a1.size : Int) ≥ 32 then ((fascicleref04_begin.f a0 a1).bind fun bt143 => (fascicleref04_Sum.j0 k bt143.2 (IntKind.u64.wrap ((a1.size : Int))) bt143.1)) else (fascicleref04_Sum.j0 k a1 (IntKind.u64.wrap ((a1.size : Int))) (IntKind.u64.wrap (a0 + 2870177450012600261)))) = some r := h
  clear h
  have HC3 := Aside0.mk H
  clear H
  go_enter Try.func61, Try.ntmps61
  go_upto_if 17 with (fail)
  go_cut [1, 6] (fun v1 v6 wc => ∃ (kq : Nat) (x1_2 : ByteArray) (x6_2 : Int), v1 = .string x1_2 ∧ v6 = .int .u64 x6_2 ∧ Aside0 (fascicleref04_Sum.j0 kq x1_2 (IntKind.u64.wrap ((a1.size : Int))) x6_2 = some r) ∧ Aside0 (kq ≤ k) ∧ Aside0 (Below w.heap.size w wc))
  case first =>
    have H := HC3.out
    clear HC3
    by_cases c4 : (a1.size : Int) ≥ 32
    · rw [if_pos c4] at H
      have c4b0 : decide (32 ≤ (a1.size : Int)) = true := decide_eq_true c4
      have c4b1 : decide (32 ≤ a1.size) = true := decide_eq_true (by omega)
      clear c4
      (first | rw [c4b0] | (simp only [i64_w, i32_w]; rw [c4b0]) | skip)
      replace H := Option.bind_eq_some_iff.mp H
      obtain ⟨⟨t143, t144⟩, A50, H⟩ := H
      replace H : (fascicleref04_Sum.j0 k t144 (IntKind.u64.wrap ((a1.size : Int))) t143) = some r := H
      have A5 := Aside0.mk A50
      clear A50
      have H' := Aside0.mk H
      clear H
      go_wp2_with (first | ((with_reducible refine gate_callee (f := 100) rfl ?_); refine goesL_ (some 21) rfl rfl Try.func100 (by kernel_rfl) rfl #[.int .u64 a0, .string a1] rfl (by (try simp only [List.map_toArray, List.map_cons, List.map_nil]); first | done | rfl | (simp only [List.length_drop, List.length_take]; rfl) | (refine congrArg (fun z => #[Value.int .u64 z]) ?_; rw [IntKind.wrap_u64]; omega)) ?_; (with_reducible refine (fascicleref04_begin.calls a0 a1 t143 t144 _ A5.out).mono ?_); rintro e w6 ⟨rfl, hb⟩; refine ⟨_, rfl, ?_⟩; have n0_ := Aside0.mk (below_step (by repeat (first | (with_reducible first | exact HB.out | apply below_alloc | apply pw_below_drewN | apply below_drew1) | exact HB.out)) hb); clear HB; have HB := n0_; clear n0_; (try clear hb); (try clear hb2); (try clear hk); (try clear hi)))
      go_meet
      case rel => exact ⟨_, (t144), (t143), (by first | rfl | (simp; done) | (simp [*]; done) | (simp; exact (fun l : List UInt8 => (by cases l <;> rfl : l.isEmpty = !(l != ([] : List UInt8)))) _)), (by first | rfl | (simp; done) | (simp [*]; done) | (simp; exact (fun l : List UInt8 => (by cases l <;> rfl : l.isEmpty = !(l != ([] : List UInt8)))) _)), H', ⟨by first | omega | exact Nat.le_refl _⟩, ⟨by repeat (first | (with_reducible first | exact HB.out | apply below_alloc | apply pw_below_drewN | apply below_drew1) | exact HB.out)⟩⟩
    · rw [if_neg c4] at H
      have c4b0 : decide (32 ≤ (a1.size : Int)) = false := decide_eq_false c4
      have c4b1 : decide (32 ≤ a1.size) = false := decide_eq_false (by omega)
      clear c4
      (first | rw [c4b0] | (simp only [i64_w, i32_w]; rw [c4b0]) | skip)
      have H' := Aside0.mk H
      clear H
      go_wp2
      go_meet
      case rel => exact ⟨_, (a1), (IntKind.u64.wrap (a0 + 2870177450012600261)), (by first | rfl | (simp; done) | (simp [*]; done) | (simp; exact (fun l : List UInt8 => (by cases l <;> rfl : l.isEmpty = !(l != ([] : List UInt8)))) _)), (by first | rfl | (simp; done) | (simp [*]; done) | (simp; exact (fun l : List UInt8 => (by cases l <;> rfl : l.isEmpty = !(l != ([] : List UInt8)))) _)), H', ⟨by first | omega | exact Nat.le_refl _⟩, ⟨by repeat (first | (with_reducible first | exact HB.out | apply below_alloc | apply pw_below_drewN | apply below_drew1) | exact HB.out)⟩⟩
  case rest =>
    clear HC3
    try clear c1
    try clear p2
    try clear c4
    try clear c4b0
    try clear c4b1
    try clear c6
    obtain ⟨kq, x1_2, x6_2, rfl, rfl, HA, HJ2, HB⟩ := hcut
    cases kq with
    | zero => exact absurd HA.out (by simp [fascicleref04_Sum.j0])
    | succ kj2 =>
      have H := HA.out
      clear HA
      simp only [fascicleref04_Sum.j0] at H
      have H' := Aside0.mk H
      clear H
      go_wp2
      go_loopg [1, 6] kj2 (fun kq v1 v6 w' => ∃ (x1_2 : ByteArray) (x6_2 : Int), v1 = .string x1_2 ∧ v6 = .int .u64 x6_2 ∧ Aside0 (fascicleref04_Sum.l0 kq x1_2 x6_2 = some r) ∧ Aside0 (kq ≤ kj2) ∧ Aside0 (Below w.heap.size w w'))
      case atStart => exact ⟨(x1_2), (IntKind.u64.wrap (x6_2 + (IntKind.u64.wrap ((a1.size : Int))))), (by first | rfl | (simp; done) | (simp [*]; done) | (simp; exact (fun l : List UInt8 => (by cases l <;> rfl : l.isEmpty = !(l != ([] : List UInt8)))) _)), (by first | rfl | (simp; done) | (simp [*]; done) | (simp; exact (fun l : List UInt8 => (by cases l <;> rfl : l.isEmpty = !(l != ([] : List UInt8)))) _)), H', ⟨Nat.le_refl _⟩, ⟨by repeat (first | (with_reducible first | exact HB.out | apply below_alloc | apply pw_below_drewN | apply below_drew1) | exact HB.out)⟩⟩
      case round =>
        clear H'
        try clear c1
        try clear p2
        try clear c4
        try clear c4b0
        try clear c4b1
        try clear c6
        try clear p2
        obtain ⟨x1_2, x6_2, rfl, rfl, HA, HK2, HB⟩ := hrel
        cases gk with
        | zero => exact absurd HA.out (by simp [fascicleref04_Sum.l0])
        | succ k2 =>
          have H := HA.out
          clear HA
          simp only [fascicleref04_Sum.l0] at H
          by_cases c7 : (x1_2.size : Int) ≥ 8
          · rw [if_pos c7] at H
            have c7b0 : decide (8 ≤ (x1_2.size : Int)) = true := decide_eq_true c7
            have c7b1 : decide (8 ≤ x1_2.size) = true := decide_eq_true (by omega)
            clear c7
            by_cases c8 : 0 ≤ 8
            · rw [if_pos c8] at H
              have c8b0 := eq_true c8
              have c8b1 : decide (0 ≤ 8) = true := decide_eq_true c8
              clear c8
              by_cases c9 : 8 ≤ (x1_2.size : Int)
              · rw [if_pos c9] at H
                have c9b0 := eq_true c9
                have c9b1 : decide (8 ≤ (x1_2.size : Int)) = true := decide_eq_true c9
                clear c9
                replace H := Option.bind_eq_some_iff.mp H
                obtain ⟨t145, A100, H⟩ := H
                replace H : ((fascicleref04_into.f k2 0 t145).bind fun t146 => ((fascicleref04_turn.f k2 (Go.bits .xor .u64 x6_2 t146) 27).bind fun t147 => (fascicleref04_Sum.l0 k2 (x1_2.extract 8 x1_2.size) (IntKind.u64.wrap ((IntKind.u64.wrap (t147 * 11400714785074694791)) + 9650029242287828579))))) = some r := H
                have A10 := Aside0.mk A100
                clear A100
                replace H := Option.bind_eq_some_iff.mp H
                obtain ⟨t146, A110, H⟩ := H
                replace H : ((fascicleref04_turn.f k2 (Go.bits .xor .u64 x6_2 t146) 27).bind fun t147 => (fascicleref04_Sum.l0 k2 (x1_2.extract 8 x1_2.size) (IntKind.u64.wrap ((IntKind.u64.wrap (t147 * 11400714785074694791)) + 9650029242287828579)))) = some r := H
                have A11 := Aside0.mk A110
                clear A110
                replace H := Option.bind_eq_some_iff.mp H
                obtain ⟨t147, A120, H⟩ := H
                replace H : (fascicleref04_Sum.l0 k2 (x1_2.extract 8 x1_2.size) (IntKind.u64.wrap ((IntKind.u64.wrap (t147 * 11400714785074694791)) + 9650029242287828579))) = some r := H
                have A12 := Aside0.mk A120
                clear A120
                have c13b0 := eq_true (of_decide_eq_true (by first | (with_reducible assumption) | assumption) : 8 ≤ (x1_2.size : Int))
                have H' := Aside0.mk H
                clear H
                go_wp2_with (first | ((with_reducible refine gate_callee (f := 102) rfl ?_); refine goesL_ (some 33) rfl rfl Try.func102 (by kernel_rfl) rfl #[.string (x1_2.extract 0 8)] rfl (by (try simp only [List.map_toArray, List.map_cons, List.map_nil]); first | done | rfl | (simp only [List.length_drop, List.length_take]; rfl) | (refine congrArg (fun z => #[Value.int .u64 z]) ?_; rw [IntKind.wrap_u64]; omega)) ?_; (with_reducible refine (fascicleref01_Value.calls k2 (x1_2.extract 0 8) t145 _ A10.out).mono ?_); rintro e w' ⟨rfl, ⟨nd, rfl⟩⟩; refine ⟨_, rfl, ?_⟩) | ((with_reducible refine gate_callee (f := 101) rfl ?_); refine goesL_ (some 34) rfl rfl Try.func101 (by kernel_rfl) rfl #[.int .u64 0, .int .u64 t145] rfl (by (try simp only [List.map_toArray, List.map_cons, List.map_nil]); first | done | rfl | (simp only [List.length_drop, List.length_take]; rfl) | (refine congrArg (fun z => #[Value.int .u64 z]) ?_; rw [IntKind.wrap_u64]; omega)) ?_; (with_reducible refine (fascicleref04_into.calls k2 0 t145 t146 _ A11.out).mono ?_); rintro e w' ⟨rfl, ⟨nd, rfl⟩⟩; refine ⟨_, rfl, ?_⟩) | ((with_reducible refine gate_callee (f := 103) rfl ?_); refine goesL_ (some 37) rfl rfl Try.func103 (by kernel_rfl) rfl #[.int .u64 (Go.bits .xor .u64 x6_2 t146), .int .i64 27] rfl (by (try simp only [List.map_toArray, List.map_cons, List.map_nil]); first | done | rfl | (simp only [List.length_drop, List.length_take]; rfl) | (refine congrArg (fun z => #[Value.int .u64 z]) ?_; rw [IntKind.wrap_u64]; omega)) ?_; (with_reducible refine (fascicleref04_turn.calls k2 (Go.bits .xor .u64 x6_2 t146) 27 t147 _ A12.out).mono ?_); rintro e w' ⟨rfl, ⟨nd, rfl⟩⟩; refine ⟨_, rfl, ?_⟩))
                go_roundg k2
                case measure => have := HJ2.out; have := HK2.out; omega
                case rel => exact ⟨(x1_2.extract 8 x1_2.size), (IntKind.u64.wrap ((IntKind.u64.wrap (t147 * 11400714785074694791)) + 9650029242287828579)), (by first | rfl | (simp; done) | (simp [*]; done) | (simp; exact (fun l : List UInt8 => (by cases l <;> rfl : l.isEmpty = !(l != ([] : List UInt8)))) _)), (by first | rfl | (simp; done) | (simp [*]; done) | (simp; exact (fun l : List UInt8 => (by cases l <;> rfl : l.isEmpty = !(l != ([] : List UInt8)))) _)), H', ⟨by have := HJ2.out; have := HK2.out; omega⟩, ⟨by repeat (first | (with_reducible first | exact HB.out | apply below_alloc | apply pw_below_drewN | apply below_drew1) | exact HB.out)⟩⟩
              · rw [if_neg c9] at H
                exact absurd H (by simp)
            · rw [if_neg c8] at H
              exact absurd H (by simp)
          · rw [if_neg c7] at H
            have c7b0 : decide (8 ≤ (x1_2.size : Int)) = false := decide_eq_false c7
            have c7b1 : decide (8 ≤ x1_2.size) = false := decide_eq_false (by omega)
            clear c7
            have H' := Aside0.mk H
            clear H
            go_wp2
            go_loopg [1, 6] k2 (fun kq v1 v6 w' => ∃ (x1_3 : ByteArray) (x6_3 : Int), v1 = .string x1_3 ∧ v6 = .int .u64 x6_3 ∧ Aside0 (fascicleref04_Sum.l1 kq x1_3 x6_3 = some r) ∧ Aside0 (kq ≤ k2) ∧ Aside0 (Below w.heap.size w w'))
            case atStart => exact ⟨(x1_2), (x6_2), (by first | rfl | (simp; done) | (simp [*]; done) | (simp; exact (fun l : List UInt8 => (by cases l <;> rfl : l.isEmpty = !(l != ([] : List UInt8)))) _)), (by first | rfl | (simp; done) | (simp [*]; done) | (simp; exact (fun l : List UInt8 => (by cases l <;> rfl : l.isEmpty = !(l != ([] : List UInt8)))) _)), H', ⟨Nat.le_refl _⟩, ⟨by repeat (first | (with_reducible first | exact HB.out | apply below_alloc | apply pw_below_drewN | apply below_drew1) | exact HB.out)⟩⟩
            case round =>
              clear H'
              try clear c1
              try clear p2
              try clear c4
              try clear c4b0
              try clear c4b1
              try clear c6
              try clear c7
              try clear c7b0
              try clear c7b1
              try clear c8
              try clear c8b0
              try clear c8b1
              try clear c9
              try clear c9b0
              try clear c9b1
              try clear c10
              try clear c13
              try clear c13b0
              try clear p2
              obtain ⟨x1_3, x6_3, rfl, rfl, HA, HK3, HB⟩ := hrel
              cases gk with
              | zero => exact absurd HA.out (by simp [fascicleref04_Sum.l1])
              | succ k3 =>
                have H := HA.out
                clear HA
                simp only [fascicleref04_Sum.l1] at H
                by_cases c14 : (x1_3.size : Int) ≥ 4
                · rw [if_pos c14] at H
                  have c14b0 : decide (4 ≤ (x1_3.size : Int)) = true := decide_eq_true c14
                  have c14b1 : decide (4 ≤ x1_3.size) = true := decide_eq_true (by omega)
                  clear c14
                  by_cases c15 : 0 ≤ 4
                  · rw [if_pos c15] at H
                    have c15b0 := eq_true c15
                    have c15b1 : decide (0 ≤ 4) = true := decide_eq_true c15
                    clear c15
                    by_cases c16 : 4 ≤ (x1_3.size : Int)
                    · rw [if_pos c16] at H
                      have c16b0 := eq_true c16
                      have c16b1 : decide (4 ≤ (x1_3.size : Int)) = true := decide_eq_true c16
                      clear c16
                      replace H := Option.bind_eq_some_iff.mp H
                      obtain ⟨t148, A170, H⟩ := H
                      replace H : ((fascicleref04_turn.f k3 (Go.bits .xor .u64 x6_3 (IntKind.u64.wrap (t148 * 11400714785074694791))) 23).bind fun t149 => (fascicleref04_Sum.l1 k3 (x1_3.extract 4 x1_3.size) (IntKind.u64.wrap ((IntKind.u64.wrap (t149 * 14029467366897019727)) + 1609587929392839161)))) = some r := H
                      have A17 := Aside0.mk A170
                      clear A170
                      replace H := Option.bind_eq_some_iff.mp H
                      obtain ⟨t149, A180, H⟩ := H
                      replace H : (fascicleref04_Sum.l1 k3 (x1_3.extract 4 x1_3.size) (IntKind.u64.wrap ((IntKind.u64.wrap (t149 * 14029467366897019727)) + 1609587929392839161))) = some r := H
                      have A18 := Aside0.mk A180
                      clear A180
                      have c19b0 := eq_true (of_decide_eq_true (by first | (with_reducible assumption) | assumption) : 4 ≤ (x1_3.size : Int))
                      have H' := Aside0.mk H
                      clear H
                      go_wp2_with (first | ((with_reducible refine gate_callee (f := 102) rfl ?_); refine goesL_ (some 47) rfl rfl Try.func102 (by kernel_rfl) rfl #[.string (x1_3.extract 0 4)] rfl (by (try simp only [List.map_toArray, List.map_cons, List.map_nil]); first | done | rfl | (simp only [List.length_drop, List.length_take]; rfl) | (refine congrArg (fun z => #[Value.int .u64 z]) ?_; rw [IntKind.wrap_u64]; omega)) ?_; (with_reducible refine (fascicleref01_Value.calls k3 (x1_3.extract 0 4) t148 _ A17.out).mono ?_); rintro e w' ⟨rfl, ⟨nd, rfl⟩⟩; refine ⟨_, rfl, ?_⟩) | ((with_reducible refine gate_callee (f := 103) rfl ?_); refine goesL_ (some 52) rfl rfl Try.func103 (by kernel_rfl) rfl #[.int .u64 (Go.bits .xor .u64 x6_3 (IntKind.u64.wrap (t148 * 11400714785074694791))), .int .i64 23] rfl (by (try simp only [List.map_toArray, List.map_cons, List.map_nil]); first | done | rfl | (simp only [List.length_drop, List.length_take]; rfl) | (refine congrArg (fun z => #[Value.int .u64 z]) ?_; rw [IntKind.wrap_u64]; omega)) ?_; (with_reducible refine (fascicleref04_turn.calls k3 (Go.bits .xor .u64 x6_3 (IntKind.u64.wrap (t148 * 11400714785074694791))) 23 t149 _ A18.out).mono ?_); rintro e w' ⟨rfl, ⟨nd, rfl⟩⟩; refine ⟨_, rfl, ?_⟩))
                      go_roundg k3
                      case measure => have := HJ2.out; have := HK2.out; have := HK3.out; omega
                      case rel => exact ⟨(x1_3.extract 4 x1_3.size), (IntKind.u64.wrap ((IntKind.u64.wrap (t149 * 14029467366897019727)) + 1609587929392839161)), (by first | rfl | (simp; done) | (simp [*]; done) | (simp; exact (fun l : List UInt8 => (by cases l <;> rfl : l.isEmpty = !(l != ([] : List UInt8)))) _)), (by first | rfl | (simp; done) | (simp [*]; done) | (simp; exact (fun l : List UInt8 => (by cases l <;> rfl : l.isEmpty = !(l != ([] : List UInt8)))) _)), H', ⟨by have := HJ2.out; have := HK2.out; have := HK3.out; omega⟩, ⟨by repeat (first | (with_reducible first | exact HB.out | apply below_alloc | apply pw_below_drewN | apply below_drew1) | exact HB.out)⟩⟩
                    · rw [if_neg c16] at H
                      exact absurd H (by simp)
                  · rw [if_neg c15] at H
                    exact absurd H (by simp)
                · rw [if_neg c14] at H
                  have c14b0 : decide (4 ≤ (x1_3.size : Int)) = false := decide_eq_false c14
                  have c14b1 : decide (4 ≤ x1_3.size) = false := decide_eq_false (by omega)
                  clear c14
                  have H' := Aside0.mk H
                  clear H
                  go_wp2
                  go_loopg [6, 8] k3 (fun kq v6 v8 w' => ∃ (x6_4 : Int) (x8_4 : Int), v6 = .int .u64 x6_4 ∧ v8 = .int .i64 x8_4 ∧ Aside0 (fascicleref04_Sum.l2 kq x1_3 x6_4 x8_4 = some r) ∧ Aside0 (kq ≤ k3) ∧ Aside0 (Below w.heap.size w w'))
                  case atStart => exact ⟨(x6_3), (0), (by first | rfl | (simp; done) | (simp [*]; done) | (simp; exact (fun l : List UInt8 => (by cases l <;> rfl : l.isEmpty = !(l != ([] : List UInt8)))) _)), (by first | rfl | (simp; done) | (simp [*]; done) | (simp; exact (fun l : List UInt8 => (by cases l <;> rfl : l.isEmpty = !(l != ([] : List UInt8)))) _)), H', ⟨Nat.le_refl _⟩, ⟨by repeat (first | (with_reducible first | exact HB.out | apply below_alloc | apply pw_below_drewN | apply below_drew1) | exact HB.out)⟩⟩
                  case round =>
                    clear H'
                    try clear c1
                    try clear p2
                    try clear c4
                    try clear c4b0
                    try clear c4b1
                    try clear c6
                    try clear c7
                    try clear c7b0
                    try clear c7b1
                    try clear c8
                    try clear c8b0
                    try clear c8b1
                    try clear c9
                    try clear c9b0
                    try clear c9b1
                    try clear c10
                    try clear c13
                    try clear c13b0
                    try clear c14
                    try clear c14b0
                    try clear c14b1
                    try clear c15
                    try clear c15b0
                    try clear c15b1
                    try clear c16
                    try clear c16b0
                    try clear c16b1
                    try clear c19
                    try clear c19b0
                    try clear p2
                    obtain ⟨x6_4, x8_4, rfl, rfl, HA, HK4, HB⟩ := hrel
                    cases gk with
                    | zero => exact absurd HA.out (by simp [fascicleref04_Sum.l2])
                    | succ k4 =>
                      have H := HA.out
                      clear HA
                      simp only [fascicleref04_Sum.l2] at H
                      by_cases c20 : x8_4 < (x1_3.size : Int)
                      · rw [if_pos c20] at H
                        have c20b0 : decide (x8_4 < (x1_3.size : Int)) = true := decide_eq_true c20
                        clear c20
                        by_cases c21 : 0 ≤ x8_4
                        · rw [if_pos c21] at H
                          have c21b0 : decide (0 ≤ x8_4) = true := decide_eq_true c21
                          clear c21
                          replace H := Option.bind_eq_some_iff.mp H
                          obtain ⟨t150, A230, H⟩ := H
                          replace H : (fascicleref04_Sum.l2 k4 x1_3 (IntKind.u64.wrap (t150 * 11400714785074694791)) (wrap64 (x8_4 + 1))) = some r := H
                          have A23 := Aside0.mk A230
                          clear A230
                          have H' := Aside0.mk H
                          clear H
                          have p22 : 0 ≤ (x8_4 : Int) := of_decide_eq_true (by first | (with_reducible assumption) | assumption)
                          have q22 : x8_4 < (x1_3.size : Int) := of_decide_eq_true (by first | (with_reducible assumption) | assumption)
                          have hx22 := bt_at x1_3 x8_4
                          replace p22 := eq_true p22
                          replace q22 := eq_true q22
                          go_wp2_with (first | ((with_reducible refine gate_callee (f := 103) rfl ?_); refine goesL_ (some 71) rfl rfl Try.func103 (by kernel_rfl) rfl #[.int .u64 (Go.bits .xor .u64 x6_4 (IntKind.u64.wrap ((IntKind.u64.wrap (bt x1_3 x8_4)) * 2870177450012600261))), .int .i64 11] rfl (by (try simp only [List.map_toArray, List.map_cons, List.map_nil]); first | done | rfl | (simp only [List.length_drop, List.length_take]; rfl) | (refine congrArg (fun z => #[Value.int .u64 z]) ?_; rw [IntKind.wrap_u64]; omega)) ?_; (with_reducible refine (fascicleref04_turn.calls k4 (Go.bits .xor .u64 x6_4 (IntKind.u64.wrap ((IntKind.u64.wrap (bt x1_3 x8_4)) * 2870177450012600261))) 11 t150 _ A23.out).mono ?_); rintro e w' ⟨rfl, ⟨nd, rfl⟩⟩; refine ⟨_, rfl, ?_⟩))
                          go_roundg k4
                          case measure => have := HJ2.out; have := HK2.out; have := HK3.out; have := HK4.out; omega
                          case rel => exact ⟨(IntKind.u64.wrap (t150 * 11400714785074694791)), (wrap64 (x8_4 + 1)), (by first | rfl | (simp; done) | (simp [*]; done) | (simp; exact (fun l : List UInt8 => (by cases l <;> rfl : l.isEmpty = !(l != ([] : List UInt8)))) _)), (by first | rfl | (simp; done) | (simp [*]; done) | (simp; exact (fun l : List UInt8 => (by cases l <;> rfl : l.isEmpty = !(l != ([] : List UInt8)))) _)), H', ⟨by have := HJ2.out; have := HK2.out; have := HK3.out; have := HK4.out; omega⟩, ⟨by repeat (first | (with_reducible first | exact HB.out | apply below_alloc | apply pw_below_drewN | apply below_drew1) | exact HB.out)⟩⟩
                        · rw [if_neg c21] at H
                          exact absurd H (by simp)
                      · rw [if_neg c20] at H
                        have c20b0 : decide (x8_4 < (x1_3.size : Int)) = false := decide_eq_false c20
                        clear c20
                        replace H := Option.bind_eq_some_iff.mp H
                        obtain ⟨t151, A240, H⟩ := H
                        replace H : ((fascicleref04_mix.f k4 (IntKind.u64.wrap (t151 * 14029467366897019727)) 29).bind fun t152 => ((fascicleref04_mix.f k4 (IntKind.u64.wrap (t152 * 1609587929392839161)) 32).bind fun t153 => (some t153))) = some r := H
                        have A24 := Aside0.mk A240
                        clear A240
                        replace H := Option.bind_eq_some_iff.mp H
                        obtain ⟨t152, A250, H⟩ := H
                        replace H : ((fascicleref04_mix.f k4 (IntKind.u64.wrap (t152 * 1609587929392839161)) 32).bind fun t153 => (some t153)) = some r := H
                        have A25 := Aside0.mk A250
                        clear A250
                        replace H := Option.bind_eq_some_iff.mp H
                        obtain ⟨t153, A260, H⟩ := H
                        replace H : (some t153) = some r := H
                        have A26 := Aside0.mk A260
                        clear A260
                        obtain rfl := Option.some.inj H
                        go_wp2_with (first | ((with_reducible refine gate_callee (f := 104) rfl ?_); refine goesL_ (some 74) rfl rfl Try.func104 (by kernel_rfl) rfl #[.int .u64 x6_4, .int .i64 33] rfl (by (try simp only [List.map_toArray, List.map_cons, List.map_nil]); first | done | rfl | (simp only [List.length_drop, List.length_take]; rfl) | (refine congrArg (fun z => #[Value.int .u64 z]) ?_; rw [IntKind.wrap_u64]; omega)) ?_; (with_reducible refine (fascicleref04_mix.calls k4 x6_4 33 t151 _ A24.out).mono ?_); rintro e w' ⟨rfl, ⟨nd, rfl⟩⟩; refine ⟨_, rfl, ?_⟩) | ((with_reducible refine gate_callee (f := 104) rfl ?_); refine goesL_ (some 77) rfl rfl Try.func104 (by kernel_rfl) rfl #[.int .u64 (IntKind.u64.wrap (t151 * 14029467366897019727)), .int .i64 29] rfl (by (try simp only [List.map_toArray, List.map_cons, List.map_nil]); first | done | rfl | (simp only [List.length_drop, List.length_take]; rfl) | (refine congrArg (fun z => #[Value.int .u64 z]) ?_; rw [IntKind.wrap_u64]; omega)) ?_; (with_reducible refine (fascicleref04_mix.calls k4 (IntKind.u64.wrap (t151 * 14029467366897019727)) 29 t152 _ A25.out).mono ?_); rintro e w' ⟨rfl, ⟨nd, rfl⟩⟩; refine ⟨_, rfl, ?_⟩) | ((with_reducible refine gate_callee (f := 104) rfl ?_); refine goesL_ (some 80) rfl rfl Try.func104 (by kernel_rfl) rfl #[.int .u64 (IntKind.u64.wrap (t152 * 1609587929392839161)), .int .i64 32] rfl (by (try simp only [List.map_toArray, List.map_cons, List.map_nil]); first | done | rfl | (simp only [List.length_drop, List.length_take]; rfl) | (refine congrArg (fun z => #[Value.int .u64 z]) ?_; rw [IntKind.wrap_u64]; omega)) ?_; (with_reducible refine (fascicleref04_mix.calls k4 (IntKind.u64.wrap (t152 * 1609587929392839161)) 32 t153 _ A26.out).mono ?_); rintro e w' ⟨rfl, ⟨nd, rfl⟩⟩; refine ⟨_, rfl, ?_⟩))
                        go_ret
                        exact ⟨by first | rfl | (simp [errW_none, errW_some] <;> rfl) | (simp [*, errW_none, errW_some] <;> rfl), by repeat (first | (with_reducible first | exact HB.out | apply below_alloc | apply pw_below_drewN | apply below_drew1) | exact HB.out)⟩

/-! ### fasciclelaw11_TableFinds: function 14 -/
mutual
def fasciclelaw11_TableFinds.j0 : Nat → List (S81) → Int → ByteArray → Bool → Option (Bool)
  | 0, _, _, _, _ => none
  | k + 1, x0, x1, x2, x25 => if x25 = true then ((fasciclelaw11_lives.f).bind fun t155 => (some t155)) else ((table_Sorted.f x0).bind fun t156 => ((some (([x1, 0, 18446744073709551615] : List Int) : List Int)).bind fun y159 => ((fasciclelaw11_hashes.f k x0).bind fun t162 => (if y159.length + t162.length < 17592186044416 then ((some (y159 ++ t162 : List Int)).bind fun y165 => (fasciclelaw11_TableFinds.l0 k x2 t156 y165 (y165.length : Int) 0)) else (none)))))
def fasciclelaw11_TableFinds.l0 : Nat → ByteArray → List (S81) → List Int → Int → Int → Option (Bool)
  | 0, _, _, _, _, _ => none
  | k + 1, x2, x7, x33, x34, x35 => if x35 < x34 then (if 0 ≤ x35 then (if x35 < (x33.length : Int) then ((table_Find.f x7 (rd x33 x35)).bind fun bt171 => ((fasciclelaw11_Refs.f k x7).bind fun t173 => ((fascicleref11_Find.f k t173 (rd x33 x35)).bind fun bt176 => (if bt171.1 = bt176.1 then (if bt171.2 = bt176.2 then (fasciclelaw11_TableFinds.l0 k x2 x7 x33 x34 (wrap64 (x35 + 1))) else (some false)) else (some false))))) else (none)) else (none)) else ((table_Hash.f x2).bind fun t168 => ((fascicleref04_Sum.f k 0 x2).bind fun t169 => (some (t168 == t169))))
end
def fasciclelaw11_TableFinds.f (k : Nat) (l0 : List (S81)) (a1 : Int) (a2 : ByteArray) : Option (Bool) := (fasciclelaw11_lives.f).bind fun t154 => (if t154 = true then (if (l0.length : Int) > 60 then (fasciclelaw11_TableFinds.j0 k l0 a1 a2 true) else (fasciclelaw11_TableFinds.j0 k l0 a1 a2 (decide ((a2.size : Int) > 300)))) else (fasciclelaw11_TableFinds.j0 k l0 a1 a2 true))
theorem fasciclelaw11_TableFinds.mono_l : ∀ k, (∀ y0 y1 y2 y3, LeO (fasciclelaw11_TableFinds.j0 k y0 y1 y2 y3) (fasciclelaw11_TableFinds.j0 (k + 1) y0 y1 y2 y3)) ∧ (∀ y0 y1 y2 y3 y4, LeO (fasciclelaw11_TableFinds.l0 k y0 y1 y2 y3 y4) (fasciclelaw11_TableFinds.l0 (k + 1) y0 y1 y2 y3 y4))
  | 0 => ⟨fun _ _ _ _ r h => by simp [fasciclelaw11_TableFinds.j0] at h, fun _ _ _ _ _ r h => by simp [fasciclelaw11_TableFinds.l0] at h⟩
  | k + 1 => by
    obtain ⟨ih0, ih1⟩ := fasciclelaw11_TableFinds.mono_l k
    refine ⟨?_, ?_⟩
    · intro y0 y1 y2 y3
      unfold fasciclelaw11_TableFinds.j0
      repeat' first
      | (with_reducible exact ih0 _ _ _ _)
      | (with_reducible exact ih1 _ _ _ _ _)
      | (with_reducible exact fasciclelaw11_Refs.mono _ _)
      | (with_reducible exact fasciclelaw11_hashes.mono _ _)
      | (with_reducible exact fascicleref04_Sum.mono _ _ _)
      | (with_reducible exact fascicleref11_Find.mono _ _ _)
      | (with_reducible exact LeO.refl _)
      | (with_reducible exact LeO.none _)
      | (with_reducible refine LeO.ite ?_ ?_)
      | (with_reducible refine LeO.bind ?_ (fun _ => ?_))
      | exact ih0 _ _ _ _
      | exact ih1 _ _ _ _ _
      | exact fasciclelaw11_Refs.mono _ _
      | exact fasciclelaw11_hashes.mono _ _
      | exact fascicleref04_Sum.mono _ _ _
      | exact fascicleref11_Find.mono _ _ _
      | exact LeO.none _
      | refine LeO.ite ?_ ?_
      | refine LeO.bind ?_ (fun _ => ?_)
    · intro y0 y1 y2 y3 y4
      unfold fasciclelaw11_TableFinds.l0
      repeat' first
      | (with_reducible exact ih0 _ _ _ _)
      | (with_reducible exact ih1 _ _ _ _ _)
      | (with_reducible exact fasciclelaw11_Refs.mono _ _)
      | (with_reducible exact fasciclelaw11_hashes.mono _ _)
      | (with_reducible exact fascicleref04_Sum.mono _ _ _)
      | (with_reducible exact fascicleref11_Find.mono _ _ _)
      | (with_reducible exact LeO.refl _)
      | (with_reducible exact LeO.none _)
      | (with_reducible refine LeO.ite ?_ ?_)
      | (with_reducible refine LeO.bind ?_ (fun _ => ?_))
      | exact ih0 _ _ _ _
      | exact ih1 _ _ _ _ _
      | exact fasciclelaw11_Refs.mono _ _
      | exact fasciclelaw11_hashes.mono _ _
      | exact fascicleref04_Sum.mono _ _ _
      | exact fascicleref11_Find.mono _ _ _
      | exact LeO.none _
      | refine LeO.ite ?_ ?_
      | refine LeO.bind ?_ (fun _ => ?_)
theorem fasciclelaw11_TableFinds.mono : ∀ a0 a1 a2 k, LeO (fasciclelaw11_TableFinds.f k a0 a1 a2) (fasciclelaw11_TableFinds.f (k + 1) a0 a1 a2) := by
  intro a0 a1 a2 k
  obtain ⟨ih0, ih1⟩ := fasciclelaw11_TableFinds.mono_l k
  unfold fasciclelaw11_TableFinds.f
  repeat' first
      | (with_reducible exact ih0 _ _ _ _)
      | (with_reducible exact ih1 _ _ _ _ _)
      | (with_reducible exact fasciclelaw11_Refs.mono _ _)
      | (with_reducible exact fasciclelaw11_hashes.mono _ _)
      | (with_reducible exact fascicleref04_Sum.mono _ _ _)
      | (with_reducible exact fascicleref11_Find.mono _ _ _)
      | (with_reducible exact LeO.refl _)
      | (with_reducible exact LeO.none _)
      | (with_reducible refine LeO.ite ?_ ?_)
      | (with_reducible refine LeO.bind ?_ (fun _ => ?_))
      | exact ih0 _ _ _ _
      | exact ih1 _ _ _ _ _
      | exact fasciclelaw11_Refs.mono _ _
      | exact fasciclelaw11_hashes.mono _ _
      | exact fascicleref04_Sum.mono _ _ _
      | exact fascicleref11_Find.mono _ _ _
      | exact LeO.none _
      | refine LeO.ite ?_ ?_
      | refine LeO.bind ?_ (fun _ => ?_)
set_option maxHeartbeats 8000000 in
set_option maxRecDepth 100000 in
theorem fasciclelaw11_TableFinds.calls (k : Nat) (A0 : Option Addr) (c0 : Nat) (l0 : List (S81)) (a1 : Int) (a2 : ByteArray) (r : Bool) (w : World) (hr0 : Kd.C k81 w A0 l0.length l0) (hc0 : l0.length ≤ c0) (h : fasciclelaw11_TableFinds.f k l0 a1 a2 = some r) :
    Calls Try.prog 14 #[.slice A0 l0.length c0, .int .u64 a1, .string a2] w fun e w' => e = .returned (.bool r) ∧ Below w.heap.size w w' := by
  have HR0 := Aside0.mk hr0
  have HC0 := Aside0.mk hc0
  clear hr0 hc0
  have HB := Aside0.mk (Below.refl w.heap.size w)
  have H : ((fasciclelaw11_lives.f).bind fun t154 => (if t154 = true then (if (l0.length : Int) > 60 then (fasciclelaw11_TableFinds.j0 k l0 a1 a2 true) else (fasciclelaw11_TableFinds.j0 k l0 a1 a2 (decide ((a2.size : Int) > 300)))) else (fasciclelaw11_TableFinds.j0 k l0 a1 a2 true))) = some r := h
  clear h
  have HC4 := Aside0.mk H
  clear H
  go_enter Try.func14, Try.ntmps14
  go_upto_region 1 with (fail)
  go_cut [25] (fun v25 wc => ∃ (kq : Nat) (x25_3 : Bool), v25 = .bool x25_3 ∧ Aside0 (fasciclelaw11_TableFinds.j0 kq l0 a1 a2 x25_3 = some r) ∧ Aside0 (kq ≤ k) ∧ Aside0 (Below w.heap.size w wc))
  case first =>
    have H := HC4.out
    clear HC4
    replace H := Option.bind_eq_some_iff.mp H
    obtain ⟨t154, A50, H⟩ := H
    replace H : (if t154 = true then (if (l0.length : Int) > 60 then (fasciclelaw11_TableFinds.j0 k l0 a1 a2 true) else (fasciclelaw11_TableFinds.j0 k l0 a1 a2 (decide ((a2.size : Int) > 300)))) else (fasciclelaw11_TableFinds.j0 k l0 a1 a2 true)) = some r := H
    have A5 := Aside0.mk A50
    clear A50
    by_cases c6 : t154 = true
    · subst c6
      have H1 : (if (l0.length : Int) > 60 then (fasciclelaw11_TableFinds.j0 k l0 a1 a2 true) else (fasciclelaw11_TableFinds.j0 k l0 a1 a2 (decide ((a2.size : Int) > 300)))) = some r := by rw [if_pos rfl] at H; exact H
      clear H
      have H := H1
      clear H1
      by_cases c7 : (l0.length : Int) > 60
      · rw [if_pos c7] at H
        have c7b0 : decide (60 < (l0.length : Int)) = true := decide_eq_true c7
        have c7b1 : decide (60 < l0.length) = true := decide_eq_true (by omega)
        clear c7
        (first | rw [c7b0] | (simp only [i64_w, i32_w]; rw [c7b0]) | skip)
        have H' := Aside0.mk H
        clear H
        go_wp2_with (first | ((with_reducible refine gate_callee (f := 45) rfl ?_); refine goesL_ (some 14) rfl rfl Try.func45 (by kernel_rfl) rfl #[] rfl (by (try simp only [List.map_toArray, List.map_cons, List.map_nil]); first | done | rfl | (simp only [List.length_drop, List.length_take]; rfl) | (refine congrArg (fun z => #[Value.int .u64 z]) ?_; rw [IntKind.wrap_u64]; omega)) ?_; (with_reducible refine (fasciclelaw11_lives.calls  true _ A5.out).mono ?_); rintro e w8 ⟨rfl, hb⟩; refine ⟨_, rfl, ?_⟩; have n0_ := Aside0.mk (below_step (by repeat (first | (with_reducible first | exact HB.out | apply below_alloc | apply pw_below_drewN | apply below_drew1) | exact HB.out)) hb); clear HB; have HB := n0_; clear n0_; (try clear hb); (try clear hb2); (try clear hk); (try clear hi)))
        go_meet
        case rel => exact ⟨_, (true), (by first | rfl | (simp; done) | (simp [*]; done) | (simp; exact (fun l : List UInt8 => (by cases l <;> rfl : l.isEmpty = !(l != ([] : List UInt8)))) _)), H', ⟨by first | omega | exact Nat.le_refl _⟩, ⟨by repeat (first | (with_reducible first | exact HB.out | apply below_alloc | apply pw_below_drewN | apply below_drew1) | exact HB.out)⟩⟩
      · rw [if_neg c7] at H
        have c7b0 : decide (60 < (l0.length : Int)) = false := decide_eq_false c7
        have c7b1 : decide (60 < l0.length) = false := decide_eq_false (by omega)
        clear c7
        (first | rw [c7b0] | (simp only [i64_w, i32_w]; rw [c7b0]) | skip)
        have H' := Aside0.mk H
        clear H
        go_wp2_with (first | ((with_reducible refine gate_callee (f := 45) rfl ?_); refine goesL_ (some 14) rfl rfl Try.func45 (by kernel_rfl) rfl #[] rfl (by (try simp only [List.map_toArray, List.map_cons, List.map_nil]); first | done | rfl | (simp only [List.length_drop, List.length_take]; rfl) | (refine congrArg (fun z => #[Value.int .u64 z]) ?_; rw [IntKind.wrap_u64]; omega)) ?_; (with_reducible refine (fasciclelaw11_lives.calls  true _ A5.out).mono ?_); rintro e w9 ⟨rfl, hb⟩; refine ⟨_, rfl, ?_⟩; have n0_ := Aside0.mk (below_step (by repeat (first | (with_reducible first | exact HB.out | apply below_alloc | apply pw_below_drewN | apply below_drew1) | exact HB.out)) hb); clear HB; have HB := n0_; clear n0_; (try clear hb); (try clear hb2); (try clear hk); (try clear hi)))
        go_meet
        case rel => exact ⟨_, (decide ((a2.size : Int) > 300)), (by first | rfl | (simp; done) | (simp [*]; done) | (simp; exact (fun l : List UInt8 => (by cases l <;> rfl : l.isEmpty = !(l != ([] : List UInt8)))) _)), H', ⟨by first | omega | exact Nat.le_refl _⟩, ⟨by repeat (first | (with_reducible first | exact HB.out | apply below_alloc | apply pw_below_drewN | apply below_drew1) | exact HB.out)⟩⟩
    · replace c6 := Bool.eq_false_iff.mpr c6
      subst c6
      have H1 : (fasciclelaw11_TableFinds.j0 k l0 a1 a2 true) = some r := by rw [if_neg (show ¬ (false = true) by decide)] at H; exact H
      clear H
      have H := H1
      clear H1
      have H' := Aside0.mk H
      clear H
      go_wp2_with (first | ((with_reducible refine gate_callee (f := 45) rfl ?_); refine goesL_ (some 14) rfl rfl Try.func45 (by kernel_rfl) rfl #[] rfl (by (try simp only [List.map_toArray, List.map_cons, List.map_nil]); first | done | rfl | (simp only [List.length_drop, List.length_take]; rfl) | (refine congrArg (fun z => #[Value.int .u64 z]) ?_; rw [IntKind.wrap_u64]; omega)) ?_; (with_reducible refine (fasciclelaw11_lives.calls  false _ A5.out).mono ?_); rintro e w10 ⟨rfl, hb⟩; refine ⟨_, rfl, ?_⟩; have n0_ := Aside0.mk (below_step (by repeat (first | (with_reducible first | exact HB.out | apply below_alloc | apply pw_below_drewN | apply below_drew1) | exact HB.out)) hb); clear HB; have HB := n0_; clear n0_; (try clear hb); (try clear hb2); (try clear hk); (try clear hi)))
      go_meet
      case rel => exact ⟨_, (true), (by first | rfl | (simp; done) | (simp [*]; done) | (simp; exact (fun l : List UInt8 => (by cases l <;> rfl : l.isEmpty = !(l != ([] : List UInt8)))) _)), H', ⟨by first | omega | exact Nat.le_refl _⟩, ⟨by repeat (first | (with_reducible first | exact HB.out | apply below_alloc | apply pw_below_drewN | apply below_drew1) | exact HB.out)⟩⟩
  case rest =>
    clear HC4
    try clear c1
    try clear p2
    try clear c4
    try clear c6
    try clear c7
    try clear c7b0
    try clear c7b1
    obtain ⟨kq, x25_3, rfl, HA, HJ3, HB⟩ := hcut
    cases kq with
    | zero => exact absurd HA.out (by simp [fasciclelaw11_TableFinds.j0])
    | succ kj3 =>
      have H := HA.out
      clear HA
      simp only [fasciclelaw11_TableFinds.j0] at H
      by_cases c11 : x25_3 = true
      · subst c11
        have H1 : ((fasciclelaw11_lives.f).bind fun t155 => (some t155)) = some r := by rw [if_pos rfl] at H; exact H
        clear H
        have H := H1
        clear H1
        replace H := Option.bind_eq_some_iff.mp H
        obtain ⟨t155, A120, H⟩ := H
        replace H : (some t155) = some r := H
        have A12 := Aside0.mk A120
        clear A120
        obtain rfl := Option.some.inj H
        go_wp2_with (first | ((with_reducible refine gate_callee (f := 45) rfl ?_); refine goesL_ (some 26) rfl rfl Try.func45 (by kernel_rfl) rfl #[] rfl (by (try simp only [List.map_toArray, List.map_cons, List.map_nil]); first | done | rfl | (simp only [List.length_drop, List.length_take]; rfl) | (refine congrArg (fun z => #[Value.int .u64 z]) ?_; rw [IntKind.wrap_u64]; omega)) ?_; (with_reducible refine (fasciclelaw11_lives.calls  t155 _ A12.out).mono ?_); rintro e w13 ⟨rfl, hb⟩; refine ⟨_, rfl, ?_⟩; have n0_ := Aside0.mk (below_step (by repeat (first | (with_reducible first | exact HB.out | apply below_alloc | apply pw_below_drewN | apply below_drew1) | exact HB.out)) hb); clear HB; have HB := n0_; clear n0_; (try clear hb); (try clear hb2); (try clear hk); (try clear hi)))
        go_ret
        exact ⟨by first | rfl | (simp [errW_none, errW_some] <;> rfl) | (simp [*, errW_none, errW_some] <;> rfl), by repeat (first | (with_reducible first | exact HB.out | apply below_alloc | apply pw_below_drewN | apply below_drew1) | exact HB.out)⟩
      · replace c11 := Bool.eq_false_iff.mpr c11
        subst c11
        have H1 : ((table_Sorted.f l0).bind fun t156 => ((some (([a1, 0, 18446744073709551615] : List Int) : List Int)).bind fun y159 => ((fasciclelaw11_hashes.f kj3 l0).bind fun t162 => (if y159.length + t162.length < 17592186044416 then ((some (y159 ++ t162 : List Int)).bind fun y165 => (fasciclelaw11_TableFinds.l0 kj3 a2 t156 y165 (y165.length : Int) 0)) else (none))))) = some r := by rw [if_neg (show ¬ (false = true) by decide)] at H; exact H
        clear H
        have H := H1
        clear H1
        replace H := Option.bind_eq_some_iff.mp H
        obtain ⟨t156, A140, H⟩ := H
        replace H : ((some (([a1, 0, 18446744073709551615] : List Int) : List Int)).bind fun y159 => ((fasciclelaw11_hashes.f kj3 l0).bind fun t162 => (if y159.length + t162.length < 17592186044416 then ((some (y159 ++ t162 : List Int)).bind fun y165 => (fasciclelaw11_TableFinds.l0 kj3 a2 t156 y165 (y165.length : Int) 0)) else (none)))) = some r := H
        have A14 := Aside0.mk A140
        clear A140
        obtain ⟨y159, hy159⟩ : ∃ y_ : List Int, y_ = (([a1, 0, 18446744073709551615] : List Int)) := ⟨_, rfl⟩
        replace H : ((fasciclelaw11_hashes.f kj3 l0).bind fun t162 => (if y159.length + t162.length < 17592186044416 then ((some (y159 ++ t162 : List Int)).bind fun y165 => (fasciclelaw11_TableFinds.l0 kj3 a2 t156 y165 (y165.length : Int) 0)) else (none))) = some r := by first | (rw [hy159]; with_reducible exact H) | (have H2_ := (Option.bind_some _ _).symm.trans H; rw [hy159]; with_reducible exact H2_) | (have H2_ := (Option.bind_some _ _).symm.trans H; with_reducible exact H2_) | with_reducible exact H | (rw [hy159]; exact H) | exact H
        have Ny159 := Aside0.mk hy159
        clear hy159
        replace H := Option.bind_eq_some_iff.mp H
        obtain ⟨t162, A150, H⟩ := H
        replace H : (if y159.length + t162.length < 17592186044416 then ((some (y159 ++ t162 : List Int)).bind fun y165 => (fasciclelaw11_TableFinds.l0 kj3 a2 t156 y165 (y165.length : Int) 0)) else (none)) = some r := H
        have A15 := Aside0.mk A150
        clear A150
        by_cases c16 : y159.length + t162.length < 17592186044416
        · rw [if_pos c16] at H
          have LMc16 := Aside0.mk c16
          clear c16
          obtain ⟨y165, hy165⟩ : ∃ y_ : List Int, y_ = (y159 ++ t162) := ⟨_, rfl⟩
          replace H : (fasciclelaw11_TableFinds.l0 kj3 a2 t156 y165 (y165.length : Int) 0) = some r := by first | (rw [hy165]; with_reducible exact H) | (have H2_ := (Option.bind_some _ _).symm.trans H; rw [hy165]; with_reducible exact H2_) | (have H2_ := (Option.bind_some _ _).symm.trans H; with_reducible exact H2_) | with_reducible exact H | (rw [hy165]; exact H) | exact H
          have Ny165 := Aside0.mk hy165
          clear hy165
          have H' := Aside0.mk H
          clear H
          go_wp2_with (first | ((with_reducible refine gate_callee (f := 46) rfl ?_); refine goesL_ (some 28) rfl rfl Try.func46 (by kernel_rfl) rfl #[.slice A0 l0.length c0] rfl (by (try simp only [List.map_toArray, List.map_cons, List.map_nil]); first | done | rfl | (simp only [List.length_drop, List.length_take]; rfl) | (refine congrArg (fun z => #[Value.int .u64 z]) ?_; rw [IntKind.wrap_u64]; omega)) ?_; (with_reducible refine (table_Sorted.calls _ _ l0 t156 _ ?side1 ?side2 A14.out).mono ?_); (case side1 => repeat (first | exact (Kd.C_below HR0.out HB.out) | (with_reducible refine Kd.C_alloc ?_ _) | (with_reducible refine Kd.C_drewN ?_ _) | (with_reducible refine Kd.C_drew ?_))); (case side2 => exact HC0.out); rintro e w17 ⟨v157, rfl, ho0, hb⟩; refine ⟨_, rfl, ?_⟩; have n0_ := Aside0.mk (Kd.R_lower ho0 (below_size (by repeat (first | (with_reducible first | exact HB.out | apply below_alloc | apply pw_below_drewN | apply below_drew1) | exact HB.out)))); have n1_ := Aside0.mk (below_step (by repeat (first | (with_reducible first | exact HB.out | apply below_alloc | apply pw_below_drewN | apply below_drew1) | exact HB.out)) hb); clear HB; have HO158 := n0_; have HB := n1_; clear n0_ n1_; (try clear hb); (try clear hb2); (try clear hk); (try clear hi); (try clear ho0)) | ((with_reducible refine gate_dst (N := 30) rfl ?_); (try (refine gate_guard (by rfl) ?_; dsimp only)); refine Kd.R_lit (Kd.int .u64) _ 39 ?hg (N := 30) ?hd (xs := ([a1, 0, 18446744073709551615] : List Int)) (inner := [.int .u64 a1, .int .u64 0, .int .u64 18446744073709551615]) (ok := fun _ => True) (okp := fun _ => True) ?hr ?hp (fun _ hk => hk) trivial (Below.refl _ _) (Nat.le_refl _) (by simp) ?_; (case hd => rfl); (case hg => rfl); (case hr => first | (go_simp; done) | (go_simp; rfl)); (case hp => exact (Reps.one (show Kd.M (Kd.int .u64) _ _ _ a1 [.int .u64 a1] from rfl) (Reps.one (show Kd.M (Kd.int .u64) _ _ _ 0 [.int .u64 0] from rfl) (Reps.one (show Kd.M (Kd.int .u64) _ _ _ 18446744073709551615 [.int .u64 18446744073709551615] from rfl) (Reps.none _ _))))); intro v160 w18 ho19 hb hg_ hnew_; clear hg_ hnew_; (first | rw [← Ny159.out] at ho19 | (simp only [Int.reduceToNat] at ho19; rw [← Ny159.out] at ho19)); have n0_ := Aside0.mk (Kd.R_below (by (with_reducible repeat (first | apply Kd.R_alloc | apply Kd.R_drewN | apply Kd.R_drew)); exact HO158.out) hb); have n1_ := Aside0.mk (Kd.R_lower ho19 (below_size (by repeat (first | (with_reducible first | exact HB.out | apply below_alloc | apply pw_below_drewN | apply below_drew1) | exact HB.out)))); have n2_ := Aside0.mk (below_step (by repeat (first | (with_reducible first | exact HB.out | apply below_alloc | apply pw_below_drewN | apply below_drew1) | exact HB.out)) hb); clear HO158; clear HB; have HO158 := n0_; have HO161 := n1_; have HB := n2_; clear n0_ n1_ n2_; clear hb ho19) | ((with_reducible refine gate_callee (f := 58) rfl ?_); refine goesL_ (some 32) rfl rfl Try.func58 (by kernel_rfl) rfl #[.slice A0 l0.length c0] rfl (by (try simp only [List.map_toArray, List.map_cons, List.map_nil]); first | done | rfl | (simp only [List.length_drop, List.length_take]; rfl) | (refine congrArg (fun z => #[Value.int .u64 z]) ?_; rw [IntKind.wrap_u64]; omega)) ?_; (with_reducible refine (fasciclelaw11_hashes.calls kj3 _ _ l0 t162 _ ?side1 ?side2 A15.out).mono ?_); (case side1 => repeat (first | exact (Kd.C_below HR0.out HB.out) | (with_reducible refine Kd.C_alloc ?_ _) | (with_reducible refine Kd.C_drewN ?_ _) | (with_reducible refine Kd.C_drew ?_))); (case side2 => exact HC0.out); rintro e w20 ⟨v163, rfl, ho0, hb⟩; refine ⟨_, rfl, ?_⟩; have n0_ := Aside0.mk (Kd.R_below (by (with_reducible repeat (first | apply Kd.R_alloc | apply Kd.R_drewN | apply Kd.R_drew)); exact HO158.out) hb); have n1_ := Aside0.mk (Kd.R_elder' (by (with_reducible repeat (first | apply Kd.R_alloc | apply Kd.R_drewN | apply Kd.R_drew)); exact HO161.out) (Kd.R_base ho0) hb); have n2_ := Aside0.mk (Kd.R_lower (Kd.R_new' ho0 (Kd.R_lt (by (with_reducible repeat (first | apply Kd.R_alloc | apply Kd.R_drewN | apply Kd.R_drew)); exact HO161.out))) (below_size (by repeat (first | (with_reducible first | exact HB.out | apply below_alloc | apply pw_below_drewN | apply below_drew1) | exact HB.out)))); have n3_ := Aside0.mk (below_step (by repeat (first | (with_reducible first | exact HB.out | apply below_alloc | apply pw_below_drewN | apply below_drew1) | exact HB.out)) hb); clear HO158; clear HO161; clear HB; have HO158 := n0_; have HO161 := n1_; have HO164 := n2_; have HB := n3_; clear n0_ n1_ n2_ n3_; (try clear hb); (try clear hb2); (try clear hk); (try clear hi); (try clear ho0); obtain ⟨Ao22, co22, eo22⟩ := Kd.R_slice HO164.out; subst eo22) | ((with_reducible refine gate_builtin (b := .append) (xs := #[.tmp 30, .tmp 32]) rfl ?_); (try (refine gate_guard (by rfl) ?_; dsimp only)); at_builtin; refine Kd.R_append_rows (Kd.int .u64) (w0 := w) w.heap.size rfl (.tmp 30) (.tmp 32) 26 39 (.int .u64 0) 8 rfl Try.underlying26 info39 rfl (by decide) (by omega) v160 y159 t162 _ _ _ (fun k_ => some k_ ≠ (.slice Ao22 t162.length co22 : Value).ownBlock) (fun _ => False) rfl rfl ?aO ?aR (fun _ _ h => h) (fun _ h => h.elim) ?aF ?aB ?aS ?aL ?_; (case aR => repeat (first | exact (Kd.R_reads' HO164.out).2.2 | (with_reducible refine Kd.C_alloc ?_ _) | (with_reducible refine Kd.C_drewN ?_ _) | (with_reducible refine Kd.C_drew ?_))); (case aB => exact (by repeat (first | (with_reducible first | exact HB.out | apply below_alloc | apply pw_below_drewN | apply below_drew1) | exact HB.out))); (case aF => exact (fun k_ hk => Kd.fresh' (Kd.R_lt (by (with_reducible repeat (first | apply Kd.R_alloc | apply Kd.R_drewN | apply Kd.R_drew)); exact HO164.out)) k_ hk)); (case aO => exact (by (with_reducible repeat (first | apply Kd.R_alloc | apply Kd.R_drewN | apply Kd.R_drew)); exact Kd.R_mono HO161.out (fun _ hk => by first | exact hk.2 | exact hk))); (case aS => exact (below_size (by repeat (first | (with_reducible first | exact HB.out | apply below_alloc | apply pw_below_drewN | apply below_drew1) | exact HB.out)))); (case aL => have := LMc16.out; omega); intro v166 w21 ho hb hg hat; rw [← Ny165.out] at ho; have n0_ := Aside0.mk (Kd.R_over' (by (with_reducible repeat (first | apply Kd.R_alloc | apply Kd.R_drewN | apply Kd.R_drew)); exact HO158.out) (Kd.R_typed (by (with_reducible repeat (first | apply Kd.R_alloc | apply Kd.R_drewN | apply Kd.R_drew)); exact HO161.out)) (by decide) hg); have n1_ := Aside0.mk (Kd.R_after (ok := (fun _ => True)) (by (with_reducible repeat (first | apply Kd.R_alloc | apply Kd.R_drewN | apply Kd.R_drew)); exact HO164.out) hg hat); have n2_ := Aside0.mk (hb); have n3_ := Aside0.mk (ho); clear HO158; clear HO164; clear HB; clear HO161; have HO158 := n0_; have HO164 := n1_; have HB := n2_; have HO167 := n3_; clear n0_ n1_ n2_ n3_; clear ho hb hg hat; obtain ⟨Ao23, co23, eo23⟩ := Kd.R_slice HO167.out; subst eo23))
          go_loopg [35] kj3 (fun kq v35 w' => ∃ (x35_2 : Int), v35 = .int .i64 x35_2 ∧ Aside0 (fasciclelaw11_TableFinds.l0 kq a2 t156 y165 (y165.length : Int) x35_2 = some r) ∧ Aside0 (kq ≤ kj3) ∧ Aside0 (Kd.R k81 81 w' w.heap.size (fun _ => True) v157 t156) ∧ Aside0 (Kd.R (Kd.int .u64) 39 w' w.heap.size (fun _ => True) (.slice Ao23 y165.length co23) y165) ∧ Aside0 (Below w.heap.size w w'))
          case atStart => exact ⟨(0), (by first | rfl | (simp; done) | (simp [*]; done) | (simp; exact (fun l : List UInt8 => (by cases l <;> rfl : l.isEmpty = !(l != ([] : List UInt8)))) _)), H', ⟨Nat.le_refl _⟩, ⟨by (with_reducible repeat (first | apply Kd.R_alloc | apply Kd.R_drewN | apply Kd.R_drew)); exact HO158.out⟩, ⟨by (with_reducible repeat (first | apply Kd.R_alloc | apply Kd.R_drewN | apply Kd.R_drew)); exact Kd.R_mono HO167.out (fun _ hk => trivial)⟩, ⟨by repeat (first | (with_reducible first | exact HB.out | apply below_alloc | apply pw_below_drewN | apply below_drew1) | exact HB.out)⟩⟩
          case round =>
            clear H'
            try clear c1
            try clear p2
            try clear c4
            try clear c5
            try clear c6
            try clear c7
            try clear c7b0
            try clear c7b1
            try clear c11
            try clear c14
            try clear c16
            try clear p2
            obtain ⟨x35_2, rfl, HA, HK2, HO_7, HO_33, HB⟩ := hrel
            cases gk with
            | zero => exact absurd HA.out (by simp [fasciclelaw11_TableFinds.l0])
            | succ k2 =>
              have H := HA.out
              clear HA
              simp only [fasciclelaw11_TableFinds.l0] at H
              by_cases c24 : x35_2 < (y165.length : Int)
              · rw [if_pos c24] at H
                have c24b0 : decide (x35_2 < (y165.length : Int)) = true := decide_eq_true c24
                clear c24
                by_cases c25 : 0 ≤ x35_2
                · rw [if_pos c25] at H
                  have c25b0 : decide (0 ≤ x35_2) = true := decide_eq_true c25
                  clear c25
                  by_cases c26 : x35_2 < (y165.length : Int)
                  · rw [if_pos c26] at H
                    have c26b0 : decide (x35_2 < (y165.length : Int)) = true := decide_eq_true c26
                    clear c26
                    replace H := Option.bind_eq_some_iff.mp H
                    obtain ⟨⟨t171, t172⟩, A270, H⟩ := H
                    replace H : ((fasciclelaw11_Refs.f k2 t156).bind fun t173 => ((fascicleref11_Find.f k2 t173 (rd y165 x35_2)).bind fun bt176 => (if t171 = bt176.1 then (if t172 = bt176.2 then (fasciclelaw11_TableFinds.l0 k2 a2 t156 y165 (y165.length : Int) (wrap64 (x35_2 + 1))) else (some false)) else (some false)))) = some r := H
                    have A27 := Aside0.mk A270
                    clear A270
                    replace H := Option.bind_eq_some_iff.mp H
                    obtain ⟨t173, A280, H⟩ := H
                    replace H : ((fascicleref11_Find.f k2 t173 (rd y165 x35_2)).bind fun bt176 => (if t171 = bt176.1 then (if t172 = bt176.2 then (fasciclelaw11_TableFinds.l0 k2 a2 t156 y165 (y165.length : Int) (wrap64 (x35_2 + 1))) else (some false)) else (some false))) = some r := H
                    have A28 := Aside0.mk A280
                    clear A280
                    replace H := Option.bind_eq_some_iff.mp H
                    obtain ⟨⟨t176, t177⟩, A290, H⟩ := H
                    replace H : (if t171 = t176 then (if t172 = t177 then (fasciclelaw11_TableFinds.l0 k2 a2 t156 y165 (y165.length : Int) (wrap64 (x35_2 + 1))) else (some false)) else (some false)) = some r := H
                    have A29 := Aside0.mk A290
                    clear A290
                    by_cases c30 : t171 = t176
                    · rw [if_pos c30] at H
                      have c30b0 : (t171 == t176) = true := beq_iff_eq.mpr c30
                      have c30b1 : (t171 != t176) = false := bne_eq_false_iff_eq.mpr c30
                      clear c30
                      by_cases c31 : t172 = t177
                      · rw [if_pos c31] at H
                        have c31b0 : (t172 == t177) = true := beq_iff_eq.mpr c31
                        have c31b1 : (t172 != t177) = false := bne_eq_false_iff_eq.mpr c31
                        clear c31
                        have H' := Aside0.mk H
                        clear H
                        have p170 : 0 ≤ (x35_2 : Int) := of_decide_eq_true (by first | (with_reducible assumption) | assumption)
                        have q170 : x35_2 < (y165.length : Int) := of_decide_eq_true (by first | (with_reducible assumption) | assumption)
                        obtain ⟨ad170, e170, hx170_0⟩ := Kd.at_int (Kd.R_reads' HO_33.out).2.2 x35_2 p170 q170
                        cases e170
                        replace p170 := eq_true p170
                        replace q170 := eq_true q170
                        obtain ⟨Ao32, co32, eo32⟩ := Kd.R_slice HO_7.out
                        subst eo32
                        go_wp2_with (first | ((with_reducible refine gate_callee (f := 57) rfl ?_); refine goesL_ (some 42) rfl rfl Try.func57 (by kernel_rfl) rfl #[.slice Ao32 t156.length co32, .int .u64 (rd y165 x35_2)] rfl (by (try simp only [List.map_toArray, List.map_cons, List.map_nil]); first | done | rfl | (simp only [List.length_drop, List.length_take]; rfl) | (refine congrArg (fun z => #[Value.int .u64 z]) ?_; rw [IntKind.wrap_u64]; omega)) ?_; (with_reducible refine (table_Find.calls _ _ t156 (rd y165 x35_2) t171 t172 _ ?side1 ?side2 A27.out).mono ?_); (case side1 => repeat (first | exact (Kd.R_reads' HO_7.out).2.2 | (with_reducible refine Kd.C_alloc ?_ _) | (with_reducible refine Kd.C_drewN ?_ _) | (with_reducible refine Kd.C_drew ?_))); (case side2 => exact (Kd.R_reads' HO_7.out).2.1); rintro e w33 ⟨rfl, hb⟩; refine ⟨_, rfl, ?_⟩; have n0_ := Aside0.mk (Kd.R_below (by (with_reducible repeat (first | apply Kd.R_alloc | apply Kd.R_drewN | apply Kd.R_drew)); exact HO_7.out) hb); have n1_ := Aside0.mk (Kd.R_below (by (with_reducible repeat (first | apply Kd.R_alloc | apply Kd.R_drewN | apply Kd.R_drew)); exact HO_33.out) hb); have n2_ := Aside0.mk (below_step (by repeat (first | (with_reducible first | exact HB.out | apply below_alloc | apply pw_below_drewN | apply below_drew1) | exact HB.out)) hb); clear HO_7; clear HO_33; clear HB; have HO_7 := n0_; have HO_33 := n1_; have HB := n2_; clear n0_ n1_ n2_; (try clear hb); (try clear hb2); (try clear hk); (try clear hi)) | ((with_reducible refine gate_callee (f := 50) rfl ?_); refine goesL_ (some 47) rfl rfl Try.func50 (by kernel_rfl) rfl #[.slice Ao32 t156.length co32] rfl (by (try simp only [List.map_toArray, List.map_cons, List.map_nil]); first | done | rfl | (simp only [List.length_drop, List.length_take]; rfl) | (refine congrArg (fun z => #[Value.int .u64 z]) ?_; rw [IntKind.wrap_u64]; omega)) ?_; (with_reducible refine (fasciclelaw11_Refs.calls k2 _ _ t156 t173 _ ?side1 ?side2 A28.out).mono ?_); (case side1 => repeat (first | exact (Kd.R_reads' HO_7.out).2.2 | (with_reducible refine Kd.C_alloc ?_ _) | (with_reducible refine Kd.C_drewN ?_ _) | (with_reducible refine Kd.C_drew ?_))); (case side2 => exact (Kd.R_reads' HO_7.out).2.1); rintro e w34 ⟨v174, rfl, ho0, hb⟩; refine ⟨_, rfl, ?_⟩; have n0_ := Aside0.mk (Kd.R_below (by (with_reducible repeat (first | apply Kd.R_alloc | apply Kd.R_drewN | apply Kd.R_drew)); exact HO_7.out) hb); have n1_ := Aside0.mk (Kd.R_below (by (with_reducible repeat (first | apply Kd.R_alloc | apply Kd.R_drewN | apply Kd.R_drew)); exact HO_33.out) hb); have n2_ := Aside0.mk (Kd.R_lower ho0 (below_size (by repeat (first | (with_reducible first | exact HB.out | apply below_alloc | apply pw_below_drewN | apply below_drew1) | exact HB.out)))); have n3_ := Aside0.mk (below_step (by repeat (first | (with_reducible first | exact HB.out | apply below_alloc | apply pw_below_drewN | apply below_drew1) | exact HB.out)) hb); clear HO_7; clear HO_33; clear HB; have HO_7 := n0_; have HO_33 := n1_; have HO175 := n2_; have HB := n3_; clear n0_ n1_ n2_ n3_; (try clear hb); (try clear hb2); (try clear hk); (try clear hi); (try clear ho0); obtain ⟨Ao35, co35, eo35⟩ := Kd.R_slice HO175.out; subst eo35) | ((with_reducible refine gate_callee (f := 59) rfl ?_); refine goesL_ (some 49) rfl rfl Try.func59 (by kernel_rfl) rfl #[.slice Ao35 t173.length co35, .int .u64 (rd y165 x35_2)] rfl (by (try simp only [List.map_toArray, List.map_cons, List.map_nil]); first | done | rfl | (simp only [List.length_drop, List.length_take]; rfl) | (refine congrArg (fun z => #[Value.int .u64 z]) ?_; rw [IntKind.wrap_u64]; omega)) ?_; (with_reducible refine (fascicleref11_Find.calls k2 _ _ t173 (rd y165 x35_2) t176 t177 _ ?side1 ?side2 A29.out).mono ?_); (case side1 => repeat (first | exact (Kd.R_reads' HO175.out).2.2 | (with_reducible refine Kd.C_alloc ?_ _) | (with_reducible refine Kd.C_drewN ?_ _) | (with_reducible refine Kd.C_drew ?_))); (case side2 => exact (Kd.R_reads' HO175.out).2.1); rintro e w36 ⟨rfl, hb⟩; refine ⟨_, rfl, ?_⟩; have n0_ := Aside0.mk (Kd.R_below (by (with_reducible repeat (first | apply Kd.R_alloc | apply Kd.R_drewN | apply Kd.R_drew)); exact HO_7.out) hb); have n1_ := Aside0.mk (Kd.R_below (by (with_reducible repeat (first | apply Kd.R_alloc | apply Kd.R_drewN | apply Kd.R_drew)); exact HO_33.out) hb); have n2_ := Aside0.mk (Kd.R_below (by (with_reducible repeat (first | apply Kd.R_alloc | apply Kd.R_drewN | apply Kd.R_drew)); exact HO175.out) hb); have n3_ := Aside0.mk (below_step (by repeat (first | (with_reducible first | exact HB.out | apply below_alloc | apply pw_below_drewN | apply below_drew1) | exact HB.out)) hb); clear HO_7; clear HO_33; clear HO175; clear HB; have HO_7 := n0_; have HO_33 := n1_; have HO175 := n2_; have HB := n3_; clear n0_ n1_ n2_ n3_; (try clear hb); (try clear hb2); (try clear hk); (try clear hi)))
                        go_roundg k2
                        case measure => have := HJ3.out; have := HK2.out; omega
                        case rel => exact ⟨(wrap64 (x35_2 + 1)), (by first | rfl | (simp; done) | (simp [*]; done) | (simp; exact (fun l : List UInt8 => (by cases l <;> rfl : l.isEmpty = !(l != ([] : List UInt8)))) _)), H', ⟨by have := HJ3.out; have := HK2.out; omega⟩, ⟨by (with_reducible repeat (first | apply Kd.R_alloc | apply Kd.R_drewN | apply Kd.R_drew)); exact HO_7.out⟩, ⟨by (with_reducible repeat (first | apply Kd.R_alloc | apply Kd.R_drewN | apply Kd.R_drew)); exact HO_33.out⟩, ⟨by repeat (first | (with_reducible first | exact HB.out | apply below_alloc | apply pw_below_drewN | apply below_drew1) | exact HB.out)⟩⟩
                      · rw [if_neg c31] at H
                        have c31b0 : (t172 == t177) = false := beq_eq_false_iff_ne.mpr c31
                        have c31b1 : (t172 != t177) = true := bne_iff_ne.mpr c31
                        obtain rfl := Option.some.inj H
                        have p170 : 0 ≤ (x35_2 : Int) := of_decide_eq_true (by first | (with_reducible assumption) | assumption)
                        have q170 : x35_2 < (y165.length : Int) := of_decide_eq_true (by first | (with_reducible assumption) | assumption)
                        obtain ⟨ad170, e170, hx170_0⟩ := Kd.at_int (Kd.R_reads' HO_33.out).2.2 x35_2 p170 q170
                        cases e170
                        replace p170 := eq_true p170
                        replace q170 := eq_true q170
                        obtain ⟨Ao37, co37, eo37⟩ := Kd.R_slice HO_7.out
                        subst eo37
                        go_wp2_with (first | ((with_reducible refine gate_callee (f := 57) rfl ?_); refine goesL_ (some 42) rfl rfl Try.func57 (by kernel_rfl) rfl #[.slice Ao37 t156.length co37, .int .u64 (rd y165 x35_2)] rfl (by (try simp only [List.map_toArray, List.map_cons, List.map_nil]); first | done | rfl | (simp only [List.length_drop, List.length_take]; rfl) | (refine congrArg (fun z => #[Value.int .u64 z]) ?_; rw [IntKind.wrap_u64]; omega)) ?_; (with_reducible refine (table_Find.calls _ _ t156 (rd y165 x35_2) t171 t172 _ ?side1 ?side2 A27.out).mono ?_); (case side1 => repeat (first | exact (Kd.R_reads' HO_7.out).2.2 | (with_reducible refine Kd.C_alloc ?_ _) | (with_reducible refine Kd.C_drewN ?_ _) | (with_reducible refine Kd.C_drew ?_))); (case side2 => exact (Kd.R_reads' HO_7.out).2.1); rintro e w38 ⟨rfl, hb⟩; refine ⟨_, rfl, ?_⟩; have n0_ := Aside0.mk (Kd.R_below (by (with_reducible repeat (first | apply Kd.R_alloc | apply Kd.R_drewN | apply Kd.R_drew)); exact HO_7.out) hb); have n1_ := Aside0.mk (Kd.R_below (by (with_reducible repeat (first | apply Kd.R_alloc | apply Kd.R_drewN | apply Kd.R_drew)); exact HO_33.out) hb); have n2_ := Aside0.mk (below_step (by repeat (first | (with_reducible first | exact HB.out | apply below_alloc | apply pw_below_drewN | apply below_drew1) | exact HB.out)) hb); clear HO_7; clear HO_33; clear HB; have HO_7 := n0_; have HO_33 := n1_; have HB := n2_; clear n0_ n1_ n2_; (try clear hb); (try clear hb2); (try clear hk); (try clear hi)) | ((with_reducible refine gate_callee (f := 50) rfl ?_); refine goesL_ (some 47) rfl rfl Try.func50 (by kernel_rfl) rfl #[.slice Ao37 t156.length co37] rfl (by (try simp only [List.map_toArray, List.map_cons, List.map_nil]); first | done | rfl | (simp only [List.length_drop, List.length_take]; rfl) | (refine congrArg (fun z => #[Value.int .u64 z]) ?_; rw [IntKind.wrap_u64]; omega)) ?_; (with_reducible refine (fasciclelaw11_Refs.calls k2 _ _ t156 t173 _ ?side1 ?side2 A28.out).mono ?_); (case side1 => repeat (first | exact (Kd.R_reads' HO_7.out).2.2 | (with_reducible refine Kd.C_alloc ?_ _) | (with_reducible refine Kd.C_drewN ?_ _) | (with_reducible refine Kd.C_drew ?_))); (case side2 => exact (Kd.R_reads' HO_7.out).2.1); rintro e w39 ⟨v174, rfl, ho0, hb⟩; refine ⟨_, rfl, ?_⟩; have n0_ := Aside0.mk (Kd.R_below (by (with_reducible repeat (first | apply Kd.R_alloc | apply Kd.R_drewN | apply Kd.R_drew)); exact HO_7.out) hb); have n1_ := Aside0.mk (Kd.R_below (by (with_reducible repeat (first | apply Kd.R_alloc | apply Kd.R_drewN | apply Kd.R_drew)); exact HO_33.out) hb); have n2_ := Aside0.mk (Kd.R_lower ho0 (below_size (by repeat (first | (with_reducible first | exact HB.out | apply below_alloc | apply pw_below_drewN | apply below_drew1) | exact HB.out)))); have n3_ := Aside0.mk (below_step (by repeat (first | (with_reducible first | exact HB.out | apply below_alloc | apply pw_below_drewN | apply below_drew1) | exact HB.out)) hb); clear HO_7; clear HO_33; clear HB; have HO_7 := n0_; have HO_33 := n1_; have HO175 := n2_; have HB := n3_; clear n0_ n1_ n2_ n3_; (try clear hb); (try clear hb2); (try clear hk); (try clear hi); (try clear ho0); obtain ⟨Ao40, co40, eo40⟩ := Kd.R_slice HO175.out; subst eo40) | ((with_reducible refine gate_callee (f := 59) rfl ?_); refine goesL_ (some 49) rfl rfl Try.func59 (by kernel_rfl) rfl #[.slice Ao40 t173.length co40, .int .u64 (rd y165 x35_2)] rfl (by (try simp only [List.map_toArray, List.map_cons, List.map_nil]); first | done | rfl | (simp only [List.length_drop, List.length_take]; rfl) | (refine congrArg (fun z => #[Value.int .u64 z]) ?_; rw [IntKind.wrap_u64]; omega)) ?_; (with_reducible refine (fascicleref11_Find.calls k2 _ _ t173 (rd y165 x35_2) t176 t177 _ ?side1 ?side2 A29.out).mono ?_); (case side1 => repeat (first | exact (Kd.R_reads' HO175.out).2.2 | (with_reducible refine Kd.C_alloc ?_ _) | (with_reducible refine Kd.C_drewN ?_ _) | (with_reducible refine Kd.C_drew ?_))); (case side2 => exact (Kd.R_reads' HO175.out).2.1); rintro e w41 ⟨rfl, hb⟩; refine ⟨_, rfl, ?_⟩; have n0_ := Aside0.mk (Kd.R_below (by (with_reducible repeat (first | apply Kd.R_alloc | apply Kd.R_drewN | apply Kd.R_drew)); exact HO_7.out) hb); have n1_ := Aside0.mk (Kd.R_below (by (with_reducible repeat (first | apply Kd.R_alloc | apply Kd.R_drewN | apply Kd.R_drew)); exact HO_33.out) hb); have n2_ := Aside0.mk (Kd.R_below (by (with_reducible repeat (first | apply Kd.R_alloc | apply Kd.R_drewN | apply Kd.R_drew)); exact HO175.out) hb); have n3_ := Aside0.mk (below_step (by repeat (first | (with_reducible first | exact HB.out | apply below_alloc | apply pw_below_drewN | apply below_drew1) | exact HB.out)) hb); clear HO_7; clear HO_33; clear HO175; clear HB; have HO_7 := n0_; have HO_33 := n1_; have HO175 := n2_; have HB := n3_; clear n0_ n1_ n2_ n3_; (try clear hb); (try clear hb2); (try clear hk); (try clear hi)))
                        go_ret
                        exact ⟨by first | rfl | (simp [errW_none, errW_some] <;> rfl) | (simp [*, errW_none, errW_some] <;> rfl), by repeat (first | (with_reducible first | exact HB.out | apply below_alloc | apply pw_below_drewN | apply below_drew1) | exact HB.out)⟩
                    · rw [if_neg c30] at H
                      have c30b0 : (t171 == t176) = false := beq_eq_false_iff_ne.mpr c30
                      have c30b1 : (t171 != t176) = true := bne_iff_ne.mpr c30
                      obtain rfl := Option.some.inj H
                      have p170 : 0 ≤ (x35_2 : Int) := of_decide_eq_true (by first | (with_reducible assumption) | assumption)
                      have q170 : x35_2 < (y165.length : Int) := of_decide_eq_true (by first | (with_reducible assumption) | assumption)
                      obtain ⟨ad170, e170, hx170_0⟩ := Kd.at_int (Kd.R_reads' HO_33.out).2.2 x35_2 p170 q170
                      cases e170
                      replace p170 := eq_true p170
                      replace q170 := eq_true q170
                      obtain ⟨Ao42, co42, eo42⟩ := Kd.R_slice HO_7.out
                      subst eo42
                      go_wp2_with (first | ((with_reducible refine gate_callee (f := 57) rfl ?_); refine goesL_ (some 42) rfl rfl Try.func57 (by kernel_rfl) rfl #[.slice Ao42 t156.length co42, .int .u64 (rd y165 x35_2)] rfl (by (try simp only [List.map_toArray, List.map_cons, List.map_nil]); first | done | rfl | (simp only [List.length_drop, List.length_take]; rfl) | (refine congrArg (fun z => #[Value.int .u64 z]) ?_; rw [IntKind.wrap_u64]; omega)) ?_; (with_reducible refine (table_Find.calls _ _ t156 (rd y165 x35_2) t171 t172 _ ?side1 ?side2 A27.out).mono ?_); (case side1 => repeat (first | exact (Kd.R_reads' HO_7.out).2.2 | (with_reducible refine Kd.C_alloc ?_ _) | (with_reducible refine Kd.C_drewN ?_ _) | (with_reducible refine Kd.C_drew ?_))); (case side2 => exact (Kd.R_reads' HO_7.out).2.1); rintro e w43 ⟨rfl, hb⟩; refine ⟨_, rfl, ?_⟩; have n0_ := Aside0.mk (Kd.R_below (by (with_reducible repeat (first | apply Kd.R_alloc | apply Kd.R_drewN | apply Kd.R_drew)); exact HO_7.out) hb); have n1_ := Aside0.mk (Kd.R_below (by (with_reducible repeat (first | apply Kd.R_alloc | apply Kd.R_drewN | apply Kd.R_drew)); exact HO_33.out) hb); have n2_ := Aside0.mk (below_step (by repeat (first | (with_reducible first | exact HB.out | apply below_alloc | apply pw_below_drewN | apply below_drew1) | exact HB.out)) hb); clear HO_7; clear HO_33; clear HB; have HO_7 := n0_; have HO_33 := n1_; have HB := n2_; clear n0_ n1_ n2_; (try clear hb); (try clear hb2); (try clear hk); (try clear hi)) | ((with_reducible refine gate_callee (f := 50) rfl ?_); refine goesL_ (some 47) rfl rfl Try.func50 (by kernel_rfl) rfl #[.slice Ao42 t156.length co42] rfl (by (try simp only [List.map_toArray, List.map_cons, List.map_nil]); first | done | rfl | (simp only [List.length_drop, List.length_take]; rfl) | (refine congrArg (fun z => #[Value.int .u64 z]) ?_; rw [IntKind.wrap_u64]; omega)) ?_; (with_reducible refine (fasciclelaw11_Refs.calls k2 _ _ t156 t173 _ ?side1 ?side2 A28.out).mono ?_); (case side1 => repeat (first | exact (Kd.R_reads' HO_7.out).2.2 | (with_reducible refine Kd.C_alloc ?_ _) | (with_reducible refine Kd.C_drewN ?_ _) | (with_reducible refine Kd.C_drew ?_))); (case side2 => exact (Kd.R_reads' HO_7.out).2.1); rintro e w44 ⟨v174, rfl, ho0, hb⟩; refine ⟨_, rfl, ?_⟩; have n0_ := Aside0.mk (Kd.R_below (by (with_reducible repeat (first | apply Kd.R_alloc | apply Kd.R_drewN | apply Kd.R_drew)); exact HO_7.out) hb); have n1_ := Aside0.mk (Kd.R_below (by (with_reducible repeat (first | apply Kd.R_alloc | apply Kd.R_drewN | apply Kd.R_drew)); exact HO_33.out) hb); have n2_ := Aside0.mk (Kd.R_lower ho0 (below_size (by repeat (first | (with_reducible first | exact HB.out | apply below_alloc | apply pw_below_drewN | apply below_drew1) | exact HB.out)))); have n3_ := Aside0.mk (below_step (by repeat (first | (with_reducible first | exact HB.out | apply below_alloc | apply pw_below_drewN | apply below_drew1) | exact HB.out)) hb); clear HO_7; clear HO_33; clear HB; have HO_7 := n0_; have HO_33 := n1_; have HO175 := n2_; have HB := n3_; clear n0_ n1_ n2_ n3_; (try clear hb); (try clear hb2); (try clear hk); (try clear hi); (try clear ho0); obtain ⟨Ao45, co45, eo45⟩ := Kd.R_slice HO175.out; subst eo45) | ((with_reducible refine gate_callee (f := 59) rfl ?_); refine goesL_ (some 49) rfl rfl Try.func59 (by kernel_rfl) rfl #[.slice Ao45 t173.length co45, .int .u64 (rd y165 x35_2)] rfl (by (try simp only [List.map_toArray, List.map_cons, List.map_nil]); first | done | rfl | (simp only [List.length_drop, List.length_take]; rfl) | (refine congrArg (fun z => #[Value.int .u64 z]) ?_; rw [IntKind.wrap_u64]; omega)) ?_; (with_reducible refine (fascicleref11_Find.calls k2 _ _ t173 (rd y165 x35_2) t176 t177 _ ?side1 ?side2 A29.out).mono ?_); (case side1 => repeat (first | exact (Kd.R_reads' HO175.out).2.2 | (with_reducible refine Kd.C_alloc ?_ _) | (with_reducible refine Kd.C_drewN ?_ _) | (with_reducible refine Kd.C_drew ?_))); (case side2 => exact (Kd.R_reads' HO175.out).2.1); rintro e w46 ⟨rfl, hb⟩; refine ⟨_, rfl, ?_⟩; have n0_ := Aside0.mk (Kd.R_below (by (with_reducible repeat (first | apply Kd.R_alloc | apply Kd.R_drewN | apply Kd.R_drew)); exact HO_7.out) hb); have n1_ := Aside0.mk (Kd.R_below (by (with_reducible repeat (first | apply Kd.R_alloc | apply Kd.R_drewN | apply Kd.R_drew)); exact HO_33.out) hb); have n2_ := Aside0.mk (Kd.R_below (by (with_reducible repeat (first | apply Kd.R_alloc | apply Kd.R_drewN | apply Kd.R_drew)); exact HO175.out) hb); have n3_ := Aside0.mk (below_step (by repeat (first | (with_reducible first | exact HB.out | apply below_alloc | apply pw_below_drewN | apply below_drew1) | exact HB.out)) hb); clear HO_7; clear HO_33; clear HO175; clear HB; have HO_7 := n0_; have HO_33 := n1_; have HO175 := n2_; have HB := n3_; clear n0_ n1_ n2_ n3_; (try clear hb); (try clear hb2); (try clear hk); (try clear hi)))
                      go_ret
                      exact ⟨by first | rfl | (simp [errW_none, errW_some] <;> rfl) | (simp [*, errW_none, errW_some] <;> rfl), by repeat (first | (with_reducible first | exact HB.out | apply below_alloc | apply pw_below_drewN | apply below_drew1) | exact HB.out)⟩
                  · rw [if_neg c26] at H
                    exact absurd H (by simp)
                · rw [if_neg c25] at H
                  exact absurd H (by simp)
              · rw [if_neg c24] at H
                have c24b0 : decide (x35_2 < (y165.length : Int)) = false := decide_eq_false c24
                clear c24
                replace H := Option.bind_eq_some_iff.mp H
                obtain ⟨t168, A470, H⟩ := H
                replace H : ((fascicleref04_Sum.f k2 0 a2).bind fun t169 => (some (t168 == t169))) = some r := H
                have A47 := Aside0.mk A470
                clear A470
                replace H := Option.bind_eq_some_iff.mp H
                obtain ⟨t169, A480, H⟩ := H
                replace H : (some (t168 == t169)) = some r := H
                have A48 := Aside0.mk A480
                clear A480
                obtain rfl := Option.some.inj H
                go_wp2_with (first | ((with_reducible refine gate_callee (f := 60) rfl ?_); refine goesL_ (some 62) rfl rfl Try.func60 (by kernel_rfl) rfl #[.string a2] rfl (by (try simp only [List.map_toArray, List.map_cons, List.map_nil]); first | done | rfl | (simp only [List.length_drop, List.length_take]; rfl) | (refine congrArg (fun z => #[Value.int .u64 z]) ?_; rw [IntKind.wrap_u64]; omega)) ?_; (with_reducible refine (table_Hash.calls a2 t168 _ A47.out).mono ?_); rintro e w49 ⟨rfl, hb⟩; refine ⟨_, rfl, ?_⟩; have n0_ := Aside0.mk (Kd.R_below (by (with_reducible repeat (first | apply Kd.R_alloc | apply Kd.R_drewN | apply Kd.R_drew)); exact HO_7.out) hb); have n1_ := Aside0.mk (Kd.R_below (by (with_reducible repeat (first | apply Kd.R_alloc | apply Kd.R_drewN | apply Kd.R_drew)); exact HO_33.out) hb); have n2_ := Aside0.mk (below_step (by repeat (first | (with_reducible first | exact HB.out | apply below_alloc | apply pw_below_drewN | apply below_drew1) | exact HB.out)) hb); clear HO_7; clear HO_33; clear HB; have HO_7 := n0_; have HO_33 := n1_; have HB := n2_; clear n0_ n1_ n2_; (try clear hb); (try clear hb2); (try clear hk); (try clear hi)) | ((with_reducible refine gate_callee (f := 61) rfl ?_); refine goesL_ (some 64) rfl rfl Try.func61 (by kernel_rfl) rfl #[.int .u64 0, .string a2] rfl (by (try simp only [List.map_toArray, List.map_cons, List.map_nil]); first | done | rfl | (simp only [List.length_drop, List.length_take]; rfl) | (refine congrArg (fun z => #[Value.int .u64 z]) ?_; rw [IntKind.wrap_u64]; omega)) ?_; (with_reducible refine (fascicleref04_Sum.calls k2 0 a2 t169 _ A48.out).mono ?_); rintro e w50 ⟨rfl, hb⟩; refine ⟨_, rfl, ?_⟩; have n0_ := Aside0.mk (Kd.R_below (by (with_reducible repeat (first | apply Kd.R_alloc | apply Kd.R_drewN | apply Kd.R_drew)); exact HO_7.out) hb); have n1_ := Aside0.mk (Kd.R_below (by (with_reducible repeat (first | apply Kd.R_alloc | apply Kd.R_drewN | apply Kd.R_drew)); exact HO_33.out) hb); have n2_ := Aside0.mk (below_step (by repeat (first | (with_reducible first | exact HB.out | apply below_alloc | apply pw_below_drewN | apply below_drew1) | exact HB.out)) hb); clear HO_7; clear HO_33; clear HB; have HO_7 := n0_; have HO_33 := n1_; have HB := n2_; clear n0_ n1_ n2_; (try clear hb); (try clear hb2); (try clear hk); (try clear hi)))
                go_ret
                exact ⟨by first | rfl | (simp [errW_none, errW_some] <;> rfl) | (simp [*, errW_none, errW_some] <;> rfl), by repeat (first | (with_reducible first | exact HB.out | apply below_alloc | apply pw_below_drewN | apply below_drew1) | exact HB.out)⟩
        · rw [if_neg c16] at H
          exact absurd H (by simp)
/-- THE ONE PURE STATEMENT of fasciclelaw11_TableFinds. -/
def fasciclelaw11_TableFinds.Pure : Prop := ∀ (l0 : List (S81)) (a1 : Int) (a2 : ByteArray), l0.length ≤ maxLen → l0.length * 16 ≤ 140737488351232 → (∀ y ∈ l0, (((Lit.int .u64 y.f0).wf = true) ∧ ((Lit.int .u32 y.f1).wf = true))) → (Lit.int .u64 a1).wf = true → a2.size ≤ 140737488351232 → ∃ k, fasciclelaw11_TableFinds.f k l0 a1 a2 = some true

end Go.Proofs.Ytnmdckgaljldhaa.G
