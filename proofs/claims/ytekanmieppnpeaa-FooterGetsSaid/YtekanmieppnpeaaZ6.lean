/- Texts of a claim, one behind the other (shake.py): what it does not use is left out. -/
import Derived.Test.YtekanmieppnpeaaZ5
import Derived.Deep.Slices
import Derived.SizedLaws
import Derived.WideShapes
import Derived.ChangeArms
import Derived.DataReads
section
namespace Go.Proofs.Ytekanmieppnpeaa.G
open Go.RowKit Go.Proofs.YtekanmieppnpeaaW.PrintWords Go.Proofs.YtekanmieppnpeaaW.PrintLast Go.Proofs.YtekanmieppnpeaaW.PrintMore
attribute [local go_sem] max2_int min2_int max_two min_two max_three min_three max_four min_four   -- for this text's walks alone
set_option linter.unusedVariables false
set_option linter.unusedSimpArgs false
mutual
def fascicleref04_Sum.j0 : Nat → ByteArray → Int → Int → Option (Int)
  | 0, _, _, _ => none
  | k + 1, x1, x5, x6 => fascicleref04_Sum.l0 k x1 (IntKind.u64.wrap (x6 + x5))
def fascicleref04_Sum.l0 : Nat → ByteArray → Int → Option (Int)
  | 0, _, _ => none
  | k + 1, x1, x6 => if (x1.size : Int) ≥ 8 then (if 0 ≤ 8 then (if 8 ≤ (x1.size : Int) then ((fascicleref01_Value.f k (x1.extract 0 8)).bind fun t170 => ((fascicleref04_into.f k 0 t170).bind fun t171 => ((fascicleref04_turn.f k (Go.bits .xor .u64 x6 t171) 27).bind fun t172 => (fascicleref04_Sum.l0 k (x1.extract 8 x1.size) (IntKind.u64.wrap ((IntKind.u64.wrap (t172 * 11400714785074694791)) + 9650029242287828579)))))) else (none)) else (none)) else (fascicleref04_Sum.l1 k x1 x6)
def fascicleref04_Sum.l1 : Nat → ByteArray → Int → Option (Int)
  | 0, _, _ => none
  | k + 1, x1, x6 => if (x1.size : Int) ≥ 4 then (if 0 ≤ 4 then (if 4 ≤ (x1.size : Int) then ((fascicleref01_Value.f k (x1.extract 0 4)).bind fun t173 => ((fascicleref04_turn.f k (Go.bits .xor .u64 x6 (IntKind.u64.wrap (t173 * 11400714785074694791))) 23).bind fun t174 => (fascicleref04_Sum.l1 k (x1.extract 4 x1.size) (IntKind.u64.wrap ((IntKind.u64.wrap (t174 * 14029467366897019727)) + 1609587929392839161))))) else (none)) else (none)) else (fascicleref04_Sum.l2 k x1 x6 0)
def fascicleref04_Sum.l2 : Nat → ByteArray → Int → Int → Option (Int)
  | 0, _, _, _ => none
  | k + 1, x1, x6, x8 => if x8 < (x1.size : Int) then (if 0 ≤ x8 then ((fascicleref04_turn.f k (Go.bits .xor .u64 x6 (IntKind.u64.wrap ((IntKind.u64.wrap (bt x1 x8)) * 2870177450012600261))) 11).bind fun t175 => (fascicleref04_Sum.l2 k x1 (IntKind.u64.wrap (t175 * 11400714785074694791)) (wrap64 (x8 + 1)))) else (none)) else ((fascicleref04_mix.f k x6 33).bind fun t176 => ((fascicleref04_mix.f k (IntKind.u64.wrap (t176 * 14029467366897019727)) 29).bind fun t177 => ((fascicleref04_mix.f k (IntKind.u64.wrap (t177 * 1609587929392839161)) 32).bind fun t178 => (some t178))))
end
def fascicleref04_Sum.f (k : Nat) (a0 : Int) (a1 : ByteArray) : Option (Int) := if (a1.size : Int) ≥ 32 then ((fascicleref04_begin.f a0 a1).bind fun bt168 => (fascicleref04_Sum.j0 k bt168.2 (IntKind.u64.wrap ((a1.size : Int))) bt168.1)) else (fascicleref04_Sum.j0 k a1 (IntKind.u64.wrap ((a1.size : Int))) (IntKind.u64.wrap (a0 + 2870177450012600261)))
theorem fascicleref04_Sum.mono_l : ∀ k, (∀ y0 y1 y2, LeO (fascicleref04_Sum.j0 k y0 y1 y2) (fascicleref04_Sum.j0 (k + 1) y0 y1 y2)) ∧ (∀ y0 y1, LeO (fascicleref04_Sum.l0 k y0 y1) (fascicleref04_Sum.l0 (k + 1) y0 y1)) ∧ (∀ y0 y1, LeO (fascicleref04_Sum.l1 k y0 y1) (fascicleref04_Sum.l1 (k + 1) y0 y1)) ∧ (∀ y0 y1 y2, LeO (fascicleref04_Sum.l2 k y0 y1 y2) (fascicleref04_Sum.l2 (k + 1) y0 y1 y2))
  | 0 => ⟨fun _ _ _ r h => by simp [fascicleref04_Sum.j0] at h, fun _ _ r h => by simp [fascicleref04_Sum.l0] at h, fun _ _ r h => by simp [fascicleref04_Sum.l1] at h, fun _ _ _ r h => by simp [fascicleref04_Sum.l2] at h⟩
  | k + 1 => by
    obtain ⟨ih0, ih1, ih2, ih3⟩ := fascicleref04_Sum.mono_l k
    refine ⟨?_, ?_, ?_, ?_⟩
    · intro y0 y1 y2
      unfold fascicleref04_Sum.j0
      repeat' first
      | (with_reducible exact ih0 _ _ _)
      | (with_reducible exact ih1 _ _)
      | (with_reducible exact ih2 _ _)
      | (with_reducible exact ih3 _ _ _)
      | (with_reducible exact fascicleref01_Value.mono _ _)
      | (with_reducible exact fascicleref04_into.mono _ _ _)
      | (with_reducible exact fascicleref04_mix.mono _ _ _)
      | (with_reducible exact fascicleref04_turn.mono _ _ _)
      | (with_reducible exact LeO.refl _)
      | (with_reducible exact LeO.none _)
      | (with_reducible refine LeO.ite ?_ ?_)
      | (with_reducible refine LeO.bind ?_ (fun _ => ?_))
      | exact ih0 _ _ _
      | exact ih1 _ _
      | exact ih2 _ _
      | exact ih3 _ _ _
      | exact fascicleref01_Value.mono _ _
      | exact fascicleref04_into.mono _ _ _
      | exact fascicleref04_mix.mono _ _ _
      | exact fascicleref04_turn.mono _ _ _
      | exact LeO.none _
      | refine LeO.ite ?_ ?_
      | refine LeO.bind ?_ (fun _ => ?_)
    · intro y0 y1
      unfold fascicleref04_Sum.l0
      repeat' first
      | (with_reducible exact ih0 _ _ _)
      | (with_reducible exact ih1 _ _)
      | (with_reducible exact ih2 _ _)
      | (with_reducible exact ih3 _ _ _)
      | (with_reducible exact fascicleref01_Value.mono _ _)
      | (with_reducible exact fascicleref04_into.mono _ _ _)
      | (with_reducible exact fascicleref04_mix.mono _ _ _)
      | (with_reducible exact fascicleref04_turn.mono _ _ _)
      | (with_reducible exact LeO.refl _)
      | (with_reducible exact LeO.none _)
      | (with_reducible refine LeO.ite ?_ ?_)
      | (with_reducible refine LeO.bind ?_ (fun _ => ?_))
      | exact ih0 _ _ _
      | exact ih1 _ _
      | exact ih2 _ _
      | exact ih3 _ _ _
      | exact fascicleref01_Value.mono _ _
      | exact fascicleref04_into.mono _ _ _
      | exact fascicleref04_mix.mono _ _ _
      | exact fascicleref04_turn.mono _ _ _
      | exact LeO.none _
      | refine LeO.ite ?_ ?_
      | refine LeO.bind ?_ (fun _ => ?_)
    · intro y0 y1
      unfold fascicleref04_Sum.l1
      repeat' first
      | (with_reducible exact ih0 _ _ _)
      | (with_reducible exact ih1 _ _)
      | (with_reducible exact ih2 _ _)
      | (with_reducible exact ih3 _ _ _)
      | (with_reducible exact fascicleref01_Value.mono _ _)
      | (with_reducible exact fascicleref04_into.mono _ _ _)
      | (with_reducible exact fascicleref04_mix.mono _ _ _)
      | (with_reducible exact fascicleref04_turn.mono _ _ _)
      | (with_reducible exact LeO.refl _)
      | (with_reducible exact LeO.none _)
      | (with_reducible refine LeO.ite ?_ ?_)
      | (with_reducible refine LeO.bind ?_ (fun _ => ?_))
      | exact ih0 _ _ _
      | exact ih1 _ _
      | exact ih2 _ _
      | exact ih3 _ _ _
      | exact fascicleref01_Value.mono _ _
      | exact fascicleref04_into.mono _ _ _
      | exact fascicleref04_mix.mono _ _ _
      | exact fascicleref04_turn.mono _ _ _
      | exact LeO.none _
      | refine LeO.ite ?_ ?_
      | refine LeO.bind ?_ (fun _ => ?_)
    · intro y0 y1 y2
      unfold fascicleref04_Sum.l2
      repeat' first
      | (with_reducible exact ih0 _ _ _)
      | (with_reducible exact ih1 _ _)
      | (with_reducible exact ih2 _ _)
      | (with_reducible exact ih3 _ _ _)
      | (with_reducible exact fascicleref01_Value.mono _ _)
      | (with_reducible exact fascicleref04_into.mono _ _ _)
      | (with_reducible exact fascicleref04_mix.mono _ _ _)
      | (with_reducible exact fascicleref04_turn.mono _ _ _)
      | (with_reducible exact LeO.refl _)
      | (with_reducible exact LeO.none _)
      | (with_reducible refine LeO.ite ?_ ?_)
      | (with_reducible refine LeO.bind ?_ (fun _ => ?_))
      | exact ih0 _ _ _
      | exact ih1 _ _
      | exact ih2 _ _
      | exact ih3 _ _ _
      | exact fascicleref01_Value.mono _ _
      | exact fascicleref04_into.mono _ _ _
      | exact fascicleref04_mix.mono _ _ _
      | exact fascicleref04_turn.mono _ _ _
      | exact LeO.none _
      | refine LeO.ite ?_ ?_
      | refine LeO.bind ?_ (fun _ => ?_)
theorem fascicleref04_Sum.mono : ∀ a0 a1 k, LeO (fascicleref04_Sum.f k a0 a1) (fascicleref04_Sum.f (k + 1) a0 a1) := by
  intro a0 a1 k
  obtain ⟨ih0, ih1, ih2, ih3⟩ := fascicleref04_Sum.mono_l k
  unfold fascicleref04_Sum.f
  repeat' first
      | (with_reducible exact ih0 _ _ _)
      | (with_reducible exact ih1 _ _)
      | (with_reducible exact ih2 _ _)
      | (with_reducible exact ih3 _ _ _)
      | (with_reducible exact fascicleref01_Value.mono _ _)
      | (with_reducible exact fascicleref04_into.mono _ _ _)
      | (with_reducible exact fascicleref04_mix.mono _ _ _)
      | (with_reducible exact fascicleref04_turn.mono _ _ _)
      | (with_reducible exact LeO.refl _)
      | (with_reducible exact LeO.none _)
      | (with_reducible refine LeO.ite ?_ ?_)
      | (with_reducible refine LeO.bind ?_ (fun _ => ?_))
      | exact ih0 _ _ _
      | exact ih1 _ _
      | exact ih2 _ _
      | exact ih3 _ _ _
      | exact fascicleref01_Value.mono _ _
      | exact fascicleref04_into.mono _ _ _
      | exact fascicleref04_mix.mono _ _ _
      | exact fascicleref04_turn.mono _ _ _
      | exact LeO.none _
      | refine LeO.ite ?_ ?_
      | refine LeO.bind ?_ (fun _ => ?_)
set_option maxHeartbeats 8000000 in
set_option maxRecDepth 100000 in
theorem fascicleref04_Sum.calls (k : Nat) (a0 : Int) (a1 : ByteArray) (r : Int) (w : World) (h : fascicleref04_Sum.f k a0 a1 = some r) :
    Calls Try.prog 57 #[.int .u64 a0, .string a1] w fun e w' => e = .returned (.int .u64 r) ∧ Below w.heap.size w w' := by
  have HB := Aside0.mk (Below.refl w.heap.size w)
  have H : (if (a1.size : Int) ≥ 32 then ((fascicleref04_begin.f a0 a1).bind fun bt168 => (fascicleref04_Sum.j0 k bt168.2 (IntKind.u64.wrap ((a1.size : Int))) bt168.1)) else (fascicleref04_Sum.j0 k a1 (IntKind.u64.wrap ((a1.size : Int))) (IntKind.u64.wrap (a0 + 2870177450012600261)))) = some r := h
  clear h
  have HC3 := Aside0.mk H
  clear H
  go_enter Try.func57, Try.ntmps57
  go_upto_if 17 with (fail)
  go_cut [1, 6] (fun v1 v6 wc => ∃ (kq : Nat) (x1_2 : ByteArray) (x6_2 : Int), v1 = .string x1_2 ∧ v6 = .int .u64 x6_2 ∧ Aside0 (fascicleref04_Sum.j0 kq x1_2 (IntKind.u64.wrap ((a1.size : Int))) x6_2 = some r) ∧ Aside0 (kq ≤ k) ∧ Aside0 (Below w.heap.size w wc))
  case first =>
    have H := HC3.out
    clear HC3
    by_cases c4 : (a1.size : Int) ≥ 32
    · rw [if_pos c4] at H
      have c4b0 : decide (32 ≤ (a1.size : Int)) = true := decide_eq_true c4
      have c4b1 : decide (32 ≤ a1.size) = true := decide_eq_true (by omega)
      clear c4
      (first | rw [c4b0] | (simp only [i64_w, i32_w]; rw [c4b0]) | skip)
      replace H := Option.bind_eq_some_iff.mp H
      obtain ⟨⟨t168, t169⟩, A50, H⟩ := H
      replace H : (fascicleref04_Sum.j0 k t169 (IntKind.u64.wrap ((a1.size : Int))) t168) = some r := H
      have A5 := Aside0.mk A50
      clear A50
      have H' := Aside0.mk H
      clear H
      go_wp2_with (first | ((with_reducible refine gate_callee (f := 117) rfl ?_); refine goesL_ (some 21) rfl rfl Try.func117 (by kernel_rfl) rfl #[.int .u64 a0, .string a1] rfl (by (try simp only [List.map_toArray, List.map_cons, List.map_nil]); first | done | rfl | (simp only [List.length_drop, List.length_take]; rfl) | (refine congrArg (fun z => #[Value.int .u64 z]) ?_; rw [IntKind.wrap_u64]; omega)) ?_; (with_reducible refine (fascicleref04_begin.calls a0 a1 t168 t169 _ A5.out).mono ?_); rintro e w6 ⟨rfl, hb⟩; refine ⟨_, rfl, ?_⟩; have n0_ := Aside0.mk (below_step (by repeat (first | (with_reducible first | exact HB.out | apply below_alloc | apply pw_below_drewN | apply below_drew1) | exact HB.out)) hb); clear HB; have HB := n0_; clear n0_; (try clear hb); (try clear hb2); (try clear hk); (try clear hi)))
      go_meet
      case rel => exact ⟨_, (t169), (t168), (by first | rfl | (simp; done) | (simp [*]; done) | (simp; exact (fun l : List UInt8 => (by cases l <;> rfl : l.isEmpty = !(l != ([] : List UInt8)))) _)), (by first | rfl | (simp; done) | (simp [*]; done) | (simp; exact (fun l : List UInt8 => (by cases l <;> rfl : l.isEmpty = !(l != ([] : List UInt8)))) _)), H', ⟨by first | omega | exact Nat.le_refl _⟩, ⟨by repeat (first | (with_reducible first | exact HB.out | apply below_alloc | apply pw_below_drewN | apply below_drew1) | exact HB.out)⟩⟩
    · rw [if_neg c4] at H
      have c4b0 : decide (32 ≤ (a1.size : Int)) = false := decide_eq_false c4
      have c4b1 : decide (32 ≤ a1.size) = false := decide_eq_false (by omega)
      clear c4
      (first | rw [c4b0] | (simp only [i64_w, i32_w]; rw [c4b0]) | skip)
      have H' := Aside0.mk H
      clear H
      go_wp2
      go_meet
      case rel => exact ⟨_, (a1), (IntKind.u64.wrap (a0 + 2870177450012600261)), (by first | rfl | (simp; done) | (simp [*]; done) | (simp; exact (fun l : List UInt8 => (by cases l <;> rfl : l.isEmpty = !(l != ([] : List UInt8)))) _)), (by first | rfl | (simp; done) | (simp [*]; done) | (simp; exact (fun l : List UInt8 => (by cases l <;> rfl : l.isEmpty = !(l != ([] : List UInt8)))) _)), H', ⟨by first | omega | exact Nat.le_refl _⟩, ⟨by repeat (first | (with_reducible first | exact HB.out | apply below_alloc | apply pw_below_drewN | apply below_drew1) | exact HB.out)⟩⟩
  case rest =>
    clear HC3
    try clear c1
    try clear p2
    try clear c4
    try clear c4b0
    try clear c4b1
    try clear c5
    obtain ⟨kq, x1_2, x6_2, rfl, rfl, HA, HJ2, HB⟩ := hcut
    cases kq with
    | zero => exact absurd HA.out (by simp [fascicleref04_Sum.j0])
    | succ kj2 =>
      have H := HA.out
      clear HA
      simp only [fascicleref04_Sum.j0] at H
      have H' := Aside0.mk H
      clear H
      go_wp2
      go_loopg [1, 6] kj2 (fun kq v1 v6 w' => ∃ (x1_2 : ByteArray) (x6_2 : Int), v1 = .string x1_2 ∧ v6 = .int .u64 x6_2 ∧ Aside0 (fascicleref04_Sum.l0 kq x1_2 x6_2 = some r) ∧ Aside0 (kq ≤ kj2) ∧ Aside0 (Below w.heap.size w w'))
      case atStart => exact ⟨(x1_2), (IntKind.u64.wrap (x6_2 + (IntKind.u64.wrap ((a1.size : Int))))), (by first | rfl | (simp; done) | (simp [*]; done) | (simp; exact (fun l : List UInt8 => (by cases l <;> rfl : l.isEmpty = !(l != ([] : List UInt8)))) _)), (by first | rfl | (simp; done) | (simp [*]; done) | (simp; exact (fun l : List UInt8 => (by cases l <;> rfl : l.isEmpty = !(l != ([] : List UInt8)))) _)), H', ⟨Nat.le_refl _⟩, ⟨by repeat (first | (with_reducible first | exact HB.out | apply below_alloc | apply pw_below_drewN | apply below_drew1) | exact HB.out)⟩⟩
      case round =>
        clear H'
        try clear c1
        try clear p2
        try clear c4
        try clear c4b0
        try clear c4b1
        try clear c5
        try clear p2
        obtain ⟨x1_2, x6_2, rfl, rfl, HA, HK2, HB⟩ := hrel
        cases gk with
        | zero => exact absurd HA.out (by simp [fascicleref04_Sum.l0])
        | succ k2 =>
          have H := HA.out
          clear HA
          simp only [fascicleref04_Sum.l0] at H
          by_cases c7 : (x1_2.size : Int) ≥ 8
          · rw [if_pos c7] at H
            have c7b0 : decide (8 ≤ (x1_2.size : Int)) = true := decide_eq_true c7
            have c7b1 : decide (8 ≤ x1_2.size) = true := decide_eq_true (by omega)
            clear c7
            by_cases c8 : 0 ≤ 8
            · rw [if_pos c8] at H
              have c8b0 := eq_true c8
              have c8b1 : decide (0 ≤ 8) = true := decide_eq_true c8
              clear c8
              by_cases c9 : 8 ≤ (x1_2.size : Int)
              · rw [if_pos c9] at H
                have c9b0 := eq_true c9
                have c9b1 : decide (8 ≤ (x1_2.size : Int)) = true := decide_eq_true c9
                clear c9
                replace H := Option.bind_eq_some_iff.mp H
                obtain ⟨t170, A100, H⟩ := H
                replace H : ((fascicleref04_into.f k2 0 t170).bind fun t171 => ((fascicleref04_turn.f k2 (Go.bits .xor .u64 x6_2 t171) 27).bind fun t172 => (fascicleref04_Sum.l0 k2 (x1_2.extract 8 x1_2.size) (IntKind.u64.wrap ((IntKind.u64.wrap (t172 * 11400714785074694791)) + 9650029242287828579))))) = some r := H
                have A10 := Aside0.mk A100
                clear A100
                replace H := Option.bind_eq_some_iff.mp H
                obtain ⟨t171, A110, H⟩ := H
                replace H : ((fascicleref04_turn.f k2 (Go.bits .xor .u64 x6_2 t171) 27).bind fun t172 => (fascicleref04_Sum.l0 k2 (x1_2.extract 8 x1_2.size) (IntKind.u64.wrap ((IntKind.u64.wrap (t172 * 11400714785074694791)) + 9650029242287828579)))) = some r := H
                have A11 := Aside0.mk A110
                clear A110
                replace H := Option.bind_eq_some_iff.mp H
                obtain ⟨t172, A120, H⟩ := H
                replace H : (fascicleref04_Sum.l0 k2 (x1_2.extract 8 x1_2.size) (IntKind.u64.wrap ((IntKind.u64.wrap (t172 * 11400714785074694791)) + 9650029242287828579))) = some r := H
                have A12 := Aside0.mk A120
                clear A120
                have c13b0 := eq_true (of_decide_eq_true (by first | (with_reducible assumption) | assumption) : 8 ≤ (x1_2.size : Int))
                have H' := Aside0.mk H
                clear H
                go_wp2_with (first | ((with_reducible refine gate_callee (f := 56) rfl ?_); refine goesL_ (some 33) rfl rfl Try.func56 (by kernel_rfl) rfl #[.string (x1_2.extract 0 8)] rfl (by (try simp only [List.map_toArray, List.map_cons, List.map_nil]); first | done | rfl | (simp only [List.length_drop, List.length_take]; rfl) | (refine congrArg (fun z => #[Value.int .u64 z]) ?_; rw [IntKind.wrap_u64]; omega)) ?_; (with_reducible refine (fascicleref01_Value.calls k2 (x1_2.extract 0 8) t170 _ A10.out).mono ?_); rintro e w' ⟨rfl, ⟨nd, rfl⟩⟩; refine ⟨_, rfl, ?_⟩) | ((with_reducible refine gate_callee (f := 118) rfl ?_); refine goesL_ (some 34) rfl rfl Try.func118 (by kernel_rfl) rfl #[.int .u64 0, .int .u64 t170] rfl (by (try simp only [List.map_toArray, List.map_cons, List.map_nil]); first | done | rfl | (simp only [List.length_drop, List.length_take]; rfl) | (refine congrArg (fun z => #[Value.int .u64 z]) ?_; rw [IntKind.wrap_u64]; omega)) ?_; (with_reducible refine (fascicleref04_into.calls k2 0 t170 t171 _ A11.out).mono ?_); rintro e w' ⟨rfl, ⟨nd, rfl⟩⟩; refine ⟨_, rfl, ?_⟩) | ((with_reducible refine gate_callee (f := 119) rfl ?_); refine goesL_ (some 37) rfl rfl Try.func119 (by kernel_rfl) rfl #[.int .u64 (Go.bits .xor .u64 x6_2 t171), .int .i64 27] rfl (by (try simp only [List.map_toArray, List.map_cons, List.map_nil]); first | done | rfl | (simp only [List.length_drop, List.length_take]; rfl) | (refine congrArg (fun z => #[Value.int .u64 z]) ?_; rw [IntKind.wrap_u64]; omega)) ?_; (with_reducible refine (fascicleref04_turn.calls k2 (Go.bits .xor .u64 x6_2 t171) 27 t172 _ A12.out).mono ?_); rintro e w' ⟨rfl, ⟨nd, rfl⟩⟩; refine ⟨_, rfl, ?_⟩))
                go_roundg k2
                case measure => have := HJ2.out; have := HK2.out; omega
                case rel => exact ⟨(x1_2.extract 8 x1_2.size), (IntKind.u64.wrap ((IntKind.u64.wrap (t172 * 11400714785074694791)) + 9650029242287828579)), (by first | rfl | (simp; done) | (simp [*]; done) | (simp; exact (fun l : List UInt8 => (by cases l <;> rfl : l.isEmpty = !(l != ([] : List UInt8)))) _)), (by first | rfl | (simp; done) | (simp [*]; done) | (simp; exact (fun l : List UInt8 => (by cases l <;> rfl : l.isEmpty = !(l != ([] : List UInt8)))) _)), H', ⟨by have := HJ2.out; have := HK2.out; omega⟩, ⟨by repeat (first | (with_reducible first | exact HB.out | apply below_alloc | apply pw_below_drewN | apply below_drew1) | exact HB.out)⟩⟩
              · rw [if_neg c9] at H
                exact absurd H (by simp)
            · rw [if_neg c8] at H
              exact absurd H (by simp)
          · rw [if_neg c7] at H
            have c7b0 : decide (8 ≤ (x1_2.size : Int)) = false := decide_eq_false c7
            have c7b1 : decide (8 ≤ x1_2.size) = false := decide_eq_false (by omega)
            clear c7
            have H' := Aside0.mk H
            clear H
            go_wp2
            go_loopg [1, 6] k2 (fun kq v1 v6 w' => ∃ (x1_3 : ByteArray) (x6_3 : Int), v1 = .string x1_3 ∧ v6 = .int .u64 x6_3 ∧ Aside0 (fascicleref04_Sum.l1 kq x1_3 x6_3 = some r) ∧ Aside0 (kq ≤ k2) ∧ Aside0 (Below w.heap.size w w'))
            case atStart => exact ⟨(x1_2), (x6_2), (by first | rfl | (simp; done) | (simp [*]; done) | (simp; exact (fun l : List UInt8 => (by cases l <;> rfl : l.isEmpty = !(l != ([] : List UInt8)))) _)), (by first | rfl | (simp; done) | (simp [*]; done) | (simp; exact (fun l : List UInt8 => (by cases l <;> rfl : l.isEmpty = !(l != ([] : List UInt8)))) _)), H', ⟨Nat.le_refl _⟩, ⟨by repeat (first | (with_reducible first | exact HB.out | apply below_alloc | apply pw_below_drewN | apply below_drew1) | exact HB.out)⟩⟩
            case round =>
              clear H'
              try clear c1
              try clear p2
              try clear c4
              try clear c4b0
              try clear c4b1
              try clear c5
              try clear c7
              try clear c7b0
              try clear c7b1
              try clear c8
              try clear c8b0
              try clear c8b1
              try clear c9
              try clear c9b0
              try clear c9b1
              try clear c11
              try clear c13
              try clear c13b0
              try clear p2
              obtain ⟨x1_3, x6_3, rfl, rfl, HA, HK3, HB⟩ := hrel
              cases gk with
              | zero => exact absurd HA.out (by simp [fascicleref04_Sum.l1])
              | succ k3 =>
                have H := HA.out
                clear HA
                simp only [fascicleref04_Sum.l1] at H
                by_cases c14 : (x1_3.size : Int) ≥ 4
                · rw [if_pos c14] at H
                  have c14b0 : decide (4 ≤ (x1_3.size : Int)) = true := decide_eq_true c14
                  have c14b1 : decide (4 ≤ x1_3.size) = true := decide_eq_true (by omega)
                  clear c14
                  by_cases c15 : 0 ≤ 4
                  · rw [if_pos c15] at H
                    have c15b0 := eq_true c15
                    have c15b1 : decide (0 ≤ 4) = true := decide_eq_true c15
                    clear c15
                    by_cases c16 : 4 ≤ (x1_3.size : Int)
                    · rw [if_pos c16] at H
                      have c16b0 := eq_true c16
                      have c16b1 : decide (4 ≤ (x1_3.size : Int)) = true := decide_eq_true c16
                      clear c16
                      replace H := Option.bind_eq_some_iff.mp H
                      obtain ⟨t173, A170, H⟩ := H
                      replace H : ((fascicleref04_turn.f k3 (Go.bits .xor .u64 x6_3 (IntKind.u64.wrap (t173 * 11400714785074694791))) 23).bind fun t174 => (fascicleref04_Sum.l1 k3 (x1_3.extract 4 x1_3.size) (IntKind.u64.wrap ((IntKind.u64.wrap (t174 * 14029467366897019727)) + 1609587929392839161)))) = some r := H
                      have A17 := Aside0.mk A170
                      clear A170
                      replace H := Option.bind_eq_some_iff.mp H
                      obtain ⟨t174, A180, H⟩ := H
                      replace H : (fascicleref04_Sum.l1 k3 (x1_3.extract 4 x1_3.size) (IntKind.u64.wrap ((IntKind.u64.wrap (t174 * 14029467366897019727)) + 1609587929392839161))) = some r := H
                      have A18 := Aside0.mk A180
                      clear A180
                      have c19b0 := eq_true (of_decide_eq_true (by first | (with_reducible assumption) | assumption) : 4 ≤ (x1_3.size : Int))
                      have H' := Aside0.mk H
                      clear H
                      go_wp2_with (first | ((with_reducible refine gate_callee (f := 56) rfl ?_); refine goesL_ (some 47) rfl rfl Try.func56 (by kernel_rfl) rfl #[.string (x1_3.extract 0 4)] rfl (by (try simp only [List.map_toArray, List.map_cons, List.map_nil]); first | done | rfl | (simp only [List.length_drop, List.length_take]; rfl) | (refine congrArg (fun z => #[Value.int .u64 z]) ?_; rw [IntKind.wrap_u64]; omega)) ?_; (with_reducible refine (fascicleref01_Value.calls k3 (x1_3.extract 0 4) t173 _ A17.out).mono ?_); rintro e w' ⟨rfl, ⟨nd, rfl⟩⟩; refine ⟨_, rfl, ?_⟩) | ((with_reducible refine gate_callee (f := 119) rfl ?_); refine goesL_ (some 52) rfl rfl Try.func119 (by kernel_rfl) rfl #[.int .u64 (Go.bits .xor .u64 x6_3 (IntKind.u64.wrap (t173 * 11400714785074694791))), .int .i64 23] rfl (by (try simp only [List.map_toArray, List.map_cons, List.map_nil]); first | done | rfl | (simp only [List.length_drop, List.length_take]; rfl) | (refine congrArg (fun z => #[Value.int .u64 z]) ?_; rw [IntKind.wrap_u64]; omega)) ?_; (with_reducible refine (fascicleref04_turn.calls k3 (Go.bits .xor .u64 x6_3 (IntKind.u64.wrap (t173 * 11400714785074694791))) 23 t174 _ A18.out).mono ?_); rintro e w' ⟨rfl, ⟨nd, rfl⟩⟩; refine ⟨_, rfl, ?_⟩))
                      go_roundg k3
                      case measure => have := HJ2.out; have := HK2.out; have := HK3.out; omega
                      case rel => exact ⟨(x1_3.extract 4 x1_3.size), (IntKind.u64.wrap ((IntKind.u64.wrap (t174 * 14029467366897019727)) + 1609587929392839161)), (by first | rfl | (simp; done) | (simp [*]; done) | (simp; exact (fun l : List UInt8 => (by cases l <;> rfl : l.isEmpty = !(l != ([] : List UInt8)))) _)), (by first | rfl | (simp; done) | (simp [*]; done) | (simp; exact (fun l : List UInt8 => (by cases l <;> rfl : l.isEmpty = !(l != ([] : List UInt8)))) _)), H', ⟨by have := HJ2.out; have := HK2.out; have := HK3.out; omega⟩, ⟨by repeat (first | (with_reducible first | exact HB.out | apply below_alloc | apply pw_below_drewN | apply below_drew1) | exact HB.out)⟩⟩
                    · rw [if_neg c16] at H
                      exact absurd H (by simp)
                  · rw [if_neg c15] at H
                    exact absurd H (by simp)
                · rw [if_neg c14] at H
                  have c14b0 : decide (4 ≤ (x1_3.size : Int)) = false := decide_eq_false c14
                  have c14b1 : decide (4 ≤ x1_3.size) = false := decide_eq_false (by omega)
                  clear c14
                  have H' := Aside0.mk H
                  clear H
                  go_wp2
                  go_loopg [6, 8] k3 (fun kq v6 v8 w' => ∃ (x6_4 : Int) (x8_4 : Int), v6 = .int .u64 x6_4 ∧ v8 = .int .i64 x8_4 ∧ Aside0 (fascicleref04_Sum.l2 kq x1_3 x6_4 x8_4 = some r) ∧ Aside0 (kq ≤ k3) ∧ Aside0 (Below w.heap.size w w'))
                  case atStart => exact ⟨(x6_3), (0), (by first | rfl | (simp; done) | (simp [*]; done) | (simp; exact (fun l : List UInt8 => (by cases l <;> rfl : l.isEmpty = !(l != ([] : List UInt8)))) _)), (by first | rfl | (simp; done) | (simp [*]; done) | (simp; exact (fun l : List UInt8 => (by cases l <;> rfl : l.isEmpty = !(l != ([] : List UInt8)))) _)), H', ⟨Nat.le_refl _⟩, ⟨by repeat (first | (with_reducible first | exact HB.out | apply below_alloc | apply pw_below_drewN | apply below_drew1) | exact HB.out)⟩⟩
                  case round =>
                    clear H'
                    try clear c1
                    try clear p2
                    try clear c4
                    try clear c4b0
                    try clear c4b1
                    try clear c5
                    try clear c7
                    try clear c7b0
                    try clear c7b1
                    try clear c8
                    try clear c8b0
                    try clear c8b1
                    try clear c9
                    try clear c9b0
                    try clear c9b1
                    try clear c11
                    try clear c13
                    try clear c13b0
                    try clear c14
                    try clear c14b0
                    try clear c14b1
                    try clear c15
                    try clear c15b0
                    try clear c15b1
                    try clear c16
                    try clear c16b0
                    try clear c16b1
                    try clear c19
                    try clear c19b0
                    try clear p2
                    obtain ⟨x6_4, x8_4, rfl, rfl, HA, HK4, HB⟩ := hrel
                    cases gk with
                    | zero => exact absurd HA.out (by simp [fascicleref04_Sum.l2])
                    | succ k4 =>
                      have H := HA.out
                      clear HA
                      simp only [fascicleref04_Sum.l2] at H
                      by_cases c20 : x8_4 < (x1_3.size : Int)
                      · rw [if_pos c20] at H
                        have c20b0 : decide (x8_4 < (x1_3.size : Int)) = true := decide_eq_true c20
                        clear c20
                        by_cases c21 : 0 ≤ x8_4
                        · rw [if_pos c21] at H
                          have c21b0 : decide (0 ≤ x8_4) = true := decide_eq_true c21
                          clear c21
                          replace H := Option.bind_eq_some_iff.mp H
                          obtain ⟨t175, A230, H⟩ := H
                          replace H : (fascicleref04_Sum.l2 k4 x1_3 (IntKind.u64.wrap (t175 * 11400714785074694791)) (wrap64 (x8_4 + 1))) = some r := H
                          have A23 := Aside0.mk A230
                          clear A230
                          have H' := Aside0.mk H
                          clear H
                          have p22 : 0 ≤ (x8_4 : Int) := of_decide_eq_true (by first | (with_reducible assumption) | assumption)
                          have q22 : x8_4 < (x1_3.size : Int) := of_decide_eq_true (by first | (with_reducible assumption) | assumption)
                          have hx22 := bt_at x1_3 x8_4
                          replace p22 := eq_true p22
                          replace q22 := eq_true q22
                          go_wp2_with (first | ((with_reducible refine gate_callee (f := 119) rfl ?_); refine goesL_ (some 71) rfl rfl Try.func119 (by kernel_rfl) rfl #[.int .u64 (Go.bits .xor .u64 x6_4 (IntKind.u64.wrap ((IntKind.u64.wrap (bt x1_3 x8_4)) * 2870177450012600261))), .int .i64 11] rfl (by (try simp only [List.map_toArray, List.map_cons, List.map_nil]); first | done | rfl | (simp only [List.length_drop, List.length_take]; rfl) | (refine congrArg (fun z => #[Value.int .u64 z]) ?_; rw [IntKind.wrap_u64]; omega)) ?_; (with_reducible refine (fascicleref04_turn.calls k4 (Go.bits .xor .u64 x6_4 (IntKind.u64.wrap ((IntKind.u64.wrap (bt x1_3 x8_4)) * 2870177450012600261))) 11 t175 _ A23.out).mono ?_); rintro e w' ⟨rfl, ⟨nd, rfl⟩⟩; refine ⟨_, rfl, ?_⟩))
                          go_roundg k4
                          case measure => have := HJ2.out; have := HK2.out; have := HK3.out; have := HK4.out; omega
                          case rel => exact ⟨(IntKind.u64.wrap (t175 * 11400714785074694791)), (wrap64 (x8_4 + 1)), (by first | rfl | (simp; done) | (simp [*]; done) | (simp; exact (fun l : List UInt8 => (by cases l <;> rfl : l.isEmpty = !(l != ([] : List UInt8)))) _)), (by first | rfl | (simp; done) | (simp [*]; done) | (simp; exact (fun l : List UInt8 => (by cases l <;> rfl : l.isEmpty = !(l != ([] : List UInt8)))) _)), H', ⟨by have := HJ2.out; have := HK2.out; have := HK3.out; have := HK4.out; omega⟩, ⟨by repeat (first | (with_reducible first | exact HB.out | apply below_alloc | apply pw_below_drewN | apply below_drew1) | exact HB.out)⟩⟩
                        · rw [if_neg c21] at H
                          exact absurd H (by simp)
                      · rw [if_neg c20] at H
                        have c20b0 : decide (x8_4 < (x1_3.size : Int)) = false := decide_eq_false c20
                        clear c20
                        replace H := Option.bind_eq_some_iff.mp H
                        obtain ⟨t176, A240, H⟩ := H
                        replace H : ((fascicleref04_mix.f k4 (IntKind.u64.wrap (t176 * 14029467366897019727)) 29).bind fun t177 => ((fascicleref04_mix.f k4 (IntKind.u64.wrap (t177 * 1609587929392839161)) 32).bind fun t178 => (some t178))) = some r := H
                        have A24 := Aside0.mk A240
                        clear A240
                        replace H := Option.bind_eq_some_iff.mp H
                        obtain ⟨t177, A250, H⟩ := H
                        replace H : ((fascicleref04_mix.f k4 (IntKind.u64.wrap (t177 * 1609587929392839161)) 32).bind fun t178 => (some t178)) = some r := H
                        have A25 := Aside0.mk A250
                        clear A250
                        replace H := Option.bind_eq_some_iff.mp H
                        obtain ⟨t178, A260, H⟩ := H
                        replace H : (some t178) = some r := H
                        have A26 := Aside0.mk A260
                        clear A260
                        obtain rfl := Option.some.inj H
                        go_wp2_with (first | ((with_reducible refine gate_callee (f := 120) rfl ?_); refine goesL_ (some 74) rfl rfl Try.func120 (by kernel_rfl) rfl #[.int .u64 x6_4, .int .i64 33] rfl (by (try simp only [List.map_toArray, List.map_cons, List.map_nil]); first | done | rfl | (simp only [List.length_drop, List.length_take]; rfl) | (refine congrArg (fun z => #[Value.int .u64 z]) ?_; rw [IntKind.wrap_u64]; omega)) ?_; (with_reducible refine (fascicleref04_mix.calls k4 x6_4 33 t176 _ A24.out).mono ?_); rintro e w' ⟨rfl, ⟨nd, rfl⟩⟩; refine ⟨_, rfl, ?_⟩) | ((with_reducible refine gate_callee (f := 120) rfl ?_); refine goesL_ (some 77) rfl rfl Try.func120 (by kernel_rfl) rfl #[.int .u64 (IntKind.u64.wrap (t176 * 14029467366897019727)), .int .i64 29] rfl (by (try simp only [List.map_toArray, List.map_cons, List.map_nil]); first | done | rfl | (simp only [List.length_drop, List.length_take]; rfl) | (refine congrArg (fun z => #[Value.int .u64 z]) ?_; rw [IntKind.wrap_u64]; omega)) ?_; (with_reducible refine (fascicleref04_mix.calls k4 (IntKind.u64.wrap (t176 * 14029467366897019727)) 29 t177 _ A25.out).mono ?_); rintro e w' ⟨rfl, ⟨nd, rfl⟩⟩; refine ⟨_, rfl, ?_⟩) | ((with_reducible refine gate_callee (f := 120) rfl ?_); refine goesL_ (some 80) rfl rfl Try.func120 (by kernel_rfl) rfl #[.int .u64 (IntKind.u64.wrap (t177 * 1609587929392839161)), .int .i64 32] rfl (by (try simp only [List.map_toArray, List.map_cons, List.map_nil]); first | done | rfl | (simp only [List.length_drop, List.length_take]; rfl) | (refine congrArg (fun z => #[Value.int .u64 z]) ?_; rw [IntKind.wrap_u64]; omega)) ?_; (with_reducible refine (fascicleref04_mix.calls k4 (IntKind.u64.wrap (t177 * 1609587929392839161)) 32 t178 _ A26.out).mono ?_); rintro e w' ⟨rfl, ⟨nd, rfl⟩⟩; refine ⟨_, rfl, ?_⟩))
                        go_ret
                        exact ⟨by first | rfl | (simp [errW_none, errW_some] <;> rfl) | (simp [*, errW_none, errW_some] <;> rfl), by repeat (first | (with_reducible first | exact HB.out | apply below_alloc | apply pw_below_drewN | apply below_drew1) | exact HB.out)⟩
def fascicleref09_Open.f (k : Nat) (a0 : ByteArray) : Option (ByteArray × Int) := (fascicleref05_Unstuff.f k a0).bind fun bt179 => (if bt179.2 = 0 then (if (wrap64 ((bt179.1.size : Int) - 8)) < 0 then (some ((⟨#[]⟩ : ByteArray), 2)) else (if 0 ≤ (wrap64 ((bt179.1.size : Int) - 8)) then (if (wrap64 ((bt179.1.size : Int) - 8)) ≤ (bt179.1.size : Int) then ((fascicleref01_Value.f k (bt179.1.extract ((wrap64 ((bt179.1.size : Int) - 8)) : Int).toNat bt179.1.size)).bind fun t181 => ((fascicleref04_Sum.f k 0 (bt179.1.extract 0 ((wrap64 ((bt179.1.size : Int) - 8)) : Int).toNat)).bind fun t182 => (if t181 = t182 then (some (bt179.1.extract 0 ((wrap64 ((bt179.1.size : Int) - 8)) : Int).toNat, 0)) else (some ((⟨#[]⟩ : ByteArray), 5))))) else (none)) else (none))) else (some ((⟨#[]⟩ : ByteArray), bt179.2)))
theorem fascicleref09_Open.mono : ∀ a0 k, LeO (fascicleref09_Open.f k a0) (fascicleref09_Open.f (k + 1) a0) := by
  intro a0 k
  unfold fascicleref09_Open.f
  repeat' first
      | (with_reducible exact fascicleref01_Value.mono _ _)
      | (with_reducible exact fascicleref04_Sum.mono _ _ _)
      | (with_reducible exact fascicleref05_Unstuff.mono _ _)
      | (with_reducible exact LeO.refl _)
      | (with_reducible exact LeO.none _)
      | (with_reducible refine LeO.ite ?_ ?_)
      | (with_reducible refine LeO.bind ?_ (fun _ => ?_))
      | exact fascicleref01_Value.mono _ _
      | exact fascicleref04_Sum.mono _ _ _
      | exact fascicleref05_Unstuff.mono _ _
      | exact LeO.none _
      | refine LeO.ite ?_ ?_
      | refine LeO.bind ?_ (fun _ => ?_)
def fascicleref09_Open.T7 : Bool × List (List Nat × List Nat) := (true, [([], []), ([], []), ([0, 1], [0, 1]), ([2], [2]), ([], []), ([], []), ([4, 5], [4, 5]), ([6, 3], [6]), ([3, 7], [3, 7])])
def fascicleref09_Open.B7 : List Nat := [0, 0, 3, 7, 0, 0, 48, 127, 255]
theorem fascicleref09_Open.tab7 : rtab .any (opsOf Try.f20 7) = fascicleref09_Open.T7 := by kernel_rfl
theorem fascicleref09_Open.bits7 : waitsOk fascicleref09_Open.T7.2 fascicleref09_Open.B7 = true := by kernel_rfl
set_option maxHeartbeats 8000000 in
set_option maxRecDepth 100000 in
theorem fascicleref09_Open.calls (k : Nat) (a0 : ByteArray) (r1 : ByteArray) (r2 : Int) (w : World) (h : fascicleref09_Open.f k a0 = some (r1, r2)) :
    Calls Try.prog 20 #[.string a0] w fun e w' => e = .returned (.tuple #[.string r1, .int .i64 r2]) ∧ Below w.heap.size w w' := by
  have HB := Aside0.mk (Below.refl w.heap.size w)
  have H : ((fascicleref05_Unstuff.f k a0).bind fun bt179 => (if bt179.2 = 0 then (if (wrap64 ((bt179.1.size : Int) - 8)) < 0 then (some ((⟨#[]⟩ : ByteArray), 2)) else (if 0 ≤ (wrap64 ((bt179.1.size : Int) - 8)) then (if (wrap64 ((bt179.1.size : Int) - 8)) ≤ (bt179.1.size : Int) then ((fascicleref01_Value.f k (bt179.1.extract ((wrap64 ((bt179.1.size : Int) - 8)) : Int).toNat bt179.1.size)).bind fun t181 => ((fascicleref04_Sum.f k 0 (bt179.1.extract 0 ((wrap64 ((bt179.1.size : Int) - 8)) : Int).toNat)).bind fun t182 => (if t181 = t182 then (some (bt179.1.extract 0 ((wrap64 ((bt179.1.size : Int) - 8)) : Int).toNat, 0)) else (some ((⟨#[]⟩ : ByteArray), 5))))) else (none)) else (none))) else (some ((⟨#[]⟩ : ByteArray), bt179.2)))) = some (r1, r2) := h
  clear h
  replace H := Option.bind_eq_some_iff.mp H
  obtain ⟨⟨t179, t180⟩, A20, H⟩ := H
  replace H : (if t180 = 0 then (if (wrap64 ((t179.size : Int) - 8)) < 0 then (some ((⟨#[]⟩ : ByteArray), 2)) else (if 0 ≤ (wrap64 ((t179.size : Int) - 8)) then (if (wrap64 ((t179.size : Int) - 8)) ≤ (t179.size : Int) then ((fascicleref01_Value.f k (t179.extract ((wrap64 ((t179.size : Int) - 8)) : Int).toNat t179.size)).bind fun t181 => ((fascicleref04_Sum.f k 0 (t179.extract 0 ((wrap64 ((t179.size : Int) - 8)) : Int).toNat)).bind fun t182 => (if t181 = t182 then (some (t179.extract 0 ((wrap64 ((t179.size : Int) - 8)) : Int).toNat, 0)) else (some ((⟨#[]⟩ : ByteArray), 5))))) else (none)) else (none))) else (some ((⟨#[]⟩ : ByteArray), t180))) = some (r1, r2) := H
  have A2 := Aside0.mk A20
  clear A20
  by_cases c3 : t180 = 0
  · rw [if_pos c3] at H
    have c3b0 : (t180 == 0) = true := beq_iff_eq.mpr c3
    have c3b1 : (t180 != 0) = false := bne_eq_false_iff_eq.mpr c3
    clear c3
    by_cases c4 : (wrap64 ((t179.size : Int) - 8)) < 0
    · rw [if_pos c4] at H
      have c4b0 : decide ((wrap64 ((t179.size : Int) - 8)) < 0) = true := decide_eq_true c4
      clear c4
      simp only [Option.some.injEq, Prod.mk.injEq] at H
      obtain ⟨rfl, rfl⟩ := H
      go_enter Try.func20, Try.ntmps20
      go_wp2_with (first | ((with_reducible refine gate_callee (f := 55) rfl ?_); refine goesL_ (some 9) rfl rfl Try.func55 (by kernel_rfl) rfl #[.string a0] rfl (by (try simp only [List.map_toArray, List.map_cons, List.map_nil]); first | done | rfl | (simp only [List.length_drop, List.length_take]; rfl) | (refine congrArg (fun z => #[Value.int .u64 z]) ?_; rw [IntKind.wrap_u64]; omega)) ?_; (with_reducible refine (fascicleref05_Unstuff.calls k a0 t179 t180 _ A2.out).mono ?_); rintro e w5 ⟨rfl, hb⟩; refine ⟨_, rfl, ?_⟩; have n0_ := Aside0.mk (below_step (by repeat (first | (with_reducible first | exact HB.out | apply below_alloc | apply pw_below_drewN | apply below_drew1) | exact HB.out)) hb); clear HB; have HB := n0_; clear n0_; (try clear hb); (try clear hb2); (try clear hk); (try clear hi)))
      go_ret2
      exact ⟨by first | rfl | (simp [errW_none, errW_some] <;> rfl) | (simp [*, errW_none, errW_some] <;> rfl), by repeat (first | (with_reducible first | exact HB.out | apply below_alloc | apply pw_below_drewN | apply below_drew1) | exact HB.out)⟩
    · rw [if_neg c4] at H
      have c4b0 : decide ((wrap64 ((t179.size : Int) - 8)) < 0) = false := decide_eq_false c4
      clear c4
      obtain ⟨ji6, hji6⟩ : ∃ j_ : Int, (wrap64 ((t179.size : Int) - 8)) = j_ := ⟨_, rfl⟩
      replace H : (if 0 ≤ (ji6) then (if (ji6) ≤ (t179.size : Int) then ((fascicleref01_Value.f k (t179.extract ((ji6) : Int).toNat t179.size)).bind fun t181 => ((fascicleref04_Sum.f k 0 (t179.extract 0 ((ji6) : Int).toNat)).bind fun t182 => (if t181 = t182 then (some (t179.extract 0 ((ji6) : Int).toNat, 0)) else (some ((⟨#[]⟩ : ByteArray), 5))))) else (none)) else (none)) = some (r1, r2) := by first | (rw [hji6] at H; exact H) | (simp only [hji6] at H ⊢; exact H)
      (try rw [hji6] at c4b0)
      (try rw [hji6] at A2)
      have hji6w : (IntKind.i64.wrap ((t179.size : Int) - 8)) = ji6 := (i64_w _).trans hji6
      by_cases c7 : 0 ≤ (ji6)
      · rw [if_pos c7] at H
        have c7b0 := eq_true c7
        have c7b1 : decide (0 ≤ (ji6)) = true := decide_eq_true c7
        clear c7
        by_cases c8 : (ji6) ≤ (t179.size : Int)
        · rw [if_pos c8] at H
          have c8b0 := eq_true c8
          have c8b1 : decide ((ji6) ≤ (t179.size : Int)) = true := decide_eq_true c8
          clear c8
          replace H := Option.bind_eq_some_iff.mp H
          obtain ⟨t181, A90, H⟩ := H
          replace H : ((fascicleref04_Sum.f k 0 (t179.extract 0 ((ji6) : Int).toNat)).bind fun t182 => (if t181 = t182 then (some (t179.extract 0 ((ji6) : Int).toNat, 0)) else (some ((⟨#[]⟩ : ByteArray), 5)))) = some (r1, r2) := H
          have A9 := Aside0.mk A90
          clear A90
          have c10b0 := eq_true (of_decide_eq_true (by first | (with_reducible assumption) | assumption) : 0 ≤ (ji6))
          have c11b0 := eq_true (of_decide_eq_true (by first | (with_reducible assumption) | assumption) : (ji6) ≤ (t179.size : Int))
          replace H := Option.bind_eq_some_iff.mp H
          obtain ⟨t182, A120, H⟩ := H
          replace H : (if t181 = t182 then (some (t179.extract 0 ((ji6) : Int).toNat, 0)) else (some ((⟨#[]⟩ : ByteArray), 5))) = some (r1, r2) := H
          have A12 := Aside0.mk A120
          clear A120
          by_cases c13 : t181 = t182
          · rw [if_pos c13] at H
            have c13b0 : (t181 == t182) = true := beq_iff_eq.mpr c13
            have c13b1 : (t181 != t182) = false := bne_eq_false_iff_eq.mpr c13
            clear c13
            have c14b0 := eq_true (of_decide_eq_true (by first | (with_reducible assumption) | assumption) : 0 ≤ (ji6))
            have c15b0 := eq_true (of_decide_eq_true (by first | (with_reducible assumption) | assumption) : (ji6) ≤ (t179.size : Int))
            simp only [Option.some.injEq, Prod.mk.injEq] at H
            obtain ⟨rfl, rfl⟩ := H
            go_enter Try.func20, Try.ntmps20
            try go_wp2_with (first | ((with_reducible refine gate_callee (f := 55) rfl ?_); refine goesL_ (some 9) rfl rfl Try.func55 (by kernel_rfl) rfl #[.string a0] rfl (by (try simp only [List.map_toArray, List.map_cons, List.map_nil]); first | done | rfl | (simp only [List.length_drop, List.length_take]; rfl) | (refine congrArg (fun z => #[Value.int .u64 z]) ?_; rw [IntKind.wrap_u64]; omega)) ?_; (with_reducible refine (fascicleref05_Unstuff.calls k a0 t179 t180 _ A2.out).mono ?_); rintro e w16 ⟨rfl, hb⟩; refine ⟨_, rfl, ?_⟩; have n0_ := Aside0.mk (below_step (by repeat (first | (with_reducible first | exact HB.out | apply below_alloc | apply pw_below_drewN | apply below_drew1) | exact HB.out)) hb); clear HB; have HB := n0_; clear n0_; (try clear hb); (try clear hb2); (try clear hk); (try clear hi)))
            have n0_ := Aside0.mk (below_drew1 HB.out)
            clear HB
            have HB := n0_
            clear n0_
            refine start_ (n := 9) (S := fun w' => True) (ds := []) #[false, false, false, false, false, false, false, false, false] (by kernel_rfl) rfl rfl trivial (fun hHeld => ?_); refine with_tabW fascicleref09_Open.tab7 fascicleref09_Open.bits7 (fun HT_ HW_ => ?_)
            generalize w16.drew = w17 at HB hHeld ⊢
            refine pure_ (i := 0) (N := some 20) (v := ?_) (a' := ?_) #[true, false, false, false, false, false, false, false, false] rfl rfl (any_of HT_.out (by kernel_rfl)) (fun _ _ _ h => h) (Or.inl ⟨by rfl, ?_⟩) ?_ ?_
            rotate_left
            · intro w'
              go_simp
              with_reducible rfl
            rotate_left
            · simp only [Act.put, List.setIfInBounds_toArray, List.set_cons_zero, List.set_cons_succ, i64_w, i32_w]
              rfl
            refine pure_ (i := 1) (N := some 21) (v := ?_) (a' := ?_) #[true, true, false, false, false, false, false, false, false] rfl rfl (any_of HT_.out (by kernel_rfl)) (fun _ _ _ h => h) (Or.inl ⟨by rfl, ?_⟩) ?_ ?_
            rotate_left
            · intro w'
              go_simp
              with_reducible rfl
            rotate_left
            · simp only [Act.put, List.setIfInBounds_toArray, List.set_cons_zero, List.set_cons_succ, i64_w, i32_w]
              rfl
            refine pure_ (i := 2) (N := some 22) (v := ?_) (a' := ?_) #[true, true, true, false, false, false, false, false, false] rfl rfl (any_of HT_.out (by kernel_rfl)) (fun _ _ _ h => h) (Or.inl ⟨by rfl, ?_⟩) ?_ ?_
            rotate_left
            · intro w'
              go_simp
              with_reducible rfl
            rotate_left
            · simp only [Act.put, List.setIfInBounds_toArray, List.set_cons_zero, List.set_cons_succ, i64_w, i32_w]
              rfl
            refine pure_ (i := 4) (N := some 24) (v := ?_) (a' := ?_) #[true, true, true, false, true, false, false, false, false] rfl rfl (any_of HT_.out (by kernel_rfl)) (fun _ _ _ h => h) (Or.inl ⟨by rfl, ?_⟩) ?_ ?_
            rotate_left
            · intro w'
              go_simp
              with_reducible rfl
            rotate_left
            · simp only [Act.put, List.setIfInBounds_toArray, List.set_cons_zero, List.set_cons_succ, i64_w, i32_w]
              rfl
            refine pure_ (i := 5) (N := some 25) (v := ?_) (a' := ?_) #[true, true, true, false, true, true, false, false, false] rfl rfl (any_of HT_.out (by kernel_rfl)) (fun _ _ _ h => h) (Or.inl ⟨by rfl, ?_⟩) ?_ ?_
            rotate_left
            · intro w'
              go_simp
              with_reducible rfl
            rotate_left
            · simp only [Act.put, List.setIfInBounds_toArray, List.set_cons_zero, List.set_cons_succ, i64_w, i32_w]
              rfl
            refine pure_ (i := 6) (N := some 26) (v := ?_) (a' := ?_) #[true, true, true, false, true, true, true, false, false] rfl rfl (any_of HT_.out (by kernel_rfl)) (fun _ _ _ h => h) (Or.inl ⟨by rfl, ?_⟩) ?_ ?_
            rotate_left
            · intro w'
              go_simp
              with_reducible rfl
            rotate_left
            · simp only [Act.put, List.setIfInBounds_toArray, List.set_cons_zero, List.set_cons_succ, i64_w, i32_w]
              rfl
            refine one_ (i := 3) (N := some 23) #[true, true, true, true, true, true, true, false, false] rfl rfl (one_of HT_.out (by kernel_rfl)) (by decide) (fun K hK => ?_)
            refine goes_ Try.func56 (by kernel_rfl) rfl #[.string (t179.extract ((ji6) : Int).toNat t179.size)] (by rfl) rfl rfl (by (try simp only [List.map_toArray, List.map_cons, List.map_nil]); first | done | (simp only [hji6]; rfl) | rfl | (simp only [List.length_drop, List.length_take]; rfl)) ?_
            with_reducible refine (fascicleref01_Value.calls k (t179.extract ((ji6) : Int).toNat t179.size) t181 _ A9.out).mono ?_
            rintro e w' ⟨rfl, ⟨nd, rfl⟩⟩
            refine ⟨_, rfl, ?_⟩
            refine hK.out _ _ trivial (fun hHeld => ?_)
            clear hK K
            refine norm_ (a' := ?_) ?_ ?_
            rotate_left
            · show Act.put _ (some 23) _ = _
              simp only [Act.put, List.setIfInBounds_toArray, List.set_cons_zero, List.set_cons_succ, i64_w, i32_w]
              rfl
            refine one_ (i := 7) (N := some 27) #[true, true, true, true, true, true, true, true, false] rfl rfl (one_of HT_.out (by kernel_rfl)) (by decide) (fun K hK => ?_)
            refine goes_ Try.func57 (by kernel_rfl) rfl #[.int .u64 0, .string (t179.extract 0 ((ji6) : Int).toNat)] (by rfl) rfl rfl (by (try simp only [List.map_toArray, List.map_cons, List.map_nil]); first | done | (simp only [hji6]; rfl) | rfl | (simp only [List.length_drop, List.length_take]; rfl)) ?_
            with_reducible refine (fascicleref04_Sum.calls k 0 (t179.extract 0 ((ji6) : Int).toNat) t182 _ A12.out).mono ?_
            rintro e w18 ⟨rfl, hb⟩
            refine ⟨_, rfl, ?_⟩
            have n0_ := Aside0.mk (below_step (by repeat (first | (with_reducible first | exact HB.out | apply below_alloc | apply pw_below_drewN | apply below_drew1) | exact HB.out)) hb)
            clear HB
            have HB := n0_
            clear n0_
            (try clear hb)
            (try clear hb2)
            (try clear hk)
            (try clear hi)
            refine hK.out _ _ trivial (fun hHeld => ?_)
            clear hK K
            refine norm_ (a' := ?_) ?_ ?_
            rotate_left
            · show Act.put _ (some 27) _ = _
              simp only [Act.put, List.setIfInBounds_toArray, List.set_cons_zero, List.set_cons_succ, i64_w, i32_w]
              rfl
            refine pure_ (i := 8) (N := some 28) (v := ?_) (a' := ?_) #[true, true, true, true, true, true, true, true, true] rfl rfl (any_of HT_.out (by kernel_rfl)) (fun _ _ _ h => h) (Or.inl ⟨by rfl, ?_⟩) ?_ ?_
            rotate_left
            · intro w'
              go_simp
              with_reducible rfl
            rotate_left
            · simp only [Act.put, List.setIfInBounds_toArray, List.set_cons_zero, List.set_cons_succ, i64_w, i32_w]
              rfl
            refine done_ (done_of HT_.out (by kernel_rfl)) ?_
            try go_wp2
            go_ret2
            exact ⟨by first | rfl | (simp [errW_none, errW_some] <;> rfl) | (simp only [← hji6]; first | rfl | (simp [errW_none, errW_some] <;> rfl)) | (simp [*, errW_none, errW_some] <;> rfl), by repeat (first | (with_reducible first | exact HB.out | apply below_alloc | apply pw_below_drewN | apply below_drew1) | exact HB.out)⟩
          · rw [if_neg c13] at H
            have c13b0 : (t181 == t182) = false := beq_eq_false_iff_ne.mpr c13
            have c13b1 : (t181 != t182) = true := bne_iff_ne.mpr c13
            simp only [Option.some.injEq, Prod.mk.injEq] at H
            obtain ⟨rfl, rfl⟩ := H
            go_enter Try.func20, Try.ntmps20
            try go_wp2_with (first | ((with_reducible refine gate_callee (f := 55) rfl ?_); refine goesL_ (some 9) rfl rfl Try.func55 (by kernel_rfl) rfl #[.string a0] rfl (by (try simp only [List.map_toArray, List.map_cons, List.map_nil]); first | done | rfl | (simp only [List.length_drop, List.length_take]; rfl) | (refine congrArg (fun z => #[Value.int .u64 z]) ?_; rw [IntKind.wrap_u64]; omega)) ?_; (with_reducible refine (fascicleref05_Unstuff.calls k a0 t179 t180 _ A2.out).mono ?_); rintro e w19 ⟨rfl, hb⟩; refine ⟨_, rfl, ?_⟩; have n0_ := Aside0.mk (below_step (by repeat (first | (with_reducible first | exact HB.out | apply below_alloc | apply pw_below_drewN | apply below_drew1) | exact HB.out)) hb); clear HB; have HB := n0_; clear n0_; (try clear hb); (try clear hb2); (try clear hk); (try clear hi)))
            have n0_ := Aside0.mk (below_drew1 HB.out)
            clear HB
            have HB := n0_
            clear n0_
            refine start_ (n := 9) (S := fun w' => True) (ds := []) #[false, false, false, false, false, false, false, false, false] (by kernel_rfl) rfl rfl trivial (fun hHeld => ?_); refine with_tabW fascicleref09_Open.tab7 fascicleref09_Open.bits7 (fun HT_ HW_ => ?_)
            generalize w19.drew = w20 at HB hHeld ⊢
            refine pure_ (i := 0) (N := some 20) (v := ?_) (a' := ?_) #[true, false, false, false, false, false, false, false, false] rfl rfl (any_of HT_.out (by kernel_rfl)) (fun _ _ _ h => h) (Or.inl ⟨by rfl, ?_⟩) ?_ ?_
            rotate_left
            · intro w'
              go_simp
              with_reducible rfl
            rotate_left
            · simp only [Act.put, List.setIfInBounds_toArray, List.set_cons_zero, List.set_cons_succ, i64_w, i32_w]
              rfl
            refine pure_ (i := 1) (N := some 21) (v := ?_) (a' := ?_) #[true, true, false, false, false, false, false, false, false] rfl rfl (any_of HT_.out (by kernel_rfl)) (fun _ _ _ h => h) (Or.inl ⟨by rfl, ?_⟩) ?_ ?_
            rotate_left
            · intro w'
              go_simp
              with_reducible rfl
            rotate_left
            · simp only [Act.put, List.setIfInBounds_toArray, List.set_cons_zero, List.set_cons_succ, i64_w, i32_w]
              rfl
            refine pure_ (i := 2) (N := some 22) (v := ?_) (a' := ?_) #[true, true, true, false, false, false, false, false, false] rfl rfl (any_of HT_.out (by kernel_rfl)) (fun _ _ _ h => h) (Or.inl ⟨by rfl, ?_⟩) ?_ ?_
            rotate_left
            · intro w'
              go_simp
              with_reducible rfl
            rotate_left
            · simp only [Act.put, List.setIfInBounds_toArray, List.set_cons_zero, List.set_cons_succ, i64_w, i32_w]
              rfl
            refine pure_ (i := 4) (N := some 24) (v := ?_) (a' := ?_) #[true, true, true, false, true, false, false, false, false] rfl rfl (any_of HT_.out (by kernel_rfl)) (fun _ _ _ h => h) (Or.inl ⟨by rfl, ?_⟩) ?_ ?_
            rotate_left
            · intro w'
              go_simp
              with_reducible rfl
            rotate_left
            · simp only [Act.put, List.setIfInBounds_toArray, List.set_cons_zero, List.set_cons_succ, i64_w, i32_w]
              rfl
            refine pure_ (i := 5) (N := some 25) (v := ?_) (a' := ?_) #[true, true, true, false, true, true, false, false, false] rfl rfl (any_of HT_.out (by kernel_rfl)) (fun _ _ _ h => h) (Or.inl ⟨by rfl, ?_⟩) ?_ ?_
            rotate_left
            · intro w'
              go_simp
              with_reducible rfl
            rotate_left
            · simp only [Act.put, List.setIfInBounds_toArray, List.set_cons_zero, List.set_cons_succ, i64_w, i32_w]
              rfl
            refine pure_ (i := 6) (N := some 26) (v := ?_) (a' := ?_) #[true, true, true, false, true, true, true, false, false] rfl rfl (any_of HT_.out (by kernel_rfl)) (fun _ _ _ h => h) (Or.inl ⟨by rfl, ?_⟩) ?_ ?_
            rotate_left
            · intro w'
              go_simp
              with_reducible rfl
            rotate_left
            · simp only [Act.put, List.setIfInBounds_toArray, List.set_cons_zero, List.set_cons_succ, i64_w, i32_w]
              rfl
            refine one_ (i := 3) (N := some 23) #[true, true, true, true, true, true, true, false, false] rfl rfl (one_of HT_.out (by kernel_rfl)) (by decide) (fun K hK => ?_)
            refine goes_ Try.func56 (by kernel_rfl) rfl #[.string (t179.extract ((ji6) : Int).toNat t179.size)] (by rfl) rfl rfl (by (try simp only [List.map_toArray, List.map_cons, List.map_nil]); first | done | (simp only [hji6]; rfl) | rfl | (simp only [List.length_drop, List.length_take]; rfl)) ?_
            with_reducible refine (fascicleref01_Value.calls k (t179.extract ((ji6) : Int).toNat t179.size) t181 _ A9.out).mono ?_
            rintro e w' ⟨rfl, ⟨nd, rfl⟩⟩
            refine ⟨_, rfl, ?_⟩
            refine hK.out _ _ trivial (fun hHeld => ?_)
            clear hK K
            refine norm_ (a' := ?_) ?_ ?_
            rotate_left
            · show Act.put _ (some 23) _ = _
              simp only [Act.put, List.setIfInBounds_toArray, List.set_cons_zero, List.set_cons_succ, i64_w, i32_w]
              rfl
            refine one_ (i := 7) (N := some 27) #[true, true, true, true, true, true, true, true, false] rfl rfl (one_of HT_.out (by kernel_rfl)) (by decide) (fun K hK => ?_)
            refine goes_ Try.func57 (by kernel_rfl) rfl #[.int .u64 0, .string (t179.extract 0 ((ji6) : Int).toNat)] (by rfl) rfl rfl (by (try simp only [List.map_toArray, List.map_cons, List.map_nil]); first | done | (simp only [hji6]; rfl) | rfl | (simp only [List.length_drop, List.length_take]; rfl)) ?_
            with_reducible refine (fascicleref04_Sum.calls k 0 (t179.extract 0 ((ji6) : Int).toNat) t182 _ A12.out).mono ?_
            rintro e w21 ⟨rfl, hb⟩
            refine ⟨_, rfl, ?_⟩
            have n0_ := Aside0.mk (below_step (by repeat (first | (with_reducible first | exact HB.out | apply below_alloc | apply pw_below_drewN | apply below_drew1) | exact HB.out)) hb)
            clear HB
            have HB := n0_
            clear n0_
            (try clear hb)
            (try clear hb2)
            (try clear hk)
            (try clear hi)
            refine hK.out _ _ trivial (fun hHeld => ?_)
            clear hK K
            refine norm_ (a' := ?_) ?_ ?_
            rotate_left
            · show Act.put _ (some 27) _ = _
              simp only [Act.put, List.setIfInBounds_toArray, List.set_cons_zero, List.set_cons_succ, i64_w, i32_w]
              rfl
            refine pure_ (i := 8) (N := some 28) (v := ?_) (a' := ?_) #[true, true, true, true, true, true, true, true, true] rfl rfl (any_of HT_.out (by kernel_rfl)) (fun _ _ _ h => h) (Or.inl ⟨by rfl, ?_⟩) ?_ ?_
            rotate_left
            · intro w'
              go_simp
              with_reducible rfl
            rotate_left
            · simp only [Act.put, List.setIfInBounds_toArray, List.set_cons_zero, List.set_cons_succ, i64_w, i32_w]
              rfl
            refine done_ (done_of HT_.out (by kernel_rfl)) ?_
            try go_wp2
            go_ret2
            exact ⟨by first | rfl | (simp [errW_none, errW_some] <;> rfl) | (simp only [← hji6]; first | rfl | (simp [errW_none, errW_some] <;> rfl)) | (simp [*, errW_none, errW_some] <;> rfl), by repeat (first | (with_reducible first | exact HB.out | apply below_alloc | apply pw_below_drewN | apply below_drew1) | exact HB.out)⟩
        · rw [if_neg c8] at H
          exact absurd H (by simp)
      · rw [if_neg c7] at H
        exact absurd H (by simp)
  · rw [if_neg c3] at H
    have c3b0 : (t180 == 0) = false := beq_eq_false_iff_ne.mpr c3
    have c3b1 : (t180 != 0) = true := bne_iff_ne.mpr c3
    simp only [Option.some.injEq, Prod.mk.injEq] at H
    obtain ⟨rfl, rfl⟩ := H
    go_enter Try.func20, Try.ntmps20
    go_wp2_with (first | ((with_reducible refine gate_callee (f := 55) rfl ?_); refine goesL_ (some 9) rfl rfl Try.func55 (by kernel_rfl) rfl #[.string a0] rfl (by (try simp only [List.map_toArray, List.map_cons, List.map_nil]); first | done | rfl | (simp only [List.length_drop, List.length_take]; rfl) | (refine congrArg (fun z => #[Value.int .u64 z]) ?_; rw [IntKind.wrap_u64]; omega)) ?_; (with_reducible refine (fascicleref05_Unstuff.calls k a0 t179 t180 _ A2.out).mono ?_); rintro e w22 ⟨rfl, hb⟩; refine ⟨_, rfl, ?_⟩; have n0_ := Aside0.mk (below_step (by repeat (first | (with_reducible first | exact HB.out | apply below_alloc | apply pw_below_drewN | apply below_drew1) | exact HB.out)) hb); clear HB; have HB := n0_; clear n0_; (try clear hb); (try clear hb2); (try clear hk); (try clear hi)))
    go_ret2
    exact ⟨by first | rfl | (simp [errW_none, errW_some] <;> rfl) | (simp [*, errW_none, errW_some] <;> rfl), by repeat (first | (with_reducible first | exact HB.out | apply below_alloc | apply pw_below_drewN | apply below_drew1) | exact HB.out)⟩
end Go.Proofs.Ytekanmieppnpeaa.G
end
section
set_option linter.unusedVariables false
set_option linter.unusedSimpArgs false
namespace Go.Proofs.Ytekanmieppnpeaa.G
open Go Go.RowKit Go.Proofs.YtekanmieppnpeaaW.PrintWords Go.Proofs.YtekanmieppnpeaaW.PrintLast Go.Proofs.YtekanmieppnpeaaW.PrintMore Go.Proofs.Ytekanmieppnpeaa.PureKit Go.Proofs.Ytekanmieppnpeaa.Sep Go.Proofs.Ytekanmieppnpeaa.Rol
theorem mix4_l0 (x n : Nat) (hx : x < 18446744073709551616) (hn : n ≤ 64) : ∀ (d i : Nat), i + d = n → Ev (fun k => fascicleref04_mix.l0 k (x : Int) ((x / 2 ^ i : Nat) : Int) (n : Int) (i : Int)) ((wmix n x : Nat) : Int) := by
  intro d
  induction d with
  | zero =>
    intro i hi
    refine Ev.step (f := fun _ => some ((wmix n x : Nat) : Int)) (fun k => ?_) (Ev.now _)
    simp only [fascicleref04_mix.l0]
    rw [if_neg (by omega), show i = n by omega, bits_xor_u64_nat _ _ hx (Nat.lt_of_le_of_lt (Nat.div_le_self _ _) hx)]
    rfl
  | succ d ih =>
    intro i hi
    refine Ev.step (fun k => ?_) (ih (i + 1) (by omega))
    have hle : x / 2 ^ i ≤ x := Nat.div_le_self _ _
    simp only [fascicleref04_mix.l0]
    rw [Nat.pow_succ, ← Nat.div_div_eq_div_mul]
    generalize x / 2 ^ i = y at *
    rw [if_pos (by omega), Int.tdiv_eq_ediv_of_nonneg (by omega), wu64 (by omega) (by omega), w64 (by omega) (by omega)]
    congr 1
theorem mix4_ev (x n : Nat) (hx : x < 18446744073709551616) (hn : n ≤ 64) : Ev (fun k => fascicleref04_mix.f k (x : Int) (n : Int)) ((wmix n x : Nat) : Int) := by
  have h := mix4_l0 x n hx hn n 0 (by omega)
  rw [Nat.pow_zero, Nat.div_one] at h
  exact h
theorem value_ev (l : List Int) (hb : Bytes l) (hl : l.length ≤ 8) : Ev (fun k => fascicleref01_Value.f k (strOfNums l)) ((leb l : Nat) : Int) := by
  have h := value_l0 l hb hl l.length (Nat.le_refl _)
  rw [List.drop_length] at h
  unfold fascicleref01_Value.f
  rw [nums_size, w64 (by omega) (by omega)]
  exact h
theorem ref4_l2 (r : List Int) (hb : Bytes r) (hl : r.length ≤ 8) (h : Nat) (hh : h < 18446744073709551616) : ∀ (d i : Nat), i + d = r.length → Ev (fun k => fascicleref04_Sum.l2 k (strOfNums r) ((wbytes h (r.take i) : Nat) : Int) (i : Int)) ((wfin (wbytes h r) : Nat) : Int) := by
  intro d
  induction d with
  | zero =>
    intro i hi
    have hz := wbytes_lt h hh r
    obtain ⟨z, hz'⟩ : ∃ z, wbytes h r = z := ⟨_, rfl⟩
    rw [show i = r.length by omega, List.take_length, hz']
    rw [hz'] at hz
    obtain ⟨a1, h1⟩ : ∃ a, wmix 33 z * 14029467366897019727 % 18446744073709551616 = a := ⟨_, rfl⟩
    obtain ⟨a2, h2⟩ : ∃ a, wmix 29 a1 * 1609587929392839161 % 18446744073709551616 = a := ⟨_, rfl⟩
    have e1 := mix4_ev z 33 hz (by decide)
    have e2 := mix4_ev a1 29 (h1 ▸ mod_lt64 _) (by decide)
    have e3 := mix4_ev a2 32 (h2 ▸ mod_lt64 _) (by decide)
    have g1 : IntKind.u64.wrap (((wmix 33 z : Nat) : Int) * 14029467366897019727) = (a1 : Int) := by rw [← h1]; exact mul_step _ 14029467366897019727
    have g2 : IntKind.u64.wrap (((wmix 29 a1 : Nat) : Int) * 1609587929392839161) = (a2 : Int) := by rw [← h2]; exact mul_step _ 1609587929392839161
    have hf : wfin z = wmix 32 a2 := by rw [wfin, h1, h2]
    rw [hf]
    have step : Ev (fun k => (fascicleref04_mix.f k (z : Int) ((33 : Nat) : Int)).bind fun t => (fascicleref04_mix.f k (IntKind.u64.wrap (t * 14029467366897019727)) ((29 : Nat) : Int)).bind fun u => (fascicleref04_mix.f k (IntKind.u64.wrap (u * 1609587929392839161)) ((32 : Nat) : Int)).bind fun v => some v) ((wmix 32 a2 : Nat) : Int) := by
      refine Ev.bind e1 ?_
      rw [g1]
      refine Ev.bind e2 ?_
      rw [g2]
      exact Ev.bind e3 (Ev.now _)
    refine Ev.step (fun k => ?_) step
    simp only [fascicleref04_Sum.l2]
    rw [nums_size, if_neg (by omega)]
    rfl
  | succ d ih =>
    intro i hi
    have hu := wbytes_lt h hh (r.take i)
    have hnext := wbytes_take r h i (by omega)
    have hyb := hb r[i] (List.getElem_mem (by omega))
    have hbt := bt_nums r hb i (by omega)
    obtain ⟨u, hu'⟩ : ∃ u, wbytes h (r.take i) = u := ⟨_, rfl⟩
    rw [hu'] at hu hnext ⊢
    obtain ⟨y5, hy⟩ : ∃ y, r[i]'(by omega) = y := ⟨_, rfl⟩
    rw [hy] at hnext hyb hbt
    obtain ⟨b5, rfl⟩ := Int.eq_ofNat_of_zero_le hyb.1
    obtain ⟨q5, z5, t5, z6, g1, g2, g3, g4, g5, g6⟩ := wbyte_step u b5 hu
    have e1 := turn4_ev z5 11 g3 (by decide)
    rw [g4] at e1
    have hrec := ih (i + 1) (by omega)
    rw [hnext, g6] at hrec
    have step : Ev (fun k => (fascicleref04_turn.f k (z5 : Int) ((11 : Nat) : Int)).bind fun t => fascicleref04_Sum.l2 k (strOfNums r) (IntKind.u64.wrap (t * 11400714785074694791)) ((i + 1 : Nat) : Int)) ((wfin (wbytes h r) : Nat) : Int) := by
      refine Ev.bind e1 ?_
      rw [g5]
      exact hrec
    refine Ev.step (fun k => ?_) step
    simp only [fascicleref04_Sum.l2]
    rw [nums_size, if_pos (by omega), if_pos (by omega), hbt, wu64 (x := ((b5 : Nat) : Int)) (by omega) (by omega), g1, g2, w64 (by omega) (by omega)]
    rfl
theorem ref4_l1b (r : List Int) (hb : Bytes r) (hl : r.length < 4) (h : Nat) (hh : h < 18446744073709551616) : Ev (fun k => fascicleref04_Sum.l1 k (strOfNums r) (h : Int)) ((wfin (wbytes h r) : Nat) : Int) := by
  have h2 := ref4_l2 r hb (by omega) h hh r.length 0 (by omega)
  refine Ev.step (fun k => ?_) h2
  simp only [fascicleref04_Sum.l1]
  rw [nums_size, if_neg (by omega), List.take_zero]
  rfl
theorem ref4_l1 (r : List Int) (hb : Bytes r) (hl : r.length < 8) (h : Nat) (hh : h < 18446744073709551616) : Ev (fun k => fascicleref04_Sum.l1 k (strOfNums r) (h : Int)) ((wfin (wlast h r) : Nat) : Int) := by
  by_cases h4 : r.length < 4
  · rw [wlast, if_pos h4]
    exact ref4_l1b r hb h4 h hh
  · rw [wlast, if_neg h4]
    obtain ⟨y, q4, z, t, z1, z2, e1, e2, e3, e4, e5, e6, e7, e8⟩ := wfour_step h r hh hb
    have hv := value_ev (r.take 4) (hb.take _) (by rw [List.length_take]; omega)
    rw [e1] at hv
    have ht := turn4_ev z 23 e4 (by decide)
    rw [e5] at ht
    have hrec := ref4_l1b (r.drop 4) (hb.drop 4) (by rw [List.length_drop]; omega) z2 (by rw [← e8]; exact wfour_lt _ _)
    rw [e8]
    have step : Ev (fun k => (fascicleref01_Value.f k (strOfNums (r.take 4))).bind fun v => (fascicleref04_turn.f k (bits .xor .u64 (h : Int) (IntKind.u64.wrap (v * 11400714785074694791))) ((23 : Nat) : Int)).bind fun u => fascicleref04_Sum.l1 k (strOfNums (r.drop 4)) (IntKind.u64.wrap (IntKind.u64.wrap (u * 14029467366897019727) + 1609587929392839161))) ((wfin (wbytes z2 (r.drop 4)) : Nat) : Int) := by
      refine Ev.bind hv ?_
      rw [e2, e3]
      refine Ev.bind ht ?_
      rw [e6, e7]
      exact hrec
    refine Ev.step (fun k => ?_) step
    have hx1 : (strOfNums r).extract 0 4 = strOfNums (r.take 4) := by rw [nums_extract, List.drop_zero]
    have hx2 : (strOfNums r).extract 4 r.length = strOfNums (r.drop 4) := by rw [nums_extract, List.take_of_length_le (by omega)]
    simp only [fascicleref04_Sum.l1]
    rw [nums_size, if_pos (by omega), if_pos (by omega), if_pos (by omega), hx1, hx2]
    rfl
theorem wtail_small (h : Nat) (r : List Int) (hl : r.length < 8) : wtail h r = wlast h r := by
  unfold wtail
  rw [show r.length / 8 = 0 by omega]
  rfl
theorem wtail_step (h : Nat) (r : List Int) (hl : 8 ≤ r.length) : wtail h r = wtail (weight h r) (r.drop 8) := by
  unfold wtail
  rw [List.length_drop, show r.length / 8 = (r.length - 8) / 8 + 1 by omega, weights, List.drop_drop]
  congr 2
  omega
theorem ref4_l0 : ∀ (n : Nat) (r : List Int) (hb : Bytes r) (hn : r.length / 8 = n) (h : Nat) (hh : h < 18446744073709551616), Ev (fun k => fascicleref04_Sum.l0 k (strOfNums r) (h : Int)) ((wfin (wtail h r) : Nat) : Int) := by
  intro n
  induction n with
  | zero =>
    intro r hb hn h hh
    rw [wtail_small h r (by omega)]
    refine Ev.step (fun k => ?_) (ref4_l1 r hb (by omega) h hh)
    simp only [fascicleref04_Sum.l0]
    rw [nums_size, if_neg (by omega)]
  | succ n ih =>
    intro r hb hn h hh
    obtain ⟨y, wy, z, t, z1, z2, e1, e2, e3, e4, e5, e6, e7, e8, e9⟩ := weight_step h r hh hb
    have hv := value_ev (r.take 8) (hb.take _) (by rw [List.length_take]; omega)
    rw [e1] at hv
    have hi := into4_ev 0 y (by decide) e2
    rw [e3] at hi
    have ht := turn4_ev z 27 e5 (by decide)
    rw [e6] at ht
    have hrec := ih (r.drop 8) (hb.drop 8) (by rw [List.length_drop]; omega) z2 (by rw [← e9]; exact weight_lt _ _)
    rw [wtail_step h r (by omega), e9]
    have step : Ev (fun k => (fascicleref01_Value.f k (strOfNums (r.take 8))).bind fun v => (fascicleref04_into.f k ((0 : Nat) : Int) v).bind fun q => (fascicleref04_turn.f k (bits .xor .u64 (h : Int) q) ((27 : Nat) : Int)).bind fun u => fascicleref04_Sum.l0 k (strOfNums (r.drop 8)) (IntKind.u64.wrap (IntKind.u64.wrap (u * 11400714785074694791) + 9650029242287828579))) ((wfin (wtail z2 (r.drop 8)) : Nat) : Int) := by
      refine Ev.bind hv ?_
      refine Ev.bind hi ?_
      rw [e4]
      refine Ev.bind ht ?_
      rw [e7, e8]
      exact hrec
    refine Ev.step (fun k => ?_) step
    have hx1 : (strOfNums r).extract 0 8 = strOfNums (r.take 8) := by rw [nums_extract, List.drop_zero]
    have hx2 : (strOfNums r).extract 8 r.length = strOfNums (r.drop 8) := by rw [nums_extract, List.take_of_length_le (by omega)]
    simp only [fascicleref04_Sum.l0]
    rw [nums_size, if_pos (by omega), if_pos (by omega), if_pos (by omega), hx1, hx2]
    rfl
theorem ref4_ev (a : Int) (l : List Int) (h0 : 0 ≤ a) (h1 : a < 18446744073709551616) (hb : Bytes l) (hl : l.length ≤ 1000000000000) : Ev (fun k => fascicleref04_Sum.f k a (strOfNums l)) ((wsum a.toNat l : Nat) : Int) := by
  obtain ⟨s, rfl⟩ := Int.eq_ofNat_of_zero_le h0
  rw [Int.toNat_natCast]
  have hs : s < 18446744073709551616 := by omega
  unfold fascicleref04_Sum.f
  have hw : IntKind.u64.wrap ((l.length : Nat) : Int) = (l.length : Int) := wu64 (by omega) (by omega)
  have hq := wstart_lt s l
  have key : Ev (fun k => fascicleref04_Sum.j0 k (strOfNums (wrest l)) (l.length : Int) ((wstart s l : Nat) : Int)) ((wsum s l : Nat) : Int) := by
    rw [wsum]
    refine Ev.step (fun k => ?_) (ref4_l0 _ (wrest l) (hb.drop _) rfl ((wstart s l + l.length) % 18446744073709551616) (mod_lt64 _))
    simp only [fascicleref04_Sum.j0]
    rw [add_step]
  by_cases c : l.length < 32
  · have e1 : wrest l = l := by unfold wrest; rw [show l.length / 32 = 0 by omega]; rfl
    have e2 : IntKind.u64.wrap ((s : Int) + 2870177450012600261) = ((wstart s l : Nat) : Int) := by
      rw [wstart, wbeg, if_pos c]
      exact add_step s 2870177450012600261
    rw [e1] at key
    refine Ev.congr (fun k => ?_) key
    rw [nums_size, if_neg (by omega), hw, e2]
  · refine Ev.congr (fun k => ?_) key
    rw [nums_size, if_pos (by omega), hw]
    have hbg : fascicleref04_begin.f (s : Int) (strOfNums l) = some (((wout (wvs s l) : Nat) : Int), strOfNums (wrest l)) := by
      unfold fascicleref04_begin.f
      rw [if_pos ⟨h0, h1, by rw [nums_size]; exact hl⟩, sby_nums l hb, Int.toNat_natCast]
    rw [hbg, Option.bind_some, wstart, wbeg, if_neg c]
end Go.Proofs.Ytekanmieppnpeaa.G
end
section
set_option linter.unusedVariables false
set_option linter.unusedSimpArgs false
namespace Go.Proofs.Ytekanmieppnpeaa.G
open Go Go.RowKit Go.Proofs.YtekanmieppnpeaaW.PrintWords Go.Proofs.YtekanmieppnpeaaW.PrintLast Go.Proofs.YtekanmieppnpeaaW.PrintMore Go.Proofs.Ytekanmieppnpeaa.PureKit Go.Proofs.Ytekanmieppnpeaa.Sep
theorem lev_leb : ∀ (l : List Int), Bytes l → lev l = ((Rol.leb l : Nat) : Int)
  | [], _ => rfl
  | b :: s, h => by
    have := lev_leb s h.tail
    have hb := h.head
    simp only [lev, Rol.leb]
    rw [this]
    omega
end Go.Proofs.Ytekanmieppnpeaa.G
end
section
set_option linter.unusedVariables false
set_option linter.unusedSimpArgs false
namespace Go.Proofs.Ytekanmieppnpeaa.G
open Go Go.RowKit Go.Proofs.YtekanmieppnpeaaW.PrintWords Go.Proofs.YtekanmieppnpeaaW.PrintLast Go.Proofs.YtekanmieppnpeaaW.PrintMore Go.Proofs.Ytekanmieppnpeaa.PureKit Go.Proofs.Ytekanmieppnpeaa.Sep Go.Proofs.Ytekanmieppnpeaa.Rol Go.Proofs.Ytekanmieppnpeaa.LCobs
theorem ref_open (l : List Int) (hb : Bytes l) (hl : l.length ≤ 90000) : Ev (fun k => fascicleref09_Open.f k (strOfNums l)) (strOfNums (opnb l).1, (opnb l).2) := by
  unfold fascicleref09_Open.f
  have h1 : Ev (fun k => fascicleref05_Unstuff.f k (strOfNums l)) (strOfNums (unst l).1, (unst l).2) := ref_unstuff_f l hb (by omega)
  obtain ⟨hub, hul, _, hu1⟩ := unst_facts l hb
  refine Ev.bind h1 ?_
  unfold opnb
  generalize unst l = u at *
  obtain ⟨b, e⟩ := u
  dsimp only at hub hul hu1 ⊢
  by_cases he : e = 0
  · subst he
    have z0 : ¬ ((0 : Int) ≠ 0) := by simp
    rw [nums_size, if_neg z0]
    simp only [if_true]
    by_cases h8 : b.length < 8
    · have c1 : wrap64 ((b.length : Int) - 8) < 0 := by rw [w64 (by omega) (by omega)]; omega
      simp only [if_pos c1, if_pos h8]
      rw [nums_empty]
      exact Ev.now _
    · obtain ⟨m, hm⟩ : ∃ m : Nat, b.length = m + 8 := ⟨b.length - 8, by omega⟩
      have hw : wrap64 ((b.length : Int) - 8) = (m : Int) := by rw [w64 (by omega) (by omega)]; omega
      have d1 : ¬ ((m : Int) < 0) := by omega
      have d2 : (0 : Int) ≤ (m : Int) := by omega
      have d3 : (m : Int) ≤ (b.length : Int) := by omega
      rw [hw]
      simp only [if_neg d1, if_pos d2, if_pos d3, if_neg h8]
      rw [Int.toNat_natCast, show b.length - 8 = m by omega]
      have hx1 : (strOfNums b).extract m b.length = strOfNums (b.drop m) := by rw [nums_extract, List.take_of_length_le (by omega)]
      have hx2 : (strOfNums b).extract 0 m = strOfNums (b.take m) := by rw [nums_extract, List.drop_zero]
      rw [hx1, hx2]
      have hv := value_ev (b.drop m) (hub.drop m) (by rw [List.length_drop]; omega)
      have hs := ref4_ev 0 (b.take m) (by decide) (by decide) (hub.take m) (by rw [List.length_take]; omega)
      rw [lev_leb _ (hub.drop m)]
      refine Ev.bind hv ?_
      refine Ev.bind hs ?_
      rw [show (0 : Int).toNat = 0 from rfl]
      by_cases hq : ((leb (b.drop m) : Nat) : Int) = ((wsum 0 (b.take m) : Nat) : Int)
      · rw [if_pos hq, if_neg (by simpa using hq)]
        exact Ev.now _
      · rw [if_neg hq, if_pos hq, nums_empty]
        exact Ev.now _
  · have he2 : e ≠ 0 := he
    simp only [if_neg he]
    rw [if_pos he2, nums_empty]
    exact Ev.now _
end Go.Proofs.Ytekanmieppnpeaa.G
end
section
set_option linter.unusedVariables false
set_option linter.unusedSimpArgs false
namespace Go.Proofs.Ytekanmieppnpeaa.Tb
open Go Go.RowKit Go.Proofs.Ytekanmieppnpeaa.G Go.Proofs.YtekanmieppnpeaaW.PrintWords Go.Proofs.YtekanmieppnpeaaW.PrintLast Go.Proofs.YtekanmieppnpeaaW.PrintMore Go.Proofs.Ytekanmieppnpeaa.PureKit Go.Proofs.Ytekanmieppnpeaa.Sep Go.Proofs.Ytekanmieppnpeaa.Fe Go.Proofs.Ytekanmieppnpeaa.LCobs
set_option maxRecDepth 100000
def fencesN (l : List E1) (i : Nat) : List Int := (List.range (chunks i)).map (fenceAt l)
theorem fencesN_len (l : List E1) (i : Nat) : (fencesN l i).length = chunks i := by unfold fencesN; rw [List.length_map, List.length_range]
theorem fencesN_hit (l : List E1) (i : Nat) (h : i % 16 = 0) (x : E1) (hx : l[i]? = some x) : fencesN l (i + 1) = fencesN l i ++ [x.f0] := by
  have h1 : chunks (i + 1) = chunks i + 1 := by unfold chunks; omega
  have h2 : 16 * chunks i = i := by unfold chunks; omega
  unfold fencesN
  rw [h1, List.range_succ, List.map_append]
  congr 1
  show [fenceAt l (chunks i)] = [x.f0]
  unfold fenceAt
  rw [h2, rdE l i x hx]
theorem fencesN_miss (l : List E1) (i : Nat) (h : i % 16 ≠ 0) : fencesN l (i + 1) = fencesN l i := by
  have h1 : chunks (i + 1) = chunks i := by unfold chunks; omega
  unfold fencesN
  rw [h1]
theorem tmod16 (i : Nat) : (Int.tmod (i : Int) 16 = 0) ↔ i % 16 = 0 := by
  rw [Int.tmod_eq_emod_of_nonneg (by omega)]; omega
theorem refof_loop (l : List E1) (hl : l.length ≤ 1000000) : ∀ (d i : Nat), i + d = l.length → Ev (fun k => fascicleref12_Of.l0 k (fencesN l i) (refsE l) (l.length : Int) (i : Int)) (fencesE l)
  | 0, i, h => by
    refine Ev.step (f := fun _ => some (fencesN l i)) (fun k => ?_) (ev_eq (Ev.now _) (by rw [show i = l.length by omega]; rfl))
    unfold fascicleref12_Of.l0
    rw [if_neg (by omega)]
  | d + 1, i, h => by
    obtain ⟨x, hx⟩ : ∃ x, l[i]? = some x := ⟨_, List.getElem?_eq_getElem (by omega)⟩
    have hlen : (fencesN l i).length < 17592186044416 := by rw [fencesN_len]; unfold chunks; omega
    refine Ev.step (f := fun k => fascicleref12_Of.l0 k (fencesN l (i + 1)) (refsE l) (l.length : Int) ((i + 1 : Nat) : Int)) (fun k => ?_) (refof_loop l hl d (i + 1) (by omega))
    simp only [fascicleref12_Of.l0]
    rw [if_pos (by omega), if_pos (by omega), if_pos (by rw [refsE_len]; omega), rdR l i x hx, inc64 (by omega)]
    by_cases hm : i % 16 = 0
    · rw [if_pos ((tmod16 i).2 hm), if_pos hlen, fencesN_hit l i hm x hx]
      rfl
    · rw [if_neg (fun hh => hm ((tmod16 i).1 hh)), fencesN_miss l i hm]
theorem refof_ev (l : List E1) (hl : l.length ≤ 1000000) : Ev (fun k => fascicleref12_Of.f k (refsE l)) (fencesE l) := by
  have := refof_loop l hl l.length 0 (by omega)
  unfold fascicleref12_Of.f
  rw [refsE_len]
  exact this
def anyAbove (u : Int) (l : List E1) : Bool := l.any fun x => decide (x.f1 ≥ u)
theorem check13_loop (u : Int) (l : List E1) (hl : l.length ≤ 1000000) : ∀ (d i : Nat), i + d = l.length → Ev (fun k => fascicleref13_Check.l0 k (refsE l) (l.length : Int) (i : Int) u (refsE l)) (if anyAbove u (l.drop i) = true then 4 else 0)
  | 0, i, h => by
    rw [List.drop_of_length_le (by omega)]
    refine Ev.step (f := fun _ => some 0) (fun k => ?_) (Ev.now _)
    unfold fascicleref13_Check.l0
    rw [if_neg (by omega)]
  | d + 1, i, h => by
    obtain ⟨x, hx⟩ : ∃ x, l[i]? = some x := ⟨_, List.getElem?_eq_getElem (by omega)⟩
    have hd := drop_at hx
    by_cases hq : x.f1 ≥ u
    · have : anyAbove u (l.drop i) = true := by rw [hd]; unfold anyAbove; rw [List.any_cons, decide_eq_true hq, Bool.true_or]
      rw [if_pos this]
      refine Ev.step (f := fun _ => some 4) (fun k => ?_) (Ev.now _)
      simp only [fascicleref13_Check.l0]
      rw [if_pos (by omega), if_pos (by omega), if_pos (by rw [refsE_len]; omega), rdR l i x hx, if_pos (show (toR x).f1 ≥ u from hq)]
    · have : anyAbove u (l.drop i) = anyAbove u (l.drop (i + 1)) := by rw [hd]; unfold anyAbove; rw [List.any_cons, decide_eq_false hq, Bool.false_or]
      rw [this]
      refine Ev.step (fun k => ?_) (check13_loop u l hl d (i + 1) (by omega))
      simp only [fascicleref13_Check.l0]
      rw [if_pos (by omega), if_pos (by omega), if_pos (by rw [refsE_len]; omega), rdR l i x hx, if_neg (show ¬ (toR x).f1 ≥ u from hq), inc64 (by omega)]
theorem check13_ev (u : Int) (l : List E1) (hl : l.length ≤ 1000000) : Ev (fun k => fascicleref13_Check.f k u (refsE l)) (checkF u l) := by
  unfold fascicleref13_Check.f checkF
  by_cases h0 : l.length = 0
  · rw [if_pos h0]
    refine Ev.congr (f := fun _ => some 4) (fun k => ?_) (Ev.now _)
    rw [if_pos (by rw [refsE_len]; omega)]
  · rw [if_neg h0]
    refine Ev.congr (f := ?_) (fun k => ?_) ?_
    rotate_left
    · rw [if_neg (by rw [refsE_len]; omega), if_neg (by rw [refsE_len]; omega)]
    refine Ev.bind (refrise_ev l hl) ?_
    cases hr : riseE l with
    | false =>
      rw [if_pos rfl]
      exact Ev.congr (f := fun _ => some 8) (fun k => if_neg (by decide)) (Ev.now _)
    | true =>
      rw [if_neg (by decide)]
      have h := check13_loop u l hl l.length 0 (by omega)
      rw [List.drop_zero] at h
      refine Ev.congr (fun k => ?_) h
      rw [if_pos rfl, refsE_len]
      rfl
theorem value_nil : Ev (fun k => fascicleref01_Value.f k ⟨#[]⟩) 0 := value_f [] Bytes.nil (by decide)
theorem get_err (S : ByteArray) (a e n : Int) (he : e ≠ 0) : Ev (fun k => fascicleref01_Get.f k S a e n) (S, a, e, 0) := by
  unfold fascicleref01_Get.f
  have h : Ev (fun k => fascicleref01_Take.f k S a e n) (S, a, e, ⟨#[]⟩) := by
    refine Ev.step (f := fun _ => some (S, a, e, ⟨#[]⟩)) (fun k => ?_) (Ev.now _)
    unfold fascicleref01_Take.f
    rw [if_neg he]
    simp only [fascicleref01_Take.j0]
    rw [if_pos trivial]
  refine Ev.bind h ?_
  exact Ev.bind value_nil (Ev.now _)
theorem end_err (S : ByteArray) (a e : Int) (he : e ≠ 0) : fascicleref01_End.f S a e = some (S, a, e) := by
  unfold fascicleref01_End.f fascicleref01_Fail.f
  rw [if_neg he, Option.bind_some]
  split <;> rfl
theorem ents_drop (b : List Int) (p q n : Nat) : entsAt (b.drop p) q n = entsAt b (p + q) n := by
  unfold entsAt
  apply List.map_congr_left
  intro k _
  unfold entAt
  rw [← lev_at, ← lev_at, ← lev_at, ← lev_at, List.drop_drop, List.drop_drop]
  congr 4 <;> omega
theorem fens_drop (b : List Int) (p q n : Nat) : fensAt (b.drop p) q n = fensAt b (p + q) n := by
  unfold fensAt
  apply List.map_congr_left
  intro k _
  unfold fenAt
  rw [← lev_at, ← lev_at, List.drop_drop]
  congr 3
  omega
theorem fbytesL_inj {x y : List Int} (hx : ∀ z ∈ x, 0 ≤ z ∧ z < 18446744073709551616) (hy : ∀ z ∈ y, 0 ≤ z ∧ z < 18446744073709551616) (h : fbytesL x = fbytesL y) : x = y := by
  have hl : x.length = y.length := by have := congrArg List.length h; rw [fbytesL_len, fbytesL_len] at this; omega
  rw [← fens_fbytesL x hx, ← fens_fbytesL y hy, h, hl]
theorem fensAt_ok (b : List Int) (hb : Bytes b) (p n : Nat) (h : p + 8 * n ≤ b.length) : ∀ z ∈ fensAt b p n, 0 ≤ z ∧ z < 18446744073709551616 := by
  intro z hz
  unfold fensAt at hz
  obtain ⟨k, hk, rfl⟩ := List.mem_map.1 hz
  have := List.mem_range.1 hk
  have h8 := lev_lt b (p + 8 * k) 8 hb (by omega)
  rw [show (256 : Int) ^ 8 = 18446744073709551616 by decide] at h8
  exact h8
theorem entsAt_ok (b : List Int) (hb : Bytes b) (p n : Nat) (h : p + 12 * n ≤ b.length) : ∀ z ∈ entsAt b p n, OkE z := by
  intro z hz
  unfold entsAt at hz
  obtain ⟨k, hk, rfl⟩ := List.mem_map.1 hz
  have := List.mem_range.1 hk
  have h8 := lev_lt b (p + 12 * k) 8 hb (by omega)
  have h4 := lev_lt b (p + 12 * k + 8) 4 hb (by omega)
  rw [show (256 : Int) ^ 8 = 18446744073709551616 by decide] at h8
  rw [show (256 : Int) ^ 4 = 4294967296 by decide] at h4
  exact ⟨h8.1, h8.2, h4.1, show lev ((b.take (p + 12 * k + 8 + 4)).drop (p + 12 * k + 8)) ≤ 4294967295 by omega⟩
theorem fences_ok {l : List E1} (hok : ∀ x ∈ l, OkE x) : ∀ y ∈ fencesE l, 0 ≤ y ∧ y < 18446744073709551616 := by
  intro y hy
  obtain ⟨k, hk, rfl⟩ := List.mem_map.1 hy
  have hkl : 16 * k < l.length := by have := List.mem_range.1 hk; unfold chunks at this; omega
  unfold fenceAt
  rw [rdE l (16 * k) _ (List.getElem?_eq_getElem hkl)]
  have := hok _ (List.getElem_mem hkl)
  exact ⟨this.1, this.2.1⟩
end Go.Proofs.Ytekanmieppnpeaa.Tb
end
section
set_option linter.unusedVariables false
set_option linter.unusedSimpArgs false
namespace Go.Proofs.Ytekanmieppnpeaa.Tb
open Go Go.RowKit Go.Proofs.Ytekanmieppnpeaa.G Go.Proofs.YtekanmieppnpeaaW.PrintWords Go.Proofs.YtekanmieppnpeaaW.PrintLast Go.Proofs.YtekanmieppnpeaaW.PrintMore Go.Proofs.Ytekanmieppnpeaa.PureKit Go.Proofs.Ytekanmieppnpeaa.Sep Go.Proofs.Ytekanmieppnpeaa.Fe Go.Proofs.Ytekanmieppnpeaa.LCobs
set_option maxRecDepth 100000
abbrev C11 (S : ByteArray) (a e n : Int) (S' : ByteArray) (a' e' : Int) (T : List E1) : Prop := ∀ w : World, Calls Try.prog 87 #[.agg #[.string S, .int .i64 a, .int .i64 e], .int .i64 n] w fun r w' => ∃ v : Value, r = .returned (.tuple #[.agg #[.string S', .int .i64 a', .int .i64 e'], v]) ∧ Kd.R kR 135 w' w.heap.size (fun _ => True) v (refsE T) ∧ Below w.heap.size w w'
abbrev C12 (S : ByteArray) (a e n : Int) (S' : ByteArray) (a' e' : Int) (F : List Int) : Prop := ∀ w : World, Calls Try.prog 88 #[.agg #[.string S, .int .i64 a, .int .i64 e], .int .i64 n] w fun r w' => ∃ v : Value, r = .returned (.tuple #[.agg #[.string S', .int .i64 a', .int .i64 e'], v]) ∧ Kd.R (Kd.int .u64) 30 w' w.heap.size (fun _ => True) v F ∧ Below w.heap.size w w'
theorem c11E (S : ByteArray) (a e n : Int) (he : e ≠ 0) : C11 S a e n S a e [] := fun w => ref11_callE w S a e n he
theorem c12E (S : ByteArray) (a e n : Int) (he : e ≠ 0) : C12 S a e n S a e [] := fun w => ref12_callE w S a e n he
theorem end_nil (S : ByteArray) (a : Int) (h : S.toList = []) : fascicleref01_End.f S a 0 = some (S, a, 0) := by
  unfold fascicleref01_End.f
  rw [if_pos h]
theorem end_long (S : ByteArray) (a : Int) (h : ¬ S.toList = []) : fascicleref01_End.f S a 0 = some (S, a, 3) := by
  unfold fascicleref01_End.f
  rw [if_neg h, fail12, Option.bind_some]
def Chain (S1 : ByteArray) (a1 e1 N M : Int) (r : Int × Int × List E1 × List Int) : Prop :=
  ∃ (k : Nat) (S2 : ByteArray) (a2 e2 U : Int) (S3 : ByteArray) (a3 e3 : Int) (T : List E1) (S4 : ByteArray) (a4 e4 : Int) (F : List Int) (S5 : ByteArray) (a5 e5 : Int),
    fascicleref01_Get.f k S1 a1 e1 4 = some (S2, a2, e2, U) ∧ C11 S2 a2 e2 N S3 a3 e3 T ∧ C12 S3 a3 e3 M S4 a4 e4 F ∧ fascicleref01_End.f S4 a4 e4 = some (S5, a5, e5) ∧
    ((e5 ≠ 0 ∧ r = ffail e5) ∨ (e5 = 0 ∧ r = (0, U, T, F) ∧ 0 ≤ U ∧ U < 4294967296 ∧ T.length ≤ 90000 ∧ F.length ≤ 90000 ∧ (∀ z ∈ T, OkE z) ∧ (∀ z ∈ F, 0 ≤ z ∧ z < 18446744073709551616)))
theorem chainE (S1 : ByteArray) (a1 e1 N M : Int) (he : e1 ≠ 0) : Chain S1 a1 e1 N M (ffail e1) := by
  obtain ⟨k, hk⟩ := (get_err S1 a1 e1 4 he).rounds
  exact ⟨k, _, _, _, _, _, _, _, _, _, _, _, _, _, _, _, hk, c11E _ _ _ _ he, c12E _ _ _ _ he, end_err _ _ _ he, .inl ⟨he, rfl⟩⟩
theorem chain (b : List Int) (hb : Bytes b) (hl : b.length ≤ 90000) (n : Nat) (hn : n ≤ 1048576) (h5 : 5 ≤ b.length) : Chain (strOfNums (b.drop 5)) 4 0 (n : Int) ((chunks n : Nat) : Int) (if b.length < 9 then ffail 2 else footrun2 b n) := by
  by_cases h9 : b.length < 9
  · rw [if_pos h9]
    obtain ⟨k, hk⟩ := (getn_short (b.drop 5) 4 4 (by decide) (by rw [List.length_drop]; omega)).rounds
    exact ⟨k, _, _, _, _, _, _, _, _, _, _, _, _, _, _, _, hk, c11E _ _ _ _ (by decide), c12E _ _ _ _ (by decide), end_err _ _ _ (by decide), .inl ⟨by decide, rfl⟩⟩
  rw [if_neg h9]
  have hU := lev_lt b 5 4 hb (by omega)
  rw [show (256 : Int) ^ 4 = 4294967296 by decide] at hU
  obtain ⟨k, hk⟩ := (getn_some (b.drop 5) 4 4 (by decide) (by decide) (hb.drop _) (by rw [List.length_drop]; omega) (by decide) (by decide)).rounds
  rw [lev_at, List.drop_drop, show 5 + 4 = 9 from rfl, show (4 : Int) + ((4 : Nat) : Int) = 8 from rfl] at hk
  have hs9 : (b.drop 9).length = b.length - 9 := List.length_drop
  have c11 := fun w => ref11_call w (b.drop 9) (hb.drop _) 8 (by decide) (by decide) (by omega) n
  unfold footrun2
  unfold g11 at c11
  by_cases ht : b.length < 9 + 12 * n
  · rw [if_pos ht]
    rw [if_pos (by omega)] at c11
    dsimp only at c11
    exact ⟨k, _, _, _, _, _, _, _, [], _, _, _, _, _, _, _, hk, c11, c12E _ _ _ _ (by decide), end_err _ _ _ (by decide), .inl ⟨by decide, rfl⟩⟩
  rw [if_neg ht]
  rw [if_neg (by omega)] at c11
  unfold ref11g at c11
  rw [ents_drop, Nat.add_zero, List.drop_drop] at c11
  cases hr : riseE (entsAt b 9 n) with
  | false =>
    rw [if_pos rfl]
    rw [hr, if_neg (by decide)] at c11
    dsimp only at c11
    exact ⟨k, _, _, _, _, _, _, _, [], _, _, _, _, _, _, _, hk, c11, c12E _ _ _ _ (by decide), end_err _ _ _ (by decide), .inl ⟨by decide, rfl⟩⟩
  | true =>
    rw [if_neg (by decide)]
    rw [hr, if_pos rfl] at c11
    dsimp only at c11
    rw [show (8 : Int) + 12 * (n : Int) = ((8 + 12 * n : Nat) : Int) by omega] at c11
    have hs2 : (b.drop (9 + 12 * n)).length = b.length - (9 + 12 * n) := List.length_drop
    have c12 := fun w => ref12_call w (b.drop (9 + 12 * n)) (hb.drop _) ((8 + 12 * n : Nat) : Int) (by omega) (by omega) (by omega) (chunks n)
    unfold g12 at c12
    by_cases hf : b.length < 9 + 12 * n + 8 * chunks n
    · rw [if_pos hf]
      rw [if_pos (by omega)] at c12
      dsimp only at c12
      exact ⟨k, _, _, _, _, _, _, _, _, _, _, _, _, _, _, _, hk, c11, c12, end_err _ _ _ (by decide), .inl ⟨by decide, rfl⟩⟩
    rw [if_neg hf]
    rw [if_neg (by omega)] at c12
    unfold ref12g at c12
    rw [fens_drop, Nat.add_zero, List.drop_drop] at c12
    cases hr2 : risesF (fensAt b (9 + 12 * n) (chunks n)) with
    | false =>
      rw [if_pos rfl]
      rw [hr2, if_neg (by decide)] at c12
      dsimp only at c12
      exact ⟨k, _, _, _, _, _, _, _, _, _, _, _, _, _, _, _, hk, c11, c12, end_err _ _ _ (by decide), .inl ⟨by decide, rfl⟩⟩
    | true =>
      rw [if_neg (by decide)]
      rw [hr2, if_pos rfl] at c12
      dsimp only at c12
      have hs3 : (b.drop (9 + 12 * n + 8 * chunks n)).length = b.length - (9 + 12 * n + 8 * chunks n) := List.length_drop
      by_cases he : 9 + 12 * n + 8 * chunks n < b.length
      · rw [if_pos he]
        exact ⟨k, _, _, _, _, _, _, _, _, _, _, _, _, _, _, _, hk, c11, c12, end_long _ _ (fun h => by have := (nums_nil _).1 h; rw [this] at hs3; simp at hs3; omega), .inl ⟨by decide, rfl⟩⟩
      rw [if_neg he]
      exact ⟨k, _, _, _, _, _, _, _, _, _, _, _, _, _, _, _, hk, c11, c12, end_nil _ _ ((nums_nil _).2 (List.eq_nil_of_length_eq_zero (by omega))), .inr ⟨rfl, rfl, hU.1, hU.2, by rw [entsAt_len]; omega, by rw [fensAt_len]; omega, entsAt_ok b hb 9 n (by omega), fensAt_ok b hb (9 + 12 * n) (chunks n) (by omega)⟩⟩
theorem chunks_16 (n : Nat) (h : n ≤ 1048576) : wrap64 (Int.tdiv (wrap64 ((wrap64 (n : Int)) + 15)) 16) = ((chunks n : Nat) : Int) := by
  rw [w64 (x := (n : Int)) (by omega) (by omega), w64 (x := (n : Int) + 15) (by omega) (by omega), Int.tdiv_eq_ediv_of_nonneg (by omega), w64 (by omega) (by omega)]
  unfold chunks
  omega
theorem chain0 (b : List Int) (hb : Bytes b) (hl : b.length ≤ 90000) (h1 : 1 ≤ b.length) (h4 : b.getD 0 0 = 4) :
    ∃ (k : Nat) (S1 : ByteArray) (a1 e1 : Int) (N : Nat), fascicleref01_Get.f k (strOfNums (b.drop 1)) 0 0 4 = some (S1, a1, e1, (N : Int)) ∧
      ((e1 = 0 ∧ (N : Int) > 1048576 ∧ footrun b = ffail 3) ∨ ((e1 = 0 → N ≤ 1048576) ∧ (e1 ≠ 0 → N = 0) ∧ Chain S1 a1 e1 (N : Int) ((chunks N : Nat) : Int) (footrun b))) := by
  unfold footrun
  rw [if_neg (by omega), if_neg (by rw [h4]; decide)]
  by_cases h5 : b.length < 5
  · rw [if_pos h5]
    obtain ⟨k, hk⟩ := (getn_short (b.drop 1) 0 4 (by decide) (by rw [List.length_drop]; omega)).rounds
    exact ⟨k, _, _, _, 0, hk, .inr ⟨fun h => absurd h (by decide), fun _ => rfl, chainE _ _ _ _ _ (by decide)⟩⟩
  rw [if_neg h5]
  have hN := lev_lt b 1 4 hb (by omega)
  obtain ⟨k, hk⟩ := (getn_some (b.drop 1) 0 4 (by decide) (by decide) (hb.drop _) (by rw [List.length_drop]; omega) (by decide) (by decide)).rounds
  rw [lev_at, List.drop_drop] at hk
  obtain ⟨n, hn⟩ : ∃ n : Nat, lev ((b.take (1 + 4)).drop 1) = (n : Int) := ⟨(lev ((b.take (1 + 4)).drop 1)).toNat, by omega⟩
  rw [hn, Int.toNat_natCast]
  rw [hn] at hk
  refine ⟨k, _, _, _, n, hk, ?_⟩
  by_cases hbig : (n : Int) > 1048576
  · exact .inl ⟨rfl, hbig, by rw [if_pos hbig]⟩
  · rw [if_neg hbig]
    exact .inr ⟨fun _ => by omega, fun h => absurd rfl h, chain b hb hl n (by omega) (by omega)⟩
end Go.Proofs.Ytekanmieppnpeaa.Tb
end
section
set_option linter.unusedVariables false
set_option linter.unusedSimpArgs false
namespace Go.Proofs.Ytekanmieppnpeaa.G
open Go Go.RowKit Go.Proofs.YtekanmieppnpeaaW.PrintWords Go.Proofs.YtekanmieppnpeaaW.PrintLast Go.Proofs.YtekanmieppnpeaaW.PrintMore Go.Proofs.Ytekanmieppnpeaa.PureKit Go.Proofs.Ytekanmieppnpeaa.Sep Go.Proofs.Ytekanmieppnpeaa.Tb Go.Proofs.Ytekanmieppnpeaa.Fe Go.Proofs.Ytekanmieppnpeaa.LCobs
set_option maxRecDepth 100000
abbrev gZ (g : Nat) : HP := blk g #[.int .u32 0, .slice none 0 0] 74
theorem _root_.Go.Proofs.Ytekanmieppnpeaa.Sep.Sep.zset {w0 w : World} {g : Nat} {ps : List HP} (h : Sep.Sep w0 w (blk g (#[.int .u32 0, .slice none 0 0].setIfInBounds 0 (.int .u32 0)) 74 :: ps)) : Sep.Sep w0 (w.setCell ⟨g, 1, none⟩ (.slice none 0 0)) (gZ g :: ps) := h.set 1 (.slice none 0 0)
theorem ref_ret {α : Type} {d : Kd α} {t : TypeId} {w w3 : World} {g : Nat} {u : Int} {v : Value} {T : List α} {E : Int} {ps : List HP} (hM : ∀ (W : World) (ok : Nat → Prop) (x : α) (cs : List Value), d.M W 0 ok x cs → d.M W w.heap.size ok x cs) (h3 : Sep.Sep w w3 (blk g #[.int .u32 u, v] 74 :: row d t v T :: ps)) :
    ∃ v1_ : Value, Ending.returned (.tuple #[.agg #[.int .u32 u, v], .int .i64 E]) = Ending.returned (.tuple #[.agg #[.int .u32 u, v1_], .int .i64 E]) ∧ Kd.R d t w3 w.heap.size (fun _ => True) v1_ T ∧ Below w.heap.size w w3 := by
  obtain ⟨hb, bs, ⟨b1, b2, e, hp, hs⟩, hn, hr⟩ := h3.tail
  refine ⟨v, rfl, ?_, hb⟩
  exact Kd.R_raise (b := 0) hM (Kd.R_mono hp (fun _ _ => trivial)) (fun j hj => (hr j (by rw [e]; exact List.mem_append_left _ (hp.1 j hj))).1)
set_option maxHeartbeats 16000000 in
theorem ref13_call (w : World) (l : List Int) (hb : Bytes l) (hl : l.length ≤ 90000) (r1 : Int) (r2 : List E1) (r3 : Int) (hro : footget l = (r1, r2, r3)) :
    Calls Try.prog 36 #[.string (strOfNums l)] w fun e w' => ∃ v : Value, e = .returned (.tuple #[.agg #[.int .u32 r1, v], .int .i64 r3]) ∧ Kd.R kR 135 w' w.heap.size (fun _ => True) v (refsE r2) ∧ Below w.heap.size w w' := by
  have hu := Try.underlying74
  have hu2 := Try.underlying115
  obtain ⟨ko, hko⟩ := (ref_open l hb hl).rounds
  obtain ⟨hob, hol⟩ := opnb_small l hb
  rw [footget_eq] at hro
  generalize (opnb l).2 = e7 at *
  generalize (opnb l).1 = b at *
  have hS0 := (Sep.start w).alloc #[.int .u32 0, .slice none 0 0] 74
  have hS0 := Aside0.mk hS0
  have hkoA := Aside0.mk hko
  have hobA := Aside0.mk hob
  have hlb := Aside0.mk (show b.length ≤ 90000 by omega)
  generalize strOfNums l = SL at *
  generalize hgz : w.heap.size = gz at *
  clear hko hob hol hb hl
  go_enter Try.func36, Try.ntmps36
  go_wp2_with (fail)
  refine (fascicleref09_Open.calls ko SL (strOfNums b) e7 _ hkoA.out).mono ?_
  rintro e w1 ⟨rfl, hb1⟩
  have hS1 := Aside0.mk (hS0.out.below hb1)
  clear hb1 hS0
  by_cases he : e7 = 0
  rotate_left
  · rw [if_pos he] at hro
    have h2 := hS1.out
    have e1 : (e7 != 0) = true := bne_iff_ne.2 he
    obtain ⟨rfl, rfl, rfl⟩ : (0 : Int) = r1 ∧ ([] : List E1) = r2 ∧ e7 = r3 := by cases hro; exact ⟨rfl, rfl, rfl⟩
    clear hro
    have hx_0 : w1.cell? ⟨gz, 0, none⟩ = some (.int .u32 0) := ((h2).cell 0).trans rfl; have hx_1 : w1.cell? ⟨gz, 1, none⟩ = some (.slice none 0 0) := ((h2).cell 1).trans rfl
    have hf0 := h2.frozen 0
    have hf1 := h2.frozen 1
    have h2A := Aside0.mk (h2.set 0 (.int .u32 0)).zset
    clear h2
    go_wp2_with (fail)
    have h3 := h2A.out
    refine bodyPost_ret (results_ct (P := Try.prog) Try.results36 _ _ gz 74 _ (0, 0) _ rfl h3.blk_at.1 hu rfl (by kernel_rfl)) rfl ?_
    subst hgz
    exact ref_ret (fun _ _ _ _ hm => hm) (h3.row_nil kR _).pick1
  rw [if_neg (by rw [he]; decide)] at hro
  subst he
  by_cases h1 : b = []
  · have hrun : footrun b = ffail 2 := by unfold footrun; rw [if_pos (by rw [h1]; decide)]
    rw [hrun] at hro
    have h2 := hS1.out
    have e1 : ((strOfNums b).toList == ([] : List UInt8)) = true := beq_iff_eq.2 ((nums_nil b).2 h1)
    clear hrun h1
    obtain ⟨rfl, rfl, rfl⟩ : (0 : Int) = r1 ∧ ([] : List E1) = r2 ∧ (2 : Int) = r3 := by cases hro; exact ⟨rfl, rfl, rfl⟩
    clear hro
    have hx_0 : w1.cell? ⟨gz, 0, none⟩ = some (.int .u32 0) := ((h2).cell 0).trans rfl; have hx_1 : w1.cell? ⟨gz, 1, none⟩ = some (.slice none 0 0) := ((h2).cell 1).trans rfl
    have hf0 := h2.frozen 0
    have hf1 := h2.frozen 1
    have h2A := Aside0.mk (h2.set 0 (.int .u32 0)).zset
    clear h2
    go_wp2_with (fail)
    have h3 := h2A.out
    refine bodyPost_ret (results_ct (P := Try.prog) Try.results36 _ _ gz 74 _ (0, 0) _ rfl h3.blk_at.1 hu rfl (by kernel_rfl)) rfl ?_
    subst hgz
    exact ref_ret (fun _ _ _ _ hm => hm) (h3.row_nil kR _).pick1
  have hnn : ¬ (strOfNums b).toList = [] := fun h => h1 ((nums_nil b).1 h)
  have e1 : ((strOfNums b).toList == ([] : List UInt8)) = false := beq_eq_false_iff_ne.2 hnn
  have hbl : 1 ≤ b.length := by cases b with | nil => exact absurd rfl h1 | cons _ _ => simp
  have hsz0 : 0 < (strOfNums b).size := by rw [nums_size]; omega
  have e0 : ((((strOfNums b)[0]'hsz0).toNat : Nat) : Int) = b.getD 0 0 := by
    have h0 : (strOfNums b)[0]'hsz0 = UInt8.ofNat (b[0]'(by omega)).toNat := by simp [strOfNums, ByteArray.getElem_eq_getElem_data]
    have hx := hobA.out (b[0]'(by omega)) (List.getElem_mem _)
    rw [h0, List.getD_eq_getElem?_getD, List.getElem?_eq_getElem (by omega)]
    simp
    omega
  obtain ⟨Y, hY⟩ : ∃ Y, b.getD 0 0 = Y := ⟨_, rfl⟩
  rw [hY] at e0
  have zb : (strOfNums b).size = b.length := nums_size b
  have hx0 : decide (0 < ((strOfNums b).size : Int)) = true := decide_eq_true (by omega)
  have hx1 : decide (0 < (strOfNums b).size) = true := decide_eq_true (by omega)
  have hxe : (strOfNums b).extract 1 (strOfNums b).size = strOfNums (b.drop 1) := by rw [nums_extract, zb, List.take_length]
  have hx2 : (1 ≤ ((strOfNums b).size : Int)) = True := eq_true (by omega)
  have hx3 : decide (1 ≤ ((strOfNums b).size : Int)) = true := decide_eq_true (by omega)
  have hx4 : (0 < (strOfNums b).size) = True := eq_true (by omega)
  have hx5 : (0 < ((strOfNums b).size : Int)) = True := eq_true (by omega)
  by_cases h4 : Y = 4
  rotate_left
  · have hrun : footrun b = ffail 4 := by unfold footrun; rw [if_neg (by omega), if_pos (by rw [hY]; exact h4)]
    rw [hrun] at hro
    have h2 := hS1.out
    have e4 : (Y != 4) = true := bne_iff_ne.2 h4
    clear hrun h1 hbl h4 zb hxe hY hnn
    obtain ⟨rfl, rfl, rfl⟩ : (0 : Int) = r1 ∧ ([] : List E1) = r2 ∧ (4 : Int) = r3 := by cases hro; exact ⟨rfl, rfl, rfl⟩
    clear hro
    have hx_0 : w1.cell? ⟨gz, 0, none⟩ = some (.int .u32 0) := ((h2).cell 0).trans rfl; have hx_1 : w1.cell? ⟨gz, 1, none⟩ = some (.slice none 0 0) := ((h2).cell 1).trans rfl
    have hf0 := h2.frozen 0
    have hf1 := h2.frozen 1
    have h2A := Aside0.mk (h2.set 0 (.int .u32 0)).zset
    clear h2
    go_wp2_with (fail)
    have h3 := h2A.out
    refine bodyPost_ret (results_ct (P := Try.prog) Try.results36 _ _ gz 74 _ (0, 0) _ rfl h3.blk_at.1 hu rfl (by kernel_rfl)) rfl ?_
    subst hgz
    exact ref_ret (fun _ _ _ _ hm => hm) (h3.row_nil kR _).pick1
  have e4 : (Y != 4) = false := bne_eq_false_iff_eq.2 h4
  obtain ⟨k1, S1, a1, e1r, N, hk1, hch⟩ := chain0 b hobA.out hlb.out hbl (by rw [hY]; exact h4)
  rw [← hxe] at hk1
  have hk1 := Aside0.mk hk1
  generalize footrun b = FR at *
  clear h1 hbl h4 zb hxe hnn hY
  generalize strOfNums b = SB at *
  go_wp2_with (fail)
  refine (fascicleref01_Get.calls k1 (SB.extract 1 SB.size) 0 0 4 S1 a1 e1r (N : Int) _ hk1.out).mono ?_
  rintro e w2 ⟨rfl, hb2⟩
  have h2 := (hS1.out.below hb2).alloc #[.string S1, .int .i64 a1, .int .i64 e1r] 115
  have hq_0 : (w2.alloc (.cells #[.string S1, .int .i64 a1, .int .i64 e1r] 115 (0, 0))).cell? ⟨w2.heap.size, 0, none⟩ = some (.string S1) := ((h2).cell 0).trans rfl; have hq_1 : (w2.alloc (.cells #[.string S1, .int .i64 a1, .int .i64 e1r] 115 (0, 0))).cell? ⟨w2.heap.size, 1, none⟩ = some (.int .i64 a1) := ((h2).cell 1).trans rfl; have hq_2 : (w2.alloc (.cells #[.string S1, .int .i64 a1, .int .i64 e1r] 115 (0, 0))).cell? ⟨w2.heap.size, 2, none⟩ = some (.int .i64 e1r) := ((h2).cell 2).trans rfl
  have hS2 := Aside0.mk h2
  clear hb2 hS1 h2 e1 hx0 hx1 hx2 hx3 hx4 hx5 e4 e0
  go_upto_region 9 with (fail)
  obtain ⟨g6, hg6⟩ : ∃ g6, w2.heap.size = g6 := ⟨_, rfl⟩
  rw [hg6] at hS2 hq_0 hq_1 hq_2 ⊢
  generalize w2.alloc (.cells #[.string S1, .int .i64 a1, .int .i64 e1r] 115 (0, 0)) = w3 at *
  clear hg6
  rcases hch with ⟨rfl, hbig, hrun⟩ | ⟨hN, hN0, hchain⟩
  · rw [hrun] at hro
    have hdb : decide ((N : Int) > 1048576) = true := decide_eq_true hbig
    have hdb2 : decide (1048576 < N) = true := decide_eq_true (by omega)
    have h2 := hS2.out.pick1
    clear hrun hbig
    obtain ⟨rfl, rfl, rfl⟩ : (0 : Int) = r1 ∧ ([] : List E1) = r2 ∧ (3 : Int) = r3 := by cases hro; exact ⟨rfl, rfl, rfl⟩
    clear hro
    have hx_0 : w3.cell? ⟨gz, 0, none⟩ = some (.int .u32 0) := ((h2).cell 0).trans rfl; have hx_1 : w3.cell? ⟨gz, 1, none⟩ = some (.slice none 0 0) := ((h2).cell 1).trans rfl
    have hf0 := h2.frozen 0
    have hf1 := h2.frozen 1
    have h2A := Aside0.mk (h2.set 0 (.int .u32 0)).zset
    clear h2
    go_wp2_with (fail)
    have h3 := h2A.out
    refine bodyPost_ret (results_ct (P := Try.prog) Try.results36 _ _ gz 74 _ (0, 0) _ rfl h3.blk_at.1 hu rfl (by kernel_rfl)) rfl ?_
    subst hgz
    exact ref_ret (fun _ _ _ _ hm => hm) (h3.row_nil kR _).pick1
  obtain ⟨k2, S2, a2, e2, U, S3, a3, e3, T, S4, a4, e4, F, S5, a5, e5, hk2, c11, c12, hend, hfin⟩ := hchain
  have hk2 := Aside0.mk hk2
  have c11 := Aside0.mk c11
  have c12 := Aside0.mk c12
  have hend := Aside0.mk hend
  have hfin := Aside0.mk hfin
  have hN1 : N ≤ 1048576 := by
    by_cases h : e1r = 0
    · exact hN h
    · rw [hN0 h]; decide
  have hwN : wrap64 (N : Int) = (N : Int) := w64 (by omega) (by omega)
  have hch16 := chunks_16 N hN1
  rw [hwN] at hch16
  have hdb : decide ((N : Int) > 1048576) = false := decide_eq_false (by omega)
  have hdb2 : decide (1048576 < N) = false := decide_eq_false (by omega)
  have hcases : e1r = 0 ∨ e1r ≠ 0 := by omega
  clear hN hN0 hN1
  obtain ⟨CH, hCH⟩ : ∃ CH, ((chunks N : Nat) : Int) = CH := ⟨_, rfl⟩
  rw [hCH] at c12 hch16
  clear hCH
  rcases hcases with he | he
  case' inl =>
    have hz : (e1r == 0) = true := beq_iff_eq.2 he
    clear he
    go_wp2_with (fail)
  case' inr =>
    have hz : (e1r == 0) = false := beq_eq_false_iff_ne.2 he
    clear he
    go_wp2_with (fail)
  all_goals (
    clear hz
    refine (fascicleref01_Get.calls k2 S1 a1 e1r 4 S2 a2 e2 U _ hk2.out).mono ?_
    rintro e w4 ⟨rfl, hb4⟩
    have h4 := hS2.out.below hb4
    have hp_0 : w4.cell? ⟨g6, 0, none⟩ = some (.string S1) := ((h4).cell 0).trans rfl; have hp_1 : w4.cell? ⟨g6, 1, none⟩ = some (.int .i64 a1) := ((h4).cell 1).trans rfl; have hp_2 : w4.cell? ⟨g6, 2, none⟩ = some (.int .i64 e1r) := ((h4).cell 2).trans rfl
    have hy0 := h4.frozen 0
    have hy1 := h4.frozen 1
    have hy2 := h4.frozen 2
    have hS4 := Aside0.mk (rdr_set (S' := S2) (a' := a2) (e' := e2) h4)
    clear h4 hb4 hq_0 hq_1 hq_2 hS2
    go_upto_region 12 with (fail)
    generalize ((w4.setCell ⟨g6, 0, none⟩ (.string S2)).setCell ⟨g6, 1, none⟩ (.int .i64 a2)).setCell ⟨g6, 2, none⟩ (.int .i64 e2) = w5 at hS4 ⊢
    clear hp_0 hp_1 hp_2 hy0 hy1 hy2
    have h5 := hS4.out
    have hp_0 : w5.cell? ⟨g6, 0, none⟩ = some (.string S2) := ((h5).cell 0).trans rfl; have hp_1 : w5.cell? ⟨g6, 1, none⟩ = some (.int .i64 a2) := ((h5).cell 1).trans rfl; have hp_2 : w5.cell? ⟨g6, 2, none⟩ = some (.int .i64 e2) := ((h5).cell 2).trans rfl
    clear h5
    go_wp2_with (fail)
    refine (c11.out _).mono ?_
    rintro e w6 ⟨v9, rfl, ho6, hb6⟩
    have h6 := (Sep.row_new hS4.out hb6 ho6).pick1
    have hq_0 : w6.cell? ⟨g6, 0, none⟩ = some (.string S2) := ((h6).cell 0).trans rfl; have hq_1 : w6.cell? ⟨g6, 1, none⟩ = some (.int .i64 a2) := ((h6).cell 1).trans rfl; have hq_2 : w6.cell? ⟨g6, 2, none⟩ = some (.int .i64 e2) := ((h6).cell 2).trans rfl
    have hy0 := h6.frozen 0
    have hy1 := h6.frozen 1
    have hy2 := h6.frozen 2
    have hS6 := Aside0.mk (rdr_set (S' := S3) (a' := a3) (e' := e3) h6)
    clear h6 hb6 ho6 hp_0 hp_1 hp_2 hS4
    go_upto_region 13 with (fail)
    generalize ((w6.setCell ⟨g6, 0, none⟩ (.string S3)).setCell ⟨g6, 1, none⟩ (.int .i64 a3)).setCell ⟨g6, 2, none⟩ (.int .i64 e3) = w7 at hS6 ⊢
    clear hq_0 hq_1 hq_2 hy0 hy1 hy2
    have h7 := hS6.out
    have hp_0 : w7.cell? ⟨g6, 0, none⟩ = some (.string S3) := ((h7).cell 0).trans rfl; have hp_1 : w7.cell? ⟨g6, 1, none⟩ = some (.int .i64 a3) := ((h7).cell 1).trans rfl; have hp_2 : w7.cell? ⟨g6, 2, none⟩ = some (.int .i64 e3) := ((h7).cell 2).trans rfl
    clear h7
    go_wp2_with (fail)
    refine (c12.out _).mono ?_
    rintro e w8 ⟨v10, rfl, ho8, hb8⟩
    have h8 := (Sep.row_new hS6.out hb8 ho8).pick1
    have hq_0 : w8.cell? ⟨g6, 0, none⟩ = some (.string S3) := ((h8).cell 0).trans rfl; have hq_1 : w8.cell? ⟨g6, 1, none⟩ = some (.int .i64 a3) := ((h8).cell 1).trans rfl; have hq_2 : w8.cell? ⟨g6, 2, none⟩ = some (.int .i64 e3) := ((h8).cell 2).trans rfl
    have hy0 := h8.frozen 0
    have hy1 := h8.frozen 1
    have hy2 := h8.frozen 2
    have hS8 := Aside0.mk (rdr_set (S' := S4) (a' := a4) (e' := e4) h8)
    clear h8 hb8 ho8 hp_0 hp_1 hp_2 hS6
    go_upto_region 14 with (fail)
    generalize ((w8.setCell ⟨g6, 0, none⟩ (.string S4)).setCell ⟨g6, 1, none⟩ (.int .i64 a4)).setCell ⟨g6, 2, none⟩ (.int .i64 e4) = w9 at hS8 ⊢
    clear hq_0 hq_1 hq_2 hy0 hy1 hy2
    have h9 := hS8.out
    have hp_0 : w9.cell? ⟨g6, 0, none⟩ = some (.string S4) := ((h9).cell 0).trans rfl; have hp_1 : w9.cell? ⟨g6, 1, none⟩ = some (.int .i64 a4) := ((h9).cell 1).trans rfl; have hp_2 : w9.cell? ⟨g6, 2, none⟩ = some (.int .i64 e4) := ((h9).cell 2).trans rfl
    clear h9
    go_wp2_with (fail)
    refine (fascicleref01_End.calls S4 a4 e4 S5 a5 e5 _ hend.out).mono ?_
    rintro e w10 ⟨rfl, hb10⟩
    have h10 := hS8.out.below hb10
    have hq_0 : w10.cell? ⟨g6, 0, none⟩ = some (.string S4) := ((h10).cell 0).trans rfl; have hq_1 : w10.cell? ⟨g6, 1, none⟩ = some (.int .i64 a4) := ((h10).cell 1).trans rfl; have hq_2 : w10.cell? ⟨g6, 2, none⟩ = some (.int .i64 e4) := ((h10).cell 2).trans rfl
    have hy0 := h10.frozen 0
    have hy1 := h10.frozen 1
    have hy2 := h10.frozen 2
    have hSA := Aside0.mk (rdr_set (S' := S5) (a' := a5) (e' := e5) h10)
    clear h10 hb10 hp_0 hp_1 hp_2 hS8
    go_upto_region 15 with (fail)
    generalize ((w10.setCell ⟨g6, 0, none⟩ (.string S5)).setCell ⟨g6, 1, none⟩ (.int .i64 a5)).setCell ⟨g6, 2, none⟩ (.int .i64 e5) = w11 at hSA ⊢
    clear hq_0 hq_1 hq_2 hy0 hy1 hy2
    have h11 := hSA.out
    have hp_0 : w11.cell? ⟨g6, 0, none⟩ = some (.string S5) := ((h11).cell 0).trans rfl; have hp_1 : w11.cell? ⟨g6, 1, none⟩ = some (.int .i64 a5) := ((h11).cell 1).trans rfl; have hp_2 : w11.cell? ⟨g6, 2, none⟩ = some (.int .i64 e5) := ((h11).cell 2).trans rfl
    clear h11
    rcases hfin.out with ⟨he5, hfr⟩ | ⟨he5, hfr, hU0, hU1, hTl, hFl, hTok, hFok⟩
    · rw [hfr] at hro
      have hq5 : (e5 != 0) = true := bne_iff_ne.2 he5
      obtain ⟨rfl, rfl, rfl⟩ : (0 : Int) = r1 ∧ ([] : List E1) = r2 ∧ e5 = r3 := by
        unfold footgot ffail at hro
        dsimp only at hro
        rw [if_pos he5] at hro
        cases hro
        exact ⟨rfl, rfl, rfl⟩
      clear hro hfr he5 hfin
      go_upto_region 16 with (fail)
      have hS := Aside0.mk hSA.out.drew
      refine start_ (n := 5) (S := fun w' => w'.cell? ⟨g6, 2, none⟩ = some (.int .i64 e5)) (ds := []) #[false, false, false, false, false] (by kernel_rfl) rfl rfl ((hS.out.cell 2).trans rfl) (fun hHeld => ?_)
      generalize w11.drew = wq at hS hHeld ⊢
      refine pure_ (i := 0) (N := some 70) (v := ?_) (a' := ?_) #[true, false, false, false, false] rfl rfl (by kernel_rfl) (fun _ _ _ h => h) (Or.inl ⟨by rfl, ?_⟩) ?_ ?_
      rotate_left
      · intro w'
        go_simp
        with_reducible rfl
      rotate_left
      · simp only [Act.put, List.setIfInBounds_toArray, List.set_cons_zero, List.set_cons_succ, i64_w, i32_w]
        rfl
      refine pure_ (i := 1) (N := some 71) (v := ?_) (a' := ?_) #[true, true, false, false, false] rfl rfl (by kernel_rfl) (fun _ _ _ h => h) (Or.inl ⟨by rfl, ?_⟩) ?_ ?_
      rotate_left
      · intro w'
        go_simp
        with_reducible rfl
      rotate_left
      · simp only [Act.put, List.setIfInBounds_toArray, List.set_cons_zero, List.set_cons_succ, i64_w, i32_w]
        rfl
      refine take_ (i := 2) (N := some 72) (v := ?_) (a' := ?_) #[true, true, true, false, false] rfl rfl (by kernel_rfl) (fun _ _ _ h => h) (Or.inl ⟨by rfl, ?_⟩) hHeld ?_ ?_
      rotate_left
      · intro w' s0
        go_simp
        with_reducible rfl
      rotate_left
      · simp only [Act.put, List.setIfInBounds_toArray, List.set_cons_zero, List.set_cons_succ, i64_w, i32_w]
        rfl
      refine one_ (i := 3) (N := none) #[true, true, true, true, false] rfl rfl (by kernel_rfl) (by decide) (fun K hK => ?_)
      have h2 := hS.out.pick3
      have hx_0 : wq.cell? ⟨gz, 0, none⟩ = some (.int .u32 0) := ((h2).cell 0).trans rfl; have hx_1 : wq.cell? ⟨gz, 1, none⟩ = some (.slice none 0 0) := ((h2).cell 1).trans rfl
      have hf0 := h2.frozen 0
      have hf1 := h2.frozen 1
      have hd1 : (wq.setCell ⟨gz, 0, none⟩ (.int .u32 0)).cell? ⟨gz, 1, none⟩ = some (.slice none 0 0) := ((h2.set 0 (.int .u32 0)).cell 1).trans rfl
      have hf2 := (h2.set 0 (.int .u32 0)).frozen 1
      have hS := Aside0.mk (h2.set 0 (.int .u32 0)).zset
      refine skip_ (w1 := ?_) (by kernel_rfl) rfl ?_ ?_
      rotate_left
      · go_simp
        rfl
      refine hK.out _ _ ((hS.out.pick1.cell 2).trans rfl) (fun hHeld => ?_)
      clear hK K
      refine pure_ (i := 4) (N := some 3) (v := ?_) (a' := ?_) #[true, true, true, true, true] rfl rfl (by kernel_rfl) (fun _ _ _ h => h) (Or.inl ⟨by rfl, ?_⟩) ?_ ?_
      rotate_left
      · intro w'
        go_simp
        with_reducible rfl
      rotate_left
      · simp only [Act.put, List.setIfInBounds_toArray, List.set_cons_zero, List.set_cons_succ, i64_w, i32_w]
        rfl
      refine done_ (by kernel_rfl) ?_
      go_wp2_with (fail)
      have h3 := hS.out
      refine bodyPost_ret (results_ct (P := Try.prog) Try.results36 _ _ gz 74 _ (0, 0) _ rfl h3.blk_at.1 hu rfl (by kernel_rfl)) rfl ?_
      subst hgz
      exact ref_ret (fun _ _ _ _ hm => hm) (h3.row_nil kR _).pick1
    subst he5
    rw [hfr] at hro
    clear hfin hfr
    unfold footgot at hro
    dsimp only at hro
    rw [if_neg (by decide)] at hro
    obtain ⟨A10, c10, rfl, hc10, -⟩ := row_S hSA.out.pick1
    obtain ⟨A9, c9, rfl, hc9, -⟩ := row_S hSA.out.pick2
    have hcA := Aside0.mk (And.intro hc9 hc10)
    have hwU : IntKind.u32.wrap U = U := by rw [IntKind.wrap_u32]; omega
    have hwU2 : U % 4294967296 = U := Int.emod_eq_of_lt hU0 hU1
    have h12 := hSA.out.alloc #[.int .u32 U, .slice A9 (refsE T).length c9] 74
    have hq_0 : (w11.alloc (.cells #[.int .u32 U, .slice A9 (refsE T).length c9] 74 (0, 0))).cell? ⟨w11.heap.size, 0, none⟩ = some (.int .u32 U) := ((h12).cell 0).trans rfl; have hq_1 : (w11.alloc (.cells #[.int .u32 U, .slice A9 (refsE T).length c9] 74 (0, 0))).cell? ⟨w11.heap.size, 1, none⟩ = some (.slice A9 (refsE T).length c9) := ((h12).cell 1).trans rfl
    have hSB := Aside0.mk h12
    obtain ⟨kc, hkc⟩ := (check13_ev U T (by omega)).rounds
    have hkc := Aside0.mk hkc
    obtain ⟨E, hE⟩ : ∃ E, checkF U T = E := ⟨_, rfl⟩
    rw [hE] at hro hkc
    have hlens := Aside0.mk (And.intro hTl (And.intro hFl (And.intro hTok hFok)))
    clear hc9 hc10 hU0 hU1 hTl hFl hTok hFok hE h12 hSA hp_0 hp_1
    go_wp2_with (fail)
    obtain ⟨g11, hg11⟩ : ∃ g11, w11.heap.size = g11 := ⟨_, rfl⟩
    rw [hg11] at hSB hq_0 hq_1 ⊢
    generalize w11.alloc (.cells #[.int .u32 U, .slice A9 (refsE T).length c9] 74 (0, 0)) = w13 at *
    refine (fascicleref13_Check.calls kc U A9 c9 (refsE T) E _ (row_C hSB.out.pick3).2.2 hcA.out.1 hkc.out).mono ?_
    rintro e w14 ⟨rfl, hb14⟩
    have hSC := Aside0.mk (hSB.out.below (by first | exact hb14 | exact hb14.below))
    clear hb14 hSB hg11 hq_0 hq_1 hwU hwU2 hp_2
    by_cases hE0 : E = 0
    rotate_left
    · rw [if_pos hE0] at hro
      have he1 : (E != 0) = true := bne_iff_ne.2 hE0
      have h2 := hSC.out.pick4
      clear hE0
      obtain ⟨rfl, rfl, rfl⟩ : (0 : Int) = r1 ∧ ([] : List E1) = r2 ∧ E = r3 := by cases hro; exact ⟨rfl, rfl, rfl⟩
      clear hro
      have hx_0 : w14.cell? ⟨gz, 0, none⟩ = some (.int .u32 0) := ((h2).cell 0).trans rfl; have hx_1 : w14.cell? ⟨gz, 1, none⟩ = some (.slice none 0 0) := ((h2).cell 1).trans rfl
      have hf0 := h2.frozen 0
      have hf1 := h2.frozen 1
      have h2A := Aside0.mk (h2.set 0 (.int .u32 0)).zset
      clear h2
      go_wp2_with (fail)
      have h3 := h2A.out
      refine bodyPost_ret (results_ct (P := Try.prog) Try.results36 _ _ gz 74 _ (0, 0) _ rfl h3.blk_at.1 hu rfl (by kernel_rfl)) rfl ?_
      subst hgz
      exact ref_ret (fun _ _ _ _ hm => hm) (h3.row_nil kR _).pick1
    rw [if_neg (by rw [hE0]; decide)] at hro
    subst hE0
    obtain ⟨hTl, hFl, hTok, hFok⟩ := hlens.out
    have hfo := fences_ok hTok
    have hfl : (fencesE T).length ≤ 1000000 := by
      have : (fencesE T).length = chunks T.length := by unfold fencesE; rw [List.length_map, List.length_range]
      rw [this]; unfold chunks; omega
    obtain ⟨kt, hkt⟩ := (text12_ev F (by omega) hFok).rounds
    obtain ⟨kf, hkf⟩ := (refof_ev T (by omega)).rounds
    obtain ⟨ku, hku⟩ := (text12_ev (fencesE T) hfl hfo).rounds
    have hks := Aside0.mk (And.intro hkt (And.intro hkf hku))
    have hne : F ≠ fencesE T → (strOfNums (fbytesL F)).toList ≠ (strOfNums (fbytesL (fencesE T))).toList := fun hq h => hq (fbytesL_inj hFok hfo ((nums_eq (fbytesL_bytes _) (fbytesL_bytes _)).1 h))
    have heq : F = fencesE T → strOfNums (fbytesL F) = strOfNums (fbytesL (fencesE T)) := fun h => by rw [h]
    generalize fencesE T = G at *
    generalize strOfNums (fbytesL F) = TX at *
    generalize strOfNums (fbytesL G) = TY at *
    have hneA := Aside0.mk (And.intro hne heq)
    clear hTl hFl hTok hFok hfo hfl hkt hkf hku hne heq
    go_wp2_with (fail)
    refine (fascicleref12_Text.calls kt A10 c10 F TX _ (row_C hSC.out.pick2).2.2 hcA.out.2 hks.out.1).mono ?_
    rintro e w15 ⟨rfl, hb15⟩
    have hSD := Aside0.mk (hSC.out.below hb15)
    clear hb15 hSC
    go_wp2_with (fail)
    refine (fascicleref12_Of.calls kf A9 c9 (refsE T) G _ (row_C hSD.out.pick3).2.2 hcA.out.1 hks.out.2.1).mono ?_
    rintro e w16 ⟨v86, rfl, ho16, hb16⟩
    obtain ⟨A86, c86, rfl, hc86, hC86⟩ := Kd.R_reads ho16
    have hC86 := Aside0.mk (And.intro hc86 hC86)
    have hSE := Aside0.mk (hSD.out.below hb16)
    clear hb16 ho16 hSD hc86
    go_wp2_with (fail)
    refine (fascicleref12_Text.calls ku A86 c86 G TY _ hC86.out.2 hC86.out.1 hks.out.2.2).mono ?_
    rintro e w17 ⟨rfl, hb17⟩
    have hSF := Aside0.mk (hSE.out.below hb17)
    clear hb17 hSE hC86 hks
    by_cases hq : F = G
    rotate_left
    · rw [if_neg hq] at hro
      have hn := hneA.out.1 hq
      have he1 : (TX.toList != TY.toList) = true := bne_iff_ne.2 hn
      have he2 : (TX.toList == TY.toList) = false := beq_eq_false_iff_ne.2 hn
      have h2 := hSF.out.pick4
      clear hq hn hneA
      obtain ⟨rfl, rfl, rfl⟩ : (0 : Int) = r1 ∧ ([] : List E1) = r2 ∧ (4 : Int) = r3 := by cases hro; exact ⟨rfl, rfl, rfl⟩
      clear hro
      have hx_0 : w17.cell? ⟨gz, 0, none⟩ = some (.int .u32 0) := ((h2).cell 0).trans rfl; have hx_1 : w17.cell? ⟨gz, 1, none⟩ = some (.slice none 0 0) := ((h2).cell 1).trans rfl
      have hf0 := h2.frozen 0
      have hf1 := h2.frozen 1
      have h2A := Aside0.mk (h2.set 0 (.int .u32 0)).zset
      clear h2
      go_wp2_with (fail)
      have h3 := h2A.out
      refine bodyPost_ret (results_ct (P := Try.prog) Try.results36 _ _ gz 74 _ (0, 0) _ rfl h3.blk_at.1 hu rfl (by kernel_rfl)) rfl ?_
      subst hgz
      exact ref_ret (fun _ _ _ _ hm => hm) (h3.row_nil kR _).pick1
    rw [if_pos hq] at hro
    obtain ⟨rfl, rfl, rfl⟩ : U = r1 ∧ T = r2 ∧ (0 : Int) = r3 := by cases hro; exact ⟨rfl, rfl, rfl⟩
    have heq := hneA.out.2 hq
    subst heq
    have h2 := hSF.out
    have hq_0 : w17.cell? ⟨g11, 0, none⟩ = some (.int .u32 U) := ((h2).cell 0).trans rfl; have hq_1 : w17.cell? ⟨g11, 1, none⟩ = some (.slice A9 (refsE T).length c9) := ((h2).cell 1).trans rfl
    have h3 := h2.pick4
    have hx_0 : w17.cell? ⟨gz, 0, none⟩ = some (.int .u32 0) := ((h3).cell 0).trans rfl; have hx_1 : w17.cell? ⟨gz, 1, none⟩ = some (.slice none 0 0) := ((h3).cell 1).trans rfl
    have hf0 := h3.frozen 0
    have hf1 := h3.frozen 1
    have h4A := Aside0.mk ((h3.set 0 (.int .u32 U)).set 1 (.slice A9 (refsE T).length c9))
    clear h2 h3 hro hneA hq
    go_wp2_with (fail)
    have h3 := h4A.out
    simp only [List.setIfInBounds_toArray, List.set_cons_zero, List.set_cons_succ] at h3
    refine bodyPost_ret (results_ct (P := Try.prog) Try.results36 _ _ gz 74 _ (0, 0) _ rfl h3.blk_at.1 hu rfl (by kernel_rfl)) rfl ?_
    subst hgz
    exact ref_ret (fun _ _ _ _ hm => hm) h3.pick4.pick1)
def fascicleref13_Get.f (a0 : ByteArray) : Option (Int × List (S135) × Int) := if (sby a0).length ≤ 90000 then some ((footget (sby a0)).1, refsE (footget (sby a0)).2.1, (footget (sby a0)).2.2) else none
theorem fascicleref13_Get.calls (a0 : ByteArray) (r1 : Int) (r2 : List (S135)) (r3 : Int) (w : World) (h : fascicleref13_Get.f a0 = some (r1, r2, r3)) :
    Calls Try.prog 36 #[.string a0] w fun e w' => ∃ v1_ : Value, e = .returned (.tuple #[.agg #[.int .u32 r1, v1_], .int .i64 r3]) ∧ Kd.R k135 135 w' w.heap.size (fun _ => True) v1_ r2 ∧ Below w.heap.size w w' := by
  unfold fascicleref13_Get.f at h
  split at h
  · rename_i hl
    cases Option.some.inj h
    have := ref13_call w (sby a0) (sby_bytes a0) hl _ _ _ rfl
    rw [nums_sby] at this
    exact this
  · cases h
end Go.Proofs.Ytekanmieppnpeaa.G
end
section
namespace Go.Proofs.Ytekanmieppnpeaa.G
open Go.RowKit Go.Proofs.YtekanmieppnpeaaW.PrintWords Go.Proofs.YtekanmieppnpeaaW.PrintLast Go.Proofs.YtekanmieppnpeaaW.PrintMore
attribute [local go_sem] max2_int min2_int max_two min_two max_three min_three max_four min_four   -- for this text's walks alone
set_option linter.unusedVariables false
set_option linter.unusedSimpArgs false
def fasciclelaw13_same.f (k : Nat) (a0_0 : Int) (l0_1 : List (S33)) (a1_0 : Int) (l1_1 : List (S135)) : Option (Bool) := if a0_0 = a1_0 then ((fasciclelaw11_Same.f k l0_1 l1_1).bind fun t304 => (some t304)) else (some false)
theorem fasciclelaw13_same.mono : ∀ a0 a1 a2 a3 k, LeO (fasciclelaw13_same.f k a0 a1 a2 a3) (fasciclelaw13_same.f (k + 1) a0 a1 a2 a3) := by
  intro a0 a1 a2 a3 k
  unfold fasciclelaw13_same.f
  repeat' first
      | (with_reducible exact fasciclelaw11_Same.mono _ _ _)
      | (with_reducible exact LeO.refl _)
      | (with_reducible exact LeO.none _)
      | (with_reducible refine LeO.ite ?_ ?_)
      | (with_reducible refine LeO.bind ?_ (fun _ => ?_))
      | exact fasciclelaw11_Same.mono _ _ _
      | exact LeO.none _
      | refine LeO.ite ?_ ?_
      | refine LeO.bind ?_ (fun _ => ?_)
set_option maxHeartbeats 8000000 in
set_option maxRecDepth 100000 in
theorem fasciclelaw13_same.calls (k : Nat) (a0_0 : Int) (A0_1 : Option Addr) (c0_1 : Nat) (l0_1 : List (S33)) (a1_0 : Int) (A1_1 : Option Addr) (c1_1 : Nat) (l1_1 : List (S135)) (r : Bool) (w : World) (hr0_1 : Kd.C k33 w A0_1 l0_1.length l0_1) (hc0_1 : l0_1.length ≤ c0_1) (hr1_1 : Kd.C k135 w A1_1 l1_1.length l1_1) (hc1_1 : l1_1.length ≤ c1_1) (h : fasciclelaw13_same.f k a0_0 l0_1 a1_0 l1_1 = some r) :
    Calls Try.prog 37 #[.agg #[.int .u32 a0_0, .slice A0_1 l0_1.length c0_1], .agg #[.int .u32 a1_0, .slice A1_1 l1_1.length c1_1]] w fun e w' => e = .returned (.bool r) ∧ Below w.heap.size w w' := by
  have hu29 := Try.underlying29
  have hu74 := Try.underlying74
  have HR0_1 := Aside0.mk hr0_1
  have HC0_1 := Aside0.mk hc0_1
  clear hr0_1 hc0_1
  have HR1_1 := Aside0.mk hr1_1
  have HC1_1 := Aside0.mk hc1_1
  clear hr1_1 hc1_1
  have HB := Aside0.mk (Below.refl w.heap.size w)
  have H : (if a0_0 = a1_0 then ((fasciclelaw11_Same.f k l0_1 l1_1).bind fun t304 => (some t304)) else (some false)) = some r := h
  clear h
  by_cases c3 : a0_0 = a1_0
  · rw [if_pos c3] at H
    have c3b0 : (a0_0 == a1_0) = true := beq_iff_eq.mpr c3
    have c3b1 : (a0_0 != a1_0) = false := bne_eq_false_iff_eq.mpr c3
    clear c3
    replace H := Option.bind_eq_some_iff.mp H
    obtain ⟨t304, A40, H⟩ := H
    replace H : (some t304) = some r := H
    have A4 := Aside0.mk A40
    clear A40
    obtain rfl := Option.some.inj H
    go_enter Try.func37, Try.ntmps37
    go_wp2_with (first | ((with_reducible refine gate_dst (N := 2) rfl ?_); refine box_event ?hg (N := 2) ?hd (cs := #[.int .u32 a0_0, .slice A0_1 l0_1.length c0_1]) (t := 29) ?hr ?_; (case hd => rfl); (case hg => rfl); (case hr => first | (go_simp; done) | (go_simp; rfl)); intro gb302 hg w5 hbox hb; have n0_ := Aside0.mk (below_step (by repeat (first | (with_reducible first | exact HB.out | apply below_alloc | apply pw_below_drewN | apply below_drew1) | exact HB.out)) hb); have n1_ := Aside0.mk (hbox); have n2_ := Aside0.mk ((by rw [hg]; exact (below_size (by repeat (first | (with_reducible first | exact HB.out | apply below_alloc | apply pw_below_drewN | apply below_drew1) | exact HB.out))) : w.heap.size ≤ gb302)); have n3_ := Aside0.mk ((by rw [hg]; exact (below_size (by repeat (first | (with_reducible first | exact HB.out | apply below_alloc | apply pw_below_drewN | apply below_drew1) | exact HB.out))) : w.heap.size ≤ gb302)); clear HB; have HB := n0_; have BK302 := n1_; have GW302 := n2_; have GE302 := n3_; clear n0_ n1_ n2_ n3_; clear hb hbox hg) | ((with_reducible refine gate_dst (N := 3) rfl ?_); refine box_event ?hg (N := 3) ?hd (cs := #[.int .u32 a1_0, .slice A1_1 l1_1.length c1_1]) (t := 74) ?hr ?_; (case hd => rfl); (case hg => rfl); (case hr => first | (go_simp; done) | (go_simp; rfl)); intro gb303 hg w6 hbox hb; have n0_ := Aside0.mk (blk_below (g := gb302) (o := .cells #[.int .u32 a0_0, .slice A0_1 l0_1.length c0_1] 29 (0, 0)) (by (with_reducible repeat (first | refine blk_drewN ?_ _ | refine blk_drew ?_ | refine blk_alloc ?_ _)); exact BK302.out) hb); have n1_ := Aside0.mk (below_step (by repeat (first | (with_reducible first | exact HB.out | apply below_alloc | apply pw_below_drewN | apply below_drew1 | refine below_set ?_ GE302.out) | exact HB.out)) hb); have n2_ := Aside0.mk (hbox); have n3_ := Aside0.mk ((by rw [hg]; exact (below_size (by repeat (first | (with_reducible first | exact HB.out | apply below_alloc | apply pw_below_drewN | apply below_drew1 | refine below_set ?_ GE302.out) | exact HB.out))) : w.heap.size ≤ gb303)); have n4_ := Aside0.mk ((by rw [hg]; exact (below_size (by repeat (first | (with_reducible first | exact HB.out | apply below_alloc | apply pw_below_drewN | apply below_drew1 | refine below_set ?_ GE302.out) | exact HB.out))) : w.heap.size ≤ gb303)); have n5_ := Aside0.mk ((by rw [hg]; exact Nat.ne_of_lt (blk_lt (g := gb302) (o := .cells #[.int .u32 a0_0, .slice A0_1 l0_1.length c0_1] 29 (0, 0)) (by (with_reducible repeat (first | refine blk_drewN ?_ _ | refine blk_drew ?_ | refine blk_alloc ?_ _)); exact BK302.out)) : gb302 ≠ gb303)); have n6_ := Aside0.mk ((by rw [hg]; exact Nat.ne_of_gt (blk_lt (g := gb302) (o := .cells #[.int .u32 a0_0, .slice A0_1 l0_1.length c0_1] 29 (0, 0)) (by (with_reducible repeat (first | refine blk_drewN ?_ _ | refine blk_drew ?_ | refine blk_alloc ?_ _)); exact BK302.out)) : gb303 ≠ gb302)); clear BK302; clear HB; have BK302 := n0_; have HB := n1_; have BK303 := n2_; have GW303 := n3_; have GE303 := n4_; have NB302_303 := n5_; have NB303_302 := n6_; clear n0_ n1_ n2_ n3_ n4_ n5_ n6_; clear hb hbox hg; have hnb7 := NB302_303.out; have hnc7 := NB303_302.out; have hcz8_0 : w6.cell? ⟨gb302, 0, none⟩ = some (.int .u32 a0_0) := (blk_cell BK302.out 0).trans rfl; have hcz8_1 : w6.cell? ⟨gb302, 1, none⟩ = some (.slice A0_1 l0_1.length c0_1) := (blk_cell BK302.out 1).trans rfl; have hfz8_0 := blk_frozen BK302.out 0; have hfz8_1 := blk_frozen BK302.out 1; have hcz9_0 : w6.cell? ⟨gb303, 0, none⟩ = some (.int .u32 a1_0) := (blk_cell BK303.out 0).trans rfl; have hcz9_1 : w6.cell? ⟨gb303, 1, none⟩ = some (.slice A1_1 l1_1.length c1_1) := (blk_cell BK303.out 1).trans rfl; have hfz9_0 := blk_frozen BK303.out 0; have hfz9_1 := blk_frozen BK303.out 1) | (go_at_call 91; (with_reducible refine (fasciclelaw11_Same.calls k _ _ l0_1 _ _ l1_1 t304 _ ?side1 ?side2 ?side3 ?side4 A4.out).mono ?_); (case side1 => repeat (first | exact (Kd.C_below HR0_1.out HB.out) | (with_reducible refine Kd.C_alloc ?_ _) | (with_reducible refine Kd.C_drewN ?_ _) | (with_reducible refine Kd.C_drew ?_))); (case side2 => exact HC0_1.out); (case side3 => repeat (first | exact (Kd.C_below HR1_1.out HB.out) | (with_reducible refine Kd.C_alloc ?_ _) | (with_reducible refine Kd.C_drewN ?_ _) | (with_reducible refine Kd.C_drew ?_))); (case side4 => exact HC1_1.out); rintro e w' ⟨rfl, ⟨nd, rfl⟩⟩))
    go_ret
    exact ⟨by first | rfl | (simp [errW_none, errW_some] <;> rfl) | (simp [*, errW_none, errW_some] <;> rfl), by repeat (first | (with_reducible first | exact HB.out | apply below_alloc | apply pw_below_drewN | apply below_drew1 | refine below_set ?_ GE302.out | refine below_set ?_ GE303.out) | exact HB.out)⟩
  · rw [if_neg c3] at H
    have c3b0 : (a0_0 == a1_0) = false := beq_eq_false_iff_ne.mpr c3
    have c3b1 : (a0_0 != a1_0) = true := bne_iff_ne.mpr c3
    obtain rfl := Option.some.inj H
    go_enter Try.func37, Try.ntmps37
    go_wp2_with (first | ((with_reducible refine gate_dst (N := 2) rfl ?_); refine box_event ?hg (N := 2) ?hd (cs := #[.int .u32 a0_0, .slice A0_1 l0_1.length c0_1]) (t := 29) ?hr ?_; (case hd => rfl); (case hg => rfl); (case hr => first | (go_simp; done) | (go_simp; rfl)); intro gb302 hg w10 hbox hb; have n0_ := Aside0.mk (below_step (by repeat (first | (with_reducible first | exact HB.out | apply below_alloc | apply pw_below_drewN | apply below_drew1) | exact HB.out)) hb); have n1_ := Aside0.mk (hbox); have n2_ := Aside0.mk ((by rw [hg]; exact (below_size (by repeat (first | (with_reducible first | exact HB.out | apply below_alloc | apply pw_below_drewN | apply below_drew1) | exact HB.out))) : w.heap.size ≤ gb302)); have n3_ := Aside0.mk ((by rw [hg]; exact (below_size (by repeat (first | (with_reducible first | exact HB.out | apply below_alloc | apply pw_below_drewN | apply below_drew1) | exact HB.out))) : w.heap.size ≤ gb302)); clear HB; have HB := n0_; have BK302 := n1_; have GW302 := n2_; have GE302 := n3_; clear n0_ n1_ n2_ n3_; clear hb hbox hg) | ((with_reducible refine gate_dst (N := 3) rfl ?_); refine box_event ?hg (N := 3) ?hd (cs := #[.int .u32 a1_0, .slice A1_1 l1_1.length c1_1]) (t := 74) ?hr ?_; (case hd => rfl); (case hg => rfl); (case hr => first | (go_simp; done) | (go_simp; rfl)); intro gb303 hg w11 hbox hb; have n0_ := Aside0.mk (blk_below (g := gb302) (o := .cells #[.int .u32 a0_0, .slice A0_1 l0_1.length c0_1] 29 (0, 0)) (by (with_reducible repeat (first | refine blk_drewN ?_ _ | refine blk_drew ?_ | refine blk_alloc ?_ _)); exact BK302.out) hb); have n1_ := Aside0.mk (below_step (by repeat (first | (with_reducible first | exact HB.out | apply below_alloc | apply pw_below_drewN | apply below_drew1 | refine below_set ?_ GE302.out) | exact HB.out)) hb); have n2_ := Aside0.mk (hbox); have n3_ := Aside0.mk ((by rw [hg]; exact (below_size (by repeat (first | (with_reducible first | exact HB.out | apply below_alloc | apply pw_below_drewN | apply below_drew1 | refine below_set ?_ GE302.out) | exact HB.out))) : w.heap.size ≤ gb303)); have n4_ := Aside0.mk ((by rw [hg]; exact (below_size (by repeat (first | (with_reducible first | exact HB.out | apply below_alloc | apply pw_below_drewN | apply below_drew1 | refine below_set ?_ GE302.out) | exact HB.out))) : w.heap.size ≤ gb303)); have n5_ := Aside0.mk ((by rw [hg]; exact Nat.ne_of_lt (blk_lt (g := gb302) (o := .cells #[.int .u32 a0_0, .slice A0_1 l0_1.length c0_1] 29 (0, 0)) (by (with_reducible repeat (first | refine blk_drewN ?_ _ | refine blk_drew ?_ | refine blk_alloc ?_ _)); exact BK302.out)) : gb302 ≠ gb303)); have n6_ := Aside0.mk ((by rw [hg]; exact Nat.ne_of_gt (blk_lt (g := gb302) (o := .cells #[.int .u32 a0_0, .slice A0_1 l0_1.length c0_1] 29 (0, 0)) (by (with_reducible repeat (first | refine blk_drewN ?_ _ | refine blk_drew ?_ | refine blk_alloc ?_ _)); exact BK302.out)) : gb303 ≠ gb302)); clear BK302; clear HB; have BK302 := n0_; have HB := n1_; have BK303 := n2_; have GW303 := n3_; have GE303 := n4_; have NB302_303 := n5_; have NB303_302 := n6_; clear n0_ n1_ n2_ n3_ n4_ n5_ n6_; clear hb hbox hg; have hnb12 := NB302_303.out; have hnc12 := NB303_302.out; have hcz13_0 : w11.cell? ⟨gb302, 0, none⟩ = some (.int .u32 a0_0) := (blk_cell BK302.out 0).trans rfl; have hcz13_1 : w11.cell? ⟨gb302, 1, none⟩ = some (.slice A0_1 l0_1.length c0_1) := (blk_cell BK302.out 1).trans rfl; have hfz13_0 := blk_frozen BK302.out 0; have hfz13_1 := blk_frozen BK302.out 1; have hcz14_0 : w11.cell? ⟨gb303, 0, none⟩ = some (.int .u32 a1_0) := (blk_cell BK303.out 0).trans rfl; have hcz14_1 : w11.cell? ⟨gb303, 1, none⟩ = some (.slice A1_1 l1_1.length c1_1) := (blk_cell BK303.out 1).trans rfl; have hfz14_0 := blk_frozen BK303.out 0; have hfz14_1 := blk_frozen BK303.out 1))
    go_ret
    exact ⟨by first | rfl | (simp [errW_none, errW_some] <;> rfl) | (simp [*, errW_none, errW_some] <;> rfl), by repeat (first | (with_reducible first | exact HB.out | apply below_alloc | apply pw_below_drewN | apply below_drew1 | refine below_set ?_ GE302.out | refine below_set ?_ GE303.out) | exact HB.out)⟩
def fasciclelaw13_FooterGets.j0 : Nat → List Int → Bool → Option (Bool)
  | 0, _, _ => none
  | k + 1, x0, x13 => if x13 = true then ((fasciclelaw13_lives.f).bind fun t306 => (some t306)) else ((footer_Get.f x0).bind fun bt307 => ((fascicleref13_Get.f (strOfNums x0)).bind fun bt313 => ((fasciclelaw13_same.f k bt307.1 bt307.2.1 bt313.1 bt313.2.1).bind fun t319 => (if t319 = true then (some (bt307.2.2 == bt313.2.2)) else (some false)))))
def fasciclelaw13_FooterGets.f (k : Nat) (l0 : List Int) : Option (Bool) := (fasciclelaw13_lives.f).bind fun t305 => (if t305 = true then (fasciclelaw13_FooterGets.j0 k l0 (decide ((l0.length : Int) > 1500))) else (fasciclelaw13_FooterGets.j0 k l0 true))
theorem fasciclelaw13_FooterGets.mono_l : ∀ k, (∀ y0 y1, LeO (fasciclelaw13_FooterGets.j0 k y0 y1) (fasciclelaw13_FooterGets.j0 (k + 1) y0 y1))
  | 0 => fun _ _ r h => by simp [fasciclelaw13_FooterGets.j0] at h
  | k + 1 => by
    have ih0 := fasciclelaw13_FooterGets.mono_l k
    · intro y0 y1
      unfold fasciclelaw13_FooterGets.j0
      repeat' first
      | (with_reducible exact ih0 _ _)
      | (with_reducible exact fasciclelaw13_same.mono _ _ _ _ _)
      | (with_reducible exact LeO.refl _)
      | (with_reducible exact LeO.none _)
      | (with_reducible refine LeO.ite ?_ ?_)
      | (with_reducible refine LeO.bind ?_ (fun _ => ?_))
      | exact ih0 _ _
      | exact fasciclelaw13_same.mono _ _ _ _ _
      | exact LeO.none _
      | refine LeO.ite ?_ ?_
      | refine LeO.bind ?_ (fun _ => ?_)
theorem fasciclelaw13_FooterGets.mono : ∀ a0 k, LeO (fasciclelaw13_FooterGets.f k a0) (fasciclelaw13_FooterGets.f (k + 1) a0) := by
  intro a0 k
  have ih0 := fasciclelaw13_FooterGets.mono_l k
  unfold fasciclelaw13_FooterGets.f
  repeat' first
      | (with_reducible exact ih0 _ _)
      | (with_reducible exact fasciclelaw13_same.mono _ _ _ _ _)
      | (with_reducible exact LeO.refl _)
      | (with_reducible exact LeO.none _)
      | (with_reducible refine LeO.ite ?_ ?_)
      | (with_reducible refine LeO.bind ?_ (fun _ => ?_))
      | exact ih0 _ _
      | exact fasciclelaw13_same.mono _ _ _ _ _
      | exact LeO.none _
      | refine LeO.ite ?_ ?_
      | refine LeO.bind ?_ (fun _ => ?_)
set_option maxHeartbeats 8000000 in
set_option maxRecDepth 100000 in
theorem fasciclelaw13_FooterGets.calls (k : Nat) (A0 : Option Addr) (c0 : Nat) (l0 : List Int) (r : Bool) (w : World) (hr0 : Kd.C (Kd.int .u8) w A0 l0.length l0) (hc0 : l0.length ≤ c0) (h : fasciclelaw13_FooterGets.f k l0 = some r) :
    Calls Try.prog 10 #[.slice A0 l0.length c0] w fun e w' => e = .returned (.bool r) ∧ Below w.heap.size w w' := by
  have hu29 := Try.underlying29
  have hu74 := Try.underlying74
  have HR0 := Aside0.mk hr0
  have HC0 := Aside0.mk hc0
  clear hr0 hc0
  have HB := Aside0.mk (Below.refl w.heap.size w)
  have H : ((fasciclelaw13_lives.f).bind fun t305 => (if t305 = true then (fasciclelaw13_FooterGets.j0 k l0 (decide ((l0.length : Int) > 1500))) else (fasciclelaw13_FooterGets.j0 k l0 true))) = some r := h
  clear h
  have HC2 := Aside0.mk H
  clear H
  go_enter Try.func10, Try.ntmps10
  go_upto_region 1 with (fail)
  go_cut [13] (fun v13 wc => ∃ (kq : Nat) (x13_1 : Bool), v13 = .bool x13_1 ∧ Aside0 (fasciclelaw13_FooterGets.j0 kq l0 x13_1 = some r) ∧ Aside0 (kq ≤ k) ∧ Aside0 (Below w.heap.size w wc))
  case first =>
    have H := HC2.out
    clear HC2
    replace H := Option.bind_eq_some_iff.mp H
    obtain ⟨t305, A30, H⟩ := H
    replace H : (if t305 = true then (fasciclelaw13_FooterGets.j0 k l0 (decide ((l0.length : Int) > 1500))) else (fasciclelaw13_FooterGets.j0 k l0 true)) = some r := H
    have A3 := Aside0.mk A30
    clear A30
    by_cases c4 : t305 = true
    · subst c4
      have H1 : (fasciclelaw13_FooterGets.j0 k l0 (decide ((l0.length : Int) > 1500))) = some r := by rw [if_pos rfl] at H; exact H
      clear H
      have H := H1
      clear H1
      have H' := Aside0.mk H
      clear H
      go_wp2_with (first | ((with_reducible refine gate_callee (f := 13) rfl ?_); refine goesL_ (some 7) rfl rfl Try.func13 (by kernel_rfl) rfl #[] rfl (by (try simp only [List.map_toArray, List.map_cons, List.map_nil]); first | done | rfl | (simp only [List.length_drop, List.length_take]; rfl) | (refine congrArg (fun z => #[Value.int .u64 z]) ?_; rw [IntKind.wrap_u64]; omega)) ?_; (with_reducible refine (fasciclelaw13_lives.calls  true _ A3.out).mono ?_); rintro e w5 ⟨rfl, hb⟩; refine ⟨_, rfl, ?_⟩; have n0_ := Aside0.mk (below_step (by repeat (first | (with_reducible first | exact HB.out | apply below_alloc | apply pw_below_drewN | apply below_drew1) | exact HB.out)) hb); clear HB; have HB := n0_; clear n0_; (try clear hb); (try clear hb2); (try clear hk); (try clear hi)))
      go_meet
      case rel => exact ⟨_, (decide ((l0.length : Int) > 1500)), (by first | rfl | (simp; done) | (simp [*]; done) | (simp; exact (fun l : List UInt8 => (by cases l <;> rfl : l.isEmpty = !(l != ([] : List UInt8)))) _)), H', ⟨by first | omega | exact Nat.le_refl _⟩, ⟨by repeat (first | (with_reducible first | exact HB.out | apply below_alloc | apply pw_below_drewN | apply below_drew1) | exact HB.out)⟩⟩
    · replace c4 := Bool.eq_false_iff.mpr c4
      subst c4
      have H1 : (fasciclelaw13_FooterGets.j0 k l0 true) = some r := by rw [if_neg (show ¬ (false = true) by decide)] at H; exact H
      clear H
      have H := H1
      clear H1
      have H' := Aside0.mk H
      clear H
      go_wp2_with (first | ((with_reducible refine gate_callee (f := 13) rfl ?_); refine goesL_ (some 7) rfl rfl Try.func13 (by kernel_rfl) rfl #[] rfl (by (try simp only [List.map_toArray, List.map_cons, List.map_nil]); first | done | rfl | (simp only [List.length_drop, List.length_take]; rfl) | (refine congrArg (fun z => #[Value.int .u64 z]) ?_; rw [IntKind.wrap_u64]; omega)) ?_; (with_reducible refine (fasciclelaw13_lives.calls  false _ A3.out).mono ?_); rintro e w6 ⟨rfl, hb⟩; refine ⟨_, rfl, ?_⟩; have n0_ := Aside0.mk (below_step (by repeat (first | (with_reducible first | exact HB.out | apply below_alloc | apply pw_below_drewN | apply below_drew1) | exact HB.out)) hb); clear HB; have HB := n0_; clear n0_; (try clear hb); (try clear hb2); (try clear hk); (try clear hi)))
      go_meet
      case rel => exact ⟨_, (true), (by first | rfl | (simp; done) | (simp [*]; done) | (simp; exact (fun l : List UInt8 => (by cases l <;> rfl : l.isEmpty = !(l != ([] : List UInt8)))) _)), H', ⟨by first | omega | exact Nat.le_refl _⟩, ⟨by repeat (first | (with_reducible first | exact HB.out | apply below_alloc | apply pw_below_drewN | apply below_drew1) | exact HB.out)⟩⟩
  case rest =>
    clear HC2
    try clear c1
    try clear p2
    try clear c4
    obtain ⟨kq, x13_1, rfl, HA, HJ1, HB⟩ := hcut
    cases kq with
    | zero => exact absurd HA.out (by simp [fasciclelaw13_FooterGets.j0])
    | succ kj1 =>
      have H := HA.out
      clear HA
      simp only [fasciclelaw13_FooterGets.j0] at H
      by_cases c7 : x13_1 = true
      · subst c7
        have H1 : ((fasciclelaw13_lives.f).bind fun t306 => (some t306)) = some r := by rw [if_pos rfl] at H; exact H
        clear H
        have H := H1
        clear H1
        replace H := Option.bind_eq_some_iff.mp H
        obtain ⟨t306, A80, H⟩ := H
        replace H : (some t306) = some r := H
        have A8 := Aside0.mk A80
        clear A80
        obtain rfl := Option.some.inj H
        go_wp2_with (first | ((with_reducible refine gate_callee (f := 13) rfl ?_); refine goesL_ (some 14) rfl rfl Try.func13 (by kernel_rfl) rfl #[] rfl (by (try simp only [List.map_toArray, List.map_cons, List.map_nil]); first | done | rfl | (simp only [List.length_drop, List.length_take]; rfl) | (refine congrArg (fun z => #[Value.int .u64 z]) ?_; rw [IntKind.wrap_u64]; omega)) ?_; (with_reducible refine (fasciclelaw13_lives.calls  t306 _ A8.out).mono ?_); rintro e w9 ⟨rfl, hb⟩; refine ⟨_, rfl, ?_⟩; have n0_ := Aside0.mk (below_step (by repeat (first | (with_reducible first | exact HB.out | apply below_alloc | apply pw_below_drewN | apply below_drew1) | exact HB.out)) hb); clear HB; have HB := n0_; clear n0_; (try clear hb); (try clear hb2); (try clear hk); (try clear hi)))
        go_ret
        exact ⟨by first | rfl | (simp [errW_none, errW_some] <;> rfl) | (simp [*, errW_none, errW_some] <;> rfl), by repeat (first | (with_reducible first | exact HB.out | apply below_alloc | apply pw_below_drewN | apply below_drew1) | exact HB.out)⟩
      · replace c7 := Bool.eq_false_iff.mpr c7
        subst c7
        have H1 : ((footer_Get.f l0).bind fun bt307 => ((fascicleref13_Get.f (strOfNums l0)).bind fun bt313 => ((fasciclelaw13_same.f kj1 bt307.1 bt307.2.1 bt313.1 bt313.2.1).bind fun t319 => (if t319 = true then (some (bt307.2.2 == bt313.2.2)) else (some false))))) = some r := by rw [if_neg (show ¬ (false = true) by decide)] at H; exact H
        clear H
        have H := H1
        clear H1
        replace H := Option.bind_eq_some_iff.mp H
        obtain ⟨⟨t307, t308, t311⟩, A100, H⟩ := H
        replace H : ((fascicleref13_Get.f (strOfNums l0)).bind fun bt313 => ((fasciclelaw13_same.f kj1 t307 t308 bt313.1 bt313.2.1).bind fun t319 => (if t319 = true then (some (t311 == bt313.2.2)) else (some false)))) = some r := H
        have A10 := Aside0.mk A100
        clear A100
        replace H := Option.bind_eq_some_iff.mp H
        obtain ⟨⟨t313, t314, t317⟩, A110, H⟩ := H
        replace H : ((fasciclelaw13_same.f kj1 t307 t308 t313 t314).bind fun t319 => (if t319 = true then (some (t311 == t317)) else (some false))) = some r := H
        have A11 := Aside0.mk A110
        clear A110
        replace H := Option.bind_eq_some_iff.mp H
        obtain ⟨t319, A120, H⟩ := H
        replace H : (if t319 = true then (some (t311 == t317)) else (some false)) = some r := H
        have A12 := Aside0.mk A120
        clear A120
        by_cases c13 : t319 = true
        · subst c13
          have H1 : (some (t311 == t317)) = some r := by rw [if_pos rfl] at H; exact H
          clear H
          have H := H1
          clear H1
          obtain rfl := Option.some.inj H
          go_wp2_with (first | ((with_reducible refine gate_callee (f := 35) rfl ?_); refine goesL_ (some 17) rfl rfl Try.func35 (by kernel_rfl) rfl #[.slice A0 l0.length c0] rfl (by (try simp only [List.map_toArray, List.map_cons, List.map_nil]); first | done | rfl | (simp only [List.length_drop, List.length_take]; rfl) | (refine congrArg (fun z => #[Value.int .u64 z]) ?_; rw [IntKind.wrap_u64]; omega)) ?_; (with_reducible refine (footer_Get.calls _ _ l0 t307 t308 t311 _ ?side1 ?side2 A10.out).mono ?_); (case side1 => repeat (first | exact (Kd.C_below HR0.out HB.out) | (with_reducible refine Kd.C_alloc ?_ _) | (with_reducible refine Kd.C_drewN ?_ _) | (with_reducible refine Kd.C_drew ?_))); (case side2 => exact HC0.out); rintro e w14 ⟨v309, rfl, ho0, hb⟩; refine ⟨_, rfl, ?_⟩; have n0_ := Aside0.mk (Kd.R_lower ho0 (below_size (by repeat (first | (with_reducible first | exact HB.out | apply below_alloc | apply pw_below_drewN | apply below_drew1) | exact HB.out)))); have n1_ := Aside0.mk (below_step (by repeat (first | (with_reducible first | exact HB.out | apply below_alloc | apply pw_below_drewN | apply below_drew1) | exact HB.out)) hb); clear HB; have HO310 := n0_; have HB := n1_; clear n0_ n1_; (try clear hb); (try clear hb2); (try clear hk); (try clear hi); (try clear ho0)) | ((with_reducible refine gate_dst (N := 3) rfl ?_); (try (refine gate_guard (by rfl) ?_; dsimp only)); refine box_event ?hg (N := 3) ?hd (cs := #[.int .u32 0, .slice none 0 0]) (t := 29) ?hr ?_; (case hd => rfl); (case hg => rfl); (case hr => first | (go_simp; done) | (go_simp; rfl)); intro gb312 hg w15 hbox hb; have n0_ := Aside0.mk (Kd.R_below (by (with_reducible repeat (first | apply Kd.R_alloc | apply Kd.R_drewN | apply Kd.R_drew)); exact HO310.out) hb); have n1_ := Aside0.mk (below_step (by repeat (first | (with_reducible first | exact HB.out | apply below_alloc | apply pw_below_drewN | apply below_drew1) | exact HB.out)) hb); have n2_ := Aside0.mk (hbox); have n3_ := Aside0.mk ((by rw [hg]; exact (below_size (by repeat (first | (with_reducible first | exact HB.out | apply below_alloc | apply pw_below_drewN | apply below_drew1) | exact HB.out))) : w.heap.size ≤ gb312)); have n4_ := Aside0.mk ((by rw [hg]; exact (below_size (by repeat (first | (with_reducible first | exact HB.out | apply below_alloc | apply pw_below_drewN | apply below_drew1) | exact HB.out))) : w.heap.size ≤ gb312)); clear HO310; clear HB; have HO310 := n0_; have HB := n1_; have BK312 := n2_; have GW312 := n3_; have GE312 := n4_; clear n0_ n1_ n2_ n3_ n4_; clear hb hbox hg; have hcz16_0 : w15.cell? ⟨gb312, 0, none⟩ = some (.int .u32 0) := (blk_cell BK312.out 0).trans rfl; have hcz16_1 : w15.cell? ⟨gb312, 1, none⟩ = some (.slice none 0 0) := (blk_cell BK312.out 1).trans rfl; have hfz16_0 := blk_frozen BK312.out 0; have hfz16_1 := blk_frozen BK312.out 1; obtain ⟨Ao17, co17, eo17⟩ := Kd.R_slice HO310.out; subst eo17; have hcv18 := Kd.C_string (P := Try.prog) (A := A0) (c := c0) Try.underlying39 Try.underlying5 Try.underlying9 (Kd.C_below HR0.out HB.out); have hcv18b := fun (v0_ v1_ : Value) => Kd.C_string (P := Try.prog) (A := A0) (c := c0) Try.underlying39 Try.underlying5 Try.underlying9 (Kd.C_below HR0.out (below_set (g := gb312) (j := 1) (v := v1_) (below_set (g := gb312) (j := 0) (v := v0_) HB.out GE312.out) GE312.out))) | ((with_reducible refine gate_callee (f := 36) rfl ?_); refine goesL_ (some 23) rfl rfl Try.func36 (by kernel_rfl) rfl #[.string (strOfNums l0)] rfl (by (try simp only [List.map_toArray, List.map_cons, List.map_nil]); first | done | rfl | (simp only [List.length_drop, List.length_take]; rfl) | (refine congrArg (fun z => #[Value.int .u64 z]) ?_; rw [IntKind.wrap_u64]; omega)) ?_; (with_reducible refine (fascicleref13_Get.calls (strOfNums l0) t313 t314 t317 _ A11.out).mono ?_); rintro e w19 ⟨v315, rfl, ho0, hb⟩; refine ⟨_, rfl, ?_⟩; have n0_ := Aside0.mk (Kd.R_below (by (with_reducible repeat (first | apply Kd.R_alloc | apply Kd.R_drewN | apply Kd.R_drew)); exact (Kd.R_mono (Kd.R_far (p := ⟨gb312, 1, none⟩) (Kd.R_far (p := ⟨gb312, 0, none⟩) (Kd.R_types HO310.out BK312.out (by decide)) (fun _ hk => by first | exact hk.2 | exact hk) (.int .u32 t307)) (fun _ hk => by first | exact hk.2 | exact hk) (.slice Ao17 t308.length co17)) (fun _ h_ => h_.1))) hb); have n1_ := Aside0.mk (Kd.R_lower ho0 (below_size (by repeat (first | (with_reducible first | exact HB.out | apply below_alloc | apply pw_below_drewN | apply below_drew1 | refine below_set ?_ GE312.out) | exact HB.out)))); have n2_ := Aside0.mk (blk_below (g := gb312) (o := .cells #[.int .u32 t307, .slice Ao17 t308.length co17] 29 (0, 0)) (by (with_reducible repeat (first | refine blk_drewN ?_ _ | refine blk_drew ?_ | refine blk_alloc ?_ _)); refine blk_put (cs := #[.int .u32 t307, .slice none 0 0]) ?_ 1 _ rfl; (with_reducible repeat (first | refine blk_drewN ?_ _ | refine blk_drew ?_ | refine blk_alloc ?_ _)); refine blk_put (cs := #[.int .u32 0, .slice none 0 0]) ?_ 0 _ rfl; (with_reducible repeat (first | refine blk_drewN ?_ _ | refine blk_drew ?_ | refine blk_alloc ?_ _)); exact BK312.out) hb); have n3_ := Aside0.mk (below_step (by repeat (first | (with_reducible first | exact HB.out | apply below_alloc | apply pw_below_drewN | apply below_drew1 | refine below_set ?_ GE312.out) | exact HB.out)) hb); clear HO310; clear BK312; clear HB; have HO310 := n0_; have HO316 := n1_; have BK312 := n2_; have HB := n3_; clear n0_ n1_ n2_ n3_; (try clear hb); (try clear hb2); (try clear hk); (try clear hi); (try clear ho0)) | ((with_reducible refine gate_dst (N := 5) rfl ?_); (try (refine gate_guard (by rfl) ?_; dsimp only)); refine box_event ?hg (N := 5) ?hd (cs := #[.int .u32 0, .slice none 0 0]) (t := 74) ?hr ?_; (case hd => rfl); (case hg => rfl); (case hr => first | (go_simp; done) | (go_simp; rfl)); intro gb318 hg w20 hbox hb; have n0_ := Aside0.mk (Kd.R_below (by (with_reducible repeat (first | apply Kd.R_alloc | apply Kd.R_drewN | apply Kd.R_drew)); exact HO310.out) hb); have n1_ := Aside0.mk (Kd.R_below (by (with_reducible repeat (first | apply Kd.R_alloc | apply Kd.R_drewN | apply Kd.R_drew)); exact HO316.out) hb); have n2_ := Aside0.mk (blk_below (g := gb312) (o := .cells #[.int .u32 t307, .slice Ao17 t308.length co17] 29 (0, 0)) (by (with_reducible repeat (first | refine blk_drewN ?_ _ | refine blk_drew ?_ | refine blk_alloc ?_ _)); exact BK312.out) hb); have n3_ := Aside0.mk (below_step (by repeat (first | (with_reducible first | exact HB.out | apply below_alloc | apply pw_below_drewN | apply below_drew1 | refine below_set ?_ GE312.out) | exact HB.out)) hb); have n4_ := Aside0.mk (hbox); have n5_ := Aside0.mk ((by rw [hg]; exact (below_size (by repeat (first | (with_reducible first | exact HB.out | apply below_alloc | apply pw_below_drewN | apply below_drew1 | refine below_set ?_ GE312.out) | exact HB.out))) : w.heap.size ≤ gb318)); have n6_ := Aside0.mk ((by rw [hg]; exact (below_size (by repeat (first | (with_reducible first | exact HB.out | apply below_alloc | apply pw_below_drewN | apply below_drew1 | refine below_set ?_ GE312.out) | exact HB.out))) : w.heap.size ≤ gb318)); have n7_ := Aside0.mk ((by rw [hg]; exact Nat.ne_of_lt (blk_lt (g := gb312) (o := .cells #[.int .u32 t307, .slice Ao17 t308.length co17] 29 (0, 0)) (by (with_reducible repeat (first | refine blk_drewN ?_ _ | refine blk_drew ?_ | refine blk_alloc ?_ _)); exact BK312.out)) : gb312 ≠ gb318)); have n8_ := Aside0.mk ((by rw [hg]; exact Nat.ne_of_gt (blk_lt (g := gb312) (o := .cells #[.int .u32 t307, .slice Ao17 t308.length co17] 29 (0, 0)) (by (with_reducible repeat (first | refine blk_drewN ?_ _ | refine blk_drew ?_ | refine blk_alloc ?_ _)); exact BK312.out)) : gb318 ≠ gb312)); clear HO310; clear HO316; clear BK312; clear HB; have HO310 := n0_; have HO316 := n1_; have BK312 := n2_; have HB := n3_; have BK318 := n4_; have GW318 := n5_; have GE318 := n6_; have NB312_318 := n7_; have NB318_312 := n8_; clear n0_ n1_ n2_ n3_ n4_ n5_ n6_ n7_ n8_; clear hb hbox hg; have hnb21 := NB318_312.out; have hnc21 := NB312_318.out; have hcz22_0 : w20.cell? ⟨gb318, 0, none⟩ = some (.int .u32 0) := (blk_cell BK318.out 0).trans rfl; have hcz22_1 : w20.cell? ⟨gb318, 1, none⟩ = some (.slice none 0 0) := (blk_cell BK318.out 1).trans rfl; have hfz22_0 := blk_frozen BK318.out 0; have hfz22_1 := blk_frozen BK318.out 1; obtain ⟨Ao23, co23, eo23⟩ := Kd.R_slice HO316.out; subst eo23; have hcz24_0 : w20.cell? ⟨gb312, 0, none⟩ = some (.int .u32 t307) := (blk_cell BK312.out 0).trans rfl; have hcz24_1 : w20.cell? ⟨gb312, 1, none⟩ = some (.slice Ao17 t308.length co17) := (blk_cell BK312.out 1).trans rfl; have hfz24_0 := blk_frozen BK312.out 0; have hfz24_1 := blk_frozen BK312.out 1) | ((with_reducible refine gate_callee (f := 37) rfl ?_); refine goesL_ (some 28) rfl rfl Try.func37 (by kernel_rfl) rfl #[.agg #[.int .u32 t307, .slice Ao17 t308.length co17], .agg #[.int .u32 t313, .slice Ao23 t314.length co23]] rfl (by (try simp only [List.map_toArray, List.map_cons, List.map_nil]); first | done | rfl | (simp only [List.length_drop, List.length_take]; rfl) | (refine congrArg (fun z => #[Value.int .u64 z]) ?_; rw [IntKind.wrap_u64]; omega)) ?_; (with_reducible refine (fasciclelaw13_same.calls kj1 t307 _ _ t308 t313 _ _ t314 true _ ?side1 ?side2 ?side3 ?side4 A12.out).mono ?_); (case side1 => refine (Kd.R_reads' (e := 33) (base := w.heap.size) (ok := fun k_ => True) (n := t308.length) (c := co17) ?_).2.2; exact (by (with_reducible repeat (first | apply Kd.R_alloc | apply Kd.R_drewN | apply Kd.R_drew)); exact (Kd.R_mono (Kd.R_far (p := ⟨gb318, 1, none⟩) (Kd.R_far (p := ⟨gb318, 0, none⟩) (Kd.R_types HO310.out BK318.out (by decide)) (fun _ hk => by first | exact hk.2 | exact hk) (.int .u32 t313)) (fun _ hk => by first | exact hk.2 | exact hk) (.slice Ao23 t314.length co23)) (fun _ h_ => h_.1)))); (case side2 => exact (Kd.R_reads' HO310.out).2.1); (case side3 => refine (Kd.R_reads' (e := 135) (base := w.heap.size) (ok := fun k_ => True) (n := t314.length) (c := co23) ?_).2.2; exact (by (with_reducible repeat (first | apply Kd.R_alloc | apply Kd.R_drewN | apply Kd.R_drew)); exact (Kd.R_mono (Kd.R_far (p := ⟨gb318, 1, none⟩) (Kd.R_far (p := ⟨gb318, 0, none⟩) (Kd.R_types HO316.out BK318.out (by decide)) (fun _ hk => by first | exact hk.2 | exact hk) (.int .u32 t313)) (fun _ hk => by first | exact hk.2 | exact hk) (.slice Ao23 t314.length co23)) (fun _ h_ => h_.1)))); (case side4 => exact (Kd.R_reads' HO316.out).2.1); rintro e w25 ⟨rfl, hb⟩; refine ⟨_, rfl, ?_⟩; have n0_ := Aside0.mk (Kd.R_below (by (with_reducible repeat (first | apply Kd.R_alloc | apply Kd.R_drewN | apply Kd.R_drew)); exact (Kd.R_mono (Kd.R_far (p := ⟨gb318, 1, none⟩) (Kd.R_far (p := ⟨gb318, 0, none⟩) (Kd.R_types HO310.out BK318.out (by decide)) (fun _ hk => by first | exact hk.2 | exact hk) (.int .u32 t313)) (fun _ hk => by first | exact hk.2 | exact hk) (.slice Ao23 t314.length co23)) (fun _ h_ => h_.1))) hb); have n1_ := Aside0.mk (Kd.R_below (by (with_reducible repeat (first | apply Kd.R_alloc | apply Kd.R_drewN | apply Kd.R_drew)); exact (Kd.R_mono (Kd.R_far (p := ⟨gb318, 1, none⟩) (Kd.R_far (p := ⟨gb318, 0, none⟩) (Kd.R_types HO316.out BK318.out (by decide)) (fun _ hk => by first | exact hk.2 | exact hk) (.int .u32 t313)) (fun _ hk => by first | exact hk.2 | exact hk) (.slice Ao23 t314.length co23)) (fun _ h_ => h_.1))) hb); have n2_ := Aside0.mk (blk_below (g := gb312) (o := .cells #[.int .u32 t307, .slice Ao17 t308.length co17] 29 (0, 0)) (by (with_reducible repeat (first | refine blk_drewN ?_ _ | refine blk_drew ?_ | refine blk_alloc ?_ _)); refine blk_far ?_ NB312_318.out _; (with_reducible repeat (first | refine blk_drewN ?_ _ | refine blk_drew ?_ | refine blk_alloc ?_ _)); refine blk_far ?_ NB312_318.out _; (with_reducible repeat (first | refine blk_drewN ?_ _ | refine blk_drew ?_ | refine blk_alloc ?_ _)); exact BK312.out) hb); have n3_ := Aside0.mk (blk_below (g := gb318) (o := .cells #[.int .u32 t313, .slice Ao23 t314.length co23] 74 (0, 0)) (by (with_reducible repeat (first | refine blk_drewN ?_ _ | refine blk_drew ?_ | refine blk_alloc ?_ _)); refine blk_put (cs := #[.int .u32 t313, .slice none 0 0]) ?_ 1 _ rfl; (with_reducible repeat (first | refine blk_drewN ?_ _ | refine blk_drew ?_ | refine blk_alloc ?_ _)); refine blk_put (cs := #[.int .u32 0, .slice none 0 0]) ?_ 0 _ rfl; (with_reducible repeat (first | refine blk_drewN ?_ _ | refine blk_drew ?_ | refine blk_alloc ?_ _)); exact BK318.out) hb); have n4_ := Aside0.mk (below_step (by repeat (first | (with_reducible first | exact HB.out | apply below_alloc | apply pw_below_drewN | apply below_drew1 | refine below_set ?_ GE312.out | refine below_set ?_ GE318.out) | exact HB.out)) hb); clear HO310; clear HO316; clear BK312; clear BK318; clear HB; have HO310 := n0_; have HO316 := n1_; have BK312 := n2_; have BK318 := n3_; have HB := n4_; clear n0_ n1_ n2_ n3_ n4_; (try clear hb); (try clear hb2); (try clear hk); (try clear hi)))
          go_ret
          exact ⟨by first | rfl | (simp [errW_none, errW_some] <;> rfl) | (simp [*, errW_none, errW_some] <;> rfl), by repeat (first | (with_reducible first | exact HB.out | apply below_alloc | apply pw_below_drewN | apply below_drew1 | refine below_set ?_ GE312.out | refine below_set ?_ GE318.out) | exact HB.out)⟩
        · replace c13 := Bool.eq_false_iff.mpr c13
          subst c13
          have H1 : (some false) = some r := by rw [if_neg (show ¬ (false = true) by decide)] at H; exact H
          clear H
          have H := H1
          clear H1
          obtain rfl := Option.some.inj H
          go_wp2_with (first | ((with_reducible refine gate_callee (f := 35) rfl ?_); refine goesL_ (some 17) rfl rfl Try.func35 (by kernel_rfl) rfl #[.slice A0 l0.length c0] rfl (by (try simp only [List.map_toArray, List.map_cons, List.map_nil]); first | done | rfl | (simp only [List.length_drop, List.length_take]; rfl) | (refine congrArg (fun z => #[Value.int .u64 z]) ?_; rw [IntKind.wrap_u64]; omega)) ?_; (with_reducible refine (footer_Get.calls _ _ l0 t307 t308 t311 _ ?side1 ?side2 A10.out).mono ?_); (case side1 => repeat (first | exact (Kd.C_below HR0.out HB.out) | (with_reducible refine Kd.C_alloc ?_ _) | (with_reducible refine Kd.C_drewN ?_ _) | (with_reducible refine Kd.C_drew ?_))); (case side2 => exact HC0.out); rintro e w26 ⟨v309, rfl, ho0, hb⟩; refine ⟨_, rfl, ?_⟩; have n0_ := Aside0.mk (Kd.R_lower ho0 (below_size (by repeat (first | (with_reducible first | exact HB.out | apply below_alloc | apply pw_below_drewN | apply below_drew1) | exact HB.out)))); have n1_ := Aside0.mk (below_step (by repeat (first | (with_reducible first | exact HB.out | apply below_alloc | apply pw_below_drewN | apply below_drew1) | exact HB.out)) hb); clear HB; have HO310 := n0_; have HB := n1_; clear n0_ n1_; (try clear hb); (try clear hb2); (try clear hk); (try clear hi); (try clear ho0)) | ((with_reducible refine gate_dst (N := 3) rfl ?_); (try (refine gate_guard (by rfl) ?_; dsimp only)); refine box_event ?hg (N := 3) ?hd (cs := #[.int .u32 0, .slice none 0 0]) (t := 29) ?hr ?_; (case hd => rfl); (case hg => rfl); (case hr => first | (go_simp; done) | (go_simp; rfl)); intro gb312 hg w27 hbox hb; have n0_ := Aside0.mk (Kd.R_below (by (with_reducible repeat (first | apply Kd.R_alloc | apply Kd.R_drewN | apply Kd.R_drew)); exact HO310.out) hb); have n1_ := Aside0.mk (below_step (by repeat (first | (with_reducible first | exact HB.out | apply below_alloc | apply pw_below_drewN | apply below_drew1) | exact HB.out)) hb); have n2_ := Aside0.mk (hbox); have n3_ := Aside0.mk ((by rw [hg]; exact (below_size (by repeat (first | (with_reducible first | exact HB.out | apply below_alloc | apply pw_below_drewN | apply below_drew1) | exact HB.out))) : w.heap.size ≤ gb312)); have n4_ := Aside0.mk ((by rw [hg]; exact (below_size (by repeat (first | (with_reducible first | exact HB.out | apply below_alloc | apply pw_below_drewN | apply below_drew1) | exact HB.out))) : w.heap.size ≤ gb312)); clear HO310; clear HB; have HO310 := n0_; have HB := n1_; have BK312 := n2_; have GW312 := n3_; have GE312 := n4_; clear n0_ n1_ n2_ n3_ n4_; clear hb hbox hg; have hcz28_0 : w27.cell? ⟨gb312, 0, none⟩ = some (.int .u32 0) := (blk_cell BK312.out 0).trans rfl; have hcz28_1 : w27.cell? ⟨gb312, 1, none⟩ = some (.slice none 0 0) := (blk_cell BK312.out 1).trans rfl; have hfz28_0 := blk_frozen BK312.out 0; have hfz28_1 := blk_frozen BK312.out 1; obtain ⟨Ao29, co29, eo29⟩ := Kd.R_slice HO310.out; subst eo29; have hcv30 := Kd.C_string (P := Try.prog) (A := A0) (c := c0) Try.underlying39 Try.underlying5 Try.underlying9 (Kd.C_below HR0.out HB.out); have hcv30b := fun (v0_ v1_ : Value) => Kd.C_string (P := Try.prog) (A := A0) (c := c0) Try.underlying39 Try.underlying5 Try.underlying9 (Kd.C_below HR0.out (below_set (g := gb312) (j := 1) (v := v1_) (below_set (g := gb312) (j := 0) (v := v0_) HB.out GE312.out) GE312.out))) | ((with_reducible refine gate_callee (f := 36) rfl ?_); refine goesL_ (some 23) rfl rfl Try.func36 (by kernel_rfl) rfl #[.string (strOfNums l0)] rfl (by (try simp only [List.map_toArray, List.map_cons, List.map_nil]); first | done | rfl | (simp only [List.length_drop, List.length_take]; rfl) | (refine congrArg (fun z => #[Value.int .u64 z]) ?_; rw [IntKind.wrap_u64]; omega)) ?_; (with_reducible refine (fascicleref13_Get.calls (strOfNums l0) t313 t314 t317 _ A11.out).mono ?_); rintro e w31 ⟨v315, rfl, ho0, hb⟩; refine ⟨_, rfl, ?_⟩; have n0_ := Aside0.mk (Kd.R_below (by (with_reducible repeat (first | apply Kd.R_alloc | apply Kd.R_drewN | apply Kd.R_drew)); exact (Kd.R_mono (Kd.R_far (p := ⟨gb312, 1, none⟩) (Kd.R_far (p := ⟨gb312, 0, none⟩) (Kd.R_types HO310.out BK312.out (by decide)) (fun _ hk => by first | exact hk.2 | exact hk) (.int .u32 t307)) (fun _ hk => by first | exact hk.2 | exact hk) (.slice Ao29 t308.length co29)) (fun _ h_ => h_.1))) hb); have n1_ := Aside0.mk (Kd.R_lower ho0 (below_size (by repeat (first | (with_reducible first | exact HB.out | apply below_alloc | apply pw_below_drewN | apply below_drew1 | refine below_set ?_ GE312.out) | exact HB.out)))); have n2_ := Aside0.mk (blk_below (g := gb312) (o := .cells #[.int .u32 t307, .slice Ao29 t308.length co29] 29 (0, 0)) (by (with_reducible repeat (first | refine blk_drewN ?_ _ | refine blk_drew ?_ | refine blk_alloc ?_ _)); refine blk_put (cs := #[.int .u32 t307, .slice none 0 0]) ?_ 1 _ rfl; (with_reducible repeat (first | refine blk_drewN ?_ _ | refine blk_drew ?_ | refine blk_alloc ?_ _)); refine blk_put (cs := #[.int .u32 0, .slice none 0 0]) ?_ 0 _ rfl; (with_reducible repeat (first | refine blk_drewN ?_ _ | refine blk_drew ?_ | refine blk_alloc ?_ _)); exact BK312.out) hb); have n3_ := Aside0.mk (below_step (by repeat (first | (with_reducible first | exact HB.out | apply below_alloc | apply pw_below_drewN | apply below_drew1 | refine below_set ?_ GE312.out) | exact HB.out)) hb); clear HO310; clear BK312; clear HB; have HO310 := n0_; have HO316 := n1_; have BK312 := n2_; have HB := n3_; clear n0_ n1_ n2_ n3_; (try clear hb); (try clear hb2); (try clear hk); (try clear hi); (try clear ho0)) | ((with_reducible refine gate_dst (N := 5) rfl ?_); (try (refine gate_guard (by rfl) ?_; dsimp only)); refine box_event ?hg (N := 5) ?hd (cs := #[.int .u32 0, .slice none 0 0]) (t := 74) ?hr ?_; (case hd => rfl); (case hg => rfl); (case hr => first | (go_simp; done) | (go_simp; rfl)); intro gb318 hg w32 hbox hb; have n0_ := Aside0.mk (Kd.R_below (by (with_reducible repeat (first | apply Kd.R_alloc | apply Kd.R_drewN | apply Kd.R_drew)); exact HO310.out) hb); have n1_ := Aside0.mk (Kd.R_below (by (with_reducible repeat (first | apply Kd.R_alloc | apply Kd.R_drewN | apply Kd.R_drew)); exact HO316.out) hb); have n2_ := Aside0.mk (blk_below (g := gb312) (o := .cells #[.int .u32 t307, .slice Ao29 t308.length co29] 29 (0, 0)) (by (with_reducible repeat (first | refine blk_drewN ?_ _ | refine blk_drew ?_ | refine blk_alloc ?_ _)); exact BK312.out) hb); have n3_ := Aside0.mk (below_step (by repeat (first | (with_reducible first | exact HB.out | apply below_alloc | apply pw_below_drewN | apply below_drew1 | refine below_set ?_ GE312.out) | exact HB.out)) hb); have n4_ := Aside0.mk (hbox); have n5_ := Aside0.mk ((by rw [hg]; exact (below_size (by repeat (first | (with_reducible first | exact HB.out | apply below_alloc | apply pw_below_drewN | apply below_drew1 | refine below_set ?_ GE312.out) | exact HB.out))) : w.heap.size ≤ gb318)); have n6_ := Aside0.mk ((by rw [hg]; exact (below_size (by repeat (first | (with_reducible first | exact HB.out | apply below_alloc | apply pw_below_drewN | apply below_drew1 | refine below_set ?_ GE312.out) | exact HB.out))) : w.heap.size ≤ gb318)); have n7_ := Aside0.mk ((by rw [hg]; exact Nat.ne_of_lt (blk_lt (g := gb312) (o := .cells #[.int .u32 t307, .slice Ao29 t308.length co29] 29 (0, 0)) (by (with_reducible repeat (first | refine blk_drewN ?_ _ | refine blk_drew ?_ | refine blk_alloc ?_ _)); exact BK312.out)) : gb312 ≠ gb318)); have n8_ := Aside0.mk ((by rw [hg]; exact Nat.ne_of_gt (blk_lt (g := gb312) (o := .cells #[.int .u32 t307, .slice Ao29 t308.length co29] 29 (0, 0)) (by (with_reducible repeat (first | refine blk_drewN ?_ _ | refine blk_drew ?_ | refine blk_alloc ?_ _)); exact BK312.out)) : gb318 ≠ gb312)); clear HO310; clear HO316; clear BK312; clear HB; have HO310 := n0_; have HO316 := n1_; have BK312 := n2_; have HB := n3_; have BK318 := n4_; have GW318 := n5_; have GE318 := n6_; have NB312_318 := n7_; have NB318_312 := n8_; clear n0_ n1_ n2_ n3_ n4_ n5_ n6_ n7_ n8_; clear hb hbox hg; have hnb33 := NB318_312.out; have hnc33 := NB312_318.out; have hcz34_0 : w32.cell? ⟨gb318, 0, none⟩ = some (.int .u32 0) := (blk_cell BK318.out 0).trans rfl; have hcz34_1 : w32.cell? ⟨gb318, 1, none⟩ = some (.slice none 0 0) := (blk_cell BK318.out 1).trans rfl; have hfz34_0 := blk_frozen BK318.out 0; have hfz34_1 := blk_frozen BK318.out 1; obtain ⟨Ao35, co35, eo35⟩ := Kd.R_slice HO316.out; subst eo35; have hcz36_0 : w32.cell? ⟨gb312, 0, none⟩ = some (.int .u32 t307) := (blk_cell BK312.out 0).trans rfl; have hcz36_1 : w32.cell? ⟨gb312, 1, none⟩ = some (.slice Ao29 t308.length co29) := (blk_cell BK312.out 1).trans rfl; have hfz36_0 := blk_frozen BK312.out 0; have hfz36_1 := blk_frozen BK312.out 1) | ((with_reducible refine gate_callee (f := 37) rfl ?_); refine goesL_ (some 28) rfl rfl Try.func37 (by kernel_rfl) rfl #[.agg #[.int .u32 t307, .slice Ao29 t308.length co29], .agg #[.int .u32 t313, .slice Ao35 t314.length co35]] rfl (by (try simp only [List.map_toArray, List.map_cons, List.map_nil]); first | done | rfl | (simp only [List.length_drop, List.length_take]; rfl) | (refine congrArg (fun z => #[Value.int .u64 z]) ?_; rw [IntKind.wrap_u64]; omega)) ?_; (with_reducible refine (fasciclelaw13_same.calls kj1 t307 _ _ t308 t313 _ _ t314 false _ ?side1 ?side2 ?side3 ?side4 A12.out).mono ?_); (case side1 => refine (Kd.R_reads' (e := 33) (base := w.heap.size) (ok := fun k_ => True) (n := t308.length) (c := co29) ?_).2.2; exact (by (with_reducible repeat (first | apply Kd.R_alloc | apply Kd.R_drewN | apply Kd.R_drew)); exact (Kd.R_mono (Kd.R_far (p := ⟨gb318, 1, none⟩) (Kd.R_far (p := ⟨gb318, 0, none⟩) (Kd.R_types HO310.out BK318.out (by decide)) (fun _ hk => by first | exact hk.2 | exact hk) (.int .u32 t313)) (fun _ hk => by first | exact hk.2 | exact hk) (.slice Ao35 t314.length co35)) (fun _ h_ => h_.1)))); (case side2 => exact (Kd.R_reads' HO310.out).2.1); (case side3 => refine (Kd.R_reads' (e := 135) (base := w.heap.size) (ok := fun k_ => True) (n := t314.length) (c := co35) ?_).2.2; exact (by (with_reducible repeat (first | apply Kd.R_alloc | apply Kd.R_drewN | apply Kd.R_drew)); exact (Kd.R_mono (Kd.R_far (p := ⟨gb318, 1, none⟩) (Kd.R_far (p := ⟨gb318, 0, none⟩) (Kd.R_types HO316.out BK318.out (by decide)) (fun _ hk => by first | exact hk.2 | exact hk) (.int .u32 t313)) (fun _ hk => by first | exact hk.2 | exact hk) (.slice Ao35 t314.length co35)) (fun _ h_ => h_.1)))); (case side4 => exact (Kd.R_reads' HO316.out).2.1); rintro e w37 ⟨rfl, hb⟩; refine ⟨_, rfl, ?_⟩; have n0_ := Aside0.mk (Kd.R_below (by (with_reducible repeat (first | apply Kd.R_alloc | apply Kd.R_drewN | apply Kd.R_drew)); exact (Kd.R_mono (Kd.R_far (p := ⟨gb318, 1, none⟩) (Kd.R_far (p := ⟨gb318, 0, none⟩) (Kd.R_types HO310.out BK318.out (by decide)) (fun _ hk => by first | exact hk.2 | exact hk) (.int .u32 t313)) (fun _ hk => by first | exact hk.2 | exact hk) (.slice Ao35 t314.length co35)) (fun _ h_ => h_.1))) hb); have n1_ := Aside0.mk (Kd.R_below (by (with_reducible repeat (first | apply Kd.R_alloc | apply Kd.R_drewN | apply Kd.R_drew)); exact (Kd.R_mono (Kd.R_far (p := ⟨gb318, 1, none⟩) (Kd.R_far (p := ⟨gb318, 0, none⟩) (Kd.R_types HO316.out BK318.out (by decide)) (fun _ hk => by first | exact hk.2 | exact hk) (.int .u32 t313)) (fun _ hk => by first | exact hk.2 | exact hk) (.slice Ao35 t314.length co35)) (fun _ h_ => h_.1))) hb); have n2_ := Aside0.mk (blk_below (g := gb312) (o := .cells #[.int .u32 t307, .slice Ao29 t308.length co29] 29 (0, 0)) (by (with_reducible repeat (first | refine blk_drewN ?_ _ | refine blk_drew ?_ | refine blk_alloc ?_ _)); refine blk_far ?_ NB312_318.out _; (with_reducible repeat (first | refine blk_drewN ?_ _ | refine blk_drew ?_ | refine blk_alloc ?_ _)); refine blk_far ?_ NB312_318.out _; (with_reducible repeat (first | refine blk_drewN ?_ _ | refine blk_drew ?_ | refine blk_alloc ?_ _)); exact BK312.out) hb); have n3_ := Aside0.mk (blk_below (g := gb318) (o := .cells #[.int .u32 t313, .slice Ao35 t314.length co35] 74 (0, 0)) (by (with_reducible repeat (first | refine blk_drewN ?_ _ | refine blk_drew ?_ | refine blk_alloc ?_ _)); refine blk_put (cs := #[.int .u32 t313, .slice none 0 0]) ?_ 1 _ rfl; (with_reducible repeat (first | refine blk_drewN ?_ _ | refine blk_drew ?_ | refine blk_alloc ?_ _)); refine blk_put (cs := #[.int .u32 0, .slice none 0 0]) ?_ 0 _ rfl; (with_reducible repeat (first | refine blk_drewN ?_ _ | refine blk_drew ?_ | refine blk_alloc ?_ _)); exact BK318.out) hb); have n4_ := Aside0.mk (below_step (by repeat (first | (with_reducible first | exact HB.out | apply below_alloc | apply pw_below_drewN | apply below_drew1 | refine below_set ?_ GE312.out | refine below_set ?_ GE318.out) | exact HB.out)) hb); clear HO310; clear HO316; clear BK312; clear BK318; clear HB; have HO310 := n0_; have HO316 := n1_; have BK312 := n2_; have BK318 := n3_; have HB := n4_; clear n0_ n1_ n2_ n3_ n4_; (try clear hb); (try clear hb2); (try clear hk); (try clear hi)))
          go_ret
          exact ⟨by first | rfl | (simp [errW_none, errW_some] <;> rfl) | (simp [*, errW_none, errW_some] <;> rfl), by repeat (first | (with_reducible first | exact HB.out | apply below_alloc | apply pw_below_drewN | apply below_drew1 | refine below_set ?_ GE312.out | refine below_set ?_ GE318.out) | exact HB.out)⟩
def fasciclelaw13_FooterGets.Pure : Prop := ∀ (l0 : List Int), l0.length ≤ maxLen → l0.length * 1 ≤ 140737488351232 → (∀ y ∈ l0, ((Lit.int .u8 y).wf = true)) → ∃ k, fasciclelaw13_FooterGets.f k l0 = some true
end Go.Proofs.Ytekanmieppnpeaa.G
end
section
set_option linter.unusedVariables false
set_option linter.unusedSimpArgs false
namespace Go.Proofs.Ytekanmieppnpeaa.Pure
open Go Go.RowKit Go.Proofs.Ytekanmieppnpeaa.G Go.Proofs.YtekanmieppnpeaaW.PrintWords Go.Proofs.YtekanmieppnpeaaW.PrintLast Go.Proofs.Ytekanmieppnpeaa.PureKit Go.Proofs.Ytekanmieppnpeaa.Sep Go.Proofs.Ytekanmieppnpeaa.Fe Go.Proofs.Ytekanmieppnpeaa.Tb Go.Proofs.Ytekanmieppnpeaa.LCobs
set_option maxRecDepth 100000
theorem ref13_f (l : List Int) (hb : Bytes l) (hl : l.length ≤ 90000) : fascicleref13_Get.f (strOfNums l) = some ((footget l).1, refsE (footget l).2.1, (footget l).2.2) := by
  unfold fascicleref13_Get.f
  rw [sby_nums l hb, if_pos hl]
theorem same13_ev (u : Int) (T : List E1) (hl : T.length ≤ 1000000) : Ev (fun k => fasciclelaw13_same.f k u T u (refsE T)) true := by
  unfold fasciclelaw13_same.f
  refine Ev.congr (fun k => if_pos rfl) ?_
  exact Ev.bind (same_ev T hl) (Ev.now _)
theorem footget_len (l : List Int) (hb : Bytes l) : (footget l).2.1.length ≤ l.length := by
  rw [footget_eq]
  obtain ⟨-, hol⟩ := opnb_small l hb
  have h := (footrun_len (opnb l).1).1
  unfold footgot
  repeat' split
  all_goals first | (simp; done) | (dsimp only; omega)
theorem FooterGets : fasciclelaw13_FooterGets.Pure := by
  intro l _ _ hw
  have hb := Bytes.of_wf hw
  refine rounds_of (r := true) ?_
  have hlv : fasciclelaw13_lives.f = some true := by decide +kernel
  refine Ev.congr (f := fun k => fasciclelaw13_FooterGets.j0 k l (decide ((l.length : Int) > 1500))) (fun k => ?_) ?_
  · unfold fasciclelaw13_FooterGets.f
    rw [hlv, Option.bind_some, if_pos rfl]
  by_cases h : (l.length : Int) > 1500
  · rw [decide_eq_true h]
    refine Ev.step (f := fun _ => some true) (fun k => ?_) (Ev.now _)
    simp only [fasciclelaw13_FooterGets.j0]
    rw [if_pos trivial, hlv, Option.bind_some]
  · rw [decide_eq_false h]
    have hG : footer_Get.f l = some (footget l) := by unfold footer_Get.f; rw [if_pos ⟨(wbytesOK_iff l).2 hb, by omega⟩]
    refine Ev.step (f := ?_) (fun k => ?_) ?_
    rotate_left
    · simp only [fasciclelaw13_FooterGets.j0]
      rw [if_neg (by decide), hG, Option.bind_some, ref13_f l hb (by omega), Option.bind_some]
    have hfl := footget_len l hb
    refine Ev.bind (same13_ev (footget l).1 (footget l).2.1 (by omega)) ?_
    refine Ev.congr (f := fun _ => some true) (fun k => ?_) (Ev.now _)
    rw [if_pos rfl]
    simp
end Go.Proofs.Ytekanmieppnpeaa.Pure
end
section
namespace Go.Proofs.Ytekanmieppnpeaa.Row
open Go.RowKit Go.Proofs.YtekanmieppnpeaaW.PrintWords Go.Proofs.YtekanmieppnpeaaW.PrintLast Go.Proofs.YtekanmieppnpeaaW.PrintMore
structure Opn {α : Type} (P : Program) (t : TypeId) (d : Kd α) (ok : α → Prop) : Prop where
  opn : ∀ {H : Type} {enc : TypeId × Value → H} {W : World} {base : Nat} {spare : Nat → Bool} {held : Bool} {fuel : Nat} {cs : List Value} {x : DataW H × List MemPlace},
    DataW.trod enc P W base spare held fuel t cs = some x → ∃ a : α, d.K W a cs ∧ ok a
theorem Opn.int {P : Program} {t : TypeId} {k : IntKind} (hu : P.underlying t = some (.int k)) : Opn P t (Kd.int k) (fun a => (Lit.int k a).wf = true) :=
  ⟨fun h => by
    obtain ⟨n, rfl, _, hw⟩ := DataW.trod_int hu h
    exact ⟨n, rfl, hw⟩⟩
theorem Opn.bool {P : Program} {t : TypeId} (hu : P.underlying t = some .bool) : Opn P t Kd.bool (fun _ => True) :=
  ⟨fun h => by
    obtain ⟨n, rfl, _⟩ := DataW.trod_bool hu h
    exact ⟨n, rfl, trivial⟩⟩
theorem Opn.string {P : Program} {t : TypeId} (hu : P.underlying t = some .string) : Opn P t Kd.string (fun a => a.size ≤ 9223372036854775807) :=
  ⟨fun h => by
    obtain ⟨n, rfl, _, hw⟩ := DataW.trod_string hu h
    exact ⟨n, rfl, hw⟩⟩
theorem cells_at {w : World} {base : Nat} {a : Addr} {n : Nat} {cs : List Value} (h : w.cells? base a n = some cs) {i : Nat} {u : Value} (hu : cs[i]? = some u) : w.cell? (a.add i) = some u := by
  obtain ⟨_, hl, hc⟩ := World.cells?_some h
  have hi : i < cs.length := (List.getElem?_eq_some_iff.1 hu).1
  exact (hc i (by omega)).trans hu
theorem add_add' (a : Addr) (i j : Nat) : (a.add i).add j = a.add (i + j) := Deep.add_add a i j
theorem open_row {α : Type} {P : Program} {t e : TypeId} {d : Kd α} {ok : α → Prop} (O : Opn P e d ok) (hu : P.underlying t = some (.slice e)) (hc : P.cellsOf e = d.sz)
    {H : Type} {enc : TypeId × Value → H} {W : World} {base : Nat} {spare : Nat → Bool} {held : Bool} {fuel : Nat} {cs : List Value} {x : DataW H × List MemPlace}
    (h : DataW.trod enc P W base spare held fuel t cs = some x) :
    ∃ (l : List α) (A : Option Addr) (c : Nat), cs = [.slice A l.length c] ∧ l.length ≤ c ∧ d.C W A l.length l ∧ l.length ≤ 9223372036854775807 ∧ (∀ y ∈ l, ok y) ∧
      ((x.1 = .nil ∧ l = []) ∨ ∃ es sp, x.1 = .slice es sp ∧ es.length = l.length) := by
  rcases Deep.open_slice hu h with ⟨rfl, rfl⟩ | ⟨a, len, cap, m, n, D, Pl, rfl, hb, hl, hm, hmm, rfl, hel⟩
  · exact ⟨[], none, 0, rfl, Nat.le_refl _, Kd.C_nil _ _, by simp, by simp, .inl ⟨rfl, rfl⟩⟩
  · have hlm : len ≤ m := by rw [hmm]; split <;> omega
    have hx : ∀ i, i < len → ∃ y : α, (∃ cs', W.cells? base (a.add (i * P.cellsOf e)) (P.cellsOf e) = some cs' ∧ d.K W y cs') ∧ ok y := by
      intro i hi
      obtain ⟨cs', h1, h2⟩ := hel i (by omega)
      obtain ⟨y, hk, ho⟩ := O.opn h2
      exact ⟨y, ⟨cs', h1, hk⟩, ho⟩
    have hf : ∃ l : List α, l.length = len ∧ ∀ (i : Nat) (y : α), l[i]? = some y → (∃ cs', W.cells? base (a.add (i * P.cellsOf e)) (P.cellsOf e) = some cs' ∧ d.K W y cs') ∧ ok y := by
      clear hel hmm hlm hl hm h
      induction len with
      | zero => exact ⟨[], rfl, fun i y hy => by simp at hy⟩
      | succ len ih =>
        obtain ⟨l, hl1, hl2⟩ := ih (fun i hi => hx i (by omega))
        obtain ⟨y, hy⟩ := hx len (by omega)
        refine ⟨l ++ [y], by simp [hl1], fun i z hz => ?_⟩
        rcases Nat.lt_or_ge i l.length with hi | hi
        · rw [List.getElem?_append_left hi] at hz
          exact hl2 i z hz
        · have hi2 : i = l.length := by
            have := (List.getElem?_eq_some_iff.1 hz).1
            simp at this; omega
          subst hi2
          have : y = z := by simpa using hz
          subst this
          rw [hl1]; exact hy
    obtain ⟨l, hl1, hl2⟩ := hf
    subst hl1
    have hmx : l.length ≤ 9223372036854775807 := by unfold maxLen at hm; omega
    refine ⟨l, some a, cap, rfl, hl, ⟨rfl, hmx, fun _ => ⟨a, rfl, fun j p hj => ?_⟩⟩, hmx, fun y hy => ?_, .inr ⟨_, _, rfl, by simp⟩⟩
    · obtain ⟨⟨cs', h1, h2⟩, _⟩ := hl2 j p hj
      refine ⟨cs', d.K_len h2, h2, fun i u hu' => ?_⟩
      have := cells_at h1 hu'
      rw [add_add', hc] at this
      exact this
    · obtain ⟨i, hi, rfl⟩ := List.mem_iff_getElem.1 hy
      exact (hl2 i _ (List.getElem?_eq_getElem hi)).2
theorem Opn.slice {α : Type} {P : Program} {t e : TypeId} {d : Kd α} {ok : α → Prop} (hu : P.underlying t = some (.slice e)) (O : Opn P e d ok) (hc : P.cellsOf e = d.sz) :
    Opn P t (Kd.slice e d) (fun l => l.length ≤ 9223372036854775807 ∧ ∀ y ∈ l, ok y) :=
  ⟨fun h => by
    obtain ⟨l, A, c, rfl, hlc, hC, hm, ho, _⟩ := open_row O hu hc h
    exact ⟨l, ⟨A, c, rfl, hlc, hC⟩, hm, ho⟩⟩
theorem open_top {α : Type} {P : Program} {t e : TypeId} {d : Kd α} {ok : α → Prop} (O : Opn P e d ok) (hu : P.underlying t = some (.slice e)) (hc : P.cellsOf e = d.sz)
    {H : Type} {enc : TypeId × Value → H} {W : World} {base : Nat} {spare : Nat → Bool} {held : Bool} {a : Option Addr} {len cap : Nat} {dd : DataW H} {ps : List MemPlace} {ts : List TypeId} {ds : List (DataW H)} {j : Nat}
    (hsz : (DataW.weightsEach P ts ds).all (· ≤ reachBytes) = true) (ht : ts[j]? = some t) (hd : ds[j]? = some dd) {B : Nat} (hB : P.bytesOf e = B)
    (h : DataW.Trod enc P W base spare held t (.slice a len cap) dd ps) :
    ∃ l : List α, len = l.length ∧ l.length ≤ cap ∧ d.C W a l.length l ∧ l.length ≤ maxLen ∧ l.length * B ≤ 140737488351232 ∧ ∀ y ∈ l, ok y := by
  obtain ⟨fuel, hf⟩ := h
  obtain ⟨l, A, c, hcs, hlc, hC, hm, ho, hx⟩ := open_row O hu hc hf
  simp only [Value.cells] at hcs
  have hcs' : Value.slice a len cap = .slice A l.length c := by simpa using hcs
  injection hcs' with h1 h2 h3
  subst h1; subst h3
  refine ⟨l, h2, hlc, hC, by unfold maxLen; omega, ?_, ho⟩
  rcases hx with ⟨hx, rfl⟩ | ⟨es, sp, hx, he⟩
  · simp
  · have hx' : dd = .slice es sp := hx
    subst hx'
    have z := sized_slice hsz ht hd hu
    rw [hB, he] at z
    have : l.length * B ≤ (l.length + sp.length) * B := Nat.mul_le_mul_right _ (Nat.le_add_right _ _)
    have hr : reachBytes = 140737488351232 := by decide
    omega
end Go.Proofs.Ytekanmieppnpeaa.Row
end
