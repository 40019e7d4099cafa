-- Written by gprint.py (the kit's print.py with contracts of my own taken as given)
import Derived.Test.YtdpghobknhkikaaGx0
import Derived.Test.YtdpghobknhkikaaHLives02
namespace Go.Proofs.Ytdpghobknhkikaa.G
open Go.RowKit Go.Proofs.YtdpghobknhkikaaW.PrintWords Go.Proofs.YtdpghobknhkikaaW.PrintLast Go.Proofs.YtdpghobknhkikaaW.PrintMore
attribute [local go_sem] max2_int min2_int max_two min_two max_three min_three max_four min_four   -- for this text's walks alone
set_option linter.unusedVariables false
set_option linter.unusedSimpArgs false

/-! ### varint_Size: function 29 -/
def varint_Size.l0 : Nat → Int → Int → Option (Int)
  | 0, _, _ => none
  | k + 1, x0, x3 => if x0 ≥ 128 then (varint_Size.l0 k (x0 / 128) (wrap64 (x3 + 1))) else (some x3)
def varint_Size.f (k : Nat) (a0 : Int) : Option (Int) := varint_Size.l0 k a0 1
theorem varint_Size.mono_l : ∀ k, (∀ y0 y1, LeO (varint_Size.l0 k y0 y1) (varint_Size.l0 (k + 1) y0 y1))
  | 0 => fun _ _ r h => by simp [varint_Size.l0] at h
  | k + 1 => by
    have ih0 := varint_Size.mono_l k
    · intro y0 y1
      unfold varint_Size.l0
      repeat' first
      | (with_reducible exact ih0 _ _)
      | (with_reducible exact LeO.refl _)
      | (with_reducible exact LeO.none _)
      | (with_reducible refine LeO.ite ?_ ?_)
      | (with_reducible refine LeO.bind ?_ (fun _ => ?_))
      | exact ih0 _ _
      | exact LeO.none _
      | refine LeO.ite ?_ ?_
      | refine LeO.bind ?_ (fun _ => ?_)
theorem varint_Size.mono : ∀ a0 k, LeO (varint_Size.f k a0) (varint_Size.f (k + 1) a0) := by
  intro a0 k
  have ih0 := varint_Size.mono_l k
  unfold varint_Size.f
  repeat' first
      | (with_reducible exact ih0 _ _)
      | (with_reducible exact LeO.refl _)
      | (with_reducible exact LeO.none _)
      | (with_reducible refine LeO.ite ?_ ?_)
      | (with_reducible refine LeO.bind ?_ (fun _ => ?_))
      | exact ih0 _ _
      | exact LeO.none _
      | refine LeO.ite ?_ ?_
      | refine LeO.bind ?_ (fun _ => ?_)
set_option maxHeartbeats 8000000 in
set_option maxRecDepth 100000 in
theorem varint_Size.calls (k : Nat) (a0 : Int) (r : Int) (w : World) (h : varint_Size.f k a0 = some r) :
    Calls Try.prog 29 #[.int .u64 a0] w fun e w' => e = .returned (.int .i64 r) ∧ Drawn0 w w' := by
  have H : (varint_Size.l0 k a0 1) = some r := h
  clear h
  have H' := Aside0.mk H
  clear H
  go_enter Try.func29, Try.ntmps29
  go_wp2
  go_loopg [0, 3] k (fun kq v0 v3 w' => ∃ (x0_1 : Int) (x3_1 : Int), v0 = .int .u64 x0_1 ∧ v3 = .int .i64 x3_1 ∧ Aside0 (varint_Size.l0 kq x0_1 x3_1 = some r) ∧ Aside0 (kq ≤ k) ∧ Drawn0 w w')
  case atStart => exact ⟨(a0), (1), (by first | rfl | (simp; done) | (simp [*]; done)), (by first | rfl | (simp; done) | (simp [*]; done)), H', ⟨Nat.le_refl _⟩, by repeat (first | exact Drawn0.refl _ | apply Drawn0.step)⟩
  case round =>
    clear H'
    obtain ⟨x0_1, x3_1, rfl, rfl, HA, HK1, ⟨m1, rfl⟩⟩ := hrel
    cases gk with
    | zero => exact absurd HA.out (by simp [varint_Size.l0])
    | succ k1 =>
      have H := HA.out
      clear HA
      simp only [varint_Size.l0] at H
      by_cases c2 : x0_1 ≥ 128
      · rw [if_pos c2] at H
        have c2b0 : decide (128 ≤ x0_1) = true := decide_eq_true c2
        clear c2
        have H' := Aside0.mk H
        clear H
        go_wp2
        go_roundg k1
        case measure => have := HK1.out; omega
        case rel => exact ⟨(x0_1 / 128), (wrap64 (x3_1 + 1)), (by first | rfl | (simp; done) | (simp [*]; done)), (by first | rfl | (simp; done) | (simp [*]; done)), H', ⟨by have := HK1.out; omega⟩, by repeat (first | exact Drawn0.refl _ | apply Drawn0.step)⟩
      · rw [if_neg c2] at H
        have c2b0 : decide (128 ≤ x0_1) = false := decide_eq_false c2
        clear c2
        obtain rfl := Option.some.inj H
        go_wp2
        go_ret
        exact ⟨by first | rfl | (simp; done) | (simp [*]; done), by repeat (first | exact Drawn0.refl _ | apply Drawn0.step)⟩

/-! ### fasciclelaw02_VarintShort: function 7 -/
def fasciclelaw02_VarintShort.f (k : Nat) (a0 : Int) (a1 : Int) : Option (Bool) := (fasciclelaw02_lives.f).bind fun t104 => (if t104 = true then ((varint_Size.f k a0).bind fun t105 => (if t105 < 10 then (if 0 ≤ (wrap64 (7 * t105)) then (if (shr .u64 a0 (wrap64 (7 * t105))) = 0 then (if t105 > 1 then (if 0 ≤ (wrap64 (7 * (wrap64 (t105 - 1)))) then (if (shr .u64 a0 (wrap64 (7 * (wrap64 (t105 - 1))))) = 0 then (some false) else (if t105 < 1 then (some false) else (if t105 > 10 then (some false) else (if a0 ≤ a1 then ((varint_Size.f k a1).bind fun t106 => (some ((decide (a0 ≤ a1)) == (decide (t105 ≤ t106))))) else (some ((decide (a0 ≤ a1)) == false)))))) else (none)) else (if t105 < 1 then (some false) else (if t105 > 10 then (some false) else (if a0 ≤ a1 then ((varint_Size.f k a1).bind fun t107 => (some ((decide (a0 ≤ a1)) == (decide (t105 ≤ t107))))) else (some ((decide (a0 ≤ a1)) == false)))))) else (some false)) else (none)) else (if t105 > 1 then (if 0 ≤ (wrap64 (7 * (wrap64 (t105 - 1)))) then (if (shr .u64 a0 (wrap64 (7 * (wrap64 (t105 - 1))))) = 0 then (some false) else (if t105 < 1 then (some false) else (if t105 > 10 then (some false) else (if a0 ≤ a1 then ((varint_Size.f k a1).bind fun t108 => (some ((decide (a0 ≤ a1)) == (decide (t105 ≤ t108))))) else (some ((decide (a0 ≤ a1)) == false)))))) else (none)) else (if t105 < 1 then (some false) else (if t105 > 10 then (some false) else (if a0 ≤ a1 then ((varint_Size.f k a1).bind fun t109 => (some ((decide (a0 ≤ a1)) == (decide (t105 ≤ t109))))) else (some ((decide (a0 ≤ a1)) == false)))))))) else (some false))
theorem fasciclelaw02_VarintShort.mono : ∀ a0 a1 k, LeO (fasciclelaw02_VarintShort.f k a0 a1) (fasciclelaw02_VarintShort.f (k + 1) a0 a1) := by
  intro a0 a1 k
  unfold fasciclelaw02_VarintShort.f
  repeat' first
      | (with_reducible exact varint_Size.mono _ _)
      | (with_reducible exact LeO.refl _)
      | (with_reducible exact LeO.none _)
      | (with_reducible refine LeO.ite ?_ ?_)
      | (with_reducible refine LeO.bind ?_ (fun _ => ?_))
      | exact varint_Size.mono _ _
      | exact LeO.none _
      | refine LeO.ite ?_ ?_
      | refine LeO.bind ?_ (fun _ => ?_)
set_option maxHeartbeats 8000000 in
set_option maxRecDepth 100000 in
theorem fasciclelaw02_VarintShort.calls (k : Nat) (a0 : Int) (a1 : Int) (r : Bool) (w : World) (h : fasciclelaw02_VarintShort.f k a0 a1 = some r) :
    Calls Try.prog 7 #[.int .u64 a0, .int .u64 a1] w fun e w' => e = .returned (.bool r) ∧ Below w.heap.size w w' := by
  have HB := Aside0.mk (Below.refl w.heap.size w)
  have H : ((fasciclelaw02_lives.f).bind fun t104 => (if t104 = true then ((varint_Size.f k a0).bind fun t105 => (if t105 < 10 then (if 0 ≤ (wrap64 (7 * t105)) then (if (shr .u64 a0 (wrap64 (7 * t105))) = 0 then (if t105 > 1 then (if 0 ≤ (wrap64 (7 * (wrap64 (t105 - 1)))) then (if (shr .u64 a0 (wrap64 (7 * (wrap64 (t105 - 1))))) = 0 then (some false) else (if t105 < 1 then (some false) else (if t105 > 10 then (some false) else (if a0 ≤ a1 then ((varint_Size.f k a1).bind fun t106 => (some ((decide (a0 ≤ a1)) == (decide (t105 ≤ t106))))) else (some ((decide (a0 ≤ a1)) == false)))))) else (none)) else (if t105 < 1 then (some false) else (if t105 > 10 then (some false) else (if a0 ≤ a1 then ((varint_Size.f k a1).bind fun t107 => (some ((decide (a0 ≤ a1)) == (decide (t105 ≤ t107))))) else (some ((decide (a0 ≤ a1)) == false)))))) else (some false)) else (none)) else (if t105 > 1 then (if 0 ≤ (wrap64 (7 * (wrap64 (t105 - 1)))) then (if (shr .u64 a0 (wrap64 (7 * (wrap64 (t105 - 1))))) = 0 then (some false) else (if t105 < 1 then (some false) else (if t105 > 10 then (some false) else (if a0 ≤ a1 then ((varint_Size.f k a1).bind fun t108 => (some ((decide (a0 ≤ a1)) == (decide (t105 ≤ t108))))) else (some ((decide (a0 ≤ a1)) == false)))))) else (none)) else (if t105 < 1 then (some false) else (if t105 > 10 then (some false) else (if a0 ≤ a1 then ((varint_Size.f k a1).bind fun t109 => (some ((decide (a0 ≤ a1)) == (decide (t105 ≤ t109))))) else (some ((decide (a0 ≤ a1)) == false)))))))) else (some false))) = some r := h
  clear h
  replace H := Option.bind_eq_some_iff.mp H
  obtain ⟨t104, A30, H⟩ := H
  replace H : (if t104 = true then ((varint_Size.f k a0).bind fun t105 => (if t105 < 10 then (if 0 ≤ (wrap64 (7 * t105)) then (if (shr .u64 a0 (wrap64 (7 * t105))) = 0 then (if t105 > 1 then (if 0 ≤ (wrap64 (7 * (wrap64 (t105 - 1)))) then (if (shr .u64 a0 (wrap64 (7 * (wrap64 (t105 - 1))))) = 0 then (some false) else (if t105 < 1 then (some false) else (if t105 > 10 then (some false) else (if a0 ≤ a1 then ((varint_Size.f k a1).bind fun t106 => (some ((decide (a0 ≤ a1)) == (decide (t105 ≤ t106))))) else (some ((decide (a0 ≤ a1)) == false)))))) else (none)) else (if t105 < 1 then (some false) else (if t105 > 10 then (some false) else (if a0 ≤ a1 then ((varint_Size.f k a1).bind fun t107 => (some ((decide (a0 ≤ a1)) == (decide (t105 ≤ t107))))) else (some ((decide (a0 ≤ a1)) == false)))))) else (some false)) else (none)) else (if t105 > 1 then (if 0 ≤ (wrap64 (7 * (wrap64 (t105 - 1)))) then (if (shr .u64 a0 (wrap64 (7 * (wrap64 (t105 - 1))))) = 0 then (some false) else (if t105 < 1 then (some false) else (if t105 > 10 then (some false) else (if a0 ≤ a1 then ((varint_Size.f k a1).bind fun t108 => (some ((decide (a0 ≤ a1)) == (decide (t105 ≤ t108))))) else (some ((decide (a0 ≤ a1)) == false)))))) else (none)) else (if t105 < 1 then (some false) else (if t105 > 10 then (some false) else (if a0 ≤ a1 then ((varint_Size.f k a1).bind fun t109 => (some ((decide (a0 ≤ a1)) == (decide (t105 ≤ t109))))) else (some ((decide (a0 ≤ a1)) == false)))))))) else (some false)) = some r := H
  have A3 := Aside0.mk A30
  clear A30
  by_cases c4 : t104 = true
  · subst c4
    have H1 : ((varint_Size.f k a0).bind fun t105 => (if t105 < 10 then (if 0 ≤ (wrap64 (7 * t105)) then (if (shr .u64 a0 (wrap64 (7 * t105))) = 0 then (if t105 > 1 then (if 0 ≤ (wrap64 (7 * (wrap64 (t105 - 1)))) then (if (shr .u64 a0 (wrap64 (7 * (wrap64 (t105 - 1))))) = 0 then (some false) else (if t105 < 1 then (some false) else (if t105 > 10 then (some false) else (if a0 ≤ a1 then ((varint_Size.f k a1).bind fun t106 => (some ((decide (a0 ≤ a1)) == (decide (t105 ≤ t106))))) else (some ((decide (a0 ≤ a1)) == false)))))) else (none)) else (if t105 < 1 then (some false) else (if t105 > 10 then (some false) else (if a0 ≤ a1 then ((varint_Size.f k a1).bind fun t107 => (some ((decide (a0 ≤ a1)) == (decide (t105 ≤ t107))))) else (some ((decide (a0 ≤ a1)) == false)))))) else (some false)) else (none)) else (if t105 > 1 then (if 0 ≤ (wrap64 (7 * (wrap64 (t105 - 1)))) then (if (shr .u64 a0 (wrap64 (7 * (wrap64 (t105 - 1))))) = 0 then (some false) else (if t105 < 1 then (some false) else (if t105 > 10 then (some false) else (if a0 ≤ a1 then ((varint_Size.f k a1).bind fun t108 => (some ((decide (a0 ≤ a1)) == (decide (t105 ≤ t108))))) else (some ((decide (a0 ≤ a1)) == false)))))) else (none)) else (if t105 < 1 then (some false) else (if t105 > 10 then (some false) else (if a0 ≤ a1 then ((varint_Size.f k a1).bind fun t109 => (some ((decide (a0 ≤ a1)) == (decide (t105 ≤ t109))))) else (some ((decide (a0 ≤ a1)) == false)))))))) = some r := by rw [if_pos rfl] at H; exact H
    clear H
    have H := H1
    clear H1
    replace H := Option.bind_eq_some_iff.mp H
    obtain ⟨t105, A50, H⟩ := H
    replace H : (if t105 < 10 then (if 0 ≤ (wrap64 (7 * t105)) then (if (shr .u64 a0 (wrap64 (7 * t105))) = 0 then (if t105 > 1 then (if 0 ≤ (wrap64 (7 * (wrap64 (t105 - 1)))) then (if (shr .u64 a0 (wrap64 (7 * (wrap64 (t105 - 1))))) = 0 then (some false) else (if t105 < 1 then (some false) else (if t105 > 10 then (some false) else (if a0 ≤ a1 then ((varint_Size.f k a1).bind fun t106 => (some ((decide (a0 ≤ a1)) == (decide (t105 ≤ t106))))) else (some ((decide (a0 ≤ a1)) == false)))))) else (none)) else (if t105 < 1 then (some false) else (if t105 > 10 then (some false) else (if a0 ≤ a1 then ((varint_Size.f k a1).bind fun t107 => (some ((decide (a0 ≤ a1)) == (decide (t105 ≤ t107))))) else (some ((decide (a0 ≤ a1)) == false)))))) else (some false)) else (none)) else (if t105 > 1 then (if 0 ≤ (wrap64 (7 * (wrap64 (t105 - 1)))) then (if (shr .u64 a0 (wrap64 (7 * (wrap64 (t105 - 1))))) = 0 then (some false) else (if t105 < 1 then (some false) else (if t105 > 10 then (some false) else (if a0 ≤ a1 then ((varint_Size.f k a1).bind fun t108 => (some ((decide (a0 ≤ a1)) == (decide (t105 ≤ t108))))) else (some ((decide (a0 ≤ a1)) == false)))))) else (none)) else (if t105 < 1 then (some false) else (if t105 > 10 then (some false) else (if a0 ≤ a1 then ((varint_Size.f k a1).bind fun t109 => (some ((decide (a0 ≤ a1)) == (decide (t105 ≤ t109))))) else (some ((decide (a0 ≤ a1)) == false))))))) = some r := H
    have A5 := Aside0.mk A50
    clear A50
    by_cases c6 : t105 < 10
    · rw [if_pos c6] at H
      have c6b0 : decide (t105 < 10) = true := decide_eq_true c6
      clear c6
      obtain ⟨ji7, hji7⟩ : ∃ j_ : Int, (wrap64 (7 * t105)) = j_ := ⟨_, rfl⟩
      replace H : (if 0 ≤ (ji7) then (if (shr .u64 a0 (ji7)) = 0 then (if t105 > 1 then (if 0 ≤ (wrap64 (7 * (wrap64 (t105 - 1)))) then (if (shr .u64 a0 (wrap64 (7 * (wrap64 (t105 - 1))))) = 0 then (some false) else (if t105 < 1 then (some false) else (if t105 > 10 then (some false) else (if a0 ≤ a1 then ((varint_Size.f k a1).bind fun t106 => (some ((decide (a0 ≤ a1)) == (decide (t105 ≤ t106))))) else (some ((decide (a0 ≤ a1)) == false)))))) else (none)) else (if t105 < 1 then (some false) else (if t105 > 10 then (some false) else (if a0 ≤ a1 then ((varint_Size.f k a1).bind fun t107 => (some ((decide (a0 ≤ a1)) == (decide (t105 ≤ t107))))) else (some ((decide (a0 ≤ a1)) == false)))))) else (some false)) else (none)) = some r := by first | (rw [hji7] at H; exact H) | (simp only [hji7] at H ⊢; exact H)
      (try rw [hji7] at A3)
      (try rw [hji7] at A5)
      have hji7w : (IntKind.i64.wrap (7 * t105)) = ji7 := (i64_w _).trans hji7
      by_cases c8 : 0 ≤ (ji7)
      · rw [if_pos c8] at H
        have c8b0 := eq_true c8
        have c8b1 : decide (0 ≤ (ji7)) = true := decide_eq_true c8
        clear c8
        obtain ⟨ji9, hji9⟩ : ∃ j_ : Int, (shr .u64 a0 (ji7)) = j_ := ⟨_, rfl⟩
        replace H : (if (ji9) = 0 then (if t105 > 1 then (if 0 ≤ (wrap64 (7 * (wrap64 (t105 - 1)))) then (if (shr .u64 a0 (wrap64 (7 * (wrap64 (t105 - 1))))) = 0 then (some false) else (if t105 < 1 then (some false) else (if t105 > 10 then (some false) else (if a0 ≤ a1 then ((varint_Size.f k a1).bind fun t106 => (some ((decide (a0 ≤ a1)) == (decide (t105 ≤ t106))))) else (some ((decide (a0 ≤ a1)) == false)))))) else (none)) else (if t105 < 1 then (some false) else (if t105 > 10 then (some false) else (if a0 ≤ a1 then ((varint_Size.f k a1).bind fun t107 => (some ((decide (a0 ≤ a1)) == (decide (t105 ≤ t107))))) else (some ((decide (a0 ≤ a1)) == false)))))) else (some false)) = some r := by first | (rw [hji9] at H; exact H) | (simp only [hji9] at H ⊢; exact H)
        (try rw [hji9] at A3)
        (try rw [hji9] at A5)
        have hji9_ : (a0 / 2 ^ min (ji7).toNat 64) = ji9 := hji9
        have hji9z : (ji7) ≤ 64 → (a0 / 2 ^ (ji7).toNat) = ji9 := shr_small hji9
        by_cases c10 : (ji9) = 0
        · rw [if_pos c10] at H
          have c10b0 : ((ji9) == 0) = true := beq_iff_eq.mpr c10
          have c10b1 : ((ji9) != 0) = false := bne_eq_false_iff_eq.mpr c10
          clear c10
          by_cases c11 : t105 > 1
          · rw [if_pos c11] at H
            have c11b0 : decide (1 < t105) = true := decide_eq_true c11
            clear c11
            obtain ⟨ji12, hji12⟩ : ∃ j_ : Int, (wrap64 (7 * (wrap64 (t105 - 1)))) = j_ := ⟨_, rfl⟩
            replace H : (if 0 ≤ (ji12) then (if (shr .u64 a0 (ji12)) = 0 then (some false) else (if t105 < 1 then (some false) else (if t105 > 10 then (some false) else (if a0 ≤ a1 then ((varint_Size.f k a1).bind fun t106 => (some ((decide (a0 ≤ a1)) == (decide (t105 ≤ t106))))) else (some ((decide (a0 ≤ a1)) == false)))))) else (none)) = some r := by first | (rw [hji12] at H; exact H) | (simp only [hji12] at H ⊢; exact H)
            (try rw [hji12] at A3)
            (try rw [hji12] at A5)
            have hji12w : (IntKind.i64.wrap (7 * (wrap64 (t105 - 1)))) = ji12 := (i64_w _).trans hji12
            by_cases c13 : 0 ≤ (ji12)
            · rw [if_pos c13] at H
              have c13b0 := eq_true c13
              have c13b1 : decide (0 ≤ (ji12)) = true := decide_eq_true c13
              clear c13
              obtain ⟨ji14, hji14⟩ : ∃ j_ : Int, (shr .u64 a0 (ji12)) = j_ := ⟨_, rfl⟩
              replace H : (if (ji14) = 0 then (some false) else (if t105 < 1 then (some false) else (if t105 > 10 then (some false) else (if a0 ≤ a1 then ((varint_Size.f k a1).bind fun t106 => (some ((decide (a0 ≤ a1)) == (decide (t105 ≤ t106))))) else (some ((decide (a0 ≤ a1)) == false)))))) = some r := by first | (rw [hji14] at H; exact H) | (simp only [hji14] at H ⊢; exact H)
              (try rw [hji14] at A3)
              (try rw [hji14] at A5)
              have hji14_ : (a0 / 2 ^ min (ji12).toNat 64) = ji14 := hji14
              have hji14z : (ji12) ≤ 64 → (a0 / 2 ^ (ji12).toNat) = ji14 := shr_small hji14
              by_cases c15 : (ji14) = 0
              · rw [if_pos c15] at H
                have c15b0 : ((ji14) == 0) = true := beq_iff_eq.mpr c15
                have c15b1 : ((ji14) != 0) = false := bne_eq_false_iff_eq.mpr c15
                clear c15
                obtain rfl := Option.some.inj H
                go_enter Try.func7, Try.ntmps7
                go_wp2_with (first | ((with_reducible refine gate_callee (f := 22) rfl ?_); refine goesL_ (some 6) rfl rfl Try.func22 (by kernel_rfl) rfl #[] rfl (by (try simp only [List.map_toArray, List.map_cons, List.map_nil]); first | done | rfl | (simp only [List.length_drop, List.length_take]; rfl)) ?_; (with_reducible refine (fasciclelaw02_lives.calls  true _ A3.out).mono ?_); rintro e w16 ⟨rfl, hb⟩; refine ⟨_, rfl, ?_⟩; have n0_ := Aside0.mk (below_step (by repeat (first | (with_reducible first | exact HB.out | apply below_alloc | apply pw_below_drewN | apply below_drew1) | exact HB.out)) hb); clear HB; have HB := n0_; clear n0_; (try clear hb); (try clear hb2); (try clear hk); (try clear hi)) | ((with_reducible refine gate_callee (f := 29) rfl ?_); refine goesL_ (some 9) rfl rfl Try.func29 (by kernel_rfl) rfl #[.int .u64 a0] rfl (by (try simp only [List.map_toArray, List.map_cons, List.map_nil]); first | done | rfl | (simp only [List.length_drop, List.length_take]; rfl)) ?_; (with_reducible refine (varint_Size.calls k a0 t105 _ A5.out).mono ?_); rintro e w' ⟨rfl, ⟨nd, rfl⟩⟩; refine ⟨_, rfl, ?_⟩))
                go_ret
                exact ⟨by first | rfl | (simp [errW_none, errW_some] <;> rfl) | (simp only [← hji7, ← hji9, ← hji12, ← hji14]; first | rfl | (simp [errW_none, errW_some] <;> rfl)) | (simp [*, errW_none, errW_some] <;> rfl), by repeat (first | (with_reducible first | exact HB.out | apply below_alloc | apply pw_below_drewN | apply below_drew1) | exact HB.out)⟩
              · rw [if_neg c15] at H
                have c15b0 : ((ji14) == 0) = false := beq_eq_false_iff_ne.mpr c15
                have c15b1 : ((ji14) != 0) = true := bne_iff_ne.mpr c15
                by_cases c17 : t105 < 1
                · rw [if_pos c17] at H
                  have c17b0 : decide (t105 < 1) = true := decide_eq_true c17
                  clear c17
                  obtain rfl := Option.some.inj H
                  go_enter Try.func7, Try.ntmps7
                  go_wp2_with (first | ((with_reducible refine gate_callee (f := 22) rfl ?_); refine goesL_ (some 6) rfl rfl Try.func22 (by kernel_rfl) rfl #[] rfl (by (try simp only [List.map_toArray, List.map_cons, List.map_nil]); first | done | rfl | (simp only [List.length_drop, List.length_take]; rfl)) ?_; (with_reducible refine (fasciclelaw02_lives.calls  true _ A3.out).mono ?_); rintro e w18 ⟨rfl, hb⟩; refine ⟨_, rfl, ?_⟩; have n0_ := Aside0.mk (below_step (by repeat (first | (with_reducible first | exact HB.out | apply below_alloc | apply pw_below_drewN | apply below_drew1) | exact HB.out)) hb); clear HB; have HB := n0_; clear n0_; (try clear hb); (try clear hb2); (try clear hk); (try clear hi)) | ((with_reducible refine gate_callee (f := 29) rfl ?_); refine goesL_ (some 9) rfl rfl Try.func29 (by kernel_rfl) rfl #[.int .u64 a0] rfl (by (try simp only [List.map_toArray, List.map_cons, List.map_nil]); first | done | rfl | (simp only [List.length_drop, List.length_take]; rfl)) ?_; (with_reducible refine (varint_Size.calls k a0 t105 _ A5.out).mono ?_); rintro e w' ⟨rfl, ⟨nd, rfl⟩⟩; refine ⟨_, rfl, ?_⟩))
                  go_ret
                  exact ⟨by first | rfl | (simp [errW_none, errW_some] <;> rfl) | (simp only [← hji7, ← hji9, ← hji12, ← hji14]; first | rfl | (simp [errW_none, errW_some] <;> rfl)) | (simp [*, errW_none, errW_some] <;> rfl), by repeat (first | (with_reducible first | exact HB.out | apply below_alloc | apply pw_below_drewN | apply below_drew1) | exact HB.out)⟩
                · rw [if_neg c17] at H
                  have c17b0 : decide (t105 < 1) = false := decide_eq_false c17
                  clear c17
                  by_cases c19 : t105 > 10
                  · rw [if_pos c19] at H
                    have c19b0 : decide (10 < t105) = true := decide_eq_true c19
                    clear c19
                    obtain rfl := Option.some.inj H
                    go_enter Try.func7, Try.ntmps7
                    go_wp2_with (first | ((with_reducible refine gate_callee (f := 22) rfl ?_); refine goesL_ (some 6) rfl rfl Try.func22 (by kernel_rfl) rfl #[] rfl (by (try simp only [List.map_toArray, List.map_cons, List.map_nil]); first | done | rfl | (simp only [List.length_drop, List.length_take]; rfl)) ?_; (with_reducible refine (fasciclelaw02_lives.calls  true _ A3.out).mono ?_); rintro e w20 ⟨rfl, hb⟩; refine ⟨_, rfl, ?_⟩; have n0_ := Aside0.mk (below_step (by repeat (first | (with_reducible first | exact HB.out | apply below_alloc | apply pw_below_drewN | apply below_drew1) | exact HB.out)) hb); clear HB; have HB := n0_; clear n0_; (try clear hb); (try clear hb2); (try clear hk); (try clear hi)) | ((with_reducible refine gate_callee (f := 29) rfl ?_); refine goesL_ (some 9) rfl rfl Try.func29 (by kernel_rfl) rfl #[.int .u64 a0] rfl (by (try simp only [List.map_toArray, List.map_cons, List.map_nil]); first | done | rfl | (simp only [List.length_drop, List.length_take]; rfl)) ?_; (with_reducible refine (varint_Size.calls k a0 t105 _ A5.out).mono ?_); rintro e w' ⟨rfl, ⟨nd, rfl⟩⟩; refine ⟨_, rfl, ?_⟩))
                    go_ret
                    exact ⟨by first | rfl | (simp [errW_none, errW_some] <;> rfl) | (simp only [← hji7, ← hji9, ← hji12, ← hji14]; first | rfl | (simp [errW_none, errW_some] <;> rfl)) | (simp [*, errW_none, errW_some] <;> rfl), by repeat (first | (with_reducible first | exact HB.out | apply below_alloc | apply pw_below_drewN | apply below_drew1) | exact HB.out)⟩
                  · rw [if_neg c19] at H
                    have c19b0 : decide (10 < t105) = false := decide_eq_false c19
                    clear c19
                    by_cases c21 : a0 ≤ a1
                    · rw [if_pos c21] at H
                      have c21b0 : decide (a0 ≤ a1) = true := decide_eq_true c21
                      clear c21
                      replace H := Option.bind_eq_some_iff.mp H
                      obtain ⟨t106, A220, H⟩ := H
                      replace H : (some ((decide (a0 ≤ a1)) == (decide (t105 ≤ t106)))) = some r := H
                      have A22 := Aside0.mk A220
                      clear A220
                      obtain rfl := Option.some.inj H
                      go_enter Try.func7, Try.ntmps7
                      go_wp2_with (first | ((with_reducible refine gate_callee (f := 22) rfl ?_); refine goesL_ (some 6) rfl rfl Try.func22 (by kernel_rfl) rfl #[] rfl (by (try simp only [List.map_toArray, List.map_cons, List.map_nil]); first | done | rfl | (simp only [List.length_drop, List.length_take]; rfl)) ?_; (with_reducible refine (fasciclelaw02_lives.calls  true _ A3.out).mono ?_); rintro e w23 ⟨rfl, hb⟩; refine ⟨_, rfl, ?_⟩; have n0_ := Aside0.mk (below_step (by repeat (first | (with_reducible first | exact HB.out | apply below_alloc | apply pw_below_drewN | apply below_drew1) | exact HB.out)) hb); clear HB; have HB := n0_; clear n0_; (try clear hb); (try clear hb2); (try clear hk); (try clear hi)) | ((with_reducible refine gate_callee (f := 29) rfl ?_); refine goesL_ (some 9) rfl rfl Try.func29 (by kernel_rfl) rfl #[.int .u64 a0] rfl (by (try simp only [List.map_toArray, List.map_cons, List.map_nil]); first | done | rfl | (simp only [List.length_drop, List.length_take]; rfl)) ?_; (with_reducible refine (varint_Size.calls k a0 t105 _ A5.out).mono ?_); rintro e w' ⟨rfl, ⟨nd, rfl⟩⟩; refine ⟨_, rfl, ?_⟩) | (go_at_call 29; (with_reducible refine (varint_Size.calls k a1 t106 _ A22.out).mono ?_); rintro e w' ⟨rfl, ⟨nd, rfl⟩⟩))
                      go_ret
                      exact ⟨by first | rfl | (simp [errW_none, errW_some] <;> rfl) | (simp only [← hji7, ← hji9, ← hji12, ← hji14]; first | rfl | (simp [errW_none, errW_some] <;> rfl)) | (simp [*, errW_none, errW_some] <;> rfl), by repeat (first | (with_reducible first | exact HB.out | apply below_alloc | apply pw_below_drewN | apply below_drew1) | exact HB.out)⟩
                    · rw [if_neg c21] at H
                      have c21b0 : decide (a0 ≤ a1) = false := decide_eq_false c21
                      clear c21
                      obtain rfl := Option.some.inj H
                      go_enter Try.func7, Try.ntmps7
                      go_wp2_with (first | ((with_reducible refine gate_callee (f := 22) rfl ?_); refine goesL_ (some 6) rfl rfl Try.func22 (by kernel_rfl) rfl #[] rfl (by (try simp only [List.map_toArray, List.map_cons, List.map_nil]); first | done | rfl | (simp only [List.length_drop, List.length_take]; rfl)) ?_; (with_reducible refine (fasciclelaw02_lives.calls  true _ A3.out).mono ?_); rintro e w24 ⟨rfl, hb⟩; refine ⟨_, rfl, ?_⟩; have n0_ := Aside0.mk (below_step (by repeat (first | (with_reducible first | exact HB.out | apply below_alloc | apply pw_below_drewN | apply below_drew1) | exact HB.out)) hb); clear HB; have HB := n0_; clear n0_; (try clear hb); (try clear hb2); (try clear hk); (try clear hi)) | ((with_reducible refine gate_callee (f := 29) rfl ?_); refine goesL_ (some 9) rfl rfl Try.func29 (by kernel_rfl) rfl #[.int .u64 a0] rfl (by (try simp only [List.map_toArray, List.map_cons, List.map_nil]); first | done | rfl | (simp only [List.length_drop, List.length_take]; rfl)) ?_; (with_reducible refine (varint_Size.calls k a0 t105 _ A5.out).mono ?_); rintro e w' ⟨rfl, ⟨nd, rfl⟩⟩; refine ⟨_, rfl, ?_⟩))
                      go_ret
                      exact ⟨by first | rfl | (simp [errW_none, errW_some] <;> rfl) | (simp only [← hji7, ← hji9, ← hji12, ← hji14]; first | rfl | (simp [errW_none, errW_some] <;> rfl)) | (simp [*, errW_none, errW_some] <;> rfl), by repeat (first | (with_reducible first | exact HB.out | apply below_alloc | apply pw_below_drewN | apply below_drew1) | exact HB.out)⟩
            · rw [if_neg c13] at H
              exact absurd H (by simp)
          · rw [if_neg c11] at H
            have c11b0 : decide (1 < t105) = false := decide_eq_false c11
            clear c11
            by_cases c25 : t105 < 1
            · rw [if_pos c25] at H
              have c25b0 : decide (t105 < 1) = true := decide_eq_true c25
              clear c25
              obtain rfl := Option.some.inj H
              go_enter Try.func7, Try.ntmps7
              go_wp2_with (first | ((with_reducible refine gate_callee (f := 22) rfl ?_); refine goesL_ (some 6) rfl rfl Try.func22 (by kernel_rfl) rfl #[] rfl (by (try simp only [List.map_toArray, List.map_cons, List.map_nil]); first | done | rfl | (simp only [List.length_drop, List.length_take]; rfl)) ?_; (with_reducible refine (fasciclelaw02_lives.calls  true _ A3.out).mono ?_); rintro e w26 ⟨rfl, hb⟩; refine ⟨_, rfl, ?_⟩; have n0_ := Aside0.mk (below_step (by repeat (first | (with_reducible first | exact HB.out | apply below_alloc | apply pw_below_drewN | apply below_drew1) | exact HB.out)) hb); clear HB; have HB := n0_; clear n0_; (try clear hb); (try clear hb2); (try clear hk); (try clear hi)) | ((with_reducible refine gate_callee (f := 29) rfl ?_); refine goesL_ (some 9) rfl rfl Try.func29 (by kernel_rfl) rfl #[.int .u64 a0] rfl (by (try simp only [List.map_toArray, List.map_cons, List.map_nil]); first | done | rfl | (simp only [List.length_drop, List.length_take]; rfl)) ?_; (with_reducible refine (varint_Size.calls k a0 t105 _ A5.out).mono ?_); rintro e w' ⟨rfl, ⟨nd, rfl⟩⟩; refine ⟨_, rfl, ?_⟩))
              go_ret
              exact ⟨by first | rfl | (simp [errW_none, errW_some] <;> rfl) | (simp only [← hji7, ← hji9]; first | rfl | (simp [errW_none, errW_some] <;> rfl)) | (simp [*, errW_none, errW_some] <;> rfl), by repeat (first | (with_reducible first | exact HB.out | apply below_alloc | apply pw_below_drewN | apply below_drew1) | exact HB.out)⟩
            · rw [if_neg c25] at H
              have c25b0 : decide (t105 < 1) = false := decide_eq_false c25
              clear c25
              by_cases c27 : t105 > 10
              · rw [if_pos c27] at H
                have c27b0 : decide (10 < t105) = true := decide_eq_true c27
                clear c27
                obtain rfl := Option.some.inj H
                go_enter Try.func7, Try.ntmps7
                go_wp2_with (first | ((with_reducible refine gate_callee (f := 22) rfl ?_); refine goesL_ (some 6) rfl rfl Try.func22 (by kernel_rfl) rfl #[] rfl (by (try simp only [List.map_toArray, List.map_cons, List.map_nil]); first | done | rfl | (simp only [List.length_drop, List.length_take]; rfl)) ?_; (with_reducible refine (fasciclelaw02_lives.calls  true _ A3.out).mono ?_); rintro e w28 ⟨rfl, hb⟩; refine ⟨_, rfl, ?_⟩; have n0_ := Aside0.mk (below_step (by repeat (first | (with_reducible first | exact HB.out | apply below_alloc | apply pw_below_drewN | apply below_drew1) | exact HB.out)) hb); clear HB; have HB := n0_; clear n0_; (try clear hb); (try clear hb2); (try clear hk); (try clear hi)) | ((with_reducible refine gate_callee (f := 29) rfl ?_); refine goesL_ (some 9) rfl rfl Try.func29 (by kernel_rfl) rfl #[.int .u64 a0] rfl (by (try simp only [List.map_toArray, List.map_cons, List.map_nil]); first | done | rfl | (simp only [List.length_drop, List.length_take]; rfl)) ?_; (with_reducible refine (varint_Size.calls k a0 t105 _ A5.out).mono ?_); rintro e w' ⟨rfl, ⟨nd, rfl⟩⟩; refine ⟨_, rfl, ?_⟩))
                go_ret
                exact ⟨by first | rfl | (simp [errW_none, errW_some] <;> rfl) | (simp only [← hji7, ← hji9]; first | rfl | (simp [errW_none, errW_some] <;> rfl)) | (simp [*, errW_none, errW_some] <;> rfl), by repeat (first | (with_reducible first | exact HB.out | apply below_alloc | apply pw_below_drewN | apply below_drew1) | exact HB.out)⟩
              · rw [if_neg c27] at H
                have c27b0 : decide (10 < t105) = false := decide_eq_false c27
                clear c27
                by_cases c29 : a0 ≤ a1
                · rw [if_pos c29] at H
                  have c29b0 : decide (a0 ≤ a1) = true := decide_eq_true c29
                  clear c29
                  replace H := Option.bind_eq_some_iff.mp H
                  obtain ⟨t107, A300, H⟩ := H
                  replace H : (some ((decide (a0 ≤ a1)) == (decide (t105 ≤ t107)))) = some r := H
                  have A30 := Aside0.mk A300
                  clear A300
                  obtain rfl := Option.some.inj H
                  go_enter Try.func7, Try.ntmps7
                  go_wp2_with (first | ((with_reducible refine gate_callee (f := 22) rfl ?_); refine goesL_ (some 6) rfl rfl Try.func22 (by kernel_rfl) rfl #[] rfl (by (try simp only [List.map_toArray, List.map_cons, List.map_nil]); first | done | rfl | (simp only [List.length_drop, List.length_take]; rfl)) ?_; (with_reducible refine (fasciclelaw02_lives.calls  true _ A3.out).mono ?_); rintro e w31 ⟨rfl, hb⟩; refine ⟨_, rfl, ?_⟩; have n0_ := Aside0.mk (below_step (by repeat (first | (with_reducible first | exact HB.out | apply below_alloc | apply pw_below_drewN | apply below_drew1) | exact HB.out)) hb); clear HB; have HB := n0_; clear n0_; (try clear hb); (try clear hb2); (try clear hk); (try clear hi)) | ((with_reducible refine gate_callee (f := 29) rfl ?_); refine goesL_ (some 9) rfl rfl Try.func29 (by kernel_rfl) rfl #[.int .u64 a0] rfl (by (try simp only [List.map_toArray, List.map_cons, List.map_nil]); first | done | rfl | (simp only [List.length_drop, List.length_take]; rfl)) ?_; (with_reducible refine (varint_Size.calls k a0 t105 _ A5.out).mono ?_); rintro e w' ⟨rfl, ⟨nd, rfl⟩⟩; refine ⟨_, rfl, ?_⟩) | (go_at_call 29; (with_reducible refine (varint_Size.calls k a1 t107 _ A30.out).mono ?_); rintro e w' ⟨rfl, ⟨nd, rfl⟩⟩))
                  go_ret
                  exact ⟨by first | rfl | (simp [errW_none, errW_some] <;> rfl) | (simp only [← hji7, ← hji9]; first | rfl | (simp [errW_none, errW_some] <;> rfl)) | (simp [*, errW_none, errW_some] <;> rfl), by repeat (first | (with_reducible first | exact HB.out | apply below_alloc | apply pw_below_drewN | apply below_drew1) | exact HB.out)⟩
                · rw [if_neg c29] at H
                  have c29b0 : decide (a0 ≤ a1) = false := decide_eq_false c29
                  clear c29
                  obtain rfl := Option.some.inj H
                  go_enter Try.func7, Try.ntmps7
                  go_wp2_with (first | ((with_reducible refine gate_callee (f := 22) rfl ?_); refine goesL_ (some 6) rfl rfl Try.func22 (by kernel_rfl) rfl #[] rfl (by (try simp only [List.map_toArray, List.map_cons, List.map_nil]); first | done | rfl | (simp only [List.length_drop, List.length_take]; rfl)) ?_; (with_reducible refine (fasciclelaw02_lives.calls  true _ A3.out).mono ?_); rintro e w32 ⟨rfl, hb⟩; refine ⟨_, rfl, ?_⟩; have n0_ := Aside0.mk (below_step (by repeat (first | (with_reducible first | exact HB.out | apply below_alloc | apply pw_below_drewN | apply below_drew1) | exact HB.out)) hb); clear HB; have HB := n0_; clear n0_; (try clear hb); (try clear hb2); (try clear hk); (try clear hi)) | ((with_reducible refine gate_callee (f := 29) rfl ?_); refine goesL_ (some 9) rfl rfl Try.func29 (by kernel_rfl) rfl #[.int .u64 a0] rfl (by (try simp only [List.map_toArray, List.map_cons, List.map_nil]); first | done | rfl | (simp only [List.length_drop, List.length_take]; rfl)) ?_; (with_reducible refine (varint_Size.calls k a0 t105 _ A5.out).mono ?_); rintro e w' ⟨rfl, ⟨nd, rfl⟩⟩; refine ⟨_, rfl, ?_⟩))
                  go_ret
                  exact ⟨by first | rfl | (simp [errW_none, errW_some] <;> rfl) | (simp only [← hji7, ← hji9]; first | rfl | (simp [errW_none, errW_some] <;> rfl)) | (simp [*, errW_none, errW_some] <;> rfl), by repeat (first | (with_reducible first | exact HB.out | apply below_alloc | apply pw_below_drewN | apply below_drew1) | exact HB.out)⟩
        · rw [if_neg c10] at H
          have c10b0 : ((ji9) == 0) = false := beq_eq_false_iff_ne.mpr c10
          have c10b1 : ((ji9) != 0) = true := bne_iff_ne.mpr c10
          obtain rfl := Option.some.inj H
          go_enter Try.func7, Try.ntmps7
          go_wp2_with (first | ((with_reducible refine gate_callee (f := 22) rfl ?_); refine goesL_ (some 6) rfl rfl Try.func22 (by kernel_rfl) rfl #[] rfl (by (try simp only [List.map_toArray, List.map_cons, List.map_nil]); first | done | rfl | (simp only [List.length_drop, List.length_take]; rfl)) ?_; (with_reducible refine (fasciclelaw02_lives.calls  true _ A3.out).mono ?_); rintro e w33 ⟨rfl, hb⟩; refine ⟨_, rfl, ?_⟩; have n0_ := Aside0.mk (below_step (by repeat (first | (with_reducible first | exact HB.out | apply below_alloc | apply pw_below_drewN | apply below_drew1) | exact HB.out)) hb); clear HB; have HB := n0_; clear n0_; (try clear hb); (try clear hb2); (try clear hk); (try clear hi)) | ((with_reducible refine gate_callee (f := 29) rfl ?_); refine goesL_ (some 9) rfl rfl Try.func29 (by kernel_rfl) rfl #[.int .u64 a0] rfl (by (try simp only [List.map_toArray, List.map_cons, List.map_nil]); first | done | rfl | (simp only [List.length_drop, List.length_take]; rfl)) ?_; (with_reducible refine (varint_Size.calls k a0 t105 _ A5.out).mono ?_); rintro e w' ⟨rfl, ⟨nd, rfl⟩⟩; refine ⟨_, rfl, ?_⟩))
          go_ret
          exact ⟨by first | rfl | (simp [errW_none, errW_some] <;> rfl) | (simp only [← hji7, ← hji9]; first | rfl | (simp [errW_none, errW_some] <;> rfl)) | (simp [*, errW_none, errW_some] <;> rfl), by repeat (first | (with_reducible first | exact HB.out | apply below_alloc | apply pw_below_drewN | apply below_drew1) | exact HB.out)⟩
      · rw [if_neg c8] at H
        exact absurd H (by simp)
    · rw [if_neg c6] at H
      have c6b0 : decide (t105 < 10) = false := decide_eq_false c6
      clear c6
      by_cases c34 : t105 > 1
      · rw [if_pos c34] at H
        have c34b0 : decide (1 < t105) = true := decide_eq_true c34
        clear c34
        obtain ⟨ji35, hji35⟩ : ∃ j_ : Int, (wrap64 (7 * (wrap64 (t105 - 1)))) = j_ := ⟨_, rfl⟩
        replace H : (if 0 ≤ (ji35) then (if (shr .u64 a0 (ji35)) = 0 then (some false) else (if t105 < 1 then (some false) else (if t105 > 10 then (some false) else (if a0 ≤ a1 then ((varint_Size.f k a1).bind fun t108 => (some ((decide (a0 ≤ a1)) == (decide (t105 ≤ t108))))) else (some ((decide (a0 ≤ a1)) == false)))))) else (none)) = some r := by first | (rw [hji35] at H; exact H) | (simp only [hji35] at H ⊢; exact H)
        (try rw [hji35] at A3)
        (try rw [hji35] at A5)
        have hji35w : (IntKind.i64.wrap (7 * (wrap64 (t105 - 1)))) = ji35 := (i64_w _).trans hji35
        by_cases c36 : 0 ≤ (ji35)
        · rw [if_pos c36] at H
          have c36b0 := eq_true c36
          have c36b1 : decide (0 ≤ (ji35)) = true := decide_eq_true c36
          clear c36
          obtain ⟨ji37, hji37⟩ : ∃ j_ : Int, (shr .u64 a0 (ji35)) = j_ := ⟨_, rfl⟩
          replace H : (if (ji37) = 0 then (some false) else (if t105 < 1 then (some false) else (if t105 > 10 then (some false) else (if a0 ≤ a1 then ((varint_Size.f k a1).bind fun t108 => (some ((decide (a0 ≤ a1)) == (decide (t105 ≤ t108))))) else (some ((decide (a0 ≤ a1)) == false)))))) = some r := by first | (rw [hji37] at H; exact H) | (simp only [hji37] at H ⊢; exact H)
          (try rw [hji37] at A3)
          (try rw [hji37] at A5)
          have hji37_ : (a0 / 2 ^ min (ji35).toNat 64) = ji37 := hji37
          have hji37z : (ji35) ≤ 64 → (a0 / 2 ^ (ji35).toNat) = ji37 := shr_small hji37
          by_cases c38 : (ji37) = 0
          · rw [if_pos c38] at H
            have c38b0 : ((ji37) == 0) = true := beq_iff_eq.mpr c38
            have c38b1 : ((ji37) != 0) = false := bne_eq_false_iff_eq.mpr c38
            clear c38
            obtain rfl := Option.some.inj H
            go_enter Try.func7, Try.ntmps7
            go_wp2_with (first | ((with_reducible refine gate_callee (f := 22) rfl ?_); refine goesL_ (some 6) rfl rfl Try.func22 (by kernel_rfl) rfl #[] rfl (by (try simp only [List.map_toArray, List.map_cons, List.map_nil]); first | done | rfl | (simp only [List.length_drop, List.length_take]; rfl)) ?_; (with_reducible refine (fasciclelaw02_lives.calls  true _ A3.out).mono ?_); rintro e w39 ⟨rfl, hb⟩; refine ⟨_, rfl, ?_⟩; have n0_ := Aside0.mk (below_step (by repeat (first | (with_reducible first | exact HB.out | apply below_alloc | apply pw_below_drewN | apply below_drew1) | exact HB.out)) hb); clear HB; have HB := n0_; clear n0_; (try clear hb); (try clear hb2); (try clear hk); (try clear hi)) | ((with_reducible refine gate_callee (f := 29) rfl ?_); refine goesL_ (some 9) rfl rfl Try.func29 (by kernel_rfl) rfl #[.int .u64 a0] rfl (by (try simp only [List.map_toArray, List.map_cons, List.map_nil]); first | done | rfl | (simp only [List.length_drop, List.length_take]; rfl)) ?_; (with_reducible refine (varint_Size.calls k a0 t105 _ A5.out).mono ?_); rintro e w' ⟨rfl, ⟨nd, rfl⟩⟩; refine ⟨_, rfl, ?_⟩))
            go_ret
            exact ⟨by first | rfl | (simp [errW_none, errW_some] <;> rfl) | (simp only [← hji35, ← hji37]; first | rfl | (simp [errW_none, errW_some] <;> rfl)) | (simp [*, errW_none, errW_some] <;> rfl), by repeat (first | (with_reducible first | exact HB.out | apply below_alloc | apply pw_below_drewN | apply below_drew1) | exact HB.out)⟩
          · rw [if_neg c38] at H
            have c38b0 : ((ji37) == 0) = false := beq_eq_false_iff_ne.mpr c38
            have c38b1 : ((ji37) != 0) = true := bne_iff_ne.mpr c38
            by_cases c40 : t105 < 1
            · rw [if_pos c40] at H
              have c40b0 : decide (t105 < 1) = true := decide_eq_true c40
              clear c40
              obtain rfl := Option.some.inj H
              go_enter Try.func7, Try.ntmps7
              go_wp2_with (first | ((with_reducible refine gate_callee (f := 22) rfl ?_); refine goesL_ (some 6) rfl rfl Try.func22 (by kernel_rfl) rfl #[] rfl (by (try simp only [List.map_toArray, List.map_cons, List.map_nil]); first | done | rfl | (simp only [List.length_drop, List.length_take]; rfl)) ?_; (with_reducible refine (fasciclelaw02_lives.calls  true _ A3.out).mono ?_); rintro e w41 ⟨rfl, hb⟩; refine ⟨_, rfl, ?_⟩; have n0_ := Aside0.mk (below_step (by repeat (first | (with_reducible first | exact HB.out | apply below_alloc | apply pw_below_drewN | apply below_drew1) | exact HB.out)) hb); clear HB; have HB := n0_; clear n0_; (try clear hb); (try clear hb2); (try clear hk); (try clear hi)) | ((with_reducible refine gate_callee (f := 29) rfl ?_); refine goesL_ (some 9) rfl rfl Try.func29 (by kernel_rfl) rfl #[.int .u64 a0] rfl (by (try simp only [List.map_toArray, List.map_cons, List.map_nil]); first | done | rfl | (simp only [List.length_drop, List.length_take]; rfl)) ?_; (with_reducible refine (varint_Size.calls k a0 t105 _ A5.out).mono ?_); rintro e w' ⟨rfl, ⟨nd, rfl⟩⟩; refine ⟨_, rfl, ?_⟩))
              go_ret
              exact ⟨by first | rfl | (simp [errW_none, errW_some] <;> rfl) | (simp only [← hji35, ← hji37]; first | rfl | (simp [errW_none, errW_some] <;> rfl)) | (simp [*, errW_none, errW_some] <;> rfl), by repeat (first | (with_reducible first | exact HB.out | apply below_alloc | apply pw_below_drewN | apply below_drew1) | exact HB.out)⟩
            · rw [if_neg c40] at H
              have c40b0 : decide (t105 < 1) = false := decide_eq_false c40
              clear c40
              by_cases c42 : t105 > 10
              · rw [if_pos c42] at H
                have c42b0 : decide (10 < t105) = true := decide_eq_true c42
                clear c42
                obtain rfl := Option.some.inj H
                go_enter Try.func7, Try.ntmps7
                go_wp2_with (first | ((with_reducible refine gate_callee (f := 22) rfl ?_); refine goesL_ (some 6) rfl rfl Try.func22 (by kernel_rfl) rfl #[] rfl (by (try simp only [List.map_toArray, List.map_cons, List.map_nil]); first | done | rfl | (simp only [List.length_drop, List.length_take]; rfl)) ?_; (with_reducible refine (fasciclelaw02_lives.calls  true _ A3.out).mono ?_); rintro e w43 ⟨rfl, hb⟩; refine ⟨_, rfl, ?_⟩; have n0_ := Aside0.mk (below_step (by repeat (first | (with_reducible first | exact HB.out | apply below_alloc | apply pw_below_drewN | apply below_drew1) | exact HB.out)) hb); clear HB; have HB := n0_; clear n0_; (try clear hb); (try clear hb2); (try clear hk); (try clear hi)) | ((with_reducible refine gate_callee (f := 29) rfl ?_); refine goesL_ (some 9) rfl rfl Try.func29 (by kernel_rfl) rfl #[.int .u64 a0] rfl (by (try simp only [List.map_toArray, List.map_cons, List.map_nil]); first | done | rfl | (simp only [List.length_drop, List.length_take]; rfl)) ?_; (with_reducible refine (varint_Size.calls k a0 t105 _ A5.out).mono ?_); rintro e w' ⟨rfl, ⟨nd, rfl⟩⟩; refine ⟨_, rfl, ?_⟩))
                go_ret
                exact ⟨by first | rfl | (simp [errW_none, errW_some] <;> rfl) | (simp only [← hji35, ← hji37]; first | rfl | (simp [errW_none, errW_some] <;> rfl)) | (simp [*, errW_none, errW_some] <;> rfl), by repeat (first | (with_reducible first | exact HB.out | apply below_alloc | apply pw_below_drewN | apply below_drew1) | exact HB.out)⟩
              · rw [if_neg c42] at H
                have c42b0 : decide (10 < t105) = false := decide_eq_false c42
                clear c42
                by_cases c44 : a0 ≤ a1
                · rw [if_pos c44] at H
                  have c44b0 : decide (a0 ≤ a1) = true := decide_eq_true c44
                  clear c44
                  replace H := Option.bind_eq_some_iff.mp H
                  obtain ⟨t108, A450, H⟩ := H
                  replace H : (some ((decide (a0 ≤ a1)) == (decide (t105 ≤ t108)))) = some r := H
                  have A45 := Aside0.mk A450
                  clear A450
                  obtain rfl := Option.some.inj H
                  go_enter Try.func7, Try.ntmps7
                  go_wp2_with (first | ((with_reducible refine gate_callee (f := 22) rfl ?_); refine goesL_ (some 6) rfl rfl Try.func22 (by kernel_rfl) rfl #[] rfl (by (try simp only [List.map_toArray, List.map_cons, List.map_nil]); first | done | rfl | (simp only [List.length_drop, List.length_take]; rfl)) ?_; (with_reducible refine (fasciclelaw02_lives.calls  true _ A3.out).mono ?_); rintro e w46 ⟨rfl, hb⟩; refine ⟨_, rfl, ?_⟩; have n0_ := Aside0.mk (below_step (by repeat (first | (with_reducible first | exact HB.out | apply below_alloc | apply pw_below_drewN | apply below_drew1) | exact HB.out)) hb); clear HB; have HB := n0_; clear n0_; (try clear hb); (try clear hb2); (try clear hk); (try clear hi)) | ((with_reducible refine gate_callee (f := 29) rfl ?_); refine goesL_ (some 9) rfl rfl Try.func29 (by kernel_rfl) rfl #[.int .u64 a0] rfl (by (try simp only [List.map_toArray, List.map_cons, List.map_nil]); first | done | rfl | (simp only [List.length_drop, List.length_take]; rfl)) ?_; (with_reducible refine (varint_Size.calls k a0 t105 _ A5.out).mono ?_); rintro e w' ⟨rfl, ⟨nd, rfl⟩⟩; refine ⟨_, rfl, ?_⟩) | (go_at_call 29; (with_reducible refine (varint_Size.calls k a1 t108 _ A45.out).mono ?_); rintro e w' ⟨rfl, ⟨nd, rfl⟩⟩))
                  go_ret
                  exact ⟨by first | rfl | (simp [errW_none, errW_some] <;> rfl) | (simp only [← hji35, ← hji37]; first | rfl | (simp [errW_none, errW_some] <;> rfl)) | (simp [*, errW_none, errW_some] <;> rfl), by repeat (first | (with_reducible first | exact HB.out | apply below_alloc | apply pw_below_drewN | apply below_drew1) | exact HB.out)⟩
                · rw [if_neg c44] at H
                  have c44b0 : decide (a0 ≤ a1) = false := decide_eq_false c44
                  clear c44
                  obtain rfl := Option.some.inj H
                  go_enter Try.func7, Try.ntmps7
                  go_wp2_with (first | ((with_reducible refine gate_callee (f := 22) rfl ?_); refine goesL_ (some 6) rfl rfl Try.func22 (by kernel_rfl) rfl #[] rfl (by (try simp only [List.map_toArray, List.map_cons, List.map_nil]); first | done | rfl | (simp only [List.length_drop, List.length_take]; rfl)) ?_; (with_reducible refine (fasciclelaw02_lives.calls  true _ A3.out).mono ?_); rintro e w47 ⟨rfl, hb⟩; refine ⟨_, rfl, ?_⟩; have n0_ := Aside0.mk (below_step (by repeat (first | (with_reducible first | exact HB.out | apply below_alloc | apply pw_below_drewN | apply below_drew1) | exact HB.out)) hb); clear HB; have HB := n0_; clear n0_; (try clear hb); (try clear hb2); (try clear hk); (try clear hi)) | ((with_reducible refine gate_callee (f := 29) rfl ?_); refine goesL_ (some 9) rfl rfl Try.func29 (by kernel_rfl) rfl #[.int .u64 a0] rfl (by (try simp only [List.map_toArray, List.map_cons, List.map_nil]); first | done | rfl | (simp only [List.length_drop, List.length_take]; rfl)) ?_; (with_reducible refine (varint_Size.calls k a0 t105 _ A5.out).mono ?_); rintro e w' ⟨rfl, ⟨nd, rfl⟩⟩; refine ⟨_, rfl, ?_⟩))
                  go_ret
                  exact ⟨by first | rfl | (simp [errW_none, errW_some] <;> rfl) | (simp only [← hji35, ← hji37]; first | rfl | (simp [errW_none, errW_some] <;> rfl)) | (simp [*, errW_none, errW_some] <;> rfl), by repeat (first | (with_reducible first | exact HB.out | apply below_alloc | apply pw_below_drewN | apply below_drew1) | exact HB.out)⟩
        · rw [if_neg c36] at H
          exact absurd H (by simp)
      · rw [if_neg c34] at H
        have c34b0 : decide (1 < t105) = false := decide_eq_false c34
        clear c34
        by_cases c48 : t105 < 1
        · rw [if_pos c48] at H
          have c48b0 : decide (t105 < 1) = true := decide_eq_true c48
          clear c48
          obtain rfl := Option.some.inj H
          go_enter Try.func7, Try.ntmps7
          go_wp2_with (first | ((with_reducible refine gate_callee (f := 22) rfl ?_); refine goesL_ (some 6) rfl rfl Try.func22 (by kernel_rfl) rfl #[] rfl (by (try simp only [List.map_toArray, List.map_cons, List.map_nil]); first | done | rfl | (simp only [List.length_drop, List.length_take]; rfl)) ?_; (with_reducible refine (fasciclelaw02_lives.calls  true _ A3.out).mono ?_); rintro e w49 ⟨rfl, hb⟩; refine ⟨_, rfl, ?_⟩; have n0_ := Aside0.mk (below_step (by repeat (first | (with_reducible first | exact HB.out | apply below_alloc | apply pw_below_drewN | apply below_drew1) | exact HB.out)) hb); clear HB; have HB := n0_; clear n0_; (try clear hb); (try clear hb2); (try clear hk); (try clear hi)) | ((with_reducible refine gate_callee (f := 29) rfl ?_); refine goesL_ (some 9) rfl rfl Try.func29 (by kernel_rfl) rfl #[.int .u64 a0] rfl (by (try simp only [List.map_toArray, List.map_cons, List.map_nil]); first | done | rfl | (simp only [List.length_drop, List.length_take]; rfl)) ?_; (with_reducible refine (varint_Size.calls k a0 t105 _ A5.out).mono ?_); rintro e w' ⟨rfl, ⟨nd, rfl⟩⟩; refine ⟨_, rfl, ?_⟩))
          go_ret
          exact ⟨by first | rfl | (simp [errW_none, errW_some] <;> rfl) | (simp [*, errW_none, errW_some] <;> rfl), by repeat (first | (with_reducible first | exact HB.out | apply below_alloc | apply pw_below_drewN | apply below_drew1) | exact HB.out)⟩
        · rw [if_neg c48] at H
          have c48b0 : decide (t105 < 1) = false := decide_eq_false c48
          clear c48
          by_cases c50 : t105 > 10
          · rw [if_pos c50] at H
            have c50b0 : decide (10 < t105) = true := decide_eq_true c50
            clear c50
            obtain rfl := Option.some.inj H
            go_enter Try.func7, Try.ntmps7
            go_wp2_with (first | ((with_reducible refine gate_callee (f := 22) rfl ?_); refine goesL_ (some 6) rfl rfl Try.func22 (by kernel_rfl) rfl #[] rfl (by (try simp only [List.map_toArray, List.map_cons, List.map_nil]); first | done | rfl | (simp only [List.length_drop, List.length_take]; rfl)) ?_; (with_reducible refine (fasciclelaw02_lives.calls  true _ A3.out).mono ?_); rintro e w51 ⟨rfl, hb⟩; refine ⟨_, rfl, ?_⟩; have n0_ := Aside0.mk (below_step (by repeat (first | (with_reducible first | exact HB.out | apply below_alloc | apply pw_below_drewN | apply below_drew1) | exact HB.out)) hb); clear HB; have HB := n0_; clear n0_; (try clear hb); (try clear hb2); (try clear hk); (try clear hi)) | ((with_reducible refine gate_callee (f := 29) rfl ?_); refine goesL_ (some 9) rfl rfl Try.func29 (by kernel_rfl) rfl #[.int .u64 a0] rfl (by (try simp only [List.map_toArray, List.map_cons, List.map_nil]); first | done | rfl | (simp only [List.length_drop, List.length_take]; rfl)) ?_; (with_reducible refine (varint_Size.calls k a0 t105 _ A5.out).mono ?_); rintro e w' ⟨rfl, ⟨nd, rfl⟩⟩; refine ⟨_, rfl, ?_⟩))
            go_ret
            exact ⟨by first | rfl | (simp [errW_none, errW_some] <;> rfl) | (simp [*, errW_none, errW_some] <;> rfl), by repeat (first | (with_reducible first | exact HB.out | apply below_alloc | apply pw_below_drewN | apply below_drew1) | exact HB.out)⟩
          · rw [if_neg c50] at H
            have c50b0 : decide (10 < t105) = false := decide_eq_false c50
            clear c50
            by_cases c52 : a0 ≤ a1
            · rw [if_pos c52] at H
              have c52b0 : decide (a0 ≤ a1) = true := decide_eq_true c52
              clear c52
              replace H := Option.bind_eq_some_iff.mp H
              obtain ⟨t109, A530, H⟩ := H
              replace H : (some ((decide (a0 ≤ a1)) == (decide (t105 ≤ t109)))) = some r := H
              have A53 := Aside0.mk A530
              clear A530
              obtain rfl := Option.some.inj H
              go_enter Try.func7, Try.ntmps7
              go_wp2_with (first | ((with_reducible refine gate_callee (f := 22) rfl ?_); refine goesL_ (some 6) rfl rfl Try.func22 (by kernel_rfl) rfl #[] rfl (by (try simp only [List.map_toArray, List.map_cons, List.map_nil]); first | done | rfl | (simp only [List.length_drop, List.length_take]; rfl)) ?_; (with_reducible refine (fasciclelaw02_lives.calls  true _ A3.out).mono ?_); rintro e w54 ⟨rfl, hb⟩; refine ⟨_, rfl, ?_⟩; have n0_ := Aside0.mk (below_step (by repeat (first | (with_reducible first | exact HB.out | apply below_alloc | apply pw_below_drewN | apply below_drew1) | exact HB.out)) hb); clear HB; have HB := n0_; clear n0_; (try clear hb); (try clear hb2); (try clear hk); (try clear hi)) | ((with_reducible refine gate_callee (f := 29) rfl ?_); refine goesL_ (some 9) rfl rfl Try.func29 (by kernel_rfl) rfl #[.int .u64 a0] rfl (by (try simp only [List.map_toArray, List.map_cons, List.map_nil]); first | done | rfl | (simp only [List.length_drop, List.length_take]; rfl)) ?_; (with_reducible refine (varint_Size.calls k a0 t105 _ A5.out).mono ?_); rintro e w' ⟨rfl, ⟨nd, rfl⟩⟩; refine ⟨_, rfl, ?_⟩) | (go_at_call 29; (with_reducible refine (varint_Size.calls k a1 t109 _ A53.out).mono ?_); rintro e w' ⟨rfl, ⟨nd, rfl⟩⟩))
              go_ret
              exact ⟨by first | rfl | (simp [errW_none, errW_some] <;> rfl) | (simp [*, errW_none, errW_some] <;> rfl), by repeat (first | (with_reducible first | exact HB.out | apply below_alloc | apply pw_below_drewN | apply below_drew1) | exact HB.out)⟩
            · rw [if_neg c52] at H
              have c52b0 : decide (a0 ≤ a1) = false := decide_eq_false c52
              clear c52
              obtain rfl := Option.some.inj H
              go_enter Try.func7, Try.ntmps7
              go_wp2_with (first | ((with_reducible refine gate_callee (f := 22) rfl ?_); refine goesL_ (some 6) rfl rfl Try.func22 (by kernel_rfl) rfl #[] rfl (by (try simp only [List.map_toArray, List.map_cons, List.map_nil]); first | done | rfl | (simp only [List.length_drop, List.length_take]; rfl)) ?_; (with_reducible refine (fasciclelaw02_lives.calls  true _ A3.out).mono ?_); rintro e w55 ⟨rfl, hb⟩; refine ⟨_, rfl, ?_⟩; have n0_ := Aside0.mk (below_step (by repeat (first | (with_reducible first | exact HB.out | apply below_alloc | apply pw_below_drewN | apply below_drew1) | exact HB.out)) hb); clear HB; have HB := n0_; clear n0_; (try clear hb); (try clear hb2); (try clear hk); (try clear hi)) | ((with_reducible refine gate_callee (f := 29) rfl ?_); refine goesL_ (some 9) rfl rfl Try.func29 (by kernel_rfl) rfl #[.int .u64 a0] rfl (by (try simp only [List.map_toArray, List.map_cons, List.map_nil]); first | done | rfl | (simp only [List.length_drop, List.length_take]; rfl)) ?_; (with_reducible refine (varint_Size.calls k a0 t105 _ A5.out).mono ?_); rintro e w' ⟨rfl, ⟨nd, rfl⟩⟩; refine ⟨_, rfl, ?_⟩))
              go_ret
              exact ⟨by first | rfl | (simp [errW_none, errW_some] <;> rfl) | (simp [*, errW_none, errW_some] <;> rfl), by repeat (first | (with_reducible first | exact HB.out | apply below_alloc | apply pw_below_drewN | apply below_drew1) | exact HB.out)⟩
  · replace c4 := Bool.eq_false_iff.mpr c4
    subst c4
    have H1 : (some false) = some r := by rw [if_neg (show ¬ (false = true) by decide)] at H; exact H
    clear H
    have H := H1
    clear H1
    obtain rfl := Option.some.inj H
    go_enter Try.func7, Try.ntmps7
    go_wp2_with (first | ((with_reducible refine gate_callee (f := 22) rfl ?_); refine goesL_ (some 6) rfl rfl Try.func22 (by kernel_rfl) rfl #[] rfl (by (try simp only [List.map_toArray, List.map_cons, List.map_nil]); first | done | rfl | (simp only [List.length_drop, List.length_take]; rfl)) ?_; (with_reducible refine (fasciclelaw02_lives.calls  false _ A3.out).mono ?_); rintro e w56 ⟨rfl, hb⟩; refine ⟨_, rfl, ?_⟩; have n0_ := Aside0.mk (below_step (by repeat (first | (with_reducible first | exact HB.out | apply below_alloc | apply pw_below_drewN | apply below_drew1) | exact HB.out)) hb); clear HB; have HB := n0_; clear n0_; (try clear hb); (try clear hb2); (try clear hk); (try clear hi)))
    go_ret
    exact ⟨by first | rfl | (simp [errW_none, errW_some] <;> rfl) | (simp [*, errW_none, errW_some] <;> rfl), by repeat (first | (with_reducible first | exact HB.out | apply below_alloc | apply pw_below_drewN | apply below_drew1) | exact HB.out)⟩
/-- THE ONE PURE STATEMENT of fasciclelaw02_VarintShort. -/
def fasciclelaw02_VarintShort.Pure : Prop := ∀ (a0 : Int) (a1 : Int), (Lit.int .u64 a0).wf = true → (Lit.int .u64 a1).wf = true → ∃ k, fasciclelaw02_VarintShort.f k a0 a1 = some true

end Go.Proofs.Ytdpghobknhkikaa.G
