-- Written by gprint.py (the kit's print.py with contracts of my own taken as given)
import Derived.Test.YtdpghobknhkikaaGx0
import Derived.Test.YtdpghobknhkikaaGx10
import Derived.Test.YtdpghobknhkikaaGx9
namespace Go.Proofs.Ytdpghobknhkikaa.G
open Go.RowKit Go.Proofs.YtdpghobknhkikaaW.PrintWords Go.Proofs.YtdpghobknhkikaaW.PrintLast Go.Proofs.YtdpghobknhkikaaW.PrintMore
attribute [local go_sem] max2_int min2_int max_two min_two max_three min_three max_four min_four   -- for this text's walks alone
set_option linter.unusedVariables false
set_option linter.unusedSimpArgs false

/-! ### fasciclelaw05_CobsApart: function 10 -/
mutual
def fasciclelaw05_CobsApart.j0 : Nat → List Int → List Int → Bool → Option (Bool)
  | 0, _, _, _ => none
  | k + 1, x0, x1, x26 => if x26 = true then ((fasciclelaw05_lives.f k).bind fun t330 => (some t330)) else ((cobs_Stuff.f k x0).bind fun t331 => ((cobs_Stuff.f k x1).bind fun t334 => (if (((strOfNums t331).toList == (strOfNums t334).toList) != ((strOfNums x0).toList == (strOfNums x1).toList)) = true then (some false) else ((some (([] : List Int) : List Int)).bind fun y337 => (if y337.length + t331.length < 140737488355328 then ((some (y337 ++ t331 : List Int)).bind fun y340 => (if y340.length < 140737488355328 then ((some (y340 ++ [0] : List Int)).bind fun y343 => (if y343.length + t334.length < 140737488355328 then ((some (y343 ++ t334 : List Int)).bind fun y346 => (fasciclelaw05_CobsApart.l0 k x0 x1 t331 y346 (-1) y346 (y346.length : Int) 0)) else (none))) else (none))) else (none))))))
def fasciclelaw05_CobsApart.l0 : Nat → List Int → List Int → List Int → List Int → Int → List Int → Int → Int → Option (Bool)
  | 0, _, _, _, _, _, _, _, _ => none
  | k + 1, x0, x1, x5, x7, x8, x50, x51, x52 => if x52 < x51 then (if 0 ≤ x52 then (if x52 < (x50.length : Int) then (if (rd x50 x52) = 0 then (if x8 ≥ 0 then (some false) else (fasciclelaw05_CobsApart.l0 k x0 x1 x5 x7 x52 x50 x51 (wrap64 (x52 + 1)))) else (fasciclelaw05_CobsApart.l0 k x0 x1 x5 x7 x8 x50 x51 (wrap64 (x52 + 1)))) else (none)) else (none)) else (if 0 ≤ x8 then (if x8 ≤ (x7.length : Int) then ((cobs_Unstuff.f k (x7.take (x8 : Int).toNat)).bind fun bt353 => (if 0 ≤ (wrap64 (x8 + 1)) then (if (wrap64 (x8 + 1)) ≤ (x7.length : Int) then ((cobs_Unstuff.f k (x7.drop ((wrap64 (x8 + 1)) : Int).toNat)).bind fun bt361 => (if x8 = (x5.length : Int) then (if bt353.2 = 0 then (if bt361.2 = 0 then (if (strOfNums bt353.1).toList = (strOfNums x0).toList then (some ((strOfNums bt361.1).toList == (strOfNums x1).toList)) else (some false)) else (some false)) else (some false)) else (some false))) else (none)) else (none))) else (none)) else (none))
end
def fasciclelaw05_CobsApart.f (k : Nat) (l0 : List Int) (l1 : List Int) : Option (Bool) := (fasciclelaw05_lives.f k).bind fun t329 => (if t329 = true then (if (l0.length : Int) > 400 then (fasciclelaw05_CobsApart.j0 k l0 l1 true) else (fasciclelaw05_CobsApart.j0 k l0 l1 (decide ((l1.length : Int) > 400)))) else (fasciclelaw05_CobsApart.j0 k l0 l1 true))
theorem fasciclelaw05_CobsApart.mono_l : ∀ k, (∀ y0 y1 y2, LeO (fasciclelaw05_CobsApart.j0 k y0 y1 y2) (fasciclelaw05_CobsApart.j0 (k + 1) y0 y1 y2)) ∧ (∀ y0 y1 y2 y3 y4 y5 y6 y7, LeO (fasciclelaw05_CobsApart.l0 k y0 y1 y2 y3 y4 y5 y6 y7) (fasciclelaw05_CobsApart.l0 (k + 1) y0 y1 y2 y3 y4 y5 y6 y7))
  | 0 => ⟨fun _ _ _ r h => by simp [fasciclelaw05_CobsApart.j0] at h, fun _ _ _ _ _ _ _ _ r h => by simp [fasciclelaw05_CobsApart.l0] at h⟩
  | k + 1 => by
    obtain ⟨ih0, ih1⟩ := fasciclelaw05_CobsApart.mono_l k
    refine ⟨?_, ?_⟩
    · intro y0 y1 y2
      unfold fasciclelaw05_CobsApart.j0
      repeat' first
      | (with_reducible exact ih0 _ _ _)
      | (with_reducible exact ih1 _ _ _ _ _ _ _ _)
      | (with_reducible exact cobs_Stuff.mono _ _)
      | (with_reducible exact cobs_Unstuff.mono _ _)
      | (with_reducible exact fasciclelaw05_lives.mono _)
      | (with_reducible exact LeO.refl _)
      | (with_reducible exact LeO.none _)
      | (with_reducible refine LeO.ite ?_ ?_)
      | (with_reducible refine LeO.bind ?_ (fun _ => ?_))
      | exact ih0 _ _ _
      | exact ih1 _ _ _ _ _ _ _ _
      | exact cobs_Stuff.mono _ _
      | exact cobs_Unstuff.mono _ _
      | exact fasciclelaw05_lives.mono _
      | exact LeO.none _
      | refine LeO.ite ?_ ?_
      | refine LeO.bind ?_ (fun _ => ?_)
    · intro y0 y1 y2 y3 y4 y5 y6 y7
      unfold fasciclelaw05_CobsApart.l0
      repeat' first
      | (with_reducible exact ih0 _ _ _)
      | (with_reducible exact ih1 _ _ _ _ _ _ _ _)
      | (with_reducible exact cobs_Stuff.mono _ _)
      | (with_reducible exact cobs_Unstuff.mono _ _)
      | (with_reducible exact fasciclelaw05_lives.mono _)
      | (with_reducible exact LeO.refl _)
      | (with_reducible exact LeO.none _)
      | (with_reducible refine LeO.ite ?_ ?_)
      | (with_reducible refine LeO.bind ?_ (fun _ => ?_))
      | exact ih0 _ _ _
      | exact ih1 _ _ _ _ _ _ _ _
      | exact cobs_Stuff.mono _ _
      | exact cobs_Unstuff.mono _ _
      | exact fasciclelaw05_lives.mono _
      | exact LeO.none _
      | refine LeO.ite ?_ ?_
      | refine LeO.bind ?_ (fun _ => ?_)
theorem fasciclelaw05_CobsApart.mono : ∀ a0 a1 k, LeO (fasciclelaw05_CobsApart.f k a0 a1) (fasciclelaw05_CobsApart.f (k + 1) a0 a1) := by
  intro a0 a1 k
  obtain ⟨ih0, ih1⟩ := fasciclelaw05_CobsApart.mono_l k
  unfold fasciclelaw05_CobsApart.f
  repeat' first
      | (with_reducible exact ih0 _ _ _)
      | (with_reducible exact ih1 _ _ _ _ _ _ _ _)
      | (with_reducible exact cobs_Stuff.mono _ _)
      | (with_reducible exact cobs_Unstuff.mono _ _)
      | (with_reducible exact fasciclelaw05_lives.mono _)
      | (with_reducible exact LeO.refl _)
      | (with_reducible exact LeO.none _)
      | (with_reducible refine LeO.ite ?_ ?_)
      | (with_reducible refine LeO.bind ?_ (fun _ => ?_))
      | exact ih0 _ _ _
      | exact ih1 _ _ _ _ _ _ _ _
      | exact cobs_Stuff.mono _ _
      | exact cobs_Unstuff.mono _ _
      | exact fasciclelaw05_lives.mono _
      | exact LeO.none _
      | refine LeO.ite ?_ ?_
      | refine LeO.bind ?_ (fun _ => ?_)
set_option maxHeartbeats 8000000 in
set_option maxRecDepth 100000 in
theorem fasciclelaw05_CobsApart.calls (k : Nat) (A0 : Option Addr) (c0 : Nat) (l0 : List Int) (A1 : Option Addr) (c1 : Nat) (l1 : List Int) (r : Bool) (w : World) (hr0 : Kd.C (Kd.int .u8) w A0 l0.length l0) (hc0 : l0.length ≤ c0) (hr1 : Kd.C (Kd.int .u8) w A1 l1.length l1) (hc1 : l1.length ≤ c1) (h : fasciclelaw05_CobsApart.f k l0 l1 = some r) :
    Calls Try.prog 10 #[.slice A0 l0.length c0, .slice A1 l1.length c1] w fun e w' => e = .returned (.bool r) ∧ Below w.heap.size w w' := by
  have HR0 := Aside0.mk hr0
  have HC0 := Aside0.mk hc0
  clear hr0 hc0
  have HR1 := Aside0.mk hr1
  have HC1 := Aside0.mk hc1
  clear hr1 hc1
  have HB := Aside0.mk (Below.refl w.heap.size w)
  have H : ((fasciclelaw05_lives.f k).bind fun t329 => (if t329 = true then (if (l0.length : Int) > 400 then (fasciclelaw05_CobsApart.j0 k l0 l1 true) else (fasciclelaw05_CobsApart.j0 k l0 l1 (decide ((l1.length : Int) > 400)))) else (fasciclelaw05_CobsApart.j0 k l0 l1 true))) = some r := h
  clear h
  have HC3 := Aside0.mk H
  clear H
  go_enter Try.func10, Try.ntmps10
  go_upto_region 1 with (fail)
  go_cut [26] (fun v26 wc => ∃ (kq : Nat) (x26_2 : Bool), v26 = .bool x26_2 ∧ Aside0 (fasciclelaw05_CobsApart.j0 kq l0 l1 x26_2 = some r) ∧ Aside0 (kq ≤ k) ∧ Aside0 (Below w.heap.size w wc))
  case first =>
    have H := HC3.out
    clear HC3
    replace H := Option.bind_eq_some_iff.mp H
    obtain ⟨t329, A40, H⟩ := H
    replace H : (if t329 = true then (if (l0.length : Int) > 400 then (fasciclelaw05_CobsApart.j0 k l0 l1 true) else (fasciclelaw05_CobsApart.j0 k l0 l1 (decide ((l1.length : Int) > 400)))) else (fasciclelaw05_CobsApart.j0 k l0 l1 true)) = some r := H
    have A4 := Aside0.mk A40
    clear A40
    by_cases c5 : t329 = true
    · subst c5
      have H1 : (if (l0.length : Int) > 400 then (fasciclelaw05_CobsApart.j0 k l0 l1 true) else (fasciclelaw05_CobsApart.j0 k l0 l1 (decide ((l1.length : Int) > 400)))) = some r := by rw [if_pos rfl] at H; exact H
      clear H
      have H := H1
      clear H1
      by_cases c6 : (l0.length : Int) > 400
      · rw [if_pos c6] at H
        have c6b0 : decide (400 < (l0.length : Int)) = true := decide_eq_true c6
        have c6b1 : decide (400 < l0.length) = true := decide_eq_true (by omega)
        clear c6
        (first | rw [c6b0] | (simp only [i64_w, i32_w]; rw [c6b0]) | skip)
        have H' := Aside0.mk H
        clear H
        go_wp2_with (first | ((with_reducible refine gate_callee (f := 25) rfl ?_); refine goesL_ (some 15) rfl rfl Try.func25 (by kernel_rfl) rfl #[] rfl (by (try simp only [List.map_toArray, List.map_cons, List.map_nil]); first | done | rfl | (simp only [List.length_drop, List.length_take]; rfl)) ?_; (with_reducible refine (fasciclelaw05_lives.calls k  true _ A4.out).mono ?_); rintro e w7 ⟨rfl, hb⟩; refine ⟨_, rfl, ?_⟩; have n0_ := Aside0.mk (below_step (by repeat (first | (with_reducible first | exact HB.out | apply below_alloc | apply pw_below_drewN | apply below_drew1) | exact HB.out)) hb); clear HB; have HB := n0_; clear n0_; (try clear hb); (try clear hb2); (try clear hk); (try clear hi)))
        go_meet
        case rel => exact ⟨_, (true), (by first | rfl | (simp; done) | (simp [*]; done)), H', ⟨by first | omega | exact Nat.le_refl _⟩, ⟨by repeat (first | (with_reducible first | exact HB.out | apply below_alloc | apply pw_below_drewN | apply below_drew1) | exact HB.out)⟩⟩
      · rw [if_neg c6] at H
        have c6b0 : decide (400 < (l0.length : Int)) = false := decide_eq_false c6
        have c6b1 : decide (400 < l0.length) = false := decide_eq_false (by omega)
        clear c6
        (first | rw [c6b0] | (simp only [i64_w, i32_w]; rw [c6b0]) | skip)
        have H' := Aside0.mk H
        clear H
        go_wp2_with (first | ((with_reducible refine gate_callee (f := 25) rfl ?_); refine goesL_ (some 15) rfl rfl Try.func25 (by kernel_rfl) rfl #[] rfl (by (try simp only [List.map_toArray, List.map_cons, List.map_nil]); first | done | rfl | (simp only [List.length_drop, List.length_take]; rfl)) ?_; (with_reducible refine (fasciclelaw05_lives.calls k  true _ A4.out).mono ?_); rintro e w8 ⟨rfl, hb⟩; refine ⟨_, rfl, ?_⟩; have n0_ := Aside0.mk (below_step (by repeat (first | (with_reducible first | exact HB.out | apply below_alloc | apply pw_below_drewN | apply below_drew1) | exact HB.out)) hb); clear HB; have HB := n0_; clear n0_; (try clear hb); (try clear hb2); (try clear hk); (try clear hi)))
        go_meet
        case rel => exact ⟨_, (decide ((l1.length : Int) > 400)), (by first | rfl | (simp; done) | (simp [*]; done)), H', ⟨by first | omega | exact Nat.le_refl _⟩, ⟨by repeat (first | (with_reducible first | exact HB.out | apply below_alloc | apply pw_below_drewN | apply below_drew1) | exact HB.out)⟩⟩
    · replace c5 := Bool.eq_false_iff.mpr c5
      subst c5
      have H1 : (fasciclelaw05_CobsApart.j0 k l0 l1 true) = some r := by rw [if_neg (show ¬ (false = true) by decide)] at H; exact H
      clear H
      have H := H1
      clear H1
      have H' := Aside0.mk H
      clear H
      go_wp2_with (first | ((with_reducible refine gate_callee (f := 25) rfl ?_); refine goesL_ (some 15) rfl rfl Try.func25 (by kernel_rfl) rfl #[] rfl (by (try simp only [List.map_toArray, List.map_cons, List.map_nil]); first | done | rfl | (simp only [List.length_drop, List.length_take]; rfl)) ?_; (with_reducible refine (fasciclelaw05_lives.calls k  false _ A4.out).mono ?_); rintro e w9 ⟨rfl, hb⟩; refine ⟨_, rfl, ?_⟩; have n0_ := Aside0.mk (below_step (by repeat (first | (with_reducible first | exact HB.out | apply below_alloc | apply pw_below_drewN | apply below_drew1) | exact HB.out)) hb); clear HB; have HB := n0_; clear n0_; (try clear hb); (try clear hb2); (try clear hk); (try clear hi)))
      go_meet
      case rel => exact ⟨_, (true), (by first | rfl | (simp; done) | (simp [*]; done)), H', ⟨by first | omega | exact Nat.le_refl _⟩, ⟨by repeat (first | (with_reducible first | exact HB.out | apply below_alloc | apply pw_below_drewN | apply below_drew1) | exact HB.out)⟩⟩
  case rest =>
    clear HC3
    try clear c1
    try clear c2
    try clear p2
    try clear c5
    try clear c6
    try clear c6b0
    try clear c6b1
    obtain ⟨kq, x26_2, rfl, HA, HJ2, HB⟩ := hcut
    cases kq with
    | zero => exact absurd HA.out (by simp [fasciclelaw05_CobsApart.j0])
    | succ kj2 =>
      have H := HA.out
      clear HA
      simp only [fasciclelaw05_CobsApart.j0] at H
      by_cases c10 : x26_2 = true
      · subst c10
        have H1 : ((fasciclelaw05_lives.f kj2).bind fun t330 => (some t330)) = some r := by rw [if_pos rfl] at H; exact H
        clear H
        have H := H1
        clear H1
        replace H := Option.bind_eq_some_iff.mp H
        obtain ⟨t330, A110, H⟩ := H
        replace H : (some t330) = some r := H
        have A11 := Aside0.mk A110
        clear A110
        obtain rfl := Option.some.inj H
        go_wp2_with (first | ((with_reducible refine gate_callee (f := 25) rfl ?_); refine goesL_ (some 27) rfl rfl Try.func25 (by kernel_rfl) rfl #[] rfl (by (try simp only [List.map_toArray, List.map_cons, List.map_nil]); first | done | rfl | (simp only [List.length_drop, List.length_take]; rfl)) ?_; (with_reducible refine (fasciclelaw05_lives.calls kj2  t330 _ A11.out).mono ?_); rintro e w12 ⟨rfl, hb⟩; refine ⟨_, rfl, ?_⟩; have n0_ := Aside0.mk (below_step (by repeat (first | (with_reducible first | exact HB.out | apply below_alloc | apply pw_below_drewN | apply below_drew1) | exact HB.out)) hb); clear HB; have HB := n0_; clear n0_; (try clear hb); (try clear hb2); (try clear hk); (try clear hi)))
        go_ret
        exact ⟨by first | rfl | (simp [errW_none, errW_some] <;> rfl) | (simp [*, errW_none, errW_some] <;> rfl), by repeat (first | (with_reducible first | exact HB.out | apply below_alloc | apply pw_below_drewN | apply below_drew1) | exact HB.out)⟩
      · replace c10 := Bool.eq_false_iff.mpr c10
        subst c10
        have H1 : ((cobs_Stuff.f kj2 l0).bind fun t331 => ((cobs_Stuff.f kj2 l1).bind fun t334 => (if (((strOfNums t331).toList == (strOfNums t334).toList) != ((strOfNums l0).toList == (strOfNums l1).toList)) = true then (some false) else ((some (([] : List Int) : List Int)).bind fun y337 => (if y337.length + t331.length < 140737488355328 then ((some (y337 ++ t331 : List Int)).bind fun y340 => (if y340.length < 140737488355328 then ((some (y340 ++ [0] : List Int)).bind fun y343 => (if y343.length + t334.length < 140737488355328 then ((some (y343 ++ t334 : List Int)).bind fun y346 => (fasciclelaw05_CobsApart.l0 kj2 l0 l1 t331 y346 (-1) y346 (y346.length : Int) 0)) else (none))) else (none))) else (none)))))) = some r := by rw [if_neg (show ¬ (false = true) by decide)] at H; exact H
        clear H
        have H := H1
        clear H1
        replace H := Option.bind_eq_some_iff.mp H
        obtain ⟨t331, A130, H⟩ := H
        replace H : ((cobs_Stuff.f kj2 l1).bind fun t334 => (if (((strOfNums t331).toList == (strOfNums t334).toList) != ((strOfNums l0).toList == (strOfNums l1).toList)) = true then (some false) else ((some (([] : List Int) : List Int)).bind fun y337 => (if y337.length + t331.length < 140737488355328 then ((some (y337 ++ t331 : List Int)).bind fun y340 => (if y340.length < 140737488355328 then ((some (y340 ++ [0] : List Int)).bind fun y343 => (if y343.length + t334.length < 140737488355328 then ((some (y343 ++ t334 : List Int)).bind fun y346 => (fasciclelaw05_CobsApart.l0 kj2 l0 l1 t331 y346 (-1) y346 (y346.length : Int) 0)) else (none))) else (none))) else (none))))) = some r := H
        have A13 := Aside0.mk A130
        clear A130
        replace H := Option.bind_eq_some_iff.mp H
        obtain ⟨t334, A140, H⟩ := H
        replace H : (if (((strOfNums t331).toList == (strOfNums t334).toList) != ((strOfNums l0).toList == (strOfNums l1).toList)) = true then (some false) else ((some (([] : List Int) : List Int)).bind fun y337 => (if y337.length + t331.length < 140737488355328 then ((some (y337 ++ t331 : List Int)).bind fun y340 => (if y340.length < 140737488355328 then ((some (y340 ++ [0] : List Int)).bind fun y343 => (if y343.length + t334.length < 140737488355328 then ((some (y343 ++ t334 : List Int)).bind fun y346 => (fasciclelaw05_CobsApart.l0 kj2 l0 l1 t331 y346 (-1) y346 (y346.length : Int) 0)) else (none))) else (none))) else (none)))) = some r := H
        have A14 := Aside0.mk A140
        clear A140
        by_cases c15 : (((strOfNums t331).toList == (strOfNums t334).toList) != ((strOfNums l0).toList == (strOfNums l1).toList)) = true
        · rw [if_pos c15] at H
          have c15b0 : (((strOfNums t331).toList == (strOfNums t334).toList) != ((strOfNums l0).toList == (strOfNums l1).toList)) = true := c15
          (try (have c15b1 : decide (((strOfNums t331).toList == (strOfNums t334).toList) = ((strOfNums l0).toList == (strOfNums l1).toList)) = false := by simpa using c15))
          (try (have c15b2 : (((strOfNums t331).toList == (strOfNums t334).toList) == ((strOfNums l0).toList == (strOfNums l1).toList)) = false := by simpa using c15))
          (try (have c15b3 : ¬ (((strOfNums t331).toList == (strOfNums t334).toList) = ((strOfNums l0).toList == (strOfNums l1).toList)) := by simpa using c15))
          clear c15
          obtain rfl := Option.some.inj H
          go_wp2_with (first | ((with_reducible refine gate_callee (f := 28) rfl ?_); refine goesL_ (some 29) rfl rfl Try.func28 (by kernel_rfl) rfl #[.slice A0 l0.length c0] rfl (by (try simp only [List.map_toArray, List.map_cons, List.map_nil]); first | done | rfl | (simp only [List.length_drop, List.length_take]; rfl)) ?_; (with_reducible refine (cobs_Stuff.calls kj2 (fun k_ => k_ < w.heap.size) _ _ l0 t331 _ ?side1 A13.out).mono ?_); (case side1 => exact Kd.V_mk HC0.out (Kd.F_below (Kd.C_F (Kd.heap_int .u8) HR0.out) (by repeat (first | (with_reducible first | exact HB.out | apply below_alloc | apply pw_below_drewN | apply below_drew1) | exact HB.out)))); rintro e w16 ⟨v332, rfl, ho0, hb⟩; refine ⟨_, rfl, ?_⟩; have n0_ := Aside0.mk (Kd.R_lower (Kd.R_mono (ok' := fun k_ => True) ho0 (fun _ hk_ => trivial)) (below_size (by repeat (first | (with_reducible first | exact HB.out | apply below_alloc | apply pw_below_drewN | apply below_drew1) | exact HB.out)))); have n1_ := Aside0.mk (below_step (by repeat (first | (with_reducible first | exact HB.out | apply below_alloc | apply pw_below_drewN | apply below_drew1) | exact HB.out)) hb); clear HB; have HO333 := n0_; have HB := n1_; clear n0_ n1_; (try clear hb); (try clear hb2); (try clear hk); (try clear hi); (try clear ho0)) | ((with_reducible refine gate_callee (f := 28) rfl ?_); refine goesL_ (some 31) rfl rfl Try.func28 (by kernel_rfl) rfl #[.slice A1 l1.length c1] rfl (by (try simp only [List.map_toArray, List.map_cons, List.map_nil]); first | done | rfl | (simp only [List.length_drop, List.length_take]; rfl)) ?_; (with_reducible refine (cobs_Stuff.calls kj2 (fun k_ => k_ < w.heap.size) _ _ l1 t334 _ ?side1 A14.out).mono ?_); (case side1 => exact Kd.V_mk HC1.out (Kd.F_below (Kd.C_F (Kd.heap_int .u8) HR1.out) (by repeat (first | (with_reducible first | exact HB.out | apply below_alloc | apply pw_below_drewN | apply below_drew1) | exact HB.out)))); rintro e w17 ⟨v335, rfl, ho0, hb⟩; refine ⟨_, rfl, ?_⟩; have n0_ := Aside0.mk (Kd.R_elder' (by (with_reducible repeat (first | apply Kd.R_alloc | apply Kd.R_drewN | apply Kd.R_drew)); exact HO333.out) (Kd.R_base ho0) hb); have n1_ := Aside0.mk (Kd.R_lower (Kd.R_new' (Kd.R_mono (ok' := fun k_ => True) ho0 (fun _ hk_ => trivial)) (Kd.R_lt (by (with_reducible repeat (first | apply Kd.R_alloc | apply Kd.R_drewN | apply Kd.R_drew)); exact HO333.out))) (below_size (by repeat (first | (with_reducible first | exact HB.out | apply below_alloc | apply pw_below_drewN | apply below_drew1) | exact HB.out)))); have n2_ := Aside0.mk (below_step (by repeat (first | (with_reducible first | exact HB.out | apply below_alloc | apply pw_below_drewN | apply below_drew1) | exact HB.out)) hb); clear HO333; clear HB; have HO333 := n0_; have HO336 := n1_; have HB := n2_; clear n0_ n1_ n2_; (try clear hb); (try clear hb2); (try clear hk); (try clear hi); (try clear ho0); have hcv18 := own_string (P := Try.prog) Try.underlying22 Try.underlying5 Try.underlying9 (Kd.own_of_R HO333.out); have hcv19 := own_string (P := Try.prog) Try.underlying22 Try.underlying5 Try.underlying9 (Kd.own_of_R HO336.out); have hcv20 := Kd.C_string (P := Try.prog) (A := A0) (c := c0) Try.underlying22 Try.underlying5 Try.underlying9 (Kd.C_below HR0.out HB.out); have hcv21 := Kd.C_string (P := Try.prog) (A := A1) (c := c1) Try.underlying22 Try.underlying5 Try.underlying9 (Kd.C_below HR1.out HB.out)))
          go_ret
          exact ⟨by first | rfl | (simp [errW_none, errW_some] <;> rfl) | (simp [*, errW_none, errW_some] <;> rfl), by repeat (first | (with_reducible first | exact HB.out | apply below_alloc | apply pw_below_drewN | apply below_drew1) | exact HB.out)⟩
        · rw [if_neg c15] at H
          have c15b0 : (((strOfNums t331).toList == (strOfNums t334).toList) != ((strOfNums l0).toList == (strOfNums l1).toList)) = false := by simpa using c15
          (try (have c15b1 : decide (((strOfNums t331).toList == (strOfNums t334).toList) = ((strOfNums l0).toList == (strOfNums l1).toList)) = true := by simpa using c15))
          (try (have c15b2 : (((strOfNums t331).toList == (strOfNums t334).toList) == ((strOfNums l0).toList == (strOfNums l1).toList)) = true := by simpa using c15))
          clear c15
          obtain ⟨y337, hy337⟩ : ∃ y_ : List Int, y_ = (([] : List Int)) := ⟨_, rfl⟩
          replace H : (if y337.length + t331.length < 140737488355328 then ((some (y337 ++ t331 : List Int)).bind fun y340 => (if y340.length < 140737488355328 then ((some (y340 ++ [0] : List Int)).bind fun y343 => (if y343.length + t334.length < 140737488355328 then ((some (y343 ++ t334 : List Int)).bind fun y346 => (fasciclelaw05_CobsApart.l0 kj2 l0 l1 t331 y346 (-1) y346 (y346.length : Int) 0)) else (none))) else (none))) else (none)) = some r := by first | (rw [hy337]; with_reducible exact H) | (have H2_ := (Option.bind_some _ _).symm.trans H; rw [hy337]; with_reducible exact H2_) | (have H2_ := (Option.bind_some _ _).symm.trans H; with_reducible exact H2_) | with_reducible exact H | (rw [hy337]; exact H) | exact H
          have Ny337 := Aside0.mk hy337
          clear hy337
          by_cases c22 : y337.length + t331.length < 140737488355328
          · rw [if_pos c22] at H
            have LMc22 := Aside0.mk c22
            clear c22
            obtain ⟨y340, hy340⟩ : ∃ y_ : List Int, y_ = (y337 ++ t331) := ⟨_, rfl⟩
            replace H : (if y340.length < 140737488355328 then ((some (y340 ++ [0] : List Int)).bind fun y343 => (if y343.length + t334.length < 140737488355328 then ((some (y343 ++ t334 : List Int)).bind fun y346 => (fasciclelaw05_CobsApart.l0 kj2 l0 l1 t331 y346 (-1) y346 (y346.length : Int) 0)) else (none))) else (none)) = some r := by first | (rw [hy340]; with_reducible exact H) | (have H2_ := (Option.bind_some _ _).symm.trans H; rw [hy340]; with_reducible exact H2_) | (have H2_ := (Option.bind_some _ _).symm.trans H; with_reducible exact H2_) | with_reducible exact H | (rw [hy340]; exact H) | exact H
            have Ny340 := Aside0.mk hy340
            clear hy340
            by_cases c23 : y340.length < 140737488355328
            · rw [if_pos c23] at H
              have LMc23 := Aside0.mk c23
              clear c23
              obtain ⟨y343, hy343⟩ : ∃ y_ : List Int, y_ = (y340 ++ [0]) := ⟨_, rfl⟩
              replace H : (if y343.length + t334.length < 140737488355328 then ((some (y343 ++ t334 : List Int)).bind fun y346 => (fasciclelaw05_CobsApart.l0 kj2 l0 l1 t331 y346 (-1) y346 (y346.length : Int) 0)) else (none)) = some r := by first | (rw [hy343]; with_reducible exact H) | (have H2_ := (Option.bind_some _ _).symm.trans H; rw [hy343]; with_reducible exact H2_) | (have H2_ := (Option.bind_some _ _).symm.trans H; with_reducible exact H2_) | with_reducible exact H | (rw [hy343]; exact H) | exact H
              have Ny343 := Aside0.mk hy343
              clear hy343
              by_cases c24 : y343.length + t334.length < 140737488355328
              · rw [if_pos c24] at H
                have LMc24 := Aside0.mk c24
                clear c24
                obtain ⟨y346, hy346⟩ : ∃ y_ : List Int, y_ = (y343 ++ t334) := ⟨_, rfl⟩
                replace H : (fasciclelaw05_CobsApart.l0 kj2 l0 l1 t331 y346 (-1) y346 (y346.length : Int) 0) = some r := by first | (rw [hy346]; with_reducible exact H) | (have H2_ := (Option.bind_some _ _).symm.trans H; rw [hy346]; with_reducible exact H2_) | (have H2_ := (Option.bind_some _ _).symm.trans H; with_reducible exact H2_) | with_reducible exact H | (rw [hy346]; exact H) | exact H
                have Ny346 := Aside0.mk hy346
                clear hy346
                have H' := Aside0.mk H
                clear H
                go_wp2_with (first | ((with_reducible refine gate_callee (f := 28) rfl ?_); refine goesL_ (some 29) rfl rfl Try.func28 (by kernel_rfl) rfl #[.slice A0 l0.length c0] rfl (by (try simp only [List.map_toArray, List.map_cons, List.map_nil]); first | done | rfl | (simp only [List.length_drop, List.length_take]; rfl)) ?_; (with_reducible refine (cobs_Stuff.calls kj2 (fun k_ => k_ < w.heap.size) _ _ l0 t331 _ ?side1 A13.out).mono ?_); (case side1 => exact Kd.V_mk HC0.out (Kd.F_below (Kd.C_F (Kd.heap_int .u8) HR0.out) (by repeat (first | (with_reducible first | exact HB.out | apply below_alloc | apply pw_below_drewN | apply below_drew1) | exact HB.out)))); rintro e w25 ⟨v332, rfl, ho0, hb⟩; refine ⟨_, rfl, ?_⟩; have n0_ := Aside0.mk (Kd.R_lower (Kd.R_mono (ok' := fun k_ => True) ho0 (fun _ hk_ => trivial)) (below_size (by repeat (first | (with_reducible first | exact HB.out | apply below_alloc | apply pw_below_drewN | apply below_drew1) | exact HB.out)))); have n1_ := Aside0.mk (below_step (by repeat (first | (with_reducible first | exact HB.out | apply below_alloc | apply pw_below_drewN | apply below_drew1) | exact HB.out)) hb); clear HB; have HO333 := n0_; have HB := n1_; clear n0_ n1_; (try clear hb); (try clear hb2); (try clear hk); (try clear hi); (try clear ho0)) | ((with_reducible refine gate_callee (f := 28) rfl ?_); refine goesL_ (some 31) rfl rfl Try.func28 (by kernel_rfl) rfl #[.slice A1 l1.length c1] rfl (by (try simp only [List.map_toArray, List.map_cons, List.map_nil]); first | done | rfl | (simp only [List.length_drop, List.length_take]; rfl)) ?_; (with_reducible refine (cobs_Stuff.calls kj2 (fun k_ => k_ < w.heap.size) _ _ l1 t334 _ ?side1 A14.out).mono ?_); (case side1 => exact Kd.V_mk HC1.out (Kd.F_below (Kd.C_F (Kd.heap_int .u8) HR1.out) (by repeat (first | (with_reducible first | exact HB.out | apply below_alloc | apply pw_below_drewN | apply below_drew1) | exact HB.out)))); rintro e w26 ⟨v335, rfl, ho0, hb⟩; refine ⟨_, rfl, ?_⟩; have n0_ := Aside0.mk (Kd.R_elder' (by (with_reducible repeat (first | apply Kd.R_alloc | apply Kd.R_drewN | apply Kd.R_drew)); exact HO333.out) (Kd.R_base ho0) hb); have n1_ := Aside0.mk (Kd.R_lower (Kd.R_new' (Kd.R_mono (ok' := fun k_ => True) ho0 (fun _ hk_ => trivial)) (Kd.R_lt (by (with_reducible repeat (first | apply Kd.R_alloc | apply Kd.R_drewN | apply Kd.R_drew)); exact HO333.out))) (below_size (by repeat (first | (with_reducible first | exact HB.out | apply below_alloc | apply pw_below_drewN | apply below_drew1) | exact HB.out)))); have n2_ := Aside0.mk (below_step (by repeat (first | (with_reducible first | exact HB.out | apply below_alloc | apply pw_below_drewN | apply below_drew1) | exact HB.out)) hb); clear HO333; clear HB; have HO333 := n0_; have HO336 := n1_; have HB := n2_; clear n0_ n1_ n2_; (try clear hb); (try clear hb2); (try clear hk); (try clear hi); (try clear ho0); have hcv27 := own_string (P := Try.prog) Try.underlying22 Try.underlying5 Try.underlying9 (Kd.own_of_R HO333.out); have hcv28 := own_string (P := Try.prog) Try.underlying22 Try.underlying5 Try.underlying9 (Kd.own_of_R HO336.out); have hcv29 := Kd.C_string (P := Try.prog) (A := A0) (c := c0) Try.underlying22 Try.underlying5 Try.underlying9 (Kd.C_below HR0.out HB.out); have hcv30 := Kd.C_string (P := Try.prog) (A := A1) (c := c1) Try.underlying22 Try.underlying5 Try.underlying9 (Kd.C_below HR1.out HB.out)) | ((with_reducible refine gate_dst (N := 43) rfl ?_); (try (refine gate_guard (by rfl) ?_; dsimp only)); refine Kd.R_lit (Kd.int .u8) _ 5 ?hg (N := 43) ?hd (xs := ([] : List Int)) (inner := []) (ok := fun _ => True) (okp := fun _ => True) ?hr ?hp (fun _ hk => hk) trivial (Below.refl _ _) (Nat.le_refl _) (by simp) ?_; (case hd => rfl); (case hg => rfl); (case hr => first | (go_simp; done) | (go_simp; rfl)); (case hp => exact (Reps.none _ _)); intro v338 w31 ho32 hb hg_ hnew_; clear hg_ hnew_; (first | rw [← Ny337.out] at ho32 | (simp only [Int.reduceToNat] at ho32; rw [← Ny337.out] at ho32)); have n0_ := Aside0.mk (Kd.R_elder' (by (with_reducible repeat (first | apply Kd.R_alloc | apply Kd.R_drewN | apply Kd.R_drew)); exact HO333.out) (Kd.R_base ho32) hb); have n1_ := Aside0.mk (Kd.R_elder' (by (with_reducible repeat (first | apply Kd.R_alloc | apply Kd.R_drewN | apply Kd.R_drew)); exact HO336.out) (Kd.R_base ho32) hb); have n2_ := Aside0.mk (Kd.R_lower (Kd.R_new' (Kd.R_new' ho32 (Kd.R_lt (by (with_reducible repeat (first | apply Kd.R_alloc | apply Kd.R_drewN | apply Kd.R_drew)); exact HO333.out))) (Kd.R_lt (by (with_reducible repeat (first | apply Kd.R_alloc | apply Kd.R_drewN | apply Kd.R_drew)); exact HO336.out))) (below_size (by repeat (first | (with_reducible first | exact HB.out | apply below_alloc | apply pw_below_drewN | apply below_drew1) | exact HB.out)))); have n3_ := Aside0.mk (below_step (by repeat (first | (with_reducible first | exact HB.out | apply below_alloc | apply pw_below_drewN | apply below_drew1) | exact HB.out)) hb); clear HO333; clear HO336; clear HB; have HO333 := n0_; have HO336 := n1_; have HO339 := n2_; have HB := n3_; clear n0_ n1_ n2_ n3_; clear hb ho32; obtain ⟨Ao34, co34, eo34⟩ := Kd.R_slice HO333.out; subst eo34) | ((with_reducible refine gate_builtin (b := .append) (xs := #[.tmp 43, .tmp 44]) rfl ?_); (try (refine gate_guard (by rfl) ?_; dsimp only)); at_builtin; refine Kd.R_append_rows (Kd.int .u8) (w0 := w) w.heap.size rfl (.tmp 43) (.tmp 44) 22 5 (.int .u8 0) 1 rfl Try.underlying22 info5 rfl (by decide) (by omega) v338 y337 t331 _ _ _ (fun k_ => some k_ ≠ (.slice Ao34 t331.length co34 : Value).ownBlock ∧ some k_ ≠ (v335 : Value).ownBlock) (fun _ => False) rfl rfl ?aO ?aR (fun _ _ h => h) (fun _ h => h.elim) ?aF ?aB ?aS ?aL ?_; (case aR => repeat (first | exact (Kd.R_reads' HO333.out).2.2 | (with_reducible refine Kd.C_alloc ?_ _) | (with_reducible refine Kd.C_drewN ?_ _) | (with_reducible refine Kd.C_drew ?_))); (case aB => exact (by repeat (first | (with_reducible first | exact HB.out | apply below_alloc | apply pw_below_drewN | apply below_drew1) | exact HB.out))); (case aF => exact (fun k_ hk => ⟨Kd.fresh' (Kd.R_lt (by (with_reducible repeat (first | apply Kd.R_alloc | apply Kd.R_drewN | apply Kd.R_drew)); exact HO333.out)) k_ hk, Kd.fresh' (Kd.R_lt (by (with_reducible repeat (first | apply Kd.R_alloc | apply Kd.R_drewN | apply Kd.R_drew)); exact HO336.out)) k_ hk⟩)); (case aO => exact (by (with_reducible repeat (first | apply Kd.R_alloc | apply Kd.R_drewN | apply Kd.R_drew)); exact Kd.R_mono HO339.out (fun _ hk => ⟨hk.1.2, hk.2⟩))); (case aS => exact (below_size (by repeat (first | (with_reducible first | exact HB.out | apply below_alloc | apply pw_below_drewN | apply below_drew1) | exact HB.out)))); (case aL => have := LMc22.out; omega); intro v341 w33 ho hb hg hat; rw [← Ny340.out] at ho; have n0_ := Aside0.mk (Kd.R_after (ok := (fun k_ => some k_ ≠ (v335 : Value).ownBlock)) (by (with_reducible repeat (first | apply Kd.R_alloc | apply Kd.R_drewN | apply Kd.R_drew)); exact Kd.R_mono HO333.out (fun _ hk => ⟨hk.1.2, hk.2⟩)) hg hat); have n1_ := Aside0.mk (Kd.R_after (ok := (fun k_ => some k_ ≠ (.slice Ao34 t331.length co34 : Value).ownBlock)) (by (with_reducible repeat (first | apply Kd.R_alloc | apply Kd.R_drewN | apply Kd.R_drew)); exact Kd.R_mono HO336.out (fun _ hk => ⟨hk.1.2, hk.2⟩)) hg hat); have n2_ := Aside0.mk (hb); have n3_ := Aside0.mk (ho); clear HO333; clear HO336; clear HB; clear HO339; have HO333 := n0_; have HO336 := n1_; have HB := n2_; have HO342 := n3_; clear n0_ n1_ n2_ n3_; clear ho hb hg hat) | ((with_reducible refine gate_builtin (b := .append) (xs := #[.tmp 45, .tmp 46]) rfl ?_); (try (refine gate_guard (by rfl) ?_; dsimp only)); at_builtin; refine Kd.R_append (Kd.int .u8) (w0 := w) w.heap.size rfl (.tmp 45) (.tmp 46) 22 5 (.int .u8 0) 1 rfl Try.underlying22 info5 rfl (by decide) (by omega) v341 y340 0 [.int .u8 0] (fun k_ => some k_ ≠ (.slice Ao34 t331.length co34 : Value).ownBlock ∧ some k_ ≠ (v335 : Value).ownBlock) (fun _ => False) rfl rfl ?aP (fun _ hk => hk.elim) ?aF ?aO ?aB ?aS ?aL ?_; (case aP => exact rfl); (case aB => exact (by repeat (first | (with_reducible first | exact HB.out | apply below_alloc | apply pw_below_drewN | apply below_drew1) | exact HB.out))); (case aF => exact (fun k_ hk => ⟨Kd.fresh' (Kd.R_lt (by (with_reducible repeat (first | apply Kd.R_alloc | apply Kd.R_drewN | apply Kd.R_drew)); exact HO333.out)) k_ hk, Kd.fresh' (Kd.R_lt (by (with_reducible repeat (first | apply Kd.R_alloc | apply Kd.R_drewN | apply Kd.R_drew)); exact HO336.out)) k_ hk⟩)); (case aO => exact (by (with_reducible repeat (first | apply Kd.R_alloc | apply Kd.R_drewN | apply Kd.R_drew)); exact HO342.out)); (case aS => exact (below_size (by repeat (first | (with_reducible first | exact HB.out | apply below_alloc | apply pw_below_drewN | apply below_drew1) | exact HB.out)))); (case aL => have := LMc23.out; omega); intro v344 w35 ho hb hg hat; rw [← Ny343.out] at ho; have n0_ := Aside0.mk (Kd.R_after (ok := (fun k_ => some k_ ≠ (v335 : Value).ownBlock)) (by (with_reducible repeat (first | apply Kd.R_alloc | apply Kd.R_drewN | apply Kd.R_drew)); exact HO333.out) hg hat); have n1_ := Aside0.mk (Kd.R_after (ok := (fun k_ => some k_ ≠ (.slice Ao34 t331.length co34 : Value).ownBlock)) (by (with_reducible repeat (first | apply Kd.R_alloc | apply Kd.R_drewN | apply Kd.R_drew)); exact HO336.out) hg hat); have n2_ := Aside0.mk (hb); have n3_ := Aside0.mk (ho); clear HO333; clear HO336; clear HB; clear HO342; have HO333 := n0_; have HO336 := n1_; have HB := n2_; have HO345 := n3_; clear n0_ n1_ n2_ n3_; clear ho hb hg hat; obtain ⟨Ao37, co37, eo37⟩ := Kd.R_slice HO336.out; subst eo37) | ((with_reducible refine gate_builtin (b := .append) (xs := #[.tmp 47, .tmp 48]) rfl ?_); (try (refine gate_guard (by rfl) ?_; dsimp only)); at_builtin; refine Kd.R_append_rows (Kd.int .u8) (w0 := w) w.heap.size rfl (.tmp 47) (.tmp 48) 22 5 (.int .u8 0) 1 rfl Try.underlying22 info5 rfl (by decide) (by omega) v344 y343 t334 _ _ _ (fun k_ => some k_ ≠ (.slice Ao34 t331.length co34 : Value).ownBlock ∧ some k_ ≠ (.slice Ao37 t334.length co37 : Value).ownBlock) (fun _ => False) rfl rfl ?aO ?aR (fun _ _ h => h) (fun _ h => h.elim) ?aF ?aB ?aS ?aL ?_; (case aR => repeat (first | exact (Kd.R_reads' HO336.out).2.2 | (with_reducible refine Kd.C_alloc ?_ _) | (with_reducible refine Kd.C_drewN ?_ _) | (with_reducible refine Kd.C_drew ?_))); (case aB => exact (by repeat (first | (with_reducible first | exact HB.out | apply below_alloc | apply pw_below_drewN | apply below_drew1) | exact HB.out))); (case aF => exact (fun k_ hk => ⟨Kd.fresh' (Kd.R_lt (by (with_reducible repeat (first | apply Kd.R_alloc | apply Kd.R_drewN | apply Kd.R_drew)); exact HO333.out)) k_ hk, Kd.fresh' (Kd.R_lt (by (with_reducible repeat (first | apply Kd.R_alloc | apply Kd.R_drewN | apply Kd.R_drew)); exact HO336.out)) k_ hk⟩)); (case aO => exact (by (with_reducible repeat (first | apply Kd.R_alloc | apply Kd.R_drewN | apply Kd.R_drew)); exact HO345.out)); (case aS => exact (below_size (by repeat (first | (with_reducible first | exact HB.out | apply below_alloc | apply pw_below_drewN | apply below_drew1) | exact HB.out)))); (case aL => have := LMc24.out; omega); intro v347 w36 ho hb hg hat; rw [← Ny346.out] at ho; have n0_ := Aside0.mk (Kd.R_after (ok := (fun k_ => some k_ ≠ (.slice Ao37 t334.length co37 : Value).ownBlock)) (by (with_reducible repeat (first | apply Kd.R_alloc | apply Kd.R_drewN | apply Kd.R_drew)); exact HO333.out) hg hat); have n1_ := Aside0.mk (Kd.R_after (ok := (fun k_ => some k_ ≠ (.slice Ao34 t331.length co34 : Value).ownBlock)) (by (with_reducible repeat (first | apply Kd.R_alloc | apply Kd.R_drewN | apply Kd.R_drew)); exact HO336.out) hg hat); have n2_ := Aside0.mk (hb); have n3_ := Aside0.mk (ho); clear HO333; clear HO336; clear HB; clear HO345; have HO333 := n0_; have HO336 := n1_; have HB := n2_; have HO348 := n3_; clear n0_ n1_ n2_ n3_; clear ho hb hg hat; obtain ⟨Ao38, co38, eo38⟩ := Kd.R_slice HO348.out; subst eo38))
                go_loopg [8, 52] kj2 (fun kq v8 v52 w' => ∃ (x8_2 : Int) (x52_2 : Int), v8 = .int .i64 x8_2 ∧ v52 = .int .i64 x52_2 ∧ Aside0 (fasciclelaw05_CobsApart.l0 kq l0 l1 t331 y346 x8_2 y346 (y346.length : Int) x52_2 = some r) ∧ Aside0 (kq ≤ kj2) ∧ Aside0 (Kd.R (Kd.int .u8) 5 w' w.heap.size (fun k_ => some k_ ≠ ((.slice Ao38 y346.length co38) : Value).ownBlock ∧ some k_ ≠ ((.slice Ao38 y346.length co38) : Value).ownBlock) (.slice Ao34 t331.length co34) t331) ∧ Aside0 (Kd.R (Kd.int .u8) 5 w' w.heap.size (fun k_ => some k_ ≠ ((.slice Ao34 t331.length co34) : Value).ownBlock) (.slice Ao38 y346.length co38) y346) ∧ Aside0 (Kd.R (Kd.int .u8) 5 w' w.heap.size (fun k_ => some k_ ≠ ((.slice Ao34 t331.length co34) : Value).ownBlock) (.slice Ao38 y346.length co38) y346) ∧ Aside0 (Below w.heap.size w w'))
                case atStart => exact ⟨((-1)), (0), (by first | rfl | (simp; done) | (simp [*]; done)), (by first | rfl | (simp; done) | (simp [*]; done)), H', ⟨Nat.le_refl _⟩, ⟨by (with_reducible repeat (first | apply Kd.R_alloc | apply Kd.R_drewN | apply Kd.R_drew)); exact Kd.R_mono HO333.out (fun _ hk => ⟨hk.2, hk.2⟩)⟩, ⟨by (with_reducible repeat (first | apply Kd.R_alloc | apply Kd.R_drewN | apply Kd.R_drew)); exact Kd.R_mono HO348.out (fun _ hk => hk.1)⟩, ⟨by (with_reducible repeat (first | apply Kd.R_alloc | apply Kd.R_drewN | apply Kd.R_drew)); exact Kd.R_mono HO348.out (fun _ hk => hk.1)⟩, ⟨by repeat (first | (with_reducible first | exact HB.out | apply below_alloc | apply pw_below_drewN | apply below_drew1) | exact HB.out)⟩⟩
                case round =>
                  clear H'
                  try clear c1
                  try clear hcv1
                  try clear c2
                  try clear p2
                  try clear hcv2
                  try clear hcv3
                  try clear c5
                  try clear c6
                  try clear c6b0
                  try clear c6b1
                  try clear c10
                  try clear c15
                  try clear c15b0
                  try clear c15b1
                  try clear c15b2
                  try clear hcv18
                  try clear hcv19
                  try clear hcv20
                  try clear hcv21
                  try clear c22
                  try clear c23
                  try clear c24
                  try clear c25
                  try clear hcv27
                  try clear c28
                  try clear hcv28
                  try clear hcv29
                  try clear hcv30
                  try clear p2
                  obtain ⟨x8_2, x52_2, rfl, rfl, HA, HK2, HO_5, HO_7, HO_50, HB⟩ := hrel
                  cases gk with
                  | zero => exact absurd HA.out (by simp [fasciclelaw05_CobsApart.l0])
                  | succ k2 =>
                    have H := HA.out
                    clear HA
                    simp only [fasciclelaw05_CobsApart.l0] at H
                    by_cases c39 : x52_2 < (y346.length : Int)
                    · rw [if_pos c39] at H
                      have c39b0 : decide (x52_2 < (y346.length : Int)) = true := decide_eq_true c39
                      clear c39
                      by_cases c40 : 0 ≤ x52_2
                      · rw [if_pos c40] at H
                        have c40b0 : decide (0 ≤ x52_2) = true := decide_eq_true c40
                        clear c40
                        by_cases c41 : x52_2 < (y346.length : Int)
                        · rw [if_pos c41] at H
                          have c41b0 : decide (x52_2 < (y346.length : Int)) = true := decide_eq_true c41
                          clear c41
                          by_cases c42 : (rd y346 x52_2) = 0
                          · rw [if_pos c42] at H
                            have c42b0 : ((rd y346 x52_2) == 0) = true := beq_iff_eq.mpr c42
                            have c42b1 : ((rd y346 x52_2) != 0) = false := bne_eq_false_iff_eq.mpr c42
                            clear c42
                            by_cases c43 : x8_2 ≥ 0
                            · rw [if_pos c43] at H
                              have c43b0 : decide (0 ≤ x8_2) = true := decide_eq_true c43
                              clear c43
                              obtain rfl := Option.some.inj H
                              have p365 : 0 ≤ (x52_2 : Int) := of_decide_eq_true (by first | (with_reducible assumption) | assumption)
                              have q365 : x52_2 < (y346.length : Int) := of_decide_eq_true (by first | (with_reducible assumption) | assumption)
                              obtain ⟨ad365, e365, hx365_0⟩ := Kd.at_int (Kd.R_reads' HO_50.out).2.2 x52_2 p365 q365
                              cases e365
                              replace p365 := eq_true p365
                              replace q365 := eq_true q365
                              go_wp2
                              go_ret
                              exact ⟨by first | rfl | (simp [errW_none, errW_some] <;> rfl) | (simp [*, errW_none, errW_some] <;> rfl), by repeat (first | (with_reducible first | exact HB.out | apply below_alloc | apply pw_below_drewN | apply below_drew1) | exact HB.out)⟩
                            · rw [if_neg c43] at H
                              have c43b0 : decide (0 ≤ x8_2) = false := decide_eq_false c43
                              clear c43
                              have H' := Aside0.mk H
                              clear H
                              have p365 : 0 ≤ (x52_2 : Int) := of_decide_eq_true (by first | (with_reducible assumption) | assumption)
                              have q365 : x52_2 < (y346.length : Int) := of_decide_eq_true (by first | (with_reducible assumption) | assumption)
                              obtain ⟨ad365, e365, hx365_0⟩ := Kd.at_int (Kd.R_reads' HO_50.out).2.2 x52_2 p365 q365
                              cases e365
                              replace p365 := eq_true p365
                              replace q365 := eq_true q365
                              go_wp2
                              go_roundg k2
                              case measure => have := HJ2.out; have := HK2.out; omega
                              case rel => exact ⟨(x52_2), (wrap64 (x52_2 + 1)), (by first | rfl | (simp; done) | (simp [*]; done)), (by first | rfl | (simp; done) | (simp [*]; done)), H', ⟨by have := HJ2.out; have := HK2.out; omega⟩, ⟨by (with_reducible repeat (first | apply Kd.R_alloc | apply Kd.R_drewN | apply Kd.R_drew)); exact HO_5.out⟩, ⟨by (with_reducible repeat (first | apply Kd.R_alloc | apply Kd.R_drewN | apply Kd.R_drew)); exact HO_7.out⟩, ⟨by (with_reducible repeat (first | apply Kd.R_alloc | apply Kd.R_drewN | apply Kd.R_drew)); exact HO_50.out⟩, ⟨by repeat (first | (with_reducible first | exact HB.out | apply below_alloc | apply pw_below_drewN | apply below_drew1) | exact HB.out)⟩⟩
                          · rw [if_neg c42] at H
                            have c42b0 : ((rd y346 x52_2) == 0) = false := beq_eq_false_iff_ne.mpr c42
                            have c42b1 : ((rd y346 x52_2) != 0) = true := bne_iff_ne.mpr c42
                            have H' := Aside0.mk H
                            clear H
                            have p365 : 0 ≤ (x52_2 : Int) := of_decide_eq_true (by first | (with_reducible assumption) | assumption)
                            have q365 : x52_2 < (y346.length : Int) := of_decide_eq_true (by first | (with_reducible assumption) | assumption)
                            obtain ⟨ad365, e365, hx365_0⟩ := Kd.at_int (Kd.R_reads' HO_50.out).2.2 x52_2 p365 q365
                            cases e365
                            replace p365 := eq_true p365
                            replace q365 := eq_true q365
                            go_wp2
                            go_roundg k2
                            case measure => have := HJ2.out; have := HK2.out; omega
                            case rel => exact ⟨(x8_2), (wrap64 (x52_2 + 1)), (by first | rfl | (simp; done) | (simp [*]; done)), (by first | rfl | (simp; done) | (simp [*]; done)), H', ⟨by have := HJ2.out; have := HK2.out; omega⟩, ⟨by (with_reducible repeat (first | apply Kd.R_alloc | apply Kd.R_drewN | apply Kd.R_drew)); exact HO_5.out⟩, ⟨by (with_reducible repeat (first | apply Kd.R_alloc | apply Kd.R_drewN | apply Kd.R_drew)); exact HO_7.out⟩, ⟨by (with_reducible repeat (first | apply Kd.R_alloc | apply Kd.R_drewN | apply Kd.R_drew)); exact HO_50.out⟩, ⟨by repeat (first | (with_reducible first | exact HB.out | apply below_alloc | apply pw_below_drewN | apply below_drew1) | exact HB.out)⟩⟩
                        · rw [if_neg c41] at H
                          exact absurd H (by simp)
                      · rw [if_neg c40] at H
                        exact absurd H (by simp)
                    · rw [if_neg c39] at H
                      have c39b0 : decide (x52_2 < (y346.length : Int)) = false := decide_eq_false c39
                      clear c39
                      by_cases c44 : 0 ≤ x8_2
                      · rw [if_pos c44] at H
                        have c44b0 := eq_true c44
                        have c44b1 : decide (0 ≤ x8_2) = true := decide_eq_true c44
                        clear c44
                        by_cases c45 : x8_2 ≤ (y346.length : Int)
                        · rw [if_pos c45] at H
                          have c45b0 := eq_true c45
                          have c45b1 : decide (x8_2 ≤ (y346.length : Int)) = true := decide_eq_true c45
                          clear c45
                          obtain ⟨y349, hy349⟩ : ∃ y_ : List Int, y_ = (y346.take (x8_2 : Int).toNat) := ⟨_, rfl⟩
                          replace H : ((cobs_Unstuff.f k2 y349).bind fun bt353 => (if 0 ≤ (wrap64 (x8_2 + 1)) then (if (wrap64 (x8_2 + 1)) ≤ (y346.length : Int) then ((cobs_Unstuff.f k2 (y346.drop ((wrap64 (x8_2 + 1)) : Int).toNat)).bind fun bt361 => (if x8_2 = (t331.length : Int) then (if bt353.2 = 0 then (if bt361.2 = 0 then (if (strOfNums bt353.1).toList = (strOfNums l0).toList then (some ((strOfNums bt361.1).toList == (strOfNums l1).toList)) else (some false)) else (some false)) else (some false)) else (some false))) else (none)) else (none))) = some r := by first | (rw [hy349]; with_reducible exact H) | (have H2_ := (Option.bind_some _ _).symm.trans H; rw [hy349]; with_reducible exact H2_) | (have H2_ := (Option.bind_some _ _).symm.trans H; with_reducible exact H2_) | with_reducible exact H | (rw [hy349]; exact H) | exact H
                          have Ny349 := Aside0.mk hy349
                          clear hy349
                          replace H := Option.bind_eq_some_iff.mp H
                          obtain ⟨⟨t353, t356⟩, A460, H⟩ := H
                          replace H : (if 0 ≤ (wrap64 (x8_2 + 1)) then (if (wrap64 (x8_2 + 1)) ≤ (y346.length : Int) then ((cobs_Unstuff.f k2 (y346.drop ((wrap64 (x8_2 + 1)) : Int).toNat)).bind fun bt361 => (if x8_2 = (t331.length : Int) then (if t356 = 0 then (if bt361.2 = 0 then (if (strOfNums t353).toList = (strOfNums l0).toList then (some ((strOfNums bt361.1).toList == (strOfNums l1).toList)) else (some false)) else (some false)) else (some false)) else (some false))) else (none)) else (none)) = some r := H
                          have A46 := Aside0.mk A460
                          clear A460
                          obtain ⟨ji47, hji47⟩ : ∃ j_ : Int, (wrap64 (x8_2 + 1)) = j_ := ⟨_, rfl⟩
                          replace H : (if 0 ≤ (ji47) then (if (ji47) ≤ (y346.length : Int) then ((cobs_Unstuff.f k2 (y346.drop ((ji47) : Int).toNat)).bind fun bt361 => (if x8_2 = (t331.length : Int) then (if t356 = 0 then (if bt361.2 = 0 then (if (strOfNums t353).toList = (strOfNums l0).toList then (some ((strOfNums bt361.1).toList == (strOfNums l1).toList)) else (some false)) else (some false)) else (some false)) else (some false))) else (none)) else (none)) = some r := by first | (rw [hji47] at H; exact H) | (simp only [hji47] at H ⊢; exact H)
                          (try rw [hji47] at A46)
                          have hji47w : (IntKind.i64.wrap (x8_2 + 1)) = ji47 := (i64_w _).trans hji47
                          by_cases c48 : 0 ≤ (ji47)
                          · rw [if_pos c48] at H
                            have c48b0 := eq_true c48
                            have c48b1 : decide (0 ≤ (ji47)) = true := decide_eq_true c48
                            clear c48
                            by_cases c49 : (ji47) ≤ (y346.length : Int)
                            · rw [if_pos c49] at H
                              have c49b0 := eq_true c49
                              have c49b1 : decide ((ji47) ≤ (y346.length : Int)) = true := decide_eq_true c49
                              clear c49
                              obtain ⟨y357, hy357⟩ : ∃ y_ : List Int, y_ = (y346.drop ((ji47) : Int).toNat) := ⟨_, rfl⟩
                              replace H : ((cobs_Unstuff.f k2 y357).bind fun bt361 => (if x8_2 = (t331.length : Int) then (if t356 = 0 then (if bt361.2 = 0 then (if (strOfNums t353).toList = (strOfNums l0).toList then (some ((strOfNums bt361.1).toList == (strOfNums l1).toList)) else (some false)) else (some false)) else (some false)) else (some false))) = some r := by first | (rw [hy357]; with_reducible exact H) | (have H2_ := (Option.bind_some _ _).symm.trans H; rw [hy357]; with_reducible exact H2_) | (have H2_ := (Option.bind_some _ _).symm.trans H; with_reducible exact H2_) | with_reducible exact H | (rw [hy357]; exact H) | exact H
                              have Ny357 := Aside0.mk hy357
                              clear hy357
                              replace H := Option.bind_eq_some_iff.mp H
                              obtain ⟨⟨t361, t364⟩, A500, H⟩ := H
                              replace H : (if x8_2 = (t331.length : Int) then (if t356 = 0 then (if t364 = 0 then (if (strOfNums t353).toList = (strOfNums l0).toList then (some ((strOfNums t361).toList == (strOfNums l1).toList)) else (some false)) else (some false)) else (some false)) else (some false)) = some r := H
                              have A50 := Aside0.mk A500
                              clear A500
                              by_cases c51 : x8_2 = (t331.length : Int)
                              · rw [if_pos c51] at H
                                have c51b0 : (x8_2 == (t331.length : Int)) = true := beq_iff_eq.mpr c51
                                have c51b1 : (x8_2 != (t331.length : Int)) = false := bne_eq_false_iff_eq.mpr c51
                                clear c51
                                by_cases c52 : t356 = 0
                                · rw [if_pos c52] at H
                                  have c52b0 : (t356 == 0) = true := beq_iff_eq.mpr c52
                                  have c52b1 : (t356 != 0) = false := bne_eq_false_iff_eq.mpr c52
                                  clear c52
                                  by_cases c53 : t364 = 0
                                  · rw [if_pos c53] at H
                                    have c53b0 : (t364 == 0) = true := beq_iff_eq.mpr c53
                                    have c53b1 : (t364 != 0) = false := bne_eq_false_iff_eq.mpr c53
                                    clear c53
                                    by_cases c54 : (strOfNums t353).toList = (strOfNums l0).toList
                                    · rw [if_pos c54] at H
                                      have c54b0 : ((strOfNums t353).toList == (strOfNums l0).toList) = true := beq_iff_eq.mpr c54
                                      have c54b1 : ((strOfNums t353).toList != (strOfNums l0).toList) = false := bne_eq_false_iff_eq.mpr c54
                                      clear c54
                                      obtain rfl := Option.some.inj H
                                      have q55 : (x8_2 : Int) ≤ ((y346.length : Int) : Int) := of_decide_eq_true (by first | (with_reducible assumption) | assumption)
                                      obtain ⟨i055, hi055, _, hsz55, _⟩ := info_parts info5
                                      have hroom55 : y346.length ≤ co38 := (Kd.R_reads' HO_7.out).2.1
                                      have hC55 : Kd.C (Kd.int .u8) _ Ao38 y346.length y346 := (Kd.R_reads' HO_7.out).2.2
                                      have hcut55 := cut_to (P := Try.prog) 22 5 .i64 Try.underlying22 hi055 Ao38 y346.length co38 x8_2 (of_decide_eq_true (by first | (with_reducible assumption) | assumption)) q55 hroom55
                                      have hr55 := Kd.C_take (m := (x8_2 : Int).toNat) hC55 (by omega)
                                      have hy55 : y349.length = (x8_2 : Int).toNat := (by rw [Ny349.out, List.length_take]; omega)
                                      rw [← Ny349.out] at hr55
                                      rw [← hy55] at hcut55
                                      have HR352 := Aside0.mk hr55
                                      have HC352 := Aside0.mk (show y349.length ≤ co38 from by omega)
                                      clear hr55 hC55 hroom55 hi055 hsz55
                                      have KY55 := Aside0.mk hy55
                                      clear hy55
                                      have KL55 := Aside0.mk (show (x8_2 : Int).toNat ≤ y346.length from by omega)
                                      replace q55 := eq_true q55
                                      go_wp2_with (first | ((with_reducible refine gate_callee (f := 31) rfl ?_); refine goesL_ (some 67) rfl rfl Try.func31 (by kernel_rfl) rfl #[.slice Ao38 y349.length co38] rfl (by (try simp only [List.map_toArray, List.map_cons, List.map_nil]); first | done | rfl | (simp only [List.length_drop, List.length_take]; rfl)) ?_; (with_reducible refine (cobs_Unstuff.calls k2 (fun k_ => True) _ _ y349 t353 t356 _ ?side1 A46.out).mono ?_); (case side1 => exact Kd.V_mk HC352.out (Kd.F_mono (Kd.C_F (Kd.heap_int .u8) (by repeat (first | (with_reducible exact HR352.out) | (with_reducible refine Kd.C_alloc ?_ _) | (with_reducible refine Kd.C_drewN ?_ _) | (with_reducible refine Kd.C_drew ?_) | exact HR352.out))) (fun _ _ => trivial))); rintro e w56 ⟨v354, rfl, ho0, hb⟩; refine ⟨_, rfl, ?_⟩; have n0_ := Aside0.mk (Kd.R_elder' (by (with_reducible repeat (first | apply Kd.R_alloc | apply Kd.R_drewN | apply Kd.R_drew)); exact HO_5.out) (Kd.R_base ho0) hb); have n1_ := Aside0.mk (Kd.R_elder' (by (with_reducible repeat (first | apply Kd.R_alloc | apply Kd.R_drewN | apply Kd.R_drew)); exact HO_7.out) (Kd.R_base ho0) hb); have n2_ := Aside0.mk (Kd.R_elder' (by (with_reducible repeat (first | apply Kd.R_alloc | apply Kd.R_drewN | apply Kd.R_drew)); exact HO_50.out) (Kd.R_base ho0) hb); have n3_ := Aside0.mk (Kd.R_lower (Kd.R_new' (Kd.R_new' (Kd.R_new' (Kd.R_mono (ok' := fun k_ => True) ho0 (fun _ hk_ => trivial)) (Kd.R_lt (by (with_reducible repeat (first | apply Kd.R_alloc | apply Kd.R_drewN | apply Kd.R_drew)); exact HO_5.out))) (Kd.R_lt (by (with_reducible repeat (first | apply Kd.R_alloc | apply Kd.R_drewN | apply Kd.R_drew)); exact HO_7.out))) (Kd.R_lt (by (with_reducible repeat (first | apply Kd.R_alloc | apply Kd.R_drewN | apply Kd.R_drew)); exact HO_50.out))) (below_size (by repeat (first | (with_reducible first | exact HB.out | apply below_alloc | apply pw_below_drewN | apply below_drew1) | exact HB.out)))); have n4_ := Aside0.mk (Kd.C_below (by repeat (first | (with_reducible exact HR352.out) | (with_reducible refine Kd.C_alloc ?_ _) | (with_reducible refine Kd.C_drewN ?_ _) | (with_reducible refine Kd.C_drew ?_) | exact HR352.out)) hb); have n5_ := Aside0.mk (below_step (by repeat (first | (with_reducible first | exact HB.out | apply below_alloc | apply pw_below_drewN | apply below_drew1) | exact HB.out)) hb); clear HO_5; clear HO_7; clear HO_50; clear HR352; clear HB; have HO_5 := n0_; have HO_7 := n1_; have HO_50 := n2_; have HO355 := n3_; have HR352 := n4_; have HB := n5_; clear n0_ n1_ n2_ n3_ n4_ n5_; (try clear hb); (try clear hb2); (try clear hk); (try clear hi); (try clear ho0); have q57 : ((ji47) : Int) ≤ ((y346.length : Int) : Int) := of_decide_eq_true (by first | (with_reducible assumption) | assumption); obtain ⟨i057, hi057, _, hsz57, _⟩ := info_parts info5; have hroom57 : y346.length ≤ co38 := (Kd.R_reads' HO_7.out).2.1; have hC57 : Kd.C (Kd.int .u8) _ Ao38 y346.length y346 := (Kd.R_reads' HO_7.out).2.2; have q057 : (0 : Int) ≤ ((ji47) : Int) := of_decide_eq_true (by first | (with_reducible assumption) | assumption); have hcut57 := cut_from (P := Try.prog) 22 5 .i64 Try.underlying22 hi057 1 hsz57 Ao38 y346.length co38 (ji47) q057 q57; have hr57 := Kd.C_drop (m := ((ji47) : Int).toNat) (c := co38) hC57 (by omega) hroom57; obtain ⟨A57, hA57⟩ : ∃ A1, A1 = (if co38 = ((ji47) : Int).toNat then Ao38 else (Ao38 : Option Addr).map (·.add (((ji47) : Int).toNat * 1))) := ⟨_, rfl⟩; obtain ⟨c57, hc57⟩ : ∃ c1, c1 = co38 - ((ji47) : Int).toNat := ⟨_, rfl⟩; have hy57 : y357.length = y346.length - ((ji47) : Int).toNat := (by rw [Ny357.out, List.length_drop] <;> omega); rw [show (y346).drop ((ji47) : Int).toNat = y357 from Ny357.out.symm] at hr57; replace hr57 : Kd.C (Kd.int .u8) _ A57 y357.length y357 := (by rw [hA57]; exact hr57); rw [← hy57, ← hA57, ← hc57] at hcut57; have HR360 := Aside0.mk hr57; have HC360 := Aside0.mk (show y357.length ≤ c57 from by rw [hy57, hc57]; exact Nat.sub_le_sub_right hroom57 _); clear hr57 hC57 hroom57 hi057 hsz57 hc57; have KY57 := Aside0.mk hy57; have KA57 := Aside0.mk hA57; clear hy57 hA57; have KL57 := Aside0.mk (show ((ji47) : Int).toNat ≤ y346.length from by omega); replace q57 := eq_true q57) | ((with_reducible refine gate_callee (f := 31) rfl ?_); refine goesL_ (some 75) rfl rfl Try.func31 (by kernel_rfl) rfl #[.slice A57 y357.length c57] rfl (by (try simp only [List.map_toArray, List.map_cons, List.map_nil]); first | done | rfl | (simp only [List.length_drop, List.length_take]; rfl)) ?_; (with_reducible refine (cobs_Unstuff.calls k2 (fun k_ => True) _ _ y357 t361 t364 _ ?side1 A50.out).mono ?_); (case side1 => exact Kd.V_mk HC360.out (Kd.F_mono (Kd.C_F (Kd.heap_int .u8) (by repeat (first | (with_reducible exact HR360.out) | (with_reducible refine Kd.C_alloc ?_ _) | (with_reducible refine Kd.C_drewN ?_ _) | (with_reducible refine Kd.C_drew ?_) | exact HR360.out))) (fun _ _ => trivial))); rintro e w58 ⟨v362, rfl, ho0, hb⟩; refine ⟨_, rfl, ?_⟩; have n0_ := Aside0.mk (Kd.R_elder' (by (with_reducible repeat (first | apply Kd.R_alloc | apply Kd.R_drewN | apply Kd.R_drew)); exact HO_5.out) (Kd.R_base ho0) hb); have n1_ := Aside0.mk (Kd.R_elder' (by (with_reducible repeat (first | apply Kd.R_alloc | apply Kd.R_drewN | apply Kd.R_drew)); exact HO_7.out) (Kd.R_base ho0) hb); have n2_ := Aside0.mk (Kd.R_elder' (by (with_reducible repeat (first | apply Kd.R_alloc | apply Kd.R_drewN | apply Kd.R_drew)); exact HO_50.out) (Kd.R_base ho0) hb); have n3_ := Aside0.mk (Kd.R_elder' (by (with_reducible repeat (first | apply Kd.R_alloc | apply Kd.R_drewN | apply Kd.R_drew)); exact HO355.out) (Kd.R_base ho0) hb); have n4_ := Aside0.mk (Kd.R_lower (Kd.R_new' (Kd.R_new' (Kd.R_new' (Kd.R_new' (Kd.R_mono (ok' := fun k_ => True) ho0 (fun _ hk_ => trivial)) (Kd.R_lt (by (with_reducible repeat (first | apply Kd.R_alloc | apply Kd.R_drewN | apply Kd.R_drew)); exact HO_5.out))) (Kd.R_lt (by (with_reducible repeat (first | apply Kd.R_alloc | apply Kd.R_drewN | apply Kd.R_drew)); exact HO_7.out))) (Kd.R_lt (by (with_reducible repeat (first | apply Kd.R_alloc | apply Kd.R_drewN | apply Kd.R_drew)); exact HO_50.out))) (Kd.R_lt (by (with_reducible repeat (first | apply Kd.R_alloc | apply Kd.R_drewN | apply Kd.R_drew)); exact HO355.out))) (below_size (by repeat (first | (with_reducible first | exact HB.out | apply below_alloc | apply pw_below_drewN | apply below_drew1) | exact HB.out)))); have n5_ := Aside0.mk (Kd.C_below (by repeat (first | (with_reducible exact HR352.out) | (with_reducible refine Kd.C_alloc ?_ _) | (with_reducible refine Kd.C_drewN ?_ _) | (with_reducible refine Kd.C_drew ?_) | exact HR352.out)) hb); have n6_ := Aside0.mk (Kd.C_below (by repeat (first | (with_reducible exact HR360.out) | (with_reducible refine Kd.C_alloc ?_ _) | (with_reducible refine Kd.C_drewN ?_ _) | (with_reducible refine Kd.C_drew ?_) | exact HR360.out)) hb); have n7_ := Aside0.mk (below_step (by repeat (first | (with_reducible first | exact HB.out | apply below_alloc | apply pw_below_drewN | apply below_drew1) | exact HB.out)) hb); clear HO_5; clear HO_7; clear HO_50; clear HO355; clear HR352; clear HR360; clear HB; have HO_5 := n0_; have HO_7 := n1_; have HO_50 := n2_; have HO355 := n3_; have HO363 := n4_; have HR352 := n5_; have HR360 := n6_; have HB := n7_; clear n0_ n1_ n2_ n3_ n4_ n5_ n6_ n7_; (try clear hb); (try clear hb2); (try clear hk); (try clear hi); (try clear ho0); have hcv59 := own_string (P := Try.prog) Try.underlying22 Try.underlying5 Try.underlying9 (Kd.own_of_R HO355.out); have hcv60 := Kd.C_string (P := Try.prog) (A := A0) (c := c0) Try.underlying22 Try.underlying5 Try.underlying9 (Kd.C_below HR0.out HB.out); have hcv61 := own_string (P := Try.prog) Try.underlying22 Try.underlying5 Try.underlying9 (Kd.own_of_R HO363.out); have hcv62 := Kd.C_string (P := Try.prog) (A := A1) (c := c1) Try.underlying22 Try.underlying5 Try.underlying9 (Kd.C_below HR1.out HB.out)))
                                      go_ret
                                      exact ⟨by first | rfl | (simp [errW_none, errW_some] <;> rfl) | (simp only [← hji47]; first | rfl | (simp [errW_none, errW_some] <;> rfl)) | (simp [*, errW_none, errW_some] <;> rfl), by repeat (first | (with_reducible first | exact HB.out | apply below_alloc | apply pw_below_drewN | apply below_drew1) | exact HB.out)⟩
                                    · rw [if_neg c54] at H
                                      have c54b0 : ((strOfNums t353).toList == (strOfNums l0).toList) = false := beq_eq_false_iff_ne.mpr c54
                                      have c54b1 : ((strOfNums t353).toList != (strOfNums l0).toList) = true := bne_iff_ne.mpr c54
                                      obtain rfl := Option.some.inj H
                                      have q63 : (x8_2 : Int) ≤ ((y346.length : Int) : Int) := of_decide_eq_true (by first | (with_reducible assumption) | assumption)
                                      obtain ⟨i063, hi063, _, hsz63, _⟩ := info_parts info5
                                      have hroom63 : y346.length ≤ co38 := (Kd.R_reads' HO_7.out).2.1
                                      have hC63 : Kd.C (Kd.int .u8) _ Ao38 y346.length y346 := (Kd.R_reads' HO_7.out).2.2
                                      have hcut63 := cut_to (P := Try.prog) 22 5 .i64 Try.underlying22 hi063 Ao38 y346.length co38 x8_2 (of_decide_eq_true (by first | (with_reducible assumption) | assumption)) q63 hroom63
                                      have hr63 := Kd.C_take (m := (x8_2 : Int).toNat) hC63 (by omega)
                                      have hy63 : y349.length = (x8_2 : Int).toNat := (by rw [Ny349.out, List.length_take]; omega)
                                      rw [← Ny349.out] at hr63
                                      rw [← hy63] at hcut63
                                      have HR352 := Aside0.mk hr63
                                      have HC352 := Aside0.mk (show y349.length ≤ co38 from by omega)
                                      clear hr63 hC63 hroom63 hi063 hsz63
                                      have KY63 := Aside0.mk hy63
                                      clear hy63
                                      have KL63 := Aside0.mk (show (x8_2 : Int).toNat ≤ y346.length from by omega)
                                      replace q63 := eq_true q63
                                      go_wp2_with (first | ((with_reducible refine gate_callee (f := 31) rfl ?_); refine goesL_ (some 67) rfl rfl Try.func31 (by kernel_rfl) rfl #[.slice Ao38 y349.length co38] rfl (by (try simp only [List.map_toArray, List.map_cons, List.map_nil]); first | done | rfl | (simp only [List.length_drop, List.length_take]; rfl)) ?_; (with_reducible refine (cobs_Unstuff.calls k2 (fun k_ => True) _ _ y349 t353 t356 _ ?side1 A46.out).mono ?_); (case side1 => exact Kd.V_mk HC352.out (Kd.F_mono (Kd.C_F (Kd.heap_int .u8) (by repeat (first | (with_reducible exact HR352.out) | (with_reducible refine Kd.C_alloc ?_ _) | (with_reducible refine Kd.C_drewN ?_ _) | (with_reducible refine Kd.C_drew ?_) | exact HR352.out))) (fun _ _ => trivial))); rintro e w64 ⟨v354, rfl, ho0, hb⟩; refine ⟨_, rfl, ?_⟩; have n0_ := Aside0.mk (Kd.R_elder' (by (with_reducible repeat (first | apply Kd.R_alloc | apply Kd.R_drewN | apply Kd.R_drew)); exact HO_5.out) (Kd.R_base ho0) hb); have n1_ := Aside0.mk (Kd.R_elder' (by (with_reducible repeat (first | apply Kd.R_alloc | apply Kd.R_drewN | apply Kd.R_drew)); exact HO_7.out) (Kd.R_base ho0) hb); have n2_ := Aside0.mk (Kd.R_elder' (by (with_reducible repeat (first | apply Kd.R_alloc | apply Kd.R_drewN | apply Kd.R_drew)); exact HO_50.out) (Kd.R_base ho0) hb); have n3_ := Aside0.mk (Kd.R_lower (Kd.R_new' (Kd.R_new' (Kd.R_new' (Kd.R_mono (ok' := fun k_ => True) ho0 (fun _ hk_ => trivial)) (Kd.R_lt (by (with_reducible repeat (first | apply Kd.R_alloc | apply Kd.R_drewN | apply Kd.R_drew)); exact HO_5.out))) (Kd.R_lt (by (with_reducible repeat (first | apply Kd.R_alloc | apply Kd.R_drewN | apply Kd.R_drew)); exact HO_7.out))) (Kd.R_lt (by (with_reducible repeat (first | apply Kd.R_alloc | apply Kd.R_drewN | apply Kd.R_drew)); exact HO_50.out))) (below_size (by repeat (first | (with_reducible first | exact HB.out | apply below_alloc | apply pw_below_drewN | apply below_drew1) | exact HB.out)))); have n4_ := Aside0.mk (Kd.C_below (by repeat (first | (with_reducible exact HR352.out) | (with_reducible refine Kd.C_alloc ?_ _) | (with_reducible refine Kd.C_drewN ?_ _) | (with_reducible refine Kd.C_drew ?_) | exact HR352.out)) hb); have n5_ := Aside0.mk (below_step (by repeat (first | (with_reducible first | exact HB.out | apply below_alloc | apply pw_below_drewN | apply below_drew1) | exact HB.out)) hb); clear HO_5; clear HO_7; clear HO_50; clear HR352; clear HB; have HO_5 := n0_; have HO_7 := n1_; have HO_50 := n2_; have HO355 := n3_; have HR352 := n4_; have HB := n5_; clear n0_ n1_ n2_ n3_ n4_ n5_; (try clear hb); (try clear hb2); (try clear hk); (try clear hi); (try clear ho0); have q65 : ((ji47) : Int) ≤ ((y346.length : Int) : Int) := of_decide_eq_true (by first | (with_reducible assumption) | assumption); obtain ⟨i065, hi065, _, hsz65, _⟩ := info_parts info5; have hroom65 : y346.length ≤ co38 := (Kd.R_reads' HO_7.out).2.1; have hC65 : Kd.C (Kd.int .u8) _ Ao38 y346.length y346 := (Kd.R_reads' HO_7.out).2.2; have q065 : (0 : Int) ≤ ((ji47) : Int) := of_decide_eq_true (by first | (with_reducible assumption) | assumption); have hcut65 := cut_from (P := Try.prog) 22 5 .i64 Try.underlying22 hi065 1 hsz65 Ao38 y346.length co38 (ji47) q065 q65; have hr65 := Kd.C_drop (m := ((ji47) : Int).toNat) (c := co38) hC65 (by omega) hroom65; obtain ⟨A65, hA65⟩ : ∃ A1, A1 = (if co38 = ((ji47) : Int).toNat then Ao38 else (Ao38 : Option Addr).map (·.add (((ji47) : Int).toNat * 1))) := ⟨_, rfl⟩; obtain ⟨c65, hc65⟩ : ∃ c1, c1 = co38 - ((ji47) : Int).toNat := ⟨_, rfl⟩; have hy65 : y357.length = y346.length - ((ji47) : Int).toNat := (by rw [Ny357.out, List.length_drop] <;> omega); rw [show (y346).drop ((ji47) : Int).toNat = y357 from Ny357.out.symm] at hr65; replace hr65 : Kd.C (Kd.int .u8) _ A65 y357.length y357 := (by rw [hA65]; exact hr65); rw [← hy65, ← hA65, ← hc65] at hcut65; have HR360 := Aside0.mk hr65; have HC360 := Aside0.mk (show y357.length ≤ c65 from by rw [hy65, hc65]; exact Nat.sub_le_sub_right hroom65 _); clear hr65 hC65 hroom65 hi065 hsz65 hc65; have KY65 := Aside0.mk hy65; have KA65 := Aside0.mk hA65; clear hy65 hA65; have KL65 := Aside0.mk (show ((ji47) : Int).toNat ≤ y346.length from by omega); replace q65 := eq_true q65) | ((with_reducible refine gate_callee (f := 31) rfl ?_); refine goesL_ (some 75) rfl rfl Try.func31 (by kernel_rfl) rfl #[.slice A65 y357.length c65] rfl (by (try simp only [List.map_toArray, List.map_cons, List.map_nil]); first | done | rfl | (simp only [List.length_drop, List.length_take]; rfl)) ?_; (with_reducible refine (cobs_Unstuff.calls k2 (fun k_ => True) _ _ y357 t361 t364 _ ?side1 A50.out).mono ?_); (case side1 => exact Kd.V_mk HC360.out (Kd.F_mono (Kd.C_F (Kd.heap_int .u8) (by repeat (first | (with_reducible exact HR360.out) | (with_reducible refine Kd.C_alloc ?_ _) | (with_reducible refine Kd.C_drewN ?_ _) | (with_reducible refine Kd.C_drew ?_) | exact HR360.out))) (fun _ _ => trivial))); rintro e w66 ⟨v362, rfl, ho0, hb⟩; refine ⟨_, rfl, ?_⟩; have n0_ := Aside0.mk (Kd.R_elder' (by (with_reducible repeat (first | apply Kd.R_alloc | apply Kd.R_drewN | apply Kd.R_drew)); exact HO_5.out) (Kd.R_base ho0) hb); have n1_ := Aside0.mk (Kd.R_elder' (by (with_reducible repeat (first | apply Kd.R_alloc | apply Kd.R_drewN | apply Kd.R_drew)); exact HO_7.out) (Kd.R_base ho0) hb); have n2_ := Aside0.mk (Kd.R_elder' (by (with_reducible repeat (first | apply Kd.R_alloc | apply Kd.R_drewN | apply Kd.R_drew)); exact HO_50.out) (Kd.R_base ho0) hb); have n3_ := Aside0.mk (Kd.R_elder' (by (with_reducible repeat (first | apply Kd.R_alloc | apply Kd.R_drewN | apply Kd.R_drew)); exact HO355.out) (Kd.R_base ho0) hb); have n4_ := Aside0.mk (Kd.R_lower (Kd.R_new' (Kd.R_new' (Kd.R_new' (Kd.R_new' (Kd.R_mono (ok' := fun k_ => True) ho0 (fun _ hk_ => trivial)) (Kd.R_lt (by (with_reducible repeat (first | apply Kd.R_alloc | apply Kd.R_drewN | apply Kd.R_drew)); exact HO_5.out))) (Kd.R_lt (by (with_reducible repeat (first | apply Kd.R_alloc | apply Kd.R_drewN | apply Kd.R_drew)); exact HO_7.out))) (Kd.R_lt (by (with_reducible repeat (first | apply Kd.R_alloc | apply Kd.R_drewN | apply Kd.R_drew)); exact HO_50.out))) (Kd.R_lt (by (with_reducible repeat (first | apply Kd.R_alloc | apply Kd.R_drewN | apply Kd.R_drew)); exact HO355.out))) (below_size (by repeat (first | (with_reducible first | exact HB.out | apply below_alloc | apply pw_below_drewN | apply below_drew1) | exact HB.out)))); have n5_ := Aside0.mk (Kd.C_below (by repeat (first | (with_reducible exact HR352.out) | (with_reducible refine Kd.C_alloc ?_ _) | (with_reducible refine Kd.C_drewN ?_ _) | (with_reducible refine Kd.C_drew ?_) | exact HR352.out)) hb); have n6_ := Aside0.mk (Kd.C_below (by repeat (first | (with_reducible exact HR360.out) | (with_reducible refine Kd.C_alloc ?_ _) | (with_reducible refine Kd.C_drewN ?_ _) | (with_reducible refine Kd.C_drew ?_) | exact HR360.out)) hb); have n7_ := Aside0.mk (below_step (by repeat (first | (with_reducible first | exact HB.out | apply below_alloc | apply pw_below_drewN | apply below_drew1) | exact HB.out)) hb); clear HO_5; clear HO_7; clear HO_50; clear HO355; clear HR352; clear HR360; clear HB; have HO_5 := n0_; have HO_7 := n1_; have HO_50 := n2_; have HO355 := n3_; have HO363 := n4_; have HR352 := n5_; have HR360 := n6_; have HB := n7_; clear n0_ n1_ n2_ n3_ n4_ n5_ n6_ n7_; (try clear hb); (try clear hb2); (try clear hk); (try clear hi); (try clear ho0); have hcv67 := own_string (P := Try.prog) Try.underlying22 Try.underlying5 Try.underlying9 (Kd.own_of_R HO355.out); have hcv68 := Kd.C_string (P := Try.prog) (A := A0) (c := c0) Try.underlying22 Try.underlying5 Try.underlying9 (Kd.C_below HR0.out HB.out)))
                                      go_ret
                                      exact ⟨by first | rfl | (simp [errW_none, errW_some] <;> rfl) | (simp only [← hji47]; first | rfl | (simp [errW_none, errW_some] <;> rfl)) | (simp [*, errW_none, errW_some] <;> rfl), by repeat (first | (with_reducible first | exact HB.out | apply below_alloc | apply pw_below_drewN | apply below_drew1) | exact HB.out)⟩
                                  · rw [if_neg c53] at H
                                    have c53b0 : (t364 == 0) = false := beq_eq_false_iff_ne.mpr c53
                                    have c53b1 : (t364 != 0) = true := bne_iff_ne.mpr c53
                                    obtain rfl := Option.some.inj H
                                    have q69 : (x8_2 : Int) ≤ ((y346.length : Int) : Int) := of_decide_eq_true (by first | (with_reducible assumption) | assumption)
                                    obtain ⟨i069, hi069, _, hsz69, _⟩ := info_parts info5
                                    have hroom69 : y346.length ≤ co38 := (Kd.R_reads' HO_7.out).2.1
                                    have hC69 : Kd.C (Kd.int .u8) _ Ao38 y346.length y346 := (Kd.R_reads' HO_7.out).2.2
                                    have hcut69 := cut_to (P := Try.prog) 22 5 .i64 Try.underlying22 hi069 Ao38 y346.length co38 x8_2 (of_decide_eq_true (by first | (with_reducible assumption) | assumption)) q69 hroom69
                                    have hr69 := Kd.C_take (m := (x8_2 : Int).toNat) hC69 (by omega)
                                    have hy69 : y349.length = (x8_2 : Int).toNat := (by rw [Ny349.out, List.length_take]; omega)
                                    rw [← Ny349.out] at hr69
                                    rw [← hy69] at hcut69
                                    have HR352 := Aside0.mk hr69
                                    have HC352 := Aside0.mk (show y349.length ≤ co38 from by omega)
                                    clear hr69 hC69 hroom69 hi069 hsz69
                                    have KY69 := Aside0.mk hy69
                                    clear hy69
                                    have KL69 := Aside0.mk (show (x8_2 : Int).toNat ≤ y346.length from by omega)
                                    replace q69 := eq_true q69
                                    go_wp2_with (first | ((with_reducible refine gate_callee (f := 31) rfl ?_); refine goesL_ (some 67) rfl rfl Try.func31 (by kernel_rfl) rfl #[.slice Ao38 y349.length co38] rfl (by (try simp only [List.map_toArray, List.map_cons, List.map_nil]); first | done | rfl | (simp only [List.length_drop, List.length_take]; rfl)) ?_; (with_reducible refine (cobs_Unstuff.calls k2 (fun k_ => True) _ _ y349 t353 t356 _ ?side1 A46.out).mono ?_); (case side1 => exact Kd.V_mk HC352.out (Kd.F_mono (Kd.C_F (Kd.heap_int .u8) (by repeat (first | (with_reducible exact HR352.out) | (with_reducible refine Kd.C_alloc ?_ _) | (with_reducible refine Kd.C_drewN ?_ _) | (with_reducible refine Kd.C_drew ?_) | exact HR352.out))) (fun _ _ => trivial))); rintro e w70 ⟨v354, rfl, ho0, hb⟩; refine ⟨_, rfl, ?_⟩; have n0_ := Aside0.mk (Kd.R_elder' (by (with_reducible repeat (first | apply Kd.R_alloc | apply Kd.R_drewN | apply Kd.R_drew)); exact HO_5.out) (Kd.R_base ho0) hb); have n1_ := Aside0.mk (Kd.R_elder' (by (with_reducible repeat (first | apply Kd.R_alloc | apply Kd.R_drewN | apply Kd.R_drew)); exact HO_7.out) (Kd.R_base ho0) hb); have n2_ := Aside0.mk (Kd.R_elder' (by (with_reducible repeat (first | apply Kd.R_alloc | apply Kd.R_drewN | apply Kd.R_drew)); exact HO_50.out) (Kd.R_base ho0) hb); have n3_ := Aside0.mk (Kd.R_lower (Kd.R_new' (Kd.R_new' (Kd.R_new' (Kd.R_mono (ok' := fun k_ => True) ho0 (fun _ hk_ => trivial)) (Kd.R_lt (by (with_reducible repeat (first | apply Kd.R_alloc | apply Kd.R_drewN | apply Kd.R_drew)); exact HO_5.out))) (Kd.R_lt (by (with_reducible repeat (first | apply Kd.R_alloc | apply Kd.R_drewN | apply Kd.R_drew)); exact HO_7.out))) (Kd.R_lt (by (with_reducible repeat (first | apply Kd.R_alloc | apply Kd.R_drewN | apply Kd.R_drew)); exact HO_50.out))) (below_size (by repeat (first | (with_reducible first | exact HB.out | apply below_alloc | apply pw_below_drewN | apply below_drew1) | exact HB.out)))); have n4_ := Aside0.mk (Kd.C_below (by repeat (first | (with_reducible exact HR352.out) | (with_reducible refine Kd.C_alloc ?_ _) | (with_reducible refine Kd.C_drewN ?_ _) | (with_reducible refine Kd.C_drew ?_) | exact HR352.out)) hb); have n5_ := Aside0.mk (below_step (by repeat (first | (with_reducible first | exact HB.out | apply below_alloc | apply pw_below_drewN | apply below_drew1) | exact HB.out)) hb); clear HO_5; clear HO_7; clear HO_50; clear HR352; clear HB; have HO_5 := n0_; have HO_7 := n1_; have HO_50 := n2_; have HO355 := n3_; have HR352 := n4_; have HB := n5_; clear n0_ n1_ n2_ n3_ n4_ n5_; (try clear hb); (try clear hb2); (try clear hk); (try clear hi); (try clear ho0); have q71 : ((ji47) : Int) ≤ ((y346.length : Int) : Int) := of_decide_eq_true (by first | (with_reducible assumption) | assumption); obtain ⟨i071, hi071, _, hsz71, _⟩ := info_parts info5; have hroom71 : y346.length ≤ co38 := (Kd.R_reads' HO_7.out).2.1; have hC71 : Kd.C (Kd.int .u8) _ Ao38 y346.length y346 := (Kd.R_reads' HO_7.out).2.2; have q071 : (0 : Int) ≤ ((ji47) : Int) := of_decide_eq_true (by first | (with_reducible assumption) | assumption); have hcut71 := cut_from (P := Try.prog) 22 5 .i64 Try.underlying22 hi071 1 hsz71 Ao38 y346.length co38 (ji47) q071 q71; have hr71 := Kd.C_drop (m := ((ji47) : Int).toNat) (c := co38) hC71 (by omega) hroom71; obtain ⟨A71, hA71⟩ : ∃ A1, A1 = (if co38 = ((ji47) : Int).toNat then Ao38 else (Ao38 : Option Addr).map (·.add (((ji47) : Int).toNat * 1))) := ⟨_, rfl⟩; obtain ⟨c71, hc71⟩ : ∃ c1, c1 = co38 - ((ji47) : Int).toNat := ⟨_, rfl⟩; have hy71 : y357.length = y346.length - ((ji47) : Int).toNat := (by rw [Ny357.out, List.length_drop] <;> omega); rw [show (y346).drop ((ji47) : Int).toNat = y357 from Ny357.out.symm] at hr71; replace hr71 : Kd.C (Kd.int .u8) _ A71 y357.length y357 := (by rw [hA71]; exact hr71); rw [← hy71, ← hA71, ← hc71] at hcut71; have HR360 := Aside0.mk hr71; have HC360 := Aside0.mk (show y357.length ≤ c71 from by rw [hy71, hc71]; exact Nat.sub_le_sub_right hroom71 _); clear hr71 hC71 hroom71 hi071 hsz71 hc71; have KY71 := Aside0.mk hy71; have KA71 := Aside0.mk hA71; clear hy71 hA71; have KL71 := Aside0.mk (show ((ji47) : Int).toNat ≤ y346.length from by omega); replace q71 := eq_true q71) | ((with_reducible refine gate_callee (f := 31) rfl ?_); refine goesL_ (some 75) rfl rfl Try.func31 (by kernel_rfl) rfl #[.slice A71 y357.length c71] rfl (by (try simp only [List.map_toArray, List.map_cons, List.map_nil]); first | done | rfl | (simp only [List.length_drop, List.length_take]; rfl)) ?_; (with_reducible refine (cobs_Unstuff.calls k2 (fun k_ => True) _ _ y357 t361 t364 _ ?side1 A50.out).mono ?_); (case side1 => exact Kd.V_mk HC360.out (Kd.F_mono (Kd.C_F (Kd.heap_int .u8) (by repeat (first | (with_reducible exact HR360.out) | (with_reducible refine Kd.C_alloc ?_ _) | (with_reducible refine Kd.C_drewN ?_ _) | (with_reducible refine Kd.C_drew ?_) | exact HR360.out))) (fun _ _ => trivial))); rintro e w72 ⟨v362, rfl, ho0, hb⟩; refine ⟨_, rfl, ?_⟩; have n0_ := Aside0.mk (Kd.R_elder' (by (with_reducible repeat (first | apply Kd.R_alloc | apply Kd.R_drewN | apply Kd.R_drew)); exact HO_5.out) (Kd.R_base ho0) hb); have n1_ := Aside0.mk (Kd.R_elder' (by (with_reducible repeat (first | apply Kd.R_alloc | apply Kd.R_drewN | apply Kd.R_drew)); exact HO_7.out) (Kd.R_base ho0) hb); have n2_ := Aside0.mk (Kd.R_elder' (by (with_reducible repeat (first | apply Kd.R_alloc | apply Kd.R_drewN | apply Kd.R_drew)); exact HO_50.out) (Kd.R_base ho0) hb); have n3_ := Aside0.mk (Kd.R_elder' (by (with_reducible repeat (first | apply Kd.R_alloc | apply Kd.R_drewN | apply Kd.R_drew)); exact HO355.out) (Kd.R_base ho0) hb); have n4_ := Aside0.mk (Kd.R_lower (Kd.R_new' (Kd.R_new' (Kd.R_new' (Kd.R_new' (Kd.R_mono (ok' := fun k_ => True) ho0 (fun _ hk_ => trivial)) (Kd.R_lt (by (with_reducible repeat (first | apply Kd.R_alloc | apply Kd.R_drewN | apply Kd.R_drew)); exact HO_5.out))) (Kd.R_lt (by (with_reducible repeat (first | apply Kd.R_alloc | apply Kd.R_drewN | apply Kd.R_drew)); exact HO_7.out))) (Kd.R_lt (by (with_reducible repeat (first | apply Kd.R_alloc | apply Kd.R_drewN | apply Kd.R_drew)); exact HO_50.out))) (Kd.R_lt (by (with_reducible repeat (first | apply Kd.R_alloc | apply Kd.R_drewN | apply Kd.R_drew)); exact HO355.out))) (below_size (by repeat (first | (with_reducible first | exact HB.out | apply below_alloc | apply pw_below_drewN | apply below_drew1) | exact HB.out)))); have n5_ := Aside0.mk (Kd.C_below (by repeat (first | (with_reducible exact HR352.out) | (with_reducible refine Kd.C_alloc ?_ _) | (with_reducible refine Kd.C_drewN ?_ _) | (with_reducible refine Kd.C_drew ?_) | exact HR352.out)) hb); have n6_ := Aside0.mk (Kd.C_below (by repeat (first | (with_reducible exact HR360.out) | (with_reducible refine Kd.C_alloc ?_ _) | (with_reducible refine Kd.C_drewN ?_ _) | (with_reducible refine Kd.C_drew ?_) | exact HR360.out)) hb); have n7_ := Aside0.mk (below_step (by repeat (first | (with_reducible first | exact HB.out | apply below_alloc | apply pw_below_drewN | apply below_drew1) | exact HB.out)) hb); clear HO_5; clear HO_7; clear HO_50; clear HO355; clear HR352; clear HR360; clear HB; have HO_5 := n0_; have HO_7 := n1_; have HO_50 := n2_; have HO355 := n3_; have HO363 := n4_; have HR352 := n5_; have HR360 := n6_; have HB := n7_; clear n0_ n1_ n2_ n3_ n4_ n5_ n6_ n7_; (try clear hb); (try clear hb2); (try clear hk); (try clear hi); (try clear ho0)))
                                    go_ret
                                    exact ⟨by first | rfl | (simp [errW_none, errW_some] <;> rfl) | (simp only [← hji47]; first | rfl | (simp [errW_none, errW_some] <;> rfl)) | (simp [*, errW_none, errW_some] <;> rfl), by repeat (first | (with_reducible first | exact HB.out | apply below_alloc | apply pw_below_drewN | apply below_drew1) | exact HB.out)⟩
                                · rw [if_neg c52] at H
                                  have c52b0 : (t356 == 0) = false := beq_eq_false_iff_ne.mpr c52
                                  have c52b1 : (t356 != 0) = true := bne_iff_ne.mpr c52
                                  obtain rfl := Option.some.inj H
                                  have q73 : (x8_2 : Int) ≤ ((y346.length : Int) : Int) := of_decide_eq_true (by first | (with_reducible assumption) | assumption)
                                  obtain ⟨i073, hi073, _, hsz73, _⟩ := info_parts info5
                                  have hroom73 : y346.length ≤ co38 := (Kd.R_reads' HO_7.out).2.1
                                  have hC73 : Kd.C (Kd.int .u8) _ Ao38 y346.length y346 := (Kd.R_reads' HO_7.out).2.2
                                  have hcut73 := cut_to (P := Try.prog) 22 5 .i64 Try.underlying22 hi073 Ao38 y346.length co38 x8_2 (of_decide_eq_true (by first | (with_reducible assumption) | assumption)) q73 hroom73
                                  have hr73 := Kd.C_take (m := (x8_2 : Int).toNat) hC73 (by omega)
                                  have hy73 : y349.length = (x8_2 : Int).toNat := (by rw [Ny349.out, List.length_take]; omega)
                                  rw [← Ny349.out] at hr73
                                  rw [← hy73] at hcut73
                                  have HR352 := Aside0.mk hr73
                                  have HC352 := Aside0.mk (show y349.length ≤ co38 from by omega)
                                  clear hr73 hC73 hroom73 hi073 hsz73
                                  have KY73 := Aside0.mk hy73
                                  clear hy73
                                  have KL73 := Aside0.mk (show (x8_2 : Int).toNat ≤ y346.length from by omega)
                                  replace q73 := eq_true q73
                                  go_wp2_with (first | ((with_reducible refine gate_callee (f := 31) rfl ?_); refine goesL_ (some 67) rfl rfl Try.func31 (by kernel_rfl) rfl #[.slice Ao38 y349.length co38] rfl (by (try simp only [List.map_toArray, List.map_cons, List.map_nil]); first | done | rfl | (simp only [List.length_drop, List.length_take]; rfl)) ?_; (with_reducible refine (cobs_Unstuff.calls k2 (fun k_ => True) _ _ y349 t353 t356 _ ?side1 A46.out).mono ?_); (case side1 => exact Kd.V_mk HC352.out (Kd.F_mono (Kd.C_F (Kd.heap_int .u8) (by repeat (first | (with_reducible exact HR352.out) | (with_reducible refine Kd.C_alloc ?_ _) | (with_reducible refine Kd.C_drewN ?_ _) | (with_reducible refine Kd.C_drew ?_) | exact HR352.out))) (fun _ _ => trivial))); rintro e w74 ⟨v354, rfl, ho0, hb⟩; refine ⟨_, rfl, ?_⟩; have n0_ := Aside0.mk (Kd.R_elder' (by (with_reducible repeat (first | apply Kd.R_alloc | apply Kd.R_drewN | apply Kd.R_drew)); exact HO_5.out) (Kd.R_base ho0) hb); have n1_ := Aside0.mk (Kd.R_elder' (by (with_reducible repeat (first | apply Kd.R_alloc | apply Kd.R_drewN | apply Kd.R_drew)); exact HO_7.out) (Kd.R_base ho0) hb); have n2_ := Aside0.mk (Kd.R_elder' (by (with_reducible repeat (first | apply Kd.R_alloc | apply Kd.R_drewN | apply Kd.R_drew)); exact HO_50.out) (Kd.R_base ho0) hb); have n3_ := Aside0.mk (Kd.R_lower (Kd.R_new' (Kd.R_new' (Kd.R_new' (Kd.R_mono (ok' := fun k_ => True) ho0 (fun _ hk_ => trivial)) (Kd.R_lt (by (with_reducible repeat (first | apply Kd.R_alloc | apply Kd.R_drewN | apply Kd.R_drew)); exact HO_5.out))) (Kd.R_lt (by (with_reducible repeat (first | apply Kd.R_alloc | apply Kd.R_drewN | apply Kd.R_drew)); exact HO_7.out))) (Kd.R_lt (by (with_reducible repeat (first | apply Kd.R_alloc | apply Kd.R_drewN | apply Kd.R_drew)); exact HO_50.out))) (below_size (by repeat (first | (with_reducible first | exact HB.out | apply below_alloc | apply pw_below_drewN | apply below_drew1) | exact HB.out)))); have n4_ := Aside0.mk (Kd.C_below (by repeat (first | (with_reducible exact HR352.out) | (with_reducible refine Kd.C_alloc ?_ _) | (with_reducible refine Kd.C_drewN ?_ _) | (with_reducible refine Kd.C_drew ?_) | exact HR352.out)) hb); have n5_ := Aside0.mk (below_step (by repeat (first | (with_reducible first | exact HB.out | apply below_alloc | apply pw_below_drewN | apply below_drew1) | exact HB.out)) hb); clear HO_5; clear HO_7; clear HO_50; clear HR352; clear HB; have HO_5 := n0_; have HO_7 := n1_; have HO_50 := n2_; have HO355 := n3_; have HR352 := n4_; have HB := n5_; clear n0_ n1_ n2_ n3_ n4_ n5_; (try clear hb); (try clear hb2); (try clear hk); (try clear hi); (try clear ho0); have q75 : ((ji47) : Int) ≤ ((y346.length : Int) : Int) := of_decide_eq_true (by first | (with_reducible assumption) | assumption); obtain ⟨i075, hi075, _, hsz75, _⟩ := info_parts info5; have hroom75 : y346.length ≤ co38 := (Kd.R_reads' HO_7.out).2.1; have hC75 : Kd.C (Kd.int .u8) _ Ao38 y346.length y346 := (Kd.R_reads' HO_7.out).2.2; have q075 : (0 : Int) ≤ ((ji47) : Int) := of_decide_eq_true (by first | (with_reducible assumption) | assumption); have hcut75 := cut_from (P := Try.prog) 22 5 .i64 Try.underlying22 hi075 1 hsz75 Ao38 y346.length co38 (ji47) q075 q75; have hr75 := Kd.C_drop (m := ((ji47) : Int).toNat) (c := co38) hC75 (by omega) hroom75; obtain ⟨A75, hA75⟩ : ∃ A1, A1 = (if co38 = ((ji47) : Int).toNat then Ao38 else (Ao38 : Option Addr).map (·.add (((ji47) : Int).toNat * 1))) := ⟨_, rfl⟩; obtain ⟨c75, hc75⟩ : ∃ c1, c1 = co38 - ((ji47) : Int).toNat := ⟨_, rfl⟩; have hy75 : y357.length = y346.length - ((ji47) : Int).toNat := (by rw [Ny357.out, List.length_drop] <;> omega); rw [show (y346).drop ((ji47) : Int).toNat = y357 from Ny357.out.symm] at hr75; replace hr75 : Kd.C (Kd.int .u8) _ A75 y357.length y357 := (by rw [hA75]; exact hr75); rw [← hy75, ← hA75, ← hc75] at hcut75; have HR360 := Aside0.mk hr75; have HC360 := Aside0.mk (show y357.length ≤ c75 from by rw [hy75, hc75]; exact Nat.sub_le_sub_right hroom75 _); clear hr75 hC75 hroom75 hi075 hsz75 hc75; have KY75 := Aside0.mk hy75; have KA75 := Aside0.mk hA75; clear hy75 hA75; have KL75 := Aside0.mk (show ((ji47) : Int).toNat ≤ y346.length from by omega); replace q75 := eq_true q75) | ((with_reducible refine gate_callee (f := 31) rfl ?_); refine goesL_ (some 75) rfl rfl Try.func31 (by kernel_rfl) rfl #[.slice A75 y357.length c75] rfl (by (try simp only [List.map_toArray, List.map_cons, List.map_nil]); first | done | rfl | (simp only [List.length_drop, List.length_take]; rfl)) ?_; (with_reducible refine (cobs_Unstuff.calls k2 (fun k_ => True) _ _ y357 t361 t364 _ ?side1 A50.out).mono ?_); (case side1 => exact Kd.V_mk HC360.out (Kd.F_mono (Kd.C_F (Kd.heap_int .u8) (by repeat (first | (with_reducible exact HR360.out) | (with_reducible refine Kd.C_alloc ?_ _) | (with_reducible refine Kd.C_drewN ?_ _) | (with_reducible refine Kd.C_drew ?_) | exact HR360.out))) (fun _ _ => trivial))); rintro e w76 ⟨v362, rfl, ho0, hb⟩; refine ⟨_, rfl, ?_⟩; have n0_ := Aside0.mk (Kd.R_elder' (by (with_reducible repeat (first | apply Kd.R_alloc | apply Kd.R_drewN | apply Kd.R_drew)); exact HO_5.out) (Kd.R_base ho0) hb); have n1_ := Aside0.mk (Kd.R_elder' (by (with_reducible repeat (first | apply Kd.R_alloc | apply Kd.R_drewN | apply Kd.R_drew)); exact HO_7.out) (Kd.R_base ho0) hb); have n2_ := Aside0.mk (Kd.R_elder' (by (with_reducible repeat (first | apply Kd.R_alloc | apply Kd.R_drewN | apply Kd.R_drew)); exact HO_50.out) (Kd.R_base ho0) hb); have n3_ := Aside0.mk (Kd.R_elder' (by (with_reducible repeat (first | apply Kd.R_alloc | apply Kd.R_drewN | apply Kd.R_drew)); exact HO355.out) (Kd.R_base ho0) hb); have n4_ := Aside0.mk (Kd.R_lower (Kd.R_new' (Kd.R_new' (Kd.R_new' (Kd.R_new' (Kd.R_mono (ok' := fun k_ => True) ho0 (fun _ hk_ => trivial)) (Kd.R_lt (by (with_reducible repeat (first | apply Kd.R_alloc | apply Kd.R_drewN | apply Kd.R_drew)); exact HO_5.out))) (Kd.R_lt (by (with_reducible repeat (first | apply Kd.R_alloc | apply Kd.R_drewN | apply Kd.R_drew)); exact HO_7.out))) (Kd.R_lt (by (with_reducible repeat (first | apply Kd.R_alloc | apply Kd.R_drewN | apply Kd.R_drew)); exact HO_50.out))) (Kd.R_lt (by (with_reducible repeat (first | apply Kd.R_alloc | apply Kd.R_drewN | apply Kd.R_drew)); exact HO355.out))) (below_size (by repeat (first | (with_reducible first | exact HB.out | apply below_alloc | apply pw_below_drewN | apply below_drew1) | exact HB.out)))); have n5_ := Aside0.mk (Kd.C_below (by repeat (first | (with_reducible exact HR352.out) | (with_reducible refine Kd.C_alloc ?_ _) | (with_reducible refine Kd.C_drewN ?_ _) | (with_reducible refine Kd.C_drew ?_) | exact HR352.out)) hb); have n6_ := Aside0.mk (Kd.C_below (by repeat (first | (with_reducible exact HR360.out) | (with_reducible refine Kd.C_alloc ?_ _) | (with_reducible refine Kd.C_drewN ?_ _) | (with_reducible refine Kd.C_drew ?_) | exact HR360.out)) hb); have n7_ := Aside0.mk (below_step (by repeat (first | (with_reducible first | exact HB.out | apply below_alloc | apply pw_below_drewN | apply below_drew1) | exact HB.out)) hb); clear HO_5; clear HO_7; clear HO_50; clear HO355; clear HR352; clear HR360; clear HB; have HO_5 := n0_; have HO_7 := n1_; have HO_50 := n2_; have HO355 := n3_; have HO363 := n4_; have HR352 := n5_; have HR360 := n6_; have HB := n7_; clear n0_ n1_ n2_ n3_ n4_ n5_ n6_ n7_; (try clear hb); (try clear hb2); (try clear hk); (try clear hi); (try clear ho0)))
                                  go_ret
                                  exact ⟨by first | rfl | (simp [errW_none, errW_some] <;> rfl) | (simp only [← hji47]; first | rfl | (simp [errW_none, errW_some] <;> rfl)) | (simp [*, errW_none, errW_some] <;> rfl), by repeat (first | (with_reducible first | exact HB.out | apply below_alloc | apply pw_below_drewN | apply below_drew1) | exact HB.out)⟩
                              · rw [if_neg c51] at H
                                have c51b0 : (x8_2 == (t331.length : Int)) = false := beq_eq_false_iff_ne.mpr c51
                                have c51b1 : (x8_2 != (t331.length : Int)) = true := bne_iff_ne.mpr c51
                                obtain rfl := Option.some.inj H
                                have q77 : (x8_2 : Int) ≤ ((y346.length : Int) : Int) := of_decide_eq_true (by first | (with_reducible assumption) | assumption)
                                obtain ⟨i077, hi077, _, hsz77, _⟩ := info_parts info5
                                have hroom77 : y346.length ≤ co38 := (Kd.R_reads' HO_7.out).2.1
                                have hC77 : Kd.C (Kd.int .u8) _ Ao38 y346.length y346 := (Kd.R_reads' HO_7.out).2.2
                                have hcut77 := cut_to (P := Try.prog) 22 5 .i64 Try.underlying22 hi077 Ao38 y346.length co38 x8_2 (of_decide_eq_true (by first | (with_reducible assumption) | assumption)) q77 hroom77
                                have hr77 := Kd.C_take (m := (x8_2 : Int).toNat) hC77 (by omega)
                                have hy77 : y349.length = (x8_2 : Int).toNat := (by rw [Ny349.out, List.length_take]; omega)
                                rw [← Ny349.out] at hr77
                                rw [← hy77] at hcut77
                                have HR352 := Aside0.mk hr77
                                have HC352 := Aside0.mk (show y349.length ≤ co38 from by omega)
                                clear hr77 hC77 hroom77 hi077 hsz77
                                have KY77 := Aside0.mk hy77
                                clear hy77
                                have KL77 := Aside0.mk (show (x8_2 : Int).toNat ≤ y346.length from by omega)
                                replace q77 := eq_true q77
                                go_wp2_with (first | ((with_reducible refine gate_callee (f := 31) rfl ?_); refine goesL_ (some 67) rfl rfl Try.func31 (by kernel_rfl) rfl #[.slice Ao38 y349.length co38] rfl (by (try simp only [List.map_toArray, List.map_cons, List.map_nil]); first | done | rfl | (simp only [List.length_drop, List.length_take]; rfl)) ?_; (with_reducible refine (cobs_Unstuff.calls k2 (fun k_ => True) _ _ y349 t353 t356 _ ?side1 A46.out).mono ?_); (case side1 => exact Kd.V_mk HC352.out (Kd.F_mono (Kd.C_F (Kd.heap_int .u8) (by repeat (first | (with_reducible exact HR352.out) | (with_reducible refine Kd.C_alloc ?_ _) | (with_reducible refine Kd.C_drewN ?_ _) | (with_reducible refine Kd.C_drew ?_) | exact HR352.out))) (fun _ _ => trivial))); rintro e w78 ⟨v354, rfl, ho0, hb⟩; refine ⟨_, rfl, ?_⟩; have n0_ := Aside0.mk (Kd.R_elder' (by (with_reducible repeat (first | apply Kd.R_alloc | apply Kd.R_drewN | apply Kd.R_drew)); exact HO_5.out) (Kd.R_base ho0) hb); have n1_ := Aside0.mk (Kd.R_elder' (by (with_reducible repeat (first | apply Kd.R_alloc | apply Kd.R_drewN | apply Kd.R_drew)); exact HO_7.out) (Kd.R_base ho0) hb); have n2_ := Aside0.mk (Kd.R_elder' (by (with_reducible repeat (first | apply Kd.R_alloc | apply Kd.R_drewN | apply Kd.R_drew)); exact HO_50.out) (Kd.R_base ho0) hb); have n3_ := Aside0.mk (Kd.R_lower (Kd.R_new' (Kd.R_new' (Kd.R_new' (Kd.R_mono (ok' := fun k_ => True) ho0 (fun _ hk_ => trivial)) (Kd.R_lt (by (with_reducible repeat (first | apply Kd.R_alloc | apply Kd.R_drewN | apply Kd.R_drew)); exact HO_5.out))) (Kd.R_lt (by (with_reducible repeat (first | apply Kd.R_alloc | apply Kd.R_drewN | apply Kd.R_drew)); exact HO_7.out))) (Kd.R_lt (by (with_reducible repeat (first | apply Kd.R_alloc | apply Kd.R_drewN | apply Kd.R_drew)); exact HO_50.out))) (below_size (by repeat (first | (with_reducible first | exact HB.out | apply below_alloc | apply pw_below_drewN | apply below_drew1) | exact HB.out)))); have n4_ := Aside0.mk (Kd.C_below (by repeat (first | (with_reducible exact HR352.out) | (with_reducible refine Kd.C_alloc ?_ _) | (with_reducible refine Kd.C_drewN ?_ _) | (with_reducible refine Kd.C_drew ?_) | exact HR352.out)) hb); have n5_ := Aside0.mk (below_step (by repeat (first | (with_reducible first | exact HB.out | apply below_alloc | apply pw_below_drewN | apply below_drew1) | exact HB.out)) hb); clear HO_5; clear HO_7; clear HO_50; clear HR352; clear HB; have HO_5 := n0_; have HO_7 := n1_; have HO_50 := n2_; have HO355 := n3_; have HR352 := n4_; have HB := n5_; clear n0_ n1_ n2_ n3_ n4_ n5_; (try clear hb); (try clear hb2); (try clear hk); (try clear hi); (try clear ho0); have q79 : ((ji47) : Int) ≤ ((y346.length : Int) : Int) := of_decide_eq_true (by first | (with_reducible assumption) | assumption); obtain ⟨i079, hi079, _, hsz79, _⟩ := info_parts info5; have hroom79 : y346.length ≤ co38 := (Kd.R_reads' HO_7.out).2.1; have hC79 : Kd.C (Kd.int .u8) _ Ao38 y346.length y346 := (Kd.R_reads' HO_7.out).2.2; have q079 : (0 : Int) ≤ ((ji47) : Int) := of_decide_eq_true (by first | (with_reducible assumption) | assumption); have hcut79 := cut_from (P := Try.prog) 22 5 .i64 Try.underlying22 hi079 1 hsz79 Ao38 y346.length co38 (ji47) q079 q79; have hr79 := Kd.C_drop (m := ((ji47) : Int).toNat) (c := co38) hC79 (by omega) hroom79; obtain ⟨A79, hA79⟩ : ∃ A1, A1 = (if co38 = ((ji47) : Int).toNat then Ao38 else (Ao38 : Option Addr).map (·.add (((ji47) : Int).toNat * 1))) := ⟨_, rfl⟩; obtain ⟨c79, hc79⟩ : ∃ c1, c1 = co38 - ((ji47) : Int).toNat := ⟨_, rfl⟩; have hy79 : y357.length = y346.length - ((ji47) : Int).toNat := (by rw [Ny357.out, List.length_drop] <;> omega); rw [show (y346).drop ((ji47) : Int).toNat = y357 from Ny357.out.symm] at hr79; replace hr79 : Kd.C (Kd.int .u8) _ A79 y357.length y357 := (by rw [hA79]; exact hr79); rw [← hy79, ← hA79, ← hc79] at hcut79; have HR360 := Aside0.mk hr79; have HC360 := Aside0.mk (show y357.length ≤ c79 from by rw [hy79, hc79]; exact Nat.sub_le_sub_right hroom79 _); clear hr79 hC79 hroom79 hi079 hsz79 hc79; have KY79 := Aside0.mk hy79; have KA79 := Aside0.mk hA79; clear hy79 hA79; have KL79 := Aside0.mk (show ((ji47) : Int).toNat ≤ y346.length from by omega); replace q79 := eq_true q79) | ((with_reducible refine gate_callee (f := 31) rfl ?_); refine goesL_ (some 75) rfl rfl Try.func31 (by kernel_rfl) rfl #[.slice A79 y357.length c79] rfl (by (try simp only [List.map_toArray, List.map_cons, List.map_nil]); first | done | rfl | (simp only [List.length_drop, List.length_take]; rfl)) ?_; (with_reducible refine (cobs_Unstuff.calls k2 (fun k_ => True) _ _ y357 t361 t364 _ ?side1 A50.out).mono ?_); (case side1 => exact Kd.V_mk HC360.out (Kd.F_mono (Kd.C_F (Kd.heap_int .u8) (by repeat (first | (with_reducible exact HR360.out) | (with_reducible refine Kd.C_alloc ?_ _) | (with_reducible refine Kd.C_drewN ?_ _) | (with_reducible refine Kd.C_drew ?_) | exact HR360.out))) (fun _ _ => trivial))); rintro e w80 ⟨v362, rfl, ho0, hb⟩; refine ⟨_, rfl, ?_⟩; have n0_ := Aside0.mk (Kd.R_elder' (by (with_reducible repeat (first | apply Kd.R_alloc | apply Kd.R_drewN | apply Kd.R_drew)); exact HO_5.out) (Kd.R_base ho0) hb); have n1_ := Aside0.mk (Kd.R_elder' (by (with_reducible repeat (first | apply Kd.R_alloc | apply Kd.R_drewN | apply Kd.R_drew)); exact HO_7.out) (Kd.R_base ho0) hb); have n2_ := Aside0.mk (Kd.R_elder' (by (with_reducible repeat (first | apply Kd.R_alloc | apply Kd.R_drewN | apply Kd.R_drew)); exact HO_50.out) (Kd.R_base ho0) hb); have n3_ := Aside0.mk (Kd.R_elder' (by (with_reducible repeat (first | apply Kd.R_alloc | apply Kd.R_drewN | apply Kd.R_drew)); exact HO355.out) (Kd.R_base ho0) hb); have n4_ := Aside0.mk (Kd.R_lower (Kd.R_new' (Kd.R_new' (Kd.R_new' (Kd.R_new' (Kd.R_mono (ok' := fun k_ => True) ho0 (fun _ hk_ => trivial)) (Kd.R_lt (by (with_reducible repeat (first | apply Kd.R_alloc | apply Kd.R_drewN | apply Kd.R_drew)); exact HO_5.out))) (Kd.R_lt (by (with_reducible repeat (first | apply Kd.R_alloc | apply Kd.R_drewN | apply Kd.R_drew)); exact HO_7.out))) (Kd.R_lt (by (with_reducible repeat (first | apply Kd.R_alloc | apply Kd.R_drewN | apply Kd.R_drew)); exact HO_50.out))) (Kd.R_lt (by (with_reducible repeat (first | apply Kd.R_alloc | apply Kd.R_drewN | apply Kd.R_drew)); exact HO355.out))) (below_size (by repeat (first | (with_reducible first | exact HB.out | apply below_alloc | apply pw_below_drewN | apply below_drew1) | exact HB.out)))); have n5_ := Aside0.mk (Kd.C_below (by repeat (first | (with_reducible exact HR352.out) | (with_reducible refine Kd.C_alloc ?_ _) | (with_reducible refine Kd.C_drewN ?_ _) | (with_reducible refine Kd.C_drew ?_) | exact HR352.out)) hb); have n6_ := Aside0.mk (Kd.C_below (by repeat (first | (with_reducible exact HR360.out) | (with_reducible refine Kd.C_alloc ?_ _) | (with_reducible refine Kd.C_drewN ?_ _) | (with_reducible refine Kd.C_drew ?_) | exact HR360.out)) hb); have n7_ := Aside0.mk (below_step (by repeat (first | (with_reducible first | exact HB.out | apply below_alloc | apply pw_below_drewN | apply below_drew1) | exact HB.out)) hb); clear HO_5; clear HO_7; clear HO_50; clear HO355; clear HR352; clear HR360; clear HB; have HO_5 := n0_; have HO_7 := n1_; have HO_50 := n2_; have HO355 := n3_; have HO363 := n4_; have HR352 := n5_; have HR360 := n6_; have HB := n7_; clear n0_ n1_ n2_ n3_ n4_ n5_ n6_ n7_; (try clear hb); (try clear hb2); (try clear hk); (try clear hi); (try clear ho0)))
                                go_ret
                                exact ⟨by first | rfl | (simp [errW_none, errW_some] <;> rfl) | (simp only [← hji47]; first | rfl | (simp [errW_none, errW_some] <;> rfl)) | (simp [*, errW_none, errW_some] <;> rfl), by repeat (first | (with_reducible first | exact HB.out | apply below_alloc | apply pw_below_drewN | apply below_drew1) | exact HB.out)⟩
                            · rw [if_neg c49] at H
                              exact absurd H (by simp)
                          · rw [if_neg c48] at H
                            exact absurd H (by simp)
                        · rw [if_neg c45] at H
                          exact absurd H (by simp)
                      · rw [if_neg c44] at H
                        exact absurd H (by simp)
              · rw [if_neg c24] at H
                exact absurd H (by simp)
            · rw [if_neg c23] at H
              exact absurd H (by simp)
          · rw [if_neg c22] at H
            exact absurd H (by simp)
/-- THE ONE PURE STATEMENT of fasciclelaw05_CobsApart. -/
def fasciclelaw05_CobsApart.Pure : Prop := ∀ (l0 : List Int) (l1 : List Int), l0.length ≤ maxLen → l0.length * 1 ≤ 140737488351232 → (∀ y ∈ l0, ((Lit.int .u8 y).wf = true)) → l1.length ≤ maxLen → l1.length * 1 ≤ 140737488351232 → (∀ y ∈ l1, ((Lit.int .u8 y).wf = true)) → ∃ k, fasciclelaw05_CobsApart.f k l0 l1 = some true

/-! ### cobs_Size: function 34 -/
def cobs_Size.f (k : Nat) (l0 : List Int) : Option (Int) := (cobs_Stuff.f k l0).bind fun t366 => (some (t366.length : Int))
theorem cobs_Size.mono : ∀ a0 k, LeO (cobs_Size.f k a0) (cobs_Size.f (k + 1) a0) := by
  intro a0 k
  unfold cobs_Size.f
  repeat' first
      | (with_reducible exact cobs_Stuff.mono _ _)
      | (with_reducible exact LeO.refl _)
      | (with_reducible exact LeO.none _)
      | (with_reducible refine LeO.ite ?_ ?_)
      | (with_reducible refine LeO.bind ?_ (fun _ => ?_))
      | exact cobs_Stuff.mono _ _
      | exact LeO.none _
      | refine LeO.ite ?_ ?_
      | refine LeO.bind ?_ (fun _ => ?_)
set_option maxHeartbeats 8000000 in
set_option maxRecDepth 100000 in
theorem cobs_Size.calls (k : Nat) (A0 : Option Addr) (c0 : Nat) (l0 : List Int) (r : Int) (w : World) (hr0 : Kd.C (Kd.int .u8) w A0 l0.length l0) (hc0 : l0.length ≤ c0) (h : cobs_Size.f k l0 = some r) :
    Calls Try.prog 34 #[.slice A0 l0.length c0] w fun e w' => e = .returned (.int .i64 r) ∧ Below w.heap.size w w' := by
  have HR0 := Aside0.mk hr0
  have HC0 := Aside0.mk hc0
  clear hr0 hc0
  have HB := Aside0.mk (Below.refl w.heap.size w)
  have H : ((cobs_Stuff.f k l0).bind fun t366 => (some (t366.length : Int))) = some r := h
  clear h
  replace H := Option.bind_eq_some_iff.mp H
  obtain ⟨t366, A20, H⟩ := H
  replace H : (some (t366.length : Int)) = some r := H
  have A2 := Aside0.mk A20
  clear A20
  obtain rfl := Option.some.inj H
  go_enter Try.func34, Try.ntmps34
  go_wp2_with (first | ((with_reducible refine gate_callee (f := 28) rfl ?_); refine goesL_ (some 4) rfl rfl Try.func28 (by kernel_rfl) rfl #[.slice A0 l0.length c0] rfl (by (try simp only [List.map_toArray, List.map_cons, List.map_nil]); first | done | rfl | (simp only [List.length_drop, List.length_take]; rfl)) ?_; (with_reducible refine (cobs_Stuff.calls k (fun k_ => k_ < w.heap.size) _ _ l0 t366 _ ?side1 A2.out).mono ?_); (case side1 => exact Kd.V_mk HC0.out (Kd.F_below (Kd.C_F (Kd.heap_int .u8) HR0.out) (by repeat (first | (with_reducible first | exact HB.out | apply below_alloc | apply pw_below_drewN | apply below_drew1) | exact HB.out)))); rintro e w3 ⟨v367, rfl, ho0, hb⟩; refine ⟨_, rfl, ?_⟩; have n0_ := Aside0.mk (Kd.R_lower (Kd.R_mono (ok' := fun k_ => True) ho0 (fun _ hk_ => trivial)) (below_size (by repeat (first | (with_reducible first | exact HB.out | apply below_alloc | apply pw_below_drewN | apply below_drew1) | exact HB.out)))); have n1_ := Aside0.mk (below_step (by repeat (first | (with_reducible first | exact HB.out | apply below_alloc | apply pw_below_drewN | apply below_drew1) | exact HB.out)) hb); clear HB; have HO368 := n0_; have HB := n1_; clear n0_ n1_; (try clear hb); (try clear hb2); (try clear hk); (try clear hi); (try clear ho0); obtain ⟨Ao4, co4, eo4⟩ := Kd.R_slice HO368.out; subst eo4))
  go_ret
  exact ⟨by first | rfl | (simp [errW_none, errW_some] <;> rfl) | (simp [*, errW_none, errW_some] <;> rfl), by repeat (first | (with_reducible first | exact HB.out | apply below_alloc | apply pw_below_drewN | apply below_drew1) | exact HB.out)⟩

end Go.Proofs.Ytdpghobknhkikaa.G
