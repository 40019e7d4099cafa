-- Written by gprint.py (the kit's print.py with contracts of my own taken as given)
import Derived.Test.YtdpghobknhkikaaGx0
import Derived.Test.YtdpghobknhkikaaGx8
import Derived.Test.YtdpghobknhkikaaGx9
import Derived.Test.YtdpghobknhkikaaHBytes
namespace Go.Proofs.Ytdpghobknhkikaa.G
open Go.RowKit Go.Proofs.YtdpghobknhkikaaW.PrintWords Go.Proofs.YtdpghobknhkikaaW.PrintLast Go.Proofs.YtdpghobknhkikaaW.PrintMore
attribute [local go_sem] max2_int min2_int max_two min_two max_three min_three max_four min_four   -- for this text's walks alone
set_option linter.unusedVariables false
set_option linter.unusedSimpArgs false

/-! ### fasciclelaw05_CobsMost: function 6 -/
def fasciclelaw05_CobsMost.j0 : Nat → Int → Int → Bool → Option (Bool)
  | 0, _, _, _ => none
  | k + 1, x0, x1, x23 => if x23 = true then (some false) else ((fasciclelaw05_long.f k ([] : List Int) x0).bind fun t277 => ((cobs_Stuff.f k t277).bind fun t280 => ((cobs_Most.f (t277.length : Int)).bind fun t283 => (if (t280.length : Int) = t283 then (if (t277.length : Int) = 0 then (some true) else (if 0 ≤ (Int.tmod (wrap64 (x1)) (t277.length : Int)) then (if (Int.tmod (wrap64 (x1)) (t277.length : Int)) < (t277.length : Int) then ((cobs_Stuff.f k (t277.set ((Int.tmod (wrap64 (x1)) (t277.length : Int)) : Int).toNat 0)).bind fun t285 => ((cobs_Most.f (t277.length : Int)).bind fun t288 => (some (decide ((t285.length : Int) ≤ t288))))) else (none)) else (none))) else (some false)))))
def fasciclelaw05_CobsMost.f (k : Nat) (a0 : Int) (a1 : Int) : Option (Bool) := (fasciclelaw05_lives.f k).bind fun t272 => (if t272 = true then ((cobs_Most.f 0).bind fun t273 => (if t273 = 1 then ((cobs_Most.f (-5)).bind fun t274 => (if t274 = 1 then ((cobs_Most.f 254).bind fun t275 => (if t275 = 255 then ((cobs_Most.f 255).bind fun t276 => (fasciclelaw05_CobsMost.j0 k a0 a1 (t276 != 257))) else (fasciclelaw05_CobsMost.j0 k a0 a1 true))) else (fasciclelaw05_CobsMost.j0 k a0 a1 true))) else (fasciclelaw05_CobsMost.j0 k a0 a1 true))) else (fasciclelaw05_CobsMost.j0 k a0 a1 true))
theorem fasciclelaw05_CobsMost.mono_l : ∀ k, (∀ y0 y1 y2, LeO (fasciclelaw05_CobsMost.j0 k y0 y1 y2) (fasciclelaw05_CobsMost.j0 (k + 1) y0 y1 y2))
  | 0 => fun _ _ _ r h => by simp [fasciclelaw05_CobsMost.j0] at h
  | k + 1 => by
    have ih0 := fasciclelaw05_CobsMost.mono_l k
    · intro y0 y1 y2
      unfold fasciclelaw05_CobsMost.j0
      repeat' first
      | (with_reducible exact ih0 _ _ _)
      | (with_reducible exact cobs_Stuff.mono _ _)
      | (with_reducible exact fasciclelaw05_lives.mono _)
      | (with_reducible exact fasciclelaw05_long.mono _ _ _)
      | (with_reducible exact LeO.refl _)
      | (with_reducible exact LeO.none _)
      | (with_reducible refine LeO.ite ?_ ?_)
      | (with_reducible refine LeO.bind ?_ (fun _ => ?_))
      | exact ih0 _ _ _
      | exact cobs_Stuff.mono _ _
      | exact fasciclelaw05_lives.mono _
      | exact fasciclelaw05_long.mono _ _ _
      | exact LeO.none _
      | refine LeO.ite ?_ ?_
      | refine LeO.bind ?_ (fun _ => ?_)
theorem fasciclelaw05_CobsMost.mono : ∀ a0 a1 k, LeO (fasciclelaw05_CobsMost.f k a0 a1) (fasciclelaw05_CobsMost.f (k + 1) a0 a1) := by
  intro a0 a1 k
  have ih0 := fasciclelaw05_CobsMost.mono_l k
  unfold fasciclelaw05_CobsMost.f
  repeat' first
      | (with_reducible exact ih0 _ _ _)
      | (with_reducible exact cobs_Stuff.mono _ _)
      | (with_reducible exact fasciclelaw05_lives.mono _)
      | (with_reducible exact fasciclelaw05_long.mono _ _ _)
      | (with_reducible exact LeO.refl _)
      | (with_reducible exact LeO.none _)
      | (with_reducible refine LeO.ite ?_ ?_)
      | (with_reducible refine LeO.bind ?_ (fun _ => ?_))
      | exact ih0 _ _ _
      | exact cobs_Stuff.mono _ _
      | exact fasciclelaw05_lives.mono _
      | exact fasciclelaw05_long.mono _ _ _
      | exact LeO.none _
      | refine LeO.ite ?_ ?_
      | refine LeO.bind ?_ (fun _ => ?_)
set_option maxHeartbeats 8000000 in
set_option maxRecDepth 100000 in
theorem fasciclelaw05_CobsMost.calls (k : Nat) (a0 : Int) (a1 : Int) (r : Bool) (w : World) (h : fasciclelaw05_CobsMost.f k a0 a1 = some r) :
    Calls Try.prog 6 #[.int .u16 a0, .int .u16 a1] w fun e w' => e = .returned (.bool r) ∧ Below w.heap.size w w' := by
  have HB := Aside0.mk (Below.refl w.heap.size w)
  have H : ((fasciclelaw05_lives.f k).bind fun t272 => (if t272 = true then ((cobs_Most.f 0).bind fun t273 => (if t273 = 1 then ((cobs_Most.f (-5)).bind fun t274 => (if t274 = 1 then ((cobs_Most.f 254).bind fun t275 => (if t275 = 255 then ((cobs_Most.f 255).bind fun t276 => (fasciclelaw05_CobsMost.j0 k a0 a1 (t276 != 257))) else (fasciclelaw05_CobsMost.j0 k a0 a1 true))) else (fasciclelaw05_CobsMost.j0 k a0 a1 true))) else (fasciclelaw05_CobsMost.j0 k a0 a1 true))) else (fasciclelaw05_CobsMost.j0 k a0 a1 true))) = some r := h
  clear h
  have HC3 := Aside0.mk H
  clear H
  go_enter Try.func6, Try.ntmps6
  go_upto_region 1 with (fail)
  go_cut [23] (fun v23 wc => ∃ (kq : Nat) (x23_2 : Bool), v23 = .bool x23_2 ∧ Aside0 (fasciclelaw05_CobsMost.j0 kq a0 a1 x23_2 = some r) ∧ Aside0 (kq ≤ k) ∧ Aside0 (Below w.heap.size w wc))
  case first =>
    have H := HC3.out
    clear HC3
    replace H := Option.bind_eq_some_iff.mp H
    obtain ⟨t272, A40, H⟩ := H
    replace H : (if t272 = true then ((cobs_Most.f 0).bind fun t273 => (if t273 = 1 then ((cobs_Most.f (-5)).bind fun t274 => (if t274 = 1 then ((cobs_Most.f 254).bind fun t275 => (if t275 = 255 then ((cobs_Most.f 255).bind fun t276 => (fasciclelaw05_CobsMost.j0 k a0 a1 (t276 != 257))) else (fasciclelaw05_CobsMost.j0 k a0 a1 true))) else (fasciclelaw05_CobsMost.j0 k a0 a1 true))) else (fasciclelaw05_CobsMost.j0 k a0 a1 true))) else (fasciclelaw05_CobsMost.j0 k a0 a1 true)) = some r := H
    have A4 := Aside0.mk A40
    clear A40
    by_cases c5 : t272 = true
    · subst c5
      have H1 : ((cobs_Most.f 0).bind fun t273 => (if t273 = 1 then ((cobs_Most.f (-5)).bind fun t274 => (if t274 = 1 then ((cobs_Most.f 254).bind fun t275 => (if t275 = 255 then ((cobs_Most.f 255).bind fun t276 => (fasciclelaw05_CobsMost.j0 k a0 a1 (t276 != 257))) else (fasciclelaw05_CobsMost.j0 k a0 a1 true))) else (fasciclelaw05_CobsMost.j0 k a0 a1 true))) else (fasciclelaw05_CobsMost.j0 k a0 a1 true))) = some r := by rw [if_pos rfl] at H; exact H
      clear H
      have H := H1
      clear H1
      replace H := Option.bind_eq_some_iff.mp H
      obtain ⟨t273, A60, H⟩ := H
      replace H : (if t273 = 1 then ((cobs_Most.f (-5)).bind fun t274 => (if t274 = 1 then ((cobs_Most.f 254).bind fun t275 => (if t275 = 255 then ((cobs_Most.f 255).bind fun t276 => (fasciclelaw05_CobsMost.j0 k a0 a1 (t276 != 257))) else (fasciclelaw05_CobsMost.j0 k a0 a1 true))) else (fasciclelaw05_CobsMost.j0 k a0 a1 true))) else (fasciclelaw05_CobsMost.j0 k a0 a1 true)) = some r := H
      have A6 := Aside0.mk A60
      clear A60
      by_cases c7 : t273 = 1
      · rw [if_pos c7] at H
        have c7b0 : (t273 == 1) = true := beq_iff_eq.mpr c7
        have c7b1 : (t273 != 1) = false := bne_eq_false_iff_eq.mpr c7
        clear c7
        (first | rw [c7b0] | (simp only [i64_w, i32_w]; rw [c7b0]) | skip)
        replace H := Option.bind_eq_some_iff.mp H
        obtain ⟨t274, A80, H⟩ := H
        replace H : (if t274 = 1 then ((cobs_Most.f 254).bind fun t275 => (if t275 = 255 then ((cobs_Most.f 255).bind fun t276 => (fasciclelaw05_CobsMost.j0 k a0 a1 (t276 != 257))) else (fasciclelaw05_CobsMost.j0 k a0 a1 true))) else (fasciclelaw05_CobsMost.j0 k a0 a1 true)) = some r := H
        have A8 := Aside0.mk A80
        clear A80
        by_cases c9 : t274 = 1
        · rw [if_pos c9] at H
          have c9b0 : (t274 == 1) = true := beq_iff_eq.mpr c9
          have c9b1 : (t274 != 1) = false := bne_eq_false_iff_eq.mpr c9
          clear c9
          replace H := Option.bind_eq_some_iff.mp H
          obtain ⟨t275, A100, H⟩ := H
          replace H : (if t275 = 255 then ((cobs_Most.f 255).bind fun t276 => (fasciclelaw05_CobsMost.j0 k a0 a1 (t276 != 257))) else (fasciclelaw05_CobsMost.j0 k a0 a1 true)) = some r := H
          have A10 := Aside0.mk A100
          clear A100
          by_cases c11 : t275 = 255
          · rw [if_pos c11] at H
            have c11b0 : (t275 == 255) = true := beq_iff_eq.mpr c11
            have c11b1 : (t275 != 255) = false := bne_eq_false_iff_eq.mpr c11
            clear c11
            replace H := Option.bind_eq_some_iff.mp H
            obtain ⟨t276, A120, H⟩ := H
            replace H : (fasciclelaw05_CobsMost.j0 k a0 a1 (t276 != 257)) = some r := H
            have A12 := Aside0.mk A120
            clear A120
            have H' := Aside0.mk H
            clear H
            go_wp2_with (first | ((with_reducible refine gate_callee (f := 25) rfl ?_); refine goesL_ (some 6) rfl rfl Try.func25 (by kernel_rfl) rfl #[] rfl (by (try simp only [List.map_toArray, List.map_cons, List.map_nil]); first | done | rfl | (simp only [List.length_drop, List.length_take]; rfl)) ?_; (with_reducible refine (fasciclelaw05_lives.calls k  true _ A4.out).mono ?_); rintro e w13 ⟨rfl, hb⟩; refine ⟨_, rfl, ?_⟩; have n0_ := Aside0.mk (below_step (by repeat (first | (with_reducible first | exact HB.out | apply below_alloc | apply pw_below_drewN | apply below_drew1) | exact HB.out)) hb); clear HB; have HB := n0_; clear n0_; (try clear hb); (try clear hb2); (try clear hk); (try clear hi)) | (go_at_call 26; (with_reducible refine (cobs_Most.calls 0 t273 _ A6.out).mono ?_); rintro e w' ⟨rfl, ⟨nd, rfl⟩⟩) | (go_at_call 26; (with_reducible refine (cobs_Most.calls (-5) t274 _ A8.out).mono ?_); rintro e w' ⟨rfl, ⟨nd, rfl⟩⟩) | (go_at_call 26; (with_reducible refine (cobs_Most.calls 254 t275 _ A10.out).mono ?_); rintro e w' ⟨rfl, ⟨nd, rfl⟩⟩) | (go_at_call 26; (with_reducible refine (cobs_Most.calls 255 t276 _ A12.out).mono ?_); rintro e w' ⟨rfl, ⟨nd, rfl⟩⟩))
            go_meet
            case rel => exact ⟨_, ((t276 != 257)), (by first | rfl | (simp; done) | (simp [*]; done)), H', ⟨by first | omega | exact Nat.le_refl _⟩, ⟨by repeat (first | (with_reducible first | exact HB.out | apply below_alloc | apply pw_below_drewN | apply below_drew1) | exact HB.out)⟩⟩
          · rw [if_neg c11] at H
            have c11b0 : (t275 == 255) = false := beq_eq_false_iff_ne.mpr c11
            have c11b1 : (t275 != 255) = true := bne_iff_ne.mpr c11
            have H' := Aside0.mk H
            clear H
            go_wp2_with (first | ((with_reducible refine gate_callee (f := 25) rfl ?_); refine goesL_ (some 6) rfl rfl Try.func25 (by kernel_rfl) rfl #[] rfl (by (try simp only [List.map_toArray, List.map_cons, List.map_nil]); first | done | rfl | (simp only [List.length_drop, List.length_take]; rfl)) ?_; (with_reducible refine (fasciclelaw05_lives.calls k  true _ A4.out).mono ?_); rintro e w14 ⟨rfl, hb⟩; refine ⟨_, rfl, ?_⟩; have n0_ := Aside0.mk (below_step (by repeat (first | (with_reducible first | exact HB.out | apply below_alloc | apply pw_below_drewN | apply below_drew1) | exact HB.out)) hb); clear HB; have HB := n0_; clear n0_; (try clear hb); (try clear hb2); (try clear hk); (try clear hi)) | (go_at_call 26; (with_reducible refine (cobs_Most.calls 0 t273 _ A6.out).mono ?_); rintro e w' ⟨rfl, ⟨nd, rfl⟩⟩) | (go_at_call 26; (with_reducible refine (cobs_Most.calls (-5) t274 _ A8.out).mono ?_); rintro e w' ⟨rfl, ⟨nd, rfl⟩⟩) | (go_at_call 26; (with_reducible refine (cobs_Most.calls 254 t275 _ A10.out).mono ?_); rintro e w' ⟨rfl, ⟨nd, rfl⟩⟩))
            go_meet
            case rel => exact ⟨_, (true), (by first | rfl | (simp; done) | (simp [*]; done)), H', ⟨by first | omega | exact Nat.le_refl _⟩, ⟨by repeat (first | (with_reducible first | exact HB.out | apply below_alloc | apply pw_below_drewN | apply below_drew1) | exact HB.out)⟩⟩
        · rw [if_neg c9] at H
          have c9b0 : (t274 == 1) = false := beq_eq_false_iff_ne.mpr c9
          have c9b1 : (t274 != 1) = true := bne_iff_ne.mpr c9
          have H' := Aside0.mk H
          clear H
          go_wp2_with (first | ((with_reducible refine gate_callee (f := 25) rfl ?_); refine goesL_ (some 6) rfl rfl Try.func25 (by kernel_rfl) rfl #[] rfl (by (try simp only [List.map_toArray, List.map_cons, List.map_nil]); first | done | rfl | (simp only [List.length_drop, List.length_take]; rfl)) ?_; (with_reducible refine (fasciclelaw05_lives.calls k  true _ A4.out).mono ?_); rintro e w15 ⟨rfl, hb⟩; refine ⟨_, rfl, ?_⟩; have n0_ := Aside0.mk (below_step (by repeat (first | (with_reducible first | exact HB.out | apply below_alloc | apply pw_below_drewN | apply below_drew1) | exact HB.out)) hb); clear HB; have HB := n0_; clear n0_; (try clear hb); (try clear hb2); (try clear hk); (try clear hi)) | (go_at_call 26; (with_reducible refine (cobs_Most.calls 0 t273 _ A6.out).mono ?_); rintro e w' ⟨rfl, ⟨nd, rfl⟩⟩) | (go_at_call 26; (with_reducible refine (cobs_Most.calls (-5) t274 _ A8.out).mono ?_); rintro e w' ⟨rfl, ⟨nd, rfl⟩⟩))
          go_meet
          case rel => exact ⟨_, (true), (by first | rfl | (simp; done) | (simp [*]; done)), H', ⟨by first | omega | exact Nat.le_refl _⟩, ⟨by repeat (first | (with_reducible first | exact HB.out | apply below_alloc | apply pw_below_drewN | apply below_drew1) | exact HB.out)⟩⟩
      · rw [if_neg c7] at H
        have c7b0 : (t273 == 1) = false := beq_eq_false_iff_ne.mpr c7
        have c7b1 : (t273 != 1) = true := bne_iff_ne.mpr c7
        (first | rw [c7b0] | (simp only [i64_w, i32_w]; rw [c7b0]) | skip)
        have H' := Aside0.mk H
        clear H
        go_wp2_with (first | ((with_reducible refine gate_callee (f := 25) rfl ?_); refine goesL_ (some 6) rfl rfl Try.func25 (by kernel_rfl) rfl #[] rfl (by (try simp only [List.map_toArray, List.map_cons, List.map_nil]); first | done | rfl | (simp only [List.length_drop, List.length_take]; rfl)) ?_; (with_reducible refine (fasciclelaw05_lives.calls k  true _ A4.out).mono ?_); rintro e w16 ⟨rfl, hb⟩; refine ⟨_, rfl, ?_⟩; have n0_ := Aside0.mk (below_step (by repeat (first | (with_reducible first | exact HB.out | apply below_alloc | apply pw_below_drewN | apply below_drew1) | exact HB.out)) hb); clear HB; have HB := n0_; clear n0_; (try clear hb); (try clear hb2); (try clear hk); (try clear hi)) | (go_at_call 26; (with_reducible refine (cobs_Most.calls 0 t273 _ A6.out).mono ?_); rintro e w' ⟨rfl, ⟨nd, rfl⟩⟩))
        go_meet
        case rel => exact ⟨_, (true), (by first | rfl | (simp; done) | (simp [*]; done)), H', ⟨by first | omega | exact Nat.le_refl _⟩, ⟨by repeat (first | (with_reducible first | exact HB.out | apply below_alloc | apply pw_below_drewN | apply below_drew1) | exact HB.out)⟩⟩
    · replace c5 := Bool.eq_false_iff.mpr c5
      subst c5
      have H1 : (fasciclelaw05_CobsMost.j0 k a0 a1 true) = some r := by rw [if_neg (show ¬ (false = true) by decide)] at H; exact H
      clear H
      have H := H1
      clear H1
      have H' := Aside0.mk H
      clear H
      go_wp2_with (first | ((with_reducible refine gate_callee (f := 25) rfl ?_); refine goesL_ (some 6) rfl rfl Try.func25 (by kernel_rfl) rfl #[] rfl (by (try simp only [List.map_toArray, List.map_cons, List.map_nil]); first | done | rfl | (simp only [List.length_drop, List.length_take]; rfl)) ?_; (with_reducible refine (fasciclelaw05_lives.calls k  false _ A4.out).mono ?_); rintro e w17 ⟨rfl, hb⟩; refine ⟨_, rfl, ?_⟩; have n0_ := Aside0.mk (below_step (by repeat (first | (with_reducible first | exact HB.out | apply below_alloc | apply pw_below_drewN | apply below_drew1) | exact HB.out)) hb); clear HB; have HB := n0_; clear n0_; (try clear hb); (try clear hb2); (try clear hk); (try clear hi)))
      go_meet
      case rel => exact ⟨_, (true), (by first | rfl | (simp; done) | (simp [*]; done)), H', ⟨by first | omega | exact Nat.le_refl _⟩, ⟨by repeat (first | (with_reducible first | exact HB.out | apply below_alloc | apply pw_below_drewN | apply below_drew1) | exact HB.out)⟩⟩
  case rest =>
    clear HC3
    try clear c1
    try clear c2
    try clear p2
    try clear c5
    try clear c6
    try clear c7
    try clear c7b0
    try clear c7b1
    try clear c9
    try clear c9b0
    try clear c9b1
    try clear c11
    try clear c11b0
    try clear c11b1
    obtain ⟨kq, x23_2, rfl, HA, HJ2, HB⟩ := hcut
    cases kq with
    | zero => exact absurd HA.out (by simp [fasciclelaw05_CobsMost.j0])
    | succ kj2 =>
      have H := HA.out
      clear HA
      simp only [fasciclelaw05_CobsMost.j0] at H
      by_cases c18 : x23_2 = true
      · subst c18
        have H1 : (some false) = some r := by rw [if_pos rfl] at H; exact H
        clear H
        have H := H1
        clear H1
        obtain rfl := Option.some.inj H
        go_wp2
        go_ret
        exact ⟨by first | rfl | (simp [errW_none, errW_some] <;> rfl) | (simp [*, errW_none, errW_some] <;> rfl), by repeat (first | (with_reducible first | exact HB.out | apply below_alloc | apply pw_below_drewN | apply below_drew1) | exact HB.out)⟩
      · replace c18 := Bool.eq_false_iff.mpr c18
        subst c18
        have H1 : ((fasciclelaw05_long.f kj2 ([] : List Int) a0).bind fun t277 => ((cobs_Stuff.f kj2 t277).bind fun t280 => ((cobs_Most.f (t277.length : Int)).bind fun t283 => (if (t280.length : Int) = t283 then (if (t277.length : Int) = 0 then (some true) else (if 0 ≤ (Int.tmod (wrap64 (a1)) (t277.length : Int)) then (if (Int.tmod (wrap64 (a1)) (t277.length : Int)) < (t277.length : Int) then ((cobs_Stuff.f kj2 (t277.set ((Int.tmod (wrap64 (a1)) (t277.length : Int)) : Int).toNat 0)).bind fun t285 => ((cobs_Most.f (t277.length : Int)).bind fun t288 => (some (decide ((t285.length : Int) ≤ t288))))) else (none)) else (none))) else (some false))))) = some r := by rw [if_neg (show ¬ (false = true) by decide)] at H; exact H
        clear H
        have H := H1
        clear H1
        replace H := Option.bind_eq_some_iff.mp H
        obtain ⟨t277, A190, H⟩ := H
        replace H : ((cobs_Stuff.f kj2 t277).bind fun t280 => ((cobs_Most.f (t277.length : Int)).bind fun t283 => (if (t280.length : Int) = t283 then (if (t277.length : Int) = 0 then (some true) else (if 0 ≤ (Int.tmod (wrap64 (a1)) (t277.length : Int)) then (if (Int.tmod (wrap64 (a1)) (t277.length : Int)) < (t277.length : Int) then ((cobs_Stuff.f kj2 (t277.set ((Int.tmod (wrap64 (a1)) (t277.length : Int)) : Int).toNat 0)).bind fun t285 => ((cobs_Most.f (t277.length : Int)).bind fun t288 => (some (decide ((t285.length : Int) ≤ t288))))) else (none)) else (none))) else (some false)))) = some r := H
        have A19 := Aside0.mk A190
        clear A190
        replace H := Option.bind_eq_some_iff.mp H
        obtain ⟨t280, A200, H⟩ := H
        replace H : ((cobs_Most.f (t277.length : Int)).bind fun t283 => (if (t280.length : Int) = t283 then (if (t277.length : Int) = 0 then (some true) else (if 0 ≤ (Int.tmod (wrap64 (a1)) (t277.length : Int)) then (if (Int.tmod (wrap64 (a1)) (t277.length : Int)) < (t277.length : Int) then ((cobs_Stuff.f kj2 (t277.set ((Int.tmod (wrap64 (a1)) (t277.length : Int)) : Int).toNat 0)).bind fun t285 => ((cobs_Most.f (t277.length : Int)).bind fun t288 => (some (decide ((t285.length : Int) ≤ t288))))) else (none)) else (none))) else (some false))) = some r := H
        have A20 := Aside0.mk A200
        clear A200
        replace H := Option.bind_eq_some_iff.mp H
        obtain ⟨t283, A210, H⟩ := H
        replace H : (if (t280.length : Int) = t283 then (if (t277.length : Int) = 0 then (some true) else (if 0 ≤ (Int.tmod (wrap64 (a1)) (t277.length : Int)) then (if (Int.tmod (wrap64 (a1)) (t277.length : Int)) < (t277.length : Int) then ((cobs_Stuff.f kj2 (t277.set ((Int.tmod (wrap64 (a1)) (t277.length : Int)) : Int).toNat 0)).bind fun t285 => ((cobs_Most.f (t277.length : Int)).bind fun t288 => (some (decide ((t285.length : Int) ≤ t288))))) else (none)) else (none))) else (some false)) = some r := H
        have A21 := Aside0.mk A210
        clear A210
        by_cases c22 : (t280.length : Int) = t283
        · rw [if_pos c22] at H
          have c22b0 : ((t280.length : Int) == t283) = true := beq_iff_eq.mpr c22
          have c22b1 : ((t280.length : Int) != t283) = false := bne_eq_false_iff_eq.mpr c22
          clear c22
          by_cases c23 : (t277.length : Int) = 0
          · rw [if_pos c23] at H
            have c23b0 : ((t277.length : Int) == 0) = true := beq_iff_eq.mpr c23
            have c23b1 : ((t277.length : Int) != 0) = false := bne_eq_false_iff_eq.mpr c23
            clear c23
            obtain rfl := Option.some.inj H
            go_wp2_with (first | ((with_reducible refine gate_callee (f := 27) rfl ?_); refine goesL_ (some 25) rfl rfl Try.func27 (by kernel_rfl) rfl #[.slice none 0 0, .int .u16 a0] rfl (by (try simp only [List.map_toArray, List.map_cons, List.map_nil]); first | done | rfl | (simp only [List.length_drop, List.length_take]; rfl)) ?_; (refine (fasciclelaw05_long.calls kj2 _ _ ([] : List Int) a0 t277 _ ?side1 ?side2 A19.out).mono ?_); (case side1 => exact Kd.C_nil _ _); (case side2 => exact Nat.le_refl _); rintro e w24 ⟨v278, rfl, ho0, hb⟩; refine ⟨_, rfl, ?_⟩; have n0_ := Aside0.mk (Kd.R_lower ho0 (below_size (by repeat (first | (with_reducible first | exact HB.out | apply below_alloc | apply pw_below_drewN | apply below_drew1) | exact HB.out)))); have n1_ := Aside0.mk (below_step (by repeat (first | (with_reducible first | exact HB.out | apply below_alloc | apply pw_below_drewN | apply below_drew1) | exact HB.out)) hb); clear HB; have HO279 := n0_; have HB := n1_; clear n0_ n1_; (try clear hb); (try clear hb2); (try clear hk); (try clear hi); (try clear ho0); obtain ⟨Ao25, co25, eo25⟩ := Kd.R_slice HO279.out; subst eo25) | ((with_reducible refine gate_callee (f := 28) rfl ?_); refine goesL_ (some 27) rfl rfl Try.func28 (by kernel_rfl) rfl #[.slice Ao25 t277.length co25] rfl (by (try simp only [List.map_toArray, List.map_cons, List.map_nil]); first | done | rfl | (simp only [List.length_drop, List.length_take]; rfl)) ?_; (with_reducible refine (cobs_Stuff.calls kj2 (fun k_ => some k_ = (.slice Ao25 t277.length co25 : Value).ownBlock) _ _ t277 t280 _ ?side1 A20.out).mono ?_); (case side1 => exact Kd.R_V (Kd.R_tight rfl (HO279.out))); rintro e w26 ⟨v281, rfl, ho0, hb⟩; refine ⟨_, rfl, ?_⟩; have n0_ := Aside0.mk (Kd.R_elder' (by (with_reducible repeat (first | apply Kd.R_alloc | apply Kd.R_drewN | apply Kd.R_drew)); exact HO279.out) (Kd.R_base ho0) hb); have n1_ := Aside0.mk (Kd.R_lower (Kd.R_new' (Kd.R_mono (ok' := fun k_ => True) ho0 (fun _ hk_ => trivial)) (Kd.R_lt (by (with_reducible repeat (first | apply Kd.R_alloc | apply Kd.R_drewN | apply Kd.R_drew)); exact HO279.out))) (below_size (by repeat (first | (with_reducible first | exact HB.out | apply below_alloc | apply pw_below_drewN | apply below_drew1) | exact HB.out)))); have n2_ := Aside0.mk (below_step (by repeat (first | (with_reducible first | exact HB.out | apply below_alloc | apply pw_below_drewN | apply below_drew1) | exact HB.out)) hb); clear HO279; clear HB; have HO279 := n0_; have HO282 := n1_; have HB := n2_; clear n0_ n1_ n2_; (try clear hb); (try clear hb2); (try clear hk); (try clear hi); (try clear ho0); obtain ⟨Ao27, co27, eo27⟩ := Kd.R_slice HO282.out; subst eo27) | ((with_reducible refine gate_callee (f := 26) rfl ?_); refine goesL_ (some 31) rfl rfl Try.func26 (by kernel_rfl) rfl #[.int .i64 (t277.length : Int)] rfl (by (try simp only [List.map_toArray, List.map_cons, List.map_nil]); first | done | rfl | (simp only [List.length_drop, List.length_take]; rfl)) ?_; (with_reducible refine (cobs_Most.calls (t277.length : Int) t283 _ A21.out).mono ?_); rintro e w' ⟨rfl, ⟨nd, rfl⟩⟩; refine ⟨_, rfl, ?_⟩))
            go_ret
            exact ⟨by first | rfl | (simp [errW_none, errW_some] <;> rfl) | (simp [*, errW_none, errW_some] <;> rfl), by repeat (first | (with_reducible first | exact HB.out | apply below_alloc | apply pw_below_drewN | apply below_drew1) | exact HB.out)⟩
          · rw [if_neg c23] at H
            have c23b0 : ((t277.length : Int) == 0) = false := beq_eq_false_iff_ne.mpr c23
            have c23b1 : ((t277.length : Int) != 0) = true := bne_iff_ne.mpr c23
            have c23b2 : ¬ (t277 = []) := fun h_ => c23 (by rw [h_]; rfl)
            obtain ⟨ji28, hji28⟩ : ∃ j_ : Int, (Int.tmod (wrap64 (a1)) (t277.length : Int)) = j_ := ⟨_, rfl⟩
            replace H : (if 0 ≤ (ji28) then (if (ji28) < (t277.length : Int) then ((cobs_Stuff.f kj2 (t277.set ((ji28) : Int).toNat 0)).bind fun t285 => ((cobs_Most.f (t277.length : Int)).bind fun t288 => (some (decide ((t285.length : Int) ≤ t288))))) else (none)) else (none)) = some r := by first | (rw [hji28] at H; exact H) | (simp only [hji28] at H ⊢; exact H)
            (try rw [hji28] at A19)
            (try rw [hji28] at A20)
            (try rw [hji28] at A21)
            by_cases c29 : 0 ≤ (ji28)
            · rw [if_pos c29] at H
              have c29b0 : decide (0 ≤ (ji28)) = true := decide_eq_true c29
              clear c29
              by_cases c30 : (ji28) < (t277.length : Int)
              · rw [if_pos c30] at H
                have c30b0 : decide ((ji28) < (t277.length : Int)) = true := decide_eq_true c30
                clear c30
                obtain ⟨y284, hy284⟩ : ∃ y_ : List Int, y_ = (t277.set ((ji28) : Int).toNat 0) := ⟨_, rfl⟩
                replace H : ((cobs_Stuff.f kj2 y284).bind fun t285 => ((cobs_Most.f (t277.length : Int)).bind fun t288 => (some (decide ((t285.length : Int) ≤ t288))))) = some r := by first | (rw [hy284]; with_reducible exact H) | (have H2_ := (Option.bind_some _ _).symm.trans H; rw [hy284]; with_reducible exact H2_) | (have H2_ := (Option.bind_some _ _).symm.trans H; with_reducible exact H2_) | with_reducible exact H | (rw [hy284]; exact H) | exact H
                have Ny284 := Aside0.mk hy284
                clear hy284
                replace H := Option.bind_eq_some_iff.mp H
                obtain ⟨t285, A320, H⟩ := H
                replace H : ((cobs_Most.f (t277.length : Int)).bind fun t288 => (some (decide ((t285.length : Int) ≤ t288)))) = some r := H
                have A32 := Aside0.mk A320
                clear A320
                replace H := Option.bind_eq_some_iff.mp H
                obtain ⟨t288, A330, H⟩ := H
                replace H : (some (decide ((t285.length : Int) ≤ t288))) = some r := H
                have A33 := Aside0.mk A330
                clear A330
                obtain rfl := Option.some.inj H
                go_wp2_with (first | ((with_reducible refine gate_callee (f := 27) rfl ?_); refine goesL_ (some 25) rfl rfl Try.func27 (by kernel_rfl) rfl #[.slice none 0 0, .int .u16 a0] rfl (by (try simp only [List.map_toArray, List.map_cons, List.map_nil]); first | done | rfl | (simp only [List.length_drop, List.length_take]; rfl)) ?_; (refine (fasciclelaw05_long.calls kj2 _ _ ([] : List Int) a0 t277 _ ?side1 ?side2 A19.out).mono ?_); (case side1 => exact Kd.C_nil _ _); (case side2 => exact Nat.le_refl _); rintro e w34 ⟨v278, rfl, ho0, hb⟩; refine ⟨_, rfl, ?_⟩; have n0_ := Aside0.mk (Kd.R_lower ho0 (below_size (by repeat (first | (with_reducible first | exact HB.out | apply below_alloc | apply pw_below_drewN | apply below_drew1) | exact HB.out)))); have n1_ := Aside0.mk (below_step (by repeat (first | (with_reducible first | exact HB.out | apply below_alloc | apply pw_below_drewN | apply below_drew1) | exact HB.out)) hb); clear HB; have HO279 := n0_; have HB := n1_; clear n0_ n1_; (try clear hb); (try clear hb2); (try clear hk); (try clear hi); (try clear ho0); obtain ⟨Ao35, co35, eo35⟩ := Kd.R_slice HO279.out; subst eo35) | ((with_reducible refine gate_callee (f := 28) rfl ?_); refine goesL_ (some 27) rfl rfl Try.func28 (by kernel_rfl) rfl #[.slice Ao35 t277.length co35] rfl (by (try simp only [List.map_toArray, List.map_cons, List.map_nil]); first | done | rfl | (simp only [List.length_drop, List.length_take]; rfl)) ?_; (with_reducible refine (cobs_Stuff.calls kj2 (fun k_ => some k_ = (.slice Ao35 t277.length co35 : Value).ownBlock) _ _ t277 t280 _ ?side1 A20.out).mono ?_); (case side1 => exact Kd.R_V (Kd.R_tight rfl (HO279.out))); rintro e w36 ⟨v281, rfl, ho0, hb⟩; refine ⟨_, rfl, ?_⟩; have n0_ := Aside0.mk (Kd.R_elder' (by (with_reducible repeat (first | apply Kd.R_alloc | apply Kd.R_drewN | apply Kd.R_drew)); exact HO279.out) (Kd.R_base ho0) hb); have n1_ := Aside0.mk (Kd.R_lower (Kd.R_new' (Kd.R_mono (ok' := fun k_ => True) ho0 (fun _ hk_ => trivial)) (Kd.R_lt (by (with_reducible repeat (first | apply Kd.R_alloc | apply Kd.R_drewN | apply Kd.R_drew)); exact HO279.out))) (below_size (by repeat (first | (with_reducible first | exact HB.out | apply below_alloc | apply pw_below_drewN | apply below_drew1) | exact HB.out)))); have n2_ := Aside0.mk (below_step (by repeat (first | (with_reducible first | exact HB.out | apply below_alloc | apply pw_below_drewN | apply below_drew1) | exact HB.out)) hb); clear HO279; clear HB; have HO279 := n0_; have HO282 := n1_; have HB := n2_; clear n0_ n1_ n2_; (try clear hb); (try clear hb2); (try clear hk); (try clear hi); (try clear ho0); obtain ⟨Ao37, co37, eo37⟩ := Kd.R_slice HO282.out; subst eo37) | ((with_reducible refine gate_callee (f := 26) rfl ?_); refine goesL_ (some 31) rfl rfl Try.func26 (by kernel_rfl) rfl #[.int .i64 (t277.length : Int)] rfl (by (try simp only [List.map_toArray, List.map_cons, List.map_nil]); first | done | rfl | (simp only [List.length_drop, List.length_take]; rfl)) ?_; (with_reducible refine (cobs_Most.calls (t277.length : Int) t283 _ A21.out).mono ?_); rintro e w' ⟨rfl, ⟨nd, rfl⟩⟩; refine ⟨_, rfl, ?_⟩; (try (rw [drewN_self w36]; generalize hq_ : World.drewN w36 _ = w36; have n0_ : Aside0 (Kd.R (Kd.int .u8) 5 w36 w.heap.size (fun k_ => True ∧ some k_ ≠ (.slice Ao37 t280.length co37 : Value).ownBlock) (.slice Ao35 t277.length co35) t277) := ⟨by rw [← hq_]; exact (by (with_reducible repeat (first | apply Kd.R_alloc | apply Kd.R_drewN | apply Kd.R_drew)); exact Kd.R_mono HO279.out (fun _ hk => hk))⟩; have n1_ : Aside0 (Kd.R (Kd.int .u8) 5 w36 w.heap.size (fun k_ => True ∧ some k_ ≠ (.slice Ao35 t277.length co35 : Value).ownBlock) (.slice Ao37 t280.length co37) t280) := ⟨by rw [← hq_]; exact (by (with_reducible repeat (first | apply Kd.R_alloc | apply Kd.R_drewN | apply Kd.R_drew)); exact Kd.R_mono HO282.out (fun _ hk => hk))⟩; have n2_ : Aside0 (Below w.heap.size w w36) := ⟨by rw [← hq_]; exact (by repeat (first | (with_reducible first | exact HB.out | apply below_alloc | apply pw_below_drewN | apply below_drew1) | exact HB.out))⟩; clear HO279 HO282 HB hq_; have HO279 := n0_; have HO282 := n1_; have HB := n2_; clear n0_ n1_ n2_)); have p31 : 0 ≤ ((ji28) : Int) := of_decide_eq_true (by first | (with_reducible assumption) | assumption); have q31 : ((ji28) : Int) < ((t277.length : Int) : Int) := of_decide_eq_true (by first | (with_reducible assumption) | assumption); obtain ⟨go31, co31, eo31, gb31, gl31, cl31, HG31⟩ := Kd.R_form HO279.out (by omega); (first | cases eo31 | (injection eo31 with ea_ en_ ec_; (first | subst ea_ | (injection ea_ with ea_; subst ea_)); subst ec_; clear en_)); have GB31 := Aside0.mk gb31; have GG31 := Aside0.mk HG31; clear gb31 gl31 HG31; obtain ⟨hx31_0, hf31_0⟩ := Kd.R_celln 0 HO279.out ((ji28) : Int) p31 q31; replace p31 := eq_true p31; replace q31 := eq_true q31; have n_ := Aside0.mk (Kd.R_mono (ok' := (fun k_ => some k_ ≠ (.slice Ao37 t280.length co37 : Value).ownBlock)) HO279.out (fun k_ hk => by first | exact hk.2 | exact hk)); clear HO279; have HO279 := n_; clear n_; obtain ⟨hy38_, hz38_⟩ := Kd.R_celln 0 HO279.out ((ji28) : Int) (of_decide_eq_true (by first | (with_reducible assumption) | assumption)) (of_decide_eq_true (by first | (with_reducible assumption) | assumption)); have HP38 := Kd.R_putg HO279.out ((ji28) : Int) 0) | ((with_reducible refine gate_store (t := 5) (p := 42) rfl ?_); refine store_event (t := 5) (p := 42) (v := ?vo_w39) (w1 := (w36.setCell ⟨go31, ((ji28) : Int).toNat, none⟩ (.int .u8 0))) ?hg ?ho ?hn ?hr ?_; (case ho => rfl); (case hg => rfl); (case hn => rfl); (case hr => first | (go_simp; done) | (go_simp; rfl)); intro w39 hw; have hg : w36.grownBy w39 (some go31) := (by rw [hw]; exact HP38.2); have hp_ : Kd.R (Kd.int .u8) 5 w39 w.heap.size (fun k_ => some k_ ≠ (.slice Ao37 t280.length co37 : Value).ownBlock) (.slice (some ⟨go31, 0, none⟩) t277.length co35) y284 := (by rw [hw, Ny284.out]; exact HP38.1); clear HP38; have n0_ := Aside0.mk (hp_); have n1_ := Aside0.mk (Kd.R_after (v := (.slice (some ⟨go31, 0, none⟩) t277.length co35)) (v1 := (.slice (some ⟨go31, 0, none⟩) t277.length co35)) (ok := (fun _ => True)) (by (with_reducible repeat (first | apply Kd.R_alloc | apply Kd.R_drewN | apply Kd.R_drew)); exact HO282.out) hg (.inl rfl)); have n2_ := Aside0.mk ((by rw [hw]; exact below_set (HB.out) GB31.out : Below w.heap.size w w39)); clear HO279; clear HO282; clear HB; have HO279 := n0_; have HO282 := n1_; have HB := n2_; clear n0_ n1_ n2_; clear hg hw hp_) | ((with_reducible refine gate_callee (f := 28) rfl ?_); refine goesL_ (some 44) rfl rfl Try.func28 (by kernel_rfl) rfl #[.slice (some ⟨go31, 0, none⟩) y284.length co35] rfl (by (try simp only [List.map_toArray, List.map_cons, List.map_nil]); first | done | (rw [show y284.length = t277.length from (Kd.R_reads' HO279.out).1.symm] <;> rfl) | rfl | (simp only [List.length_drop, List.length_take]; rfl)) ?_; (with_reducible refine (cobs_Stuff.calls kj2 (fun k_ => some k_ = (.slice (some ⟨go31, 0, none⟩) t277.length co35 : Value).ownBlock) _ _ y284 t285 _ ?side1 A32.out).mono ?_); (case side1 => rw [show y284.length = t277.length from (Kd.R_reads' HO279.out).1.symm]; exact Kd.R_V (Kd.R_tight rfl (HO279.out))); rintro e w40 ⟨v286, rfl, ho0, hb⟩; refine ⟨_, rfl, ?_⟩; have n0_ := Aside0.mk (Kd.R_elder' (by (with_reducible repeat (first | apply Kd.R_alloc | apply Kd.R_drewN | apply Kd.R_drew)); exact HO279.out) (Kd.R_base ho0) hb); have n1_ := Aside0.mk (Kd.R_elder' (by (with_reducible repeat (first | apply Kd.R_alloc | apply Kd.R_drewN | apply Kd.R_drew)); exact HO282.out) (Kd.R_base ho0) hb); have n2_ := Aside0.mk (Kd.R_lower (Kd.R_new' (Kd.R_new' (Kd.R_mono (ok' := fun k_ => True) ho0 (fun _ hk_ => trivial)) (Kd.R_lt (by (with_reducible repeat (first | apply Kd.R_alloc | apply Kd.R_drewN | apply Kd.R_drew)); exact HO279.out))) (Kd.R_lt (by (with_reducible repeat (first | apply Kd.R_alloc | apply Kd.R_drewN | apply Kd.R_drew)); exact HO282.out))) (below_size (by repeat (first | (with_reducible first | exact HB.out | apply below_alloc | apply pw_below_drewN | apply below_drew1) | exact HB.out)))); have n3_ := Aside0.mk (below_step (by repeat (first | (with_reducible first | exact HB.out | apply below_alloc | apply pw_below_drewN | apply below_drew1) | exact HB.out)) hb); clear HO279; clear HO282; clear HB; have HO279 := n0_; have HO282 := n1_; have HO287 := n2_; have HB := n3_; clear n0_ n1_ n2_ n3_; (try clear hb); (try clear hb2); (try clear hk); (try clear hi); (try clear ho0); obtain ⟨Ao41, co41, eo41⟩ := Kd.R_slice HO287.out; subst eo41) | ((with_reducible refine gate_callee (f := 26) rfl ?_); refine goesL_ (some 48) rfl rfl Try.func26 (by kernel_rfl) rfl #[.int .i64 (t277.length : Int)] rfl (by (try simp only [List.map_toArray, List.map_cons, List.map_nil]); first | done | rfl | (simp only [List.length_drop, List.length_take]; rfl)) ?_; (with_reducible refine (cobs_Most.calls (t277.length : Int) t288 _ A33.out).mono ?_); rintro e w' ⟨rfl, ⟨nd, rfl⟩⟩; refine ⟨_, rfl, ?_⟩))
                go_ret
                exact ⟨by first | rfl | (simp [errW_none, errW_some] <;> rfl) | (simp only [← hji28]; first | rfl | (simp [errW_none, errW_some] <;> rfl)) | (simp [*, errW_none, errW_some] <;> rfl), by repeat (first | (with_reducible first | exact HB.out | apply below_alloc | apply pw_below_drewN | apply below_drew1) | exact HB.out)⟩
              · rw [if_neg c30] at H
                exact absurd H (by simp)
            · rw [if_neg c29] at H
              exact absurd H (by simp)
        · rw [if_neg c22] at H
          have c22b0 : ((t280.length : Int) == t283) = false := beq_eq_false_iff_ne.mpr c22
          have c22b1 : ((t280.length : Int) != t283) = true := bne_iff_ne.mpr c22
          obtain rfl := Option.some.inj H
          go_wp2_with (first | ((with_reducible refine gate_callee (f := 27) rfl ?_); refine goesL_ (some 25) rfl rfl Try.func27 (by kernel_rfl) rfl #[.slice none 0 0, .int .u16 a0] rfl (by (try simp only [List.map_toArray, List.map_cons, List.map_nil]); first | done | rfl | (simp only [List.length_drop, List.length_take]; rfl)) ?_; (refine (fasciclelaw05_long.calls kj2 _ _ ([] : List Int) a0 t277 _ ?side1 ?side2 A19.out).mono ?_); (case side1 => exact Kd.C_nil _ _); (case side2 => exact Nat.le_refl _); rintro e w42 ⟨v278, rfl, ho0, hb⟩; refine ⟨_, rfl, ?_⟩; have n0_ := Aside0.mk (Kd.R_lower ho0 (below_size (by repeat (first | (with_reducible first | exact HB.out | apply below_alloc | apply pw_below_drewN | apply below_drew1) | exact HB.out)))); have n1_ := Aside0.mk (below_step (by repeat (first | (with_reducible first | exact HB.out | apply below_alloc | apply pw_below_drewN | apply below_drew1) | exact HB.out)) hb); clear HB; have HO279 := n0_; have HB := n1_; clear n0_ n1_; (try clear hb); (try clear hb2); (try clear hk); (try clear hi); (try clear ho0); obtain ⟨Ao43, co43, eo43⟩ := Kd.R_slice HO279.out; subst eo43) | ((with_reducible refine gate_callee (f := 28) rfl ?_); refine goesL_ (some 27) rfl rfl Try.func28 (by kernel_rfl) rfl #[.slice Ao43 t277.length co43] rfl (by (try simp only [List.map_toArray, List.map_cons, List.map_nil]); first | done | rfl | (simp only [List.length_drop, List.length_take]; rfl)) ?_; (with_reducible refine (cobs_Stuff.calls kj2 (fun k_ => some k_ = (.slice Ao43 t277.length co43 : Value).ownBlock) _ _ t277 t280 _ ?side1 A20.out).mono ?_); (case side1 => exact Kd.R_V (Kd.R_tight rfl (HO279.out))); rintro e w44 ⟨v281, rfl, ho0, hb⟩; refine ⟨_, rfl, ?_⟩; have n0_ := Aside0.mk (Kd.R_elder' (by (with_reducible repeat (first | apply Kd.R_alloc | apply Kd.R_drewN | apply Kd.R_drew)); exact HO279.out) (Kd.R_base ho0) hb); have n1_ := Aside0.mk (Kd.R_lower (Kd.R_new' (Kd.R_mono (ok' := fun k_ => True) ho0 (fun _ hk_ => trivial)) (Kd.R_lt (by (with_reducible repeat (first | apply Kd.R_alloc | apply Kd.R_drewN | apply Kd.R_drew)); exact HO279.out))) (below_size (by repeat (first | (with_reducible first | exact HB.out | apply below_alloc | apply pw_below_drewN | apply below_drew1) | exact HB.out)))); have n2_ := Aside0.mk (below_step (by repeat (first | (with_reducible first | exact HB.out | apply below_alloc | apply pw_below_drewN | apply below_drew1) | exact HB.out)) hb); clear HO279; clear HB; have HO279 := n0_; have HO282 := n1_; have HB := n2_; clear n0_ n1_ n2_; (try clear hb); (try clear hb2); (try clear hk); (try clear hi); (try clear ho0); obtain ⟨Ao45, co45, eo45⟩ := Kd.R_slice HO282.out; subst eo45) | ((with_reducible refine gate_callee (f := 26) rfl ?_); refine goesL_ (some 31) rfl rfl Try.func26 (by kernel_rfl) rfl #[.int .i64 (t277.length : Int)] rfl (by (try simp only [List.map_toArray, List.map_cons, List.map_nil]); first | done | rfl | (simp only [List.length_drop, List.length_take]; rfl)) ?_; (with_reducible refine (cobs_Most.calls (t277.length : Int) t283 _ A21.out).mono ?_); rintro e w' ⟨rfl, ⟨nd, rfl⟩⟩; refine ⟨_, rfl, ?_⟩))
          go_ret
          exact ⟨by first | rfl | (simp [errW_none, errW_some] <;> rfl) | (simp [*, errW_none, errW_some] <;> rfl), by repeat (first | (with_reducible first | exact HB.out | apply below_alloc | apply pw_below_drewN | apply below_drew1) | exact HB.out)⟩
/-- THE ONE PURE STATEMENT of fasciclelaw05_CobsMost. -/
def fasciclelaw05_CobsMost.Pure : Prop := ∀ (a0 : Int) (a1 : Int), (Lit.int .u16 a0).wf = true → (Lit.int .u16 a1).wf = true → ∃ k, fasciclelaw05_CobsMost.f k a0 a1 = some true

/-! ### bytes_Equal: function 47 -/
def bytes_Equal.f (l0 : List Int) (l1 : List Int) : Option (Bool) := some ((strOfNums l0).toList == (strOfNums l1).toList)
set_option maxHeartbeats 8000000 in
set_option maxRecDepth 100000 in
theorem bytes_Equal.calls (A0 : Option Addr) (c0 : Nat) (l0 : List Int) (A1 : Option Addr) (c1 : Nat) (l1 : List Int) (r : Bool) (w : World) (hr0 : Kd.C (Kd.int .u8) w A0 l0.length l0) (hc0 : l0.length ≤ c0) (hr1 : Kd.C (Kd.int .u8) w A1 l1.length l1) (hc1 : l1.length ≤ c1) (h : bytes_Equal.f l0 l1 = some r) :
    Calls Try.prog 47 #[.slice A0 l0.length c0, .slice A1 l1.length c1] w fun e w' => e = .returned (.bool r) ∧ Drawn0 w w' := by
  have HR0 := Aside0.mk hr0
  have HC0 := Aside0.mk hc0
  clear hr0 hc0
  have HR1 := Aside0.mk hr1
  have HC1 := Aside0.mk hc1
  clear hr1 hc1
  have H : (some ((strOfNums l0).toList == (strOfNums l1).toList)) = some r := h
  clear h
  obtain rfl := Option.some.inj H
  have hcv3 := Kd.C_string (P := Try.prog) (A := A0) (c := c0) Try.underlying22 Try.underlying5 Try.underlying9 HR0.out
  have hcv4 := Kd.C_string (P := Try.prog) (A := A1) (c := c1) Try.underlying22 Try.underlying5 Try.underlying9 HR1.out
  go_enter Try.func47, Try.ntmps47
  go_wp2
  go_ret
  exact ⟨by first | rfl | (simp; done) | (simp [*]; done), by repeat (first | exact Drawn0.refl _ | apply Drawn0.step)⟩

/-! ### cobs_Unstuff: function 31 -/
def cobs_Unstuff.l0 : Nat → List Int → List Int → List Int → Option (List Int × Int)
  | 0, _, _, _ => none
  | k + 1, x0, x4, x5 => if (x5.length : Int) > 0 then (if 0 < (x5.length : Int) then (if (wrap64 (rd x5 0)) > (x5.length : Int) then (some (([] : List Int), 2)) else (if 1 ≤ (wrap64 (rd x5 0)) then (if (wrap64 (rd x5 0)) ≤ (x5.length : Int) then ((some ((x5.take ((wrap64 (rd x5 0)) : Int).toNat).drop 1 : List Int)).bind fun y291 => (if x4.length + y291.length < 140737488355328 then ((some (x4 ++ y291 : List Int)).bind fun y296 => (if 0 ≤ (wrap64 (rd x5 0)) then ((some (x5.drop ((wrap64 (rd x5 0)) : Int).toNat : List Int)).bind fun y299 => (if (wrap64 (rd x5 0)) ≤ 254 then (if (y299.length : Int) > 0 then (if y296.length < 140737488355328 then (cobs_Unstuff.l0 k x0 (y296 ++ [0]) y299) else (none)) else (cobs_Unstuff.l0 k x0 y296 y299)) else (cobs_Unstuff.l0 k x0 y296 y299))) else (none))) else (none))) else (none)) else (none))) else (none)) else ((cobs_Stuff.f k x4).bind fun t307 => ((bytes_Equal.f t307 x0).bind fun t310 => (if t310 = true then (some (x4, 0)) else (some (([] : List Int), 4)))))
def cobs_Unstuff.f (k : Nat) (l0 : List Int) : Option (List Int × Int) := (bytes_IndexByte.f l0 0).bind fun t289 => (if t289 ≥ 0 then (some (([] : List Int), 4)) else (if (l0.length : Int) = 0 then (some (([] : List Int), 2)) else (cobs_Unstuff.l0 k l0 ([] : List Int) l0)))
theorem cobs_Unstuff.mono_l : ∀ k, (∀ y0 y1 y2, LeO (cobs_Unstuff.l0 k y0 y1 y2) (cobs_Unstuff.l0 (k + 1) y0 y1 y2))
  | 0 => fun _ _ _ r h => by simp [cobs_Unstuff.l0] at h
  | k + 1 => by
    have ih0 := cobs_Unstuff.mono_l k
    · intro y0 y1 y2
      unfold cobs_Unstuff.l0
      repeat' first
      | (with_reducible exact ih0 _ _ _)
      | (with_reducible exact cobs_Stuff.mono _ _)
      | (with_reducible exact LeO.refl _)
      | (with_reducible exact LeO.none _)
      | (with_reducible refine LeO.ite ?_ ?_)
      | (with_reducible refine LeO.bind ?_ (fun _ => ?_))
      | exact ih0 _ _ _
      | exact cobs_Stuff.mono _ _
      | exact LeO.none _
      | refine LeO.ite ?_ ?_
      | refine LeO.bind ?_ (fun _ => ?_)
theorem cobs_Unstuff.mono : ∀ a0 k, LeO (cobs_Unstuff.f k a0) (cobs_Unstuff.f (k + 1) a0) := by
  intro a0 k
  have ih0 := cobs_Unstuff.mono_l k
  unfold cobs_Unstuff.f
  repeat' first
      | (with_reducible exact ih0 _ _ _)
      | (with_reducible exact cobs_Stuff.mono _ _)
      | (with_reducible exact LeO.refl _)
      | (with_reducible exact LeO.none _)
      | (with_reducible refine LeO.ite ?_ ?_)
      | (with_reducible refine LeO.bind ?_ (fun _ => ?_))
      | exact ih0 _ _ _
      | exact cobs_Stuff.mono _ _
      | exact LeO.none _
      | refine LeO.ite ?_ ?_
      | refine LeO.bind ?_ (fun _ => ?_)
set_option maxHeartbeats 8000000 in
set_option maxRecDepth 100000 in
theorem cobs_Unstuff.calls (k : Nat) (P0_ : Nat → Prop) (A0 : Option Addr) (c0 : Nat) (l0 : List Int) (r1 : List Int) (r2 : Int) (w : World) (hs0 : Kd.V (Kd.int .u8) 5 w w.heap.size (fun k_ => P0_ k_) (.slice A0 l0.length c0) l0) (h : cobs_Unstuff.f k l0 = some (r1, r2)) :
    Calls Try.prog 31 #[.slice A0 l0.length c0] w fun e w' => ∃ v0_ : Value, e = .returned (.tuple #[v0_, .int .i64 r2]) ∧ Kd.R (Kd.int .u8) 5 w' w.heap.size (fun k_ => (w.heap.size ≤ k_)) v0_ r1 ∧ Below w.heap.size w w' := by
  have HO0 := Aside0.mk (show Kd.V (Kd.int .u8) 5 w w.heap.size (fun k_ => (P0_ k_ ∨ w.heap.size ≤ k_)) (.slice A0 l0.length c0) l0 from Kd.V_mono hs0 (fun k_ hk => .inl hk))
  have HB := Aside0.mk (Below.refl w.heap.size w)
  have H : ((bytes_IndexByte.f l0 0).bind fun t289 => (if t289 ≥ 0 then (some (([] : List Int), 4)) else (if (l0.length : Int) = 0 then (some (([] : List Int), 2)) else (cobs_Unstuff.l0 k l0 ([] : List Int) l0)))) = some (r1, r2) := h
  clear h
  replace H := Option.bind_eq_some_iff.mp H
  obtain ⟨t289, A20, H⟩ := H
  replace H : (if t289 ≥ 0 then (some (([] : List Int), 4)) else (if (l0.length : Int) = 0 then (some (([] : List Int), 2)) else (cobs_Unstuff.l0 k l0 ([] : List Int) l0))) = some (r1, r2) := H
  have A2 := Aside0.mk A20
  clear A20
  by_cases c3 : t289 ≥ 0
  · rw [if_pos c3] at H
    have c3b0 : decide (0 ≤ t289) = true := decide_eq_true c3
    clear c3
    simp only [Option.some.injEq, Prod.mk.injEq] at H
    obtain ⟨rfl, rfl⟩ := H
    go_enter Try.func31, Try.ntmps31
    go_wp2_with (first | ((with_reducible refine gate_callee (f := 46) rfl ?_); refine goesL_ (some 8) rfl rfl Try.func46 (by kernel_rfl) rfl #[.slice A0 l0.length c0, .int .u8 0] rfl (by (try simp only [List.map_toArray, List.map_cons, List.map_nil]); first | done | rfl | (simp only [List.length_drop, List.length_take]; rfl)) ?_; (with_reducible refine (bytes_IndexByte.calls _ _ l0 0 t289 _ ?side1 ?side2 A2.out).mono ?_); (case side1 => repeat (first | exact (Kd.V_reads' HO0.out).2.2 | (with_reducible refine Kd.C_alloc ?_ _) | (with_reducible refine Kd.C_drewN ?_ _) | (with_reducible refine Kd.C_drew ?_))); (case side2 => exact (Kd.V_reads' HO0.out).2.1); rintro e w' ⟨rfl, ⟨nd, rfl⟩⟩; refine ⟨_, rfl, ?_⟩))
    go_ret2
    exact ⟨_, by first | rfl | (simp [errW_none, errW_some] <;> rfl) | (simp [*, errW_none, errW_some] <;> rfl), by first | exact Kd.R_nil _ _ _ _ _ | exact Kd.N_nil _ _ _ _ _ | exact Kd.V_nil _ _ _ _ _ | exact Kd.Q_nil _ _ _ _ _ | exact Kd.S_nil _ _ _ _ _, by repeat (first | (with_reducible first | exact HB.out | apply below_alloc | apply pw_below_drewN | apply below_drew1) | exact HB.out)⟩
  · rw [if_neg c3] at H
    have c3b0 : decide (0 ≤ t289) = false := decide_eq_false c3
    clear c3
    by_cases c4 : (l0.length : Int) = 0
    · rw [if_pos c4] at H
      have c4b0 : ((l0.length : Int) == 0) = true := beq_iff_eq.mpr c4
      have c4b1 : ((l0.length : Int) != 0) = false := bne_eq_false_iff_eq.mpr c4
      clear c4
      simp only [Option.some.injEq, Prod.mk.injEq] at H
      obtain ⟨rfl, rfl⟩ := H
      go_enter Try.func31, Try.ntmps31
      go_wp2_with (first | ((with_reducible refine gate_callee (f := 46) rfl ?_); refine goesL_ (some 8) rfl rfl Try.func46 (by kernel_rfl) rfl #[.slice A0 l0.length c0, .int .u8 0] rfl (by (try simp only [List.map_toArray, List.map_cons, List.map_nil]); first | done | rfl | (simp only [List.length_drop, List.length_take]; rfl)) ?_; (with_reducible refine (bytes_IndexByte.calls _ _ l0 0 t289 _ ?side1 ?side2 A2.out).mono ?_); (case side1 => repeat (first | exact (Kd.V_reads' HO0.out).2.2 | (with_reducible refine Kd.C_alloc ?_ _) | (with_reducible refine Kd.C_drewN ?_ _) | (with_reducible refine Kd.C_drew ?_))); (case side2 => exact (Kd.V_reads' HO0.out).2.1); rintro e w' ⟨rfl, ⟨nd, rfl⟩⟩; refine ⟨_, rfl, ?_⟩))
      go_ret2
      exact ⟨_, by first | rfl | (simp [errW_none, errW_some] <;> rfl) | (simp [*, errW_none, errW_some] <;> rfl), by first | exact Kd.R_nil _ _ _ _ _ | exact Kd.N_nil _ _ _ _ _ | exact Kd.V_nil _ _ _ _ _ | exact Kd.Q_nil _ _ _ _ _ | exact Kd.S_nil _ _ _ _ _, by repeat (first | (with_reducible first | exact HB.out | apply below_alloc | apply pw_below_drewN | apply below_drew1) | exact HB.out)⟩
    · rw [if_neg c4] at H
      have c4b0 : ((l0.length : Int) == 0) = false := beq_eq_false_iff_ne.mpr c4
      have c4b1 : ((l0.length : Int) != 0) = true := bne_iff_ne.mpr c4
      have c4b2 : ¬ (l0 = []) := fun h_ => c4 (by rw [h_]; rfl)
      have H' := Aside0.mk H
      clear H
      go_enter Try.func31, Try.ntmps31
      go_wp2_with (first | ((with_reducible refine gate_callee (f := 46) rfl ?_); refine goesL_ (some 8) rfl rfl Try.func46 (by kernel_rfl) rfl #[.slice A0 l0.length c0, .int .u8 0] rfl (by (try simp only [List.map_toArray, List.map_cons, List.map_nil]); first | done | rfl | (simp only [List.length_drop, List.length_take]; rfl)) ?_; (with_reducible refine (bytes_IndexByte.calls _ _ l0 0 t289 _ ?side1 ?side2 A2.out).mono ?_); (case side1 => repeat (first | exact (Kd.V_reads' HO0.out).2.2 | (with_reducible refine Kd.C_alloc ?_ _) | (with_reducible refine Kd.C_drewN ?_ _) | (with_reducible refine Kd.C_drew ?_))); (case side2 => exact (Kd.V_reads' HO0.out).2.1); rintro e w' ⟨rfl, ⟨nd, rfl⟩⟩; refine ⟨_, rfl, ?_⟩))
      go_loopg [4, 5] k (fun kq v4 v5 w' => ∃ (x4_1 : List Int) (x5_1 : List Int), Aside0 (cobs_Unstuff.l0 kq l0 x4_1 x5_1 = some (r1, r2)) ∧ Aside0 (kq ≤ k) ∧ Aside0 (Kd.V (Kd.int .u8) 5 w' w.heap.size (fun k_ => (P0_ k_ ∨ w.heap.size ≤ k_) ∧ some k_ ≠ (v4 : Value).ownBlock) (.slice A0 l0.length c0) l0) ∧ Aside0 (Kd.R (Kd.int .u8) 5 w' w.heap.size (fun k_ => (w.heap.size ≤ k_)) v4 x4_1) ∧ Aside0 (Kd.V (Kd.int .u8) 5 w' w.heap.size (fun k_ => (P0_ k_ ∨ w.heap.size ≤ k_) ∧ some k_ ≠ (v4 : Value).ownBlock) v5 x5_1) ∧ Aside0 (Below w.heap.size w w'))
      case atStart => exact ⟨(([] : List Int)), (l0), H', ⟨Nat.le_refl _⟩, ⟨by (with_reducible repeat (first | apply Kd.V_alloc | apply Kd.V_drewN | apply Kd.V_drew)); exact Kd.V_mono HO0.out (fun _ hk => ⟨hk, (by simp [Value.ownBlock])⟩)⟩, ⟨by first | exact Kd.R_nil _ _ _ _ _ | exact Kd.N_nil _ _ _ _ _ | exact Kd.V_nil _ _ _ _ _ | exact Kd.Q_nil _ _ _ _ _ | exact Kd.S_nil _ _ _ _ _⟩, ⟨by (with_reducible repeat (first | apply Kd.V_alloc | apply Kd.V_drewN | apply Kd.V_drew)); exact Kd.V_mono HO0.out (fun _ hk => ⟨hk, (by simp [Value.ownBlock])⟩)⟩, ⟨by repeat (first | (with_reducible first | exact HB.out | apply below_alloc | apply pw_below_drewN | apply below_drew1) | exact HB.out)⟩⟩
      case round =>
        clear H'
        try clear p2
        try clear c3
        try clear c3b0
        try clear c4
        try clear c4b0
        try clear c4b1
        try clear c4b2
        obtain ⟨x4_1, x5_1, HA, HK1, HO_0, HO_4, HO_5, HB⟩ := hrel
        cases gk with
        | zero => exact absurd HA.out (by simp [cobs_Unstuff.l0])
        | succ k1 =>
          have H := HA.out
          clear HA
          simp only [cobs_Unstuff.l0] at H
          by_cases c5 : (x5_1.length : Int) > 0
          · rw [if_pos c5] at H
            have c5b0 : decide (0 < (x5_1.length : Int)) = true := decide_eq_true c5
            have c5b1 : decide (0 < x5_1.length) = true := decide_eq_true (by omega)
            clear c5
            by_cases c6 : 0 < (x5_1.length : Int)
            · rw [if_pos c6] at H
              have c6b0 : decide (0 < (x5_1.length : Int)) = true := decide_eq_true c6
              have c6b1 : decide (0 < x5_1.length) = true := decide_eq_true (by omega)
              clear c6
              by_cases c7 : (wrap64 (rd x5_1 0)) > (x5_1.length : Int)
              · rw [if_pos c7] at H
                have c7b0 : decide ((x5_1.length : Int) < (wrap64 (rd x5_1 0))) = true := decide_eq_true c7
                clear c7
                simp only [Option.some.injEq, Prod.mk.injEq] at H
                obtain ⟨rfl, rfl⟩ := H
                obtain ⟨Ao8, co8, eo8⟩ := Kd.V_slice HO_5.out
                subst eo8
                have p290 : 0 ≤ (0 : Int) := (by omega)
                have q290 : 0 < (x5_1.length : Int) := of_decide_eq_true (by first | (with_reducible assumption) | assumption)
                obtain ⟨ad290, e290, hx290_0⟩ := Kd.at_int (Kd.V_reads' HO_5.out).2.2 0 p290 q290
                cases e290
                have qi290 : (0 < x5_1.length) = True := eq_true (by omega)
                (try rw [show ((0 : Int)).toNat = 0 from rfl] at hx290_0)
                (try rw [Addr.add_zero'] at hx290_0)
                replace p290 := eq_true p290
                replace q290 := eq_true q290
                go_wp2
                go_ret2
                exact ⟨_, by first | rfl | (simp [errW_none, errW_some] <;> rfl) | (simp [*, errW_none, errW_some] <;> rfl), by first | exact Kd.R_nil _ _ _ _ _ | exact Kd.N_nil _ _ _ _ _ | exact Kd.V_nil _ _ _ _ _ | exact Kd.Q_nil _ _ _ _ _ | exact Kd.S_nil _ _ _ _ _, by repeat (first | (with_reducible first | exact HB.out | apply below_alloc | apply pw_below_drewN | apply below_drew1) | exact HB.out)⟩
              · rw [if_neg c7] at H
                have c7b0 : decide ((x5_1.length : Int) < (wrap64 (rd x5_1 0))) = false := decide_eq_false c7
                clear c7
                by_cases c9 : 1 ≤ (wrap64 (rd x5_1 0))
                · rw [if_pos c9] at H
                  have c9b0 := eq_true c9
                  have c9b1 : decide (1 ≤ (wrap64 (rd x5_1 0))) = true := decide_eq_true c9
                  clear c9
                  by_cases c10 : (wrap64 (rd x5_1 0)) ≤ (x5_1.length : Int)
                  · rw [if_pos c10] at H
                    have c10b0 := eq_true c10
                    have c10b1 : decide ((wrap64 (rd x5_1 0)) ≤ (x5_1.length : Int)) = true := decide_eq_true c10
                    clear c10
                    obtain ⟨y291, hy291⟩ : ∃ y_ : List Int, y_ = ((x5_1.take ((wrap64 (rd x5_1 0)) : Int).toNat).drop 1) := ⟨_, rfl⟩
                    replace H : (if x4_1.length + y291.length < 140737488355328 then ((some (x4_1 ++ y291 : List Int)).bind fun y296 => (if 0 ≤ (wrap64 (rd x5_1 0)) then ((some (x5_1.drop ((wrap64 (rd x5_1 0)) : Int).toNat : List Int)).bind fun y299 => (if (wrap64 (rd x5_1 0)) ≤ 254 then (if (y299.length : Int) > 0 then (if y296.length < 140737488355328 then (cobs_Unstuff.l0 k1 l0 (y296 ++ [0]) y299) else (none)) else (cobs_Unstuff.l0 k1 l0 y296 y299)) else (cobs_Unstuff.l0 k1 l0 y296 y299))) else (none))) else (none)) = some (r1, r2) := by first | (rw [hy291]; with_reducible exact H) | (have H2_ := (Option.bind_some _ _).symm.trans H; rw [hy291]; with_reducible exact H2_) | (have H2_ := (Option.bind_some _ _).symm.trans H; with_reducible exact H2_) | with_reducible exact H | (rw [hy291]; exact H) | exact H
                    have Ny291 := Aside0.mk hy291
                    clear hy291
                    by_cases c11 : x4_1.length + y291.length < 140737488355328
                    · rw [if_pos c11] at H
                      have LMc11 := Aside0.mk c11
                      clear c11
                      obtain ⟨y296, hy296⟩ : ∃ y_ : List Int, y_ = (x4_1 ++ y291) := ⟨_, rfl⟩
                      replace H : (if 0 ≤ (wrap64 (rd x5_1 0)) then ((some (x5_1.drop ((wrap64 (rd x5_1 0)) : Int).toNat : List Int)).bind fun y299 => (if (wrap64 (rd x5_1 0)) ≤ 254 then (if (y299.length : Int) > 0 then (if y296.length < 140737488355328 then (cobs_Unstuff.l0 k1 l0 (y296 ++ [0]) y299) else (none)) else (cobs_Unstuff.l0 k1 l0 y296 y299)) else (cobs_Unstuff.l0 k1 l0 y296 y299))) else (none)) = some (r1, r2) := by first | (rw [hy296]; with_reducible exact H) | (have H2_ := (Option.bind_some _ _).symm.trans H; rw [hy296]; with_reducible exact H2_) | (have H2_ := (Option.bind_some _ _).symm.trans H; with_reducible exact H2_) | with_reducible exact H | (rw [hy296]; exact H) | exact H
                      have Ny296 := Aside0.mk hy296
                      clear hy296
                      obtain ⟨ji12, hji12⟩ : ∃ j_ : Int, (wrap64 (rd x5_1 0)) = j_ := ⟨_, rfl⟩
                      replace H : (if 0 ≤ (ji12) then ((some (x5_1.drop ((ji12) : Int).toNat : List Int)).bind fun y299 => (if (ji12) ≤ 254 then (if (y299.length : Int) > 0 then (if y296.length < 140737488355328 then (cobs_Unstuff.l0 k1 l0 (y296 ++ [0]) y299) else (none)) else (cobs_Unstuff.l0 k1 l0 y296 y299)) else (cobs_Unstuff.l0 k1 l0 y296 y299))) else (none)) = some (r1, r2) := by first | (rw [hji12] at H; exact H) | (simp only [hji12] at H ⊢; exact H)
                      (try rw [hji12] at c7b0)
                      (try rw [hji12] at c9b0)
                      (try rw [hji12] at c9b1)
                      (try rw [hji12] at c10b0)
                      (try rw [hji12] at c10b1)
                      (try rw [hji12] at Ny291)
                      (try rw [hji12] at Ny291)
                      have hji12w : (IntKind.i64.wrap (rd x5_1 0)) = ji12 := (i64_w _).trans hji12
                      by_cases c13 : 0 ≤ (ji12)
                      · rw [if_pos c13] at H
                        have c13b0 := eq_true c13
                        have c13b1 : decide (0 ≤ (ji12)) = true := decide_eq_true c13
                        clear c13
                        have c14b0 := eq_true (of_decide_eq_true (by first | (with_reducible assumption) | assumption) : (ji12) ≤ (x5_1.length : Int))
                        obtain ⟨y299, hy299⟩ : ∃ y_ : List Int, y_ = (x5_1.drop ((ji12) : Int).toNat) := ⟨_, rfl⟩
                        replace H : (if (ji12) ≤ 254 then (if (y299.length : Int) > 0 then (if y296.length < 140737488355328 then (cobs_Unstuff.l0 k1 l0 (y296 ++ [0]) y299) else (none)) else (cobs_Unstuff.l0 k1 l0 y296 y299)) else (cobs_Unstuff.l0 k1 l0 y296 y299)) = some (r1, r2) := by first | (rw [hy299]; with_reducible exact H) | (have H2_ := (Option.bind_some _ _).symm.trans H; rw [hy299]; with_reducible exact H2_) | (have H2_ := (Option.bind_some _ _).symm.trans H; with_reducible exact H2_) | with_reducible exact H | (rw [hy299]; exact H) | exact H
                        have Ny299 := Aside0.mk hy299
                        clear hy299
                        by_cases c15 : (ji12) ≤ 254
                        · rw [if_pos c15] at H
                          have c15b0 : decide ((ji12) ≤ 254) = true := decide_eq_true c15
                          clear c15
                          by_cases c16 : (y299.length : Int) > 0
                          · rw [if_pos c16] at H
                            have c16b0 : decide (0 < (y299.length : Int)) = true := decide_eq_true c16
                            have c16b1 : decide (0 < y299.length) = true := decide_eq_true (by omega)
                            clear c16
                            by_cases c17 : y296.length < 140737488355328
                            · rw [if_pos c17] at H
                              have LMc17 := Aside0.mk c17
                              clear c17
                              obtain ⟨y304, hy304⟩ : ∃ y_ : List Int, y_ = (y296 ++ [0]) := ⟨_, rfl⟩
                              replace H : (cobs_Unstuff.l0 k1 l0 y304 y299) = some (r1, r2) := by first | (rw [hy304]; with_reducible exact H) | (have H2_ := (Option.bind_some _ _).symm.trans H; rw [hy304]; with_reducible exact H2_) | (have H2_ := (Option.bind_some _ _).symm.trans H; with_reducible exact H2_) | with_reducible exact H | (rw [hy304]; exact H) | exact H
                              have Ny304 := Aside0.mk hy304
                              clear hy304
                              have H' := Aside0.mk H
                              clear H
                              obtain ⟨Ao18, co18, eo18⟩ := Kd.V_slice HO_5.out
                              subst eo18
                              have p290 : 0 ≤ (0 : Int) := (by omega)
                              have q290 : 0 < (x5_1.length : Int) := of_decide_eq_true (by first | (with_reducible assumption) | assumption)
                              obtain ⟨ad290, e290, hx290_0⟩ := Kd.at_int (Kd.V_reads' HO_5.out).2.2 0 p290 q290
                              cases e290
                              have qi290 : (0 < x5_1.length) = True := eq_true (by omega)
                              (try rw [show ((0 : Int)).toNat = 0 from rfl] at hx290_0)
                              (try rw [Addr.add_zero'] at hx290_0)
                              replace p290 := eq_true p290
                              replace q290 := eq_true q290
                              have q19 : ((ji12) : Int) ≤ ((x5_1.length : Int) : Int) := of_decide_eq_true (by first | (with_reducible assumption) | assumption)
                              obtain ⟨i019, hi019, _, hsz19, _⟩ := info_parts info5
                              have hroom19 : x5_1.length ≤ co18 := (Kd.V_reads' HO_5.out).2.1
                              have hC19 : Kd.F (Kd.int .u8) _ _ (some ad290) x5_1.length x5_1 := (Kd.V_at (base := w.heap.size) HO_5.out).2.2
                              have ql19 : (1 : Int) ≤ ((ji12) : Int) := of_decide_eq_true (by first | (with_reducible assumption) | assumption)
                              have hcut19 := cut_mid (P := Try.prog) 22 5 .i64 .i64 Try.underlying22 hi019 1 hsz19 (some ad290) x5_1.length co18 1 (ji12) (by omega) ql19 q19 hroom19
                              have hr19 := Kd.F_mid (lo := (1 : Int).toNat) (hi := ((ji12) : Int).toNat) (c := co18) hC19 (by omega) (by omega) hroom19
                              obtain ⟨A19, hA19⟩ : ∃ A1, A1 = (if co18 = (1 : Int).toNat then (some ad290) else ((some ad290) : Option Addr).map (·.add ((1 : Int).toNat * 1))) := ⟨_, rfl⟩
                              obtain ⟨c19, hc19⟩ : ∃ c1, c1 = co18 - (1 : Int).toNat := ⟨_, rfl⟩
                              have hy19 : y291.length = ((ji12) : Int).toNat - (1 : Int).toNat := (by rw [Ny291.out, List.length_drop, List.length_take] <;> omega)
                              rw [show ((x5_1).take ((ji12) : Int).toNat).drop (1 : Int).toNat = y291 from Ny291.out.symm] at hr19
                              replace hr19 : Kd.F (Kd.int .u8) _ _ A19 y291.length y291 := (by rw [hA19]; exact hr19)
                              rw [← hy19, ← hA19, ← hc19] at hcut19
                              have HO295 := Aside0.mk (show Kd.V (Kd.int .u8) 5 _ w.heap.size _ (.slice A19 y291.length c19) y291 from Kd.V_mk (by rw [hy19, hc19]; exact Nat.sub_le_sub_right (Nat.le_trans (by omega) hroom19) _) hr19)
                              have HC295 := Aside0.mk (show y291.length ≤ c19 from by rw [hy19, hc19]; exact Nat.sub_le_sub_right (Nat.le_trans (by omega) hroom19) _)
                              clear hr19 hC19 hroom19 hi019 hsz19 hc19
                              have KY19 := Aside0.mk hy19
                              have KA19 := Aside0.mk hA19
                              clear hy19 hA19
                              replace q19 := eq_true q19
                              go_wp2_with (first | ((with_reducible refine gate_builtin (b := .append) (xs := #[.tmp 25, .tmp 28]) rfl ?_); (try (refine gate_guard (by rfl) ?_; dsimp only)); at_builtin; refine Kd.R_append_rows (Kd.int .u8) (w0 := w) w.heap.size rfl (.tmp 25) (.tmp 28) 22 5 (.int .u8 0) 1 rfl Try.underlying22 info5 rfl (by decide) (by omega) u4 x4_1 y291 _ _ _ (fun k_ => (w.heap.size ≤ k_)) (fun _ => False) rfl rfl ?aO ?aR (fun _ _ h => h) (fun _ h => h.elim) ?aF ?aB ?aS ?aL ?_; (case aR => repeat (first | exact (Kd.V_reads' HO295.out).2.2 | (with_reducible refine Kd.C_alloc ?_ _) | (with_reducible refine Kd.C_drewN ?_ _) | (with_reducible refine Kd.C_drew ?_))); (case aB => exact (by repeat (first | (with_reducible first | exact HB.out | apply below_alloc | apply pw_below_drewN | apply below_drew1) | exact HB.out))); (case aF => exact (fun k_ hk => (Nat.le_trans (below_size (by repeat (first | (with_reducible first | exact HB.out | apply below_alloc | apply pw_below_drewN | apply below_drew1) | exact HB.out))) hk))); (case aO => exact (by (with_reducible repeat (first | apply Kd.R_alloc | apply Kd.R_drewN | apply Kd.R_drew)); exact HO_4.out)); (case aS => exact (below_size (by repeat (first | (with_reducible first | exact HB.out | apply below_alloc | apply pw_below_drewN | apply below_drew1) | exact HB.out)))); (case aL => have := LMc11.out; omega); intro v297 w20 ho hb hg hat; rw [← Ny296.out] at ho; have n0_ := Aside0.mk (Kd.V_afterv (ok := (fun k_ => (P0_ k_ ∨ w.heap.size ≤ k_))) (by (with_reducible repeat (first | apply Kd.V_alloc | apply Kd.V_drewN | apply Kd.V_drew)); exact HO_0.out) hg hat); have n1_ := Aside0.mk (Kd.V_afterv (ok := (fun k_ => (P0_ k_ ∨ w.heap.size ≤ k_))) (by (with_reducible repeat (first | apply Kd.V_alloc | apply Kd.V_drewN | apply Kd.V_drew)); exact HO_5.out) hg hat); have n2_ := Aside0.mk (Kd.V_afterv (ok := (fun k_ => (P0_ k_ ∨ w.heap.size ≤ k_))) (by (with_reducible repeat (first | apply Kd.V_alloc | apply Kd.V_drewN | apply Kd.V_drew)); exact HO295.out) hg hat); have n3_ := Aside0.mk (hb); have n4_ := Aside0.mk (ho); clear HO_0; clear HO_5; clear HO295; clear HB; clear HO_4; have HO_0 := n0_; have HO_5 := n1_; have HO295 := n2_; have HB := n3_; have HO298 := n4_; clear n0_ n1_ n2_ n3_ n4_; clear ho hb hg hat; have q21 : ((ji12) : Int) ≤ ((x5_1.length : Int) : Int) := of_decide_eq_true (by first | (with_reducible assumption) | assumption); obtain ⟨i021, hi021, _, hsz21, _⟩ := info_parts info5; have hroom21 : x5_1.length ≤ co18 := (Kd.V_reads' HO_5.out).2.1; have hC21 : Kd.F (Kd.int .u8) _ _ (some ad290) x5_1.length x5_1 := (Kd.V_at (base := w.heap.size) HO_5.out).2.2; have q021 : (0 : Int) ≤ ((ji12) : Int) := of_decide_eq_true (by first | (with_reducible assumption) | assumption); have hcut21 := cut_from (P := Try.prog) 22 5 .i64 Try.underlying22 hi021 1 hsz21 (some ad290) x5_1.length co18 (ji12) q021 q21; have hr21 := Kd.F_cut (m := ((ji12) : Int).toNat) (c := co18) hC21 (by omega) hroom21; obtain ⟨A21, hA21⟩ : ∃ A1, A1 = (if co18 = ((ji12) : Int).toNat then (some ad290) else ((some ad290) : Option Addr).map (·.add (((ji12) : Int).toNat * 1))) := ⟨_, rfl⟩; obtain ⟨c21, hc21⟩ : ∃ c1, c1 = co18 - ((ji12) : Int).toNat := ⟨_, rfl⟩; have hy21 : y299.length = x5_1.length - ((ji12) : Int).toNat := (by rw [Ny299.out, List.length_drop] <;> omega); rw [show (x5_1).drop ((ji12) : Int).toNat = y299 from Ny299.out.symm] at hr21; replace hr21 : Kd.F (Kd.int .u8) _ _ A21 y299.length y299 := (by rw [hA21]; exact hr21); rw [← hy21, ← hA21, ← hc21] at hcut21; have HO303 := Aside0.mk (show Kd.V (Kd.int .u8) 5 _ w.heap.size _ (.slice A21 y299.length c21) y299 from Kd.V_mk (by rw [hy21, hc21]; exact Nat.sub_le_sub_right hroom21 _) hr21); have HC303 := Aside0.mk (show y299.length ≤ c21 from by rw [hy21, hc21]; exact Nat.sub_le_sub_right hroom21 _); clear hr21 hC21 hroom21 hi021 hsz21 hc21; have KY21 := Aside0.mk hy21; have KA21 := Aside0.mk hA21; clear hy21 hA21; replace q21 := eq_true q21) | ((with_reducible refine gate_builtin (b := .append) (xs := #[.tmp 40, .tmp 41]) rfl ?_); (try (refine gate_guard (by rfl) ?_; dsimp only)); at_builtin; refine Kd.R_append (Kd.int .u8) (w0 := w) w.heap.size rfl (.tmp 40) (.tmp 41) 22 5 (.int .u8 0) 1 rfl Try.underlying22 info5 rfl (by decide) (by omega) v297 y296 0 [.int .u8 0] (fun k_ => (w.heap.size ≤ k_)) (fun _ => False) rfl rfl ?aP (fun _ hk => hk.elim) ?aF ?aO ?aB ?aS ?aL ?_; (case aP => exact rfl); (case aB => exact (by repeat (first | (with_reducible first | exact HB.out | apply below_alloc | apply pw_below_drewN | apply below_drew1) | exact HB.out))); (case aF => exact (fun k_ hk => (Nat.le_trans (below_size (by repeat (first | (with_reducible first | exact HB.out | apply below_alloc | apply pw_below_drewN | apply below_drew1) | exact HB.out))) hk))); (case aO => exact (by (with_reducible repeat (first | apply Kd.R_alloc | apply Kd.R_drewN | apply Kd.R_drew)); exact HO298.out)); (case aS => exact (below_size (by repeat (first | (with_reducible first | exact HB.out | apply below_alloc | apply pw_below_drewN | apply below_drew1) | exact HB.out)))); (case aL => have := LMc17.out; omega); intro v305 w22 ho hb hg hat; rw [← Ny304.out] at ho; have n0_ := Aside0.mk (Kd.V_afterv (ok := (fun k_ => (P0_ k_ ∨ w.heap.size ≤ k_))) (by (with_reducible repeat (first | apply Kd.V_alloc | apply Kd.V_drewN | apply Kd.V_drew)); exact HO_0.out) hg hat); have n1_ := Aside0.mk (Kd.V_afterv (ok := (fun k_ => (P0_ k_ ∨ w.heap.size ≤ k_))) (by (with_reducible repeat (first | apply Kd.V_alloc | apply Kd.V_drewN | apply Kd.V_drew)); exact HO_5.out) hg hat); have n2_ := Aside0.mk (Kd.V_afterv (ok := (fun k_ => (P0_ k_ ∨ w.heap.size ≤ k_))) (by (with_reducible repeat (first | apply Kd.V_alloc | apply Kd.V_drewN | apply Kd.V_drew)); exact HO295.out) hg hat); have n3_ := Aside0.mk (Kd.V_afterv (ok := (fun k_ => (P0_ k_ ∨ w.heap.size ≤ k_))) (by (with_reducible repeat (first | apply Kd.V_alloc | apply Kd.V_drewN | apply Kd.V_drew)); exact HO303.out) hg hat); have n4_ := Aside0.mk (hb); have n5_ := Aside0.mk (ho); clear HO_0; clear HO_5; clear HO295; clear HO303; clear HB; clear HO298; have HO_0 := n0_; have HO_5 := n1_; have HO295 := n2_; have HO303 := n3_; have HB := n4_; have HO306 := n5_; clear n0_ n1_ n2_ n3_ n4_ n5_; clear ho hb hg hat))
                              go_roundg k1
                              case measure => have := HK1.out; omega
                              case rel => exact ⟨(y304), (y299), H', ⟨by have := HK1.out; omega⟩, ⟨by (with_reducible repeat (first | apply Kd.V_alloc | apply Kd.V_drewN | apply Kd.V_drew)); exact HO_0.out⟩, ⟨by (with_reducible repeat (first | apply Kd.R_alloc | apply Kd.R_drewN | apply Kd.R_drew)); exact HO306.out⟩, ⟨by (with_reducible repeat (first | apply Kd.V_alloc | apply Kd.V_drewN | apply Kd.V_drew)); exact HO303.out⟩, ⟨by repeat (first | (with_reducible first | exact HB.out | apply below_alloc | apply pw_below_drewN | apply below_drew1) | exact HB.out)⟩⟩
                            · rw [if_neg c17] at H
                              exact absurd H (by simp)
                          · rw [if_neg c16] at H
                            have c16b0 : decide (0 < (y299.length : Int)) = false := decide_eq_false c16
                            have c16b1 : decide (0 < y299.length) = false := decide_eq_false (by omega)
                            clear c16
                            have H' := Aside0.mk H
                            clear H
                            obtain ⟨Ao23, co23, eo23⟩ := Kd.V_slice HO_5.out
                            subst eo23
                            have p290 : 0 ≤ (0 : Int) := (by omega)
                            have q290 : 0 < (x5_1.length : Int) := of_decide_eq_true (by first | (with_reducible assumption) | assumption)
                            obtain ⟨ad290, e290, hx290_0⟩ := Kd.at_int (Kd.V_reads' HO_5.out).2.2 0 p290 q290
                            cases e290
                            have qi290 : (0 < x5_1.length) = True := eq_true (by omega)
                            (try rw [show ((0 : Int)).toNat = 0 from rfl] at hx290_0)
                            (try rw [Addr.add_zero'] at hx290_0)
                            replace p290 := eq_true p290
                            replace q290 := eq_true q290
                            have q24 : ((ji12) : Int) ≤ ((x5_1.length : Int) : Int) := of_decide_eq_true (by first | (with_reducible assumption) | assumption)
                            obtain ⟨i024, hi024, _, hsz24, _⟩ := info_parts info5
                            have hroom24 : x5_1.length ≤ co23 := (Kd.V_reads' HO_5.out).2.1
                            have hC24 : Kd.F (Kd.int .u8) _ _ (some ad290) x5_1.length x5_1 := (Kd.V_at (base := w.heap.size) HO_5.out).2.2
                            have ql24 : (1 : Int) ≤ ((ji12) : Int) := of_decide_eq_true (by first | (with_reducible assumption) | assumption)
                            have hcut24 := cut_mid (P := Try.prog) 22 5 .i64 .i64 Try.underlying22 hi024 1 hsz24 (some ad290) x5_1.length co23 1 (ji12) (by omega) ql24 q24 hroom24
                            have hr24 := Kd.F_mid (lo := (1 : Int).toNat) (hi := ((ji12) : Int).toNat) (c := co23) hC24 (by omega) (by omega) hroom24
                            obtain ⟨A24, hA24⟩ : ∃ A1, A1 = (if co23 = (1 : Int).toNat then (some ad290) else ((some ad290) : Option Addr).map (·.add ((1 : Int).toNat * 1))) := ⟨_, rfl⟩
                            obtain ⟨c24, hc24⟩ : ∃ c1, c1 = co23 - (1 : Int).toNat := ⟨_, rfl⟩
                            have hy24 : y291.length = ((ji12) : Int).toNat - (1 : Int).toNat := (by rw [Ny291.out, List.length_drop, List.length_take] <;> omega)
                            rw [show ((x5_1).take ((ji12) : Int).toNat).drop (1 : Int).toNat = y291 from Ny291.out.symm] at hr24
                            replace hr24 : Kd.F (Kd.int .u8) _ _ A24 y291.length y291 := (by rw [hA24]; exact hr24)
                            rw [← hy24, ← hA24, ← hc24] at hcut24
                            have HO295 := Aside0.mk (show Kd.V (Kd.int .u8) 5 _ w.heap.size _ (.slice A24 y291.length c24) y291 from Kd.V_mk (by rw [hy24, hc24]; exact Nat.sub_le_sub_right (Nat.le_trans (by omega) hroom24) _) hr24)
                            have HC295 := Aside0.mk (show y291.length ≤ c24 from by rw [hy24, hc24]; exact Nat.sub_le_sub_right (Nat.le_trans (by omega) hroom24) _)
                            clear hr24 hC24 hroom24 hi024 hsz24 hc24
                            have KY24 := Aside0.mk hy24
                            have KA24 := Aside0.mk hA24
                            clear hy24 hA24
                            replace q24 := eq_true q24
                            go_wp2_with (first | ((with_reducible refine gate_builtin (b := .append) (xs := #[.tmp 25, .tmp 28]) rfl ?_); (try (refine gate_guard (by rfl) ?_; dsimp only)); at_builtin; refine Kd.R_append_rows (Kd.int .u8) (w0 := w) w.heap.size rfl (.tmp 25) (.tmp 28) 22 5 (.int .u8 0) 1 rfl Try.underlying22 info5 rfl (by decide) (by omega) u4 x4_1 y291 _ _ _ (fun k_ => (w.heap.size ≤ k_)) (fun _ => False) rfl rfl ?aO ?aR (fun _ _ h => h) (fun _ h => h.elim) ?aF ?aB ?aS ?aL ?_; (case aR => repeat (first | exact (Kd.V_reads' HO295.out).2.2 | (with_reducible refine Kd.C_alloc ?_ _) | (with_reducible refine Kd.C_drewN ?_ _) | (with_reducible refine Kd.C_drew ?_))); (case aB => exact (by repeat (first | (with_reducible first | exact HB.out | apply below_alloc | apply pw_below_drewN | apply below_drew1) | exact HB.out))); (case aF => exact (fun k_ hk => (Nat.le_trans (below_size (by repeat (first | (with_reducible first | exact HB.out | apply below_alloc | apply pw_below_drewN | apply below_drew1) | exact HB.out))) hk))); (case aO => exact (by (with_reducible repeat (first | apply Kd.R_alloc | apply Kd.R_drewN | apply Kd.R_drew)); exact HO_4.out)); (case aS => exact (below_size (by repeat (first | (with_reducible first | exact HB.out | apply below_alloc | apply pw_below_drewN | apply below_drew1) | exact HB.out)))); (case aL => have := LMc11.out; omega); intro v297 w25 ho hb hg hat; rw [← Ny296.out] at ho; have n0_ := Aside0.mk (Kd.V_afterv (ok := (fun k_ => (P0_ k_ ∨ w.heap.size ≤ k_))) (by (with_reducible repeat (first | apply Kd.V_alloc | apply Kd.V_drewN | apply Kd.V_drew)); exact HO_0.out) hg hat); have n1_ := Aside0.mk (Kd.V_afterv (ok := (fun k_ => (P0_ k_ ∨ w.heap.size ≤ k_))) (by (with_reducible repeat (first | apply Kd.V_alloc | apply Kd.V_drewN | apply Kd.V_drew)); exact HO_5.out) hg hat); have n2_ := Aside0.mk (Kd.V_afterv (ok := (fun k_ => (P0_ k_ ∨ w.heap.size ≤ k_))) (by (with_reducible repeat (first | apply Kd.V_alloc | apply Kd.V_drewN | apply Kd.V_drew)); exact HO295.out) hg hat); have n3_ := Aside0.mk (hb); have n4_ := Aside0.mk (ho); clear HO_0; clear HO_5; clear HO295; clear HB; clear HO_4; have HO_0 := n0_; have HO_5 := n1_; have HO295 := n2_; have HB := n3_; have HO298 := n4_; clear n0_ n1_ n2_ n3_ n4_; clear ho hb hg hat; have q26 : ((ji12) : Int) ≤ ((x5_1.length : Int) : Int) := of_decide_eq_true (by first | (with_reducible assumption) | assumption); obtain ⟨i026, hi026, _, hsz26, _⟩ := info_parts info5; have hroom26 : x5_1.length ≤ co23 := (Kd.V_reads' HO_5.out).2.1; have hC26 : Kd.F (Kd.int .u8) _ _ (some ad290) x5_1.length x5_1 := (Kd.V_at (base := w.heap.size) HO_5.out).2.2; have q026 : (0 : Int) ≤ ((ji12) : Int) := of_decide_eq_true (by first | (with_reducible assumption) | assumption); have hcut26 := cut_from (P := Try.prog) 22 5 .i64 Try.underlying22 hi026 1 hsz26 (some ad290) x5_1.length co23 (ji12) q026 q26; have hr26 := Kd.F_cut (m := ((ji12) : Int).toNat) (c := co23) hC26 (by omega) hroom26; obtain ⟨A26, hA26⟩ : ∃ A1, A1 = (if co23 = ((ji12) : Int).toNat then (some ad290) else ((some ad290) : Option Addr).map (·.add (((ji12) : Int).toNat * 1))) := ⟨_, rfl⟩; obtain ⟨c26, hc26⟩ : ∃ c1, c1 = co23 - ((ji12) : Int).toNat := ⟨_, rfl⟩; have hy26 : y299.length = x5_1.length - ((ji12) : Int).toNat := (by rw [Ny299.out, List.length_drop] <;> omega); rw [show (x5_1).drop ((ji12) : Int).toNat = y299 from Ny299.out.symm] at hr26; replace hr26 : Kd.F (Kd.int .u8) _ _ A26 y299.length y299 := (by rw [hA26]; exact hr26); rw [← hy26, ← hA26, ← hc26] at hcut26; have HO303 := Aside0.mk (show Kd.V (Kd.int .u8) 5 _ w.heap.size _ (.slice A26 y299.length c26) y299 from Kd.V_mk (by rw [hy26, hc26]; exact Nat.sub_le_sub_right hroom26 _) hr26); have HC303 := Aside0.mk (show y299.length ≤ c26 from by rw [hy26, hc26]; exact Nat.sub_le_sub_right hroom26 _); clear hr26 hC26 hroom26 hi026 hsz26 hc26; have KY26 := Aside0.mk hy26; have KA26 := Aside0.mk hA26; clear hy26 hA26; replace q26 := eq_true q26))
                            go_roundg k1
                            case measure => have := HK1.out; omega
                            case rel => exact ⟨(y296), (y299), H', ⟨by have := HK1.out; omega⟩, ⟨by (with_reducible repeat (first | apply Kd.V_alloc | apply Kd.V_drewN | apply Kd.V_drew)); exact HO_0.out⟩, ⟨by (with_reducible repeat (first | apply Kd.R_alloc | apply Kd.R_drewN | apply Kd.R_drew)); exact HO298.out⟩, ⟨by (with_reducible repeat (first | apply Kd.V_alloc | apply Kd.V_drewN | apply Kd.V_drew)); exact HO303.out⟩, ⟨by repeat (first | (with_reducible first | exact HB.out | apply below_alloc | apply pw_below_drewN | apply below_drew1) | exact HB.out)⟩⟩
                        · rw [if_neg c15] at H
                          have c15b0 : decide ((ji12) ≤ 254) = false := decide_eq_false c15
                          clear c15
                          have H' := Aside0.mk H
                          clear H
                          obtain ⟨Ao27, co27, eo27⟩ := Kd.V_slice HO_5.out
                          subst eo27
                          have p290 : 0 ≤ (0 : Int) := (by omega)
                          have q290 : 0 < (x5_1.length : Int) := of_decide_eq_true (by first | (with_reducible assumption) | assumption)
                          obtain ⟨ad290, e290, hx290_0⟩ := Kd.at_int (Kd.V_reads' HO_5.out).2.2 0 p290 q290
                          cases e290
                          have qi290 : (0 < x5_1.length) = True := eq_true (by omega)
                          (try rw [show ((0 : Int)).toNat = 0 from rfl] at hx290_0)
                          (try rw [Addr.add_zero'] at hx290_0)
                          replace p290 := eq_true p290
                          replace q290 := eq_true q290
                          have q28 : ((ji12) : Int) ≤ ((x5_1.length : Int) : Int) := of_decide_eq_true (by first | (with_reducible assumption) | assumption)
                          obtain ⟨i028, hi028, _, hsz28, _⟩ := info_parts info5
                          have hroom28 : x5_1.length ≤ co27 := (Kd.V_reads' HO_5.out).2.1
                          have hC28 : Kd.F (Kd.int .u8) _ _ (some ad290) x5_1.length x5_1 := (Kd.V_at (base := w.heap.size) HO_5.out).2.2
                          have ql28 : (1 : Int) ≤ ((ji12) : Int) := of_decide_eq_true (by first | (with_reducible assumption) | assumption)
                          have hcut28 := cut_mid (P := Try.prog) 22 5 .i64 .i64 Try.underlying22 hi028 1 hsz28 (some ad290) x5_1.length co27 1 (ji12) (by omega) ql28 q28 hroom28
                          have hr28 := Kd.F_mid (lo := (1 : Int).toNat) (hi := ((ji12) : Int).toNat) (c := co27) hC28 (by omega) (by omega) hroom28
                          obtain ⟨A28, hA28⟩ : ∃ A1, A1 = (if co27 = (1 : Int).toNat then (some ad290) else ((some ad290) : Option Addr).map (·.add ((1 : Int).toNat * 1))) := ⟨_, rfl⟩
                          obtain ⟨c28, hc28⟩ : ∃ c1, c1 = co27 - (1 : Int).toNat := ⟨_, rfl⟩
                          have hy28 : y291.length = ((ji12) : Int).toNat - (1 : Int).toNat := (by rw [Ny291.out, List.length_drop, List.length_take] <;> omega)
                          rw [show ((x5_1).take ((ji12) : Int).toNat).drop (1 : Int).toNat = y291 from Ny291.out.symm] at hr28
                          replace hr28 : Kd.F (Kd.int .u8) _ _ A28 y291.length y291 := (by rw [hA28]; exact hr28)
                          rw [← hy28, ← hA28, ← hc28] at hcut28
                          have HO295 := Aside0.mk (show Kd.V (Kd.int .u8) 5 _ w.heap.size _ (.slice A28 y291.length c28) y291 from Kd.V_mk (by rw [hy28, hc28]; exact Nat.sub_le_sub_right (Nat.le_trans (by omega) hroom28) _) hr28)
                          have HC295 := Aside0.mk (show y291.length ≤ c28 from by rw [hy28, hc28]; exact Nat.sub_le_sub_right (Nat.le_trans (by omega) hroom28) _)
                          clear hr28 hC28 hroom28 hi028 hsz28 hc28
                          have KY28 := Aside0.mk hy28
                          have KA28 := Aside0.mk hA28
                          clear hy28 hA28
                          replace q28 := eq_true q28
                          go_wp2_with (first | ((with_reducible refine gate_builtin (b := .append) (xs := #[.tmp 25, .tmp 28]) rfl ?_); (try (refine gate_guard (by rfl) ?_; dsimp only)); at_builtin; refine Kd.R_append_rows (Kd.int .u8) (w0 := w) w.heap.size rfl (.tmp 25) (.tmp 28) 22 5 (.int .u8 0) 1 rfl Try.underlying22 info5 rfl (by decide) (by omega) u4 x4_1 y291 _ _ _ (fun k_ => (w.heap.size ≤ k_)) (fun _ => False) rfl rfl ?aO ?aR (fun _ _ h => h) (fun _ h => h.elim) ?aF ?aB ?aS ?aL ?_; (case aR => repeat (first | exact (Kd.V_reads' HO295.out).2.2 | (with_reducible refine Kd.C_alloc ?_ _) | (with_reducible refine Kd.C_drewN ?_ _) | (with_reducible refine Kd.C_drew ?_))); (case aB => exact (by repeat (first | (with_reducible first | exact HB.out | apply below_alloc | apply pw_below_drewN | apply below_drew1) | exact HB.out))); (case aF => exact (fun k_ hk => (Nat.le_trans (below_size (by repeat (first | (with_reducible first | exact HB.out | apply below_alloc | apply pw_below_drewN | apply below_drew1) | exact HB.out))) hk))); (case aO => exact (by (with_reducible repeat (first | apply Kd.R_alloc | apply Kd.R_drewN | apply Kd.R_drew)); exact HO_4.out)); (case aS => exact (below_size (by repeat (first | (with_reducible first | exact HB.out | apply below_alloc | apply pw_below_drewN | apply below_drew1) | exact HB.out)))); (case aL => have := LMc11.out; omega); intro v297 w29 ho hb hg hat; rw [← Ny296.out] at ho; have n0_ := Aside0.mk (Kd.V_afterv (ok := (fun k_ => (P0_ k_ ∨ w.heap.size ≤ k_))) (by (with_reducible repeat (first | apply Kd.V_alloc | apply Kd.V_drewN | apply Kd.V_drew)); exact HO_0.out) hg hat); have n1_ := Aside0.mk (Kd.V_afterv (ok := (fun k_ => (P0_ k_ ∨ w.heap.size ≤ k_))) (by (with_reducible repeat (first | apply Kd.V_alloc | apply Kd.V_drewN | apply Kd.V_drew)); exact HO_5.out) hg hat); have n2_ := Aside0.mk (Kd.V_afterv (ok := (fun k_ => (P0_ k_ ∨ w.heap.size ≤ k_))) (by (with_reducible repeat (first | apply Kd.V_alloc | apply Kd.V_drewN | apply Kd.V_drew)); exact HO295.out) hg hat); have n3_ := Aside0.mk (hb); have n4_ := Aside0.mk (ho); clear HO_0; clear HO_5; clear HO295; clear HB; clear HO_4; have HO_0 := n0_; have HO_5 := n1_; have HO295 := n2_; have HB := n3_; have HO298 := n4_; clear n0_ n1_ n2_ n3_ n4_; clear ho hb hg hat; have q30 : ((ji12) : Int) ≤ ((x5_1.length : Int) : Int) := of_decide_eq_true (by first | (with_reducible assumption) | assumption); obtain ⟨i030, hi030, _, hsz30, _⟩ := info_parts info5; have hroom30 : x5_1.length ≤ co27 := (Kd.V_reads' HO_5.out).2.1; have hC30 : Kd.F (Kd.int .u8) _ _ (some ad290) x5_1.length x5_1 := (Kd.V_at (base := w.heap.size) HO_5.out).2.2; have q030 : (0 : Int) ≤ ((ji12) : Int) := of_decide_eq_true (by first | (with_reducible assumption) | assumption); have hcut30 := cut_from (P := Try.prog) 22 5 .i64 Try.underlying22 hi030 1 hsz30 (some ad290) x5_1.length co27 (ji12) q030 q30; have hr30 := Kd.F_cut (m := ((ji12) : Int).toNat) (c := co27) hC30 (by omega) hroom30; obtain ⟨A30, hA30⟩ : ∃ A1, A1 = (if co27 = ((ji12) : Int).toNat then (some ad290) else ((some ad290) : Option Addr).map (·.add (((ji12) : Int).toNat * 1))) := ⟨_, rfl⟩; obtain ⟨c30, hc30⟩ : ∃ c1, c1 = co27 - ((ji12) : Int).toNat := ⟨_, rfl⟩; have hy30 : y299.length = x5_1.length - ((ji12) : Int).toNat := (by rw [Ny299.out, List.length_drop] <;> omega); rw [show (x5_1).drop ((ji12) : Int).toNat = y299 from Ny299.out.symm] at hr30; replace hr30 : Kd.F (Kd.int .u8) _ _ A30 y299.length y299 := (by rw [hA30]; exact hr30); rw [← hy30, ← hA30, ← hc30] at hcut30; have HO303 := Aside0.mk (show Kd.V (Kd.int .u8) 5 _ w.heap.size _ (.slice A30 y299.length c30) y299 from Kd.V_mk (by rw [hy30, hc30]; exact Nat.sub_le_sub_right hroom30 _) hr30); have HC303 := Aside0.mk (show y299.length ≤ c30 from by rw [hy30, hc30]; exact Nat.sub_le_sub_right hroom30 _); clear hr30 hC30 hroom30 hi030 hsz30 hc30; have KY30 := Aside0.mk hy30; have KA30 := Aside0.mk hA30; clear hy30 hA30; replace q30 := eq_true q30))
                          go_roundg k1
                          case measure => have := HK1.out; omega
                          case rel => exact ⟨(y296), (y299), H', ⟨by have := HK1.out; omega⟩, ⟨by (with_reducible repeat (first | apply Kd.V_alloc | apply Kd.V_drewN | apply Kd.V_drew)); exact HO_0.out⟩, ⟨by (with_reducible repeat (first | apply Kd.R_alloc | apply Kd.R_drewN | apply Kd.R_drew)); exact HO298.out⟩, ⟨by (with_reducible repeat (first | apply Kd.V_alloc | apply Kd.V_drewN | apply Kd.V_drew)); exact HO303.out⟩, ⟨by repeat (first | (with_reducible first | exact HB.out | apply below_alloc | apply pw_below_drewN | apply below_drew1) | exact HB.out)⟩⟩
                      · rw [if_neg c13] at H
                        exact absurd H (by simp)
                    · rw [if_neg c11] at H
                      exact absurd H (by simp)
                  · rw [if_neg c10] at H
                    exact absurd H (by simp)
                · rw [if_neg c9] at H
                  exact absurd H (by simp)
            · rw [if_neg c6] at H
              exact absurd H (by simp)
          · rw [if_neg c5] at H
            have c5b0 : decide (0 < (x5_1.length : Int)) = false := decide_eq_false c5
            have c5b1 : decide (0 < x5_1.length) = false := decide_eq_false (by omega)
            clear c5
            replace H := Option.bind_eq_some_iff.mp H
            obtain ⟨t307, A310, H⟩ := H
            replace H : ((bytes_Equal.f t307 l0).bind fun t310 => (if t310 = true then (some (x4_1, 0)) else (some (([] : List Int), 4)))) = some (r1, r2) := H
            have A31 := Aside0.mk A310
            clear A310
            replace H := Option.bind_eq_some_iff.mp H
            obtain ⟨t310, A320, H⟩ := H
            replace H : (if t310 = true then (some (x4_1, 0)) else (some (([] : List Int), 4))) = some (r1, r2) := H
            have A32 := Aside0.mk A320
            clear A320
            by_cases c33 : t310 = true
            · subst c33
              have H1 : (some (x4_1, 0)) = some (r1, r2) := by rw [if_pos rfl] at H; exact H
              clear H
              have H := H1
              clear H1
              simp only [Option.some.injEq, Prod.mk.injEq] at H
              obtain ⟨rfl, rfl⟩ := H
              obtain ⟨Ao34, co34, eo34⟩ := Kd.V_slice HO_5.out
              subst eo34
              obtain ⟨Ao35, co35, eo35⟩ := Kd.R_slice HO_4.out
              subst eo35
              go_wp2_with (first | ((with_reducible refine gate_callee (f := 28) rfl ?_); refine goesL_ (some 44) rfl rfl Try.func28 (by kernel_rfl) rfl #[.slice Ao35 x4_1.length co35] rfl (by (try simp only [List.map_toArray, List.map_cons, List.map_nil]); first | done | rfl | (simp only [List.length_drop, List.length_take]; rfl)) ?_; (with_reducible refine (cobs_Stuff.calls k1 (fun k_ => some k_ = (.slice Ao35 x4_1.length co35 : Value).ownBlock) _ _ x4_1 t307 _ ?side1 A31.out).mono ?_); (case side1 => exact Kd.R_V (Kd.R_tight rfl (HO_4.out))); rintro e w36 ⟨v308, rfl, ho0, hb⟩; refine ⟨_, rfl, ?_⟩; have n0_ := Aside0.mk (Kd.V_elder' (by (with_reducible repeat (first | apply Kd.V_alloc | apply Kd.V_drewN | apply Kd.V_drew)); exact HO_0.out) (Kd.R_base ho0) hb); have n1_ := Aside0.mk (Kd.R_elder' (by (with_reducible repeat (first | apply Kd.R_alloc | apply Kd.R_drewN | apply Kd.R_drew)); exact HO_4.out) (Kd.R_base ho0) hb); have n2_ := Aside0.mk (Kd.V_elder' (by (with_reducible repeat (first | apply Kd.V_alloc | apply Kd.V_drewN | apply Kd.V_drew)); exact HO_5.out) (Kd.R_base ho0) hb); have n3_ := Aside0.mk (Kd.R_lower (Kd.R_new' (Kd.R_newM (M := fun k_ => (w.heap.size ≤ k_)) (Kd.R_mono (ok' := fun k_ => True) ho0 (fun _ hk_ => trivial)) (below_size (by repeat (first | (with_reducible first | exact HB.out | apply below_alloc | apply pw_below_drewN | apply below_drew1) | exact HB.out))) (fun k_ h_ => h_)) (Kd.R_lt (by (with_reducible repeat (first | apply Kd.R_alloc | apply Kd.R_drewN | apply Kd.R_drew)); exact HO_4.out))) (below_size (by repeat (first | (with_reducible first | exact HB.out | apply below_alloc | apply pw_below_drewN | apply below_drew1) | exact HB.out)))); have n4_ := Aside0.mk (below_step (by repeat (first | (with_reducible first | exact HB.out | apply below_alloc | apply pw_below_drewN | apply below_drew1) | exact HB.out)) hb); clear HO_0; clear HO_4; clear HO_5; clear HB; have HO_0 := n0_; have HO_4 := n1_; have HO_5 := n2_; have HO309 := n3_; have HB := n4_; clear n0_ n1_ n2_ n3_ n4_; (try clear hb); (try clear hb2); (try clear hk); (try clear hi); (try clear ho0); obtain ⟨Ao37, co37, eo37⟩ := Kd.R_slice HO309.out; subst eo37) | ((with_reducible refine gate_callee (f := 47) rfl ?_); refine goesL_ (some 46) rfl rfl Try.func47 (by kernel_rfl) rfl #[.slice Ao37 t307.length co37, .slice A0 l0.length c0] rfl (by (try simp only [List.map_toArray, List.map_cons, List.map_nil]); first | done | rfl | (simp only [List.length_drop, List.length_take]; rfl)) ?_; (with_reducible refine (bytes_Equal.calls _ _ t307 _ _ l0 true _ ?side1 ?side2 ?side3 ?side4 A32.out).mono ?_); (case side1 => repeat (first | exact (Kd.R_reads' HO309.out).2.2 | (with_reducible refine Kd.C_alloc ?_ _) | (with_reducible refine Kd.C_drewN ?_ _) | (with_reducible refine Kd.C_drew ?_))); (case side2 => exact (Kd.R_reads' HO309.out).2.1); (case side3 => repeat (first | exact (Kd.V_reads' HO_0.out).2.2 | (with_reducible refine Kd.C_alloc ?_ _) | (with_reducible refine Kd.C_drewN ?_ _) | (with_reducible refine Kd.C_drew ?_))); (case side4 => exact (Kd.V_reads' HO_0.out).2.1); rintro e w' ⟨rfl, ⟨nd, rfl⟩⟩; refine ⟨_, rfl, ?_⟩))
              go_ret2
              exact ⟨_, by first | rfl | (simp [errW_none, errW_some] <;> rfl) | (simp [*, errW_none, errW_some] <;> rfl), by (with_reducible repeat (first | apply Kd.R_alloc | apply Kd.R_drewN | apply Kd.R_drew)); exact Kd.R_mono HO_4.out (fun _ hk => hk.1), by repeat (first | (with_reducible first | exact HB.out | apply below_alloc | apply pw_below_drewN | apply below_drew1) | exact HB.out)⟩
            · replace c33 := Bool.eq_false_iff.mpr c33
              subst c33
              have H1 : (some (([] : List Int), 4)) = some (r1, r2) := by rw [if_neg (show ¬ (false = true) by decide)] at H; exact H
              clear H
              have H := H1
              clear H1
              simp only [Option.some.injEq, Prod.mk.injEq] at H
              obtain ⟨rfl, rfl⟩ := H
              obtain ⟨Ao38, co38, eo38⟩ := Kd.V_slice HO_5.out
              subst eo38
              obtain ⟨Ao39, co39, eo39⟩ := Kd.R_slice HO_4.out
              subst eo39
              go_wp2_with (first | ((with_reducible refine gate_callee (f := 28) rfl ?_); refine goesL_ (some 44) rfl rfl Try.func28 (by kernel_rfl) rfl #[.slice Ao39 x4_1.length co39] rfl (by (try simp only [List.map_toArray, List.map_cons, List.map_nil]); first | done | rfl | (simp only [List.length_drop, List.length_take]; rfl)) ?_; (with_reducible refine (cobs_Stuff.calls k1 (fun k_ => some k_ = (.slice Ao39 x4_1.length co39 : Value).ownBlock) _ _ x4_1 t307 _ ?side1 A31.out).mono ?_); (case side1 => exact Kd.R_V (Kd.R_tight rfl (HO_4.out))); rintro e w40 ⟨v308, rfl, ho0, hb⟩; refine ⟨_, rfl, ?_⟩; have n0_ := Aside0.mk (Kd.V_elder' (by (with_reducible repeat (first | apply Kd.V_alloc | apply Kd.V_drewN | apply Kd.V_drew)); exact HO_0.out) (Kd.R_base ho0) hb); have n1_ := Aside0.mk (Kd.R_elder' (by (with_reducible repeat (first | apply Kd.R_alloc | apply Kd.R_drewN | apply Kd.R_drew)); exact HO_4.out) (Kd.R_base ho0) hb); have n2_ := Aside0.mk (Kd.V_elder' (by (with_reducible repeat (first | apply Kd.V_alloc | apply Kd.V_drewN | apply Kd.V_drew)); exact HO_5.out) (Kd.R_base ho0) hb); have n3_ := Aside0.mk (Kd.R_lower (Kd.R_new' (Kd.R_newM (M := fun k_ => (w.heap.size ≤ k_)) (Kd.R_mono (ok' := fun k_ => True) ho0 (fun _ hk_ => trivial)) (below_size (by repeat (first | (with_reducible first | exact HB.out | apply below_alloc | apply pw_below_drewN | apply below_drew1) | exact HB.out))) (fun k_ h_ => h_)) (Kd.R_lt (by (with_reducible repeat (first | apply Kd.R_alloc | apply Kd.R_drewN | apply Kd.R_drew)); exact HO_4.out))) (below_size (by repeat (first | (with_reducible first | exact HB.out | apply below_alloc | apply pw_below_drewN | apply below_drew1) | exact HB.out)))); have n4_ := Aside0.mk (below_step (by repeat (first | (with_reducible first | exact HB.out | apply below_alloc | apply pw_below_drewN | apply below_drew1) | exact HB.out)) hb); clear HO_0; clear HO_4; clear HO_5; clear HB; have HO_0 := n0_; have HO_4 := n1_; have HO_5 := n2_; have HO309 := n3_; have HB := n4_; clear n0_ n1_ n2_ n3_ n4_; (try clear hb); (try clear hb2); (try clear hk); (try clear hi); (try clear ho0); obtain ⟨Ao41, co41, eo41⟩ := Kd.R_slice HO309.out; subst eo41) | ((with_reducible refine gate_callee (f := 47) rfl ?_); refine goesL_ (some 46) rfl rfl Try.func47 (by kernel_rfl) rfl #[.slice Ao41 t307.length co41, .slice A0 l0.length c0] rfl (by (try simp only [List.map_toArray, List.map_cons, List.map_nil]); first | done | rfl | (simp only [List.length_drop, List.length_take]; rfl)) ?_; (with_reducible refine (bytes_Equal.calls _ _ t307 _ _ l0 false _ ?side1 ?side2 ?side3 ?side4 A32.out).mono ?_); (case side1 => repeat (first | exact (Kd.R_reads' HO309.out).2.2 | (with_reducible refine Kd.C_alloc ?_ _) | (with_reducible refine Kd.C_drewN ?_ _) | (with_reducible refine Kd.C_drew ?_))); (case side2 => exact (Kd.R_reads' HO309.out).2.1); (case side3 => repeat (first | exact (Kd.V_reads' HO_0.out).2.2 | (with_reducible refine Kd.C_alloc ?_ _) | (with_reducible refine Kd.C_drewN ?_ _) | (with_reducible refine Kd.C_drew ?_))); (case side4 => exact (Kd.V_reads' HO_0.out).2.1); rintro e w' ⟨rfl, ⟨nd, rfl⟩⟩; refine ⟨_, rfl, ?_⟩))
              go_ret2
              exact ⟨_, by first | rfl | (simp [errW_none, errW_some] <;> rfl) | (simp [*, errW_none, errW_some] <;> rfl), by first | exact Kd.R_nil _ _ _ _ _ | exact Kd.N_nil _ _ _ _ _ | exact Kd.V_nil _ _ _ _ _ | exact Kd.Q_nil _ _ _ _ _ | exact Kd.S_nil _ _ _ _ _, by repeat (first | (with_reducible first | exact HB.out | apply below_alloc | apply pw_below_drewN | apply below_drew1) | exact HB.out)⟩

end Go.Proofs.Ytdpghobknhkikaa.G
