-- Written by gprint.py (the kit's print.py with contracts of my own taken as given)
import Derived.Test.YtnmdckgaljldhaaGx0
import Derived.Test.YtnmdckgaljldhaaGx3
import Derived.Test.YtnmdckgaljldhaaHFenceG
import Derived.Test.YtnmdckgaljldhaaHFenceRange
import Derived.Test.YtnmdckgaljldhaaHTFind
import Derived.Test.YtnmdckgaljldhaaHTSorted
namespace Go.Proofs.Ytnmdckgaljldhaa.G
open Go.RowKit Go.Proofs.YtnmdckgaljldhaaW.PrintWords Go.Proofs.YtnmdckgaljldhaaW.PrintLast Go.Proofs.YtnmdckgaljldhaaW.PrintMore
attribute [local go_sem] max2_int min2_int max_two min_two max_three min_three max_four min_four   -- for this text's walks alone
set_option linter.unusedVariables false
set_option linter.unusedSimpArgs false

/-! ### fasciclelaw12_FenceHolds: function 13 -/
mutual
def fasciclelaw12_FenceHolds.j0 : Nat → List (S81) → Int → Bool → Option (Bool)
  | 0, _, _, _ => none
  | k + 1, x0, x1, x22 => if x22 = true then ((fasciclelaw12_lives.f k).bind fun t186 => (some t186)) else ((table_Sorted.f x0).bind fun t187 => ((fence_Of.f t187).bind fun t190 => (fasciclelaw12_FenceHolds.l0 k t187 t190 (([x1] : List Int)) t187 (t187.length : Int) 0)))
def fasciclelaw12_FenceHolds.l0 : Nat → List (S81) → List Int → List Int → List (S81) → Int → Int → Option (Bool)
  | 0, _, _, _, _, _, _ => none
  | k + 1, x5, x6, x7, x30, x31, x32 => if x32 < x31 then (if 0 ≤ x32 then (if x32 < (x30.length : Int) then (if x7.length < 17592186044416 then (fasciclelaw12_FenceHolds.l0 k x5 x6 (x7 ++ [(rd_T81 x30 x32).f0]) x30 x31 (wrap64 (x32 + 1))) else (none)) else (none)) else (none)) else (fasciclelaw12_FenceHolds.l1 k x5 x6 x7 (x7.length : Int) 0)
def fasciclelaw12_FenceHolds.l1 : Nat → List (S81) → List Int → List Int → Int → Int → Option (Bool)
  | 0, _, _, _, _, _ => none
  | k + 1, x5, x6, x42, x43, x44 => if x44 < x43 then (if 0 ≤ x44 then (if x44 < (x42.length : Int) then ((fence_Range.f x6 (x5.length : Int) (rd x42 x44)).bind fun bt202 => ((table_Find.f x5 (rd x42 x44)).bind fun bt204 => (if bt202.1 < 0 then (fasciclelaw12_FenceHolds.j3 k x5 x6 bt202.1 bt202.2 bt204.1 bt204.2 x42 x43 x44 true) else (if bt202.2 > (x5.length : Int) then (fasciclelaw12_FenceHolds.j3 k x5 x6 bt202.1 bt202.2 bt204.1 bt204.2 x42 x43 x44 true) else (if bt202.1 > bt202.2 then (fasciclelaw12_FenceHolds.j3 k x5 x6 bt202.1 bt202.2 bt204.1 bt204.2 x42 x43 x44 true) else (if (Int.tmod bt202.1 16) = 0 then (if bt204.1 < bt204.2 then (if bt204.1 < bt202.1 then (fasciclelaw12_FenceHolds.j3 k x5 x6 bt202.1 bt202.2 bt204.1 bt204.2 x42 x43 x44 true) else (fasciclelaw12_FenceHolds.j3 k x5 x6 bt202.1 bt202.2 bt204.1 bt204.2 x42 x43 x44 (decide (bt204.2 > bt202.2)))) else (fasciclelaw12_FenceHolds.j3 k x5 x6 bt202.1 bt202.2 bt204.1 bt204.2 x42 x43 x44 false)) else (fasciclelaw12_FenceHolds.j3 k x5 x6 bt202.1 bt202.2 bt204.1 bt204.2 x42 x43 x44 true))))))) else (none)) else (none)) else (some true)
def fasciclelaw12_FenceHolds.j3 : Nat → List (S81) → List Int → Int → Int → Int → Int → List Int → Int → Int → Bool → Option (Bool)
  | 0, _, _, _, _, _, _, _, _, _, _ => none
  | k + 1, x5, x6, x12, x13, x14, x15, x42, x43, x44, x94 => if x94 = true then (some false) else (if (wrap64 (x13 - x12)) > (wrap64 (16 * (wrap64 ((wrap64 (Int.tdiv (wrap64 ((wrap64 (x15 - x14)) + 15)) 16)) + 2)))) then (some false) else (fasciclelaw12_FenceHolds.l1 k x5 x6 x42 x43 (wrap64 (x44 + 1))))
end
def fasciclelaw12_FenceHolds.f (k : Nat) (l0 : List (S81)) (a1 : Int) : Option (Bool) := (fasciclelaw12_lives.f k).bind fun t185 => (if t185 = true then (fasciclelaw12_FenceHolds.j0 k l0 a1 (decide ((l0.length : Int) > 150))) else (fasciclelaw12_FenceHolds.j0 k l0 a1 true))
theorem fasciclelaw12_FenceHolds.mono_l : ∀ k, (∀ y0 y1 y2, LeO (fasciclelaw12_FenceHolds.j0 k y0 y1 y2) (fasciclelaw12_FenceHolds.j0 (k + 1) y0 y1 y2)) ∧ (∀ y0 y1 y2 y3 y4 y5, LeO (fasciclelaw12_FenceHolds.l0 k y0 y1 y2 y3 y4 y5) (fasciclelaw12_FenceHolds.l0 (k + 1) y0 y1 y2 y3 y4 y5)) ∧ (∀ y0 y1 y2 y3 y4, LeO (fasciclelaw12_FenceHolds.l1 k y0 y1 y2 y3 y4) (fasciclelaw12_FenceHolds.l1 (k + 1) y0 y1 y2 y3 y4)) ∧ (∀ y0 y1 y2 y3 y4 y5 y6 y7 y8 y9, LeO (fasciclelaw12_FenceHolds.j3 k y0 y1 y2 y3 y4 y5 y6 y7 y8 y9) (fasciclelaw12_FenceHolds.j3 (k + 1) y0 y1 y2 y3 y4 y5 y6 y7 y8 y9))
  | 0 => ⟨fun _ _ _ r h => by simp [fasciclelaw12_FenceHolds.j0] at h, fun _ _ _ _ _ _ r h => by simp [fasciclelaw12_FenceHolds.l0] at h, fun _ _ _ _ _ r h => by simp [fasciclelaw12_FenceHolds.l1] at h, fun _ _ _ _ _ _ _ _ _ _ r h => by simp [fasciclelaw12_FenceHolds.j3] at h⟩
  | k + 1 => by
    obtain ⟨ih0, ih1, ih2, ih3⟩ := fasciclelaw12_FenceHolds.mono_l k
    refine ⟨?_, ?_, ?_, ?_⟩
    · intro y0 y1 y2
      unfold fasciclelaw12_FenceHolds.j0
      repeat' first
      | (with_reducible exact ih0 _ _ _)
      | (with_reducible exact ih1 _ _ _ _ _ _)
      | (with_reducible exact ih2 _ _ _ _ _)
      | (with_reducible exact ih3 _ _ _ _ _ _ _ _ _ _)
      | (with_reducible exact fasciclelaw12_lives.mono _)
      | (with_reducible exact LeO.refl _)
      | (with_reducible exact LeO.none _)
      | (with_reducible refine LeO.ite ?_ ?_)
      | (with_reducible refine LeO.bind ?_ (fun _ => ?_))
      | exact ih0 _ _ _
      | exact ih1 _ _ _ _ _ _
      | exact ih2 _ _ _ _ _
      | exact ih3 _ _ _ _ _ _ _ _ _ _
      | exact fasciclelaw12_lives.mono _
      | exact LeO.none _
      | refine LeO.ite ?_ ?_
      | refine LeO.bind ?_ (fun _ => ?_)
    · intro y0 y1 y2 y3 y4 y5
      unfold fasciclelaw12_FenceHolds.l0
      repeat' first
      | (with_reducible exact ih0 _ _ _)
      | (with_reducible exact ih1 _ _ _ _ _ _)
      | (with_reducible exact ih2 _ _ _ _ _)
      | (with_reducible exact ih3 _ _ _ _ _ _ _ _ _ _)
      | (with_reducible exact fasciclelaw12_lives.mono _)
      | (with_reducible exact LeO.refl _)
      | (with_reducible exact LeO.none _)
      | (with_reducible refine LeO.ite ?_ ?_)
      | (with_reducible refine LeO.bind ?_ (fun _ => ?_))
      | exact ih0 _ _ _
      | exact ih1 _ _ _ _ _ _
      | exact ih2 _ _ _ _ _
      | exact ih3 _ _ _ _ _ _ _ _ _ _
      | exact fasciclelaw12_lives.mono _
      | exact LeO.none _
      | refine LeO.ite ?_ ?_
      | refine LeO.bind ?_ (fun _ => ?_)
    · intro y0 y1 y2 y3 y4
      unfold fasciclelaw12_FenceHolds.l1
      repeat' first
      | (with_reducible exact ih0 _ _ _)
      | (with_reducible exact ih1 _ _ _ _ _ _)
      | (with_reducible exact ih2 _ _ _ _ _)
      | (with_reducible exact ih3 _ _ _ _ _ _ _ _ _ _)
      | (with_reducible exact fasciclelaw12_lives.mono _)
      | (with_reducible exact LeO.refl _)
      | (with_reducible exact LeO.none _)
      | (with_reducible refine LeO.ite ?_ ?_)
      | (with_reducible refine LeO.bind ?_ (fun _ => ?_))
      | exact ih0 _ _ _
      | exact ih1 _ _ _ _ _ _
      | exact ih2 _ _ _ _ _
      | exact ih3 _ _ _ _ _ _ _ _ _ _
      | exact fasciclelaw12_lives.mono _
      | exact LeO.none _
      | refine LeO.ite ?_ ?_
      | refine LeO.bind ?_ (fun _ => ?_)
    · intro y0 y1 y2 y3 y4 y5 y6 y7 y8 y9
      unfold fasciclelaw12_FenceHolds.j3
      repeat' first
      | (with_reducible exact ih0 _ _ _)
      | (with_reducible exact ih1 _ _ _ _ _ _)
      | (with_reducible exact ih2 _ _ _ _ _)
      | (with_reducible exact ih3 _ _ _ _ _ _ _ _ _ _)
      | (with_reducible exact fasciclelaw12_lives.mono _)
      | (with_reducible exact LeO.refl _)
      | (with_reducible exact LeO.none _)
      | (with_reducible refine LeO.ite ?_ ?_)
      | (with_reducible refine LeO.bind ?_ (fun _ => ?_))
      | exact ih0 _ _ _
      | exact ih1 _ _ _ _ _ _
      | exact ih2 _ _ _ _ _
      | exact ih3 _ _ _ _ _ _ _ _ _ _
      | exact fasciclelaw12_lives.mono _
      | exact LeO.none _
      | refine LeO.ite ?_ ?_
      | refine LeO.bind ?_ (fun _ => ?_)
theorem fasciclelaw12_FenceHolds.mono : ∀ a0 a1 k, LeO (fasciclelaw12_FenceHolds.f k a0 a1) (fasciclelaw12_FenceHolds.f (k + 1) a0 a1) := by
  intro a0 a1 k
  obtain ⟨ih0, ih1, ih2, ih3⟩ := fasciclelaw12_FenceHolds.mono_l k
  unfold fasciclelaw12_FenceHolds.f
  repeat' first
      | (with_reducible exact ih0 _ _ _)
      | (with_reducible exact ih1 _ _ _ _ _ _)
      | (with_reducible exact ih2 _ _ _ _ _)
      | (with_reducible exact ih3 _ _ _ _ _ _ _ _ _ _)
      | (with_reducible exact fasciclelaw12_lives.mono _)
      | (with_reducible exact LeO.refl _)
      | (with_reducible exact LeO.none _)
      | (with_reducible refine LeO.ite ?_ ?_)
      | (with_reducible refine LeO.bind ?_ (fun _ => ?_))
      | exact ih0 _ _ _
      | exact ih1 _ _ _ _ _ _
      | exact ih2 _ _ _ _ _
      | exact ih3 _ _ _ _ _ _ _ _ _ _
      | exact fasciclelaw12_lives.mono _
      | exact LeO.none _
      | refine LeO.ite ?_ ?_
      | refine LeO.bind ?_ (fun _ => ?_)
set_option maxHeartbeats 8000000 in
set_option maxRecDepth 100000 in
theorem fasciclelaw12_FenceHolds.calls (k : Nat) (A0 : Option Addr) (c0 : Nat) (l0 : List (S81)) (a1 : Int) (r : Bool) (w : World) (hr0 : Kd.C k81 w A0 l0.length l0) (hc0 : l0.length ≤ c0) (h : fasciclelaw12_FenceHolds.f k l0 a1 = some r) :
    Calls Try.prog 13 #[.slice A0 l0.length c0, .int .u64 a1] w fun e w' => e = .returned (.bool r) ∧ Below w.heap.size w w' := by
  have hu81 := Try.underlying81
  have HR0 := Aside0.mk hr0
  have HC0 := Aside0.mk hc0
  clear hr0 hc0
  have HB := Aside0.mk (Below.refl w.heap.size w)
  have H : ((fasciclelaw12_lives.f k).bind fun t185 => (if t185 = true then (fasciclelaw12_FenceHolds.j0 k l0 a1 (decide ((l0.length : Int) > 150))) else (fasciclelaw12_FenceHolds.j0 k l0 a1 true))) = some r := h
  clear h
  have HC3 := Aside0.mk H
  clear H
  go_enter Try.func13, Try.ntmps13
  go_upto_region 1 with (fail)
  go_cut [22] (fun v22 wc => ∃ (kq : Nat) (x22_2 : Bool), v22 = .bool x22_2 ∧ Aside0 (fasciclelaw12_FenceHolds.j0 kq l0 a1 x22_2 = some r) ∧ Aside0 (kq ≤ k) ∧ Aside0 (Below w.heap.size w wc))
  case first =>
    have H := HC3.out
    clear HC3
    replace H := Option.bind_eq_some_iff.mp H
    obtain ⟨t185, A40, H⟩ := H
    replace H : (if t185 = true then (fasciclelaw12_FenceHolds.j0 k l0 a1 (decide ((l0.length : Int) > 150))) else (fasciclelaw12_FenceHolds.j0 k l0 a1 true)) = some r := H
    have A4 := Aside0.mk A40
    clear A40
    by_cases c5 : t185 = true
    · subst c5
      have H1 : (fasciclelaw12_FenceHolds.j0 k l0 a1 (decide ((l0.length : Int) > 150))) = some r := by rw [if_pos rfl] at H; exact H
      clear H
      have H := H1
      clear H1
      have H' := Aside0.mk H
      clear H
      go_wp2_with (first | ((with_reducible refine gate_callee (f := 16) rfl ?_); refine goesL_ (some 16) rfl rfl Try.func16 (by kernel_rfl) rfl #[] rfl (by (try simp only [List.map_toArray, List.map_cons, List.map_nil]); first | done | rfl | (simp only [List.length_drop, List.length_take]; rfl) | (refine congrArg (fun z => #[Value.int .u64 z]) ?_; rw [IntKind.wrap_u64]; omega)) ?_; (with_reducible refine (fasciclelaw12_lives.calls k  true _ A4.out).mono ?_); rintro e w6 ⟨rfl, hb⟩; refine ⟨_, rfl, ?_⟩; have n0_ := Aside0.mk (below_step (by repeat (first | (with_reducible first | exact HB.out | apply below_alloc | apply pw_below_drewN | apply below_drew1) | exact HB.out)) hb); clear HB; have HB := n0_; clear n0_; (try clear hb); (try clear hb2); (try clear hk); (try clear hi)))
      go_meet
      case rel => exact ⟨_, (decide ((l0.length : Int) > 150)), (by first | rfl | (simp; done) | (simp [*]; done) | (simp; exact (fun l : List UInt8 => (by cases l <;> rfl : l.isEmpty = !(l != ([] : List UInt8)))) _)), H', ⟨by first | omega | exact Nat.le_refl _⟩, ⟨by repeat (first | (with_reducible first | exact HB.out | apply below_alloc | apply pw_below_drewN | apply below_drew1) | exact HB.out)⟩⟩
    · replace c5 := Bool.eq_false_iff.mpr c5
      subst c5
      have H1 : (fasciclelaw12_FenceHolds.j0 k l0 a1 true) = some r := by rw [if_neg (show ¬ (false = true) by decide)] at H; exact H
      clear H
      have H := H1
      clear H1
      have H' := Aside0.mk H
      clear H
      go_wp2_with (first | ((with_reducible refine gate_callee (f := 16) rfl ?_); refine goesL_ (some 16) rfl rfl Try.func16 (by kernel_rfl) rfl #[] rfl (by (try simp only [List.map_toArray, List.map_cons, List.map_nil]); first | done | rfl | (simp only [List.length_drop, List.length_take]; rfl) | (refine congrArg (fun z => #[Value.int .u64 z]) ?_; rw [IntKind.wrap_u64]; omega)) ?_; (with_reducible refine (fasciclelaw12_lives.calls k  false _ A4.out).mono ?_); rintro e w7 ⟨rfl, hb⟩; refine ⟨_, rfl, ?_⟩; have n0_ := Aside0.mk (below_step (by repeat (first | (with_reducible first | exact HB.out | apply below_alloc | apply pw_below_drewN | apply below_drew1) | exact HB.out)) hb); clear HB; have HB := n0_; clear n0_; (try clear hb); (try clear hb2); (try clear hk); (try clear hi)))
      go_meet
      case rel => exact ⟨_, (true), (by first | rfl | (simp; done) | (simp [*]; done) | (simp; exact (fun l : List UInt8 => (by cases l <;> rfl : l.isEmpty = !(l != ([] : List UInt8)))) _)), H', ⟨by first | omega | exact Nat.le_refl _⟩, ⟨by repeat (first | (with_reducible first | exact HB.out | apply below_alloc | apply pw_below_drewN | apply below_drew1) | exact HB.out)⟩⟩
  case rest =>
    clear HC3
    try clear c1
    try clear p2
    try clear c5
    obtain ⟨kq, x22_2, rfl, HA, HJ2, HB⟩ := hcut
    cases kq with
    | zero => exact absurd HA.out (by simp [fasciclelaw12_FenceHolds.j0])
    | succ kj2 =>
      have H := HA.out
      clear HA
      simp only [fasciclelaw12_FenceHolds.j0] at H
      by_cases c8 : x22_2 = true
      · subst c8
        have H1 : ((fasciclelaw12_lives.f kj2).bind fun t186 => (some t186)) = some r := by rw [if_pos rfl] at H; exact H
        clear H
        have H := H1
        clear H1
        replace H := Option.bind_eq_some_iff.mp H
        obtain ⟨t186, A90, H⟩ := H
        replace H : (some t186) = some r := H
        have A9 := Aside0.mk A90
        clear A90
        obtain rfl := Option.some.inj H
        go_wp2_with (first | ((with_reducible refine gate_callee (f := 16) rfl ?_); refine goesL_ (some 23) rfl rfl Try.func16 (by kernel_rfl) rfl #[] rfl (by (try simp only [List.map_toArray, List.map_cons, List.map_nil]); first | done | rfl | (simp only [List.length_drop, List.length_take]; rfl) | (refine congrArg (fun z => #[Value.int .u64 z]) ?_; rw [IntKind.wrap_u64]; omega)) ?_; (with_reducible refine (fasciclelaw12_lives.calls kj2  t186 _ A9.out).mono ?_); rintro e w10 ⟨rfl, hb⟩; refine ⟨_, rfl, ?_⟩; have n0_ := Aside0.mk (below_step (by repeat (first | (with_reducible first | exact HB.out | apply below_alloc | apply pw_below_drewN | apply below_drew1) | exact HB.out)) hb); clear HB; have HB := n0_; clear n0_; (try clear hb); (try clear hb2); (try clear hk); (try clear hi)))
        go_ret
        exact ⟨by first | rfl | (simp [errW_none, errW_some] <;> rfl) | (simp [*, errW_none, errW_some] <;> rfl), by repeat (first | (with_reducible first | exact HB.out | apply below_alloc | apply pw_below_drewN | apply below_drew1) | exact HB.out)⟩
      · replace c8 := Bool.eq_false_iff.mpr c8
        subst c8
        have H1 : ((table_Sorted.f l0).bind fun t187 => ((fence_Of.f t187).bind fun t190 => (fasciclelaw12_FenceHolds.l0 kj2 t187 t190 (([a1] : List Int)) t187 (t187.length : Int) 0))) = some r := by rw [if_neg (show ¬ (false = true) by decide)] at H; exact H
        clear H
        have H := H1
        clear H1
        replace H := Option.bind_eq_some_iff.mp H
        obtain ⟨t187, A110, H⟩ := H
        replace H : ((fence_Of.f t187).bind fun t190 => (fasciclelaw12_FenceHolds.l0 kj2 t187 t190 (([a1] : List Int)) t187 (t187.length : Int) 0)) = some r := H
        have A11 := Aside0.mk A110
        clear A110
        replace H := Option.bind_eq_some_iff.mp H
        obtain ⟨t190, A120, H⟩ := H
        replace H : (fasciclelaw12_FenceHolds.l0 kj2 t187 t190 (([a1] : List Int)) t187 (t187.length : Int) 0) = some r := H
        have A12 := Aside0.mk A120
        clear A120
        obtain ⟨y193, hy193⟩ : ∃ y_ : List Int, y_ = (([a1] : List Int)) := ⟨_, rfl⟩
        replace H : (fasciclelaw12_FenceHolds.l0 kj2 t187 t190 y193 t187 (t187.length : Int) 0) = some r := by first | (rw [hy193]; with_reducible exact H) | (have H2_ := (Option.bind_some _ _).symm.trans H; rw [hy193]; with_reducible exact H2_) | (have H2_ := (Option.bind_some _ _).symm.trans H; with_reducible exact H2_) | with_reducible exact H | (rw [hy193]; exact H) | exact H
        have Ny193 := Aside0.mk hy193
        clear hy193
        have H' := Aside0.mk H
        clear H
        go_wp2_with (first | ((with_reducible refine gate_callee (f := 46) rfl ?_); refine goesL_ (some 25) rfl rfl Try.func46 (by kernel_rfl) rfl #[.slice A0 l0.length c0] rfl (by (try simp only [List.map_toArray, List.map_cons, List.map_nil]); first | done | rfl | (simp only [List.length_drop, List.length_take]; rfl) | (refine congrArg (fun z => #[Value.int .u64 z]) ?_; rw [IntKind.wrap_u64]; omega)) ?_; (with_reducible refine (table_Sorted.calls _ _ l0 t187 _ ?side1 ?side2 A11.out).mono ?_); (case side1 => repeat (first | exact (Kd.C_below HR0.out HB.out) | (with_reducible refine Kd.C_alloc ?_ _) | (with_reducible refine Kd.C_drewN ?_ _) | (with_reducible refine Kd.C_drew ?_))); (case side2 => exact HC0.out); rintro e w13 ⟨v188, rfl, ho0, hb⟩; refine ⟨_, rfl, ?_⟩; have n0_ := Aside0.mk (Kd.R_lower ho0 (below_size (by repeat (first | (with_reducible first | exact HB.out | apply below_alloc | apply pw_below_drewN | apply below_drew1) | exact HB.out)))); have n1_ := Aside0.mk (below_step (by repeat (first | (with_reducible first | exact HB.out | apply below_alloc | apply pw_below_drewN | apply below_drew1) | exact HB.out)) hb); clear HB; have HO189 := n0_; have HB := n1_; clear n0_ n1_; (try clear hb); (try clear hb2); (try clear hk); (try clear hi); (try clear ho0); obtain ⟨Ao14, co14, eo14⟩ := Kd.R_slice HO189.out; subst eo14) | ((with_reducible refine gate_callee (f := 53) rfl ?_); refine goesL_ (some 27) rfl rfl Try.func53 (by kernel_rfl) rfl #[.slice Ao14 t187.length co14] rfl (by (try simp only [List.map_toArray, List.map_cons, List.map_nil]); first | done | rfl | (simp only [List.length_drop, List.length_take]; rfl) | (refine congrArg (fun z => #[Value.int .u64 z]) ?_; rw [IntKind.wrap_u64]; omega)) ?_; (with_reducible refine (fence_Of.calls _ _ t187 t190 _ ?side1 ?side2 A12.out).mono ?_); (case side1 => repeat (first | exact (Kd.R_reads' HO189.out).2.2 | (with_reducible refine Kd.C_alloc ?_ _) | (with_reducible refine Kd.C_drewN ?_ _) | (with_reducible refine Kd.C_drew ?_))); (case side2 => exact (Kd.R_reads' HO189.out).2.1); rintro e w15 ⟨v191, rfl, ho0, hb⟩; refine ⟨_, rfl, ?_⟩; have n0_ := Aside0.mk (Kd.R_below (by (with_reducible repeat (first | apply Kd.R_alloc | apply Kd.R_drewN | apply Kd.R_drew)); exact HO189.out) hb); have n1_ := Aside0.mk (Kd.R_lower ho0 (below_size (by repeat (first | (with_reducible first | exact HB.out | apply below_alloc | apply pw_below_drewN | apply below_drew1) | exact HB.out)))); have n2_ := Aside0.mk (below_step (by repeat (first | (with_reducible first | exact HB.out | apply below_alloc | apply pw_below_drewN | apply below_drew1) | exact HB.out)) hb); clear HO189; clear HB; have HO189 := n0_; have HO192 := n1_; have HB := n2_; clear n0_ n1_ n2_; (try clear hb); (try clear hb2); (try clear hk); (try clear hi); (try clear ho0)) | ((with_reducible refine gate_dst (N := 29) rfl ?_); (try (refine gate_guard (by rfl) ?_; dsimp only)); refine Kd.R_lit (Kd.int .u64) _ 39 ?hg (N := 29) ?hd (xs := ([a1] : List Int)) (inner := [.int .u64 a1]) (ok := fun _ => True) (okp := fun _ => True) ?hr ?hp (fun _ hk => hk) trivial (Below.refl _ _) (Nat.le_refl _) (by simp) ?_; (case hd => rfl); (case hg => rfl); (case hr => first | (go_simp; done) | (go_simp; rfl)); (case hp => exact (Reps.one (show Kd.M (Kd.int .u64) _ _ _ a1 [.int .u64 a1] from rfl) (Reps.none _ _))); intro v194 w16 ho17 hb hg_ hnew_; clear hg_ hnew_; (first | rw [← Ny193.out] at ho17 | (simp only [Int.reduceToNat] at ho17; rw [← Ny193.out] at ho17)); have n0_ := Aside0.mk (Kd.R_below (by (with_reducible repeat (first | apply Kd.R_alloc | apply Kd.R_drewN | apply Kd.R_drew)); exact HO189.out) hb); have n1_ := Aside0.mk (Kd.R_elder' (by (with_reducible repeat (first | apply Kd.R_alloc | apply Kd.R_drewN | apply Kd.R_drew)); exact HO192.out) (Kd.R_base ho17) hb); have n2_ := Aside0.mk (Kd.R_lower (Kd.R_new' ho17 (Kd.R_lt (by (with_reducible repeat (first | apply Kd.R_alloc | apply Kd.R_drewN | apply Kd.R_drew)); exact HO192.out))) (below_size (by repeat (first | (with_reducible first | exact HB.out | apply below_alloc | apply pw_below_drewN | apply below_drew1) | exact HB.out)))); have n3_ := Aside0.mk (below_step (by repeat (first | (with_reducible first | exact HB.out | apply below_alloc | apply pw_below_drewN | apply below_drew1) | exact HB.out)) hb); clear HO189; clear HO192; clear HB; have HO189 := n0_; have HO192 := n1_; have HO195 := n2_; have HB := n3_; clear n0_ n1_ n2_ n3_; clear hb ho17))
        go_loopg [7, 32] kj2 (fun kq v7 v32 w' => ∃ (x7_2 : List Int) (x32_2 : Int), v32 = .int .i64 x32_2 ∧ Aside0 (fasciclelaw12_FenceHolds.l0 kq t187 t190 x7_2 t187 (t187.length : Int) x32_2 = some r) ∧ Aside0 (kq ≤ kj2) ∧ Aside0 (Kd.R k81 81 w' w.heap.size (fun _ => True) (.slice Ao14 t187.length co14) t187) ∧ Aside0 (Kd.R (Kd.int .u64) 39 w' w.heap.size (fun k_ => some k_ ≠ (v7 : Value).ownBlock) v191 t190) ∧ Aside0 (Kd.R (Kd.int .u64) 39 w' w.heap.size (fun k_ => some k_ ≠ (v191 : Value).ownBlock) v7 x7_2) ∧ Aside0 (Kd.R k81 81 w' w.heap.size (fun _ => True) (.slice Ao14 t187.length co14) t187) ∧ Aside0 (Below w.heap.size w w'))
        case atStart => exact ⟨(y193), (0), (by first | rfl | (simp; done) | (simp [*]; done) | (simp; exact (fun l : List UInt8 => (by cases l <;> rfl : l.isEmpty = !(l != ([] : List UInt8)))) _)), H', ⟨Nat.le_refl _⟩, ⟨by (with_reducible repeat (first | apply Kd.R_alloc | apply Kd.R_drewN | apply Kd.R_drew)); exact HO189.out⟩, ⟨by (with_reducible repeat (first | apply Kd.R_alloc | apply Kd.R_drewN | apply Kd.R_drew)); exact Kd.R_mono HO192.out (fun _ hk => by first | exact hk.2 | exact hk)⟩, ⟨by (with_reducible repeat (first | apply Kd.R_alloc | apply Kd.R_drewN | apply Kd.R_drew)); exact Kd.R_mono HO195.out (fun _ hk => by first | exact hk.2 | exact hk)⟩, ⟨by (with_reducible repeat (first | apply Kd.R_alloc | apply Kd.R_drewN | apply Kd.R_drew)); exact HO189.out⟩, ⟨by repeat (first | (with_reducible first | exact HB.out | apply below_alloc | apply pw_below_drewN | apply below_drew1) | exact HB.out)⟩⟩
        case round =>
          clear H'
          try clear c1
          try clear p2
          try clear c4
          try clear c5
          try clear c8
          try clear c13
          try clear c16
          try clear p2
          obtain ⟨x7_2, x32_2, rfl, HA, HK2, HO_5, HO_6, HO_7, HO_30, HB⟩ := hrel
          cases gk with
          | zero => exact absurd HA.out (by simp [fasciclelaw12_FenceHolds.l0])
          | succ k2 =>
            have H := HA.out
            clear HA
            simp only [fasciclelaw12_FenceHolds.l0] at H
            by_cases c18 : x32_2 < (t187.length : Int)
            · rw [if_pos c18] at H
              have c18b0 : decide (x32_2 < (t187.length : Int)) = true := decide_eq_true c18
              clear c18
              by_cases c19 : 0 ≤ x32_2
              · rw [if_pos c19] at H
                have c19b0 : decide (0 ≤ x32_2) = true := decide_eq_true c19
                clear c19
                by_cases c20 : x32_2 < (t187.length : Int)
                · rw [if_pos c20] at H
                  have c20b0 : decide (x32_2 < (t187.length : Int)) = true := decide_eq_true c20
                  clear c20
                  by_cases c21 : x7_2.length < 17592186044416
                  · rw [if_pos c21] at H
                    have LMc21 := Aside0.mk c21
                    clear c21
                    obtain ⟨y198, hy198⟩ : ∃ y_ : List Int, y_ = (x7_2 ++ [(rd_T81 t187 x32_2).f0]) := ⟨_, rfl⟩
                    replace H : (fasciclelaw12_FenceHolds.l0 k2 t187 t190 y198 t187 (t187.length : Int) (wrap64 (x32_2 + 1))) = some r := by first | (rw [hy198]; with_reducible exact H) | (have H2_ := (Option.bind_some _ _).symm.trans H; rw [hy198]; with_reducible exact H2_) | (have H2_ := (Option.bind_some _ _).symm.trans H; with_reducible exact H2_) | with_reducible exact H | (rw [hy198]; exact H) | exact H
                    have Ny198 := Aside0.mk hy198
                    clear hy198
                    have H' := Aside0.mk H
                    clear H
                    have p196 : 0 ≤ (x32_2 : Int) := of_decide_eq_true (by first | (with_reducible assumption) | assumption)
                    have q196 : x32_2 < (t187.length : Int) := of_decide_eq_true (by first | (with_reducible assumption) | assumption)
                    obtain ⟨ad196, e196, hx196_0, hx196_1⟩ := at_T81 (Kd.R_reads' HO_30.out).2.2 x32_2 p196 q196
                    cases e196
                    replace p196 := eq_true p196
                    replace q196 := eq_true q196
                    go_wp2_with (first | ((with_reducible refine gate_dst (N := 9) rfl ?_); (try (refine gate_guard (by rfl) ?_; dsimp only)); refine box_event ?hg (N := 9) ?hd (cs := #[.int .u64 0, .int .u32 0]) (t := 81) ?hr ?_; (case hd => rfl); (case hg => rfl); (case hr => first | (go_simp; done) | (go_simp; rfl)); intro gb197 hg w22 hbox hb; have n0_ := Aside0.mk (Kd.R_below (Kd.R_elderB (by (with_reducible repeat (first | apply Kd.R_alloc | apply Kd.R_drewN | apply Kd.R_drew)); exact HO_5.out) gb197 (Nat.le_of_eq hg.symm)) hb); have n1_ := Aside0.mk (Kd.R_below (by (with_reducible repeat (first | apply Kd.R_alloc | apply Kd.R_drewN | apply Kd.R_drew)); exact HO_6.out) hb); have n2_ := Aside0.mk (Kd.R_below (by (with_reducible repeat (first | apply Kd.R_alloc | apply Kd.R_drewN | apply Kd.R_drew)); exact HO_7.out) hb); have n3_ := Aside0.mk (Kd.R_below (Kd.R_elderB (by (with_reducible repeat (first | apply Kd.R_alloc | apply Kd.R_drewN | apply Kd.R_drew)); exact HO_30.out) gb197 (Nat.le_of_eq hg.symm)) hb); have n4_ := Aside0.mk (below_step (by repeat (first | (with_reducible first | exact HB.out | apply below_alloc | apply pw_below_drewN | apply below_drew1) | exact HB.out)) hb); have n5_ := Aside0.mk (hbox); have n6_ := Aside0.mk ((by rw [hg]; exact (below_size (by repeat (first | (with_reducible first | exact HB.out | apply below_alloc | apply pw_below_drewN | apply below_drew1) | exact HB.out))) : w.heap.size ≤ gb197)); have n7_ := Aside0.mk ((by rw [hg]; exact (below_size (by repeat (first | (with_reducible first | exact HB.out | apply below_alloc | apply pw_below_drewN | apply below_drew1) | exact HB.out))) : w.heap.size ≤ gb197)); clear HO_5; clear HO_6; clear HO_7; clear HO_30; clear HB; have HO_5 := n0_; have HO_6 := n1_; have HO_7 := n2_; have HO_30 := n3_; have HB := n4_; have BK197 := n5_; have GW197 := n6_; have GE197 := n7_; clear n0_ n1_ n2_ n3_ n4_ n5_ n6_ n7_; clear hb hbox hg; have hcz23_0 : w22.cell? ⟨gb197, 0, none⟩ = some (.int .u64 0) := (blk_cell BK197.out 0).trans rfl; have hcz23_1 : w22.cell? ⟨gb197, 1, none⟩ = some (.int .u32 0) := (blk_cell BK197.out 1).trans rfl; have hfz23_0 := blk_frozen BK197.out 0; have hfz23_1 := blk_frozen BK197.out 1) | ((with_reducible refine gate_builtin (b := .append) (xs := #[.tmp 36, .tmp 39]) rfl ?_); (try (refine gate_guard (by rfl) ?_; dsimp only)); at_builtin; refine Kd.R_append (Kd.int .u64) (w0 := w) w.heap.size rfl (.tmp 36) (.tmp 39) 26 39 (.int .u64 0) 8 rfl Try.underlying26 info39 rfl (by decide) (by omega) u7 x7_2 ((rd_T81 t187 x32_2).f0) [.int .u64 ((rd_T81 t187 x32_2).f0)] (fun k_ => some k_ ≠ (v191 : Value).ownBlock) (fun _ => False) rfl (by first | (go_simp; done) | (go_simp; rfl)) ?aP (fun _ hk => hk.elim) ?aF ?aO ?aB ?aS ?aL ?_; (case aP => exact rfl); (case aB => exact (by repeat (first | (with_reducible first | exact HB.out | apply below_alloc | apply pw_below_drewN | apply below_drew1 | refine below_set ?_ GE197.out) | exact HB.out))); (case aF => exact (fun k_ hk => Kd.fresh' (Kd.R_lt (by (with_reducible repeat (first | apply Kd.R_alloc | apply Kd.R_drewN | apply Kd.R_drew)); exact (Kd.R_mono (Kd.R_far (p := ⟨gb197, 1, none⟩) (Kd.R_far (p := ⟨gb197, 0, none⟩) (Kd.R_types HO_6.out BK197.out (by decide)) (fun _ hk => by first | exact hk.2 | exact hk) (.int .u64 ((rd_T81 t187 x32_2).f0))) (fun _ hk => by first | exact hk.2 | exact hk) (.int .u32 ((rd_T81 t187 x32_2).f1))) (fun _ h_ => h_.1)))) k_ hk)); (case aO => exact (by (with_reducible repeat (first | apply Kd.R_alloc | apply Kd.R_drewN | apply Kd.R_drew)); exact Kd.R_mono (Kd.R_far (p := ⟨gb197, 1, none⟩) (Kd.R_far (p := ⟨gb197, 0, none⟩) (Kd.R_types HO_7.out BK197.out (by decide)) (fun _ hk => by first | exact hk.2 | exact hk) (.int .u64 ((rd_T81 t187 x32_2).f0))) (fun _ hk => by first | exact hk.2 | exact hk) (.int .u32 ((rd_T81 t187 x32_2).f1))) (fun _ hk => hk.1))); (case aS => exact (below_size (by repeat (first | (with_reducible first | exact HB.out | apply below_alloc | apply pw_below_drewN | apply below_drew1 | refine below_set ?_ GE197.out) | exact HB.out)))); (case aL => have := LMc21.out; omega); intro v199 w24 ho hb hg hat; rw [← Ny198.out] at ho; have n0_ := Aside0.mk (Kd.R_over' (by (with_reducible repeat (first | apply Kd.R_alloc | apply Kd.R_drewN | apply Kd.R_drew)); exact (Kd.R_mono (Kd.R_far (p := ⟨gb197, 1, none⟩) (Kd.R_far (p := ⟨gb197, 0, none⟩) (Kd.R_mono HO_5.out (fun k_ hk => (⟨hk, hk.2⟩ : _ ∧ k_ ≠ gb197))) (fun _ hk => by first | exact hk.2 | exact hk) (.int .u64 ((rd_T81 t187 x32_2).f0))) (fun _ hk => by first | exact hk.2 | exact hk) (.int .u32 ((rd_T81 t187 x32_2).f1))) (fun _ h_ => h_.1))) (Kd.R_typed (by (with_reducible repeat (first | apply Kd.R_alloc | apply Kd.R_drewN | apply Kd.R_drew)); exact (Kd.R_mono (Kd.R_far (p := ⟨gb197, 1, none⟩) (Kd.R_far (p := ⟨gb197, 0, none⟩) (Kd.R_types HO_7.out BK197.out (by decide)) (fun _ hk => by first | exact hk.2 | exact hk) (.int .u64 ((rd_T81 t187 x32_2).f0))) (fun _ hk => by first | exact hk.2 | exact hk) (.int .u32 ((rd_T81 t187 x32_2).f1))) (fun _ h_ => h_.1)))) (by decide) hg); have n1_ := Aside0.mk (Kd.R_after (ok := (fun _ => True)) (by (with_reducible repeat (first | apply Kd.R_alloc | apply Kd.R_drewN | apply Kd.R_drew)); exact Kd.R_mono (Kd.R_far (p := ⟨gb197, 1, none⟩) (Kd.R_far (p := ⟨gb197, 0, none⟩) (Kd.R_types HO_6.out BK197.out (by decide)) (fun _ hk => by first | exact hk.2 | exact hk) (.int .u64 ((rd_T81 t187 x32_2).f0))) (fun _ hk => by first | exact hk.2 | exact hk) (.int .u32 ((rd_T81 t187 x32_2).f1))) (fun _ hk => ⟨trivial, hk.1⟩)) hg hat); have n2_ := Aside0.mk (Kd.R_over' (by (with_reducible repeat (first | apply Kd.R_alloc | apply Kd.R_drewN | apply Kd.R_drew)); exact (Kd.R_mono (Kd.R_far (p := ⟨gb197, 1, none⟩) (Kd.R_far (p := ⟨gb197, 0, none⟩) (Kd.R_mono HO_30.out (fun k_ hk => (⟨hk, hk.2⟩ : _ ∧ k_ ≠ gb197))) (fun _ hk => by first | exact hk.2 | exact hk) (.int .u64 ((rd_T81 t187 x32_2).f0))) (fun _ hk => by first | exact hk.2 | exact hk) (.int .u32 ((rd_T81 t187 x32_2).f1))) (fun _ h_ => h_.1))) (Kd.R_typed (by (with_reducible repeat (first | apply Kd.R_alloc | apply Kd.R_drewN | apply Kd.R_drew)); exact (Kd.R_mono (Kd.R_far (p := ⟨gb197, 1, none⟩) (Kd.R_far (p := ⟨gb197, 0, none⟩) (Kd.R_types HO_7.out BK197.out (by decide)) (fun _ hk => by first | exact hk.2 | exact hk) (.int .u64 ((rd_T81 t187 x32_2).f0))) (fun _ hk => by first | exact hk.2 | exact hk) (.int .u32 ((rd_T81 t187 x32_2).f1))) (fun _ h_ => h_.1)))) (by decide) hg); have n3_ := Aside0.mk (blk_grown (g := gb197) (o := .cells #[.int .u64 ((rd_T81 t187 x32_2).f0), .int .u32 ((rd_T81 t187 x32_2).f1)] 81 (0, 0)) (by (with_reducible repeat (first | refine blk_drewN ?_ _ | refine blk_drew ?_ | refine blk_alloc ?_ _)); refine blk_put (cs := #[.int .u64 ((rd_T81 t187 x32_2).f0), .int .u32 0]) ?_ 1 _ rfl; (with_reducible repeat (first | refine blk_drewN ?_ _ | refine blk_drew ?_ | refine blk_alloc ?_ _)); refine blk_put (cs := #[.int .u64 0, .int .u32 0]) ?_ 0 _ rfl; (with_reducible repeat (first | refine blk_drewN ?_ _ | refine blk_drew ?_ | refine blk_alloc ?_ _)); exact BK197.out) hg (Kd.R_ne HO_7.out BK197.out (by decide))); have n4_ := Aside0.mk (hb); have n5_ := Aside0.mk (ho); clear HO_5; clear HO_6; clear HO_30; clear BK197; clear HB; clear HO_7; have HO_5 := n0_; have HO_6 := n1_; have HO_30 := n2_; have BK197 := n3_; have HB := n4_; have HO200 := n5_; clear n0_ n1_ n2_ n3_ n4_ n5_; clear ho hb hg hat))
                    go_roundg k2
                    case measure => have := HJ2.out; have := HK2.out; omega
                    case rel => exact ⟨(y198), (wrap64 (x32_2 + 1)), (by first | rfl | (simp; done) | (simp [*]; done) | (simp; exact (fun l : List UInt8 => (by cases l <;> rfl : l.isEmpty = !(l != ([] : List UInt8)))) _)), H', ⟨by have := HJ2.out; have := HK2.out; omega⟩, ⟨by (with_reducible repeat (first | apply Kd.R_alloc | apply Kd.R_drewN | apply Kd.R_drew)); exact Kd.R_mono HO_5.out (fun _ hk => trivial)⟩, ⟨by (with_reducible repeat (first | apply Kd.R_alloc | apply Kd.R_drewN | apply Kd.R_drew)); exact Kd.R_mono HO_6.out (fun _ hk => by first | exact hk.2 | exact hk)⟩, ⟨by (with_reducible repeat (first | apply Kd.R_alloc | apply Kd.R_drewN | apply Kd.R_drew)); exact HO200.out⟩, ⟨by (with_reducible repeat (first | apply Kd.R_alloc | apply Kd.R_drewN | apply Kd.R_drew)); exact Kd.R_mono HO_30.out (fun _ hk => trivial)⟩, ⟨by repeat (first | (with_reducible first | exact HB.out | apply below_alloc | apply pw_below_drewN | apply below_drew1 | refine below_set ?_ GE197.out) | exact HB.out)⟩⟩
                  · rw [if_neg c21] at H
                    exact absurd H (by simp)
                · rw [if_neg c20] at H
                  exact absurd H (by simp)
              · rw [if_neg c19] at H
                exact absurd H (by simp)
            · rw [if_neg c18] at H
              have c18b0 : decide (x32_2 < (t187.length : Int)) = false := decide_eq_false c18
              clear c18
              have H' := Aside0.mk H
              clear H
              obtain ⟨Ao25, co25, eo25⟩ := Kd.R_slice HO_7.out
              subst eo25
              go_wp2
              go_loopg [44] k2 (fun kq v44 w' => ∃ (x44_3 : Int), v44 = .int .i64 x44_3 ∧ Aside0 (fasciclelaw12_FenceHolds.l1 kq t187 t190 x7_2 (x7_2.length : Int) x44_3 = some r) ∧ Aside0 (kq ≤ k2) ∧ Aside0 (Kd.R k81 81 w' w.heap.size (fun _ => True) (.slice Ao14 t187.length co14) t187) ∧ Aside0 (Kd.R (Kd.int .u64) 39 w' w.heap.size (fun k_ => some k_ ≠ ((.slice Ao25 x7_2.length co25) : Value).ownBlock) v191 t190) ∧ Aside0 (Kd.R (Kd.int .u64) 39 w' w.heap.size (fun k_ => some k_ ≠ (v191 : Value).ownBlock) (.slice Ao25 x7_2.length co25) x7_2) ∧ Aside0 (Below w.heap.size w w'))
              case atStart => exact ⟨(0), (by first | rfl | (simp; done) | (simp [*]; done) | (simp; exact (fun l : List UInt8 => (by cases l <;> rfl : l.isEmpty = !(l != ([] : List UInt8)))) _)), H', ⟨Nat.le_refl _⟩, ⟨by (with_reducible repeat (first | apply Kd.R_alloc | apply Kd.R_drewN | apply Kd.R_drew)); exact HO_5.out⟩, ⟨by (with_reducible repeat (first | apply Kd.R_alloc | apply Kd.R_drewN | apply Kd.R_drew)); exact HO_6.out⟩, ⟨by (with_reducible repeat (first | apply Kd.R_alloc | apply Kd.R_drewN | apply Kd.R_drew)); exact HO_7.out⟩, ⟨by repeat (first | (with_reducible first | exact HB.out | apply below_alloc | apply pw_below_drewN | apply below_drew1) | exact HB.out)⟩⟩
              case round =>
                clear H'
                try clear c1
                try clear p1
                try clear q1
                try clear hx1
                try clear c2
                try clear p2
                try clear c4
                try clear c5
                try clear p6
                try clear c8
                try clear c13
                try clear c16
                try clear c18
                try clear c18b0
                try clear c19
                try clear c19b0
                try clear p19
                try clear q19
                try clear hx19
                try clear c20
                try clear c20b0
                try clear c21
                try clear hcz23_0
                try clear hcz23_1
                try clear hfz23_0
                try clear hfz23_1
                try clear hx196_0
                try clear hx196_1
                try clear p196
                try clear p2
                try clear q196
                obtain ⟨x44_3, rfl, HA, HK3, HO_5, HO_6, HO_42, HB⟩ := hrel
                cases gk with
                | zero => exact absurd HA.out (by simp [fasciclelaw12_FenceHolds.l1])
                | succ k3 =>
                  have H := HA.out
                  clear HA
                  simp only [fasciclelaw12_FenceHolds.l1] at H
                  by_cases c26 : x44_3 < (x7_2.length : Int)
                  · rw [if_pos c26] at H
                    have c26b0 : decide (x44_3 < (x7_2.length : Int)) = true := decide_eq_true c26
                    clear c26
                    by_cases c27 : 0 ≤ x44_3
                    · rw [if_pos c27] at H
                      have c27b0 : decide (0 ≤ x44_3) = true := decide_eq_true c27
                      clear c27
                      by_cases c28 : x44_3 < (x7_2.length : Int)
                      · rw [if_pos c28] at H
                        have c28b0 : decide (x44_3 < (x7_2.length : Int)) = true := decide_eq_true c28
                        clear c28
                        replace H := Option.bind_eq_some_iff.mp H
                        obtain ⟨⟨t202, t203⟩, A290, H⟩ := H
                        replace H : ((table_Find.f t187 (rd x7_2 x44_3)).bind fun bt204 => (if t202 < 0 then (fasciclelaw12_FenceHolds.j3 k3 t187 t190 t202 t203 bt204.1 bt204.2 x7_2 (x7_2.length : Int) x44_3 true) else (if t203 > (t187.length : Int) then (fasciclelaw12_FenceHolds.j3 k3 t187 t190 t202 t203 bt204.1 bt204.2 x7_2 (x7_2.length : Int) x44_3 true) else (if t202 > t203 then (fasciclelaw12_FenceHolds.j3 k3 t187 t190 t202 t203 bt204.1 bt204.2 x7_2 (x7_2.length : Int) x44_3 true) else (if (Int.tmod t202 16) = 0 then (if bt204.1 < bt204.2 then (if bt204.1 < t202 then (fasciclelaw12_FenceHolds.j3 k3 t187 t190 t202 t203 bt204.1 bt204.2 x7_2 (x7_2.length : Int) x44_3 true) else (fasciclelaw12_FenceHolds.j3 k3 t187 t190 t202 t203 bt204.1 bt204.2 x7_2 (x7_2.length : Int) x44_3 (decide (bt204.2 > t203)))) else (fasciclelaw12_FenceHolds.j3 k3 t187 t190 t202 t203 bt204.1 bt204.2 x7_2 (x7_2.length : Int) x44_3 false)) else (fasciclelaw12_FenceHolds.j3 k3 t187 t190 t202 t203 bt204.1 bt204.2 x7_2 (x7_2.length : Int) x44_3 true)))))) = some r := H
                        have A29 := Aside0.mk A290
                        clear A290
                        replace H := Option.bind_eq_some_iff.mp H
                        obtain ⟨⟨t204, t205⟩, A300, H⟩ := H
                        replace H : (if t202 < 0 then (fasciclelaw12_FenceHolds.j3 k3 t187 t190 t202 t203 t204 t205 x7_2 (x7_2.length : Int) x44_3 true) else (if t203 > (t187.length : Int) then (fasciclelaw12_FenceHolds.j3 k3 t187 t190 t202 t203 t204 t205 x7_2 (x7_2.length : Int) x44_3 true) else (if t202 > t203 then (fasciclelaw12_FenceHolds.j3 k3 t187 t190 t202 t203 t204 t205 x7_2 (x7_2.length : Int) x44_3 true) else (if (Int.tmod t202 16) = 0 then (if t204 < t205 then (if t204 < t202 then (fasciclelaw12_FenceHolds.j3 k3 t187 t190 t202 t203 t204 t205 x7_2 (x7_2.length : Int) x44_3 true) else (fasciclelaw12_FenceHolds.j3 k3 t187 t190 t202 t203 t204 t205 x7_2 (x7_2.length : Int) x44_3 (decide (t205 > t203)))) else (fasciclelaw12_FenceHolds.j3 k3 t187 t190 t202 t203 t204 t205 x7_2 (x7_2.length : Int) x44_3 false)) else (fasciclelaw12_FenceHolds.j3 k3 t187 t190 t202 t203 t204 t205 x7_2 (x7_2.length : Int) x44_3 true))))) = some r := H
                        have A30 := Aside0.mk A300
                        clear A300
                        have HC31 := Aside0.mk H
                        clear H
                        have p201 : 0 ≤ (x44_3 : Int) := of_decide_eq_true (by first | (with_reducible assumption) | assumption)
                        have q201 : x44_3 < (x7_2.length : Int) := of_decide_eq_true (by first | (with_reducible assumption) | assumption)
                        obtain ⟨ad201, e201, hx201_0⟩ := Kd.at_int (Kd.R_reads' HO_42.out).2.2 x44_3 p201 q201
                        cases e201
                        replace p201 := eq_true p201
                        replace q201 := eq_true q201
                        obtain ⟨Ao32, co32, eo32⟩ := Kd.R_slice HO_6.out
                        subst eo32
                        go_upto_region 16 with (first | ((with_reducible refine gate_callee (f := 55) rfl ?_); refine goesL_ (some 53) rfl rfl Try.func55 (by kernel_rfl) rfl #[.slice Ao32 t190.length co32, .int .i64 (t187.length : Int), .int .u64 (rd x7_2 x44_3)] rfl (by (try simp only [List.map_toArray, List.map_cons, List.map_nil]); first | done | rfl | (simp only [List.length_drop, List.length_take]; rfl) | (refine congrArg (fun z => #[Value.int .u64 z]) ?_; rw [IntKind.wrap_u64]; omega)) ?_; (with_reducible refine (fence_Range.calls _ _ t190 (t187.length : Int) (rd x7_2 x44_3) t202 t203 _ ?side1 ?side2 A29.out).mono ?_); (case side1 => repeat (first | exact (Kd.R_reads' HO_6.out).2.2 | (with_reducible refine Kd.C_alloc ?_ _) | (with_reducible refine Kd.C_drewN ?_ _) | (with_reducible refine Kd.C_drew ?_))); (case side2 => exact (Kd.R_reads' HO_6.out).2.1); rintro e w33 ⟨rfl, hb⟩; refine ⟨_, rfl, ?_⟩; have n0_ := Aside0.mk (Kd.R_below (by (with_reducible repeat (first | apply Kd.R_alloc | apply Kd.R_drewN | apply Kd.R_drew)); exact HO_5.out) hb); have n1_ := Aside0.mk (Kd.R_below (by (with_reducible repeat (first | apply Kd.R_alloc | apply Kd.R_drewN | apply Kd.R_drew)); exact HO_6.out) hb); have n2_ := Aside0.mk (Kd.R_below (by (with_reducible repeat (first | apply Kd.R_alloc | apply Kd.R_drewN | apply Kd.R_drew)); exact HO_42.out) hb); have n3_ := Aside0.mk (below_step (by repeat (first | (with_reducible first | exact HB.out | apply below_alloc | apply pw_below_drewN | apply below_drew1) | exact HB.out)) hb); clear HO_5; clear HO_6; clear HO_42; clear HB; have HO_5 := n0_; have HO_6 := n1_; have HO_42 := n2_; have HB := n3_; clear n0_ n1_ n2_ n3_; (try clear hb); (try clear hb2); (try clear hk); (try clear hi)) | ((with_reducible refine gate_callee (f := 57) rfl ?_); refine goesL_ (some 59) rfl rfl Try.func57 (by kernel_rfl) rfl #[.slice Ao14 t187.length co14, .int .u64 (rd x7_2 x44_3)] rfl (by (try simp only [List.map_toArray, List.map_cons, List.map_nil]); first | done | rfl | (simp only [List.length_drop, List.length_take]; rfl) | (refine congrArg (fun z => #[Value.int .u64 z]) ?_; rw [IntKind.wrap_u64]; omega)) ?_; (with_reducible refine (table_Find.calls _ _ t187 (rd x7_2 x44_3) t204 t205 _ ?side1 ?side2 A30.out).mono ?_); (case side1 => repeat (first | exact (Kd.R_reads' HO_5.out).2.2 | (with_reducible refine Kd.C_alloc ?_ _) | (with_reducible refine Kd.C_drewN ?_ _) | (with_reducible refine Kd.C_drew ?_))); (case side2 => exact (Kd.R_reads' HO_5.out).2.1); rintro e w34 ⟨rfl, hb⟩; refine ⟨_, rfl, ?_⟩; have n0_ := Aside0.mk (Kd.R_below (by (with_reducible repeat (first | apply Kd.R_alloc | apply Kd.R_drewN | apply Kd.R_drew)); exact HO_5.out) hb); have n1_ := Aside0.mk (Kd.R_below (by (with_reducible repeat (first | apply Kd.R_alloc | apply Kd.R_drewN | apply Kd.R_drew)); exact HO_6.out) hb); have n2_ := Aside0.mk (Kd.R_below (by (with_reducible repeat (first | apply Kd.R_alloc | apply Kd.R_drewN | apply Kd.R_drew)); exact HO_42.out) hb); have n3_ := Aside0.mk (below_step (by repeat (first | (with_reducible first | exact HB.out | apply below_alloc | apply pw_below_drewN | apply below_drew1) | exact HB.out)) hb); clear HO_5; clear HO_6; clear HO_42; clear HB; have HO_5 := n0_; have HO_6 := n1_; have HO_42 := n2_; have HB := n3_; clear n0_ n1_ n2_ n3_; (try clear hb); (try clear hb2); (try clear hk); (try clear hi)))
                        (try simp only [Act.put, List.setIfInBounds_toArray, List.set_cons_zero, List.set_cons_succ])
                        go_cut [94] (fun v94 wc => ∃ (kq : Nat) (x94_30 : Bool), v94 = .bool x94_30 ∧ Aside0 (fasciclelaw12_FenceHolds.j3 kq t187 t190 t202 t203 t204 t205 x7_2 (x7_2.length : Int) x44_3 x94_30 = some r) ∧ Aside0 (kq ≤ k3) ∧ Aside0 (Kd.R k81 81 wc w.heap.size (fun _ => True) (.slice Ao14 t187.length co14) t187) ∧ Aside0 (Kd.R (Kd.int .u64) 39 wc w.heap.size (fun k_ => some k_ ≠ ((.slice (some ad201) x7_2.length co25) : Value).ownBlock) (.slice Ao32 t190.length co32) t190) ∧ Aside0 (Kd.R (Kd.int .u64) 39 wc w.heap.size (fun k_ => some k_ ≠ ((.slice Ao32 t190.length co32) : Value).ownBlock) (.slice (some ad201) x7_2.length co25) x7_2) ∧ Aside0 (Below w.heap.size w wc))
                        case first =>
                          have H := HC31.out
                          clear HC31
                          by_cases c35 : t202 < 0
                          · rw [if_pos c35] at H
                            have c35b0 : decide (t202 < 0) = true := decide_eq_true c35
                            clear c35
                            (first | rw [c35b0] | (simp only [i64_w, i32_w]; rw [c35b0]) | skip)
                            have H' := Aside0.mk H
                            clear H
                            go_wp2
                            go_meet
                            case rel => exact ⟨_, (true), (by first | rfl | (simp; done) | (simp [*]; done) | (simp; exact (fun l : List UInt8 => (by cases l <;> rfl : l.isEmpty = !(l != ([] : List UInt8)))) _)), H', ⟨by have := HJ2.out; have := HK2.out; have := HK3.out; first | omega | exact Nat.le_refl _⟩, ⟨by (with_reducible repeat (first | apply Kd.R_alloc | apply Kd.R_drewN | apply Kd.R_drew)); exact HO_5.out⟩, ⟨by (with_reducible repeat (first | apply Kd.R_alloc | apply Kd.R_drewN | apply Kd.R_drew)); exact HO_6.out⟩, ⟨by (with_reducible repeat (first | apply Kd.R_alloc | apply Kd.R_drewN | apply Kd.R_drew)); exact HO_42.out⟩, ⟨by repeat (first | (with_reducible first | exact HB.out | apply below_alloc | apply pw_below_drewN | apply below_drew1) | exact HB.out)⟩⟩
                          · rw [if_neg c35] at H
                            have c35b0 : decide (t202 < 0) = false := decide_eq_false c35
                            clear c35
                            (first | rw [c35b0] | (simp only [i64_w, i32_w]; rw [c35b0]) | skip)
                            by_cases c36 : t203 > (t187.length : Int)
                            · rw [if_pos c36] at H
                              have c36b0 : decide ((t187.length : Int) < t203) = true := decide_eq_true c36
                              clear c36
                              have H' := Aside0.mk H
                              clear H
                              go_wp2
                              go_meet
                              case rel => exact ⟨_, (true), (by first | rfl | (simp; done) | (simp [*]; done) | (simp; exact (fun l : List UInt8 => (by cases l <;> rfl : l.isEmpty = !(l != ([] : List UInt8)))) _)), H', ⟨by have := HJ2.out; have := HK2.out; have := HK3.out; first | omega | exact Nat.le_refl _⟩, ⟨by (with_reducible repeat (first | apply Kd.R_alloc | apply Kd.R_drewN | apply Kd.R_drew)); exact HO_5.out⟩, ⟨by (with_reducible repeat (first | apply Kd.R_alloc | apply Kd.R_drewN | apply Kd.R_drew)); exact HO_6.out⟩, ⟨by (with_reducible repeat (first | apply Kd.R_alloc | apply Kd.R_drewN | apply Kd.R_drew)); exact HO_42.out⟩, ⟨by repeat (first | (with_reducible first | exact HB.out | apply below_alloc | apply pw_below_drewN | apply below_drew1) | exact HB.out)⟩⟩
                            · rw [if_neg c36] at H
                              have c36b0 : decide ((t187.length : Int) < t203) = false := decide_eq_false c36
                              clear c36
                              by_cases c37 : t202 > t203
                              · rw [if_pos c37] at H
                                have c37b0 : decide (t203 < t202) = true := decide_eq_true c37
                                clear c37
                                have H' := Aside0.mk H
                                clear H
                                go_wp2
                                go_meet
                                case rel => exact ⟨_, (true), (by first | rfl | (simp; done) | (simp [*]; done) | (simp; exact (fun l : List UInt8 => (by cases l <;> rfl : l.isEmpty = !(l != ([] : List UInt8)))) _)), H', ⟨by have := HJ2.out; have := HK2.out; have := HK3.out; first | omega | exact Nat.le_refl _⟩, ⟨by (with_reducible repeat (first | apply Kd.R_alloc | apply Kd.R_drewN | apply Kd.R_drew)); exact HO_5.out⟩, ⟨by (with_reducible repeat (first | apply Kd.R_alloc | apply Kd.R_drewN | apply Kd.R_drew)); exact HO_6.out⟩, ⟨by (with_reducible repeat (first | apply Kd.R_alloc | apply Kd.R_drewN | apply Kd.R_drew)); exact HO_42.out⟩, ⟨by repeat (first | (with_reducible first | exact HB.out | apply below_alloc | apply pw_below_drewN | apply below_drew1) | exact HB.out)⟩⟩
                              · rw [if_neg c37] at H
                                have c37b0 : decide (t203 < t202) = false := decide_eq_false c37
                                clear c37
                                by_cases c38 : (Int.tmod t202 16) = 0
                                · rw [if_pos c38] at H
                                  have c38b0 : ((Int.tmod t202 16) == 0) = true := beq_iff_eq.mpr c38
                                  have c38b1 : ((Int.tmod t202 16) != 0) = false := bne_eq_false_iff_eq.mpr c38
                                  clear c38
                                  by_cases c39 : t204 < t205
                                  · rw [if_pos c39] at H
                                    have c39b0 : decide (t204 < t205) = true := decide_eq_true c39
                                    clear c39
                                    by_cases c40 : t204 < t202
                                    · rw [if_pos c40] at H
                                      have c40b0 : decide (t204 < t202) = true := decide_eq_true c40
                                      clear c40
                                      have H' := Aside0.mk H
                                      clear H
                                      go_wp2
                                      go_meet
                                      case rel => exact ⟨_, (true), (by first | rfl | (simp; done) | (simp [*]; done) | (simp; exact (fun l : List UInt8 => (by cases l <;> rfl : l.isEmpty = !(l != ([] : List UInt8)))) _)), H', ⟨by have := HJ2.out; have := HK2.out; have := HK3.out; first | omega | exact Nat.le_refl _⟩, ⟨by (with_reducible repeat (first | apply Kd.R_alloc | apply Kd.R_drewN | apply Kd.R_drew)); exact HO_5.out⟩, ⟨by (with_reducible repeat (first | apply Kd.R_alloc | apply Kd.R_drewN | apply Kd.R_drew)); exact HO_6.out⟩, ⟨by (with_reducible repeat (first | apply Kd.R_alloc | apply Kd.R_drewN | apply Kd.R_drew)); exact HO_42.out⟩, ⟨by repeat (first | (with_reducible first | exact HB.out | apply below_alloc | apply pw_below_drewN | apply below_drew1) | exact HB.out)⟩⟩
                                    · rw [if_neg c40] at H
                                      have c40b0 : decide (t204 < t202) = false := decide_eq_false c40
                                      clear c40
                                      have H' := Aside0.mk H
                                      clear H
                                      go_wp2
                                      go_meet
                                      case rel => exact ⟨_, (decide (t205 > t203)), (by first | rfl | (simp; done) | (simp [*]; done) | (simp; exact (fun l : List UInt8 => (by cases l <;> rfl : l.isEmpty = !(l != ([] : List UInt8)))) _)), H', ⟨by have := HJ2.out; have := HK2.out; have := HK3.out; first | omega | exact Nat.le_refl _⟩, ⟨by (with_reducible repeat (first | apply Kd.R_alloc | apply Kd.R_drewN | apply Kd.R_drew)); exact HO_5.out⟩, ⟨by (with_reducible repeat (first | apply Kd.R_alloc | apply Kd.R_drewN | apply Kd.R_drew)); exact HO_6.out⟩, ⟨by (with_reducible repeat (first | apply Kd.R_alloc | apply Kd.R_drewN | apply Kd.R_drew)); exact HO_42.out⟩, ⟨by repeat (first | (with_reducible first | exact HB.out | apply below_alloc | apply pw_below_drewN | apply below_drew1) | exact HB.out)⟩⟩
                                  · rw [if_neg c39] at H
                                    have c39b0 : decide (t204 < t205) = false := decide_eq_false c39
                                    clear c39
                                    have H' := Aside0.mk H
                                    clear H
                                    go_wp2
                                    go_meet
                                    case rel => exact ⟨_, (false), (by first | rfl | (simp; done) | (simp [*]; done) | (simp; exact (fun l : List UInt8 => (by cases l <;> rfl : l.isEmpty = !(l != ([] : List UInt8)))) _)), H', ⟨by have := HJ2.out; have := HK2.out; have := HK3.out; first | omega | exact Nat.le_refl _⟩, ⟨by (with_reducible repeat (first | apply Kd.R_alloc | apply Kd.R_drewN | apply Kd.R_drew)); exact HO_5.out⟩, ⟨by (with_reducible repeat (first | apply Kd.R_alloc | apply Kd.R_drewN | apply Kd.R_drew)); exact HO_6.out⟩, ⟨by (with_reducible repeat (first | apply Kd.R_alloc | apply Kd.R_drewN | apply Kd.R_drew)); exact HO_42.out⟩, ⟨by repeat (first | (with_reducible first | exact HB.out | apply below_alloc | apply pw_below_drewN | apply below_drew1) | exact HB.out)⟩⟩
                                · rw [if_neg c38] at H
                                  have c38b0 : ((Int.tmod t202 16) == 0) = false := beq_eq_false_iff_ne.mpr c38
                                  have c38b1 : ((Int.tmod t202 16) != 0) = true := bne_iff_ne.mpr c38
                                  have H' := Aside0.mk H
                                  clear H
                                  go_wp2
                                  go_meet
                                  case rel => exact ⟨_, (true), (by first | rfl | (simp; done) | (simp [*]; done) | (simp; exact (fun l : List UInt8 => (by cases l <;> rfl : l.isEmpty = !(l != ([] : List UInt8)))) _)), H', ⟨by have := HJ2.out; have := HK2.out; have := HK3.out; first | omega | exact Nat.le_refl _⟩, ⟨by (with_reducible repeat (first | apply Kd.R_alloc | apply Kd.R_drewN | apply Kd.R_drew)); exact HO_5.out⟩, ⟨by (with_reducible repeat (first | apply Kd.R_alloc | apply Kd.R_drewN | apply Kd.R_drew)); exact HO_6.out⟩, ⟨by (with_reducible repeat (first | apply Kd.R_alloc | apply Kd.R_drewN | apply Kd.R_drew)); exact HO_42.out⟩, ⟨by repeat (first | (with_reducible first | exact HB.out | apply below_alloc | apply pw_below_drewN | apply below_drew1) | exact HB.out)⟩⟩
                        case rest =>
                          clear HC31
                          try clear c1
                          try clear p1
                          try clear q1
                          try clear hx1
                          try clear c2
                          try clear p2
                          try clear q2
                          try clear hx2
                          try clear c3
                          try clear c4
                          try clear c5
                          try clear p6
                          try clear c8
                          try clear c13
                          try clear c16
                          try clear c18
                          try clear c18b0
                          try clear c19
                          try clear c19b0
                          try clear p19
                          try clear q19
                          try clear hx19
                          try clear c20
                          try clear c20b0
                          try clear p20
                          try clear q20
                          try clear hx20
                          try clear c21
                          try clear c26
                          try clear c26b0
                          try clear c27
                          try clear c27b0
                          try clear c28
                          try clear c28b0
                          try clear c35
                          try clear c35b0
                          try clear c36
                          try clear c36b0
                          try clear c37
                          try clear c37b0
                          try clear c38
                          try clear c38b0
                          try clear c38b1
                          try clear c39
                          try clear c39b0
                          try clear c40
                          try clear c40b0
                          try clear hcz23_0
                          try clear hcz23_1
                          try clear hfz23_0
                          try clear hfz23_1
                          try clear hx196_0
                          try clear hx196_1
                          try clear hx201_0
                          try clear p1
                          try clear p19
                          try clear p196
                          try clear p2
                          try clear p201
                          try clear p6
                          try clear q1
                          try clear q19
                          try clear q196
                          try clear q201
                          obtain ⟨kq, x94_30, rfl, HA, HJ30, HO_5, HO_6, HO_42, HB⟩ := hcut
                          cases kq with
                          | zero => exact absurd HA.out (by simp [fasciclelaw12_FenceHolds.j3])
                          | succ kj30 =>
                            have H := HA.out
                            clear HA
                            simp only [fasciclelaw12_FenceHolds.j3] at H
                            by_cases c41 : x94_30 = true
                            · subst c41
                              have H1 : (some false) = some r := by rw [if_pos rfl] at H; exact H
                              clear H
                              have H := H1
                              clear H1
                              obtain rfl := Option.some.inj H
                              go_wp2
                              go_ret
                              exact ⟨by first | rfl | (simp [errW_none, errW_some] <;> rfl) | (simp [*, errW_none, errW_some] <;> rfl), by repeat (first | (with_reducible first | exact HB.out | apply below_alloc | apply pw_below_drewN | apply below_drew1) | exact HB.out)⟩
                            · replace c41 := Bool.eq_false_iff.mpr c41
                              subst c41
                              have H1 : (if (wrap64 (t203 - t202)) > (wrap64 (16 * (wrap64 ((wrap64 (Int.tdiv (wrap64 ((wrap64 (t205 - t204)) + 15)) 16)) + 2)))) then (some false) else (fasciclelaw12_FenceHolds.l1 kj30 t187 t190 x7_2 (x7_2.length : Int) (wrap64 (x44_3 + 1)))) = some r := by rw [if_neg (show ¬ (false = true) by decide)] at H; exact H
                              clear H
                              have H := H1
                              clear H1
                              by_cases c42 : (wrap64 (t203 - t202)) > (wrap64 (16 * (wrap64 ((wrap64 (Int.tdiv (wrap64 ((wrap64 (t205 - t204)) + 15)) 16)) + 2))))
                              · rw [if_pos c42] at H
                                have c42b0 : decide ((wrap64 (16 * (wrap64 ((wrap64 (Int.tdiv (wrap64 ((wrap64 (t205 - t204)) + 15)) 16)) + 2)))) < (wrap64 (t203 - t202))) = true := decide_eq_true c42
                                clear c42
                                obtain rfl := Option.some.inj H
                                go_wp2
                                go_ret
                                exact ⟨by first | rfl | (simp [errW_none, errW_some] <;> rfl) | (simp [*, errW_none, errW_some] <;> rfl), by repeat (first | (with_reducible first | exact HB.out | apply below_alloc | apply pw_below_drewN | apply below_drew1) | exact HB.out)⟩
                              · rw [if_neg c42] at H
                                have c42b0 : decide ((wrap64 (16 * (wrap64 ((wrap64 (Int.tdiv (wrap64 ((wrap64 (t205 - t204)) + 15)) 16)) + 2)))) < (wrap64 (t203 - t202))) = false := decide_eq_false c42
                                clear c42
                                have H' := Aside0.mk H
                                clear H
                                go_wp2
                                go_roundg kj30
                                case measure => have := HJ2.out; have := HK2.out; have := HK3.out; have := HJ30.out; omega
                                case rel => exact ⟨(wrap64 (x44_3 + 1)), (by first | rfl | (simp; done) | (simp [*]; done) | (simp; exact (fun l : List UInt8 => (by cases l <;> rfl : l.isEmpty = !(l != ([] : List UInt8)))) _)), H', ⟨by have := HJ2.out; have := HK2.out; have := HK3.out; have := HJ30.out; omega⟩, ⟨by (with_reducible repeat (first | apply Kd.R_alloc | apply Kd.R_drewN | apply Kd.R_drew)); exact HO_5.out⟩, ⟨by (with_reducible repeat (first | apply Kd.R_alloc | apply Kd.R_drewN | apply Kd.R_drew)); exact HO_6.out⟩, ⟨by (with_reducible repeat (first | apply Kd.R_alloc | apply Kd.R_drewN | apply Kd.R_drew)); exact HO_42.out⟩, ⟨by repeat (first | (with_reducible first | exact HB.out | apply below_alloc | apply pw_below_drewN | apply below_drew1) | exact HB.out)⟩⟩
                      · rw [if_neg c28] at H
                        exact absurd H (by simp)
                    · rw [if_neg c27] at H
                      exact absurd H (by simp)
                  · rw [if_neg c26] at H
                    have c26b0 : decide (x44_3 < (x7_2.length : Int)) = false := decide_eq_false c26
                    clear c26
                    obtain rfl := Option.some.inj H
                    go_wp2
                    go_ret
                    exact ⟨by first | rfl | (simp [errW_none, errW_some] <;> rfl) | (simp [*, errW_none, errW_some] <;> rfl), by repeat (first | (with_reducible first | exact HB.out | apply below_alloc | apply pw_below_drewN | apply below_drew1) | exact HB.out)⟩
/-- THE ONE PURE STATEMENT of fasciclelaw12_FenceHolds. -/
def fasciclelaw12_FenceHolds.Pure : Prop := ∀ (l0 : List (S81)) (a1 : Int), l0.length ≤ maxLen → l0.length * 16 ≤ 140737488351232 → (∀ y ∈ l0, (((Lit.int .u64 y.f0).wf = true) ∧ ((Lit.int .u32 y.f1).wf = true))) → (Lit.int .u64 a1).wf = true → ∃ k, fasciclelaw12_FenceHolds.f k l0 a1 = some true

end Go.Proofs.Ytnmdckgaljldhaa.G
