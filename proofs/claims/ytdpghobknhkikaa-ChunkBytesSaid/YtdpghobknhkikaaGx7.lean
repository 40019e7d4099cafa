-- Written by gprint.py (the kit's print.py with contracts of my own taken as given)
import Derived.Test.YtdpghobknhkikaaGx0
import Derived.Test.YtdpghobknhkikaaGx4
import Derived.Test.YtdpghobknhkikaaGx6
namespace Go.Proofs.Ytdpghobknhkikaa.G
open Go.RowKit Go.Proofs.YtdpghobknhkikaaW.PrintWords Go.Proofs.YtdpghobknhkikaaW.PrintLast Go.Proofs.YtdpghobknhkikaaW.PrintMore
attribute [local go_sem] max2_int min2_int max_two min_two max_three min_three max_four min_four   -- for this text's walks alone
set_option linter.unusedVariables false
set_option linter.unusedSimpArgs false

/-! ### fasciclelaw22_ChunkBytes: function 8 -/
mutual
def fasciclelaw22_ChunkBytes.j0 : Nat → Int → List Int → Bool → Option (Bool)
  | 0, _, _, _ => none
  | k + 1, x0, x1, x18 => if x18 = true then ((fasciclelaw22_lives.f k).bind fun t187 => (some t187)) else ((chunk_All.f k x0 x1).bind fun t188 => (fasciclelaw22_ChunkBytes.l0 k x0 x1 (mx 1 x0) t188 (t188.length : Int) 0))
def fasciclelaw22_ChunkBytes.l0 : Nat → Int → List Int → Int → List (S55) → Int → Int → Option (Bool)
  | 0, _, _, _, _, _, _ => none
  | k + 1, x0, x1, x5, x24, x25, x26 => if x26 < x25 then (if 0 ≤ x26 then (if x26 < (x24.length : Int) then ((chunk_Bytes.f x0 x1 ((rd_T55 x24 x26).f0) ((rd_T55 x24 x26).f1) ((rd_T55 x24 x26).f2)).bind fun t193 => (if (t193.length : Int) = (wrap64 (((rd_T55 x24 x26).f2) - ((rd_T55 x24 x26).f1))) then (if 0 ≤ (wrap64 ((wrap64 ((wrap64 ((wrap64 ((rd_T55 x24 x26).f0)) * x5)) + ((rd_T55 x24 x26).f1))) + (t193.length : Int))) then (if (wrap64 ((wrap64 ((wrap64 ((wrap64 ((rd_T55 x24 x26).f0)) * x5)) + ((rd_T55 x24 x26).f1))) + (t193.length : Int))) < (x1.length : Int) then (if (rd x1 (wrap64 ((wrap64 ((wrap64 ((wrap64 ((rd_T55 x24 x26).f0)) * x5)) + ((rd_T55 x24 x26).f1))) + (t193.length : Int)))) = 0 then (if 0 ≤ (wrap64 ((wrap64 ((wrap64 ((rd_T55 x24 x26).f0)) * x5)) + ((rd_T55 x24 x26).f1))) then (if (wrap64 ((wrap64 ((wrap64 ((rd_T55 x24 x26).f0)) * x5)) + ((rd_T55 x24 x26).f1))) ≤ (wrap64 ((wrap64 ((wrap64 ((wrap64 ((rd_T55 x24 x26).f0)) * x5)) + ((rd_T55 x24 x26).f1))) + (t193.length : Int))) then (if (wrap64 ((wrap64 ((wrap64 ((wrap64 ((rd_T55 x24 x26).f0)) * x5)) + ((rd_T55 x24 x26).f1))) + (t193.length : Int))) ≤ (x1.length : Int) then (fasciclelaw22_ChunkBytes.j2 k x0 x1 x5 t193 (wrap64 ((wrap64 ((wrap64 ((rd_T55 x24 x26).f0)) * x5)) + ((rd_T55 x24 x26).f1))) x24 x25 x26 ((strOfNums t193).toList != (strOfNums ((x1.take ((wrap64 ((wrap64 ((wrap64 ((wrap64 ((rd_T55 x24 x26).f0)) * x5)) + ((rd_T55 x24 x26).f1))) + (t193.length : Int))) : Int).toNat).drop ((wrap64 ((wrap64 ((wrap64 ((rd_T55 x24 x26).f0)) * x5)) + ((rd_T55 x24 x26).f1))) : Int).toNat)).toList) ((rd_T55 x24 x26).f0) ((rd_T55 x24 x26).f1) ((rd_T55 x24 x26).f2)) else (none)) else (none)) else (none)) else (fasciclelaw22_ChunkBytes.j2 k x0 x1 x5 t193 (wrap64 ((wrap64 ((wrap64 ((rd_T55 x24 x26).f0)) * x5)) + ((rd_T55 x24 x26).f1))) x24 x25 x26 true ((rd_T55 x24 x26).f0) ((rd_T55 x24 x26).f1) ((rd_T55 x24 x26).f2))) else (none)) else (none)) else (fasciclelaw22_ChunkBytes.j2 k x0 x1 x5 t193 (wrap64 ((wrap64 ((wrap64 ((rd_T55 x24 x26).f0)) * x5)) + ((rd_T55 x24 x26).f1))) x24 x25 x26 true ((rd_T55 x24 x26).f0) ((rd_T55 x24 x26).f1) ((rd_T55 x24 x26).f2)))) else (none)) else (none)) else (some true)
def fasciclelaw22_ChunkBytes.j2 : Nat → Int → List Int → Int → List Int → Int → List (S55) → Int → Int → Bool → Int → Int → Int → Option (Bool)
  | 0, _, _, _, _, _, _, _, _, _, _, _, _ => none
  | k + 1, x0, x1, x5, x8, x9, x24, x25, x26, x72, x193000, x193001, x193002 => if x72 = true then (some false) else (if x193001 > 0 then (if 0 ≤ (wrap64 (x9 - 1)) then (if (wrap64 (x9 - 1)) < (x1.length : Int) then (fasciclelaw22_ChunkBytes.j3 k x0 x1 x5 x8 x24 x25 x26 ((rd x1 (wrap64 (x9 - 1))) != 0)) else (none)) else (none)) else (fasciclelaw22_ChunkBytes.j3 k x0 x1 x5 x8 x24 x25 x26 false))
def fasciclelaw22_ChunkBytes.j3 : Nat → Int → List Int → Int → List Int → List (S55) → Int → Int → Bool → Option (Bool)
  | 0, _, _, _, _, _, _, _, _ => none
  | k + 1, x0, x1, x5, x8, x24, x25, x26, x83 => if x83 = true then (some false) else (fasciclelaw22_ChunkBytes.l1 k x0 x1 x5 x24 x25 x26 x8 (x8.length : Int) 0)
def fasciclelaw22_ChunkBytes.l1 : Nat → Int → List Int → Int → List (S55) → Int → Int → List Int → Int → Int → Option (Bool)
  | 0, _, _, _, _, _, _, _, _, _ => none
  | k + 1, x0, x1, x5, x24, x25, x26, x84, x85, x86 => if x86 < x85 then (if 0 ≤ x86 then (if x86 < (x84.length : Int) then (if (rd x84 x86) = 0 then (some false) else (fasciclelaw22_ChunkBytes.l1 k x0 x1 x5 x24 x25 x26 x84 x85 (wrap64 (x86 + 1)))) else (none)) else (none)) else (fasciclelaw22_ChunkBytes.l0 k x0 x1 x5 x24 x25 (wrap64 (x26 + 1)))
end
def fasciclelaw22_ChunkBytes.f (k : Nat) (a0 : Int) (l1 : List Int) : Option (Bool) := (fasciclelaw22_lives.f k).bind fun t186 => (if t186 = true then (fasciclelaw22_ChunkBytes.j0 k a0 l1 (decide ((l1.length : Int) > 2000))) else (fasciclelaw22_ChunkBytes.j0 k a0 l1 true))
theorem fasciclelaw22_ChunkBytes.mono_l : ∀ k, (∀ y0 y1 y2, LeO (fasciclelaw22_ChunkBytes.j0 k y0 y1 y2) (fasciclelaw22_ChunkBytes.j0 (k + 1) y0 y1 y2)) ∧ (∀ y0 y1 y2 y3 y4 y5, LeO (fasciclelaw22_ChunkBytes.l0 k y0 y1 y2 y3 y4 y5) (fasciclelaw22_ChunkBytes.l0 (k + 1) y0 y1 y2 y3 y4 y5)) ∧ (∀ y0 y1 y2 y3 y4 y5 y6 y7 y8 y9 y10 y11, LeO (fasciclelaw22_ChunkBytes.j2 k y0 y1 y2 y3 y4 y5 y6 y7 y8 y9 y10 y11) (fasciclelaw22_ChunkBytes.j2 (k + 1) y0 y1 y2 y3 y4 y5 y6 y7 y8 y9 y10 y11)) ∧ (∀ y0 y1 y2 y3 y4 y5 y6 y7, LeO (fasciclelaw22_ChunkBytes.j3 k y0 y1 y2 y3 y4 y5 y6 y7) (fasciclelaw22_ChunkBytes.j3 (k + 1) y0 y1 y2 y3 y4 y5 y6 y7)) ∧ (∀ y0 y1 y2 y3 y4 y5 y6 y7 y8, LeO (fasciclelaw22_ChunkBytes.l1 k y0 y1 y2 y3 y4 y5 y6 y7 y8) (fasciclelaw22_ChunkBytes.l1 (k + 1) y0 y1 y2 y3 y4 y5 y6 y7 y8))
  | 0 => ⟨fun _ _ _ r h => by simp [fasciclelaw22_ChunkBytes.j0] at h, fun _ _ _ _ _ _ r h => by simp [fasciclelaw22_ChunkBytes.l0] at h, fun _ _ _ _ _ _ _ _ _ _ _ _ r h => by simp [fasciclelaw22_ChunkBytes.j2] at h, fun _ _ _ _ _ _ _ _ r h => by simp [fasciclelaw22_ChunkBytes.j3] at h, fun _ _ _ _ _ _ _ _ _ r h => by simp [fasciclelaw22_ChunkBytes.l1] at h⟩
  | k + 1 => by
    obtain ⟨ih0, ih1, ih2, ih3, ih4⟩ := fasciclelaw22_ChunkBytes.mono_l k
    refine ⟨?_, ?_, ?_, ?_, ?_⟩
    · intro y0 y1 y2
      unfold fasciclelaw22_ChunkBytes.j0
      repeat' first
      | (with_reducible exact ih0 _ _ _)
      | (with_reducible exact ih1 _ _ _ _ _ _)
      | (with_reducible exact ih2 _ _ _ _ _ _ _ _ _ _ _ _)
      | (with_reducible exact ih3 _ _ _ _ _ _ _ _)
      | (with_reducible exact ih4 _ _ _ _ _ _ _ _ _)
      | (with_reducible exact chunk_All.mono _ _ _)
      | (with_reducible exact fasciclelaw22_lives.mono _)
      | (with_reducible exact LeO.refl _)
      | (with_reducible exact LeO.none _)
      | (with_reducible refine LeO.ite ?_ ?_)
      | (with_reducible refine LeO.bind ?_ (fun _ => ?_))
      | exact ih0 _ _ _
      | exact ih1 _ _ _ _ _ _
      | exact ih2 _ _ _ _ _ _ _ _ _ _ _ _
      | exact ih3 _ _ _ _ _ _ _ _
      | exact ih4 _ _ _ _ _ _ _ _ _
      | exact chunk_All.mono _ _ _
      | exact fasciclelaw22_lives.mono _
      | exact LeO.none _
      | refine LeO.ite ?_ ?_
      | refine LeO.bind ?_ (fun _ => ?_)
    · intro y0 y1 y2 y3 y4 y5
      unfold fasciclelaw22_ChunkBytes.l0
      repeat' first
      | (with_reducible exact ih0 _ _ _)
      | (with_reducible exact ih1 _ _ _ _ _ _)
      | (with_reducible exact ih2 _ _ _ _ _ _ _ _ _ _ _ _)
      | (with_reducible exact ih3 _ _ _ _ _ _ _ _)
      | (with_reducible exact ih4 _ _ _ _ _ _ _ _ _)
      | (with_reducible exact chunk_All.mono _ _ _)
      | (with_reducible exact fasciclelaw22_lives.mono _)
      | (with_reducible exact LeO.refl _)
      | (with_reducible exact LeO.none _)
      | (with_reducible refine LeO.ite ?_ ?_)
      | (with_reducible refine LeO.bind ?_ (fun _ => ?_))
      | exact ih0 _ _ _
      | exact ih1 _ _ _ _ _ _
      | exact ih2 _ _ _ _ _ _ _ _ _ _ _ _
      | exact ih3 _ _ _ _ _ _ _ _
      | exact ih4 _ _ _ _ _ _ _ _ _
      | exact chunk_All.mono _ _ _
      | exact fasciclelaw22_lives.mono _
      | exact LeO.none _
      | refine LeO.ite ?_ ?_
      | refine LeO.bind ?_ (fun _ => ?_)
    · intro y0 y1 y2 y3 y4 y5 y6 y7 y8 y9 y10 y11
      unfold fasciclelaw22_ChunkBytes.j2
      repeat' first
      | (with_reducible exact ih0 _ _ _)
      | (with_reducible exact ih1 _ _ _ _ _ _)
      | (with_reducible exact ih2 _ _ _ _ _ _ _ _ _ _ _ _)
      | (with_reducible exact ih3 _ _ _ _ _ _ _ _)
      | (with_reducible exact ih4 _ _ _ _ _ _ _ _ _)
      | (with_reducible exact chunk_All.mono _ _ _)
      | (with_reducible exact fasciclelaw22_lives.mono _)
      | (with_reducible exact LeO.refl _)
      | (with_reducible exact LeO.none _)
      | (with_reducible refine LeO.ite ?_ ?_)
      | (with_reducible refine LeO.bind ?_ (fun _ => ?_))
      | exact ih0 _ _ _
      | exact ih1 _ _ _ _ _ _
      | exact ih2 _ _ _ _ _ _ _ _ _ _ _ _
      | exact ih3 _ _ _ _ _ _ _ _
      | exact ih4 _ _ _ _ _ _ _ _ _
      | exact chunk_All.mono _ _ _
      | exact fasciclelaw22_lives.mono _
      | exact LeO.none _
      | refine LeO.ite ?_ ?_
      | refine LeO.bind ?_ (fun _ => ?_)
    · intro y0 y1 y2 y3 y4 y5 y6 y7
      unfold fasciclelaw22_ChunkBytes.j3
      repeat' first
      | (with_reducible exact ih0 _ _ _)
      | (with_reducible exact ih1 _ _ _ _ _ _)
      | (with_reducible exact ih2 _ _ _ _ _ _ _ _ _ _ _ _)
      | (with_reducible exact ih3 _ _ _ _ _ _ _ _)
      | (with_reducible exact ih4 _ _ _ _ _ _ _ _ _)
      | (with_reducible exact chunk_All.mono _ _ _)
      | (with_reducible exact fasciclelaw22_lives.mono _)
      | (with_reducible exact LeO.refl _)
      | (with_reducible exact LeO.none _)
      | (with_reducible refine LeO.ite ?_ ?_)
      | (with_reducible refine LeO.bind ?_ (fun _ => ?_))
      | exact ih0 _ _ _
      | exact ih1 _ _ _ _ _ _
      | exact ih2 _ _ _ _ _ _ _ _ _ _ _ _
      | exact ih3 _ _ _ _ _ _ _ _
      | exact ih4 _ _ _ _ _ _ _ _ _
      | exact chunk_All.mono _ _ _
      | exact fasciclelaw22_lives.mono _
      | exact LeO.none _
      | refine LeO.ite ?_ ?_
      | refine LeO.bind ?_ (fun _ => ?_)
    · intro y0 y1 y2 y3 y4 y5 y6 y7 y8
      unfold fasciclelaw22_ChunkBytes.l1
      repeat' first
      | (with_reducible exact ih0 _ _ _)
      | (with_reducible exact ih1 _ _ _ _ _ _)
      | (with_reducible exact ih2 _ _ _ _ _ _ _ _ _ _ _ _)
      | (with_reducible exact ih3 _ _ _ _ _ _ _ _)
      | (with_reducible exact ih4 _ _ _ _ _ _ _ _ _)
      | (with_reducible exact chunk_All.mono _ _ _)
      | (with_reducible exact fasciclelaw22_lives.mono _)
      | (with_reducible exact LeO.refl _)
      | (with_reducible exact LeO.none _)
      | (with_reducible refine LeO.ite ?_ ?_)
      | (with_reducible refine LeO.bind ?_ (fun _ => ?_))
      | exact ih0 _ _ _
      | exact ih1 _ _ _ _ _ _
      | exact ih2 _ _ _ _ _ _ _ _ _ _ _ _
      | exact ih3 _ _ _ _ _ _ _ _
      | exact ih4 _ _ _ _ _ _ _ _ _
      | exact chunk_All.mono _ _ _
      | exact fasciclelaw22_lives.mono _
      | exact LeO.none _
      | refine LeO.ite ?_ ?_
      | refine LeO.bind ?_ (fun _ => ?_)
theorem fasciclelaw22_ChunkBytes.mono : ∀ a0 a1 k, LeO (fasciclelaw22_ChunkBytes.f k a0 a1) (fasciclelaw22_ChunkBytes.f (k + 1) a0 a1) := by
  intro a0 a1 k
  obtain ⟨ih0, ih1, ih2, ih3, ih4⟩ := fasciclelaw22_ChunkBytes.mono_l k
  unfold fasciclelaw22_ChunkBytes.f
  repeat' first
      | (with_reducible exact ih0 _ _ _)
      | (with_reducible exact ih1 _ _ _ _ _ _)
      | (with_reducible exact ih2 _ _ _ _ _ _ _ _ _ _ _ _)
      | (with_reducible exact ih3 _ _ _ _ _ _ _ _)
      | (with_reducible exact ih4 _ _ _ _ _ _ _ _ _)
      | (with_reducible exact chunk_All.mono _ _ _)
      | (with_reducible exact fasciclelaw22_lives.mono _)
      | (with_reducible exact LeO.refl _)
      | (with_reducible exact LeO.none _)
      | (with_reducible refine LeO.ite ?_ ?_)
      | (with_reducible refine LeO.bind ?_ (fun _ => ?_))
      | exact ih0 _ _ _
      | exact ih1 _ _ _ _ _ _
      | exact ih2 _ _ _ _ _ _ _ _ _ _ _ _
      | exact ih3 _ _ _ _ _ _ _ _
      | exact ih4 _ _ _ _ _ _ _ _ _
      | exact chunk_All.mono _ _ _
      | exact fasciclelaw22_lives.mono _
      | exact LeO.none _
      | refine LeO.ite ?_ ?_
      | refine LeO.bind ?_ (fun _ => ?_)
set_option maxHeartbeats 8000000 in
set_option maxRecDepth 100000 in
theorem fasciclelaw22_ChunkBytes.calls (k : Nat) (a0 : Int) (A1 : Option Addr) (c1 : Nat) (l1 : List Int) (r : Bool) (w : World) (hr1 : Kd.C (Kd.int .u8) w A1 l1.length l1) (hc1 : l1.length ≤ c1) (h : fasciclelaw22_ChunkBytes.f k a0 l1 = some r) :
    Calls Try.prog 8 #[.int .i64 a0, .slice A1 l1.length c1] w fun e w' => e = .returned (.bool r) ∧ Below w.heap.size w w' := by
  have hu55 := Try.underlying55
  have HR1 := Aside0.mk hr1
  have HC1 := Aside0.mk hc1
  clear hr1 hc1
  have HB := Aside0.mk (Below.refl w.heap.size w)
  have H : ((fasciclelaw22_lives.f k).bind fun t186 => (if t186 = true then (fasciclelaw22_ChunkBytes.j0 k a0 l1 (decide ((l1.length : Int) > 2000))) else (fasciclelaw22_ChunkBytes.j0 k a0 l1 true))) = some r := h
  clear h
  have HC3 := Aside0.mk H
  clear H
  go_enter Try.func8, Try.ntmps8
  go_upto_region 1 with (fail)
  repeat (go_quiet (fail); go_upto_region 1 with (fail))
  go_cut [18] (fun v18 wc => ∃ (kq : Nat) (x18_2 : Bool), v18 = .bool x18_2 ∧ Aside0 (fasciclelaw22_ChunkBytes.j0 kq a0 l1 x18_2 = some r) ∧ Aside0 (kq ≤ k) ∧ Aside0 (Below w.heap.size w wc))
  case first =>
    have H := HC3.out
    clear HC3
    replace H := Option.bind_eq_some_iff.mp H
    obtain ⟨t186, A40, H⟩ := H
    replace H : (if t186 = true then (fasciclelaw22_ChunkBytes.j0 k a0 l1 (decide ((l1.length : Int) > 2000))) else (fasciclelaw22_ChunkBytes.j0 k a0 l1 true)) = some r := H
    have A4 := Aside0.mk A40
    clear A40
    by_cases c5 : t186 = true
    · subst c5
      have H1 : (fasciclelaw22_ChunkBytes.j0 k a0 l1 (decide ((l1.length : Int) > 2000))) = some r := by rw [if_pos rfl] at H; exact H
      clear H
      have H := H1
      clear H1
      have H' := Aside0.mk H
      clear H
      go_wp2_with (first | (go_at_call 14; (with_reducible refine (fasciclelaw22_lives.calls k  true _ A4.out).mono ?_); rintro e w6 ⟨rfl, hb⟩; have n0_ := Aside0.mk (below_step (by repeat (first | (with_reducible first | exact HB.out | apply below_alloc | apply pw_below_drewN | apply below_drew1) | exact HB.out)) hb); clear HB; have HB := n0_; clear n0_; (try clear hb); (try clear hb2); (try clear hk); (try clear hi)))
      repeat (go_quiet (first | (go_at_call 14; (with_reducible refine (fasciclelaw22_lives.calls k  true _ A4.out).mono ?_); rintro e w6 ⟨rfl, hb⟩; have n0_ := Aside0.mk (below_step (by repeat (first | (with_reducible first | exact HB.out | apply below_alloc | apply pw_below_drewN | apply below_drew1) | exact HB.out)) hb); clear HB; have HB := n0_; clear n0_; (try clear hb); (try clear hb2); (try clear hk); (try clear hi))); try go_wp2_with (first | (go_at_call 14; (with_reducible refine (fasciclelaw22_lives.calls k  true _ A4.out).mono ?_); rintro e w6 ⟨rfl, hb⟩; have n0_ := Aside0.mk (below_step (by repeat (first | (with_reducible first | exact HB.out | apply below_alloc | apply pw_below_drewN | apply below_drew1) | exact HB.out)) hb); clear HB; have HB := n0_; clear n0_; (try clear hb); (try clear hb2); (try clear hk); (try clear hi))))
      go_meet
      case rel => exact ⟨_, (decide ((l1.length : Int) > 2000)), (by first | rfl | (simp; done) | (simp [*]; done)), (by first | exact H' | (rw [hji29]; exact H')), ⟨by first | omega | exact Nat.le_refl _⟩, ⟨by repeat (first | (with_reducible first | exact HB.out | apply below_alloc | apply pw_below_drewN | apply below_drew1) | exact HB.out)⟩⟩
    · replace c5 := Bool.eq_false_iff.mpr c5
      subst c5
      have H1 : (fasciclelaw22_ChunkBytes.j0 k a0 l1 true) = some r := by rw [if_neg (show ¬ (false = true) by decide)] at H; exact H
      clear H
      have H := H1
      clear H1
      have H' := Aside0.mk H
      clear H
      go_wp2_with (first | (go_at_call 14; (with_reducible refine (fasciclelaw22_lives.calls k  false _ A4.out).mono ?_); rintro e w7 ⟨rfl, hb⟩; have n0_ := Aside0.mk (below_step (by repeat (first | (with_reducible first | exact HB.out | apply below_alloc | apply pw_below_drewN | apply below_drew1) | exact HB.out)) hb); clear HB; have HB := n0_; clear n0_; (try clear hb); (try clear hb2); (try clear hk); (try clear hi)))
      repeat (go_quiet (first | (go_at_call 14; (with_reducible refine (fasciclelaw22_lives.calls k  false _ A4.out).mono ?_); rintro e w7 ⟨rfl, hb⟩; have n0_ := Aside0.mk (below_step (by repeat (first | (with_reducible first | exact HB.out | apply below_alloc | apply pw_below_drewN | apply below_drew1) | exact HB.out)) hb); clear HB; have HB := n0_; clear n0_; (try clear hb); (try clear hb2); (try clear hk); (try clear hi))); try go_wp2_with (first | (go_at_call 14; (with_reducible refine (fasciclelaw22_lives.calls k  false _ A4.out).mono ?_); rintro e w7 ⟨rfl, hb⟩; have n0_ := Aside0.mk (below_step (by repeat (first | (with_reducible first | exact HB.out | apply below_alloc | apply pw_below_drewN | apply below_drew1) | exact HB.out)) hb); clear HB; have HB := n0_; clear n0_; (try clear hb); (try clear hb2); (try clear hk); (try clear hi))))
      go_meet
      case rel => exact ⟨_, (true), (by first | rfl | (simp; done) | (simp [*]; done)), (by first | exact H' | (rw [hji29]; exact H')), ⟨by first | omega | exact Nat.le_refl _⟩, ⟨by repeat (first | (with_reducible first | exact HB.out | apply below_alloc | apply pw_below_drewN | apply below_drew1) | exact HB.out)⟩⟩
  case rest =>
    clear HC3
    try clear c1
    try clear p2
    try clear c5
    obtain ⟨kq, x18_2, rfl, HA, HJ2, HB⟩ := hcut
    cases kq with
    | zero => exact absurd HA.out (by simp [fasciclelaw22_ChunkBytes.j0])
    | succ kj2 =>
      have H := HA.out
      clear HA
      simp only [fasciclelaw22_ChunkBytes.j0] at H
      by_cases c8 : x18_2 = true
      · subst c8
        have H1 : ((fasciclelaw22_lives.f kj2).bind fun t187 => (some t187)) = some r := by rw [if_pos rfl] at H; exact H
        clear H
        have H := H1
        clear H1
        replace H := Option.bind_eq_some_iff.mp H
        obtain ⟨t187, A90, H⟩ := H
        replace H : (some t187) = some r := H
        have A9 := Aside0.mk A90
        clear A90
        obtain rfl := Option.some.inj H
        go_wp2_with (first | (go_at_call 14; (with_reducible refine (fasciclelaw22_lives.calls kj2  t187 _ A9.out).mono ?_); rintro e w10 ⟨rfl, hb⟩; have n0_ := Aside0.mk (below_step (by repeat (first | (with_reducible first | exact HB.out | apply below_alloc | apply pw_below_drewN | apply below_drew1) | exact HB.out)) hb); clear HB; have HB := n0_; clear n0_; (try clear hb); (try clear hb2); (try clear hk); (try clear hi)))
        repeat (go_quiet (first | (go_at_call 14; (with_reducible refine (fasciclelaw22_lives.calls kj2  t187 _ A9.out).mono ?_); rintro e w10 ⟨rfl, hb⟩; have n0_ := Aside0.mk (below_step (by repeat (first | (with_reducible first | exact HB.out | apply below_alloc | apply pw_below_drewN | apply below_drew1) | exact HB.out)) hb); clear HB; have HB := n0_; clear n0_; (try clear hb); (try clear hb2); (try clear hk); (try clear hi))); try go_wp2_with (first | (go_at_call 14; (with_reducible refine (fasciclelaw22_lives.calls kj2  t187 _ A9.out).mono ?_); rintro e w10 ⟨rfl, hb⟩; have n0_ := Aside0.mk (below_step (by repeat (first | (with_reducible first | exact HB.out | apply below_alloc | apply pw_below_drewN | apply below_drew1) | exact HB.out)) hb); clear HB; have HB := n0_; clear n0_; (try clear hb); (try clear hb2); (try clear hk); (try clear hi))))
        go_ret
        exact ⟨by first | rfl | (simp [errW_none, errW_some] <;> rfl) | (simp [*, errW_none, errW_some] <;> rfl), by repeat (first | (with_reducible first | exact HB.out | apply below_alloc | apply pw_below_drewN | apply below_drew1) | exact HB.out)⟩
      · replace c8 := Bool.eq_false_iff.mpr c8
        subst c8
        have H1 : ((chunk_All.f kj2 a0 l1).bind fun t188 => (fasciclelaw22_ChunkBytes.l0 kj2 a0 l1 (mx 1 a0) t188 (t188.length : Int) 0)) = some r := by rw [if_neg (show ¬ (false = true) by decide)] at H; exact H
        clear H
        have H := H1
        clear H1
        obtain ⟨ji11, hji11⟩ : ∃ j_ : Int, (mx 1 a0) = j_ := ⟨_, rfl⟩
        replace H : ((chunk_All.f kj2 a0 l1).bind fun t188 => (fasciclelaw22_ChunkBytes.l0 kj2 a0 l1 ji11 t188 (t188.length : Int) 0)) = some r := by first | (rw [hji11] at H; exact H) | (simp only [hji11] at H ⊢; exact H)
        (try (have hji11l : 1 ≤ ji11 := by (rw [← hji11]; unfold mx; (repeat' split) <;> omega)))
        (try (have hji11m : 0 ≤ ji11 := by omega))
        have hji11_ : (if 1 < a0 then a0 else 1) = ji11 := hji11
        replace H := Option.bind_eq_some_iff.mp H
        obtain ⟨t188, A120, H⟩ := H
        replace H : (fasciclelaw22_ChunkBytes.l0 kj2 a0 l1 ji11 t188 (t188.length : Int) 0) = some r := H
        have A12 := Aside0.mk A120
        clear A120
        have H' := Aside0.mk H
        clear H
        go_wp2_with (first | (go_at_call 15; (with_reducible refine (chunk_All.calls kj2 a0 _ _ l1 t188 _ ?side1 ?side2 A12.out).mono ?_); (case side1 => repeat (first | exact (Kd.C_below HR1.out HB.out) | (with_reducible refine Kd.C_alloc ?_ _) | (with_reducible refine Kd.C_drewN ?_ _) | (with_reducible refine Kd.C_drew ?_))); (case side2 => exact HC1.out); rintro e w13 ⟨v189, rfl, ho0, hb⟩; have n0_ := Aside0.mk (Kd.R_lower ho0 (below_size (by repeat (first | (with_reducible first | exact HB.out | apply below_alloc | apply pw_below_drewN | apply below_drew1) | exact HB.out)))); have n1_ := Aside0.mk (below_step (by repeat (first | (with_reducible first | exact HB.out | apply below_alloc | apply pw_below_drewN | apply below_drew1) | exact HB.out)) hb); clear HB; have HO190 := n0_; have HB := n1_; clear n0_ n1_; (try clear hb); (try clear hb2); (try clear hk); (try clear hi); (try clear ho0); obtain ⟨Ao14, co14, eo14⟩ := Kd.R_slice HO190.out; subst eo14))
        repeat (go_quiet (first | (go_at_call 15; (with_reducible refine (chunk_All.calls kj2 a0 _ _ l1 t188 _ ?side1 ?side2 A12.out).mono ?_); (case side1 => repeat (first | exact (Kd.C_below HR1.out HB.out) | (with_reducible refine Kd.C_alloc ?_ _) | (with_reducible refine Kd.C_drewN ?_ _) | (with_reducible refine Kd.C_drew ?_))); (case side2 => exact HC1.out); rintro e w13 ⟨v189, rfl, ho0, hb⟩; have n0_ := Aside0.mk (Kd.R_lower ho0 (below_size (by repeat (first | (with_reducible first | exact HB.out | apply below_alloc | apply pw_below_drewN | apply below_drew1) | exact HB.out)))); have n1_ := Aside0.mk (below_step (by repeat (first | (with_reducible first | exact HB.out | apply below_alloc | apply pw_below_drewN | apply below_drew1) | exact HB.out)) hb); clear HB; have HO190 := n0_; have HB := n1_; clear n0_ n1_; (try clear hb); (try clear hb2); (try clear hk); (try clear hi); (try clear ho0); obtain ⟨Ao14, co14, eo14⟩ := Kd.R_slice HO190.out; subst eo14)); try go_wp2_with (first | (go_at_call 15; (with_reducible refine (chunk_All.calls kj2 a0 _ _ l1 t188 _ ?side1 ?side2 A12.out).mono ?_); (case side1 => repeat (first | exact (Kd.C_below HR1.out HB.out) | (with_reducible refine Kd.C_alloc ?_ _) | (with_reducible refine Kd.C_drewN ?_ _) | (with_reducible refine Kd.C_drew ?_))); (case side2 => exact HC1.out); rintro e w13 ⟨v189, rfl, ho0, hb⟩; have n0_ := Aside0.mk (Kd.R_lower ho0 (below_size (by repeat (first | (with_reducible first | exact HB.out | apply below_alloc | apply pw_below_drewN | apply below_drew1) | exact HB.out)))); have n1_ := Aside0.mk (below_step (by repeat (first | (with_reducible first | exact HB.out | apply below_alloc | apply pw_below_drewN | apply below_drew1) | exact HB.out)) hb); clear HB; have HO190 := n0_; have HB := n1_; clear n0_ n1_; (try clear hb); (try clear hb2); (try clear hk); (try clear hi); (try clear ho0); obtain ⟨Ao14, co14, eo14⟩ := Kd.R_slice HO190.out; subst eo14)))
        go_loopg [26] kj2 (fun kq v26 w' => ∃ (x26_2 : Int), v26 = .int .i64 x26_2 ∧ Aside0 (fasciclelaw22_ChunkBytes.l0 kq a0 l1 ji11 t188 (t188.length : Int) x26_2 = some r) ∧ Aside0 (kq ≤ kj2) ∧ Aside0 (Kd.R k55 55 w' w.heap.size (fun _ => True) (.slice Ao14 t188.length co14) t188) ∧ Aside0 (Below w.heap.size w w'))
        case atStart => exact ⟨(0), (by first | rfl | (simp; done) | (simp [*]; done)), (by first | exact H' | (rw [hji29]; exact H')), ⟨Nat.le_refl _⟩, ⟨by (with_reducible repeat (first | apply Kd.R_alloc | apply Kd.R_drewN | apply Kd.R_drew)); exact HO190.out⟩, ⟨by repeat (first | (with_reducible first | exact HB.out | apply below_alloc | apply pw_below_drewN | apply below_drew1) | exact HB.out)⟩⟩
        case round =>
          clear H'
          try clear c1
          try clear p2
          try clear c5
          try clear c8
          try clear p2
          obtain ⟨x26_2, rfl, HA, HK2, HO_24, HB⟩ := hrel
          cases gk with
          | zero => exact absurd HA.out (by simp [fasciclelaw22_ChunkBytes.l0])
          | succ k2 =>
            have H := HA.out
            clear HA
            simp only [fasciclelaw22_ChunkBytes.l0] at H
            by_cases c15 : x26_2 < (t188.length : Int)
            · rw [if_pos c15] at H
              have c15b0 : decide (x26_2 < (t188.length : Int)) = true := decide_eq_true c15
              clear c15
              by_cases c16 : 0 ≤ x26_2
              · rw [if_pos c16] at H
                have c16b0 : decide (0 ≤ x26_2) = true := decide_eq_true c16
                clear c16
                by_cases c17 : x26_2 < (t188.length : Int)
                · rw [if_pos c17] at H
                  have c17b0 : decide (x26_2 < (t188.length : Int)) = true := decide_eq_true c17
                  clear c17
                  replace H := Option.bind_eq_some_iff.mp H
                  obtain ⟨t193, A180, H⟩ := H
                  replace H : (if (t193.length : Int) = (wrap64 (((rd_T55 t188 x26_2).f2) - ((rd_T55 t188 x26_2).f1))) then (if 0 ≤ (wrap64 ((wrap64 ((wrap64 ((wrap64 ((rd_T55 t188 x26_2).f0)) * ji11)) + ((rd_T55 t188 x26_2).f1))) + (t193.length : Int))) then (if (wrap64 ((wrap64 ((wrap64 ((wrap64 ((rd_T55 t188 x26_2).f0)) * ji11)) + ((rd_T55 t188 x26_2).f1))) + (t193.length : Int))) < (l1.length : Int) then (if (rd l1 (wrap64 ((wrap64 ((wrap64 ((wrap64 ((rd_T55 t188 x26_2).f0)) * ji11)) + ((rd_T55 t188 x26_2).f1))) + (t193.length : Int)))) = 0 then (if 0 ≤ (wrap64 ((wrap64 ((wrap64 ((rd_T55 t188 x26_2).f0)) * ji11)) + ((rd_T55 t188 x26_2).f1))) then (if (wrap64 ((wrap64 ((wrap64 ((rd_T55 t188 x26_2).f0)) * ji11)) + ((rd_T55 t188 x26_2).f1))) ≤ (wrap64 ((wrap64 ((wrap64 ((wrap64 ((rd_T55 t188 x26_2).f0)) * ji11)) + ((rd_T55 t188 x26_2).f1))) + (t193.length : Int))) then (if (wrap64 ((wrap64 ((wrap64 ((wrap64 ((rd_T55 t188 x26_2).f0)) * ji11)) + ((rd_T55 t188 x26_2).f1))) + (t193.length : Int))) ≤ (l1.length : Int) then (fasciclelaw22_ChunkBytes.j2 k2 a0 l1 ji11 t193 (wrap64 ((wrap64 ((wrap64 ((rd_T55 t188 x26_2).f0)) * ji11)) + ((rd_T55 t188 x26_2).f1))) t188 (t188.length : Int) x26_2 ((strOfNums t193).toList != (strOfNums ((l1.take ((wrap64 ((wrap64 ((wrap64 ((wrap64 ((rd_T55 t188 x26_2).f0)) * ji11)) + ((rd_T55 t188 x26_2).f1))) + (t193.length : Int))) : Int).toNat).drop ((wrap64 ((wrap64 ((wrap64 ((rd_T55 t188 x26_2).f0)) * ji11)) + ((rd_T55 t188 x26_2).f1))) : Int).toNat)).toList) ((rd_T55 t188 x26_2).f0) ((rd_T55 t188 x26_2).f1) ((rd_T55 t188 x26_2).f2)) else (none)) else (none)) else (none)) else (fasciclelaw22_ChunkBytes.j2 k2 a0 l1 ji11 t193 (wrap64 ((wrap64 ((wrap64 ((rd_T55 t188 x26_2).f0)) * ji11)) + ((rd_T55 t188 x26_2).f1))) t188 (t188.length : Int) x26_2 true ((rd_T55 t188 x26_2).f0) ((rd_T55 t188 x26_2).f1) ((rd_T55 t188 x26_2).f2))) else (none)) else (none)) else (fasciclelaw22_ChunkBytes.j2 k2 a0 l1 ji11 t193 (wrap64 ((wrap64 ((wrap64 ((rd_T55 t188 x26_2).f0)) * ji11)) + ((rd_T55 t188 x26_2).f1))) t188 (t188.length : Int) x26_2 true ((rd_T55 t188 x26_2).f0) ((rd_T55 t188 x26_2).f1) ((rd_T55 t188 x26_2).f2))) = some r := H
                  have A18 := Aside0.mk A180
                  clear A180
                  have HC19 := Aside0.mk H
                  clear H
                  have p191 : 0 ≤ (x26_2 : Int) := of_decide_eq_true (by first | (with_reducible assumption) | assumption)
                  have q191 : x26_2 < (t188.length : Int) := of_decide_eq_true (by first | (with_reducible assumption) | assumption)
                  obtain ⟨ad191, e191, hx191_0, hx191_1, hx191_2⟩ := at_T55 (Kd.R_reads' HO_24.out).2.2 x26_2 p191 q191
                  cases e191
                  replace p191 := eq_true p191
                  replace q191 := eq_true q191
                  go_upto_region 9 with (first | ((with_reducible refine gate_dst (N := 7) rfl ?_); (try (refine gate_guard (by rfl) ?_; dsimp only)); refine box_event ?hg (N := 7) ?hd (cs := #[.int .u64 0, .int .i64 0, .int .i64 0]) (t := 55) ?hr ?_; (case hd => rfl); (case hg => rfl); (case hr => first | (go_simp; done) | (go_simp; rfl)); intro gb192 hg w20 hbox hb; have n0_ := Aside0.mk (Kd.R_below (Kd.R_elderB (by (with_reducible repeat (first | apply Kd.R_alloc | apply Kd.R_drewN | apply Kd.R_drew)); exact HO_24.out) gb192 (Nat.le_of_eq hg.symm)) hb); have n1_ := Aside0.mk (below_step (by repeat (first | (with_reducible first | exact HB.out | apply below_alloc | apply pw_below_drewN | apply below_drew1) | exact HB.out)) hb); have n2_ := Aside0.mk (hbox); have n3_ := Aside0.mk ((by rw [hg]; exact (below_size (by repeat (first | (with_reducible first | exact HB.out | apply below_alloc | apply pw_below_drewN | apply below_drew1) | exact HB.out))) : w.heap.size ≤ gb192)); have n4_ := Aside0.mk ((by rw [hg]; exact (below_size (by repeat (first | (with_reducible first | exact HB.out | apply below_alloc | apply pw_below_drewN | apply below_drew1) | exact HB.out))) : w.heap.size ≤ gb192)); clear HO_24; clear HB; have HO_24 := n0_; have HB := n1_; have BK192 := n2_; have GW192 := n3_; have GE192 := n4_; clear n0_ n1_ n2_ n3_ n4_; clear hb hbox hg; have hcz21_0 : w20.cell? ⟨gb192, 0, none⟩ = some (.int .u64 0) := (blk_cell BK192.out 0).trans rfl; have hcz21_1 : w20.cell? ⟨gb192, 1, none⟩ = some (.int .i64 0) := (blk_cell BK192.out 1).trans rfl; have hcz21_2 : w20.cell? ⟨gb192, 2, none⟩ = some (.int .i64 0) := (blk_cell BK192.out 2).trans rfl; have hfz21_0 := blk_frozen BK192.out 0; have hfz21_1 := blk_frozen BK192.out 1; have hfz21_2 := blk_frozen BK192.out 2) | (go_at_call 30; (with_reducible refine (chunk_Bytes.calls a0 _ _ l1 ((rd_T55 t188 x26_2).f0) ((rd_T55 t188 x26_2).f1) ((rd_T55 t188 x26_2).f2) t193 _ ?side1 ?side2 A18.out).mono ?_); (case side1 => exact Kd.C_below HR1.out (by repeat (first | (with_reducible first | exact HB.out | apply below_alloc | apply pw_below_drewN | apply below_drew1 | refine below_set ?_ GE192.out) | exact HB.out))); (case side2 => exact HC1.out); rintro e w22 ⟨v194, rfl, ho0, hb⟩; have n0_ := Aside0.mk (Kd.R_below (by (with_reducible repeat (first | apply Kd.R_alloc | apply Kd.R_drewN | apply Kd.R_drew)); exact (Kd.R_mono (Kd.R_far (p := ⟨gb192, 2, none⟩) (Kd.R_far (p := ⟨gb192, 1, none⟩) (Kd.R_far (p := ⟨gb192, 0, none⟩) (Kd.R_mono HO_24.out (fun k_ hk => (⟨hk, hk.2⟩ : _ ∧ k_ ≠ gb192))) (fun _ hk => by first | exact hk.2 | exact hk) (.int .u64 ((rd_T55 t188 x26_2).f0))) (fun _ hk => by first | exact hk.2 | exact hk) (.int .i64 ((rd_T55 t188 x26_2).f1))) (fun _ hk => by first | exact hk.2 | exact hk) (.int .i64 ((rd_T55 t188 x26_2).f2))) (fun _ h_ => h_.1))) hb); have n1_ := Aside0.mk (Kd.R_lower ho0 (below_size (by repeat (first | (with_reducible first | exact HB.out | apply below_alloc | apply pw_below_drewN | apply below_drew1 | refine below_set ?_ GE192.out) | exact HB.out)))); have n2_ := Aside0.mk (blk_below (g := gb192) (o := .cells #[.int .u64 ((rd_T55 t188 x26_2).f0), .int .i64 ((rd_T55 t188 x26_2).f1), .int .i64 ((rd_T55 t188 x26_2).f2)] 55 (0, 0)) (by (with_reducible repeat (first | refine blk_drewN ?_ _ | refine blk_drew ?_ | refine blk_alloc ?_ _)); refine blk_put (cs := #[.int .u64 ((rd_T55 t188 x26_2).f0), .int .i64 ((rd_T55 t188 x26_2).f1), .int .i64 0]) ?_ 2 _ rfl; (with_reducible repeat (first | refine blk_drewN ?_ _ | refine blk_drew ?_ | refine blk_alloc ?_ _)); refine blk_put (cs := #[.int .u64 ((rd_T55 t188 x26_2).f0), .int .i64 0, .int .i64 0]) ?_ 1 _ rfl; (with_reducible repeat (first | refine blk_drewN ?_ _ | refine blk_drew ?_ | refine blk_alloc ?_ _)); refine blk_put (cs := #[.int .u64 0, .int .i64 0, .int .i64 0]) ?_ 0 _ rfl; (with_reducible repeat (first | refine blk_drewN ?_ _ | refine blk_drew ?_ | refine blk_alloc ?_ _)); exact BK192.out) hb); have n3_ := Aside0.mk (below_step (by repeat (first | (with_reducible first | exact HB.out | apply below_alloc | apply pw_below_drewN | apply below_drew1 | refine below_set ?_ GE192.out) | exact HB.out)) hb); clear HO_24; clear BK192; clear HB; have HO_24 := n0_; have HO195 := n1_; have BK192 := n2_; have HB := n3_; clear n0_ n1_ n2_ n3_; (try clear hb); (try clear hb2); (try clear hk); (try clear hi); (try clear ho0); have hcz23_0 : w22.cell? ⟨gb192, 0, none⟩ = some (.int .u64 ((rd_T55 t188 x26_2).f0)) := (blk_cell BK192.out 0).trans rfl; have hcz23_1 : w22.cell? ⟨gb192, 1, none⟩ = some (.int .i64 ((rd_T55 t188 x26_2).f1)) := (blk_cell BK192.out 1).trans rfl; have hcz23_2 : w22.cell? ⟨gb192, 2, none⟩ = some (.int .i64 ((rd_T55 t188 x26_2).f2)) := (blk_cell BK192.out 2).trans rfl; have hfz23_0 := blk_frozen BK192.out 0; have hfz23_1 := blk_frozen BK192.out 1; have hfz23_2 := blk_frozen BK192.out 2))
                  repeat (go_quiet (first | ((with_reducible refine gate_dst (N := 7) rfl ?_); (try (refine gate_guard (by rfl) ?_; dsimp only)); refine box_event ?hg (N := 7) ?hd (cs := #[.int .u64 0, .int .i64 0, .int .i64 0]) (t := 55) ?hr ?_; (case hd => rfl); (case hg => rfl); (case hr => first | (go_simp; done) | (go_simp; rfl)); intro gb192 hg w20 hbox hb; have n0_ := Aside0.mk (Kd.R_below (Kd.R_elderB (by (with_reducible repeat (first | apply Kd.R_alloc | apply Kd.R_drewN | apply Kd.R_drew)); exact HO_24.out) gb192 (Nat.le_of_eq hg.symm)) hb); have n1_ := Aside0.mk (below_step (by repeat (first | (with_reducible first | exact HB.out | apply below_alloc | apply pw_below_drewN | apply below_drew1) | exact HB.out)) hb); have n2_ := Aside0.mk (hbox); have n3_ := Aside0.mk ((by rw [hg]; exact (below_size (by repeat (first | (with_reducible first | exact HB.out | apply below_alloc | apply pw_below_drewN | apply below_drew1) | exact HB.out))) : w.heap.size ≤ gb192)); have n4_ := Aside0.mk ((by rw [hg]; exact (below_size (by repeat (first | (with_reducible first | exact HB.out | apply below_alloc | apply pw_below_drewN | apply below_drew1) | exact HB.out))) : w.heap.size ≤ gb192)); clear HO_24; clear HB; have HO_24 := n0_; have HB := n1_; have BK192 := n2_; have GW192 := n3_; have GE192 := n4_; clear n0_ n1_ n2_ n3_ n4_; clear hb hbox hg; have hcz21_0 : w20.cell? ⟨gb192, 0, none⟩ = some (.int .u64 0) := (blk_cell BK192.out 0).trans rfl; have hcz21_1 : w20.cell? ⟨gb192, 1, none⟩ = some (.int .i64 0) := (blk_cell BK192.out 1).trans rfl; have hcz21_2 : w20.cell? ⟨gb192, 2, none⟩ = some (.int .i64 0) := (blk_cell BK192.out 2).trans rfl; have hfz21_0 := blk_frozen BK192.out 0; have hfz21_1 := blk_frozen BK192.out 1; have hfz21_2 := blk_frozen BK192.out 2) | (go_at_call 30; (with_reducible refine (chunk_Bytes.calls a0 _ _ l1 ((rd_T55 t188 x26_2).f0) ((rd_T55 t188 x26_2).f1) ((rd_T55 t188 x26_2).f2) t193 _ ?side1 ?side2 A18.out).mono ?_); (case side1 => exact Kd.C_below HR1.out (by repeat (first | (with_reducible first | exact HB.out | apply below_alloc | apply pw_below_drewN | apply below_drew1 | refine below_set ?_ GE192.out) | exact HB.out))); (case side2 => exact HC1.out); rintro e w22 ⟨v194, rfl, ho0, hb⟩; have n0_ := Aside0.mk (Kd.R_below (by (with_reducible repeat (first | apply Kd.R_alloc | apply Kd.R_drewN | apply Kd.R_drew)); exact (Kd.R_mono (Kd.R_far (p := ⟨gb192, 2, none⟩) (Kd.R_far (p := ⟨gb192, 1, none⟩) (Kd.R_far (p := ⟨gb192, 0, none⟩) (Kd.R_mono HO_24.out (fun k_ hk => (⟨hk, hk.2⟩ : _ ∧ k_ ≠ gb192))) (fun _ hk => by first | exact hk.2 | exact hk) (.int .u64 ((rd_T55 t188 x26_2).f0))) (fun _ hk => by first | exact hk.2 | exact hk) (.int .i64 ((rd_T55 t188 x26_2).f1))) (fun _ hk => by first | exact hk.2 | exact hk) (.int .i64 ((rd_T55 t188 x26_2).f2))) (fun _ h_ => h_.1))) hb); have n1_ := Aside0.mk (Kd.R_lower ho0 (below_size (by repeat (first | (with_reducible first | exact HB.out | apply below_alloc | apply pw_below_drewN | apply below_drew1 | refine below_set ?_ GE192.out) | exact HB.out)))); have n2_ := Aside0.mk (blk_below (g := gb192) (o := .cells #[.int .u64 ((rd_T55 t188 x26_2).f0), .int .i64 ((rd_T55 t188 x26_2).f1), .int .i64 ((rd_T55 t188 x26_2).f2)] 55 (0, 0)) (by (with_reducible repeat (first | refine blk_drewN ?_ _ | refine blk_drew ?_ | refine blk_alloc ?_ _)); refine blk_put (cs := #[.int .u64 ((rd_T55 t188 x26_2).f0), .int .i64 ((rd_T55 t188 x26_2).f1), .int .i64 0]) ?_ 2 _ rfl; (with_reducible repeat (first | refine blk_drewN ?_ _ | refine blk_drew ?_ | refine blk_alloc ?_ _)); refine blk_put (cs := #[.int .u64 ((rd_T55 t188 x26_2).f0), .int .i64 0, .int .i64 0]) ?_ 1 _ rfl; (with_reducible repeat (first | refine blk_drewN ?_ _ | refine blk_drew ?_ | refine blk_alloc ?_ _)); refine blk_put (cs := #[.int .u64 0, .int .i64 0, .int .i64 0]) ?_ 0 _ rfl; (with_reducible repeat (first | refine blk_drewN ?_ _ | refine blk_drew ?_ | refine blk_alloc ?_ _)); exact BK192.out) hb); have n3_ := Aside0.mk (below_step (by repeat (first | (with_reducible first | exact HB.out | apply below_alloc | apply pw_below_drewN | apply below_drew1 | refine below_set ?_ GE192.out) | exact HB.out)) hb); clear HO_24; clear BK192; clear HB; have HO_24 := n0_; have HO195 := n1_; have BK192 := n2_; have HB := n3_; clear n0_ n1_ n2_ n3_; (try clear hb); (try clear hb2); (try clear hk); (try clear hi); (try clear ho0); have hcz23_0 : w22.cell? ⟨gb192, 0, none⟩ = some (.int .u64 ((rd_T55 t188 x26_2).f0)) := (blk_cell BK192.out 0).trans rfl; have hcz23_1 : w22.cell? ⟨gb192, 1, none⟩ = some (.int .i64 ((rd_T55 t188 x26_2).f1)) := (blk_cell BK192.out 1).trans rfl; have hcz23_2 : w22.cell? ⟨gb192, 2, none⟩ = some (.int .i64 ((rd_T55 t188 x26_2).f2)) := (blk_cell BK192.out 2).trans rfl; have hfz23_0 := blk_frozen BK192.out 0; have hfz23_1 := blk_frozen BK192.out 1; have hfz23_2 := blk_frozen BK192.out 2)); go_upto_region 9 with (first | ((with_reducible refine gate_dst (N := 7) rfl ?_); (try (refine gate_guard (by rfl) ?_; dsimp only)); refine box_event ?hg (N := 7) ?hd (cs := #[.int .u64 0, .int .i64 0, .int .i64 0]) (t := 55) ?hr ?_; (case hd => rfl); (case hg => rfl); (case hr => first | (go_simp; done) | (go_simp; rfl)); intro gb192 hg w20 hbox hb; have n0_ := Aside0.mk (Kd.R_below (Kd.R_elderB (by (with_reducible repeat (first | apply Kd.R_alloc | apply Kd.R_drewN | apply Kd.R_drew)); exact HO_24.out) gb192 (Nat.le_of_eq hg.symm)) hb); have n1_ := Aside0.mk (below_step (by repeat (first | (with_reducible first | exact HB.out | apply below_alloc | apply pw_below_drewN | apply below_drew1) | exact HB.out)) hb); have n2_ := Aside0.mk (hbox); have n3_ := Aside0.mk ((by rw [hg]; exact (below_size (by repeat (first | (with_reducible first | exact HB.out | apply below_alloc | apply pw_below_drewN | apply below_drew1) | exact HB.out))) : w.heap.size ≤ gb192)); have n4_ := Aside0.mk ((by rw [hg]; exact (below_size (by repeat (first | (with_reducible first | exact HB.out | apply below_alloc | apply pw_below_drewN | apply below_drew1) | exact HB.out))) : w.heap.size ≤ gb192)); clear HO_24; clear HB; have HO_24 := n0_; have HB := n1_; have BK192 := n2_; have GW192 := n3_; have GE192 := n4_; clear n0_ n1_ n2_ n3_ n4_; clear hb hbox hg; have hcz21_0 : w20.cell? ⟨gb192, 0, none⟩ = some (.int .u64 0) := (blk_cell BK192.out 0).trans rfl; have hcz21_1 : w20.cell? ⟨gb192, 1, none⟩ = some (.int .i64 0) := (blk_cell BK192.out 1).trans rfl; have hcz21_2 : w20.cell? ⟨gb192, 2, none⟩ = some (.int .i64 0) := (blk_cell BK192.out 2).trans rfl; have hfz21_0 := blk_frozen BK192.out 0; have hfz21_1 := blk_frozen BK192.out 1; have hfz21_2 := blk_frozen BK192.out 2) | (go_at_call 30; (with_reducible refine (chunk_Bytes.calls a0 _ _ l1 ((rd_T55 t188 x26_2).f0) ((rd_T55 t188 x26_2).f1) ((rd_T55 t188 x26_2).f2) t193 _ ?side1 ?side2 A18.out).mono ?_); (case side1 => exact Kd.C_below HR1.out (by repeat (first | (with_reducible first | exact HB.out | apply below_alloc | apply pw_below_drewN | apply below_drew1 | refine below_set ?_ GE192.out) | exact HB.out))); (case side2 => exact HC1.out); rintro e w22 ⟨v194, rfl, ho0, hb⟩; have n0_ := Aside0.mk (Kd.R_below (by (with_reducible repeat (first | apply Kd.R_alloc | apply Kd.R_drewN | apply Kd.R_drew)); exact (Kd.R_mono (Kd.R_far (p := ⟨gb192, 2, none⟩) (Kd.R_far (p := ⟨gb192, 1, none⟩) (Kd.R_far (p := ⟨gb192, 0, none⟩) (Kd.R_mono HO_24.out (fun k_ hk => (⟨hk, hk.2⟩ : _ ∧ k_ ≠ gb192))) (fun _ hk => by first | exact hk.2 | exact hk) (.int .u64 ((rd_T55 t188 x26_2).f0))) (fun _ hk => by first | exact hk.2 | exact hk) (.int .i64 ((rd_T55 t188 x26_2).f1))) (fun _ hk => by first | exact hk.2 | exact hk) (.int .i64 ((rd_T55 t188 x26_2).f2))) (fun _ h_ => h_.1))) hb); have n1_ := Aside0.mk (Kd.R_lower ho0 (below_size (by repeat (first | (with_reducible first | exact HB.out | apply below_alloc | apply pw_below_drewN | apply below_drew1 | refine below_set ?_ GE192.out) | exact HB.out)))); have n2_ := Aside0.mk (blk_below (g := gb192) (o := .cells #[.int .u64 ((rd_T55 t188 x26_2).f0), .int .i64 ((rd_T55 t188 x26_2).f1), .int .i64 ((rd_T55 t188 x26_2).f2)] 55 (0, 0)) (by (with_reducible repeat (first | refine blk_drewN ?_ _ | refine blk_drew ?_ | refine blk_alloc ?_ _)); refine blk_put (cs := #[.int .u64 ((rd_T55 t188 x26_2).f0), .int .i64 ((rd_T55 t188 x26_2).f1), .int .i64 0]) ?_ 2 _ rfl; (with_reducible repeat (first | refine blk_drewN ?_ _ | refine blk_drew ?_ | refine blk_alloc ?_ _)); refine blk_put (cs := #[.int .u64 ((rd_T55 t188 x26_2).f0), .int .i64 0, .int .i64 0]) ?_ 1 _ rfl; (with_reducible repeat (first | refine blk_drewN ?_ _ | refine blk_drew ?_ | refine blk_alloc ?_ _)); refine blk_put (cs := #[.int .u64 0, .int .i64 0, .int .i64 0]) ?_ 0 _ rfl; (with_reducible repeat (first | refine blk_drewN ?_ _ | refine blk_drew ?_ | refine blk_alloc ?_ _)); exact BK192.out) hb); have n3_ := Aside0.mk (below_step (by repeat (first | (with_reducible first | exact HB.out | apply below_alloc | apply pw_below_drewN | apply below_drew1 | refine below_set ?_ GE192.out) | exact HB.out)) hb); clear HO_24; clear BK192; clear HB; have HO_24 := n0_; have HO195 := n1_; have BK192 := n2_; have HB := n3_; clear n0_ n1_ n2_ n3_; (try clear hb); (try clear hb2); (try clear hk); (try clear hi); (try clear ho0); have hcz23_0 : w22.cell? ⟨gb192, 0, none⟩ = some (.int .u64 ((rd_T55 t188 x26_2).f0)) := (blk_cell BK192.out 0).trans rfl; have hcz23_1 : w22.cell? ⟨gb192, 1, none⟩ = some (.int .i64 ((rd_T55 t188 x26_2).f1)) := (blk_cell BK192.out 1).trans rfl; have hcz23_2 : w22.cell? ⟨gb192, 2, none⟩ = some (.int .i64 ((rd_T55 t188 x26_2).f2)) := (blk_cell BK192.out 2).trans rfl; have hfz23_0 := blk_frozen BK192.out 0; have hfz23_1 := blk_frozen BK192.out 1; have hfz23_2 := blk_frozen BK192.out 2)))
                  (try simp only [Act.put, List.setIfInBounds_toArray, List.set_cons_zero, List.set_cons_succ])
                  go_cut [72] (fun v72 wc => ∃ (kq : Nat) (x72_18 : Bool), v72 = .bool x72_18 ∧ Aside0 (fasciclelaw22_ChunkBytes.j2 kq a0 l1 ji11 t193 (wrap64 ((wrap64 ((wrap64 ((rd_T55 t188 x26_2).f0)) * ji11)) + ((rd_T55 t188 x26_2).f1))) t188 (t188.length : Int) x26_2 x72_18 ((rd_T55 t188 x26_2).f0) ((rd_T55 t188 x26_2).f1) ((rd_T55 t188 x26_2).f2) = some r) ∧ Aside0 (kq ≤ k2) ∧ Aside0 (Kd.R (Kd.int .u8) 5 wc w.heap.size (fun _ => True) v194 t193) ∧ Aside0 (Kd.R k55 55 wc w.heap.size (fun k_ => k_ ≠ gb192) (.slice (some ad191) t188.length co14) t188) ∧ Aside0 (wc.heap[gb192]? = some (.cells #[.int .u64 ((rd_T55 t188 x26_2).f0), .int .i64 ((rd_T55 t188 x26_2).f1), .int .i64 ((rd_T55 t188 x26_2).f2)] 55 (0, 0))) ∧ Aside0 (Below w.heap.size w wc))
                  case first =>
                    have H := HC19.out
                    clear HC19
                    by_cases c24 : (t193.length : Int) = (wrap64 (((rd_T55 t188 x26_2).f2) - ((rd_T55 t188 x26_2).f1)))
                    · rw [if_pos c24] at H
                      have c24b0 : ((t193.length : Int) == (wrap64 (((rd_T55 t188 x26_2).f2) - ((rd_T55 t188 x26_2).f1)))) = true := beq_iff_eq.mpr c24
                      have c24b0w : ((t193.length : Int) == (IntKind.i64.wrap (((rd_T55 t188 x26_2).f2) - ((rd_T55 t188 x26_2).f1)))) = true := by simp only [i64_w]; exact c24b0
                      have c24b1 : ((t193.length : Int) != (wrap64 (((rd_T55 t188 x26_2).f2) - ((rd_T55 t188 x26_2).f1)))) = false := bne_eq_false_iff_eq.mpr c24
                      have c24b1w : ((t193.length : Int) != (IntKind.i64.wrap (((rd_T55 t188 x26_2).f2) - ((rd_T55 t188 x26_2).f1)))) = false := by simp only [i64_w]; exact c24b1
                      clear c24
                      (first | rw [c24b0] | (simp only [i64_w, i32_w]; rw [c24b0]) | skip)
                      obtain ⟨ji25, hji25⟩ : ∃ j_ : Int, (wrap64 ((wrap64 ((wrap64 ((wrap64 ((rd_T55 t188 x26_2).f0)) * ji11)) + ((rd_T55 t188 x26_2).f1))) + (t193.length : Int))) = j_ := ⟨_, rfl⟩
                      replace H : (if 0 ≤ (ji25) then (if (ji25) < (l1.length : Int) then (if (rd l1 (ji25)) = 0 then (if 0 ≤ (wrap64 ((wrap64 ((wrap64 ((rd_T55 t188 x26_2).f0)) * ji11)) + ((rd_T55 t188 x26_2).f1))) then (if (wrap64 ((wrap64 ((wrap64 ((rd_T55 t188 x26_2).f0)) * ji11)) + ((rd_T55 t188 x26_2).f1))) ≤ (ji25) then (if (ji25) ≤ (l1.length : Int) then (fasciclelaw22_ChunkBytes.j2 k2 a0 l1 ji11 t193 (wrap64 ((wrap64 ((wrap64 ((rd_T55 t188 x26_2).f0)) * ji11)) + ((rd_T55 t188 x26_2).f1))) t188 (t188.length : Int) x26_2 ((strOfNums t193).toList != (strOfNums ((l1.take ((ji25) : Int).toNat).drop ((wrap64 ((wrap64 ((wrap64 ((rd_T55 t188 x26_2).f0)) * ji11)) + ((rd_T55 t188 x26_2).f1))) : Int).toNat)).toList) ((rd_T55 t188 x26_2).f0) ((rd_T55 t188 x26_2).f1) ((rd_T55 t188 x26_2).f2)) else (none)) else (none)) else (none)) else (fasciclelaw22_ChunkBytes.j2 k2 a0 l1 ji11 t193 (wrap64 ((wrap64 ((wrap64 ((rd_T55 t188 x26_2).f0)) * ji11)) + ((rd_T55 t188 x26_2).f1))) t188 (t188.length : Int) x26_2 true ((rd_T55 t188 x26_2).f0) ((rd_T55 t188 x26_2).f1) ((rd_T55 t188 x26_2).f2))) else (none)) else (none)) = some r := by first | (rw [hji25] at H; exact H) | (simp only [hji25] at H ⊢; exact H)
                      have hji25w : (IntKind.i64.wrap ((wrap64 ((wrap64 ((wrap64 ((rd_T55 t188 x26_2).f0)) * ji11)) + ((rd_T55 t188 x26_2).f1))) + (t193.length : Int))) = ji25 := (i64_w _).trans hji25
                      by_cases c26 : 0 ≤ (ji25)
                      · rw [if_pos c26] at H
                        have c26b0 : decide (0 ≤ (ji25)) = true := decide_eq_true c26
                        clear c26
                        by_cases c27 : (ji25) < (l1.length : Int)
                        · rw [if_pos c27] at H
                          have c27b0 : decide ((ji25) < (l1.length : Int)) = true := decide_eq_true c27
                          clear c27
                          by_cases c28 : (rd l1 (ji25)) = 0
                          · rw [if_pos c28] at H
                            have c28b0 : ((rd l1 (ji25)) == 0) = true := beq_iff_eq.mpr c28
                            have c28b1 : ((rd l1 (ji25)) != 0) = false := bne_eq_false_iff_eq.mpr c28
                            clear c28
                            obtain ⟨ji29, hji29⟩ : ∃ j_ : Int, (wrap64 ((wrap64 ((wrap64 ((rd_T55 t188 x26_2).f0)) * ji11)) + ((rd_T55 t188 x26_2).f1))) = j_ := ⟨_, rfl⟩
                            try (have hjx1_ : wrap64 (ji29 + (t193.length : Int)) = ji25 := (by rw [← hji29]; exact hji25))
                            try (have hjx2_ : IntKind.i64.wrap (ji29 + (t193.length : Int)) = ji25 := (by simp only [i64_w]; exact hjx1_))
                            replace H : (if 0 ≤ (ji29) then (if (ji29) ≤ (ji25) then (if (ji25) ≤ (l1.length : Int) then (fasciclelaw22_ChunkBytes.j2 k2 a0 l1 ji11 t193 ji29 t188 (t188.length : Int) x26_2 ((strOfNums t193).toList != (strOfNums ((l1.take ((ji25) : Int).toNat).drop ((ji29) : Int).toNat)).toList) ((rd_T55 t188 x26_2).f0) ((rd_T55 t188 x26_2).f1) ((rd_T55 t188 x26_2).f2)) else (none)) else (none)) else (none)) = some r := by first | (rw [hji29] at H; exact H) | (simp only [hji29] at H ⊢; exact H)
                            have hji29w : (IntKind.i64.wrap ((wrap64 ((wrap64 ((rd_T55 t188 x26_2).f0)) * ji11)) + ((rd_T55 t188 x26_2).f1))) = ji29 := (i64_w _).trans hji29
                            by_cases c30 : 0 ≤ (ji29)
                            · rw [if_pos c30] at H
                              have c30b0 := eq_true c30
                              have c30b1 : decide (0 ≤ (ji29)) = true := decide_eq_true c30
                              clear c30
                              by_cases c31 : (ji29) ≤ (ji25)
                              · rw [if_pos c31] at H
                                have c31b0 := eq_true c31
                                have c31b1 : decide ((ji29) ≤ (ji25)) = true := decide_eq_true c31
                                clear c31
                                by_cases c32 : (ji25) ≤ (l1.length : Int)
                                · rw [if_pos c32] at H
                                  have c32b0 := eq_true c32
                                  have c32b1 : decide ((ji25) ≤ (l1.length : Int)) = true := decide_eq_true c32
                                  clear c32
                                  have H' := Aside0.mk H
                                  clear H
                                  obtain ⟨Ao33, co33, eo33⟩ := Kd.R_slice HO195.out
                                  subst eo33
                                  have hcz34_0 : w22.cell? ⟨gb192, 0, none⟩ = some (.int .u64 ((rd_T55 t188 x26_2).f0)) := (blk_cell BK192.out 0).trans rfl
                                  have hcz34_1 : w22.cell? ⟨gb192, 1, none⟩ = some (.int .i64 ((rd_T55 t188 x26_2).f1)) := (blk_cell BK192.out 1).trans rfl
                                  have hcz34_2 : w22.cell? ⟨gb192, 2, none⟩ = some (.int .i64 ((rd_T55 t188 x26_2).f2)) := (blk_cell BK192.out 2).trans rfl
                                  have hfz34_0 := blk_frozen BK192.out 0
                                  have hfz34_1 := blk_frozen BK192.out 1
                                  have hfz34_2 := blk_frozen BK192.out 2
                                  have p196 : 0 ≤ ((ji25) : Int) := of_decide_eq_true (by first | (with_reducible assumption) | assumption)
                                  have q196 : (ji25) < (l1.length : Int) := of_decide_eq_true (by first | (with_reducible assumption) | assumption)
                                  obtain ⟨ad196, e196, hx196_0⟩ := Kd.at_int HR1.out (ji25) p196 q196
                                  cases e196
                                  replace hx196_0 := (HB.out.cell (World.block_lt_of_cell? w _ hx196_0)).trans hx196_0
                                  replace p196 := eq_true p196
                                  replace q196 := eq_true q196
                                  have hcv35 := own_string (P := Try.prog) Try.underlying22 Try.underlying5 Try.underlying9 (Kd.own_of_R HO195.out)
                                  have hcv35n := fun n_ => own_string (P := Try.prog) Try.underlying22 Try.underlying5 Try.underlying9 (Kd.own_of_R (Kd.R_drewN HO195.out n_))
                                  obtain ⟨i036, hi036, _, hsz36, _⟩ := info_parts info5
                                  obtain ⟨A36, hcut36, hA36, hC36⟩ := print_mid_of (P := Try.prog) (Value.int .u8) 0 22 5 .i64 .i64 Try.underlying22 hi036 hsz36 (some ad196) c1 l1 (ji29) (ji25) (of_decide_eq_true (by first | (with_reducible assumption) | assumption)) (by first | omega | exact of_decide_eq_true (by first | (with_reducible assumption) | assumption)) (of_decide_eq_true (by first | (with_reducible assumption) | assumption)) HC1.out
                                  have HR197 := Aside0.mk (Kd.C_of_reads (h1 := fun _ => rfl) (hA36 _ (Kd.reads_of_C HR1.out)))
                                  have HC197 := Aside0.mk hC36
                                  clear hA36 hC36 hi036 hsz36
                                  have hcv37 := Kd.C_string (P := Try.prog) (A := A36) (c := (c1 - (ji29).toNat)) Try.underlying22 Try.underlying5 Try.underlying9 (Kd.C_below HR197.out HB.out)
                                  have hcv37n := fun n_ => Kd.C_string (P := Try.prog) (A := A36) (c := (c1 - (ji29).toNat)) Try.underlying22 Try.underlying5 Try.underlying9 (Kd.C_drewN (Kd.C_below HR197.out HB.out) n_)
                                  try (have hle_ : ji25.toNat ≤ l1.length := (by have h_ : ji25 ≤ (l1.length : Int) := of_eq_true (by assumption); omega); have hcv37m := hcv37n; simp only [List.length_drop, List.length_take, Nat.min_eq_left hle_] at hcv37m; clear hle_)
                                  go_wp2
                                  repeat (go_quiet (fail); try go_wp2)
                                  go_meet
                                  case rel => exact ⟨_, (((strOfNums t193).toList != (strOfNums ((l1.take ((ji25) : Int).toNat).drop ((ji29) : Int).toNat)).toList)), (by first | rfl | (simp; done) | (simp only [← hji25, ← hji29] <;> (first | rfl | simp)) | (simp [*]; done)), (by first | exact H' | (rw [hji29]; exact H')), ⟨by have := HJ2.out; have := HK2.out; first | omega | exact Nat.le_refl _⟩, ⟨by (with_reducible repeat (first | apply Kd.R_alloc | apply Kd.R_drewN | apply Kd.R_drew)); exact HO195.out⟩, ⟨by (with_reducible repeat (first | apply Kd.R_alloc | apply Kd.R_drewN | apply Kd.R_drew)); exact Kd.R_mono HO_24.out (fun _ hk => by first | exact hk.2 | exact hk)⟩, ⟨by (with_reducible repeat (first | refine blk_drewN ?_ _ | refine blk_drew ?_ | refine blk_alloc ?_ _)); exact BK192.out⟩, ⟨by repeat (first | (with_reducible first | exact HB.out | apply below_alloc | apply pw_below_drewN | apply below_drew1 | refine below_set ?_ GE192.out) | exact HB.out)⟩⟩
                                · rw [if_neg c32] at H
                                  exact absurd H (by simp)
                              · rw [if_neg c31] at H
                                exact absurd H (by simp)
                            · rw [if_neg c30] at H
                              exact absurd H (by simp)
                          · rw [if_neg c28] at H
                            have c28b0 : ((rd l1 (ji25)) == 0) = false := beq_eq_false_iff_ne.mpr c28
                            have c28b1 : ((rd l1 (ji25)) != 0) = true := bne_iff_ne.mpr c28
                            have H' := Aside0.mk H
                            clear H
                            obtain ⟨Ao38, co38, eo38⟩ := Kd.R_slice HO195.out
                            subst eo38
                            have hcz39_0 : w22.cell? ⟨gb192, 0, none⟩ = some (.int .u64 ((rd_T55 t188 x26_2).f0)) := (blk_cell BK192.out 0).trans rfl
                            have hcz39_1 : w22.cell? ⟨gb192, 1, none⟩ = some (.int .i64 ((rd_T55 t188 x26_2).f1)) := (blk_cell BK192.out 1).trans rfl
                            have hcz39_2 : w22.cell? ⟨gb192, 2, none⟩ = some (.int .i64 ((rd_T55 t188 x26_2).f2)) := (blk_cell BK192.out 2).trans rfl
                            have hfz39_0 := blk_frozen BK192.out 0
                            have hfz39_1 := blk_frozen BK192.out 1
                            have hfz39_2 := blk_frozen BK192.out 2
                            have p196 : 0 ≤ ((ji25) : Int) := of_decide_eq_true (by first | (with_reducible assumption) | assumption)
                            have q196 : (ji25) < (l1.length : Int) := of_decide_eq_true (by first | (with_reducible assumption) | assumption)
                            obtain ⟨ad196, e196, hx196_0⟩ := Kd.at_int HR1.out (ji25) p196 q196
                            cases e196
                            replace hx196_0 := (HB.out.cell (World.block_lt_of_cell? w _ hx196_0)).trans hx196_0
                            replace p196 := eq_true p196
                            replace q196 := eq_true q196
                            go_wp2
                            repeat (go_quiet (fail); try go_wp2)
                            go_meet
                            case rel => exact ⟨_, (true), (by first | rfl | (simp; done) | (simp [*]; done)), (by first | exact H' | (rw [hji29]; exact H')), ⟨by have := HJ2.out; have := HK2.out; first | omega | exact Nat.le_refl _⟩, ⟨by (with_reducible repeat (first | apply Kd.R_alloc | apply Kd.R_drewN | apply Kd.R_drew)); exact HO195.out⟩, ⟨by (with_reducible repeat (first | apply Kd.R_alloc | apply Kd.R_drewN | apply Kd.R_drew)); exact Kd.R_mono HO_24.out (fun _ hk => by first | exact hk.2 | exact hk)⟩, ⟨by (with_reducible repeat (first | refine blk_drewN ?_ _ | refine blk_drew ?_ | refine blk_alloc ?_ _)); exact BK192.out⟩, ⟨by repeat (first | (with_reducible first | exact HB.out | apply below_alloc | apply pw_below_drewN | apply below_drew1 | refine below_set ?_ GE192.out) | exact HB.out)⟩⟩
                        · rw [if_neg c27] at H
                          exact absurd H (by simp)
                      · rw [if_neg c26] at H
                        exact absurd H (by simp)
                    · rw [if_neg c24] at H
                      have c24b0 : ((t193.length : Int) == (wrap64 (((rd_T55 t188 x26_2).f2) - ((rd_T55 t188 x26_2).f1)))) = false := beq_eq_false_iff_ne.mpr c24
                      have c24b0w : ((t193.length : Int) == (IntKind.i64.wrap (((rd_T55 t188 x26_2).f2) - ((rd_T55 t188 x26_2).f1)))) = false := by simp only [i64_w]; exact c24b0
                      have c24b1 : ((t193.length : Int) != (wrap64 (((rd_T55 t188 x26_2).f2) - ((rd_T55 t188 x26_2).f1)))) = true := bne_iff_ne.mpr c24
                      have c24b1w : ((t193.length : Int) != (IntKind.i64.wrap (((rd_T55 t188 x26_2).f2) - ((rd_T55 t188 x26_2).f1)))) = true := by simp only [i64_w]; exact c24b1
                      (first | rw [c24b0] | (simp only [i64_w, i32_w]; rw [c24b0]) | skip)
                      have H' := Aside0.mk H
                      clear H
                      obtain ⟨Ao40, co40, eo40⟩ := Kd.R_slice HO195.out
                      subst eo40
                      have hcz41_0 : w22.cell? ⟨gb192, 0, none⟩ = some (.int .u64 ((rd_T55 t188 x26_2).f0)) := (blk_cell BK192.out 0).trans rfl
                      have hcz41_1 : w22.cell? ⟨gb192, 1, none⟩ = some (.int .i64 ((rd_T55 t188 x26_2).f1)) := (blk_cell BK192.out 1).trans rfl
                      have hcz41_2 : w22.cell? ⟨gb192, 2, none⟩ = some (.int .i64 ((rd_T55 t188 x26_2).f2)) := (blk_cell BK192.out 2).trans rfl
                      have hfz41_0 := blk_frozen BK192.out 0
                      have hfz41_1 := blk_frozen BK192.out 1
                      have hfz41_2 := blk_frozen BK192.out 2
                      go_wp2
                      repeat (go_quiet (fail); try go_wp2)
                      go_meet
                      case rel => exact ⟨_, (true), (by first | rfl | (simp; done) | (simp [*]; done)), (by first | exact H' | (rw [hji29]; exact H')), ⟨by have := HJ2.out; have := HK2.out; first | omega | exact Nat.le_refl _⟩, ⟨by (with_reducible repeat (first | apply Kd.R_alloc | apply Kd.R_drewN | apply Kd.R_drew)); exact HO195.out⟩, ⟨by (with_reducible repeat (first | apply Kd.R_alloc | apply Kd.R_drewN | apply Kd.R_drew)); exact Kd.R_mono HO_24.out (fun _ hk => by first | exact hk.2 | exact hk)⟩, ⟨by (with_reducible repeat (first | refine blk_drewN ?_ _ | refine blk_drew ?_ | refine blk_alloc ?_ _)); exact BK192.out⟩, ⟨by repeat (first | (with_reducible first | exact HB.out | apply below_alloc | apply pw_below_drewN | apply below_drew1 | refine below_set ?_ GE192.out) | exact HB.out)⟩⟩
                  case rest =>
                    clear HC19
                    try clear c1
                    try clear p1
                    try clear q1
                    try clear hx1
                    try clear c2
                    try clear p2
                    try clear c3
                    try clear hcv3
                    try clear c5
                    try clear p6
                    try clear c8
                    try clear c15
                    try clear c15b0
                    try clear c16
                    try clear c16b0
                    try clear c17
                    try clear c17b0
                    try clear p19
                    try clear q19
                    try clear hx19
                    try clear c24
                    try clear c24b0
                    try clear c24b1
                    try clear c26
                    try clear c26b0
                    try clear c27
                    try clear c27b0
                    try clear c28
                    try clear c28b0
                    try clear c28b1
                    try clear c30
                    try clear c30b0
                    try clear c30b1
                    try clear c31
                    try clear c31b0
                    try clear c31b1
                    try clear c32
                    try clear c32b0
                    try clear c32b1
                    try clear hcv35
                    try clear hcv37
                    try clear hcz21_0
                    try clear hcz21_1
                    try clear hcz21_2
                    try clear hcz23_0
                    try clear hcz23_1
                    try clear hcz23_2
                    try clear hcz34_0
                    try clear hcz34_1
                    try clear hcz34_2
                    try clear hcz39_0
                    try clear hcz39_1
                    try clear hcz39_2
                    try clear hcz41_0
                    try clear hcz41_1
                    try clear hcz41_2
                    try clear hfz21_0
                    try clear hfz21_1
                    try clear hfz21_2
                    try clear hfz23_0
                    try clear hfz23_1
                    try clear hfz23_2
                    try clear hfz34_0
                    try clear hfz34_1
                    try clear hfz34_2
                    try clear hfz39_0
                    try clear hfz39_1
                    try clear hfz39_2
                    try clear hfz41_0
                    try clear hfz41_1
                    try clear hfz41_2
                    try clear hx191_0
                    try clear hx191_1
                    try clear hx191_2
                    try clear hx196_0
                    try clear p191
                    try clear p196
                    try clear p2
                    try clear q191
                    try clear q196
                    obtain ⟨kq, x72_18, rfl, HA, HJ18, HO_8, HO_24, BK192, HB⟩ := hcut
                    cases kq with
                    | zero => exact absurd HA.out (by simp [fasciclelaw22_ChunkBytes.j2])
                    | succ kj18 =>
                      have H := HA.out
                      clear HA
                      simp only [fasciclelaw22_ChunkBytes.j2] at H
                      by_cases c42 : x72_18 = true
                      · subst c42
                        have H1 : (some false) = some r := by rw [if_pos rfl] at H; exact H
                        clear H
                        have H := H1
                        clear H1
                        obtain rfl := Option.some.inj H
                        go_wp2
                        repeat (go_quiet (fail); try go_wp2)
                        go_ret
                        exact ⟨by first | rfl | (simp [errW_none, errW_some] <;> rfl) | (simp only [← hji11]; first | rfl | (simp [errW_none, errW_some] <;> rfl)) | (simp [*, errW_none, errW_some] <;> rfl), by repeat (first | (with_reducible first | exact HB.out | apply below_alloc | apply pw_below_drewN | apply below_drew1 | refine below_set ?_ GE192.out) | exact HB.out)⟩
                      · replace c42 := Bool.eq_false_iff.mpr c42
                        subst c42
                        have H1 : (if ((rd_T55 t188 x26_2).f1) > 0 then (if 0 ≤ (wrap64 ((wrap64 ((wrap64 ((wrap64 ((rd_T55 t188 x26_2).f0)) * ji11)) + ((rd_T55 t188 x26_2).f1))) - 1)) then (if (wrap64 ((wrap64 ((wrap64 ((wrap64 ((rd_T55 t188 x26_2).f0)) * ji11)) + ((rd_T55 t188 x26_2).f1))) - 1)) < (l1.length : Int) then (fasciclelaw22_ChunkBytes.j3 kj18 a0 l1 ji11 t193 t188 (t188.length : Int) x26_2 ((rd l1 (wrap64 ((wrap64 ((wrap64 ((wrap64 ((rd_T55 t188 x26_2).f0)) * ji11)) + ((rd_T55 t188 x26_2).f1))) - 1))) != 0)) else (none)) else (none)) else (fasciclelaw22_ChunkBytes.j3 kj18 a0 l1 ji11 t193 t188 (t188.length : Int) x26_2 false)) = some r := by rw [if_neg (show ¬ (false = true) by decide)] at H; exact H
                        clear H
                        have H := H1
                        clear H1
                        have HC43 := Aside0.mk H
                        clear H
                        go_upto_region 11 with (fail)
                        repeat (go_quiet (fail); go_upto_region 11 with (fail))
                        go_cut [83] (fun v83 wc => ∃ (kq : Nat) (x83_42 : Bool), v83 = .bool x83_42 ∧ Aside0 (fasciclelaw22_ChunkBytes.j3 kq a0 l1 ji11 t193 t188 (t188.length : Int) x26_2 x83_42 = some r) ∧ Aside0 (kq ≤ kj18) ∧ Aside0 (Kd.R (Kd.int .u8) 5 wc w.heap.size (fun _ => True) v194 t193) ∧ Aside0 (Kd.R k55 55 wc w.heap.size (fun k_ => k_ ≠ gb192) (.slice (some ad191) t188.length co14) t188) ∧ Aside0 (wc.heap[gb192]? = some (.cells #[.int .u64 ((rd_T55 t188 x26_2).f0), .int .i64 ((rd_T55 t188 x26_2).f1), .int .i64 ((rd_T55 t188 x26_2).f2)] 55 (0, 0))) ∧ Aside0 (Below w.heap.size w wc))
                        case first =>
                          have H := HC43.out
                          clear HC43
                          by_cases c44 : ((rd_T55 t188 x26_2).f1) > 0
                          · rw [if_pos c44] at H
                            have c44b0 : decide (0 < ((rd_T55 t188 x26_2).f1)) = true := decide_eq_true c44
                            clear c44
                            (first | rw [c44b0] | (simp only [i64_w, i32_w]; rw [c44b0]) | skip)
                            obtain ⟨ji45, hji45⟩ : ∃ j_ : Int, (wrap64 ((wrap64 ((wrap64 ((wrap64 ((rd_T55 t188 x26_2).f0)) * ji11)) + ((rd_T55 t188 x26_2).f1))) - 1)) = j_ := ⟨_, rfl⟩
                            replace H : (if 0 ≤ (ji45) then (if (ji45) < (l1.length : Int) then (fasciclelaw22_ChunkBytes.j3 kj18 a0 l1 ji11 t193 t188 (t188.length : Int) x26_2 ((rd l1 (ji45)) != 0)) else (none)) else (none)) = some r := by first | (rw [hji45] at H; exact H) | (simp only [hji45] at H ⊢; exact H)
                            have hji45w : (IntKind.i64.wrap ((wrap64 ((wrap64 ((wrap64 ((rd_T55 t188 x26_2).f0)) * ji11)) + ((rd_T55 t188 x26_2).f1))) - 1)) = ji45 := (i64_w _).trans hji45
                            by_cases c46 : 0 ≤ (ji45)
                            · rw [if_pos c46] at H
                              have c46b0 : decide (0 ≤ (ji45)) = true := decide_eq_true c46
                              clear c46
                              by_cases c47 : (ji45) < (l1.length : Int)
                              · rw [if_pos c47] at H
                                have c47b0 : decide ((ji45) < (l1.length : Int)) = true := decide_eq_true c47
                                clear c47
                                have H' := Aside0.mk H
                                clear H
                                have hcz48_0 : wc.cell? ⟨gb192, 0, none⟩ = some (.int .u64 ((rd_T55 t188 x26_2).f0)) := (blk_cell BK192.out 0).trans rfl
                                have hcz48_1 : wc.cell? ⟨gb192, 1, none⟩ = some (.int .i64 ((rd_T55 t188 x26_2).f1)) := (blk_cell BK192.out 1).trans rfl
                                have hcz48_2 : wc.cell? ⟨gb192, 2, none⟩ = some (.int .i64 ((rd_T55 t188 x26_2).f2)) := (blk_cell BK192.out 2).trans rfl
                                have hfz48_0 := blk_frozen BK192.out 0
                                have hfz48_1 := blk_frozen BK192.out 1
                                have hfz48_2 := blk_frozen BK192.out 2
                                have p198 : 0 ≤ ((ji45) : Int) := of_decide_eq_true (by first | (with_reducible assumption) | assumption)
                                have q198 : (ji45) < (l1.length : Int) := of_decide_eq_true (by first | (with_reducible assumption) | assumption)
                                obtain ⟨ad198, e198, hx198_0⟩ := Kd.at_int HR1.out (ji45) p198 q198
                                cases e198
                                replace hx198_0 := (HB.out.cell (World.block_lt_of_cell? w _ hx198_0)).trans hx198_0
                                replace p198 := eq_true p198
                                replace q198 := eq_true q198
                                go_wp2
                                repeat (go_quiet (fail); try go_wp2)
                                go_meet
                                case rel => exact ⟨_, (((rd l1 (ji45)) != 0)), (by first | rfl | (simp; done) | (simp only [← hji45] <;> (first | rfl | simp)) | (simp [*]; done)), (by first | exact H' | (rw [hji29]; exact H')), ⟨by have := HJ2.out; have := HK2.out; have := HJ18.out; first | omega | exact Nat.le_refl _⟩, ⟨by (with_reducible repeat (first | apply Kd.R_alloc | apply Kd.R_drewN | apply Kd.R_drew)); exact HO_8.out⟩, ⟨by (with_reducible repeat (first | apply Kd.R_alloc | apply Kd.R_drewN | apply Kd.R_drew)); exact HO_24.out⟩, ⟨by (with_reducible repeat (first | refine blk_drewN ?_ _ | refine blk_drew ?_ | refine blk_alloc ?_ _)); exact BK192.out⟩, ⟨by repeat (first | (with_reducible first | exact HB.out | apply below_alloc | apply pw_below_drewN | apply below_drew1 | refine below_set ?_ GE192.out) | exact HB.out)⟩⟩
                              · rw [if_neg c47] at H
                                exact absurd H (by simp)
                            · rw [if_neg c46] at H
                              exact absurd H (by simp)
                          · rw [if_neg c44] at H
                            have c44b0 : decide (0 < ((rd_T55 t188 x26_2).f1)) = false := decide_eq_false c44
                            clear c44
                            (first | rw [c44b0] | (simp only [i64_w, i32_w]; rw [c44b0]) | skip)
                            have H' := Aside0.mk H
                            clear H
                            have hcz49_0 : wc.cell? ⟨gb192, 0, none⟩ = some (.int .u64 ((rd_T55 t188 x26_2).f0)) := (blk_cell BK192.out 0).trans rfl
                            have hcz49_1 : wc.cell? ⟨gb192, 1, none⟩ = some (.int .i64 ((rd_T55 t188 x26_2).f1)) := (blk_cell BK192.out 1).trans rfl
                            have hcz49_2 : wc.cell? ⟨gb192, 2, none⟩ = some (.int .i64 ((rd_T55 t188 x26_2).f2)) := (blk_cell BK192.out 2).trans rfl
                            have hfz49_0 := blk_frozen BK192.out 0
                            have hfz49_1 := blk_frozen BK192.out 1
                            have hfz49_2 := blk_frozen BK192.out 2
                            go_wp2
                            repeat (go_quiet (fail); try go_wp2)
                            go_meet
                            case rel => exact ⟨_, (false), (by first | rfl | (simp; done) | (simp [*]; done)), (by first | exact H' | (rw [hji29]; exact H')), ⟨by have := HJ2.out; have := HK2.out; have := HJ18.out; first | omega | exact Nat.le_refl _⟩, ⟨by (with_reducible repeat (first | apply Kd.R_alloc | apply Kd.R_drewN | apply Kd.R_drew)); exact HO_8.out⟩, ⟨by (with_reducible repeat (first | apply Kd.R_alloc | apply Kd.R_drewN | apply Kd.R_drew)); exact HO_24.out⟩, ⟨by (with_reducible repeat (first | refine blk_drewN ?_ _ | refine blk_drew ?_ | refine blk_alloc ?_ _)); exact BK192.out⟩, ⟨by repeat (first | (with_reducible first | exact HB.out | apply below_alloc | apply pw_below_drewN | apply below_drew1 | refine below_set ?_ GE192.out) | exact HB.out)⟩⟩
                        case rest =>
                          clear HC43
                          try clear c1
                          try clear p1
                          try clear q1
                          try clear hx1
                          try clear c2
                          try clear p2
                          try clear c3
                          try clear hcv3
                          try clear c4
                          try clear c5
                          try clear p6
                          try clear c8
                          try clear c15
                          try clear c15b0
                          try clear c16
                          try clear c16b0
                          try clear c17
                          try clear c17b0
                          try clear p19
                          try clear q19
                          try clear hx19
                          try clear c24
                          try clear c24b0
                          try clear c24b1
                          try clear c26
                          try clear c26b0
                          try clear c27
                          try clear c27b0
                          try clear c28
                          try clear c28b0
                          try clear c28b1
                          try clear c30
                          try clear c30b0
                          try clear c30b1
                          try clear c31
                          try clear c31b0
                          try clear c31b1
                          try clear c32
                          try clear c32b0
                          try clear c32b1
                          try clear hcv35
                          try clear hcv37
                          try clear c42
                          try clear c44
                          try clear c44b0
                          try clear c46
                          try clear c46b0
                          try clear c47
                          try clear c47b0
                          try clear hcz21_0
                          try clear hcz21_1
                          try clear hcz21_2
                          try clear hcz23_0
                          try clear hcz23_1
                          try clear hcz23_2
                          try clear hcz34_0
                          try clear hcz34_1
                          try clear hcz34_2
                          try clear hcz39_0
                          try clear hcz39_1
                          try clear hcz39_2
                          try clear hcz41_0
                          try clear hcz41_1
                          try clear hcz41_2
                          try clear hcz48_0
                          try clear hcz48_1
                          try clear hcz48_2
                          try clear hcz49_0
                          try clear hcz49_1
                          try clear hcz49_2
                          try clear hfz21_0
                          try clear hfz21_1
                          try clear hfz21_2
                          try clear hfz23_0
                          try clear hfz23_1
                          try clear hfz23_2
                          try clear hfz34_0
                          try clear hfz34_1
                          try clear hfz34_2
                          try clear hfz39_0
                          try clear hfz39_1
                          try clear hfz39_2
                          try clear hfz41_0
                          try clear hfz41_1
                          try clear hfz41_2
                          try clear hfz48_0
                          try clear hfz48_1
                          try clear hfz48_2
                          try clear hfz49_0
                          try clear hfz49_1
                          try clear hfz49_2
                          try clear hx191_0
                          try clear hx191_1
                          try clear hx191_2
                          try clear hx196_0
                          try clear hx198_0
                          try clear p1
                          try clear p19
                          try clear p191
                          try clear p196
                          try clear p198
                          try clear p2
                          try clear p6
                          try clear q1
                          try clear q19
                          try clear q191
                          try clear q196
                          try clear q198
                          obtain ⟨kq, x83_42, rfl, HA, HJ42, HO_8, HO_24, BK192, HB⟩ := hcut
                          cases kq with
                          | zero => exact absurd HA.out (by simp [fasciclelaw22_ChunkBytes.j3])
                          | succ kj42 =>
                            have H := HA.out
                            clear HA
                            simp only [fasciclelaw22_ChunkBytes.j3] at H
                            by_cases c50 : x83_42 = true
                            · subst c50
                              have H1 : (some false) = some r := by rw [if_pos rfl] at H; exact H
                              clear H
                              have H := H1
                              clear H1
                              obtain rfl := Option.some.inj H
                              go_wp2
                              repeat (go_quiet (fail); try go_wp2)
                              go_ret
                              exact ⟨by first | rfl | (simp [errW_none, errW_some] <;> rfl) | (simp only [← hji11]; first | rfl | (simp [errW_none, errW_some] <;> rfl)) | (simp [*, errW_none, errW_some] <;> rfl), by repeat (first | (with_reducible first | exact HB.out | apply below_alloc | apply pw_below_drewN | apply below_drew1 | refine below_set ?_ GE192.out) | exact HB.out)⟩
                            · replace c50 := Bool.eq_false_iff.mpr c50
                              subst c50
                              have H1 : (fasciclelaw22_ChunkBytes.l1 kj42 a0 l1 ji11 t188 (t188.length : Int) x26_2 t193 (t193.length : Int) 0) = some r := by rw [if_neg (show ¬ (false = true) by decide)] at H; exact H
                              clear H
                              have H := H1
                              clear H1
                              have H' := Aside0.mk H
                              clear H
                              obtain ⟨Ao51, co51, eo51⟩ := Kd.R_slice HO_8.out
                              subst eo51
                              go_wp2
                              repeat (go_quiet (fail); try go_wp2)
                              go_loopg [86] kj42 (fun kq v86 w' => ∃ (x86_5 : Int), v86 = .int .i64 x86_5 ∧ Aside0 (fasciclelaw22_ChunkBytes.l1 kq a0 l1 ji11 t188 (t188.length : Int) x26_2 t193 (t193.length : Int) x86_5 = some r) ∧ Aside0 (kq ≤ kj42) ∧ Aside0 (Kd.R k55 55 w' w.heap.size (fun k_ => k_ ≠ gb192) (.slice (some ad191) t188.length co14) t188) ∧ Aside0 (Kd.R (Kd.int .u8) 5 w' w.heap.size (fun _ => True) (.slice Ao51 t193.length co51) t193) ∧ Aside0 (w'.heap[gb192]? = some (.cells #[.int .u64 ((rd_T55 t188 x26_2).f0), .int .i64 ((rd_T55 t188 x26_2).f1), .int .i64 ((rd_T55 t188 x26_2).f2)] 55 (0, 0))) ∧ Aside0 (Below w.heap.size w w'))
                              case atStart => exact ⟨(0), (by first | rfl | (simp; done) | (simp [*]; done)), (by first | exact H' | (rw [hji29]; exact H')), ⟨Nat.le_refl _⟩, ⟨by (with_reducible repeat (first | apply Kd.R_alloc | apply Kd.R_drewN | apply Kd.R_drew)); exact HO_24.out⟩, ⟨by (with_reducible repeat (first | apply Kd.R_alloc | apply Kd.R_drewN | apply Kd.R_drew)); exact HO_8.out⟩, ⟨by (with_reducible repeat (first | refine blk_drewN ?_ _ | refine blk_drew ?_ | refine blk_alloc ?_ _)); exact BK192.out⟩, ⟨by repeat (first | (with_reducible first | exact HB.out | apply below_alloc | apply pw_below_drewN | apply below_drew1 | refine below_set ?_ GE192.out) | exact HB.out)⟩⟩
                              case round =>
                                clear H'
                                try clear c1
                                try clear p1
                                try clear q1
                                try clear hx1
                                try clear c2
                                try clear p2
                                try clear c3
                                try clear hcv3
                                try clear c4
                                try clear c5
                                try clear p6
                                try clear c8
                                try clear c15
                                try clear c15b0
                                try clear c16
                                try clear c16b0
                                try clear c17
                                try clear c17b0
                                try clear p19
                                try clear q19
                                try clear hx19
                                try clear c24
                                try clear c24b0
                                try clear c24b1
                                try clear c26
                                try clear c26b0
                                try clear c27
                                try clear c27b0
                                try clear c28
                                try clear c28b0
                                try clear c28b1
                                try clear c30
                                try clear c30b0
                                try clear c30b1
                                try clear c31
                                try clear c31b0
                                try clear c31b1
                                try clear c32
                                try clear c32b0
                                try clear c32b1
                                try clear hcv35
                                try clear hcv37
                                try clear c42
                                try clear c44
                                try clear c44b0
                                try clear c46
                                try clear c46b0
                                try clear c47
                                try clear c47b0
                                try clear c50
                                try clear hcz21_0
                                try clear hcz21_1
                                try clear hcz21_2
                                try clear hcz23_0
                                try clear hcz23_1
                                try clear hcz23_2
                                try clear hcz34_0
                                try clear hcz34_1
                                try clear hcz34_2
                                try clear hcz39_0
                                try clear hcz39_1
                                try clear hcz39_2
                                try clear hcz41_0
                                try clear hcz41_1
                                try clear hcz41_2
                                try clear hcz48_0
                                try clear hcz48_1
                                try clear hcz48_2
                                try clear hcz49_0
                                try clear hcz49_1
                                try clear hcz49_2
                                try clear hfz21_0
                                try clear hfz21_1
                                try clear hfz21_2
                                try clear hfz23_0
                                try clear hfz23_1
                                try clear hfz23_2
                                try clear hfz34_0
                                try clear hfz34_1
                                try clear hfz34_2
                                try clear hfz39_0
                                try clear hfz39_1
                                try clear hfz39_2
                                try clear hfz41_0
                                try clear hfz41_1
                                try clear hfz41_2
                                try clear hfz48_0
                                try clear hfz48_1
                                try clear hfz48_2
                                try clear hfz49_0
                                try clear hfz49_1
                                try clear hfz49_2
                                try clear hx191_0
                                try clear hx191_1
                                try clear hx191_2
                                try clear hx196_0
                                try clear hx198_0
                                try clear p1
                                try clear p19
                                try clear p191
                                try clear p196
                                try clear p198
                                try clear p2
                                try clear p6
                                try clear q1
                                try clear q19
                                try clear q191
                                try clear q196
                                try clear q198
                                obtain ⟨x86_5, rfl, HA, HK5, HO_24, HO_84, BK192, HB⟩ := hrel
                                cases gk with
                                | zero => exact absurd HA.out (by simp [fasciclelaw22_ChunkBytes.l1])
                                | succ k5 =>
                                  have H := HA.out
                                  clear HA
                                  simp only [fasciclelaw22_ChunkBytes.l1] at H
                                  by_cases c52 : x86_5 < (t193.length : Int)
                                  · rw [if_pos c52] at H
                                    have c52b0 : decide (x86_5 < (t193.length : Int)) = true := decide_eq_true c52
                                    clear c52
                                    by_cases c53 : 0 ≤ x86_5
                                    · rw [if_pos c53] at H
                                      have c53b0 : decide (0 ≤ x86_5) = true := decide_eq_true c53
                                      clear c53
                                      by_cases c54 : x86_5 < (t193.length : Int)
                                      · rw [if_pos c54] at H
                                        have c54b0 : decide (x86_5 < (t193.length : Int)) = true := decide_eq_true c54
                                        clear c54
                                        by_cases c55 : (rd t193 x86_5) = 0
                                        · rw [if_pos c55] at H
                                          have c55b0 : ((rd t193 x86_5) == 0) = true := beq_iff_eq.mpr c55
                                          have c55b1 : ((rd t193 x86_5) != 0) = false := bne_eq_false_iff_eq.mpr c55
                                          clear c55
                                          obtain rfl := Option.some.inj H
                                          have p199 : 0 ≤ (x86_5 : Int) := of_decide_eq_true (by first | (with_reducible assumption) | assumption)
                                          have q199 : x86_5 < (t193.length : Int) := of_decide_eq_true (by first | (with_reducible assumption) | assumption)
                                          obtain ⟨ad199, e199, hx199_0⟩ := Kd.at_int (Kd.R_reads' HO_84.out).2.2 x86_5 p199 q199
                                          cases e199
                                          replace p199 := eq_true p199
                                          replace q199 := eq_true q199
                                          go_wp2
                                          repeat (go_quiet (fail); try go_wp2)
                                          go_ret
                                          exact ⟨by first | rfl | (simp [errW_none, errW_some] <;> rfl) | (simp only [← hji11]; first | rfl | (simp [errW_none, errW_some] <;> rfl)) | (simp [*, errW_none, errW_some] <;> rfl), by repeat (first | (with_reducible first | exact HB.out | apply below_alloc | apply pw_below_drewN | apply below_drew1 | refine below_set ?_ GE192.out) | exact HB.out)⟩
                                        · rw [if_neg c55] at H
                                          have c55b0 : ((rd t193 x86_5) == 0) = false := beq_eq_false_iff_ne.mpr c55
                                          have c55b1 : ((rd t193 x86_5) != 0) = true := bne_iff_ne.mpr c55
                                          have H' := Aside0.mk H
                                          clear H
                                          have p199 : 0 ≤ (x86_5 : Int) := of_decide_eq_true (by first | (with_reducible assumption) | assumption)
                                          have q199 : x86_5 < (t193.length : Int) := of_decide_eq_true (by first | (with_reducible assumption) | assumption)
                                          obtain ⟨ad199, e199, hx199_0⟩ := Kd.at_int (Kd.R_reads' HO_84.out).2.2 x86_5 p199 q199
                                          cases e199
                                          replace p199 := eq_true p199
                                          replace q199 := eq_true q199
                                          go_wp2
                                          repeat (go_quiet (fail); try go_wp2)
                                          go_roundg k5
                                          case measure => have := HJ2.out; have := HK2.out; have := HJ18.out; have := HJ42.out; have := HK5.out; omega
                                          case rel => exact ⟨(wrap64 (x86_5 + 1)), (by first | rfl | (simp; done) | (simp [*]; done)), (by first | exact H' | (rw [hji29]; exact H')), ⟨by have := HJ2.out; have := HK2.out; have := HJ18.out; have := HJ42.out; have := HK5.out; omega⟩, ⟨by (with_reducible repeat (first | apply Kd.R_alloc | apply Kd.R_drewN | apply Kd.R_drew)); exact HO_24.out⟩, ⟨by (with_reducible repeat (first | apply Kd.R_alloc | apply Kd.R_drewN | apply Kd.R_drew)); exact HO_84.out⟩, ⟨by (with_reducible repeat (first | refine blk_drewN ?_ _ | refine blk_drew ?_ | refine blk_alloc ?_ _)); exact BK192.out⟩, ⟨by repeat (first | (with_reducible first | exact HB.out | apply below_alloc | apply pw_below_drewN | apply below_drew1 | refine below_set ?_ GE192.out) | exact HB.out)⟩⟩
                                      · rw [if_neg c54] at H
                                        exact absurd H (by simp)
                                    · rw [if_neg c53] at H
                                      exact absurd H (by simp)
                                  · rw [if_neg c52] at H
                                    have c52b0 : decide (x86_5 < (t193.length : Int)) = false := decide_eq_false c52
                                    clear c52
                                    have H' := Aside0.mk H
                                    clear H
                                    go_wp2
                                    repeat (go_quiet (fail); try go_wp2)
                                    go_roundg k5
                                    case measure => have := HJ2.out; have := HK2.out; have := HJ18.out; have := HJ42.out; have := HK5.out; omega
                                    case rel => exact ⟨(wrap64 (x26_2 + 1)), (by first | rfl | (simp; done) | (simp [*]; done)), (by first | exact H' | (rw [hji29]; exact H')), ⟨by have := HJ2.out; have := HK2.out; have := HJ18.out; have := HJ42.out; have := HK5.out; omega⟩, ⟨by (with_reducible repeat (first | apply Kd.R_alloc | apply Kd.R_drewN | apply Kd.R_drew)); exact Kd.R_mono HO_24.out (fun _ hk => trivial)⟩, ⟨by repeat (first | (with_reducible first | exact HB.out | apply below_alloc | apply pw_below_drewN | apply below_drew1 | refine below_set ?_ GE192.out) | exact HB.out)⟩⟩
                · rw [if_neg c17] at H
                  exact absurd H (by simp)
              · rw [if_neg c16] at H
                exact absurd H (by simp)
            · rw [if_neg c15] at H
              have c15b0 : decide (x26_2 < (t188.length : Int)) = false := decide_eq_false c15
              clear c15
              obtain rfl := Option.some.inj H
              go_wp2
              repeat (go_quiet (fail); try go_wp2)
              go_ret
              exact ⟨by first | rfl | (simp [errW_none, errW_some] <;> rfl) | (simp only [← hji11]; first | rfl | (simp [errW_none, errW_some] <;> rfl)) | (simp [*, errW_none, errW_some] <;> rfl), by repeat (first | (with_reducible first | exact HB.out | apply below_alloc | apply pw_below_drewN | apply below_drew1) | exact HB.out)⟩
/-- THE ONE PURE STATEMENT of fasciclelaw22_ChunkBytes. -/
def fasciclelaw22_ChunkBytes.Pure : Prop := ∀ (a0 : Int) (l1 : List Int), (Lit.int .i64 a0).wf = true → l1.length ≤ maxLen → l1.length * 1 ≤ 140737488351232 → (∀ y ∈ l1, ((Lit.int .u8 y).wf = true)) → ∃ k, fasciclelaw22_ChunkBytes.f k a0 l1 = some true

end Go.Proofs.Ytdpghobknhkikaa.G
