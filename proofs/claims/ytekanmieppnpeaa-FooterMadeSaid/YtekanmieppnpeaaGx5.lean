-- Written by gprint.py (the kit's print.py with contracts of my own taken as given)
import Derived.Test.YtekanmieppnpeaaGx0
import Derived.Test.YtekanmieppnpeaaGx3
import Derived.Test.YtekanmieppnpeaaHIndex
namespace Go.Proofs.Ytekanmieppnpeaa.G
open Go.RowKit Go.Proofs.YtekanmieppnpeaaW.PrintWords Go.Proofs.YtekanmieppnpeaaW.PrintLast Go.Proofs.YtekanmieppnpeaaW.PrintMore
attribute [local go_sem] max2_int min2_int max_two min_two max_three min_three max_four min_four   -- for this text's walks alone
set_option linter.unusedVariables false
set_option linter.unusedSimpArgs false

/-! ### bytes_Equal: function 110 -/
def bytes_Equal.f (l0 : List Int) (l1 : List Int) : Option (Bool) := some ((strOfNums l0).toList == (strOfNums l1).toList)
set_option maxHeartbeats 8000000 in
set_option maxRecDepth 100000 in
theorem bytes_Equal.calls (A0 : Option Addr) (c0 : Nat) (l0 : List Int) (A1 : Option Addr) (c1 : Nat) (l1 : List Int) (r : Bool) (w : World) (hr0 : Kd.C (Kd.int .u8) w A0 l0.length l0) (hc0 : l0.length ≤ c0) (hr1 : Kd.C (Kd.int .u8) w A1 l1.length l1) (hc1 : l1.length ≤ c1) (h : bytes_Equal.f l0 l1 = some r) :
    Calls Try.prog 110 #[.slice A0 l0.length c0, .slice A1 l1.length c1] w fun e w' => e = .returned (.bool r) ∧ Drawn0 w w' := by
  have HR0 := Aside0.mk hr0
  have HC0 := Aside0.mk hc0
  clear hr0 hc0
  have HR1 := Aside0.mk hr1
  have HC1 := Aside0.mk hc1
  clear hr1 hc1
  have H : (some ((strOfNums l0).toList == (strOfNums l1).toList)) = some r := h
  clear h
  obtain rfl := Option.some.inj H
  have hcv3 := Kd.C_string (P := Try.prog) (A := A0) (c := c0) Try.underlying39 Try.underlying5 Try.underlying9 HR0.out
  have hcv4 := Kd.C_string (P := Try.prog) (A := A1) (c := c1) Try.underlying39 Try.underlying5 Try.underlying9 HR1.out
  go_enter Try.func110, Try.ntmps110
  go_wp2
  go_ret
  exact ⟨by first | rfl | (simp; done) | (simp [*]; done), by repeat (first | exact Drawn0.refl _ | apply Drawn0.step)⟩

/-! ### cobs_Unstuff: function 50 -/
def cobs_Unstuff.l0 : Nat → List Int → List Int → List Int → Option (List Int × Int)
  | 0, _, _, _ => none
  | k + 1, x0, x4, x5 => if (x5.length : Int) > 0 then (if 0 < (x5.length : Int) then (if (wrap64 (rd x5 0)) > (x5.length : Int) then (some (([] : List Int), 2)) else (if 1 ≤ (wrap64 (rd x5 0)) then (if (wrap64 (rd x5 0)) ≤ (x5.length : Int) then ((some ((x5.take ((wrap64 (rd x5 0)) : Int).toNat).drop 1 : List Int)).bind fun y156 => (if x4.length + y156.length < 140737488355328 then ((some (x4 ++ y156 : List Int)).bind fun y161 => (if 0 ≤ (wrap64 (rd x5 0)) then ((some (x5.drop ((wrap64 (rd x5 0)) : Int).toNat : List Int)).bind fun y164 => (if (wrap64 (rd x5 0)) ≤ 254 then (if (y164.length : Int) > 0 then (if y161.length < 140737488355328 then (cobs_Unstuff.l0 k x0 (y161 ++ [0]) y164) else (none)) else (cobs_Unstuff.l0 k x0 y161 y164)) else (cobs_Unstuff.l0 k x0 y161 y164))) else (none))) else (none))) else (none)) else (none))) else (none)) else ((cobs_Stuff.f k x4).bind fun t172 => ((bytes_Equal.f t172 x0).bind fun t175 => (if t175 = true then (some (x4, 0)) else (some (([] : List Int), 4)))))
def cobs_Unstuff.f (k : Nat) (l0 : List Int) : Option (List Int × Int) := (bytes_IndexByte.f l0 0).bind fun t154 => (if t154 ≥ 0 then (some (([] : List Int), 4)) else (if (l0.length : Int) = 0 then (some (([] : List Int), 2)) else (cobs_Unstuff.l0 k l0 ([] : List Int) l0)))
theorem cobs_Unstuff.mono_l : ∀ k, (∀ y0 y1 y2, LeO (cobs_Unstuff.l0 k y0 y1 y2) (cobs_Unstuff.l0 (k + 1) y0 y1 y2))
  | 0 => fun _ _ _ r h => by simp [cobs_Unstuff.l0] at h
  | k + 1 => by
    have ih0 := cobs_Unstuff.mono_l k
    · intro y0 y1 y2
      unfold cobs_Unstuff.l0
      repeat' first
      | (with_reducible exact ih0 _ _ _)
      | (with_reducible exact cobs_Stuff.mono _ _)
      | (with_reducible exact LeO.refl _)
      | (with_reducible exact LeO.none _)
      | (with_reducible refine LeO.ite ?_ ?_)
      | (with_reducible refine LeO.bind ?_ (fun _ => ?_))
      | exact ih0 _ _ _
      | exact cobs_Stuff.mono _ _
      | exact LeO.none _
      | refine LeO.ite ?_ ?_
      | refine LeO.bind ?_ (fun _ => ?_)
theorem cobs_Unstuff.mono : ∀ a0 k, LeO (cobs_Unstuff.f k a0) (cobs_Unstuff.f (k + 1) a0) := by
  intro a0 k
  have ih0 := cobs_Unstuff.mono_l k
  unfold cobs_Unstuff.f
  repeat' first
      | (with_reducible exact ih0 _ _ _)
      | (with_reducible exact cobs_Stuff.mono _ _)
      | (with_reducible exact LeO.refl _)
      | (with_reducible exact LeO.none _)
      | (with_reducible refine LeO.ite ?_ ?_)
      | (with_reducible refine LeO.bind ?_ (fun _ => ?_))
      | exact ih0 _ _ _
      | exact cobs_Stuff.mono _ _
      | exact LeO.none _
      | refine LeO.ite ?_ ?_
      | refine LeO.bind ?_ (fun _ => ?_)
set_option maxHeartbeats 8000000 in
set_option maxRecDepth 100000 in
theorem cobs_Unstuff.calls (k : Nat) (P0_ : Nat → Prop) (A0 : Option Addr) (c0 : Nat) (l0 : List Int) (r1 : List Int) (r2 : Int) (w : World) (hs0 : Kd.V (Kd.int .u8) 5 w w.heap.size (fun k_ => P0_ k_) (.slice A0 l0.length c0) l0) (h : cobs_Unstuff.f k l0 = some (r1, r2)) :
    Calls Try.prog 50 #[.slice A0 l0.length c0] w fun e w' => ∃ v0_ : Value, e = .returned (.tuple #[v0_, .int .i64 r2]) ∧ Kd.R (Kd.int .u8) 5 w' w.heap.size (fun k_ => (w.heap.size ≤ k_)) v0_ r1 ∧ Below w.heap.size w w' := by
  have HO0 := Aside0.mk (show Kd.V (Kd.int .u8) 5 w w.heap.size (fun k_ => (P0_ k_ ∨ w.heap.size ≤ k_)) (.slice A0 l0.length c0) l0 from Kd.V_mono hs0 (fun k_ hk => .inl hk))
  have HB := Aside0.mk (Below.refl w.heap.size w)
  have H : ((bytes_IndexByte.f l0 0).bind fun t154 => (if t154 ≥ 0 then (some (([] : List Int), 4)) else (if (l0.length : Int) = 0 then (some (([] : List Int), 2)) else (cobs_Unstuff.l0 k l0 ([] : List Int) l0)))) = some (r1, r2) := h
  clear h
  replace H := Option.bind_eq_some_iff.mp H
  obtain ⟨t154, A20, H⟩ := H
  replace H : (if t154 ≥ 0 then (some (([] : List Int), 4)) else (if (l0.length : Int) = 0 then (some (([] : List Int), 2)) else (cobs_Unstuff.l0 k l0 ([] : List Int) l0))) = some (r1, r2) := H
  have A2 := Aside0.mk A20
  clear A20
  by_cases c3 : t154 ≥ 0
  · rw [if_pos c3] at H
    have c3b0 : decide (0 ≤ t154) = true := decide_eq_true c3
    clear c3
    simp only [Option.some.injEq, Prod.mk.injEq] at H
    obtain ⟨rfl, rfl⟩ := H
    go_enter Try.func50, Try.ntmps50
    go_wp2_with (first | ((with_reducible refine gate_callee (f := 109) rfl ?_); refine goesL_ (some 8) rfl rfl Try.func109 (by kernel_rfl) rfl #[.slice A0 l0.length c0, .int .u8 0] rfl (by (try simp only [List.map_toArray, List.map_cons, List.map_nil]); first | done | rfl | (simp only [List.length_drop, List.length_take]; rfl) | (refine congrArg (fun z => #[Value.int .u64 z]) ?_; rw [IntKind.wrap_u64]; omega)) ?_; (with_reducible refine (bytes_IndexByte.calls _ _ l0 0 t154 _ ?side1 ?side2 A2.out).mono ?_); (case side1 => repeat (first | exact (Kd.V_reads' HO0.out).2.2 | (with_reducible refine Kd.C_alloc ?_ _) | (with_reducible refine Kd.C_drewN ?_ _) | (with_reducible refine Kd.C_drew ?_))); (case side2 => exact (Kd.V_reads' HO0.out).2.1); rintro e w' ⟨rfl, ⟨nd, rfl⟩⟩; refine ⟨_, rfl, ?_⟩))
    go_ret2
    exact ⟨_, by first | rfl | (simp [errW_none, errW_some] <;> rfl) | (simp [*, errW_none, errW_some] <;> rfl), by first | exact Kd.R_nil _ _ _ _ _ | exact Kd.N_nil _ _ _ _ _ | exact Kd.V_nil _ _ _ _ _ | exact Kd.Q_nil _ _ _ _ _ | exact Kd.S_nil _ _ _ _ _, by repeat (first | (with_reducible first | exact HB.out | apply below_alloc | apply pw_below_drewN | apply below_drew1) | exact HB.out)⟩
  · rw [if_neg c3] at H
    have c3b0 : decide (0 ≤ t154) = false := decide_eq_false c3
    clear c3
    by_cases c4 : (l0.length : Int) = 0
    · rw [if_pos c4] at H
      have c4b0 : ((l0.length : Int) == 0) = true := beq_iff_eq.mpr c4
      have c4b1 : ((l0.length : Int) != 0) = false := bne_eq_false_iff_eq.mpr c4
      clear c4
      simp only [Option.some.injEq, Prod.mk.injEq] at H
      obtain ⟨rfl, rfl⟩ := H
      go_enter Try.func50, Try.ntmps50
      go_wp2_with (first | ((with_reducible refine gate_callee (f := 109) rfl ?_); refine goesL_ (some 8) rfl rfl Try.func109 (by kernel_rfl) rfl #[.slice A0 l0.length c0, .int .u8 0] rfl (by (try simp only [List.map_toArray, List.map_cons, List.map_nil]); first | done | rfl | (simp only [List.length_drop, List.length_take]; rfl) | (refine congrArg (fun z => #[Value.int .u64 z]) ?_; rw [IntKind.wrap_u64]; omega)) ?_; (with_reducible refine (bytes_IndexByte.calls _ _ l0 0 t154 _ ?side1 ?side2 A2.out).mono ?_); (case side1 => repeat (first | exact (Kd.V_reads' HO0.out).2.2 | (with_reducible refine Kd.C_alloc ?_ _) | (with_reducible refine Kd.C_drewN ?_ _) | (with_reducible refine Kd.C_drew ?_))); (case side2 => exact (Kd.V_reads' HO0.out).2.1); rintro e w' ⟨rfl, ⟨nd, rfl⟩⟩; refine ⟨_, rfl, ?_⟩))
      go_ret2
      exact ⟨_, by first | rfl | (simp [errW_none, errW_some] <;> rfl) | (simp [*, errW_none, errW_some] <;> rfl), by first | exact Kd.R_nil _ _ _ _ _ | exact Kd.N_nil _ _ _ _ _ | exact Kd.V_nil _ _ _ _ _ | exact Kd.Q_nil _ _ _ _ _ | exact Kd.S_nil _ _ _ _ _, by repeat (first | (with_reducible first | exact HB.out | apply below_alloc | apply pw_below_drewN | apply below_drew1) | exact HB.out)⟩
    · rw [if_neg c4] at H
      have c4b0 : ((l0.length : Int) == 0) = false := beq_eq_false_iff_ne.mpr c4
      have c4b1 : ((l0.length : Int) != 0) = true := bne_iff_ne.mpr c4
      have c4b2 : ¬ (l0 = []) := fun h_ => c4 (by rw [h_]; rfl)
      have H' := Aside0.mk H
      clear H
      go_enter Try.func50, Try.ntmps50
      go_wp2_with (first | ((with_reducible refine gate_callee (f := 109) rfl ?_); refine goesL_ (some 8) rfl rfl Try.func109 (by kernel_rfl) rfl #[.slice A0 l0.length c0, .int .u8 0] rfl (by (try simp only [List.map_toArray, List.map_cons, List.map_nil]); first | done | rfl | (simp only [List.length_drop, List.length_take]; rfl) | (refine congrArg (fun z => #[Value.int .u64 z]) ?_; rw [IntKind.wrap_u64]; omega)) ?_; (with_reducible refine (bytes_IndexByte.calls _ _ l0 0 t154 _ ?side1 ?side2 A2.out).mono ?_); (case side1 => repeat (first | exact (Kd.V_reads' HO0.out).2.2 | (with_reducible refine Kd.C_alloc ?_ _) | (with_reducible refine Kd.C_drewN ?_ _) | (with_reducible refine Kd.C_drew ?_))); (case side2 => exact (Kd.V_reads' HO0.out).2.1); rintro e w' ⟨rfl, ⟨nd, rfl⟩⟩; refine ⟨_, rfl, ?_⟩))
      go_loopg [4, 5] k (fun kq v4 v5 w' => ∃ (x4_1 : List Int) (x5_1 : List Int), Aside0 (cobs_Unstuff.l0 kq l0 x4_1 x5_1 = some (r1, r2)) ∧ Aside0 (kq ≤ k) ∧ Aside0 (Kd.V (Kd.int .u8) 5 w' w.heap.size (fun k_ => (P0_ k_ ∨ w.heap.size ≤ k_) ∧ some k_ ≠ (v4 : Value).ownBlock) (.slice A0 l0.length c0) l0) ∧ Aside0 (Kd.R (Kd.int .u8) 5 w' w.heap.size (fun k_ => (w.heap.size ≤ k_)) v4 x4_1) ∧ Aside0 (Kd.V (Kd.int .u8) 5 w' w.heap.size (fun k_ => (P0_ k_ ∨ w.heap.size ≤ k_) ∧ some k_ ≠ (v4 : Value).ownBlock) v5 x5_1) ∧ Aside0 (Below w.heap.size w w'))
      case atStart => exact ⟨(([] : List Int)), (l0), H', ⟨Nat.le_refl _⟩, ⟨by (with_reducible repeat (first | apply Kd.V_alloc | apply Kd.V_drewN | apply Kd.V_drew)); exact Kd.V_mono HO0.out (fun _ hk => ⟨hk, (by simp [Value.ownBlock])⟩)⟩, ⟨by first | exact Kd.R_nil _ _ _ _ _ | exact Kd.N_nil _ _ _ _ _ | exact Kd.V_nil _ _ _ _ _ | exact Kd.Q_nil _ _ _ _ _ | exact Kd.S_nil _ _ _ _ _⟩, ⟨by (with_reducible repeat (first | apply Kd.V_alloc | apply Kd.V_drewN | apply Kd.V_drew)); exact Kd.V_mono HO0.out (fun _ hk => ⟨hk, (by simp [Value.ownBlock])⟩)⟩, ⟨by repeat (first | (with_reducible first | exact HB.out | apply below_alloc | apply pw_below_drewN | apply below_drew1) | exact HB.out)⟩⟩
      case round =>
        clear H'
        try clear c1
        try clear p2
        try clear c3
        try clear c3b0
        try clear c4
        try clear c4b0
        try clear c4b1
        try clear c4b2
        obtain ⟨x4_1, x5_1, HA, HK1, HO_0, HO_4, HO_5, HB⟩ := hrel
        cases gk with
        | zero => exact absurd HA.out (by simp [cobs_Unstuff.l0])
        | succ k1 =>
          have H := HA.out
          clear HA
          simp only [cobs_Unstuff.l0] at H
          by_cases c5 : (x5_1.length : Int) > 0
          · rw [if_pos c5] at H
            have c5b0 : decide (0 < (x5_1.length : Int)) = true := decide_eq_true c5
            have c5b1 : decide (0 < x5_1.length) = true := decide_eq_true (by omega)
            clear c5
            by_cases c6 : 0 < (x5_1.length : Int)
            · rw [if_pos c6] at H
              have c6b0 : decide (0 < (x5_1.length : Int)) = true := decide_eq_true c6
              have c6b1 : decide (0 < x5_1.length) = true := decide_eq_true (by omega)
              clear c6
              by_cases c7 : (wrap64 (rd x5_1 0)) > (x5_1.length : Int)
              · rw [if_pos c7] at H
                have c7b0 : decide ((x5_1.length : Int) < (wrap64 (rd x5_1 0))) = true := decide_eq_true c7
                clear c7
                simp only [Option.some.injEq, Prod.mk.injEq] at H
                obtain ⟨rfl, rfl⟩ := H
                obtain ⟨Ao8, co8, eo8⟩ := Kd.V_slice HO_5.out
                subst eo8
                have p155 : 0 ≤ (0 : Int) := (by omega)
                have q155 : 0 < (x5_1.length : Int) := of_decide_eq_true (by first | (with_reducible assumption) | assumption)
                obtain ⟨ad155, e155, hx155_0⟩ := Kd.at_int (Kd.V_reads' HO_5.out).2.2 0 p155 q155
                cases e155
                have qi155 : (0 < x5_1.length) = True := eq_true (by omega)
                (try rw [show ((0 : Int)).toNat = 0 from rfl] at hx155_0)
                (try rw [Addr.add_zero'] at hx155_0)
                replace p155 := eq_true p155
                replace q155 := eq_true q155
                go_wp2
                go_ret2
                exact ⟨_, by first | rfl | (simp [errW_none, errW_some] <;> rfl) | (simp [*, errW_none, errW_some] <;> rfl), by first | exact Kd.R_nil _ _ _ _ _ | exact Kd.N_nil _ _ _ _ _ | exact Kd.V_nil _ _ _ _ _ | exact Kd.Q_nil _ _ _ _ _ | exact Kd.S_nil _ _ _ _ _, by repeat (first | (with_reducible first | exact HB.out | apply below_alloc | apply pw_below_drewN | apply below_drew1) | exact HB.out)⟩
              · rw [if_neg c7] at H
                have c7b0 : decide ((x5_1.length : Int) < (wrap64 (rd x5_1 0))) = false := decide_eq_false c7
                clear c7
                by_cases c9 : 1 ≤ (wrap64 (rd x5_1 0))
                · rw [if_pos c9] at H
                  have c9b0 := eq_true c9
                  have c9b1 : decide (1 ≤ (wrap64 (rd x5_1 0))) = true := decide_eq_true c9
                  clear c9
                  by_cases c10 : (wrap64 (rd x5_1 0)) ≤ (x5_1.length : Int)
                  · rw [if_pos c10] at H
                    have c10b0 := eq_true c10
                    have c10b1 : decide ((wrap64 (rd x5_1 0)) ≤ (x5_1.length : Int)) = true := decide_eq_true c10
                    clear c10
                    obtain ⟨y156, hy156⟩ : ∃ y_ : List Int, y_ = ((x5_1.take ((wrap64 (rd x5_1 0)) : Int).toNat).drop 1) := ⟨_, rfl⟩
                    replace H : (if x4_1.length + y156.length < 140737488355328 then ((some (x4_1 ++ y156 : List Int)).bind fun y161 => (if 0 ≤ (wrap64 (rd x5_1 0)) then ((some (x5_1.drop ((wrap64 (rd x5_1 0)) : Int).toNat : List Int)).bind fun y164 => (if (wrap64 (rd x5_1 0)) ≤ 254 then (if (y164.length : Int) > 0 then (if y161.length < 140737488355328 then (cobs_Unstuff.l0 k1 l0 (y161 ++ [0]) y164) else (none)) else (cobs_Unstuff.l0 k1 l0 y161 y164)) else (cobs_Unstuff.l0 k1 l0 y161 y164))) else (none))) else (none)) = some (r1, r2) := by first | (rw [hy156]; with_reducible exact H) | (have H2_ := (Option.bind_some _ _).symm.trans H; rw [hy156]; with_reducible exact H2_) | (have H2_ := (Option.bind_some _ _).symm.trans H; with_reducible exact H2_) | with_reducible exact H | (rw [hy156]; exact H) | exact H
                    have Ny156 := Aside0.mk hy156
                    clear hy156
                    by_cases c11 : x4_1.length + y156.length < 140737488355328
                    · rw [if_pos c11] at H
                      have LMc11 := Aside0.mk c11
                      clear c11
                      obtain ⟨y161, hy161⟩ : ∃ y_ : List Int, y_ = (x4_1 ++ y156) := ⟨_, rfl⟩
                      replace H : (if 0 ≤ (wrap64 (rd x5_1 0)) then ((some (x5_1.drop ((wrap64 (rd x5_1 0)) : Int).toNat : List Int)).bind fun y164 => (if (wrap64 (rd x5_1 0)) ≤ 254 then (if (y164.length : Int) > 0 then (if y161.length < 140737488355328 then (cobs_Unstuff.l0 k1 l0 (y161 ++ [0]) y164) else (none)) else (cobs_Unstuff.l0 k1 l0 y161 y164)) else (cobs_Unstuff.l0 k1 l0 y161 y164))) else (none)) = some (r1, r2) := by first | (rw [hy161]; with_reducible exact H) | (have H2_ := (Option.bind_some _ _).symm.trans H; rw [hy161]; with_reducible exact H2_) | (have H2_ := (Option.bind_some _ _).symm.trans H; with_reducible exact H2_) | with_reducible exact H | (rw [hy161]; exact H) | exact H
                      have Ny161 := Aside0.mk hy161
                      clear hy161
                      obtain ⟨ji12, hji12⟩ : ∃ j_ : Int, (wrap64 (rd x5_1 0)) = j_ := ⟨_, rfl⟩
                      replace H : (if 0 ≤ (ji12) then ((some (x5_1.drop ((ji12) : Int).toNat : List Int)).bind fun y164 => (if (ji12) ≤ 254 then (if (y164.length : Int) > 0 then (if y161.length < 140737488355328 then (cobs_Unstuff.l0 k1 l0 (y161 ++ [0]) y164) else (none)) else (cobs_Unstuff.l0 k1 l0 y161 y164)) else (cobs_Unstuff.l0 k1 l0 y161 y164))) else (none)) = some (r1, r2) := by first | (rw [hji12] at H; exact H) | (simp only [hji12] at H ⊢; exact H)
                      (try rw [hji12] at c7b0)
                      (try rw [hji12] at c9b0)
                      (try rw [hji12] at c9b1)
                      (try rw [hji12] at c10b0)
                      (try rw [hji12] at c10b1)
                      (try rw [hji12] at Ny156)
                      (try rw [hji12] at Ny156)
                      have hji12w : (IntKind.i64.wrap (rd x5_1 0)) = ji12 := (i64_w _).trans hji12
                      by_cases c13 : 0 ≤ (ji12)
                      · rw [if_pos c13] at H
                        have c13b0 := eq_true c13
                        have c13b1 : decide (0 ≤ (ji12)) = true := decide_eq_true c13
                        clear c13
                        have c14b0 := eq_true (of_decide_eq_true (by first | (with_reducible assumption) | assumption) : (ji12) ≤ (x5_1.length : Int))
                        obtain ⟨y164, hy164⟩ : ∃ y_ : List Int, y_ = (x5_1.drop ((ji12) : Int).toNat) := ⟨_, rfl⟩
                        replace H : (if (ji12) ≤ 254 then (if (y164.length : Int) > 0 then (if y161.length < 140737488355328 then (cobs_Unstuff.l0 k1 l0 (y161 ++ [0]) y164) else (none)) else (cobs_Unstuff.l0 k1 l0 y161 y164)) else (cobs_Unstuff.l0 k1 l0 y161 y164)) = some (r1, r2) := by first | (rw [hy164]; with_reducible exact H) | (have H2_ := (Option.bind_some _ _).symm.trans H; rw [hy164]; with_reducible exact H2_) | (have H2_ := (Option.bind_some _ _).symm.trans H; with_reducible exact H2_) | with_reducible exact H | (rw [hy164]; exact H) | exact H
                        have Ny164 := Aside0.mk hy164
                        clear hy164
                        by_cases c15 : (ji12) ≤ 254
                        · rw [if_pos c15] at H
                          have c15b0 : decide ((ji12) ≤ 254) = true := decide_eq_true c15
                          clear c15
                          by_cases c16 : (y164.length : Int) > 0
                          · rw [if_pos c16] at H
                            have c16b0 : decide (0 < (y164.length : Int)) = true := decide_eq_true c16
                            have c16b1 : decide (0 < y164.length) = true := decide_eq_true (by omega)
                            clear c16
                            by_cases c17 : y161.length < 140737488355328
                            · rw [if_pos c17] at H
                              have LMc17 := Aside0.mk c17
                              clear c17
                              obtain ⟨y169, hy169⟩ : ∃ y_ : List Int, y_ = (y161 ++ [0]) := ⟨_, rfl⟩
                              replace H : (cobs_Unstuff.l0 k1 l0 y169 y164) = some (r1, r2) := by first | (rw [hy169]; with_reducible exact H) | (have H2_ := (Option.bind_some _ _).symm.trans H; rw [hy169]; with_reducible exact H2_) | (have H2_ := (Option.bind_some _ _).symm.trans H; with_reducible exact H2_) | with_reducible exact H | (rw [hy169]; exact H) | exact H
                              have Ny169 := Aside0.mk hy169
                              clear hy169
                              have H' := Aside0.mk H
                              clear H
                              obtain ⟨Ao18, co18, eo18⟩ := Kd.V_slice HO_5.out
                              subst eo18
                              have p155 : 0 ≤ (0 : Int) := (by omega)
                              have q155 : 0 < (x5_1.length : Int) := of_decide_eq_true (by first | (with_reducible assumption) | assumption)
                              obtain ⟨ad155, e155, hx155_0⟩ := Kd.at_int (Kd.V_reads' HO_5.out).2.2 0 p155 q155
                              cases e155
                              have qi155 : (0 < x5_1.length) = True := eq_true (by omega)
                              (try rw [show ((0 : Int)).toNat = 0 from rfl] at hx155_0)
                              (try rw [Addr.add_zero'] at hx155_0)
                              replace p155 := eq_true p155
                              replace q155 := eq_true q155
                              have q19 : ((ji12) : Int) ≤ ((x5_1.length : Int) : Int) := of_decide_eq_true (by first | (with_reducible assumption) | assumption)
                              obtain ⟨i019, hi019, _, hsz19, _⟩ := info_parts info5
                              have hroom19 : x5_1.length ≤ co18 := (Kd.V_reads' HO_5.out).2.1
                              have hC19 : Kd.F (Kd.int .u8) _ _ (some ad155) x5_1.length x5_1 := (Kd.V_at (base := w.heap.size) HO_5.out).2.2
                              have ql19 : (1 : Int) ≤ ((ji12) : Int) := of_decide_eq_true (by first | (with_reducible assumption) | assumption)
                              have hcut19 := cut_mid (P := Try.prog) 39 5 .i64 .i64 Try.underlying39 hi019 1 hsz19 (some ad155) x5_1.length co18 1 (ji12) (by omega) ql19 q19 hroom19
                              have hr19 := Kd.F_mid (lo := (1 : Int).toNat) (hi := ((ji12) : Int).toNat) (c := co18) hC19 (by omega) (by omega) hroom19
                              obtain ⟨A19, hA19⟩ : ∃ A1, A1 = (if co18 = (1 : Int).toNat then (some ad155) else ((some ad155) : Option Addr).map (·.add ((1 : Int).toNat * 1))) := ⟨_, rfl⟩
                              obtain ⟨c19, hc19⟩ : ∃ c1, c1 = co18 - (1 : Int).toNat := ⟨_, rfl⟩
                              have hy19 : y156.length = ((ji12) : Int).toNat - (1 : Int).toNat := (by rw [Ny156.out, List.length_drop, List.length_take] <;> omega)
                              rw [show ((x5_1).take ((ji12) : Int).toNat).drop (1 : Int).toNat = y156 from Ny156.out.symm] at hr19
                              replace hr19 : Kd.F (Kd.int .u8) _ _ A19 y156.length y156 := (by rw [hA19]; exact hr19)
                              rw [← hy19, ← hA19, ← hc19] at hcut19
                              have HO160 := Aside0.mk (show Kd.V (Kd.int .u8) 5 _ w.heap.size _ (.slice A19 y156.length c19) y156 from Kd.V_mk (by rw [hy19, hc19]; exact Nat.sub_le_sub_right (Nat.le_trans (by omega) hroom19) _) hr19)
                              have HC160 := Aside0.mk (show y156.length ≤ c19 from by rw [hy19, hc19]; exact Nat.sub_le_sub_right (Nat.le_trans (by omega) hroom19) _)
                              clear hr19 hC19 hroom19 hi019 hsz19 hc19
                              have KY19 := Aside0.mk hy19
                              have KA19 := Aside0.mk hA19
                              clear hy19 hA19
                              replace q19 := eq_true q19
                              go_wp2_with (first | ((with_reducible refine gate_builtin (b := .append) (xs := #[.tmp 25, .tmp 28]) rfl ?_); (try (refine gate_guard (by rfl) ?_; dsimp only)); at_builtin; refine Kd.R_append_rows (Kd.int .u8) (w0 := w) w.heap.size rfl (.tmp 25) (.tmp 28) 39 5 (.int .u8 0) 1 rfl Try.underlying39 info5 rfl (by decide) (by omega) u4 x4_1 y156 _ _ _ (fun k_ => (w.heap.size ≤ k_)) (fun _ => False) rfl rfl ?aO ?aR (fun _ _ h => h) (fun _ h => h.elim) ?aF ?aB ?aS ?aL ?_; (case aR => repeat (first | exact (Kd.V_reads' HO160.out).2.2 | (with_reducible refine Kd.C_alloc ?_ _) | (with_reducible refine Kd.C_drewN ?_ _) | (with_reducible refine Kd.C_drew ?_))); (case aB => exact (by repeat (first | (with_reducible first | exact HB.out | apply below_alloc | apply pw_below_drewN | apply below_drew1) | exact HB.out))); (case aF => exact (fun k_ hk => (Nat.le_trans (below_size (by repeat (first | (with_reducible first | exact HB.out | apply below_alloc | apply pw_below_drewN | apply below_drew1) | exact HB.out))) hk))); (case aO => exact (by (with_reducible repeat (first | apply Kd.R_alloc | apply Kd.R_drewN | apply Kd.R_drew)); exact HO_4.out)); (case aS => exact (below_size (by repeat (first | (with_reducible first | exact HB.out | apply below_alloc | apply pw_below_drewN | apply below_drew1) | exact HB.out)))); (case aL => have := LMc11.out; omega); intro v162 w20 ho hb hg hat; rw [← Ny161.out] at ho; have n0_ := Aside0.mk (Kd.V_afterv (ok := (fun k_ => (P0_ k_ ∨ w.heap.size ≤ k_))) (by (with_reducible repeat (first | apply Kd.V_alloc | apply Kd.V_drewN | apply Kd.V_drew)); exact HO_0.out) hg hat); have n1_ := Aside0.mk (Kd.V_afterv (ok := (fun k_ => (P0_ k_ ∨ w.heap.size ≤ k_))) (by (with_reducible repeat (first | apply Kd.V_alloc | apply Kd.V_drewN | apply Kd.V_drew)); exact HO_5.out) hg hat); have n2_ := Aside0.mk (Kd.V_afterv (ok := (fun k_ => (P0_ k_ ∨ w.heap.size ≤ k_))) (by (with_reducible repeat (first | apply Kd.V_alloc | apply Kd.V_drewN | apply Kd.V_drew)); exact HO160.out) hg hat); have n3_ := Aside0.mk (hb); have n4_ := Aside0.mk (ho); clear HO_0; clear HO_5; clear HO160; clear HB; clear HO_4; have HO_0 := n0_; have HO_5 := n1_; have HO160 := n2_; have HB := n3_; have HO163 := n4_; clear n0_ n1_ n2_ n3_ n4_; clear ho hb hg hat; have q21 : ((ji12) : Int) ≤ ((x5_1.length : Int) : Int) := of_decide_eq_true (by first | (with_reducible assumption) | assumption); obtain ⟨i021, hi021, _, hsz21, _⟩ := info_parts info5; have hroom21 : x5_1.length ≤ co18 := (Kd.V_reads' HO_5.out).2.1; have hC21 : Kd.F (Kd.int .u8) _ _ (some ad155) x5_1.length x5_1 := (Kd.V_at (base := w.heap.size) HO_5.out).2.2; have q021 : (0 : Int) ≤ ((ji12) : Int) := of_decide_eq_true (by first | (with_reducible assumption) | assumption); have hcut21 := cut_from (P := Try.prog) 39 5 .i64 Try.underlying39 hi021 1 hsz21 (some ad155) x5_1.length co18 (ji12) q021 q21; have hr21 := Kd.F_cut (m := ((ji12) : Int).toNat) (c := co18) hC21 (by omega) hroom21; obtain ⟨A21, hA21⟩ : ∃ A1, A1 = (if co18 = ((ji12) : Int).toNat then (some ad155) else ((some ad155) : Option Addr).map (·.add (((ji12) : Int).toNat * 1))) := ⟨_, rfl⟩; obtain ⟨c21, hc21⟩ : ∃ c1, c1 = co18 - ((ji12) : Int).toNat := ⟨_, rfl⟩; have hy21 : y164.length = x5_1.length - ((ji12) : Int).toNat := (by rw [Ny164.out, List.length_drop] <;> omega); rw [show (x5_1).drop ((ji12) : Int).toNat = y164 from Ny164.out.symm] at hr21; replace hr21 : Kd.F (Kd.int .u8) _ _ A21 y164.length y164 := (by rw [hA21]; exact hr21); rw [← hy21, ← hA21, ← hc21] at hcut21; have HO168 := Aside0.mk (show Kd.V (Kd.int .u8) 5 _ w.heap.size _ (.slice A21 y164.length c21) y164 from Kd.V_mk (by rw [hy21, hc21]; exact Nat.sub_le_sub_right hroom21 _) hr21); have HC168 := Aside0.mk (show y164.length ≤ c21 from by rw [hy21, hc21]; exact Nat.sub_le_sub_right hroom21 _); clear hr21 hC21 hroom21 hi021 hsz21 hc21; have KY21 := Aside0.mk hy21; have KA21 := Aside0.mk hA21; clear hy21 hA21; replace q21 := eq_true q21) | ((with_reducible refine gate_builtin (b := .append) (xs := #[.tmp 40, .tmp 41]) rfl ?_); (try (refine gate_guard (by rfl) ?_; dsimp only)); at_builtin; refine Kd.R_append (Kd.int .u8) (w0 := w) w.heap.size rfl (.tmp 40) (.tmp 41) 39 5 (.int .u8 0) 1 rfl Try.underlying39 info5 rfl (by decide) (by omega) v162 y161 0 [.int .u8 0] (fun k_ => (w.heap.size ≤ k_)) (fun _ => False) rfl rfl ?aP (fun _ hk => hk.elim) ?aF ?aO ?aB ?aS ?aL ?_; (case aP => exact rfl); (case aB => exact (by repeat (first | (with_reducible first | exact HB.out | apply below_alloc | apply pw_below_drewN | apply below_drew1) | exact HB.out))); (case aF => exact (fun k_ hk => (Nat.le_trans (below_size (by repeat (first | (with_reducible first | exact HB.out | apply below_alloc | apply pw_below_drewN | apply below_drew1) | exact HB.out))) hk))); (case aO => exact (by (with_reducible repeat (first | apply Kd.R_alloc | apply Kd.R_drewN | apply Kd.R_drew)); exact HO163.out)); (case aS => exact (below_size (by repeat (first | (with_reducible first | exact HB.out | apply below_alloc | apply pw_below_drewN | apply below_drew1) | exact HB.out)))); (case aL => have := LMc17.out; omega); intro v170 w22 ho hb hg hat; rw [← Ny169.out] at ho; have n0_ := Aside0.mk (Kd.V_afterv (ok := (fun k_ => (P0_ k_ ∨ w.heap.size ≤ k_))) (by (with_reducible repeat (first | apply Kd.V_alloc | apply Kd.V_drewN | apply Kd.V_drew)); exact HO_0.out) hg hat); have n1_ := Aside0.mk (Kd.V_afterv (ok := (fun k_ => (P0_ k_ ∨ w.heap.size ≤ k_))) (by (with_reducible repeat (first | apply Kd.V_alloc | apply Kd.V_drewN | apply Kd.V_drew)); exact HO_5.out) hg hat); have n2_ := Aside0.mk (Kd.V_afterv (ok := (fun k_ => (P0_ k_ ∨ w.heap.size ≤ k_))) (by (with_reducible repeat (first | apply Kd.V_alloc | apply Kd.V_drewN | apply Kd.V_drew)); exact HO160.out) hg hat); have n3_ := Aside0.mk (Kd.V_afterv (ok := (fun k_ => (P0_ k_ ∨ w.heap.size ≤ k_))) (by (with_reducible repeat (first | apply Kd.V_alloc | apply Kd.V_drewN | apply Kd.V_drew)); exact HO168.out) hg hat); have n4_ := Aside0.mk (hb); have n5_ := Aside0.mk (ho); clear HO_0; clear HO_5; clear HO160; clear HO168; clear HB; clear HO163; have HO_0 := n0_; have HO_5 := n1_; have HO160 := n2_; have HO168 := n3_; have HB := n4_; have HO171 := n5_; clear n0_ n1_ n2_ n3_ n4_ n5_; clear ho hb hg hat))
                              go_roundg k1
                              case measure => have := HK1.out; omega
                              case rel => exact ⟨(y169), (y164), H', ⟨by have := HK1.out; omega⟩, ⟨by (with_reducible repeat (first | apply Kd.V_alloc | apply Kd.V_drewN | apply Kd.V_drew)); exact HO_0.out⟩, ⟨by (with_reducible repeat (first | apply Kd.R_alloc | apply Kd.R_drewN | apply Kd.R_drew)); exact HO171.out⟩, ⟨by (with_reducible repeat (first | apply Kd.V_alloc | apply Kd.V_drewN | apply Kd.V_drew)); exact HO168.out⟩, ⟨by repeat (first | (with_reducible first | exact HB.out | apply below_alloc | apply pw_below_drewN | apply below_drew1) | exact HB.out)⟩⟩
                            · rw [if_neg c17] at H
                              exact absurd H (by simp)
                          · rw [if_neg c16] at H
                            have c16b0 : decide (0 < (y164.length : Int)) = false := decide_eq_false c16
                            have c16b1 : decide (0 < y164.length) = false := decide_eq_false (by omega)
                            clear c16
                            have H' := Aside0.mk H
                            clear H
                            obtain ⟨Ao23, co23, eo23⟩ := Kd.V_slice HO_5.out
                            subst eo23
                            have p155 : 0 ≤ (0 : Int) := (by omega)
                            have q155 : 0 < (x5_1.length : Int) := of_decide_eq_true (by first | (with_reducible assumption) | assumption)
                            obtain ⟨ad155, e155, hx155_0⟩ := Kd.at_int (Kd.V_reads' HO_5.out).2.2 0 p155 q155
                            cases e155
                            have qi155 : (0 < x5_1.length) = True := eq_true (by omega)
                            (try rw [show ((0 : Int)).toNat = 0 from rfl] at hx155_0)
                            (try rw [Addr.add_zero'] at hx155_0)
                            replace p155 := eq_true p155
                            replace q155 := eq_true q155
                            have q24 : ((ji12) : Int) ≤ ((x5_1.length : Int) : Int) := of_decide_eq_true (by first | (with_reducible assumption) | assumption)
                            obtain ⟨i024, hi024, _, hsz24, _⟩ := info_parts info5
                            have hroom24 : x5_1.length ≤ co23 := (Kd.V_reads' HO_5.out).2.1
                            have hC24 : Kd.F (Kd.int .u8) _ _ (some ad155) x5_1.length x5_1 := (Kd.V_at (base := w.heap.size) HO_5.out).2.2
                            have ql24 : (1 : Int) ≤ ((ji12) : Int) := of_decide_eq_true (by first | (with_reducible assumption) | assumption)
                            have hcut24 := cut_mid (P := Try.prog) 39 5 .i64 .i64 Try.underlying39 hi024 1 hsz24 (some ad155) x5_1.length co23 1 (ji12) (by omega) ql24 q24 hroom24
                            have hr24 := Kd.F_mid (lo := (1 : Int).toNat) (hi := ((ji12) : Int).toNat) (c := co23) hC24 (by omega) (by omega) hroom24
                            obtain ⟨A24, hA24⟩ : ∃ A1, A1 = (if co23 = (1 : Int).toNat then (some ad155) else ((some ad155) : Option Addr).map (·.add ((1 : Int).toNat * 1))) := ⟨_, rfl⟩
                            obtain ⟨c24, hc24⟩ : ∃ c1, c1 = co23 - (1 : Int).toNat := ⟨_, rfl⟩
                            have hy24 : y156.length = ((ji12) : Int).toNat - (1 : Int).toNat := (by rw [Ny156.out, List.length_drop, List.length_take] <;> omega)
                            rw [show ((x5_1).take ((ji12) : Int).toNat).drop (1 : Int).toNat = y156 from Ny156.out.symm] at hr24
                            replace hr24 : Kd.F (Kd.int .u8) _ _ A24 y156.length y156 := (by rw [hA24]; exact hr24)
                            rw [← hy24, ← hA24, ← hc24] at hcut24
                            have HO160 := Aside0.mk (show Kd.V (Kd.int .u8) 5 _ w.heap.size _ (.slice A24 y156.length c24) y156 from Kd.V_mk (by rw [hy24, hc24]; exact Nat.sub_le_sub_right (Nat.le_trans (by omega) hroom24) _) hr24)
                            have HC160 := Aside0.mk (show y156.length ≤ c24 from by rw [hy24, hc24]; exact Nat.sub_le_sub_right (Nat.le_trans (by omega) hroom24) _)
                            clear hr24 hC24 hroom24 hi024 hsz24 hc24
                            have KY24 := Aside0.mk hy24
                            have KA24 := Aside0.mk hA24
                            clear hy24 hA24
                            replace q24 := eq_true q24
                            go_wp2_with (first | ((with_reducible refine gate_builtin (b := .append) (xs := #[.tmp 25, .tmp 28]) rfl ?_); (try (refine gate_guard (by rfl) ?_; dsimp only)); at_builtin; refine Kd.R_append_rows (Kd.int .u8) (w0 := w) w.heap.size rfl (.tmp 25) (.tmp 28) 39 5 (.int .u8 0) 1 rfl Try.underlying39 info5 rfl (by decide) (by omega) u4 x4_1 y156 _ _ _ (fun k_ => (w.heap.size ≤ k_)) (fun _ => False) rfl rfl ?aO ?aR (fun _ _ h => h) (fun _ h => h.elim) ?aF ?aB ?aS ?aL ?_; (case aR => repeat (first | exact (Kd.V_reads' HO160.out).2.2 | (with_reducible refine Kd.C_alloc ?_ _) | (with_reducible refine Kd.C_drewN ?_ _) | (with_reducible refine Kd.C_drew ?_))); (case aB => exact (by repeat (first | (with_reducible first | exact HB.out | apply below_alloc | apply pw_below_drewN | apply below_drew1) | exact HB.out))); (case aF => exact (fun k_ hk => (Nat.le_trans (below_size (by repeat (first | (with_reducible first | exact HB.out | apply below_alloc | apply pw_below_drewN | apply below_drew1) | exact HB.out))) hk))); (case aO => exact (by (with_reducible repeat (first | apply Kd.R_alloc | apply Kd.R_drewN | apply Kd.R_drew)); exact HO_4.out)); (case aS => exact (below_size (by repeat (first | (with_reducible first | exact HB.out | apply below_alloc | apply pw_below_drewN | apply below_drew1) | exact HB.out)))); (case aL => have := LMc11.out; omega); intro v162 w25 ho hb hg hat; rw [← Ny161.out] at ho; have n0_ := Aside0.mk (Kd.V_afterv (ok := (fun k_ => (P0_ k_ ∨ w.heap.size ≤ k_))) (by (with_reducible repeat (first | apply Kd.V_alloc | apply Kd.V_drewN | apply Kd.V_drew)); exact HO_0.out) hg hat); have n1_ := Aside0.mk (Kd.V_afterv (ok := (fun k_ => (P0_ k_ ∨ w.heap.size ≤ k_))) (by (with_reducible repeat (first | apply Kd.V_alloc | apply Kd.V_drewN | apply Kd.V_drew)); exact HO_5.out) hg hat); have n2_ := Aside0.mk (Kd.V_afterv (ok := (fun k_ => (P0_ k_ ∨ w.heap.size ≤ k_))) (by (with_reducible repeat (first | apply Kd.V_alloc | apply Kd.V_drewN | apply Kd.V_drew)); exact HO160.out) hg hat); have n3_ := Aside0.mk (hb); have n4_ := Aside0.mk (ho); clear HO_0; clear HO_5; clear HO160; clear HB; clear HO_4; have HO_0 := n0_; have HO_5 := n1_; have HO160 := n2_; have HB := n3_; have HO163 := n4_; clear n0_ n1_ n2_ n3_ n4_; clear ho hb hg hat; have q26 : ((ji12) : Int) ≤ ((x5_1.length : Int) : Int) := of_decide_eq_true (by first | (with_reducible assumption) | assumption); obtain ⟨i026, hi026, _, hsz26, _⟩ := info_parts info5; have hroom26 : x5_1.length ≤ co23 := (Kd.V_reads' HO_5.out).2.1; have hC26 : Kd.F (Kd.int .u8) _ _ (some ad155) x5_1.length x5_1 := (Kd.V_at (base := w.heap.size) HO_5.out).2.2; have q026 : (0 : Int) ≤ ((ji12) : Int) := of_decide_eq_true (by first | (with_reducible assumption) | assumption); have hcut26 := cut_from (P := Try.prog) 39 5 .i64 Try.underlying39 hi026 1 hsz26 (some ad155) x5_1.length co23 (ji12) q026 q26; have hr26 := Kd.F_cut (m := ((ji12) : Int).toNat) (c := co23) hC26 (by omega) hroom26; obtain ⟨A26, hA26⟩ : ∃ A1, A1 = (if co23 = ((ji12) : Int).toNat then (some ad155) else ((some ad155) : Option Addr).map (·.add (((ji12) : Int).toNat * 1))) := ⟨_, rfl⟩; obtain ⟨c26, hc26⟩ : ∃ c1, c1 = co23 - ((ji12) : Int).toNat := ⟨_, rfl⟩; have hy26 : y164.length = x5_1.length - ((ji12) : Int).toNat := (by rw [Ny164.out, List.length_drop] <;> omega); rw [show (x5_1).drop ((ji12) : Int).toNat = y164 from Ny164.out.symm] at hr26; replace hr26 : Kd.F (Kd.int .u8) _ _ A26 y164.length y164 := (by rw [hA26]; exact hr26); rw [← hy26, ← hA26, ← hc26] at hcut26; have HO168 := Aside0.mk (show Kd.V (Kd.int .u8) 5 _ w.heap.size _ (.slice A26 y164.length c26) y164 from Kd.V_mk (by rw [hy26, hc26]; exact Nat.sub_le_sub_right hroom26 _) hr26); have HC168 := Aside0.mk (show y164.length ≤ c26 from by rw [hy26, hc26]; exact Nat.sub_le_sub_right hroom26 _); clear hr26 hC26 hroom26 hi026 hsz26 hc26; have KY26 := Aside0.mk hy26; have KA26 := Aside0.mk hA26; clear hy26 hA26; replace q26 := eq_true q26))
                            go_roundg k1
                            case measure => have := HK1.out; omega
                            case rel => exact ⟨(y161), (y164), H', ⟨by have := HK1.out; omega⟩, ⟨by (with_reducible repeat (first | apply Kd.V_alloc | apply Kd.V_drewN | apply Kd.V_drew)); exact HO_0.out⟩, ⟨by (with_reducible repeat (first | apply Kd.R_alloc | apply Kd.R_drewN | apply Kd.R_drew)); exact HO163.out⟩, ⟨by (with_reducible repeat (first | apply Kd.V_alloc | apply Kd.V_drewN | apply Kd.V_drew)); exact HO168.out⟩, ⟨by repeat (first | (with_reducible first | exact HB.out | apply below_alloc | apply pw_below_drewN | apply below_drew1) | exact HB.out)⟩⟩
                        · rw [if_neg c15] at H
                          have c15b0 : decide ((ji12) ≤ 254) = false := decide_eq_false c15
                          clear c15
                          have H' := Aside0.mk H
                          clear H
                          obtain ⟨Ao27, co27, eo27⟩ := Kd.V_slice HO_5.out
                          subst eo27
                          have p155 : 0 ≤ (0 : Int) := (by omega)
                          have q155 : 0 < (x5_1.length : Int) := of_decide_eq_true (by first | (with_reducible assumption) | assumption)
                          obtain ⟨ad155, e155, hx155_0⟩ := Kd.at_int (Kd.V_reads' HO_5.out).2.2 0 p155 q155
                          cases e155
                          have qi155 : (0 < x5_1.length) = True := eq_true (by omega)
                          (try rw [show ((0 : Int)).toNat = 0 from rfl] at hx155_0)
                          (try rw [Addr.add_zero'] at hx155_0)
                          replace p155 := eq_true p155
                          replace q155 := eq_true q155
                          have q28 : ((ji12) : Int) ≤ ((x5_1.length : Int) : Int) := of_decide_eq_true (by first | (with_reducible assumption) | assumption)
                          obtain ⟨i028, hi028, _, hsz28, _⟩ := info_parts info5
                          have hroom28 : x5_1.length ≤ co27 := (Kd.V_reads' HO_5.out).2.1
                          have hC28 : Kd.F (Kd.int .u8) _ _ (some ad155) x5_1.length x5_1 := (Kd.V_at (base := w.heap.size) HO_5.out).2.2
                          have ql28 : (1 : Int) ≤ ((ji12) : Int) := of_decide_eq_true (by first | (with_reducible assumption) | assumption)
                          have hcut28 := cut_mid (P := Try.prog) 39 5 .i64 .i64 Try.underlying39 hi028 1 hsz28 (some ad155) x5_1.length co27 1 (ji12) (by omega) ql28 q28 hroom28
                          have hr28 := Kd.F_mid (lo := (1 : Int).toNat) (hi := ((ji12) : Int).toNat) (c := co27) hC28 (by omega) (by omega) hroom28
                          obtain ⟨A28, hA28⟩ : ∃ A1, A1 = (if co27 = (1 : Int).toNat then (some ad155) else ((some ad155) : Option Addr).map (·.add ((1 : Int).toNat * 1))) := ⟨_, rfl⟩
                          obtain ⟨c28, hc28⟩ : ∃ c1, c1 = co27 - (1 : Int).toNat := ⟨_, rfl⟩
                          have hy28 : y156.length = ((ji12) : Int).toNat - (1 : Int).toNat := (by rw [Ny156.out, List.length_drop, List.length_take] <;> omega)
                          rw [show ((x5_1).take ((ji12) : Int).toNat).drop (1 : Int).toNat = y156 from Ny156.out.symm] at hr28
                          replace hr28 : Kd.F (Kd.int .u8) _ _ A28 y156.length y156 := (by rw [hA28]; exact hr28)
                          rw [← hy28, ← hA28, ← hc28] at hcut28
                          have HO160 := Aside0.mk (show Kd.V (Kd.int .u8) 5 _ w.heap.size _ (.slice A28 y156.length c28) y156 from Kd.V_mk (by rw [hy28, hc28]; exact Nat.sub_le_sub_right (Nat.le_trans (by omega) hroom28) _) hr28)
                          have HC160 := Aside0.mk (show y156.length ≤ c28 from by rw [hy28, hc28]; exact Nat.sub_le_sub_right (Nat.le_trans (by omega) hroom28) _)
                          clear hr28 hC28 hroom28 hi028 hsz28 hc28
                          have KY28 := Aside0.mk hy28
                          have KA28 := Aside0.mk hA28
                          clear hy28 hA28
                          replace q28 := eq_true q28
                          go_wp2_with (first | ((with_reducible refine gate_builtin (b := .append) (xs := #[.tmp 25, .tmp 28]) rfl ?_); (try (refine gate_guard (by rfl) ?_; dsimp only)); at_builtin; refine Kd.R_append_rows (Kd.int .u8) (w0 := w) w.heap.size rfl (.tmp 25) (.tmp 28) 39 5 (.int .u8 0) 1 rfl Try.underlying39 info5 rfl (by decide) (by omega) u4 x4_1 y156 _ _ _ (fun k_ => (w.heap.size ≤ k_)) (fun _ => False) rfl rfl ?aO ?aR (fun _ _ h => h) (fun _ h => h.elim) ?aF ?aB ?aS ?aL ?_; (case aR => repeat (first | exact (Kd.V_reads' HO160.out).2.2 | (with_reducible refine Kd.C_alloc ?_ _) | (with_reducible refine Kd.C_drewN ?_ _) | (with_reducible refine Kd.C_drew ?_))); (case aB => exact (by repeat (first | (with_reducible first | exact HB.out | apply below_alloc | apply pw_below_drewN | apply below_drew1) | exact HB.out))); (case aF => exact (fun k_ hk => (Nat.le_trans (below_size (by repeat (first | (with_reducible first | exact HB.out | apply below_alloc | apply pw_below_drewN | apply below_drew1) | exact HB.out))) hk))); (case aO => exact (by (with_reducible repeat (first | apply Kd.R_alloc | apply Kd.R_drewN | apply Kd.R_drew)); exact HO_4.out)); (case aS => exact (below_size (by repeat (first | (with_reducible first | exact HB.out | apply below_alloc | apply pw_below_drewN | apply below_drew1) | exact HB.out)))); (case aL => have := LMc11.out; omega); intro v162 w29 ho hb hg hat; rw [← Ny161.out] at ho; have n0_ := Aside0.mk (Kd.V_afterv (ok := (fun k_ => (P0_ k_ ∨ w.heap.size ≤ k_))) (by (with_reducible repeat (first | apply Kd.V_alloc | apply Kd.V_drewN | apply Kd.V_drew)); exact HO_0.out) hg hat); have n1_ := Aside0.mk (Kd.V_afterv (ok := (fun k_ => (P0_ k_ ∨ w.heap.size ≤ k_))) (by (with_reducible repeat (first | apply Kd.V_alloc | apply Kd.V_drewN | apply Kd.V_drew)); exact HO_5.out) hg hat); have n2_ := Aside0.mk (Kd.V_afterv (ok := (fun k_ => (P0_ k_ ∨ w.heap.size ≤ k_))) (by (with_reducible repeat (first | apply Kd.V_alloc | apply Kd.V_drewN | apply Kd.V_drew)); exact HO160.out) hg hat); have n3_ := Aside0.mk (hb); have n4_ := Aside0.mk (ho); clear HO_0; clear HO_5; clear HO160; clear HB; clear HO_4; have HO_0 := n0_; have HO_5 := n1_; have HO160 := n2_; have HB := n3_; have HO163 := n4_; clear n0_ n1_ n2_ n3_ n4_; clear ho hb hg hat; have q30 : ((ji12) : Int) ≤ ((x5_1.length : Int) : Int) := of_decide_eq_true (by first | (with_reducible assumption) | assumption); obtain ⟨i030, hi030, _, hsz30, _⟩ := info_parts info5; have hroom30 : x5_1.length ≤ co27 := (Kd.V_reads' HO_5.out).2.1; have hC30 : Kd.F (Kd.int .u8) _ _ (some ad155) x5_1.length x5_1 := (Kd.V_at (base := w.heap.size) HO_5.out).2.2; have q030 : (0 : Int) ≤ ((ji12) : Int) := of_decide_eq_true (by first | (with_reducible assumption) | assumption); have hcut30 := cut_from (P := Try.prog) 39 5 .i64 Try.underlying39 hi030 1 hsz30 (some ad155) x5_1.length co27 (ji12) q030 q30; have hr30 := Kd.F_cut (m := ((ji12) : Int).toNat) (c := co27) hC30 (by omega) hroom30; obtain ⟨A30, hA30⟩ : ∃ A1, A1 = (if co27 = ((ji12) : Int).toNat then (some ad155) else ((some ad155) : Option Addr).map (·.add (((ji12) : Int).toNat * 1))) := ⟨_, rfl⟩; obtain ⟨c30, hc30⟩ : ∃ c1, c1 = co27 - ((ji12) : Int).toNat := ⟨_, rfl⟩; have hy30 : y164.length = x5_1.length - ((ji12) : Int).toNat := (by rw [Ny164.out, List.length_drop] <;> omega); rw [show (x5_1).drop ((ji12) : Int).toNat = y164 from Ny164.out.symm] at hr30; replace hr30 : Kd.F (Kd.int .u8) _ _ A30 y164.length y164 := (by rw [hA30]; exact hr30); rw [← hy30, ← hA30, ← hc30] at hcut30; have HO168 := Aside0.mk (show Kd.V (Kd.int .u8) 5 _ w.heap.size _ (.slice A30 y164.length c30) y164 from Kd.V_mk (by rw [hy30, hc30]; exact Nat.sub_le_sub_right hroom30 _) hr30); have HC168 := Aside0.mk (show y164.length ≤ c30 from by rw [hy30, hc30]; exact Nat.sub_le_sub_right hroom30 _); clear hr30 hC30 hroom30 hi030 hsz30 hc30; have KY30 := Aside0.mk hy30; have KA30 := Aside0.mk hA30; clear hy30 hA30; replace q30 := eq_true q30))
                          go_roundg k1
                          case measure => have := HK1.out; omega
                          case rel => exact ⟨(y161), (y164), H', ⟨by have := HK1.out; omega⟩, ⟨by (with_reducible repeat (first | apply Kd.V_alloc | apply Kd.V_drewN | apply Kd.V_drew)); exact HO_0.out⟩, ⟨by (with_reducible repeat (first | apply Kd.R_alloc | apply Kd.R_drewN | apply Kd.R_drew)); exact HO163.out⟩, ⟨by (with_reducible repeat (first | apply Kd.V_alloc | apply Kd.V_drewN | apply Kd.V_drew)); exact HO168.out⟩, ⟨by repeat (first | (with_reducible first | exact HB.out | apply below_alloc | apply pw_below_drewN | apply below_drew1) | exact HB.out)⟩⟩
                      · rw [if_neg c13] at H
                        exact absurd H (by simp)
                    · rw [if_neg c11] at H
                      exact absurd H (by simp)
                  · rw [if_neg c10] at H
                    exact absurd H (by simp)
                · rw [if_neg c9] at H
                  exact absurd H (by simp)
            · rw [if_neg c6] at H
              exact absurd H (by simp)
          · rw [if_neg c5] at H
            have c5b0 : decide (0 < (x5_1.length : Int)) = false := decide_eq_false c5
            have c5b1 : decide (0 < x5_1.length) = false := decide_eq_false (by omega)
            clear c5
            replace H := Option.bind_eq_some_iff.mp H
            obtain ⟨t172, A310, H⟩ := H
            replace H : ((bytes_Equal.f t172 l0).bind fun t175 => (if t175 = true then (some (x4_1, 0)) else (some (([] : List Int), 4)))) = some (r1, r2) := H
            have A31 := Aside0.mk A310
            clear A310
            replace H := Option.bind_eq_some_iff.mp H
            obtain ⟨t175, A320, H⟩ := H
            replace H : (if t175 = true then (some (x4_1, 0)) else (some (([] : List Int), 4))) = some (r1, r2) := H
            have A32 := Aside0.mk A320
            clear A320
            by_cases c33 : t175 = true
            · subst c33
              have H1 : (some (x4_1, 0)) = some (r1, r2) := by rw [if_pos rfl] at H; exact H
              clear H
              have H := H1
              clear H1
              simp only [Option.some.injEq, Prod.mk.injEq] at H
              obtain ⟨rfl, rfl⟩ := H
              obtain ⟨Ao34, co34, eo34⟩ := Kd.V_slice HO_5.out
              subst eo34
              obtain ⟨Ao35, co35, eo35⟩ := Kd.R_slice HO_4.out
              subst eo35
              go_wp2_with (first | ((with_reducible refine gate_callee (f := 60) rfl ?_); refine goesL_ (some 44) rfl rfl Try.func60 (by kernel_rfl) rfl #[.slice Ao35 x4_1.length co35] rfl (by (try simp only [List.map_toArray, List.map_cons, List.map_nil]); first | done | rfl | (simp only [List.length_drop, List.length_take]; rfl) | (refine congrArg (fun z => #[Value.int .u64 z]) ?_; rw [IntKind.wrap_u64]; omega)) ?_; (with_reducible refine (cobs_Stuff.calls k1 (fun k_ => some k_ = (.slice Ao35 x4_1.length co35 : Value).ownBlock) _ _ x4_1 t172 _ ?side1 A31.out).mono ?_); (case side1 => exact Kd.R_V (Kd.R_tight rfl (HO_4.out))); rintro e w36 ⟨v173, rfl, ho0, hb⟩; refine ⟨_, rfl, ?_⟩; have n0_ := Aside0.mk (Kd.V_elder' (by (with_reducible repeat (first | apply Kd.V_alloc | apply Kd.V_drewN | apply Kd.V_drew)); exact HO_0.out) (Kd.R_base ho0) hb); have n1_ := Aside0.mk (Kd.R_elder' (by (with_reducible repeat (first | apply Kd.R_alloc | apply Kd.R_drewN | apply Kd.R_drew)); exact HO_4.out) (Kd.R_base ho0) hb); have n2_ := Aside0.mk (Kd.V_elder' (by (with_reducible repeat (first | apply Kd.V_alloc | apply Kd.V_drewN | apply Kd.V_drew)); exact HO_5.out) (Kd.R_base ho0) hb); have n3_ := Aside0.mk (Kd.R_lower (Kd.R_new' (Kd.R_newM (M := fun k_ => (w.heap.size ≤ k_)) (Kd.R_mono (ok' := fun k_ => True) ho0 (fun _ hk_ => trivial)) (below_size (by repeat (first | (with_reducible first | exact HB.out | apply below_alloc | apply pw_below_drewN | apply below_drew1) | exact HB.out))) (fun k_ h_ => h_)) (Kd.R_lt (by (with_reducible repeat (first | apply Kd.R_alloc | apply Kd.R_drewN | apply Kd.R_drew)); exact HO_4.out))) (below_size (by repeat (first | (with_reducible first | exact HB.out | apply below_alloc | apply pw_below_drewN | apply below_drew1) | exact HB.out)))); have n4_ := Aside0.mk (below_step (by repeat (first | (with_reducible first | exact HB.out | apply below_alloc | apply pw_below_drewN | apply below_drew1) | exact HB.out)) hb); clear HO_0; clear HO_4; clear HO_5; clear HB; have HO_0 := n0_; have HO_4 := n1_; have HO_5 := n2_; have HO174 := n3_; have HB := n4_; clear n0_ n1_ n2_ n3_ n4_; (try clear hb); (try clear hb2); (try clear hk); (try clear hi); (try clear ho0); obtain ⟨Ao37, co37, eo37⟩ := Kd.R_slice HO174.out; subst eo37) | ((with_reducible refine gate_callee (f := 110) rfl ?_); refine goesL_ (some 46) rfl rfl Try.func110 (by kernel_rfl) rfl #[.slice Ao37 t172.length co37, .slice A0 l0.length c0] rfl (by (try simp only [List.map_toArray, List.map_cons, List.map_nil]); first | done | rfl | (simp only [List.length_drop, List.length_take]; rfl) | (refine congrArg (fun z => #[Value.int .u64 z]) ?_; rw [IntKind.wrap_u64]; omega)) ?_; (with_reducible refine (bytes_Equal.calls _ _ t172 _ _ l0 true _ ?side1 ?side2 ?side3 ?side4 A32.out).mono ?_); (case side1 => repeat (first | exact (Kd.R_reads' HO174.out).2.2 | (with_reducible refine Kd.C_alloc ?_ _) | (with_reducible refine Kd.C_drewN ?_ _) | (with_reducible refine Kd.C_drew ?_))); (case side2 => exact (Kd.R_reads' HO174.out).2.1); (case side3 => repeat (first | exact (Kd.V_reads' HO_0.out).2.2 | (with_reducible refine Kd.C_alloc ?_ _) | (with_reducible refine Kd.C_drewN ?_ _) | (with_reducible refine Kd.C_drew ?_))); (case side4 => exact (Kd.V_reads' HO_0.out).2.1); rintro e w' ⟨rfl, ⟨nd, rfl⟩⟩; refine ⟨_, rfl, ?_⟩))
              go_ret2
              exact ⟨_, by first | rfl | (simp [errW_none, errW_some] <;> rfl) | (simp [*, errW_none, errW_some] <;> rfl), by (with_reducible repeat (first | apply Kd.R_alloc | apply Kd.R_drewN | apply Kd.R_drew)); exact Kd.R_mono HO_4.out (fun _ hk => hk.1), by repeat (first | (with_reducible first | exact HB.out | apply below_alloc | apply pw_below_drewN | apply below_drew1) | exact HB.out)⟩
            · replace c33 := Bool.eq_false_iff.mpr c33
              subst c33
              have H1 : (some (([] : List Int), 4)) = some (r1, r2) := by rw [if_neg (show ¬ (false = true) by decide)] at H; exact H
              clear H
              have H := H1
              clear H1
              simp only [Option.some.injEq, Prod.mk.injEq] at H
              obtain ⟨rfl, rfl⟩ := H
              obtain ⟨Ao38, co38, eo38⟩ := Kd.V_slice HO_5.out
              subst eo38
              obtain ⟨Ao39, co39, eo39⟩ := Kd.R_slice HO_4.out
              subst eo39
              go_wp2_with (first | ((with_reducible refine gate_callee (f := 60) rfl ?_); refine goesL_ (some 44) rfl rfl Try.func60 (by kernel_rfl) rfl #[.slice Ao39 x4_1.length co39] rfl (by (try simp only [List.map_toArray, List.map_cons, List.map_nil]); first | done | rfl | (simp only [List.length_drop, List.length_take]; rfl) | (refine congrArg (fun z => #[Value.int .u64 z]) ?_; rw [IntKind.wrap_u64]; omega)) ?_; (with_reducible refine (cobs_Stuff.calls k1 (fun k_ => some k_ = (.slice Ao39 x4_1.length co39 : Value).ownBlock) _ _ x4_1 t172 _ ?side1 A31.out).mono ?_); (case side1 => exact Kd.R_V (Kd.R_tight rfl (HO_4.out))); rintro e w40 ⟨v173, rfl, ho0, hb⟩; refine ⟨_, rfl, ?_⟩; have n0_ := Aside0.mk (Kd.V_elder' (by (with_reducible repeat (first | apply Kd.V_alloc | apply Kd.V_drewN | apply Kd.V_drew)); exact HO_0.out) (Kd.R_base ho0) hb); have n1_ := Aside0.mk (Kd.R_elder' (by (with_reducible repeat (first | apply Kd.R_alloc | apply Kd.R_drewN | apply Kd.R_drew)); exact HO_4.out) (Kd.R_base ho0) hb); have n2_ := Aside0.mk (Kd.V_elder' (by (with_reducible repeat (first | apply Kd.V_alloc | apply Kd.V_drewN | apply Kd.V_drew)); exact HO_5.out) (Kd.R_base ho0) hb); have n3_ := Aside0.mk (Kd.R_lower (Kd.R_new' (Kd.R_newM (M := fun k_ => (w.heap.size ≤ k_)) (Kd.R_mono (ok' := fun k_ => True) ho0 (fun _ hk_ => trivial)) (below_size (by repeat (first | (with_reducible first | exact HB.out | apply below_alloc | apply pw_below_drewN | apply below_drew1) | exact HB.out))) (fun k_ h_ => h_)) (Kd.R_lt (by (with_reducible repeat (first | apply Kd.R_alloc | apply Kd.R_drewN | apply Kd.R_drew)); exact HO_4.out))) (below_size (by repeat (first | (with_reducible first | exact HB.out | apply below_alloc | apply pw_below_drewN | apply below_drew1) | exact HB.out)))); have n4_ := Aside0.mk (below_step (by repeat (first | (with_reducible first | exact HB.out | apply below_alloc | apply pw_below_drewN | apply below_drew1) | exact HB.out)) hb); clear HO_0; clear HO_4; clear HO_5; clear HB; have HO_0 := n0_; have HO_4 := n1_; have HO_5 := n2_; have HO174 := n3_; have HB := n4_; clear n0_ n1_ n2_ n3_ n4_; (try clear hb); (try clear hb2); (try clear hk); (try clear hi); (try clear ho0); obtain ⟨Ao41, co41, eo41⟩ := Kd.R_slice HO174.out; subst eo41) | ((with_reducible refine gate_callee (f := 110) rfl ?_); refine goesL_ (some 46) rfl rfl Try.func110 (by kernel_rfl) rfl #[.slice Ao41 t172.length co41, .slice A0 l0.length c0] rfl (by (try simp only [List.map_toArray, List.map_cons, List.map_nil]); first | done | rfl | (simp only [List.length_drop, List.length_take]; rfl) | (refine congrArg (fun z => #[Value.int .u64 z]) ?_; rw [IntKind.wrap_u64]; omega)) ?_; (with_reducible refine (bytes_Equal.calls _ _ t172 _ _ l0 false _ ?side1 ?side2 ?side3 ?side4 A32.out).mono ?_); (case side1 => repeat (first | exact (Kd.R_reads' HO174.out).2.2 | (with_reducible refine Kd.C_alloc ?_ _) | (with_reducible refine Kd.C_drewN ?_ _) | (with_reducible refine Kd.C_drew ?_))); (case side2 => exact (Kd.R_reads' HO174.out).2.1); (case side3 => repeat (first | exact (Kd.V_reads' HO_0.out).2.2 | (with_reducible refine Kd.C_alloc ?_ _) | (with_reducible refine Kd.C_drewN ?_ _) | (with_reducible refine Kd.C_drew ?_))); (case side4 => exact (Kd.V_reads' HO_0.out).2.1); rintro e w' ⟨rfl, ⟨nd, rfl⟩⟩; refine ⟨_, rfl, ?_⟩))
              go_ret2
              exact ⟨_, by first | rfl | (simp [errW_none, errW_some] <;> rfl) | (simp [*, errW_none, errW_some] <;> rfl), by first | exact Kd.R_nil _ _ _ _ _ | exact Kd.N_nil _ _ _ _ _ | exact Kd.V_nil _ _ _ _ _ | exact Kd.Q_nil _ _ _ _ _ | exact Kd.S_nil _ _ _ _ _, by repeat (first | (with_reducible first | exact HB.out | apply below_alloc | apply pw_below_drewN | apply below_drew1) | exact HB.out)⟩

-- NOT PRINTED: function 51 (cursor_Run)

end Go.Proofs.Ytekanmieppnpeaa.G
