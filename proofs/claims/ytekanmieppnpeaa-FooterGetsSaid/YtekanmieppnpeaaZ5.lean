/- Texts of a claim, one behind the other (shake.py): what it does not use is left out. -/
import Derived.Test.YtekanmieppnpeaaZ4
import Derived.Lib.IndexLaws
section
namespace Go.Proofs.Ytekanmieppnpeaa.G
open Go.RowKit Go.Proofs.YtekanmieppnpeaaW.PrintWords Go.Proofs.YtekanmieppnpeaaW.PrintLast Go.Proofs.YtekanmieppnpeaaW.PrintMore
attribute [local go_sem] max2_int min2_int max_two min_two max_three min_three max_four min_four   -- for this text's walks alone
set_option linter.unusedVariables false
set_option linter.unusedSimpArgs false
def cobs_Unstuff.l0 : Nat → List Int → List Int → List Int → Option (List Int × Int)
  | 0, _, _, _ => none
  | k + 1, x0, x4, x5 => if (x5.length : Int) > 0 then (if 0 < (x5.length : Int) then (if (wrap64 (rd x5 0)) > (x5.length : Int) then (some (([] : List Int), 2)) else (if 1 ≤ (wrap64 (rd x5 0)) then (if (wrap64 (rd x5 0)) ≤ (x5.length : Int) then ((some ((x5.take ((wrap64 (rd x5 0)) : Int).toNat).drop 1 : List Int)).bind fun y238 => (if x4.length + y238.length < 140737488355328 then ((some (x4 ++ y238 : List Int)).bind fun y243 => (if 0 ≤ (wrap64 (rd x5 0)) then ((some (x5.drop ((wrap64 (rd x5 0)) : Int).toNat : List Int)).bind fun y246 => (if (wrap64 (rd x5 0)) ≤ 254 then (if (y246.length : Int) > 0 then (if y243.length < 140737488355328 then (cobs_Unstuff.l0 k x0 (y243 ++ [0]) y246) else (none)) else (cobs_Unstuff.l0 k x0 y243 y246)) else (cobs_Unstuff.l0 k x0 y243 y246))) else (none))) else (none))) else (none)) else (none))) else (none)) else ((cobs_Stuff.f k x4).bind fun t254 => ((bytes_Equal.f t254 x0).bind fun t257 => (if t257 = true then (some (x4, 0)) else (some (([] : List Int), 4)))))
def cobs_Unstuff.f (k : Nat) (l0 : List Int) : Option (List Int × Int) := (bytes_IndexByte.f l0 0).bind fun t236 => (if t236 ≥ 0 then (some (([] : List Int), 4)) else (if (l0.length : Int) = 0 then (some (([] : List Int), 2)) else (cobs_Unstuff.l0 k l0 ([] : List Int) l0)))
theorem cobs_Unstuff.mono_l : ∀ k, (∀ y0 y1 y2, LeO (cobs_Unstuff.l0 k y0 y1 y2) (cobs_Unstuff.l0 (k + 1) y0 y1 y2))
  | 0 => fun _ _ _ r h => by simp [cobs_Unstuff.l0] at h
  | k + 1 => by
    have ih0 := cobs_Unstuff.mono_l k
    · intro y0 y1 y2
      unfold cobs_Unstuff.l0
      repeat' first
      | (with_reducible exact ih0 _ _ _)
      | (with_reducible exact cobs_Stuff.mono _ _)
      | (with_reducible exact LeO.refl _)
      | (with_reducible exact LeO.none _)
      | (with_reducible refine LeO.ite ?_ ?_)
      | (with_reducible refine LeO.bind ?_ (fun _ => ?_))
      | exact ih0 _ _ _
      | exact cobs_Stuff.mono _ _
      | exact LeO.none _
      | refine LeO.ite ?_ ?_
      | refine LeO.bind ?_ (fun _ => ?_)
theorem cobs_Unstuff.mono : ∀ a0 k, LeO (cobs_Unstuff.f k a0) (cobs_Unstuff.f (k + 1) a0) := by
  intro a0 k
  have ih0 := cobs_Unstuff.mono_l k
  unfold cobs_Unstuff.f
  repeat' first
      | (with_reducible exact ih0 _ _ _)
      | (with_reducible exact cobs_Stuff.mono _ _)
      | (with_reducible exact LeO.refl _)
      | (with_reducible exact LeO.none _)
      | (with_reducible refine LeO.ite ?_ ?_)
      | (with_reducible refine LeO.bind ?_ (fun _ => ?_))
      | exact ih0 _ _ _
      | exact cobs_Stuff.mono _ _
      | exact LeO.none _
      | refine LeO.ite ?_ ?_
      | refine LeO.bind ?_ (fun _ => ?_)
set_option maxHeartbeats 8000000 in
set_option maxRecDepth 100000 in
theorem cobs_Unstuff.calls (k : Nat) (P0_ : Nat → Prop) (A0 : Option Addr) (c0 : Nat) (l0 : List Int) (r1 : List Int) (r2 : Int) (w : World) (hs0 : Kd.V (Kd.int .u8) 5 w w.heap.size (fun k_ => P0_ k_) (.slice A0 l0.length c0) l0) (h : cobs_Unstuff.f k l0 = some (r1, r2)) :
    Calls Try.prog 50 #[.slice A0 l0.length c0] w fun e w' => ∃ v0_ : Value, e = .returned (.tuple #[v0_, .int .i64 r2]) ∧ Kd.R (Kd.int .u8) 5 w' w.heap.size (fun k_ => (w.heap.size ≤ k_)) v0_ r1 ∧ Below w.heap.size w w' := by
  have HO0 := Aside0.mk (show Kd.V (Kd.int .u8) 5 w w.heap.size (fun k_ => (P0_ k_ ∨ w.heap.size ≤ k_)) (.slice A0 l0.length c0) l0 from Kd.V_mono hs0 (fun k_ hk => .inl hk))
  have HB := Aside0.mk (Below.refl w.heap.size w)
  have H : ((bytes_IndexByte.f l0 0).bind fun t236 => (if t236 ≥ 0 then (some (([] : List Int), 4)) else (if (l0.length : Int) = 0 then (some (([] : List Int), 2)) else (cobs_Unstuff.l0 k l0 ([] : List Int) l0)))) = some (r1, r2) := h
  clear h
  replace H := Option.bind_eq_some_iff.mp H
  obtain ⟨t236, A20, H⟩ := H
  replace H : (if t236 ≥ 0 then (some (([] : List Int), 4)) else (if (l0.length : Int) = 0 then (some (([] : List Int), 2)) else (cobs_Unstuff.l0 k l0 ([] : List Int) l0))) = some (r1, r2) := H
  have A2 := Aside0.mk A20
  clear A20
  by_cases c3 : t236 ≥ 0
  · rw [if_pos c3] at H
    have c3b0 : decide (0 ≤ t236) = true := decide_eq_true c3
    clear c3
    simp only [Option.some.injEq, Prod.mk.injEq] at H
    obtain ⟨rfl, rfl⟩ := H
    go_enter Try.func50, Try.ntmps50
    go_wp2_with (first | ((with_reducible refine gate_callee (f := 109) rfl ?_); refine goesL_ (some 8) rfl rfl Try.func109 (by kernel_rfl) rfl #[.slice A0 l0.length c0, .int .u8 0] rfl (by (try simp only [List.map_toArray, List.map_cons, List.map_nil]); first | done | rfl | (simp only [List.length_drop, List.length_take]; rfl) | (refine congrArg (fun z => #[Value.int .u64 z]) ?_; rw [IntKind.wrap_u64]; omega)) ?_; (with_reducible refine (bytes_IndexByte.calls _ _ l0 0 t236 _ ?side1 ?side2 A2.out).mono ?_); (case side1 => repeat (first | exact (Kd.V_reads' HO0.out).2.2 | (with_reducible refine Kd.C_alloc ?_ _) | (with_reducible refine Kd.C_drewN ?_ _) | (with_reducible refine Kd.C_drew ?_))); (case side2 => exact (Kd.V_reads' HO0.out).2.1); rintro e w' ⟨rfl, ⟨nd, rfl⟩⟩; refine ⟨_, rfl, ?_⟩))
    go_ret2
    exact ⟨_, by first | rfl | (simp [errW_none, errW_some] <;> rfl) | (simp [*, errW_none, errW_some] <;> rfl), by first | exact Kd.R_nil _ _ _ _ _ | exact Kd.N_nil _ _ _ _ _ | exact Kd.V_nil _ _ _ _ _ | exact Kd.Q_nil _ _ _ _ _ | exact Kd.S_nil _ _ _ _ _, by repeat (first | (with_reducible first | exact HB.out | apply below_alloc | apply pw_below_drewN | apply below_drew1) | exact HB.out)⟩
  · rw [if_neg c3] at H
    have c3b0 : decide (0 ≤ t236) = false := decide_eq_false c3
    clear c3
    by_cases c4 : (l0.length : Int) = 0
    · rw [if_pos c4] at H
      have c4b0 : ((l0.length : Int) == 0) = true := beq_iff_eq.mpr c4
      have c4b1 : ((l0.length : Int) != 0) = false := bne_eq_false_iff_eq.mpr c4
      clear c4
      simp only [Option.some.injEq, Prod.mk.injEq] at H
      obtain ⟨rfl, rfl⟩ := H
      go_enter Try.func50, Try.ntmps50
      go_wp2_with (first | ((with_reducible refine gate_callee (f := 109) rfl ?_); refine goesL_ (some 8) rfl rfl Try.func109 (by kernel_rfl) rfl #[.slice A0 l0.length c0, .int .u8 0] rfl (by (try simp only [List.map_toArray, List.map_cons, List.map_nil]); first | done | rfl | (simp only [List.length_drop, List.length_take]; rfl) | (refine congrArg (fun z => #[Value.int .u64 z]) ?_; rw [IntKind.wrap_u64]; omega)) ?_; (with_reducible refine (bytes_IndexByte.calls _ _ l0 0 t236 _ ?side1 ?side2 A2.out).mono ?_); (case side1 => repeat (first | exact (Kd.V_reads' HO0.out).2.2 | (with_reducible refine Kd.C_alloc ?_ _) | (with_reducible refine Kd.C_drewN ?_ _) | (with_reducible refine Kd.C_drew ?_))); (case side2 => exact (Kd.V_reads' HO0.out).2.1); rintro e w' ⟨rfl, ⟨nd, rfl⟩⟩; refine ⟨_, rfl, ?_⟩))
      go_ret2
      exact ⟨_, by first | rfl | (simp [errW_none, errW_some] <;> rfl) | (simp [*, errW_none, errW_some] <;> rfl), by first | exact Kd.R_nil _ _ _ _ _ | exact Kd.N_nil _ _ _ _ _ | exact Kd.V_nil _ _ _ _ _ | exact Kd.Q_nil _ _ _ _ _ | exact Kd.S_nil _ _ _ _ _, by repeat (first | (with_reducible first | exact HB.out | apply below_alloc | apply pw_below_drewN | apply below_drew1) | exact HB.out)⟩
    · rw [if_neg c4] at H
      have c4b0 : ((l0.length : Int) == 0) = false := beq_eq_false_iff_ne.mpr c4
      have c4b1 : ((l0.length : Int) != 0) = true := bne_iff_ne.mpr c4
      have c4b2 : ¬ (l0 = []) := fun h_ => c4 (by rw [h_]; rfl)
      have H' := Aside0.mk H
      clear H
      go_enter Try.func50, Try.ntmps50
      go_wp2_with (first | ((with_reducible refine gate_callee (f := 109) rfl ?_); refine goesL_ (some 8) rfl rfl Try.func109 (by kernel_rfl) rfl #[.slice A0 l0.length c0, .int .u8 0] rfl (by (try simp only [List.map_toArray, List.map_cons, List.map_nil]); first | done | rfl | (simp only [List.length_drop, List.length_take]; rfl) | (refine congrArg (fun z => #[Value.int .u64 z]) ?_; rw [IntKind.wrap_u64]; omega)) ?_; (with_reducible refine (bytes_IndexByte.calls _ _ l0 0 t236 _ ?side1 ?side2 A2.out).mono ?_); (case side1 => repeat (first | exact (Kd.V_reads' HO0.out).2.2 | (with_reducible refine Kd.C_alloc ?_ _) | (with_reducible refine Kd.C_drewN ?_ _) | (with_reducible refine Kd.C_drew ?_))); (case side2 => exact (Kd.V_reads' HO0.out).2.1); rintro e w' ⟨rfl, ⟨nd, rfl⟩⟩; refine ⟨_, rfl, ?_⟩))
      go_loopg [4, 5] k (fun kq v4 v5 w' => ∃ (x4_1 : List Int) (x5_1 : List Int), Aside0 (cobs_Unstuff.l0 kq l0 x4_1 x5_1 = some (r1, r2)) ∧ Aside0 (kq ≤ k) ∧ Aside0 (Kd.V (Kd.int .u8) 5 w' w.heap.size (fun k_ => (P0_ k_ ∨ w.heap.size ≤ k_) ∧ some k_ ≠ (v4 : Value).ownBlock) (.slice A0 l0.length c0) l0) ∧ Aside0 (Kd.R (Kd.int .u8) 5 w' w.heap.size (fun k_ => (w.heap.size ≤ k_)) v4 x4_1) ∧ Aside0 (Kd.V (Kd.int .u8) 5 w' w.heap.size (fun k_ => (P0_ k_ ∨ w.heap.size ≤ k_) ∧ some k_ ≠ (v4 : Value).ownBlock) v5 x5_1) ∧ Aside0 (Below w.heap.size w w'))
      case atStart => exact ⟨(([] : List Int)), (l0), H', ⟨Nat.le_refl _⟩, ⟨by (with_reducible repeat (first | apply Kd.V_alloc | apply Kd.V_drewN | apply Kd.V_drew)); exact Kd.V_mono HO0.out (fun _ hk => ⟨hk, (by simp [Value.ownBlock])⟩)⟩, ⟨by first | exact Kd.R_nil _ _ _ _ _ | exact Kd.N_nil _ _ _ _ _ | exact Kd.V_nil _ _ _ _ _ | exact Kd.Q_nil _ _ _ _ _ | exact Kd.S_nil _ _ _ _ _⟩, ⟨by (with_reducible repeat (first | apply Kd.V_alloc | apply Kd.V_drewN | apply Kd.V_drew)); exact Kd.V_mono HO0.out (fun _ hk => ⟨hk, (by simp [Value.ownBlock])⟩)⟩, ⟨by repeat (first | (with_reducible first | exact HB.out | apply below_alloc | apply pw_below_drewN | apply below_drew1) | exact HB.out)⟩⟩
      case round =>
        clear H'
        try clear c1
        try clear p2
        try clear c3
        try clear c3b0
        try clear c4
        try clear c4b0
        try clear c4b1
        try clear c4b2
        obtain ⟨x4_1, x5_1, HA, HK1, HO_0, HO_4, HO_5, HB⟩ := hrel
        cases gk with
        | zero => exact absurd HA.out (by simp [cobs_Unstuff.l0])
        | succ k1 =>
          have H := HA.out
          clear HA
          simp only [cobs_Unstuff.l0] at H
          by_cases c5 : (x5_1.length : Int) > 0
          · rw [if_pos c5] at H
            have c5b0 : decide (0 < (x5_1.length : Int)) = true := decide_eq_true c5
            have c5b1 : decide (0 < x5_1.length) = true := decide_eq_true (by omega)
            clear c5
            by_cases c6 : 0 < (x5_1.length : Int)
            · rw [if_pos c6] at H
              have c6b0 : decide (0 < (x5_1.length : Int)) = true := decide_eq_true c6
              have c6b1 : decide (0 < x5_1.length) = true := decide_eq_true (by omega)
              clear c6
              by_cases c7 : (wrap64 (rd x5_1 0)) > (x5_1.length : Int)
              · rw [if_pos c7] at H
                have c7b0 : decide ((x5_1.length : Int) < (wrap64 (rd x5_1 0))) = true := decide_eq_true c7
                clear c7
                simp only [Option.some.injEq, Prod.mk.injEq] at H
                obtain ⟨rfl, rfl⟩ := H
                obtain ⟨Ao8, co8, eo8⟩ := Kd.V_slice HO_5.out
                subst eo8
                have p237 : 0 ≤ (0 : Int) := (by omega)
                have q237 : 0 < (x5_1.length : Int) := of_decide_eq_true (by first | (with_reducible assumption) | assumption)
                obtain ⟨ad237, e237, hx237_0⟩ := Kd.at_int (Kd.V_reads' HO_5.out).2.2 0 p237 q237
                cases e237
                have qi237 : (0 < x5_1.length) = True := eq_true (by omega)
                (try rw [show ((0 : Int)).toNat = 0 from rfl] at hx237_0)
                (try rw [Addr.add_zero'] at hx237_0)
                replace p237 := eq_true p237
                replace q237 := eq_true q237
                go_wp2
                go_ret2
                exact ⟨_, by first | rfl | (simp [errW_none, errW_some] <;> rfl) | (simp [*, errW_none, errW_some] <;> rfl), by first | exact Kd.R_nil _ _ _ _ _ | exact Kd.N_nil _ _ _ _ _ | exact Kd.V_nil _ _ _ _ _ | exact Kd.Q_nil _ _ _ _ _ | exact Kd.S_nil _ _ _ _ _, by repeat (first | (with_reducible first | exact HB.out | apply below_alloc | apply pw_below_drewN | apply below_drew1) | exact HB.out)⟩
              · rw [if_neg c7] at H
                have c7b0 : decide ((x5_1.length : Int) < (wrap64 (rd x5_1 0))) = false := decide_eq_false c7
                clear c7
                by_cases c9 : 1 ≤ (wrap64 (rd x5_1 0))
                · rw [if_pos c9] at H
                  have c9b0 := eq_true c9
                  have c9b1 : decide (1 ≤ (wrap64 (rd x5_1 0))) = true := decide_eq_true c9
                  clear c9
                  by_cases c10 : (wrap64 (rd x5_1 0)) ≤ (x5_1.length : Int)
                  · rw [if_pos c10] at H
                    have c10b0 := eq_true c10
                    have c10b1 : decide ((wrap64 (rd x5_1 0)) ≤ (x5_1.length : Int)) = true := decide_eq_true c10
                    clear c10
                    obtain ⟨y238, hy238⟩ : ∃ y_ : List Int, y_ = ((x5_1.take ((wrap64 (rd x5_1 0)) : Int).toNat).drop 1) := ⟨_, rfl⟩
                    replace H : (if x4_1.length + y238.length < 140737488355328 then ((some (x4_1 ++ y238 : List Int)).bind fun y243 => (if 0 ≤ (wrap64 (rd x5_1 0)) then ((some (x5_1.drop ((wrap64 (rd x5_1 0)) : Int).toNat : List Int)).bind fun y246 => (if (wrap64 (rd x5_1 0)) ≤ 254 then (if (y246.length : Int) > 0 then (if y243.length < 140737488355328 then (cobs_Unstuff.l0 k1 l0 (y243 ++ [0]) y246) else (none)) else (cobs_Unstuff.l0 k1 l0 y243 y246)) else (cobs_Unstuff.l0 k1 l0 y243 y246))) else (none))) else (none)) = some (r1, r2) := by first | (rw [hy238]; with_reducible exact H) | (have H2_ := (Option.bind_some _ _).symm.trans H; rw [hy238]; with_reducible exact H2_) | (have H2_ := (Option.bind_some _ _).symm.trans H; with_reducible exact H2_) | with_reducible exact H | (rw [hy238]; exact H) | exact H
                    have Ny238 := Aside0.mk hy238
                    clear hy238
                    by_cases c11 : x4_1.length + y238.length < 140737488355328
                    · rw [if_pos c11] at H
                      have LMc11 := Aside0.mk c11
                      clear c11
                      obtain ⟨y243, hy243⟩ : ∃ y_ : List Int, y_ = (x4_1 ++ y238) := ⟨_, rfl⟩
                      replace H : (if 0 ≤ (wrap64 (rd x5_1 0)) then ((some (x5_1.drop ((wrap64 (rd x5_1 0)) : Int).toNat : List Int)).bind fun y246 => (if (wrap64 (rd x5_1 0)) ≤ 254 then (if (y246.length : Int) > 0 then (if y243.length < 140737488355328 then (cobs_Unstuff.l0 k1 l0 (y243 ++ [0]) y246) else (none)) else (cobs_Unstuff.l0 k1 l0 y243 y246)) else (cobs_Unstuff.l0 k1 l0 y243 y246))) else (none)) = some (r1, r2) := by first | (rw [hy243]; with_reducible exact H) | (have H2_ := (Option.bind_some _ _).symm.trans H; rw [hy243]; with_reducible exact H2_) | (have H2_ := (Option.bind_some _ _).symm.trans H; with_reducible exact H2_) | with_reducible exact H | (rw [hy243]; exact H) | exact H
                      have Ny243 := Aside0.mk hy243
                      clear hy243
                      obtain ⟨ji12, hji12⟩ : ∃ j_ : Int, (wrap64 (rd x5_1 0)) = j_ := ⟨_, rfl⟩
                      replace H : (if 0 ≤ (ji12) then ((some (x5_1.drop ((ji12) : Int).toNat : List Int)).bind fun y246 => (if (ji12) ≤ 254 then (if (y246.length : Int) > 0 then (if y243.length < 140737488355328 then (cobs_Unstuff.l0 k1 l0 (y243 ++ [0]) y246) else (none)) else (cobs_Unstuff.l0 k1 l0 y243 y246)) else (cobs_Unstuff.l0 k1 l0 y243 y246))) else (none)) = some (r1, r2) := by first | (rw [hji12] at H; exact H) | (simp only [hji12] at H ⊢; exact H)
                      (try rw [hji12] at c7b0)
                      (try rw [hji12] at c9b0)
                      (try rw [hji12] at c9b1)
                      (try rw [hji12] at c10b0)
                      (try rw [hji12] at c10b1)
                      (try rw [hji12] at Ny238)
                      (try rw [hji12] at Ny238)
                      have hji12w : (IntKind.i64.wrap (rd x5_1 0)) = ji12 := (i64_w _).trans hji12
                      by_cases c13 : 0 ≤ (ji12)
                      · rw [if_pos c13] at H
                        have c13b0 := eq_true c13
                        have c13b1 : decide (0 ≤ (ji12)) = true := decide_eq_true c13
                        clear c13
                        have c14b0 := eq_true (of_decide_eq_true (by first | (with_reducible assumption) | assumption) : (ji12) ≤ (x5_1.length : Int))
                        obtain ⟨y246, hy246⟩ : ∃ y_ : List Int, y_ = (x5_1.drop ((ji12) : Int).toNat) := ⟨_, rfl⟩
                        replace H : (if (ji12) ≤ 254 then (if (y246.length : Int) > 0 then (if y243.length < 140737488355328 then (cobs_Unstuff.l0 k1 l0 (y243 ++ [0]) y246) else (none)) else (cobs_Unstuff.l0 k1 l0 y243 y246)) else (cobs_Unstuff.l0 k1 l0 y243 y246)) = some (r1, r2) := by first | (rw [hy246]; with_reducible exact H) | (have H2_ := (Option.bind_some _ _).symm.trans H; rw [hy246]; with_reducible exact H2_) | (have H2_ := (Option.bind_some _ _).symm.trans H; with_reducible exact H2_) | with_reducible exact H | (rw [hy246]; exact H) | exact H
                        have Ny246 := Aside0.mk hy246
                        clear hy246
                        by_cases c15 : (ji12) ≤ 254
                        · rw [if_pos c15] at H
                          have c15b0 : decide ((ji12) ≤ 254) = true := decide_eq_true c15
                          clear c15
                          by_cases c16 : (y246.length : Int) > 0
                          · rw [if_pos c16] at H
                            have c16b0 : decide (0 < (y246.length : Int)) = true := decide_eq_true c16
                            have c16b1 : decide (0 < y246.length) = true := decide_eq_true (by omega)
                            clear c16
                            by_cases c17 : y243.length < 140737488355328
                            · rw [if_pos c17] at H
                              have LMc17 := Aside0.mk c17
                              clear c17
                              obtain ⟨y251, hy251⟩ : ∃ y_ : List Int, y_ = (y243 ++ [0]) := ⟨_, rfl⟩
                              replace H : (cobs_Unstuff.l0 k1 l0 y251 y246) = some (r1, r2) := by first | (rw [hy251]; with_reducible exact H) | (have H2_ := (Option.bind_some _ _).symm.trans H; rw [hy251]; with_reducible exact H2_) | (have H2_ := (Option.bind_some _ _).symm.trans H; with_reducible exact H2_) | with_reducible exact H | (rw [hy251]; exact H) | exact H
                              have Ny251 := Aside0.mk hy251
                              clear hy251
                              have H' := Aside0.mk H
                              clear H
                              obtain ⟨Ao18, co18, eo18⟩ := Kd.V_slice HO_5.out
                              subst eo18
                              have p237 : 0 ≤ (0 : Int) := (by omega)
                              have q237 : 0 < (x5_1.length : Int) := of_decide_eq_true (by first | (with_reducible assumption) | assumption)
                              obtain ⟨ad237, e237, hx237_0⟩ := Kd.at_int (Kd.V_reads' HO_5.out).2.2 0 p237 q237
                              cases e237
                              have qi237 : (0 < x5_1.length) = True := eq_true (by omega)
                              (try rw [show ((0 : Int)).toNat = 0 from rfl] at hx237_0)
                              (try rw [Addr.add_zero'] at hx237_0)
                              replace p237 := eq_true p237
                              replace q237 := eq_true q237
                              have q19 : ((ji12) : Int) ≤ ((x5_1.length : Int) : Int) := of_decide_eq_true (by first | (with_reducible assumption) | assumption)
                              obtain ⟨i019, hi019, _, hsz19, _⟩ := info_parts info5
                              have hroom19 : x5_1.length ≤ co18 := (Kd.V_reads' HO_5.out).2.1
                              have hC19 : Kd.F (Kd.int .u8) _ _ (some ad237) x5_1.length x5_1 := (Kd.V_at (base := w.heap.size) HO_5.out).2.2
                              have ql19 : (1 : Int) ≤ ((ji12) : Int) := of_decide_eq_true (by first | (with_reducible assumption) | assumption)
                              have hcut19 := cut_mid (P := Try.prog) 39 5 .i64 .i64 Try.underlying39 hi019 1 hsz19 (some ad237) x5_1.length co18 1 (ji12) (by omega) ql19 q19 hroom19
                              have hr19 := Kd.F_mid (lo := (1 : Int).toNat) (hi := ((ji12) : Int).toNat) (c := co18) hC19 (by omega) (by omega) hroom19
                              obtain ⟨A19, hA19⟩ : ∃ A1, A1 = (if co18 = (1 : Int).toNat then (some ad237) else ((some ad237) : Option Addr).map (·.add ((1 : Int).toNat * 1))) := ⟨_, rfl⟩
                              obtain ⟨c19, hc19⟩ : ∃ c1, c1 = co18 - (1 : Int).toNat := ⟨_, rfl⟩
                              have hy19 : y238.length = ((ji12) : Int).toNat - (1 : Int).toNat := (by rw [Ny238.out, List.length_drop, List.length_take] <;> omega)
                              rw [show ((x5_1).take ((ji12) : Int).toNat).drop (1 : Int).toNat = y238 from Ny238.out.symm] at hr19
                              replace hr19 : Kd.F (Kd.int .u8) _ _ A19 y238.length y238 := (by rw [hA19]; exact hr19)
                              rw [← hy19, ← hA19, ← hc19] at hcut19
                              have HO242 := Aside0.mk (show Kd.V (Kd.int .u8) 5 _ w.heap.size _ (.slice A19 y238.length c19) y238 from Kd.V_mk (by rw [hy19, hc19]; exact Nat.sub_le_sub_right (Nat.le_trans (by omega) hroom19) _) hr19)
                              have HC242 := Aside0.mk (show y238.length ≤ c19 from by rw [hy19, hc19]; exact Nat.sub_le_sub_right (Nat.le_trans (by omega) hroom19) _)
                              clear hr19 hC19 hroom19 hi019 hsz19 hc19
                              have KY19 := Aside0.mk hy19
                              have KA19 := Aside0.mk hA19
                              clear hy19 hA19
                              replace q19 := eq_true q19
                              go_wp2_with (first | ((with_reducible refine gate_builtin (b := .append) (xs := #[.tmp 25, .tmp 28]) rfl ?_); (try (refine gate_guard (by rfl) ?_; dsimp only)); at_builtin; refine Kd.R_append_rows (Kd.int .u8) (w0 := w) w.heap.size rfl (.tmp 25) (.tmp 28) 39 5 (.int .u8 0) 1 rfl Try.underlying39 info5 rfl (by decide) (by omega) u4 x4_1 y238 _ _ _ (fun k_ => (w.heap.size ≤ k_)) (fun _ => False) rfl rfl ?aO ?aR (fun _ _ h => h) (fun _ h => h.elim) ?aF ?aB ?aS ?aL ?_; (case aR => repeat (first | exact (Kd.V_reads' HO242.out).2.2 | (with_reducible refine Kd.C_alloc ?_ _) | (with_reducible refine Kd.C_drewN ?_ _) | (with_reducible refine Kd.C_drew ?_))); (case aB => exact (by repeat (first | (with_reducible first | exact HB.out | apply below_alloc | apply pw_below_drewN | apply below_drew1) | exact HB.out))); (case aF => exact (fun k_ hk => (Nat.le_trans (below_size (by repeat (first | (with_reducible first | exact HB.out | apply below_alloc | apply pw_below_drewN | apply below_drew1) | exact HB.out))) hk))); (case aO => exact (by (with_reducible repeat (first | apply Kd.R_alloc | apply Kd.R_drewN | apply Kd.R_drew)); exact HO_4.out)); (case aS => exact (below_size (by repeat (first | (with_reducible first | exact HB.out | apply below_alloc | apply pw_below_drewN | apply below_drew1) | exact HB.out)))); (case aL => have := LMc11.out; omega); intro v244 w20 ho hb hg hat; rw [← Ny243.out] at ho; have n0_ := Aside0.mk (Kd.V_afterv (ok := (fun k_ => (P0_ k_ ∨ w.heap.size ≤ k_))) (by (with_reducible repeat (first | apply Kd.V_alloc | apply Kd.V_drewN | apply Kd.V_drew)); exact HO_0.out) hg hat); have n1_ := Aside0.mk (Kd.V_afterv (ok := (fun k_ => (P0_ k_ ∨ w.heap.size ≤ k_))) (by (with_reducible repeat (first | apply Kd.V_alloc | apply Kd.V_drewN | apply Kd.V_drew)); exact HO_5.out) hg hat); have n2_ := Aside0.mk (Kd.V_afterv (ok := (fun k_ => (P0_ k_ ∨ w.heap.size ≤ k_))) (by (with_reducible repeat (first | apply Kd.V_alloc | apply Kd.V_drewN | apply Kd.V_drew)); exact HO242.out) hg hat); have n3_ := Aside0.mk (hb); have n4_ := Aside0.mk (ho); clear HO_0; clear HO_5; clear HO242; clear HB; clear HO_4; have HO_0 := n0_; have HO_5 := n1_; have HO242 := n2_; have HB := n3_; have HO245 := n4_; clear n0_ n1_ n2_ n3_ n4_; clear ho hb hg hat; have q21 : ((ji12) : Int) ≤ ((x5_1.length : Int) : Int) := of_decide_eq_true (by first | (with_reducible assumption) | assumption); obtain ⟨i021, hi021, _, hsz21, _⟩ := info_parts info5; have hroom21 : x5_1.length ≤ co18 := (Kd.V_reads' HO_5.out).2.1; have hC21 : Kd.F (Kd.int .u8) _ _ (some ad237) x5_1.length x5_1 := (Kd.V_at (base := w.heap.size) HO_5.out).2.2; have q021 : (0 : Int) ≤ ((ji12) : Int) := of_decide_eq_true (by first | (with_reducible assumption) | assumption); have hcut21 := cut_from (P := Try.prog) 39 5 .i64 Try.underlying39 hi021 1 hsz21 (some ad237) x5_1.length co18 (ji12) q021 q21; have hr21 := Kd.F_cut (m := ((ji12) : Int).toNat) (c := co18) hC21 (by omega) hroom21; obtain ⟨A21, hA21⟩ : ∃ A1, A1 = (if co18 = ((ji12) : Int).toNat then (some ad237) else ((some ad237) : Option Addr).map (·.add (((ji12) : Int).toNat * 1))) := ⟨_, rfl⟩; obtain ⟨c21, hc21⟩ : ∃ c1, c1 = co18 - ((ji12) : Int).toNat := ⟨_, rfl⟩; have hy21 : y246.length = x5_1.length - ((ji12) : Int).toNat := (by rw [Ny246.out, List.length_drop] <;> omega); rw [show (x5_1).drop ((ji12) : Int).toNat = y246 from Ny246.out.symm] at hr21; replace hr21 : Kd.F (Kd.int .u8) _ _ A21 y246.length y246 := (by rw [hA21]; exact hr21); rw [← hy21, ← hA21, ← hc21] at hcut21; have HO250 := Aside0.mk (show Kd.V (Kd.int .u8) 5 _ w.heap.size _ (.slice A21 y246.length c21) y246 from Kd.V_mk (by rw [hy21, hc21]; exact Nat.sub_le_sub_right hroom21 _) hr21); have HC250 := Aside0.mk (show y246.length ≤ c21 from by rw [hy21, hc21]; exact Nat.sub_le_sub_right hroom21 _); clear hr21 hC21 hroom21 hi021 hsz21 hc21; have KY21 := Aside0.mk hy21; have KA21 := Aside0.mk hA21; clear hy21 hA21; replace q21 := eq_true q21) | ((with_reducible refine gate_builtin (b := .append) (xs := #[.tmp 40, .tmp 41]) rfl ?_); (try (refine gate_guard (by rfl) ?_; dsimp only)); at_builtin; refine Kd.R_append (Kd.int .u8) (w0 := w) w.heap.size rfl (.tmp 40) (.tmp 41) 39 5 (.int .u8 0) 1 rfl Try.underlying39 info5 rfl (by decide) (by omega) v244 y243 0 [.int .u8 0] (fun k_ => (w.heap.size ≤ k_)) (fun _ => False) rfl rfl ?aP (fun _ hk => hk.elim) ?aF ?aO ?aB ?aS ?aL ?_; (case aP => exact rfl); (case aB => exact (by repeat (first | (with_reducible first | exact HB.out | apply below_alloc | apply pw_below_drewN | apply below_drew1) | exact HB.out))); (case aF => exact (fun k_ hk => (Nat.le_trans (below_size (by repeat (first | (with_reducible first | exact HB.out | apply below_alloc | apply pw_below_drewN | apply below_drew1) | exact HB.out))) hk))); (case aO => exact (by (with_reducible repeat (first | apply Kd.R_alloc | apply Kd.R_drewN | apply Kd.R_drew)); exact HO245.out)); (case aS => exact (below_size (by repeat (first | (with_reducible first | exact HB.out | apply below_alloc | apply pw_below_drewN | apply below_drew1) | exact HB.out)))); (case aL => have := LMc17.out; omega); intro v252 w22 ho hb hg hat; rw [← Ny251.out] at ho; have n0_ := Aside0.mk (Kd.V_afterv (ok := (fun k_ => (P0_ k_ ∨ w.heap.size ≤ k_))) (by (with_reducible repeat (first | apply Kd.V_alloc | apply Kd.V_drewN | apply Kd.V_drew)); exact HO_0.out) hg hat); have n1_ := Aside0.mk (Kd.V_afterv (ok := (fun k_ => (P0_ k_ ∨ w.heap.size ≤ k_))) (by (with_reducible repeat (first | apply Kd.V_alloc | apply Kd.V_drewN | apply Kd.V_drew)); exact HO_5.out) hg hat); have n2_ := Aside0.mk (Kd.V_afterv (ok := (fun k_ => (P0_ k_ ∨ w.heap.size ≤ k_))) (by (with_reducible repeat (first | apply Kd.V_alloc | apply Kd.V_drewN | apply Kd.V_drew)); exact HO242.out) hg hat); have n3_ := Aside0.mk (Kd.V_afterv (ok := (fun k_ => (P0_ k_ ∨ w.heap.size ≤ k_))) (by (with_reducible repeat (first | apply Kd.V_alloc | apply Kd.V_drewN | apply Kd.V_drew)); exact HO250.out) hg hat); have n4_ := Aside0.mk (hb); have n5_ := Aside0.mk (ho); clear HO_0; clear HO_5; clear HO242; clear HO250; clear HB; clear HO245; have HO_0 := n0_; have HO_5 := n1_; have HO242 := n2_; have HO250 := n3_; have HB := n4_; have HO253 := n5_; clear n0_ n1_ n2_ n3_ n4_ n5_; clear ho hb hg hat))
                              go_roundg k1
                              case measure => have := HK1.out; omega
                              case rel => exact ⟨(y251), (y246), H', ⟨by have := HK1.out; omega⟩, ⟨by (with_reducible repeat (first | apply Kd.V_alloc | apply Kd.V_drewN | apply Kd.V_drew)); exact HO_0.out⟩, ⟨by (with_reducible repeat (first | apply Kd.R_alloc | apply Kd.R_drewN | apply Kd.R_drew)); exact HO253.out⟩, ⟨by (with_reducible repeat (first | apply Kd.V_alloc | apply Kd.V_drewN | apply Kd.V_drew)); exact HO250.out⟩, ⟨by repeat (first | (with_reducible first | exact HB.out | apply below_alloc | apply pw_below_drewN | apply below_drew1) | exact HB.out)⟩⟩
                            · rw [if_neg c17] at H
                              exact absurd H (by simp)
                          · rw [if_neg c16] at H
                            have c16b0 : decide (0 < (y246.length : Int)) = false := decide_eq_false c16
                            have c16b1 : decide (0 < y246.length) = false := decide_eq_false (by omega)
                            clear c16
                            have H' := Aside0.mk H
                            clear H
                            obtain ⟨Ao23, co23, eo23⟩ := Kd.V_slice HO_5.out
                            subst eo23
                            have p237 : 0 ≤ (0 : Int) := (by omega)
                            have q237 : 0 < (x5_1.length : Int) := of_decide_eq_true (by first | (with_reducible assumption) | assumption)
                            obtain ⟨ad237, e237, hx237_0⟩ := Kd.at_int (Kd.V_reads' HO_5.out).2.2 0 p237 q237
                            cases e237
                            have qi237 : (0 < x5_1.length) = True := eq_true (by omega)
                            (try rw [show ((0 : Int)).toNat = 0 from rfl] at hx237_0)
                            (try rw [Addr.add_zero'] at hx237_0)
                            replace p237 := eq_true p237
                            replace q237 := eq_true q237
                            have q24 : ((ji12) : Int) ≤ ((x5_1.length : Int) : Int) := of_decide_eq_true (by first | (with_reducible assumption) | assumption)
                            obtain ⟨i024, hi024, _, hsz24, _⟩ := info_parts info5
                            have hroom24 : x5_1.length ≤ co23 := (Kd.V_reads' HO_5.out).2.1
                            have hC24 : Kd.F (Kd.int .u8) _ _ (some ad237) x5_1.length x5_1 := (Kd.V_at (base := w.heap.size) HO_5.out).2.2
                            have ql24 : (1 : Int) ≤ ((ji12) : Int) := of_decide_eq_true (by first | (with_reducible assumption) | assumption)
                            have hcut24 := cut_mid (P := Try.prog) 39 5 .i64 .i64 Try.underlying39 hi024 1 hsz24 (some ad237) x5_1.length co23 1 (ji12) (by omega) ql24 q24 hroom24
                            have hr24 := Kd.F_mid (lo := (1 : Int).toNat) (hi := ((ji12) : Int).toNat) (c := co23) hC24 (by omega) (by omega) hroom24
                            obtain ⟨A24, hA24⟩ : ∃ A1, A1 = (if co23 = (1 : Int).toNat then (some ad237) else ((some ad237) : Option Addr).map (·.add ((1 : Int).toNat * 1))) := ⟨_, rfl⟩
                            obtain ⟨c24, hc24⟩ : ∃ c1, c1 = co23 - (1 : Int).toNat := ⟨_, rfl⟩
                            have hy24 : y238.length = ((ji12) : Int).toNat - (1 : Int).toNat := (by rw [Ny238.out, List.length_drop, List.length_take] <;> omega)
                            rw [show ((x5_1).take ((ji12) : Int).toNat).drop (1 : Int).toNat = y238 from Ny238.out.symm] at hr24
                            replace hr24 : Kd.F (Kd.int .u8) _ _ A24 y238.length y238 := (by rw [hA24]; exact hr24)
                            rw [← hy24, ← hA24, ← hc24] at hcut24
                            have HO242 := Aside0.mk (show Kd.V (Kd.int .u8) 5 _ w.heap.size _ (.slice A24 y238.length c24) y238 from Kd.V_mk (by rw [hy24, hc24]; exact Nat.sub_le_sub_right (Nat.le_trans (by omega) hroom24) _) hr24)
                            have HC242 := Aside0.mk (show y238.length ≤ c24 from by rw [hy24, hc24]; exact Nat.sub_le_sub_right (Nat.le_trans (by omega) hroom24) _)
                            clear hr24 hC24 hroom24 hi024 hsz24 hc24
                            have KY24 := Aside0.mk hy24
                            have KA24 := Aside0.mk hA24
                            clear hy24 hA24
                            replace q24 := eq_true q24
                            go_wp2_with (first | ((with_reducible refine gate_builtin (b := .append) (xs := #[.tmp 25, .tmp 28]) rfl ?_); (try (refine gate_guard (by rfl) ?_; dsimp only)); at_builtin; refine Kd.R_append_rows (Kd.int .u8) (w0 := w) w.heap.size rfl (.tmp 25) (.tmp 28) 39 5 (.int .u8 0) 1 rfl Try.underlying39 info5 rfl (by decide) (by omega) u4 x4_1 y238 _ _ _ (fun k_ => (w.heap.size ≤ k_)) (fun _ => False) rfl rfl ?aO ?aR (fun _ _ h => h) (fun _ h => h.elim) ?aF ?aB ?aS ?aL ?_; (case aR => repeat (first | exact (Kd.V_reads' HO242.out).2.2 | (with_reducible refine Kd.C_alloc ?_ _) | (with_reducible refine Kd.C_drewN ?_ _) | (with_reducible refine Kd.C_drew ?_))); (case aB => exact (by repeat (first | (with_reducible first | exact HB.out | apply below_alloc | apply pw_below_drewN | apply below_drew1) | exact HB.out))); (case aF => exact (fun k_ hk => (Nat.le_trans (below_size (by repeat (first | (with_reducible first | exact HB.out | apply below_alloc | apply pw_below_drewN | apply below_drew1) | exact HB.out))) hk))); (case aO => exact (by (with_reducible repeat (first | apply Kd.R_alloc | apply Kd.R_drewN | apply Kd.R_drew)); exact HO_4.out)); (case aS => exact (below_size (by repeat (first | (with_reducible first | exact HB.out | apply below_alloc | apply pw_below_drewN | apply below_drew1) | exact HB.out)))); (case aL => have := LMc11.out; omega); intro v244 w25 ho hb hg hat; rw [← Ny243.out] at ho; have n0_ := Aside0.mk (Kd.V_afterv (ok := (fun k_ => (P0_ k_ ∨ w.heap.size ≤ k_))) (by (with_reducible repeat (first | apply Kd.V_alloc | apply Kd.V_drewN | apply Kd.V_drew)); exact HO_0.out) hg hat); have n1_ := Aside0.mk (Kd.V_afterv (ok := (fun k_ => (P0_ k_ ∨ w.heap.size ≤ k_))) (by (with_reducible repeat (first | apply Kd.V_alloc | apply Kd.V_drewN | apply Kd.V_drew)); exact HO_5.out) hg hat); have n2_ := Aside0.mk (Kd.V_afterv (ok := (fun k_ => (P0_ k_ ∨ w.heap.size ≤ k_))) (by (with_reducible repeat (first | apply Kd.V_alloc | apply Kd.V_drewN | apply Kd.V_drew)); exact HO242.out) hg hat); have n3_ := Aside0.mk (hb); have n4_ := Aside0.mk (ho); clear HO_0; clear HO_5; clear HO242; clear HB; clear HO_4; have HO_0 := n0_; have HO_5 := n1_; have HO242 := n2_; have HB := n3_; have HO245 := n4_; clear n0_ n1_ n2_ n3_ n4_; clear ho hb hg hat; have q26 : ((ji12) : Int) ≤ ((x5_1.length : Int) : Int) := of_decide_eq_true (by first | (with_reducible assumption) | assumption); obtain ⟨i026, hi026, _, hsz26, _⟩ := info_parts info5; have hroom26 : x5_1.length ≤ co23 := (Kd.V_reads' HO_5.out).2.1; have hC26 : Kd.F (Kd.int .u8) _ _ (some ad237) x5_1.length x5_1 := (Kd.V_at (base := w.heap.size) HO_5.out).2.2; have q026 : (0 : Int) ≤ ((ji12) : Int) := of_decide_eq_true (by first | (with_reducible assumption) | assumption); have hcut26 := cut_from (P := Try.prog) 39 5 .i64 Try.underlying39 hi026 1 hsz26 (some ad237) x5_1.length co23 (ji12) q026 q26; have hr26 := Kd.F_cut (m := ((ji12) : Int).toNat) (c := co23) hC26 (by omega) hroom26; obtain ⟨A26, hA26⟩ : ∃ A1, A1 = (if co23 = ((ji12) : Int).toNat then (some ad237) else ((some ad237) : Option Addr).map (·.add (((ji12) : Int).toNat * 1))) := ⟨_, rfl⟩; obtain ⟨c26, hc26⟩ : ∃ c1, c1 = co23 - ((ji12) : Int).toNat := ⟨_, rfl⟩; have hy26 : y246.length = x5_1.length - ((ji12) : Int).toNat := (by rw [Ny246.out, List.length_drop] <;> omega); rw [show (x5_1).drop ((ji12) : Int).toNat = y246 from Ny246.out.symm] at hr26; replace hr26 : Kd.F (Kd.int .u8) _ _ A26 y246.length y246 := (by rw [hA26]; exact hr26); rw [← hy26, ← hA26, ← hc26] at hcut26; have HO250 := Aside0.mk (show Kd.V (Kd.int .u8) 5 _ w.heap.size _ (.slice A26 y246.length c26) y246 from Kd.V_mk (by rw [hy26, hc26]; exact Nat.sub_le_sub_right hroom26 _) hr26); have HC250 := Aside0.mk (show y246.length ≤ c26 from by rw [hy26, hc26]; exact Nat.sub_le_sub_right hroom26 _); clear hr26 hC26 hroom26 hi026 hsz26 hc26; have KY26 := Aside0.mk hy26; have KA26 := Aside0.mk hA26; clear hy26 hA26; replace q26 := eq_true q26))
                            go_roundg k1
                            case measure => have := HK1.out; omega
                            case rel => exact ⟨(y243), (y246), H', ⟨by have := HK1.out; omega⟩, ⟨by (with_reducible repeat (first | apply Kd.V_alloc | apply Kd.V_drewN | apply Kd.V_drew)); exact HO_0.out⟩, ⟨by (with_reducible repeat (first | apply Kd.R_alloc | apply Kd.R_drewN | apply Kd.R_drew)); exact HO245.out⟩, ⟨by (with_reducible repeat (first | apply Kd.V_alloc | apply Kd.V_drewN | apply Kd.V_drew)); exact HO250.out⟩, ⟨by repeat (first | (with_reducible first | exact HB.out | apply below_alloc | apply pw_below_drewN | apply below_drew1) | exact HB.out)⟩⟩
                        · rw [if_neg c15] at H
                          have c15b0 : decide ((ji12) ≤ 254) = false := decide_eq_false c15
                          clear c15
                          have H' := Aside0.mk H
                          clear H
                          obtain ⟨Ao27, co27, eo27⟩ := Kd.V_slice HO_5.out
                          subst eo27
                          have p237 : 0 ≤ (0 : Int) := (by omega)
                          have q237 : 0 < (x5_1.length : Int) := of_decide_eq_true (by first | (with_reducible assumption) | assumption)
                          obtain ⟨ad237, e237, hx237_0⟩ := Kd.at_int (Kd.V_reads' HO_5.out).2.2 0 p237 q237
                          cases e237
                          have qi237 : (0 < x5_1.length) = True := eq_true (by omega)
                          (try rw [show ((0 : Int)).toNat = 0 from rfl] at hx237_0)
                          (try rw [Addr.add_zero'] at hx237_0)
                          replace p237 := eq_true p237
                          replace q237 := eq_true q237
                          have q28 : ((ji12) : Int) ≤ ((x5_1.length : Int) : Int) := of_decide_eq_true (by first | (with_reducible assumption) | assumption)
                          obtain ⟨i028, hi028, _, hsz28, _⟩ := info_parts info5
                          have hroom28 : x5_1.length ≤ co27 := (Kd.V_reads' HO_5.out).2.1
                          have hC28 : Kd.F (Kd.int .u8) _ _ (some ad237) x5_1.length x5_1 := (Kd.V_at (base := w.heap.size) HO_5.out).2.2
                          have ql28 : (1 : Int) ≤ ((ji12) : Int) := of_decide_eq_true (by first | (with_reducible assumption) | assumption)
                          have hcut28 := cut_mid (P := Try.prog) 39 5 .i64 .i64 Try.underlying39 hi028 1 hsz28 (some ad237) x5_1.length co27 1 (ji12) (by omega) ql28 q28 hroom28
                          have hr28 := Kd.F_mid (lo := (1 : Int).toNat) (hi := ((ji12) : Int).toNat) (c := co27) hC28 (by omega) (by omega) hroom28
                          obtain ⟨A28, hA28⟩ : ∃ A1, A1 = (if co27 = (1 : Int).toNat then (some ad237) else ((some ad237) : Option Addr).map (·.add ((1 : Int).toNat * 1))) := ⟨_, rfl⟩
                          obtain ⟨c28, hc28⟩ : ∃ c1, c1 = co27 - (1 : Int).toNat := ⟨_, rfl⟩
                          have hy28 : y238.length = ((ji12) : Int).toNat - (1 : Int).toNat := (by rw [Ny238.out, List.length_drop, List.length_take] <;> omega)
                          rw [show ((x5_1).take ((ji12) : Int).toNat).drop (1 : Int).toNat = y238 from Ny238.out.symm] at hr28
                          replace hr28 : Kd.F (Kd.int .u8) _ _ A28 y238.length y238 := (by rw [hA28]; exact hr28)
                          rw [← hy28, ← hA28, ← hc28] at hcut28
                          have HO242 := Aside0.mk (show Kd.V (Kd.int .u8) 5 _ w.heap.size _ (.slice A28 y238.length c28) y238 from Kd.V_mk (by rw [hy28, hc28]; exact Nat.sub_le_sub_right (Nat.le_trans (by omega) hroom28) _) hr28)
                          have HC242 := Aside0.mk (show y238.length ≤ c28 from by rw [hy28, hc28]; exact Nat.sub_le_sub_right (Nat.le_trans (by omega) hroom28) _)
                          clear hr28 hC28 hroom28 hi028 hsz28 hc28
                          have KY28 := Aside0.mk hy28
                          have KA28 := Aside0.mk hA28
                          clear hy28 hA28
                          replace q28 := eq_true q28
                          go_wp2_with (first | ((with_reducible refine gate_builtin (b := .append) (xs := #[.tmp 25, .tmp 28]) rfl ?_); (try (refine gate_guard (by rfl) ?_; dsimp only)); at_builtin; refine Kd.R_append_rows (Kd.int .u8) (w0 := w) w.heap.size rfl (.tmp 25) (.tmp 28) 39 5 (.int .u8 0) 1 rfl Try.underlying39 info5 rfl (by decide) (by omega) u4 x4_1 y238 _ _ _ (fun k_ => (w.heap.size ≤ k_)) (fun _ => False) rfl rfl ?aO ?aR (fun _ _ h => h) (fun _ h => h.elim) ?aF ?aB ?aS ?aL ?_; (case aR => repeat (first | exact (Kd.V_reads' HO242.out).2.2 | (with_reducible refine Kd.C_alloc ?_ _) | (with_reducible refine Kd.C_drewN ?_ _) | (with_reducible refine Kd.C_drew ?_))); (case aB => exact (by repeat (first | (with_reducible first | exact HB.out | apply below_alloc | apply pw_below_drewN | apply below_drew1) | exact HB.out))); (case aF => exact (fun k_ hk => (Nat.le_trans (below_size (by repeat (first | (with_reducible first | exact HB.out | apply below_alloc | apply pw_below_drewN | apply below_drew1) | exact HB.out))) hk))); (case aO => exact (by (with_reducible repeat (first | apply Kd.R_alloc | apply Kd.R_drewN | apply Kd.R_drew)); exact HO_4.out)); (case aS => exact (below_size (by repeat (first | (with_reducible first | exact HB.out | apply below_alloc | apply pw_below_drewN | apply below_drew1) | exact HB.out)))); (case aL => have := LMc11.out; omega); intro v244 w29 ho hb hg hat; rw [← Ny243.out] at ho; have n0_ := Aside0.mk (Kd.V_afterv (ok := (fun k_ => (P0_ k_ ∨ w.heap.size ≤ k_))) (by (with_reducible repeat (first | apply Kd.V_alloc | apply Kd.V_drewN | apply Kd.V_drew)); exact HO_0.out) hg hat); have n1_ := Aside0.mk (Kd.V_afterv (ok := (fun k_ => (P0_ k_ ∨ w.heap.size ≤ k_))) (by (with_reducible repeat (first | apply Kd.V_alloc | apply Kd.V_drewN | apply Kd.V_drew)); exact HO_5.out) hg hat); have n2_ := Aside0.mk (Kd.V_afterv (ok := (fun k_ => (P0_ k_ ∨ w.heap.size ≤ k_))) (by (with_reducible repeat (first | apply Kd.V_alloc | apply Kd.V_drewN | apply Kd.V_drew)); exact HO242.out) hg hat); have n3_ := Aside0.mk (hb); have n4_ := Aside0.mk (ho); clear HO_0; clear HO_5; clear HO242; clear HB; clear HO_4; have HO_0 := n0_; have HO_5 := n1_; have HO242 := n2_; have HB := n3_; have HO245 := n4_; clear n0_ n1_ n2_ n3_ n4_; clear ho hb hg hat; have q30 : ((ji12) : Int) ≤ ((x5_1.length : Int) : Int) := of_decide_eq_true (by first | (with_reducible assumption) | assumption); obtain ⟨i030, hi030, _, hsz30, _⟩ := info_parts info5; have hroom30 : x5_1.length ≤ co27 := (Kd.V_reads' HO_5.out).2.1; have hC30 : Kd.F (Kd.int .u8) _ _ (some ad237) x5_1.length x5_1 := (Kd.V_at (base := w.heap.size) HO_5.out).2.2; have q030 : (0 : Int) ≤ ((ji12) : Int) := of_decide_eq_true (by first | (with_reducible assumption) | assumption); have hcut30 := cut_from (P := Try.prog) 39 5 .i64 Try.underlying39 hi030 1 hsz30 (some ad237) x5_1.length co27 (ji12) q030 q30; have hr30 := Kd.F_cut (m := ((ji12) : Int).toNat) (c := co27) hC30 (by omega) hroom30; obtain ⟨A30, hA30⟩ : ∃ A1, A1 = (if co27 = ((ji12) : Int).toNat then (some ad237) else ((some ad237) : Option Addr).map (·.add (((ji12) : Int).toNat * 1))) := ⟨_, rfl⟩; obtain ⟨c30, hc30⟩ : ∃ c1, c1 = co27 - ((ji12) : Int).toNat := ⟨_, rfl⟩; have hy30 : y246.length = x5_1.length - ((ji12) : Int).toNat := (by rw [Ny246.out, List.length_drop] <;> omega); rw [show (x5_1).drop ((ji12) : Int).toNat = y246 from Ny246.out.symm] at hr30; replace hr30 : Kd.F (Kd.int .u8) _ _ A30 y246.length y246 := (by rw [hA30]; exact hr30); rw [← hy30, ← hA30, ← hc30] at hcut30; have HO250 := Aside0.mk (show Kd.V (Kd.int .u8) 5 _ w.heap.size _ (.slice A30 y246.length c30) y246 from Kd.V_mk (by rw [hy30, hc30]; exact Nat.sub_le_sub_right hroom30 _) hr30); have HC250 := Aside0.mk (show y246.length ≤ c30 from by rw [hy30, hc30]; exact Nat.sub_le_sub_right hroom30 _); clear hr30 hC30 hroom30 hi030 hsz30 hc30; have KY30 := Aside0.mk hy30; have KA30 := Aside0.mk hA30; clear hy30 hA30; replace q30 := eq_true q30))
                          go_roundg k1
                          case measure => have := HK1.out; omega
                          case rel => exact ⟨(y243), (y246), H', ⟨by have := HK1.out; omega⟩, ⟨by (with_reducible repeat (first | apply Kd.V_alloc | apply Kd.V_drewN | apply Kd.V_drew)); exact HO_0.out⟩, ⟨by (with_reducible repeat (first | apply Kd.R_alloc | apply Kd.R_drewN | apply Kd.R_drew)); exact HO245.out⟩, ⟨by (with_reducible repeat (first | apply Kd.V_alloc | apply Kd.V_drewN | apply Kd.V_drew)); exact HO250.out⟩, ⟨by repeat (first | (with_reducible first | exact HB.out | apply below_alloc | apply pw_below_drewN | apply below_drew1) | exact HB.out)⟩⟩
                      · rw [if_neg c13] at H
                        exact absurd H (by simp)
                    · rw [if_neg c11] at H
                      exact absurd H (by simp)
                  · rw [if_neg c10] at H
                    exact absurd H (by simp)
                · rw [if_neg c9] at H
                  exact absurd H (by simp)
            · rw [if_neg c6] at H
              exact absurd H (by simp)
          · rw [if_neg c5] at H
            have c5b0 : decide (0 < (x5_1.length : Int)) = false := decide_eq_false c5
            have c5b1 : decide (0 < x5_1.length) = false := decide_eq_false (by omega)
            clear c5
            replace H := Option.bind_eq_some_iff.mp H
            obtain ⟨t254, A310, H⟩ := H
            replace H : ((bytes_Equal.f t254 l0).bind fun t257 => (if t257 = true then (some (x4_1, 0)) else (some (([] : List Int), 4)))) = some (r1, r2) := H
            have A31 := Aside0.mk A310
            clear A310
            replace H := Option.bind_eq_some_iff.mp H
            obtain ⟨t257, A320, H⟩ := H
            replace H : (if t257 = true then (some (x4_1, 0)) else (some (([] : List Int), 4))) = some (r1, r2) := H
            have A32 := Aside0.mk A320
            clear A320
            by_cases c33 : t257 = true
            · subst c33
              have H1 : (some (x4_1, 0)) = some (r1, r2) := by rw [if_pos rfl] at H; exact H
              clear H
              have H := H1
              clear H1
              simp only [Option.some.injEq, Prod.mk.injEq] at H
              obtain ⟨rfl, rfl⟩ := H
              obtain ⟨Ao34, co34, eo34⟩ := Kd.V_slice HO_5.out
              subst eo34
              obtain ⟨Ao35, co35, eo35⟩ := Kd.R_slice HO_4.out
              subst eo35
              go_wp2_with (first | ((with_reducible refine gate_callee (f := 60) rfl ?_); refine goesL_ (some 44) rfl rfl Try.func60 (by kernel_rfl) rfl #[.slice Ao35 x4_1.length co35] rfl (by (try simp only [List.map_toArray, List.map_cons, List.map_nil]); first | done | rfl | (simp only [List.length_drop, List.length_take]; rfl) | (refine congrArg (fun z => #[Value.int .u64 z]) ?_; rw [IntKind.wrap_u64]; omega)) ?_; (with_reducible refine (cobs_Stuff.calls k1 (fun k_ => some k_ = (.slice Ao35 x4_1.length co35 : Value).ownBlock) _ _ x4_1 t254 _ ?side1 A31.out).mono ?_); (case side1 => exact Kd.R_V (Kd.R_tight rfl (HO_4.out))); rintro e w36 ⟨v255, rfl, ho0, hb⟩; refine ⟨_, rfl, ?_⟩; have n0_ := Aside0.mk (Kd.V_elder' (by (with_reducible repeat (first | apply Kd.V_alloc | apply Kd.V_drewN | apply Kd.V_drew)); exact HO_0.out) (Kd.R_base ho0) hb); have n1_ := Aside0.mk (Kd.R_elder' (by (with_reducible repeat (first | apply Kd.R_alloc | apply Kd.R_drewN | apply Kd.R_drew)); exact HO_4.out) (Kd.R_base ho0) hb); have n2_ := Aside0.mk (Kd.V_elder' (by (with_reducible repeat (first | apply Kd.V_alloc | apply Kd.V_drewN | apply Kd.V_drew)); exact HO_5.out) (Kd.R_base ho0) hb); have n3_ := Aside0.mk (Kd.R_lower (Kd.R_new' (Kd.R_newM (M := fun k_ => (w.heap.size ≤ k_)) (Kd.R_mono (ok' := fun k_ => True) ho0 (fun _ hk_ => trivial)) (below_size (by repeat (first | (with_reducible first | exact HB.out | apply below_alloc | apply pw_below_drewN | apply below_drew1) | exact HB.out))) (fun k_ h_ => h_)) (Kd.R_lt (by (with_reducible repeat (first | apply Kd.R_alloc | apply Kd.R_drewN | apply Kd.R_drew)); exact HO_4.out))) (below_size (by repeat (first | (with_reducible first | exact HB.out | apply below_alloc | apply pw_below_drewN | apply below_drew1) | exact HB.out)))); have n4_ := Aside0.mk (below_step (by repeat (first | (with_reducible first | exact HB.out | apply below_alloc | apply pw_below_drewN | apply below_drew1) | exact HB.out)) hb); clear HO_0; clear HO_4; clear HO_5; clear HB; have HO_0 := n0_; have HO_4 := n1_; have HO_5 := n2_; have HO256 := n3_; have HB := n4_; clear n0_ n1_ n2_ n3_ n4_; (try clear hb); (try clear hb2); (try clear hk); (try clear hi); (try clear ho0); obtain ⟨Ao37, co37, eo37⟩ := Kd.R_slice HO256.out; subst eo37) | ((with_reducible refine gate_callee (f := 110) rfl ?_); refine goesL_ (some 46) rfl rfl Try.func110 (by kernel_rfl) rfl #[.slice Ao37 t254.length co37, .slice A0 l0.length c0] rfl (by (try simp only [List.map_toArray, List.map_cons, List.map_nil]); first | done | rfl | (simp only [List.length_drop, List.length_take]; rfl) | (refine congrArg (fun z => #[Value.int .u64 z]) ?_; rw [IntKind.wrap_u64]; omega)) ?_; (with_reducible refine (bytes_Equal.calls _ _ t254 _ _ l0 true _ ?side1 ?side2 ?side3 ?side4 A32.out).mono ?_); (case side1 => repeat (first | exact (Kd.R_reads' HO256.out).2.2 | (with_reducible refine Kd.C_alloc ?_ _) | (with_reducible refine Kd.C_drewN ?_ _) | (with_reducible refine Kd.C_drew ?_))); (case side2 => exact (Kd.R_reads' HO256.out).2.1); (case side3 => repeat (first | exact (Kd.V_reads' HO_0.out).2.2 | (with_reducible refine Kd.C_alloc ?_ _) | (with_reducible refine Kd.C_drewN ?_ _) | (with_reducible refine Kd.C_drew ?_))); (case side4 => exact (Kd.V_reads' HO_0.out).2.1); rintro e w' ⟨rfl, ⟨nd, rfl⟩⟩; refine ⟨_, rfl, ?_⟩))
              go_ret2
              exact ⟨_, by first | rfl | (simp [errW_none, errW_some] <;> rfl) | (simp [*, errW_none, errW_some] <;> rfl), by (with_reducible repeat (first | apply Kd.R_alloc | apply Kd.R_drewN | apply Kd.R_drew)); exact Kd.R_mono HO_4.out (fun _ hk => hk.1), by repeat (first | (with_reducible first | exact HB.out | apply below_alloc | apply pw_below_drewN | apply below_drew1) | exact HB.out)⟩
            · replace c33 := Bool.eq_false_iff.mpr c33
              subst c33
              have H1 : (some (([] : List Int), 4)) = some (r1, r2) := by rw [if_neg (show ¬ (false = true) by decide)] at H; exact H
              clear H
              have H := H1
              clear H1
              simp only [Option.some.injEq, Prod.mk.injEq] at H
              obtain ⟨rfl, rfl⟩ := H
              obtain ⟨Ao38, co38, eo38⟩ := Kd.V_slice HO_5.out
              subst eo38
              obtain ⟨Ao39, co39, eo39⟩ := Kd.R_slice HO_4.out
              subst eo39
              go_wp2_with (first | ((with_reducible refine gate_callee (f := 60) rfl ?_); refine goesL_ (some 44) rfl rfl Try.func60 (by kernel_rfl) rfl #[.slice Ao39 x4_1.length co39] rfl (by (try simp only [List.map_toArray, List.map_cons, List.map_nil]); first | done | rfl | (simp only [List.length_drop, List.length_take]; rfl) | (refine congrArg (fun z => #[Value.int .u64 z]) ?_; rw [IntKind.wrap_u64]; omega)) ?_; (with_reducible refine (cobs_Stuff.calls k1 (fun k_ => some k_ = (.slice Ao39 x4_1.length co39 : Value).ownBlock) _ _ x4_1 t254 _ ?side1 A31.out).mono ?_); (case side1 => exact Kd.R_V (Kd.R_tight rfl (HO_4.out))); rintro e w40 ⟨v255, rfl, ho0, hb⟩; refine ⟨_, rfl, ?_⟩; have n0_ := Aside0.mk (Kd.V_elder' (by (with_reducible repeat (first | apply Kd.V_alloc | apply Kd.V_drewN | apply Kd.V_drew)); exact HO_0.out) (Kd.R_base ho0) hb); have n1_ := Aside0.mk (Kd.R_elder' (by (with_reducible repeat (first | apply Kd.R_alloc | apply Kd.R_drewN | apply Kd.R_drew)); exact HO_4.out) (Kd.R_base ho0) hb); have n2_ := Aside0.mk (Kd.V_elder' (by (with_reducible repeat (first | apply Kd.V_alloc | apply Kd.V_drewN | apply Kd.V_drew)); exact HO_5.out) (Kd.R_base ho0) hb); have n3_ := Aside0.mk (Kd.R_lower (Kd.R_new' (Kd.R_newM (M := fun k_ => (w.heap.size ≤ k_)) (Kd.R_mono (ok' := fun k_ => True) ho0 (fun _ hk_ => trivial)) (below_size (by repeat (first | (with_reducible first | exact HB.out | apply below_alloc | apply pw_below_drewN | apply below_drew1) | exact HB.out))) (fun k_ h_ => h_)) (Kd.R_lt (by (with_reducible repeat (first | apply Kd.R_alloc | apply Kd.R_drewN | apply Kd.R_drew)); exact HO_4.out))) (below_size (by repeat (first | (with_reducible first | exact HB.out | apply below_alloc | apply pw_below_drewN | apply below_drew1) | exact HB.out)))); have n4_ := Aside0.mk (below_step (by repeat (first | (with_reducible first | exact HB.out | apply below_alloc | apply pw_below_drewN | apply below_drew1) | exact HB.out)) hb); clear HO_0; clear HO_4; clear HO_5; clear HB; have HO_0 := n0_; have HO_4 := n1_; have HO_5 := n2_; have HO256 := n3_; have HB := n4_; clear n0_ n1_ n2_ n3_ n4_; (try clear hb); (try clear hb2); (try clear hk); (try clear hi); (try clear ho0); obtain ⟨Ao41, co41, eo41⟩ := Kd.R_slice HO256.out; subst eo41) | ((with_reducible refine gate_callee (f := 110) rfl ?_); refine goesL_ (some 46) rfl rfl Try.func110 (by kernel_rfl) rfl #[.slice Ao41 t254.length co41, .slice A0 l0.length c0] rfl (by (try simp only [List.map_toArray, List.map_cons, List.map_nil]); first | done | rfl | (simp only [List.length_drop, List.length_take]; rfl) | (refine congrArg (fun z => #[Value.int .u64 z]) ?_; rw [IntKind.wrap_u64]; omega)) ?_; (with_reducible refine (bytes_Equal.calls _ _ t254 _ _ l0 false _ ?side1 ?side2 ?side3 ?side4 A32.out).mono ?_); (case side1 => repeat (first | exact (Kd.R_reads' HO256.out).2.2 | (with_reducible refine Kd.C_alloc ?_ _) | (with_reducible refine Kd.C_drewN ?_ _) | (with_reducible refine Kd.C_drew ?_))); (case side2 => exact (Kd.R_reads' HO256.out).2.1); (case side3 => repeat (first | exact (Kd.V_reads' HO_0.out).2.2 | (with_reducible refine Kd.C_alloc ?_ _) | (with_reducible refine Kd.C_drewN ?_ _) | (with_reducible refine Kd.C_drew ?_))); (case side4 => exact (Kd.V_reads' HO_0.out).2.1); rintro e w' ⟨rfl, ⟨nd, rfl⟩⟩; refine ⟨_, rfl, ?_⟩))
              go_ret2
              exact ⟨_, by first | rfl | (simp [errW_none, errW_some] <;> rfl) | (simp [*, errW_none, errW_some] <;> rfl), by first | exact Kd.R_nil _ _ _ _ _ | exact Kd.N_nil _ _ _ _ _ | exact Kd.V_nil _ _ _ _ _ | exact Kd.Q_nil _ _ _ _ _ | exact Kd.S_nil _ _ _ _ _, by repeat (first | (with_reducible first | exact HB.out | apply below_alloc | apply pw_below_drewN | apply below_drew1) | exact HB.out)⟩
end Go.Proofs.Ytekanmieppnpeaa.G
end
section
namespace Go.Proofs.Ytekanmieppnpeaa.G
open Go.RowKit Go.Proofs.YtekanmieppnpeaaW.PrintWords Go.Proofs.YtekanmieppnpeaaW.PrintLast Go.Proofs.YtekanmieppnpeaaW.PrintMore
attribute [local go_sem] max2_int min2_int max_two min_two max_three min_three max_four min_four   -- for this text's walks alone
set_option linter.unusedVariables false
set_option linter.unusedSimpArgs false
mutual
def fascicleref05_Unstuff.l0 : Nat → ByteArray → Int → Option (ByteArray × Int)
  | 0, _, _ => none
  | k + 1, x0, x4 => if x4 < (x0.size : Int) then (if 0 ≤ x4 then (if (bt x0 x4) = 0 then (some ((⟨#[]⟩ : ByteArray), 4)) else (fascicleref05_Unstuff.l0 k x0 (wrap64 (x4 + 1)))) else (none)) else (if x0.toList = ([] : List UInt8) then (some ((⟨#[]⟩ : ByteArray), 2)) else (fascicleref05_Unstuff.l1 k x0 (⟨#[]⟩ : ByteArray) x0))
def fascicleref05_Unstuff.l1 : Nat → ByteArray → ByteArray → ByteArray → Option (ByteArray × Int)
  | 0, _, _, _ => none
  | k + 1, x0, x5, x6 => if x6.toList = ([] : List UInt8) then ((fascicleref05_Stuff.f k x5).bind fun t167 => (if t167.toList = x0.toList then (some (x5, 0)) else (some ((⟨#[]⟩ : ByteArray), 4)))) else (if 0 < (x6.size : Int) then (if (wrap64 (bt x6 0)) > (x6.size : Int) then (some ((⟨#[]⟩ : ByteArray), 2)) else (if 1 ≤ (wrap64 (bt x6 0)) then (if (wrap64 (bt x6 0)) ≤ (x6.size : Int) then (if x5.size + (x6.extract 1 ((wrap64 (bt x6 0)) : Int).toNat).size ≤ 9223372036854775807 then (if 0 ≤ (wrap64 (bt x6 0)) then (if (wrap64 (bt x6 0)) < 255 then (if (x6.extract ((wrap64 (bt x6 0)) : Int).toNat x6.size).toList = ([] : List UInt8) then (fascicleref05_Unstuff.l1 k x0 (x5 ++ (x6.extract 1 ((wrap64 (bt x6 0)) : Int).toNat)) (x6.extract ((wrap64 (bt x6 0)) : Int).toNat x6.size)) else (if (x5 ++ (x6.extract 1 ((wrap64 (bt x6 0)) : Int).toNat)).size + 1 ≤ 9223372036854775807 then (fascicleref05_Unstuff.l1 k x0 ((x5 ++ (x6.extract 1 ((wrap64 (bt x6 0)) : Int).toNat)) ++ (⟨#[0]⟩ : ByteArray)) (x6.extract ((wrap64 (bt x6 0)) : Int).toNat x6.size)) else (none))) else (fascicleref05_Unstuff.l1 k x0 (x5 ++ (x6.extract 1 ((wrap64 (bt x6 0)) : Int).toNat)) (x6.extract ((wrap64 (bt x6 0)) : Int).toNat x6.size))) else (none)) else (none)) else (none)) else (none))) else (none))
end
def fascicleref05_Unstuff.f (k : Nat) (a0 : ByteArray) : Option (ByteArray × Int) := fascicleref05_Unstuff.l0 k a0 0
theorem fascicleref05_Unstuff.mono_l : ∀ k, (∀ y0 y1, LeO (fascicleref05_Unstuff.l0 k y0 y1) (fascicleref05_Unstuff.l0 (k + 1) y0 y1)) ∧ (∀ y0 y1 y2, LeO (fascicleref05_Unstuff.l1 k y0 y1 y2) (fascicleref05_Unstuff.l1 (k + 1) y0 y1 y2))
  | 0 => ⟨fun _ _ r h => by simp [fascicleref05_Unstuff.l0] at h, fun _ _ _ r h => by simp [fascicleref05_Unstuff.l1] at h⟩
  | k + 1 => by
    obtain ⟨ih0, ih1⟩ := fascicleref05_Unstuff.mono_l k
    refine ⟨?_, ?_⟩
    · intro y0 y1
      unfold fascicleref05_Unstuff.l0
      repeat' first
      | (with_reducible exact ih0 _ _)
      | (with_reducible exact ih1 _ _ _)
      | (with_reducible exact fascicleref05_Stuff.mono _ _)
      | (with_reducible exact LeO.refl _)
      | (with_reducible exact LeO.none _)
      | (with_reducible refine LeO.ite ?_ ?_)
      | (with_reducible refine LeO.bind ?_ (fun _ => ?_))
      | exact ih0 _ _
      | exact ih1 _ _ _
      | exact fascicleref05_Stuff.mono _ _
      | exact LeO.none _
      | refine LeO.ite ?_ ?_
      | refine LeO.bind ?_ (fun _ => ?_)
    · intro y0 y1 y2
      unfold fascicleref05_Unstuff.l1
      repeat' first
      | (with_reducible exact ih0 _ _)
      | (with_reducible exact ih1 _ _ _)
      | (with_reducible exact fascicleref05_Stuff.mono _ _)
      | (with_reducible exact LeO.refl _)
      | (with_reducible exact LeO.none _)
      | (with_reducible refine LeO.ite ?_ ?_)
      | (with_reducible refine LeO.bind ?_ (fun _ => ?_))
      | exact ih0 _ _
      | exact ih1 _ _ _
      | exact fascicleref05_Stuff.mono _ _
      | exact LeO.none _
      | refine LeO.ite ?_ ?_
      | refine LeO.bind ?_ (fun _ => ?_)
theorem fascicleref05_Unstuff.mono : ∀ a0 k, LeO (fascicleref05_Unstuff.f k a0) (fascicleref05_Unstuff.f (k + 1) a0) := by
  intro a0 k
  obtain ⟨ih0, ih1⟩ := fascicleref05_Unstuff.mono_l k
  unfold fascicleref05_Unstuff.f
  repeat' first
      | (with_reducible exact ih0 _ _)
      | (with_reducible exact ih1 _ _ _)
      | (with_reducible exact fascicleref05_Stuff.mono _ _)
      | (with_reducible exact LeO.refl _)
      | (with_reducible exact LeO.none _)
      | (with_reducible refine LeO.ite ?_ ?_)
      | (with_reducible refine LeO.bind ?_ (fun _ => ?_))
      | exact ih0 _ _
      | exact ih1 _ _ _
      | exact fascicleref05_Stuff.mono _ _
      | exact LeO.none _
      | refine LeO.ite ?_ ?_
      | refine LeO.bind ?_ (fun _ => ?_)
set_option maxHeartbeats 8000000 in
set_option maxRecDepth 100000 in
theorem fascicleref05_Unstuff.calls (k : Nat) (a0 : ByteArray) (r1 : ByteArray) (r2 : Int) (w : World) (h : fascicleref05_Unstuff.f k a0 = some (r1, r2)) :
    Calls Try.prog 55 #[.string a0] w fun e w' => e = .returned (.tuple #[.string r1, .int .i64 r2]) ∧ Below w.heap.size w w' := by
  have HB := Aside0.mk (Below.refl w.heap.size w)
  have H : (fascicleref05_Unstuff.l0 k a0 0) = some (r1, r2) := h
  clear h
  have H' := Aside0.mk H
  clear H
  go_enter Try.func55, Try.ntmps55
  go_wp2
  go_loopg [4] k (fun kq v4 w' => ∃ (x4_1 : Int), v4 = .int .i64 x4_1 ∧ Aside0 (fascicleref05_Unstuff.l0 kq a0 x4_1 = some (r1, r2)) ∧ Aside0 (kq ≤ k) ∧ Aside0 (Below w.heap.size w w'))
  case atStart => exact ⟨(0), (by first | rfl | (simp; done) | (simp [*]; done) | (simp; exact (fun l : List UInt8 => (by cases l <;> rfl : l.isEmpty = !(l != ([] : List UInt8)))) _)), H', ⟨Nat.le_refl _⟩, ⟨by repeat (first | (with_reducible first | exact HB.out | apply below_alloc | apply pw_below_drewN | apply below_drew1) | exact HB.out)⟩⟩
  case round =>
    clear H'
    obtain ⟨x4_1, rfl, HA, HK1, HB⟩ := hrel
    cases gk with
    | zero => exact absurd HA.out (by simp [fascicleref05_Unstuff.l0])
    | succ k1 =>
      have H := HA.out
      clear HA
      simp only [fascicleref05_Unstuff.l0] at H
      by_cases c2 : x4_1 < (a0.size : Int)
      · rw [if_pos c2] at H
        have c2b0 : decide (x4_1 < (a0.size : Int)) = true := decide_eq_true c2
        clear c2
        by_cases c3 : 0 ≤ x4_1
        · rw [if_pos c3] at H
          have c3b0 : decide (0 ≤ x4_1) = true := decide_eq_true c3
          clear c3
          by_cases c5 : (bt a0 x4_1) = 0
          · rw [if_pos c5] at H
            have c5b0 : ((bt a0 x4_1) == 0) = true := beq_iff_eq.mpr c5
            have c5b1 : ((bt a0 x4_1) != 0) = false := bne_eq_false_iff_eq.mpr c5
            clear c5
            simp only [Option.some.injEq, Prod.mk.injEq] at H
            obtain ⟨rfl, rfl⟩ := H
            have p4 : 0 ≤ (x4_1 : Int) := of_decide_eq_true (by first | (with_reducible assumption) | assumption)
            have q4 : x4_1 < (a0.size : Int) := of_decide_eq_true (by first | (with_reducible assumption) | assumption)
            have hx4 := bt_at a0 x4_1
            replace p4 := eq_true p4
            replace q4 := eq_true q4
            go_wp2
            go_ret2
            exact ⟨by first | rfl | (simp [errW_none, errW_some] <;> rfl) | (simp [*, errW_none, errW_some] <;> rfl), by repeat (first | (with_reducible first | exact HB.out | apply below_alloc | apply pw_below_drewN | apply below_drew1) | exact HB.out)⟩
          · rw [if_neg c5] at H
            have c5b0 : ((bt a0 x4_1) == 0) = false := beq_eq_false_iff_ne.mpr c5
            have c5b1 : ((bt a0 x4_1) != 0) = true := bne_iff_ne.mpr c5
            have H' := Aside0.mk H
            clear H
            have p4 : 0 ≤ (x4_1 : Int) := of_decide_eq_true (by first | (with_reducible assumption) | assumption)
            have q4 : x4_1 < (a0.size : Int) := of_decide_eq_true (by first | (with_reducible assumption) | assumption)
            have hx4 := bt_at a0 x4_1
            replace p4 := eq_true p4
            replace q4 := eq_true q4
            go_wp2
            go_roundg k1
            case measure => have := HK1.out; omega
            case rel => exact ⟨(wrap64 (x4_1 + 1)), (by first | rfl | (simp; done) | (simp [*]; done) | (simp; exact (fun l : List UInt8 => (by cases l <;> rfl : l.isEmpty = !(l != ([] : List UInt8)))) _)), H', ⟨by have := HK1.out; omega⟩, ⟨by repeat (first | (with_reducible first | exact HB.out | apply below_alloc | apply pw_below_drewN | apply below_drew1) | exact HB.out)⟩⟩
        · rw [if_neg c3] at H
          exact absurd H (by simp)
      · rw [if_neg c2] at H
        have c2b0 : decide (x4_1 < (a0.size : Int)) = false := decide_eq_false c2
        clear c2
        by_cases c6 : a0.toList = ([] : List UInt8)
        · rw [if_pos c6] at H
          have c6b0 : (a0.toList == ([] : List UInt8)) = true := beq_iff_eq.mpr c6
          have c6b1 : (a0.toList != ([] : List UInt8)) = false := bne_eq_false_iff_eq.mpr c6
          clear c6
          simp only [Option.some.injEq, Prod.mk.injEq] at H
          obtain ⟨rfl, rfl⟩ := H
          go_wp2
          go_ret2
          exact ⟨by first | rfl | (simp [errW_none, errW_some] <;> rfl) | (simp [*, errW_none, errW_some] <;> rfl), by repeat (first | (with_reducible first | exact HB.out | apply below_alloc | apply pw_below_drewN | apply below_drew1) | exact HB.out)⟩
        · rw [if_neg c6] at H
          have c6b0 : (a0.toList == ([] : List UInt8)) = false := beq_eq_false_iff_ne.mpr c6
          have c6b1 : (a0.toList != ([] : List UInt8)) = true := bne_iff_ne.mpr c6
          have H' := Aside0.mk H
          clear H
          go_wp2
          go_loopg [5, 6] k1 (fun kq v5 v6 w' => ∃ (x5_2 : ByteArray) (x6_2 : ByteArray), v5 = .string x5_2 ∧ v6 = .string x6_2 ∧ Aside0 (fascicleref05_Unstuff.l1 kq a0 x5_2 x6_2 = some (r1, r2)) ∧ Aside0 (kq ≤ k1) ∧ Aside0 (Below w.heap.size w w'))
          case atStart => exact ⟨((⟨#[]⟩ : ByteArray)), (a0), (by first | rfl | (simp; done) | (simp [*]; done) | (simp; exact (fun l : List UInt8 => (by cases l <;> rfl : l.isEmpty = !(l != ([] : List UInt8)))) _)), (by first | rfl | (simp; done) | (simp [*]; done) | (simp; exact (fun l : List UInt8 => (by cases l <;> rfl : l.isEmpty = !(l != ([] : List UInt8)))) _)), H', ⟨Nat.le_refl _⟩, ⟨by repeat (first | (with_reducible first | exact HB.out | apply below_alloc | apply pw_below_drewN | apply below_drew1) | exact HB.out)⟩⟩
          case round =>
            clear H'
            try clear c2
            try clear c2b0
            try clear p2
            try clear c3
            try clear c3b0
            try clear p4
            try clear q4
            try clear hx4
            try clear c5
            try clear c5b0
            try clear c5b1
            try clear c6
            try clear c6b0
            try clear c6b1
            try clear p6
            try clear p4
            try clear q4
            obtain ⟨x5_2, x6_2, rfl, rfl, HA, HK2, HB⟩ := hrel
            cases gk with
            | zero => exact absurd HA.out (by simp [fascicleref05_Unstuff.l1])
            | succ k2 =>
              have H := HA.out
              clear HA
              simp only [fascicleref05_Unstuff.l1] at H
              by_cases c7 : x6_2.toList = ([] : List UInt8)
              · rw [if_pos c7] at H
                have c7b0 : (x6_2.toList == ([] : List UInt8)) = true := beq_iff_eq.mpr c7
                have c7b1 : (x6_2.toList != ([] : List UInt8)) = false := bne_eq_false_iff_eq.mpr c7
                clear c7
                replace H := Option.bind_eq_some_iff.mp H
                obtain ⟨t167, A80, H⟩ := H
                replace H : (if t167.toList = a0.toList then (some (x5_2, 0)) else (some ((⟨#[]⟩ : ByteArray), 4))) = some (r1, r2) := H
                have A8 := Aside0.mk A80
                clear A80
                by_cases c9 : t167.toList = a0.toList
                · rw [if_pos c9] at H
                  have c9b0 : (t167.toList == a0.toList) = true := beq_iff_eq.mpr c9
                  have c9b1 : (t167.toList != a0.toList) = false := bne_eq_false_iff_eq.mpr c9
                  clear c9
                  simp only [Option.some.injEq, Prod.mk.injEq] at H
                  obtain ⟨rfl, rfl⟩ := H
                  go_wp2_with (first | ((with_reducible refine gate_callee (f := 62) rfl ?_); refine goesL_ (some 47) rfl rfl Try.func62 (by kernel_rfl) rfl #[.string x5_2] rfl (by (try simp only [List.map_toArray, List.map_cons, List.map_nil]); first | done | rfl | (simp only [List.length_drop, List.length_take]; rfl) | (refine congrArg (fun z => #[Value.int .u64 z]) ?_; rw [IntKind.wrap_u64]; omega)) ?_; (with_reducible refine (fascicleref05_Stuff.calls k2 x5_2 t167 _ A8.out).mono ?_); rintro e w10 ⟨rfl, hb⟩; refine ⟨_, rfl, ?_⟩; have n0_ := Aside0.mk (below_step (by repeat (first | (with_reducible first | exact HB.out | apply below_alloc | apply pw_below_drewN | apply below_drew1) | exact HB.out)) hb); clear HB; have HB := n0_; clear n0_; (try clear hb); (try clear hb2); (try clear hk); (try clear hi)))
                  go_ret2
                  exact ⟨by first | rfl | (simp [errW_none, errW_some] <;> rfl) | (simp [*, errW_none, errW_some] <;> rfl), by repeat (first | (with_reducible first | exact HB.out | apply below_alloc | apply pw_below_drewN | apply below_drew1) | exact HB.out)⟩
                · rw [if_neg c9] at H
                  have c9b0 : (t167.toList == a0.toList) = false := beq_eq_false_iff_ne.mpr c9
                  have c9b1 : (t167.toList != a0.toList) = true := bne_iff_ne.mpr c9
                  simp only [Option.some.injEq, Prod.mk.injEq] at H
                  obtain ⟨rfl, rfl⟩ := H
                  go_wp2_with (first | ((with_reducible refine gate_callee (f := 62) rfl ?_); refine goesL_ (some 47) rfl rfl Try.func62 (by kernel_rfl) rfl #[.string x5_2] rfl (by (try simp only [List.map_toArray, List.map_cons, List.map_nil]); first | done | rfl | (simp only [List.length_drop, List.length_take]; rfl) | (refine congrArg (fun z => #[Value.int .u64 z]) ?_; rw [IntKind.wrap_u64]; omega)) ?_; (with_reducible refine (fascicleref05_Stuff.calls k2 x5_2 t167 _ A8.out).mono ?_); rintro e w11 ⟨rfl, hb⟩; refine ⟨_, rfl, ?_⟩; have n0_ := Aside0.mk (below_step (by repeat (first | (with_reducible first | exact HB.out | apply below_alloc | apply pw_below_drewN | apply below_drew1) | exact HB.out)) hb); clear HB; have HB := n0_; clear n0_; (try clear hb); (try clear hb2); (try clear hk); (try clear hi)))
                  go_ret2
                  exact ⟨by first | rfl | (simp [errW_none, errW_some] <;> rfl) | (simp [*, errW_none, errW_some] <;> rfl), by repeat (first | (with_reducible first | exact HB.out | apply below_alloc | apply pw_below_drewN | apply below_drew1) | exact HB.out)⟩
              · rw [if_neg c7] at H
                have c7b0 : (x6_2.toList == ([] : List UInt8)) = false := beq_eq_false_iff_ne.mpr c7
                have c7b1 : (x6_2.toList != ([] : List UInt8)) = true := bne_iff_ne.mpr c7
                by_cases c12 : 0 < (x6_2.size : Int)
                · rw [if_pos c12] at H
                  have c12b0 : decide (0 < (x6_2.size : Int)) = true := decide_eq_true c12
                  have c12b1 : decide (0 < x6_2.size) = true := decide_eq_true (by omega)
                  clear c12
                  by_cases c14 : (wrap64 (bt x6_2 0)) > (x6_2.size : Int)
                  · rw [if_pos c14] at H
                    have c14b0 : decide ((x6_2.size : Int) < (wrap64 (bt x6_2 0))) = true := decide_eq_true c14
                    clear c14
                    simp only [Option.some.injEq, Prod.mk.injEq] at H
                    obtain ⟨rfl, rfl⟩ := H
                    have p13 : 0 ≤ (0 : Int) := (by omega)
                    have q13 : 0 < x6_2.size := (by have : (0 : Int) < (x6_2.size : Int) := of_decide_eq_true (by first | (with_reducible assumption) | assumption); omega)
                    have hx13 : ∀ h : 0 < x6_2.size, ((x6_2[0]'h).toNat : Int) = bt x6_2 0 := bt_at x6_2 0
                    clear p13
                    have qi13 : (0 < (x6_2.size : Int)) = True := eq_true (of_decide_eq_true (by first | (with_reducible assumption) | assumption))
                    replace q13 := eq_true q13
                    go_wp2
                    go_ret2
                    exact ⟨by first | rfl | (simp [errW_none, errW_some] <;> rfl) | (simp [*, errW_none, errW_some] <;> rfl), by repeat (first | (with_reducible first | exact HB.out | apply below_alloc | apply pw_below_drewN | apply below_drew1) | exact HB.out)⟩
                  · rw [if_neg c14] at H
                    have c14b0 : decide ((x6_2.size : Int) < (wrap64 (bt x6_2 0))) = false := decide_eq_false c14
                    clear c14
                    by_cases c15 : 1 ≤ (wrap64 (bt x6_2 0))
                    · rw [if_pos c15] at H
                      have c15b0 := eq_true c15
                      have c15b1 : decide (1 ≤ (wrap64 (bt x6_2 0))) = true := decide_eq_true c15
                      clear c15
                      by_cases c16 : (wrap64 (bt x6_2 0)) ≤ (x6_2.size : Int)
                      · rw [if_pos c16] at H
                        have c16b0 := eq_true c16
                        have c16b1 : decide ((wrap64 (bt x6_2 0)) ≤ (x6_2.size : Int)) = true := decide_eq_true c16
                        clear c16
                        by_cases c17 : x5_2.size + (x6_2.extract 1 ((wrap64 (bt x6_2 0)) : Int).toNat).size ≤ 9223372036854775807
                        · rw [if_pos c17] at H
                          have c17b0 := eq_true c17
                          have c17b1 : decide (x5_2.size + (x6_2.extract 1 ((wrap64 (bt x6_2 0)) : Int).toNat).size ≤ 9223372036854775807) = true := decide_eq_true c17
                          try have c17b2 : (9223372036854775807 < x5_2.size + (x6_2.extract 1 ((wrap64 (bt x6_2 0)) : Int).toNat).size) = False := eq_false (Nat.not_lt.2 c17)
                          try (have c17b4 := Nat.not_lt.2 c17; simp [ByteArray.size_append, -Nat.not_lt] at c17b4; (try simp only [show ∀ x : UInt8, (⟨#[x]⟩ : ByteArray).size = 1 from fun _ => rfl, show ∀ x y : UInt8, (⟨#[x, y]⟩ : ByteArray).size = 2 from fun _ _ => rfl] at c17b4); have c17b5 := eq_false c17b4)
                          obtain ⟨ji18, hji18⟩ : ∃ j_ : Int, (wrap64 (bt x6_2 0)) = j_ := ⟨_, rfl⟩
                          replace H : (if 0 ≤ (ji18) then (if (ji18) < 255 then (if (x6_2.extract ((ji18) : Int).toNat x6_2.size).toList = ([] : List UInt8) then (fascicleref05_Unstuff.l1 k2 a0 (x5_2 ++ (x6_2.extract 1 ((ji18) : Int).toNat)) (x6_2.extract ((ji18) : Int).toNat x6_2.size)) else (if (x5_2 ++ (x6_2.extract 1 ((ji18) : Int).toNat)).size + 1 ≤ 9223372036854775807 then (fascicleref05_Unstuff.l1 k2 a0 ((x5_2 ++ (x6_2.extract 1 ((ji18) : Int).toNat)) ++ (⟨#[0]⟩ : ByteArray)) (x6_2.extract ((ji18) : Int).toNat x6_2.size)) else (none))) else (fascicleref05_Unstuff.l1 k2 a0 (x5_2 ++ (x6_2.extract 1 ((ji18) : Int).toNat)) (x6_2.extract ((ji18) : Int).toNat x6_2.size))) else (none)) = some (r1, r2) := by first | (rw [hji18] at H; exact H) | (simp only [hji18] at H ⊢; exact H)
                          (try rw [hji18] at c14b0)
                          (try rw [hji18] at c15b0)
                          (try rw [hji18] at c15b1)
                          (try rw [hji18] at c16b0)
                          (try rw [hji18] at c16b1)
                          (try rw [hji18] at c17b0)
                          (try rw [hji18] at c17b1)
                          (try rw [hji18] at c17)
                          have hji18w : (IntKind.i64.wrap (bt x6_2 0)) = ji18 := (i64_w _).trans hji18
                          by_cases c19 : 0 ≤ (ji18)
                          · rw [if_pos c19] at H
                            have c19b0 := eq_true c19
                            have c19b1 : decide (0 ≤ (ji18)) = true := decide_eq_true c19
                            clear c19
                            have c20b0 := eq_true (of_decide_eq_true (by first | (with_reducible assumption) | assumption) : (ji18) ≤ (x6_2.size : Int))
                            by_cases c21 : (ji18) < 255
                            · rw [if_pos c21] at H
                              have c21b0 : decide ((ji18) < 255) = true := decide_eq_true c21
                              clear c21
                              by_cases c22 : (x6_2.extract ((ji18) : Int).toNat x6_2.size).toList = ([] : List UInt8)
                              · rw [if_pos c22] at H
                                have c22b0 : ((x6_2.extract ((ji18) : Int).toNat x6_2.size).toList == ([] : List UInt8)) = true := beq_iff_eq.mpr c22
                                have c22b1 : ((x6_2.extract ((ji18) : Int).toNat x6_2.size).toList != ([] : List UInt8)) = false := bne_eq_false_iff_eq.mpr c22
                                clear c22
                                have H' := Aside0.mk H
                                clear H
                                have p13 : 0 ≤ (0 : Int) := (by omega)
                                have q13 : 0 < x6_2.size := (by have : (0 : Int) < (x6_2.size : Int) := of_decide_eq_true (by first | (with_reducible assumption) | assumption); omega)
                                have hx13 : ∀ h : 0 < x6_2.size, ((x6_2[0]'h).toNat : Int) = bt x6_2 0 := bt_at x6_2 0
                                clear p13
                                have qi13 : (0 < (x6_2.size : Int)) = True := eq_true (of_decide_eq_true (by first | (with_reducible assumption) | assumption))
                                replace q13 := eq_true q13
                                go_wp2
                                go_roundg k2
                                case measure => have := HK1.out; have := HK2.out; omega
                                case rel => exact ⟨(x5_2 ++ (x6_2.extract 1 ((ji18) : Int).toNat)), (x6_2.extract ((ji18) : Int).toNat x6_2.size), (by first | rfl | (simp; done) | (simp only [← hji18] <;> (first | rfl | simp)) | (simp [*]; done)), (by first | rfl | (simp; done) | (simp only [← hji18] <;> (first | rfl | simp)) | (simp [*]; done)), H', ⟨by have := HK1.out; have := HK2.out; omega⟩, ⟨by repeat (first | (with_reducible first | exact HB.out | apply below_alloc | apply pw_below_drewN | apply below_drew1) | exact HB.out)⟩⟩
                              · rw [if_neg c22] at H
                                have c22b0 : ((x6_2.extract ((ji18) : Int).toNat x6_2.size).toList == ([] : List UInt8)) = false := beq_eq_false_iff_ne.mpr c22
                                have c22b1 : ((x6_2.extract ((ji18) : Int).toNat x6_2.size).toList != ([] : List UInt8)) = true := bne_iff_ne.mpr c22
                                obtain ⟨ys1, hys1⟩ : ∃ y_ : ByteArray, (x5_2 ++ (x6_2.extract 1 ((ji18) : Int).toNat)) = y_ := ⟨_, rfl⟩
                                (try simp only [hys1] at H)
                                by_cases c23 : ys1.size + 1 ≤ 9223372036854775807
                                · rw [if_pos c23] at H
                                  have c23b0 := eq_true c23
                                  have c23b1 : decide (ys1.size + 1 ≤ 9223372036854775807) = true := decide_eq_true c23
                                  try have c23b2 : (9223372036854775807 < ys1.size + 1) = False := eq_false (Nat.not_lt.2 c23)
                                  try (have c23b4 := Nat.not_lt.2 c23; simp [ByteArray.size_append, -Nat.not_lt] at c23b4; (try simp only [show ∀ x : UInt8, (⟨#[x]⟩ : ByteArray).size = 1 from fun _ => rfl, show ∀ x y : UInt8, (⟨#[x, y]⟩ : ByteArray).size = 2 from fun _ _ => rfl] at c23b4); have c23b5 := eq_false c23b4)
                                  have H' := Aside0.mk H
                                  clear H
                                  have p13 : 0 ≤ (0 : Int) := (by omega)
                                  have q13 : 0 < x6_2.size := (by have : (0 : Int) < (x6_2.size : Int) := of_decide_eq_true (by first | (with_reducible assumption) | assumption); omega)
                                  have hx13 : ∀ h : 0 < x6_2.size, ((x6_2[0]'h).toNat : Int) = bt x6_2 0 := bt_at x6_2 0
                                  clear p13
                                  have qi13 : (0 < (x6_2.size : Int)) = True := eq_true (of_decide_eq_true (by first | (with_reducible assumption) | assumption))
                                  replace q13 := eq_true q13
                                  go_wp2
                                  subst hys1
                                  go_roundg k2
                                  case measure => have := HK1.out; have := HK2.out; omega
                                  case rel => exact ⟨((x5_2 ++ (x6_2.extract 1 ((ji18) : Int).toNat)) ++ (⟨#[0]⟩ : ByteArray)), (x6_2.extract ((ji18) : Int).toNat x6_2.size), (by first | rfl | (simp; done) | (simp only [← hji18] <;> (first | rfl | simp)) | (simp [*]; done)), (by first | rfl | (simp; done) | (simp only [← hji18] <;> (first | rfl | simp)) | (simp [*]; done)), H', ⟨by have := HK1.out; have := HK2.out; omega⟩, ⟨by repeat (first | (with_reducible first | exact HB.out | apply below_alloc | apply pw_below_drewN | apply below_drew1) | exact HB.out)⟩⟩
                                · rw [if_neg c23] at H
                                  exact absurd H (by simp)
                            · rw [if_neg c21] at H
                              have c21b0 : decide ((ji18) < 255) = false := decide_eq_false c21
                              clear c21
                              have H' := Aside0.mk H
                              clear H
                              have p13 : 0 ≤ (0 : Int) := (by omega)
                              have q13 : 0 < x6_2.size := (by have : (0 : Int) < (x6_2.size : Int) := of_decide_eq_true (by first | (with_reducible assumption) | assumption); omega)
                              have hx13 : ∀ h : 0 < x6_2.size, ((x6_2[0]'h).toNat : Int) = bt x6_2 0 := bt_at x6_2 0
                              clear p13
                              have qi13 : (0 < (x6_2.size : Int)) = True := eq_true (of_decide_eq_true (by first | (with_reducible assumption) | assumption))
                              replace q13 := eq_true q13
                              go_wp2
                              go_roundg k2
                              case measure => have := HK1.out; have := HK2.out; omega
                              case rel => exact ⟨(x5_2 ++ (x6_2.extract 1 ((ji18) : Int).toNat)), (x6_2.extract ((ji18) : Int).toNat x6_2.size), (by first | rfl | (simp; done) | (simp only [← hji18] <;> (first | rfl | simp)) | (simp [*]; done)), (by first | rfl | (simp; done) | (simp only [← hji18] <;> (first | rfl | simp)) | (simp [*]; done)), H', ⟨by have := HK1.out; have := HK2.out; omega⟩, ⟨by repeat (first | (with_reducible first | exact HB.out | apply below_alloc | apply pw_below_drewN | apply below_drew1) | exact HB.out)⟩⟩
                          · rw [if_neg c19] at H
                            exact absurd H (by simp)
                        · rw [if_neg c17] at H
                          exact absurd H (by simp)
                      · rw [if_neg c16] at H
                        exact absurd H (by simp)
                    · rw [if_neg c15] at H
                      exact absurd H (by simp)
                · rw [if_neg c12] at H
                  exact absurd H (by simp)
end Go.Proofs.Ytekanmieppnpeaa.G
end
section
set_option linter.unusedVariables false
namespace Go.Proofs.Ytekanmieppnpeaa.LCobs
open Go.RowKit Go.Proofs.Ytekanmieppnpeaa.G Go.Proofs.YtekanmieppnpeaaW.PrintWords Go.Proofs.YtekanmieppnpeaaW.PrintLast Go.Proofs.Ytekanmieppnpeaa.PureKit
def stf : List Int → List Int → List Int
  | [], now => ((now.length : Int) + 1) :: now
  | x :: xs, now => if x = 0 then ((now.length : Int) + 1) :: (now ++ stf xs []) else
    if now.length + 1 = 254 then 255 :: (now ++ [x] ++ (if xs = [] then [] else stf xs [])) else stf xs (now ++ [x])
def NoZ (l : List Int) : Prop := ∀ y ∈ l, y ≠ 0
theorem stf_zero : ∀ (ys now zs : List Int), NoZ ys → now.length + ys.length < 254 → stf (ys ++ 0 :: zs) now = (((now.length + ys.length : Nat) : Int) + 1) :: (now ++ ys ++ stf zs [])
  | [], now, zs, _, _ => by simp [stf]
  | y :: ys, now, zs, h, hl => by
    have hy : y ≠ 0 := h y List.mem_cons_self
    rw [List.length_cons] at hl
    simp only [List.cons_append, stf]
    rw [if_neg hy, if_neg (by omega), stf_zero ys (now ++ [y]) zs (fun z hz => h z (List.mem_cons_of_mem _ hz)) (by simp; omega)]
    simp only [List.length_append, List.length_cons, List.length_nil, List.append_assoc, List.cons_append, List.nil_append]
    congr 1
    omega
theorem stf_end : ∀ (ys now : List Int), NoZ ys → now.length + ys.length < 254 → stf ys now = (((now.length + ys.length : Nat) : Int) + 1) :: (now ++ ys)
  | [], now, _, _ => by simp [stf]
  | y :: ys, now, h, hl => by
    have hy : y ≠ 0 := h y List.mem_cons_self
    rw [List.length_cons] at hl
    simp only [stf]
    rw [if_neg hy, if_neg (by omega), stf_end ys (now ++ [y]) (fun z hz => h z (List.mem_cons_of_mem _ hz)) (by simp; omega)]
    simp only [List.length_append, List.length_cons, List.length_nil, List.append_assoc, List.cons_append, List.nil_append]
    congr 1
    omega
theorem stf_full : ∀ (ys now zs : List Int), NoZ ys → ys ≠ [] → now.length + ys.length = 254 → stf (ys ++ zs) now = 255 :: (now ++ ys ++ (if zs = [] then [] else stf zs []))
  | [], now, zs, _, h, _ => absurd rfl h
  | [y], now, zs, h, _, hl => by
    have hy : y ≠ 0 := h y List.mem_cons_self
    simp only [List.cons_append, List.nil_append, stf]
    rw [if_neg hy, if_pos (by simpa using hl)]
  | y :: y' :: ys, now, zs, h, _, hl => by
    have hy : y ≠ 0 := h y List.mem_cons_self
    simp only [List.length_cons] at hl
    rw [List.cons_append]
    simp only [stf]
    rw [if_neg hy, if_neg (by omega), stf_full (y' :: ys) (now ++ [y]) zs (fun z hz => h z (List.mem_cons_of_mem _ hz)) (by simp) (by simp; omega)]
    simp
theorem stf_len : ∀ (l now : List Int), now.length < 254 → (stf l now).length ≤ now.length + l.length + 1 + (now.length + l.length - 1) / 254
  | [], now, h => by simp [stf]
  | x :: xs, now, h => by
    unfold stf
    by_cases hx : x = 0
    · rw [if_pos hx]
      have := stf_len xs [] (by simp)
      simp only [List.length_cons, List.length_append, List.length_nil] at *
      omega
    · rw [if_neg hx]
      by_cases hn : now.length + 1 = 254
      · rw [if_pos hn]
        by_cases he : xs = []
        · subst he; simp <;> omega
        · rw [if_neg he]
          have := stf_len xs [] (by simp)
          have h0 : 0 < xs.length := List.length_pos_iff.2 he
          simp only [List.length_cons, List.length_append, List.length_nil] at *
          omega
      · rw [if_neg hn]
        have := stf_len xs (now ++ [x]) (by simp; omega)
        simp only [List.length_cons, List.length_append, List.length_nil] at *
        omega
theorem stf_noz : ∀ (l now : List Int), NoZ now → now.length < 254 → NoZ (stf l now) ∧ (Bytes now → Bytes l → Bytes (stf l now))
  | [], now, h, hn => by
    refine ⟨fun y hy => ?_, fun hb _ => Bytes.cons (by omega) hb⟩
    rcases List.mem_cons.1 hy with rfl | hy
    · omega
    · exact h y hy
  | x :: xs, now, h, hn => by
    unfold stf
    by_cases hx : x = 0
    · rw [if_pos hx]
      have ih := stf_noz xs [] (fun _ h => by cases h) (by simp)
      refine ⟨fun y hy => ?_, fun hb hl => Bytes.cons (by omega) (hb.append (ih.2 Bytes.nil hl.tail))⟩
      rcases List.mem_cons.1 hy with rfl | hy
      · omega
      · rcases List.mem_append.1 hy with hy | hy
        · exact h y hy
        · exact ih.1 y hy
    · rw [if_neg hx]
      have hnx : NoZ (now ++ [x]) := fun y hy => by
        rcases List.mem_append.1 hy with hy | hy
        · exact h y hy
        · rw [List.mem_singleton.1 hy]; exact hx
      by_cases hn' : now.length + 1 = 254
      · rw [if_pos hn']
        have ih := stf_noz xs [] (fun _ h => by cases h) (by simp)
        refine ⟨fun y hy => ?_, fun hb hl => Bytes.cons (by omega) ((hb.append (Bytes.cons hl.head Bytes.nil)).append ?_)⟩
        · rcases List.mem_cons.1 hy with rfl | hy
          · decide
          · rcases List.mem_append.1 hy with hy | hy
            · exact hnx y hy
            · split at hy
              · cases hy
              · exact ih.1 y hy
        · split
          · exact Bytes.nil
          · exact ih.2 Bytes.nil hl.tail
      · rw [if_neg hn']
        have ih := stf_noz xs (now ++ [x]) hnx (by simp; omega)
        exact ⟨ih.1, fun hb hl => ih.2 (hb.append (Bytes.cons hl.head Bytes.nil)) hl.tail⟩
theorem idx0 : ∀ (l : List Int), Bytes l → (NoZ l ∧ Lib.indexByte (Lib.bytesOf l) 0 = -1) ∨ (∃ ys zs, l = ys ++ 0 :: zs ∧ NoZ ys ∧ Lib.indexByte (Lib.bytesOf l) 0 = (ys.length : Int))
  | [], _ => Or.inl ⟨(fun _ h => by cases h), rfl⟩
  | x :: xs, hb => by
    have hx := hb.head
    by_cases h0 : x = 0
    · refine Or.inr ⟨[], xs, by rw [h0]; rfl, (fun _ h => by cases h), ?_⟩
      subst h0
      rfl
    · have hne : ¬ (UInt8.ofNat x.toNat = 0) := fun e => by
        have := congrArg UInt8.toNat e
        simp at this
        omega
      rcases idx0 xs hb.tail with ⟨hz, hi⟩ | ⟨ys, zs, rfl, hz, hi⟩
      · refine Or.inl ⟨fun y hy => ?_, ?_⟩
        · rcases List.mem_cons.1 hy with rfl | hy
          · exact h0
          · exact hz y hy
        · simp only [Lib.bytesOf, List.map_cons, Lib.indexByte] at hi ⊢
          simp [hne, hi]
      · refine Or.inr ⟨x :: ys, zs, rfl, fun y hy => ?_, ?_⟩
        · rcases List.mem_cons.1 hy with rfl | hy
          · exact h0
          · exact hz y hy
        · simp only [Lib.bytesOf, List.map_cons, Lib.indexByte] at hi ⊢
          rw [hi, if_neg (by simpa using hne), if_neg (by simp)]
          simp
theorem stuff_l0 : ∀ (N : Nat) (b out : List Int), b.length ≤ N → Bytes b → N + out.length ≤ 1000000 - b.length → b.length ≤ 400000 → Ev (fun k => cobs_Stuff.l0 k b out) (out ++ stf b []) := by
  intro N
  induction N using Nat.strongRecOn with
  | _ N ih =>
  intro b out hN hb ho hbl
  have hmn : ∃ m : Nat, mn (b.length : Int) 254 = (m : Int) ∧ m = min b.length 254 := ⟨min b.length 254, by unfold mn; split <;> omega, rfl⟩
  obtain ⟨m, hm, hm'⟩ := hmn
  rcases idx0 (b.take m) (hb.take m) with ⟨hz, hi⟩ | ⟨ys, zs, he, hz, hi⟩
  · by_cases hbig : (b.length : Int) > 254
    · have hm2 : m = 254 := by omega
      subst hm2
      have hnx := ih (N - 254) (by omega) (b.drop 254) (out ++ [255] ++ b.take 254) (by rw [List.length_drop]; omega) (hb.drop _) (by simp only [List.length_append, List.length_cons, List.length_nil, List.length_take, List.length_drop]; omega) (by rw [List.length_drop]; omega)
      refine Ev.step (fun k => ?_) (Ev.eq hnx ?_)
      · simp only [cobs_Stuff.l0]
        rw [hm, if_pos (by omega), if_pos (by omega), Int.toNat_natCast]
        simp only [bytes_IndexByte.f, Option.bind_some, show (0 : Int).toNat.toUInt8 = 0 from rfl]
        rw [hi, if_neg (by omega), if_pos hbig, if_pos (by omega), if_pos (by omega), if_pos (by simp only [List.length_append, List.length_cons, List.length_nil, List.length_take]; omega)]
      · have hz' : (b.take 254) ≠ [] := by intro h; have := congrArg List.length h; rw [List.length_take] at this; simp only [List.length_nil] at this; omega
        have hf := stf_full (b.take 254) [] (b.drop 254) hz hz' (by rw [List.length_take]; simp; omega)
        rw [List.take_append_drop, if_neg (by intro h; have := congrArg List.length h; rw [List.length_drop] at this; simp at this; omega)] at hf
        rw [hf]
        simp
    · have hm2 : m = b.length := by omega
      subst hm2
      rw [List.take_length] at hz hi
      refine Ev.step (f := fun _ => some (out ++ [(b.length : Int) + 1] ++ b)) (fun k => ?_) (Ev.eq (Ev.now _) ?_)
      · simp only [cobs_Stuff.l0]
        rw [hm, if_pos (by omega), if_pos (by omega), Int.toNat_natCast, List.take_length]
        simp only [bytes_IndexByte.f, Option.bind_some, show (0 : Int).toNat.toUInt8 = 0 from rfl]
        rw [hi, if_neg (by omega), if_neg hbig, if_pos (by omega), if_pos (by simp only [List.length_append, List.length_cons, List.length_nil]; omega), w64 (by omega) (by omega), Int.emod_eq_of_lt (by omega) (by omega)]
      · by_cases hfull : b.length = 254
        · have hf := stf_full b [] [] hz (by intro h; rw [h] at hfull; simp at hfull) (by simpa using hfull)
          rw [List.append_nil, if_pos rfl] at hf
          rw [hf, hfull]
          simp
        · have hf := stf_end b [] hz (by simp; omega)
          rw [hf]
          simp
  · have hlen : (b.take m).length = ys.length + (zs.length + 1) := by rw [he]; simp
    rw [List.length_take] at hlen
    have hsplit : b = ys ++ 0 :: (zs ++ b.drop m) := by
      calc b = b.take m ++ b.drop m := (List.take_append_drop m b).symm
        _ = _ := by rw [he]; simp
    have hd1 : b.drop (ys.length + 1) = zs ++ b.drop m := by
      generalize zs ++ b.drop m = rest at hsplit ⊢
      rw [hsplit, show ys ++ 0 :: rest = (ys ++ [0]) ++ rest by simp, List.drop_left' (by simp)]
    have ht1 : b.take ys.length = ys := by
      generalize zs ++ b.drop m = rest at hsplit ⊢
      rw [hsplit, List.take_left' rfl]
    have hdl : (b.drop (ys.length + 1)).length = b.length - (ys.length + 1) := by rw [List.length_drop]
    have hnx := ih (N - (ys.length + 1)) (by omega) (b.drop (ys.length + 1)) (out ++ [(ys.length : Int) + 1] ++ ys) (by omega) (hb.drop _) (by simp only [List.length_append, List.length_cons, List.length_nil]; omega) (by omega)
    refine Ev.step (fun k => ?_) (Ev.eq hnx ?_)
    · simp only [cobs_Stuff.l0]
      rw [hm, if_pos (by omega), if_pos (by omega), Int.toNat_natCast]
      simp only [bytes_IndexByte.f, Option.bind_some, show (0 : Int).toNat.toUInt8 = 0 from rfl]
      rw [hi, if_pos (by omega), if_pos (by omega), if_pos (by omega), if_pos (by omega), Int.toNat_natCast, ht1, if_pos (by simp only [List.length_append, List.length_cons, List.length_nil]; omega), w64 (by omega) (by omega), if_pos (by omega), if_pos (by omega), Int.emod_eq_of_lt (by omega) (by omega)]
      rfl
    · rw [hd1]
      have hf := stf_zero ys [] (zs ++ b.drop m) hz (by simp; omega)
      rw [← hsplit] at hf
      rw [hf]
      simp
theorem most_f (n : Int) (h0 : 0 ≤ n) (h1 : n ≤ 1000000000000) : cobs_Most.f n = some (n + 1 + ((n.toNat - 1 : Nat) : Int) / 254) := by
  unfold cobs_Most.f
  by_cases h : n ≤ 0
  · rw [if_pos h]
    obtain rfl : n = 0 := by omega
    rfl
  · have : Int.tdiv (n - 1) 254 = ((n.toNat - 1 : Nat) : Int) / 254 := by rw [Int.tdiv_eq_ediv_of_nonneg (by omega)]; congr 1; omega
    rw [if_neg h, w64 (x := n - 1) (by omega) (by omega), this, w64 (x := n + 1) (by omega) (by omega), w64 (x := _ / 254) (by omega) (by omega), w64 (by omega) (by omega)]
theorem stuff_f (b : List Int) (hb : Bytes b) (hl : b.length ≤ 100000) : Ev (fun k => cobs_Stuff.f k b) (stf b []) := by
  unfold cobs_Stuff.f
  rw [most_f _ (by omega) (by omega)]
  simp only [Option.bind_some]
  refine Ev.congr (fun k => ?_) (stuff_l0 b.length b [] (Nat.le_refl _) hb (by simp; omega) (by omega))
  rw [if_pos (by omega), if_pos (by omega)]
end Go.Proofs.Ytekanmieppnpeaa.LCobs
set_option linter.unusedVariables false
namespace Go.Proofs.Ytekanmieppnpeaa.LCobs
open Go.RowKit Go.Proofs.Ytekanmieppnpeaa.G Go.Proofs.YtekanmieppnpeaaW.PrintWords Go.Proofs.YtekanmieppnpeaaW.PrintLast Go.Proofs.Ytekanmieppnpeaa.PureKit
theorem nums_one255 : (⟨#[255]⟩ : ByteArray) = strOfNums [255] := by decide
theorem nums_one0 : (⟨#[0]⟩ : ByteArray) = strOfNums [0] := by decide
theorem nums_empty : (⟨#[]⟩ : ByteArray) = strOfNums [] := by decide
def tl (b : List Int) (i : Nat) (now : List Int) : List Int := if b.drop i = [] ∧ now = [] ∧ 0 < i ∧ rd b ((i : Int) - 1) ≠ 0 then [] else stf (b.drop i) now
theorem ref_stuff_j1 (b : List Int) (out now : List Int) (i : Nat) (hi : i < 10000000) (hn : now.length < 254) (ho : out.length ≤ 100000000) (r : ByteArray)
    (h : Ev (fun k => fascicleref05_Stuff.l0 k (strOfNums (b ++ [0])) (strOfNums (out ++ ([(now.length : Int) + 1] ++ now))) (strOfNums []) ((i + 1 : Nat) : Int)) r) :
    Ev (fun k => fascicleref05_Stuff.j1 k (strOfNums (b ++ [0])) (strOfNums out) (strOfNums now) (i : Int) false) r := by
  refine Ev.step (fun k => ?_) h
  have hns : (strOfNums now).size = now.length := nums_size now
  simp only [fascicleref05_Stuff.j1]
  rw [if_neg (by decide), Option.bind_some, hns, w64 (by omega) (by omega), Int.emod_eq_of_lt (by omega) (by omega), if_pos (by rw [nums_size, nums_size]; simp; omega), PureKit.nums_append, if_pos (by rw [nums_size]; simp; omega), PureKit.nums_append, nums_empty, List.append_assoc, w64 (by omega) (by omega)]
  rfl
theorem ref_stuff_l0 (b : List Int) (hb : Bytes b) (hbl : b.length ≤ 1000000) : ∀ (d i : Nat) (out now : List Int), i + d = b.length → NoZ now → now.length < 254 → Bytes now → out.length + now.length + 3 * (d + 1) ≤ 10000000 →
    Ev (fun k => fascicleref05_Stuff.l0 k (strOfNums (b ++ [0])) (strOfNums out) (strOfNums now) (i : Int)) (strOfNums (out ++ tl b i now)) := by
  have hball : Bytes (b ++ [0]) := hb.append (Bytes.cons (by omega) Bytes.nil)
  have hsz : ((strOfNums (b ++ [0])).size : Int) = (b.length : Int) + 1 := by rw [nums_size]; simp
  have hw : wrap64 ((b.length : Int) + 1 - 1) = (b.length : Int) := by rw [w64 (by omega) (by omega)]; omega
  intro d
  induction d with
  | zero =>
    intro i out now hi hz hn hbn ho
    have hb0 : bt (strOfNums (b ++ [0])) (i : Int) = 0 := by
      rw [bt_nums _ hball i (by simp; omega)]
      rw [List.getElem_append_right (by omega)]
      simp
    have hdr : b.drop i = [] := List.drop_of_length_le (by omega)
    have hlast : Ev (fun k => fascicleref05_Stuff.l0 k (strOfNums (b ++ [0])) (strOfNums (out ++ ([(now.length : Int) + 1] ++ now))) (strOfNums []) ((i + 1 : Nat) : Int)) (strOfNums (out ++ ([(now.length : Int) + 1] ++ now))) := by
      refine Ev.step (f := fun _ => some _) (fun k => ?_) (Ev.now _)
      simp only [fascicleref05_Stuff.l0]
      rw [hsz, if_neg (by omega)]
    have hj := ref_stuff_j1 b out now i (by omega) hn (by omega) _ hlast
    by_cases hnow : now = []
    · subst hnow
      by_cases hi0 : 0 < i
      · have hprev : bt (strOfNums (b ++ [0])) ((i : Int) - 1) = rd b ((i : Int) - 1) := by
          rw [show (i : Int) - 1 = ((i - 1 : Nat) : Int) by omega, bt_nums _ hball (i - 1) (by simp; omega), rd_at b (i - 1) (by omega), List.getElem_append_left (by omega)]
        refine Ev.step (f := fun k => fascicleref05_Stuff.j1 k (strOfNums (b ++ [0])) (strOfNums out) (strOfNums []) (i : Int) (rd b ((i : Int) - 1) != 0)) (fun k => ?_) ?_
        · simp only [fascicleref05_Stuff.l0]
          rw [hsz, if_pos (by omega), if_pos (by omega), if_pos hb0, hw, if_pos (by omega), if_pos ((nums_nil []).2 rfl), if_pos (by omega), w64 (by omega) (by omega), if_pos (by omega), if_pos (by omega), hprev]
        · by_cases hr : rd b ((i : Int) - 1) = 0
          · rw [hr, bne_self_eq_false]
            refine Ev.eq hj ?_
            unfold tl
            rw [if_neg (by intro h; exact h.2.2.2 hr), hdr]
            rfl
          · rw [show (rd b ((i : Int) - 1) != 0) = true from bne_iff_ne.2 hr]
            refine Ev.step (f := fun _ => some (strOfNums out)) (fun k => ?_) (Ev.eq (Ev.now _) ?_)
            · simp only [fascicleref05_Stuff.j1]; rfl
            · unfold tl
              rw [if_pos ⟨hdr, rfl, hi0, hr⟩, List.append_nil]
      · refine Ev.step (fun k => ?_) (Ev.eq hj ?_)
        · simp only [fascicleref05_Stuff.l0]
          rw [hsz, if_pos (by omega), if_pos (by omega), if_pos hb0, hw, if_pos (by omega), if_pos ((nums_nil []).2 rfl), if_neg (by omega)]
        · unfold tl
          rw [if_neg (by intro h; exact hi0 h.2.2.1), hdr]
          rfl
    · refine Ev.step (fun k => ?_) (Ev.eq hj ?_)
      · simp only [fascicleref05_Stuff.l0]
        rw [hsz, if_pos (by omega), if_pos (by omega), if_pos hb0, hw, if_pos (by omega), if_neg (fun h => hnow ((nums_nil now).1 h))]
      · unfold tl
        rw [if_neg (by intro h; exact hnow h.2.1), hdr]
        rfl
  | succ d ih =>
    intro i out now hi hz hn hbn ho
    have hlt : i < b.length := by omega
    have hb0 : bt (strOfNums (b ++ [0])) (i : Int) = b[i] := by
      rw [bt_nums _ hball i (by simp; omega), List.getElem_append_left hlt]
    have hdr : b.drop i = b[i] :: b.drop (i + 1) := List.drop_eq_getElem_cons hlt
    have hprev : rd b (((i + 1 : Nat) : Int) - 1) = b[i] := by rw [show ((i + 1 : Nat) : Int) - 1 = (i : Int) by omega]; exact rd_at b i hlt
    have hrhs : tl b i now = stf (b.drop i) now := by
      unfold tl
      rw [if_neg (by intro h; rw [hdr] at h; exact List.cons_ne_nil _ _ h.1)]
    rw [hrhs, hdr]
    by_cases hx : b[i] = 0
    · have hnx := ih (i + 1) (out ++ ([(now.length : Int) + 1] ++ now)) [] (by omega) (fun _ h => by cases h) (by simp) Bytes.nil (by simp; omega)
      have hj := ref_stuff_j1 b out now i (by omega) hn (by omega) _ hnx
      refine Ev.step (fun k => ?_) (Ev.eq hj ?_)
      · simp only [fascicleref05_Stuff.l0]
        rw [hsz, if_pos (by omega), if_pos (by omega), hb0, if_pos hx, hw, if_neg (by omega)]
      · unfold tl
        rw [hprev, if_neg (by intro h; exact h.2.2.2 hx)]
        simp [stf, hx]
    · have hex : (strOfNums (b ++ [0])).extract i (i + 1) = strOfNums [b[i]] := by
        rw [nums_extract]
        congr 1
        rw [List.take_append_of_le_length (by omega), List.drop_take, show i + 1 - i = 1 by omega, hdr]
        rfl
      have hnz' : NoZ (now ++ [b[i]]) := fun y hy => by
        rcases List.mem_append.1 hy with hy | hy
        · exact hz y hy
        · rw [List.mem_singleton.1 hy]; exact hx
      by_cases hfull : now.length + 1 = 254
      · have hnx := ih (i + 1) (out ++ [255] ++ (now ++ [b[i]])) [] (by omega) (fun _ h => by cases h) (by simp) Bytes.nil (by simp; omega)
        refine Ev.step (fun k => ?_) (Ev.eq hnx ?_)
        · simp only [fascicleref05_Stuff.l0]
          rw [hsz, if_pos (by omega), if_pos (by omega), hb0, if_neg hx, w64 (by omega) (by omega), if_pos (by omega), if_pos (by omega)]
          rw [show ((i : Int) + 1).toNat = i + 1 by omega, Int.toNat_natCast, hex, PureKit.nums_append, if_pos (by rw [nums_size, nums_size]; simp; omega), if_pos (by rw [nums_size]; simp; omega), if_pos (by rw [nums_size]; omega), nums_one255, PureKit.nums_append, if_pos (by rw [nums_size, nums_size]; simp; omega), PureKit.nums_append, nums_empty]
          rfl
        · congr 1
          unfold tl
          rw [hprev]
          by_cases hd0 : b.drop (i + 1) = []
          · rw [if_pos ⟨hd0, rfl, by omega, hx⟩, hd0]
            simp [stf, hx, hfull]
          · rw [if_neg (by intro h; exact hd0 h.1)]
            simp [stf, hx, hfull, hd0]
      · have hnx := ih (i + 1) out (now ++ [b[i]]) (by omega) hnz' (by simp; omega) (hbn.append (Bytes.cons (hb _ (List.getElem_mem hlt)) Bytes.nil)) (by simp; omega)
        refine Ev.step (fun k => ?_) (Ev.eq hnx ?_)
        · simp only [fascicleref05_Stuff.l0]
          rw [hsz, if_pos (by omega), if_pos (by omega), hb0, if_neg hx, w64 (by omega) (by omega), if_pos (by omega), if_pos (by omega)]
          rw [show ((i : Int) + 1).toNat = i + 1 by omega, Int.toNat_natCast, hex, PureKit.nums_append, if_pos (by rw [nums_size, nums_size]; simp; omega), if_neg (by rw [nums_size]; simp; omega)]
          rfl
        · congr 1
          unfold tl
          rw [if_neg (by intro h; simp at h)]
          simp [stf, hx, hfull]
theorem ref_stuff_f (b : List Int) (hb : Bytes b) (hl : b.length ≤ 1000000) : Ev (fun k => fascicleref05_Stuff.f k (strOfNums b)) (strOfNums (stf b [])) := by
  have h := ref_stuff_l0 b hb hl b.length 0 [] [] (by omega) (fun _ h => by cases h) (by simp) Bytes.nil (by simp; omega)
  unfold fascicleref05_Stuff.f
  rw [nums_one0, PureKit.nums_append, nums_empty]
  refine Ev.congr (fun k => ?_) (Ev.eq h ?_)
  · rw [if_pos (by rw [nums_size]; omega)]; rfl
  · unfold tl
    rw [if_neg (by intro h; omega)]
    rfl
theorem stuffed_bytes (o : List Int) (h : Bytes o) : Bytes (stf o []) := (stf_noz o [] (fun _ h => by cases h) (by simp)).2 Bytes.nil h
end Go.Proofs.Ytekanmieppnpeaa.LCobs
set_option linter.unusedVariables false
namespace Go.Proofs.Ytekanmieppnpeaa.LCobs
open Go.RowKit Go.Proofs.Ytekanmieppnpeaa.G Go.Proofs.YtekanmieppnpeaaW.PrintWords Go.Proofs.YtekanmieppnpeaaW.PrintLast Go.Proofs.Ytekanmieppnpeaa.PureKit
def unl : Nat → List Int → List Int → Option (List Int)
  | 0, out, _ => some out
  | _ + 1, out, [] => some out
  | d + 1, out, n :: rest => if n > (rest.length : Int) + 1 then none else unl d (out ++ rest.take (n.toNat - 1) ++ (if n < 255 ∧ rest.drop (n.toNat - 1) ≠ [] then [0] else [])) (rest.drop (n.toNat - 1))
def fin (b : List Int) : Option (List Int) → List Int × Int
  | none => ([], 2)
  | some o => if stf o [] = b then (o, 0) else ([], 4)
theorem unstuff_l0 (b : List Int) (hb : Bytes b) : ∀ (d : Nat) (out rest : List Int), rest.length ≤ d → NoZ rest → Bytes rest → Bytes out → out.length + rest.length ≤ 100000 →
    Ev (fun k => cobs_Unstuff.l0 k b out rest) (fin b (unl d out rest)) := by
  have hend : ∀ (out : List Int) (d : Nat), Bytes out → out.length ≤ 100000 → Ev (fun k => cobs_Unstuff.l0 k b out []) (fin b (unl d out [])) := by
    intro out d hbo ho
    have hu : unl d out [] = some out := by cases d <;> rfl
    rw [hu]
    refine Ev.step (f := fun k => (cobs_Stuff.f k out).bind fun t307 => (bytes_Equal.f t307 b).bind fun t310 => if t310 = true then some (out, 0) else some ([], 4)) (fun k => ?_) (Ev.bind (f := fun k t307 => (bytes_Equal.f t307 b).bind fun t310 => if t310 = true then some (out, 0) else some ([], 4)) (stuff_f out hbo ho) ?_)
    · simp only [cobs_Unstuff.l0]; rw [if_neg (by simp)]
    · simp only [bytes_Equal.f, Option.bind_some]
      rw [nums_beq (stuffed_bytes out hbo) hb]
      unfold fin
      by_cases h : stf out [] = b
      · simp only [h, decide_true, if_true]; exact Ev.now _
      · simp only [h, decide_false, if_false, Bool.false_eq_true]; exact Ev.now _
  intro d
  induction d with
  | zero =>
    intro out rest hd hz hbr hbo ho
    obtain rfl : rest = [] := List.eq_nil_of_length_eq_zero (by omega)
    exact hend out 0 hbo (by omega)
  | succ d ih =>
    intro out rest hd hz hbr hbo ho
    cases rest with
    | nil => exact hend out _ hbo (by simpa using ho)
    | cons n rest =>
      have hn := hbr.head
      have hn0 : n ≠ 0 := hz n List.mem_cons_self
      have hrd : rd (n :: rest) 0 = n := rfl
      have hw : wrap64 n = n := w64 (by omega) (by omega)
      simp only [List.length_cons] at hd ho
      by_cases hbig : n > (rest.length : Int) + 1
      · refine Ev.step (f := fun _ => some ([], 2)) (fun k => ?_) (Ev.eq (Ev.now _) ?_)
        · simp only [cobs_Unstuff.l0]
          rw [if_pos (by simp), if_pos (by simp), hrd, hw, if_pos (by simp only [List.length_cons]; omega)]
        · simp [unl, hbig, fin]
      · have hu : unl (d + 1) out (n :: rest) = unl d (out ++ rest.take (n.toNat - 1) ++ (if n < 255 ∧ rest.drop (n.toNat - 1) ≠ [] then [0] else [])) (rest.drop (n.toNat - 1)) := by simp only [unl]; rw [if_neg hbig]
        rw [hu]
        have htk : ((n :: rest).take n.toNat).drop 1 = rest.take (n.toNat - 1) := by
          rw [show n.toNat = (n.toNat - 1) + 1 by omega, List.take_succ_cons]; rfl
        have hdp : (n :: rest).drop n.toNat = rest.drop (n.toNat - 1) := by
          rw [show n.toNat = (n.toNat - 1) + 1 by omega, List.drop_succ_cons]; rfl
        have hl1 : (rest.take (n.toNat - 1)).length = n.toNat - 1 := by rw [List.length_take]; omega
        have hl2 : (rest.drop (n.toNat - 1)).length = rest.length - (n.toNat - 1) := by rw [List.length_drop]
        have hzr : NoZ (rest.drop (n.toNat - 1)) := fun y hy => hz y (List.mem_cons_of_mem _ (List.mem_of_mem_drop hy))
        have hstep : ∀ k, cobs_Unstuff.l0 (k + 1) b out (n :: rest) = cobs_Unstuff.l0 k b (out ++ rest.take (n.toNat - 1) ++ (if n < 255 ∧ rest.drop (n.toNat - 1) ≠ [] then [0] else [])) (rest.drop (n.toNat - 1)) := by
          intro k
          simp only [cobs_Unstuff.l0]
          rw [if_pos (by simp), if_pos (by simp), hrd, hw, if_neg (by simp only [List.length_cons]; omega), if_pos (by omega), if_pos (by simp only [List.length_cons]; omega), Option.bind_some, htk, if_pos (by omega), Option.bind_some, if_pos (by omega), Option.bind_some, hdp]
          by_cases h1 : n ≤ 254
          · rw [if_pos h1]
            by_cases h2 : rest.drop (n.toNat - 1) = []
            · rw [if_neg (by rw [h2]; simp), if_neg (by intro h; exact h.2 h2), List.append_nil]
            · have : 0 < (rest.drop (n.toNat - 1)).length := List.length_pos_iff.2 h2
              rw [if_pos (by omega), if_pos (by rw [List.length_append]; omega), if_pos ⟨by omega, h2⟩]
          · rw [if_neg h1, if_neg (by intro h; omega), List.append_nil]
        refine Ev.step hstep (ih _ _ (by omega) hzr (hbr.tail.drop _) ?_ ?_)
        · refine (hbo.append (hbr.tail.take _)).append ?_
          split
          · exact Bytes.cons (by omega) Bytes.nil
          · exact Bytes.nil
        · simp only [List.length_append]
          split
          · rw [List.length_singleton]; omega
          · rw [List.length_nil]; omega
theorem ref_unstuff_l1 (b : List Int) (hb : Bytes b) : ∀ (d : Nat) (out rest : List Int), rest.length ≤ d → NoZ rest → Bytes rest → Bytes out → out.length + rest.length ≤ 100000 →
    Ev (fun k => fascicleref05_Unstuff.l1 k (strOfNums b) (strOfNums out) (strOfNums rest)) (strOfNums (fin b (unl d out rest)).1, (fin b (unl d out rest)).2) := by
  have hend : ∀ (out : List Int) (d : Nat), Bytes out → out.length ≤ 100000 → Ev (fun k => fascicleref05_Unstuff.l1 k (strOfNums b) (strOfNums out) (strOfNums [])) (strOfNums (fin b (unl d out [])).1, (fin b (unl d out [])).2) := by
    intro out d hbo ho
    have hu : unl d out [] = some out := by cases d <;> rfl
    rw [hu]
    refine Ev.step (f := fun k => (fascicleref05_Stuff.f k (strOfNums out)).bind fun t314 => if t314.toList = (strOfNums b).toList then some (strOfNums out, 0) else some (strOfNums [], 4)) (fun k => ?_) (Ev.bind (f := fun k t314 => if t314.toList = (strOfNums b).toList then some (strOfNums out, 0) else some (strOfNums [], 4)) (ref_stuff_f out hbo (by omega)) ?_)
    · simp only [fascicleref05_Unstuff.l1]; rw [if_pos ((nums_nil []).2 rfl), nums_empty]
    · unfold fin
      by_cases h : stf out [] = b
      · refine Ev.eq (Ev.congr (f := fun _ => some (strOfNums out, 0)) (fun k => ?_) (Ev.now _)) ?_
        · rw [if_pos (by rw [h])]
        · simp [h]
      · refine Ev.eq (Ev.congr (f := fun _ => some (strOfNums [], 4)) (fun k => ?_) (Ev.now _)) ?_
        · rw [if_neg (fun e => h ((nums_eq (stuffed_bytes out hbo) hb).1 e))]
        · simp [h]
  intro d
  induction d with
  | zero =>
    intro out rest hd hz hbr hbo ho
    obtain rfl : rest = [] := List.eq_nil_of_length_eq_zero (by omega)
    exact hend out 0 hbo (by omega)
  | succ d ih =>
    intro out rest hd hz hbr hbo ho
    cases rest with
    | nil => exact hend out _ hbo (by simpa using ho)
    | cons n rest =>
      have hn := hbr.head
      have hn0 : n ≠ 0 := hz n List.mem_cons_self
      have hrd : bt (strOfNums (n :: rest)) 0 = n := bt_nums (n :: rest) hbr 0 (by simp)
      have hw : wrap64 n = n := w64 (by omega) (by omega)
      have hsz : ((strOfNums (n :: rest)).size : Int) = (rest.length : Int) + 1 := by rw [nums_size]; simp
      simp only [List.length_cons] at hd ho
      have hne : ¬ (strOfNums (n :: rest)).toList = ([] : List UInt8) := fun h => by simpa using (nums_nil (n :: rest)).1 h
      by_cases hbig : n > (rest.length : Int) + 1
      · refine Ev.step (f := fun _ => some (strOfNums [], 2)) (fun k => ?_) (Ev.eq (Ev.now _) ?_)
        · simp only [fascicleref05_Unstuff.l1]
          rw [if_neg hne, hsz, if_pos (by omega), hrd, hw, if_pos (by omega), nums_empty]
        · simp [unl, hbig, fin]
      · have hu : unl (d + 1) out (n :: rest) = unl d (out ++ rest.take (n.toNat - 1) ++ (if n < 255 ∧ rest.drop (n.toNat - 1) ≠ [] then [0] else [])) (rest.drop (n.toNat - 1)) := by simp only [unl]; rw [if_neg hbig]
        rw [hu]
        have htk : (strOfNums (n :: rest)).extract 1 n.toNat = strOfNums (rest.take (n.toNat - 1)) := by
          rw [nums_extract]
          congr 1
          rw [show n.toNat = (n.toNat - 1) + 1 by omega, List.take_succ_cons]; rfl
        have hdp : (strOfNums (n :: rest)).extract n.toNat (strOfNums (n :: rest)).size = strOfNums (rest.drop (n.toNat - 1)) := by
          rw [nums_extract, nums_size, List.take_length]
          congr 1
          rw [show n.toNat = (n.toNat - 1) + 1 by omega, List.drop_succ_cons]; rfl
        have hl1 : (rest.take (n.toNat - 1)).length = n.toNat - 1 := by rw [List.length_take]; omega
        have hl2 : (rest.drop (n.toNat - 1)).length = rest.length - (n.toNat - 1) := by rw [List.length_drop]
        have hzr : NoZ (rest.drop (n.toNat - 1)) := fun y hy => hz y (List.mem_cons_of_mem _ (List.mem_of_mem_drop hy))
        have hstep : ∀ k, fascicleref05_Unstuff.l1 (k + 1) (strOfNums b) (strOfNums out) (strOfNums (n :: rest)) = fascicleref05_Unstuff.l1 k (strOfNums b) (strOfNums (out ++ rest.take (n.toNat - 1) ++ (if n < 255 ∧ rest.drop (n.toNat - 1) ≠ [] then [0] else []))) (strOfNums (rest.drop (n.toNat - 1))) := by
          intro k
          simp only [fascicleref05_Unstuff.l1]
          rw [if_neg hne, hrd, hw, htk, hdp, hsz, if_pos (by omega), if_neg (by omega), if_pos (by omega), if_pos (by omega), if_pos (by rw [nums_size, nums_size]; omega), if_pos (by omega), PureKit.nums_append]
          by_cases h1 : n < 255
          · rw [if_pos h1]
            by_cases h2 : rest.drop (n.toNat - 1) = []
            · rw [if_pos ((nums_nil _).2 h2), if_neg (by intro h; exact h.2 h2), List.append_nil]
            · rw [if_neg (fun h => h2 ((nums_nil _).1 h)), if_pos (by rw [nums_size, List.length_append]; omega), if_pos ⟨h1, h2⟩, nums_one0, PureKit.nums_append]
          · rw [if_neg h1, if_neg (by intro h; omega), List.append_nil]
        refine Ev.step hstep (ih _ _ (by omega) hzr (hbr.tail.drop _) ?_ ?_)
        · refine (hbo.append (hbr.tail.take _)).append ?_
          split
          · exact Bytes.cons (by omega) Bytes.nil
          · exact Bytes.nil
        · simp only [List.length_append]
          split
          · rw [List.length_singleton]; omega
          · rw [List.length_nil]; omega
open Classical in
theorem unstuff_f (b : List Int) (hb : Bytes b) (hl : b.length ≤ 100000) : Ev (fun k => cobs_Unstuff.f k b) (if ¬ NoZ b then ([], 4) else if b = [] then ([], 2) else fin b (unl b.length [] b)) := by
  unfold cobs_Unstuff.f
  simp only [bytes_IndexByte.f, Option.bind_some, show (0 : Int).toNat.toUInt8 = 0 from rfl]
  rcases idx0 b hb with ⟨hz, hi⟩ | ⟨ys, zs, he, hz, hi⟩
  · rw [hi, if_neg (by simpa using hz)]
    by_cases h0 : b = []
    · rw [if_pos h0]
      refine Ev.congr (f := fun _ => some ([], 2)) (fun k => ?_) (Ev.now _)
      rw [if_neg (by omega), if_pos (by rw [h0]; rfl)]
    · rw [if_neg h0]
      have : 0 < b.length := List.length_pos_iff.2 h0
      refine Ev.congr (fun k => ?_) (unstuff_l0 b hb b.length [] b (Nat.le_refl _) hz hb Bytes.nil (by simpa using hl))
      rw [if_neg (by omega), if_neg (by omega)]
  · have hnz : ¬ NoZ b := fun h => h 0 (by rw [he]; simp) rfl
    rw [if_pos hnz]
    refine Ev.congr (f := fun _ => some ([], 4)) (fun k => ?_) (Ev.now _)
    rw [hi, if_pos (by omega)]
end Go.Proofs.Ytekanmieppnpeaa.LCobs
set_option linter.unusedVariables false
namespace Go.Proofs.Ytekanmieppnpeaa.LCobs
open Go.RowKit Go.Proofs.Ytekanmieppnpeaa.G Go.Proofs.YtekanmieppnpeaaW.PrintWords Go.Proofs.YtekanmieppnpeaaW.PrintLast Go.Proofs.Ytekanmieppnpeaa.PureKit
end Go.Proofs.Ytekanmieppnpeaa.LCobs
set_option linter.unusedVariables false
namespace Go.Proofs.Ytekanmieppnpeaa.LCobs
open Go.RowKit Go.Proofs.Ytekanmieppnpeaa.G Go.Proofs.YtekanmieppnpeaaW.PrintWords Go.Proofs.YtekanmieppnpeaaW.PrintLast Go.Proofs.Ytekanmieppnpeaa.PureKit
theorem ref_unstuff_l0 (b : List Int) (hb : Bytes b) (hl : b.length ≤ 100000) (r : ByteArray × Int) : ∀ (d i : Nat), i + d = b.length →
    (NoZ (b.drop i) → Ev (fun k => fascicleref05_Unstuff.l0 k (strOfNums b) (b.length : Int)) r) → (¬ NoZ (b.drop i) → r = (strOfNums [], 4)) → Ev (fun k => fascicleref05_Unstuff.l0 k (strOfNums b) (i : Int)) r := by
  intro d
  induction d with
  | zero =>
    intro i hi h1 _
    have := h1 (by rw [List.drop_of_length_le (by omega)]; exact fun _ h => by cases h)
    rw [show (b.length : Int) = (i : Int) by omega] at this
    exact this
  | succ d ih =>
    intro i hi h1 h2
    have hlt : i < b.length := by omega
    have hdr : b.drop i = b[i] :: b.drop (i + 1) := List.drop_eq_getElem_cons hlt
    have hb0 : bt (strOfNums b) (i : Int) = b[i] := bt_nums b hb i hlt
    by_cases hx : b[i] = 0
    · refine Ev.step (f := fun _ => some (strOfNums [], 4)) (fun k => ?_) (Ev.eq (Ev.now _) ?_)
      · simp only [fascicleref05_Unstuff.l0]
        rw [if_pos (by rw [nums_size]; omega), if_pos (by omega), if_pos (by rw [hb0]; exact hx), nums_empty]
      · exact (h2 (fun h => h b[i] (by rw [hdr]; exact List.mem_cons_self) hx)).symm
    · refine Ev.step (fun k => ?_) (ih (i + 1) (by omega) (fun h => h1 ?_) (fun h => h2 ?_))
      · simp only [fascicleref05_Unstuff.l0]
        rw [if_pos (by rw [nums_size]; omega), if_pos (by omega), if_neg (by rw [hb0]; exact hx), w64 (by omega) (by omega)]
        rfl
      · intro y hy
        rw [hdr] at hy
        rcases List.mem_cons.1 hy with rfl | hy
        · exact hx
        · exact h y hy
      · intro hn
        exact h (fun y hy => hn y (by rw [hdr]; exact List.mem_cons_of_mem _ hy))
open Classical in
theorem ref_unstuff_f (b : List Int) (hb : Bytes b) (hl : b.length ≤ 100000) : Ev (fun k => fascicleref05_Unstuff.f k (strOfNums b))
    (strOfNums (if ¬ NoZ b then ([], 4) else if b = [] then ([], 2) else fin b (unl b.length [] b)).1, (if ¬ NoZ b then ([], 4) else if b = [] then ([], 2) else fin b (unl b.length [] b)).2) := by
  unfold fascicleref05_Unstuff.f
  refine ref_unstuff_l0 b hb hl _ b.length 0 (by omega) (fun hz => ?_) (fun hz => ?_)
  · rw [List.drop_zero] at hz
    rw [if_neg (by simpa using hz)]
    by_cases h0 : b = []
    · subst h0
      refine Ev.step (f := fun _ => some (strOfNums [], 2)) (fun k => ?_) (Ev.now _)
      simp only [fascicleref05_Unstuff.l0]
      rw [if_neg (by rw [nums_size]; omega), if_pos ((nums_nil []).2 rfl), nums_empty]
    · rw [if_neg h0]
      have h := ref_unstuff_l1 b hb b.length [] b (Nat.le_refl _) hz hb Bytes.nil (by simpa using hl)
      refine Ev.step (fun k => ?_) h
      simp only [fascicleref05_Unstuff.l0]
      rw [if_neg (by rw [nums_size]; omega), if_neg (fun h => h0 ((nums_nil b).1 h)), nums_empty]
  · rw [List.drop_zero] at hz
    rw [if_pos hz]
end Go.Proofs.Ytekanmieppnpeaa.LCobs
end
section
set_option linter.unusedVariables false
set_option linter.unusedSimpArgs false
namespace Go.Proofs.Ytekanmieppnpeaa.G
open Go Go.RowKit Go.Proofs.YtekanmieppnpeaaW.PrintWords Go.Proofs.YtekanmieppnpeaaW.PrintLast Go.Proofs.YtekanmieppnpeaaW.PrintMore Go.Proofs.Ytekanmieppnpeaa.PureKit Go.Proofs.Ytekanmieppnpeaa.Sep Go.Proofs.Ytekanmieppnpeaa.Rol Go.Proofs.Ytekanmieppnpeaa.LCobs
def summed (l : List Int) : List Int := l ++ nbytes 8 ((wsum 0 l : Nat) : Int)
theorem summed_len (l : List Int) : (summed l).length = l.length + 8 := by unfold summed; rw [List.length_append, nbytes_len]
theorem nbytes_bytes : ∀ (n : Nat) (x : Int), 0 ≤ x → Bytes (nbytes n x)
  | 0, _, _ => Bytes.nil
  | n + 1, x, h => Bytes.cons (by omega) (nbytes_bytes n (x / 256) (by omega))
theorem summed_bytes (l : List Int) (h : Bytes l) : Bytes (summed l) := fun x hx => by
  rcases List.mem_append.1 hx with h1 | h1
  · exact h x h1
  · exact nbytes_bytes 8 _ (by omega) x h1
def sealed (l : List Int) : List Int := stf (summed l) []
set_option maxHeartbeats 4000000 in
set_option maxRecDepth 100000 in
theorem frame_seal (w : World) (A : Option Addr) (c n : Nat) (l : List Int) (hn : n = l.length) (hC : Kd.C (Kd.int .u8) w A l.length l) (hc : l.length ≤ c) (hb : Bytes l) (hl : l.length ≤ 90000) :
    Calls Try.prog 21 #[.slice A n c] w fun e w' => ∃ v : Value, e = .returned v ∧ Kd.R (Kd.int .u8) 5 w' w.heap.size (fun _ => True) v (sealed l ++ [0]) ∧ Below w.heap.size w w' := by
  subst hn
  have hS0 := Aside0.mk (Sep.buf_new (Sep.start w))
  have hCA := Aside0.mk hC
  have hcA := Aside0.mk hc
  have hlA := Aside0.mk hl
  have hsl := wsum_lt 0 l
  obtain ⟨k, hk⟩ := (stuff_f (summed l) (summed_bytes l hb) (by rw [summed_len]; omega)).rounds
  have hkA := Aside0.mk hk
  have hsumlen := summed_len l
  have hslen : (sealed l).length ≤ 200000 := by
    have := stf_len (summed l) [] (by simp)
    rw [List.length_nil, Nat.zero_add, hsumlen] at this
    unfold sealed
    omega
  have hslA := Aside0.mk hslen
  have hsuA := Aside0.mk hsumlen
  clear hC hc hl hk hslen hsumlen
  go_enter Try.func21, Try.ntmps21
  go_wp2_with (fail)
  refine (buf_Raw w _ w.heap.size [] [] A l.length c l hS0.out (Kd.C_alloc hCA.out _) rfl (by simp) (by have := hlA.out; omega)).mono ?_
  rintro e w1 ⟨rfl, hS1⟩
  have hS1 := Aside0.mk hS1
  go_wp2_with (fail)
  refine (wide_Sum_calls _ A c l 0 _ rfl (Kd.C_below hCA.out hS1.out.1) hcA.out hb (by decide) (by have := hlA.out; omega)).mono ?_
  rintro e w2 ⟨rfl, hB2⟩
  have hS2 := Aside0.mk (hS1.out.below hB2)
  clear hB2
  go_wp2_with (fail)
  refine (buf_Eight w _ w.heap.size _ [] _ hS2.out (by omega) (by omega) (by have := hlA.out; simp; omega)).mono ?_
  rintro e w3 ⟨rfl, hS3⟩
  have hS3 := Aside0.mk hS3
  go_wp2_with (fail)
  refine (buf_Bytes w _ w.heap.size _ [] hS3.out (by have := hlA.out; simp [nbytes_len]; omega)).mono ?_
  rintro e w4 ⟨v4, rfl, hS4⟩
  rw [show [] ++ l ++ nbytes 8 ((wsum 0 l : Nat) : Int) = summed l from rfl] at hS4
  obtain ⟨bs4, hR4⟩ := hS4.row_R
  obtain ⟨A4, c4, rfl⟩ := Kd.R_slice hR4
  have hr4 := Aside0.mk (Kd.R_reads' hR4)
  have hS4 := Aside0.mk hS4
  clear hR4
  go_wp2_with (fail)
  refine (cobs_Stuff.calls k (fun k_ => k_ < w4.heap.size) A4 c4 (summed l) _ _ (Kd.V_mk hr4.out.2.1 (Kd.C_F (Kd.heap_int .u8) hr4.out.2.2)) hkA.out).mono ?_
  rintro e w5 ⟨v5, rfl, ho5, hb5⟩
  have hS5 := (Sep.row_new hS4.out hb5 ho5)
  obtain ⟨A5, c5, rfl⟩ := Kd.R_slice ho5
  obtain ⟨bs, hRr, hGr⟩ := hS5.row_open
  have hR := Aside0.mk hRr
  have hG := Aside0.mk hGr
  clear ho5 hb5 hRr hGr hS5
  go_wp2_with (first | ((with_reducible refine gate_builtin (b := .append) (xs := #[.tmp 10, .tmp 11]) rfl ?_); at_builtin; refine Kd.R_append (Kd.int .u8) (w0 := w5) 0 rfl (.tmp 10) (.tmp 11) 39 5 (.int .u8 0) 1 rfl Try.underlying39 (by kernel_rfl) rfl (by decide) (by decide) (.slice A5 (stf (summed l) []).length c5) (stf (summed l) []) 0 [.int .u8 0] (fun k => k ∈ bs ∨ w5.heap.size ≤ k) (fun _ => False) rfl rfl rfl (fun _ h => h.elim) (fun _ h => .inr h) ?aO ?aB ?aS ?aL ?_; (case aO => exact Kd.R_mono hR.out (fun _ h => .inl h)); (case aB => exact Below.refl _ _); (case aS => exact Nat.zero_le _); (case aL => have := hslA.out; unfold sealed at this; omega); intro v6 w6 ho6 hb6 hg6 hat6; have hS6 := Aside0.mk (hG.out w6 _ _ ho6 hg6); clear ho6 hb6 hg6 hat6))
  go_ret
  obtain ⟨h1, h2⟩ := hS6.out.row_out
  exact ⟨_, rfl, h1, h2⟩
def frame_Seal.f (l0 : List Int) : Option (List Int) := if wbytesOK l0 = true ∧ l0.length ≤ 90000 then some (sealed l0 ++ [0]) else none
theorem frame_Seal.calls (A0 : Option Addr) (c0 : Nat) (l0 : List Int) (r : List Int) (w : World) (hr0 : Kd.C (Kd.int .u8) w A0 l0.length l0) (hc0 : l0.length ≤ c0) (h : frame_Seal.f l0 = some r) :
    Calls Try.prog 21 #[.slice A0 l0.length c0] w fun e w' => ∃ v0_ : Value, e = .returned (v0_) ∧ Kd.R (Kd.int .u8) 5 w' w.heap.size (fun _ => True) v0_ r ∧ Below w.heap.size w w' := by
  unfold frame_Seal.f at h
  split at h
  · rename_i hh
    cases h
    exact frame_seal w A0 c0 _ l0 rfl hr0 hc0 ((wbytesOK_iff l0).1 hh.1) hh.2
  · cases h
end Go.Proofs.Ytekanmieppnpeaa.G
end
section
set_option linter.unusedVariables false
set_option linter.unusedSimpArgs false
namespace Go.Proofs.Ytekanmieppnpeaa.G
open Go Go.RowKit Go.Proofs.YtekanmieppnpeaaW.PrintWords Go.Proofs.YtekanmieppnpeaaW.PrintLast Go.Proofs.YtekanmieppnpeaaW.PrintMore Go.Proofs.Ytekanmieppnpeaa.PureKit Go.Proofs.Ytekanmieppnpeaa.Sep Go.Proofs.Ytekanmieppnpeaa.Rol Go.Proofs.Ytekanmieppnpeaa.LCobs
theorem cut_full {P : Program} (t e : TypeId) (kh km : IntKind) {i : TypeInfo} (ht : P.underlying t = some (.slice e)) (hi : P.info? e = some i) (A : Option Addr) (n c : Nat) (j : Int) (h0 : 0 ≤ j) (hm : j ≤ n) (hc : n ≤ c) :
    ∀ W : World, (Instr.slice t (.slice A n c) none (some (.int kh j)) (some (.int km j))).run P W = .ok (.slice A j.toNat j.toNat) W := by
  intro W
  have hel : P.elem t = e := by simp [Program.elem, ht]
  have hu : P.underlying t = some (.slice (P.elem t)) := by rw [hel]; exact ht
  have ha : (A.map fun x => x.add 0) = A := by cases A <;> simp [Addr.add]
  rw [run_slice_hm W t A n c hu kh km j j h0 (by omega) (by omega), hel]
  simp [sizeOf, typeInfo, hi, sliced, Result.andThen, ha]
open Classical in
noncomputable def unst (b : List Int) : List Int × Int := if ¬ NoZ b then ([], 4) else if b = [] then ([], 2) else fin b (unl b.length [] b)
theorem unl_bytes : ∀ (d : Nat) (out rest o : List Int), Bytes out → Bytes rest → unl d out rest = some o → Bytes o ∧ o.length ≤ out.length + rest.length
  | 0, out, rest, o, h1, h2, e => by cases e; exact ⟨h1, by omega⟩
  | d + 1, out, [], o, h1, h2, e => by cases e; exact ⟨h1, by simp⟩
  | d + 1, out, n :: rest, o, h1, h2, e => by
    simp only [unl] at e
    split at e
    · cases e
    · have hz : Bytes (if n < 255 ∧ rest.drop (n.toNat - 1) ≠ [] then [0] else []) ∧ (if n < 255 ∧ rest.drop (n.toNat - 1) ≠ [] then [(0 : Int)] else []).length ≤ 1 := by
        split
        · exact ⟨Bytes.cons (by decide) Bytes.nil, by simp⟩
        · exact ⟨Bytes.nil, by simp⟩
      have := unl_bytes d _ _ o (fun x hx => by
        rcases List.mem_append.1 hx with hx | hx
        · rcases List.mem_append.1 hx with hx | hx
          · exact h1 x hx
          · exact h2.tail x (List.mem_of_mem_take hx)
        · exact hz.1 x hx) (h2.tail.drop _) e
      refine ⟨this.1, ?_⟩
      have h3 := this.2
      simp only [List.length_append, List.length_take, List.length_drop, List.length_cons] at h3 ⊢
      have := hz.2
      omega
theorem unst_facts (b : List Int) (hb : Bytes b) : Bytes (unst b).1 ∧ (unst b).1.length ≤ b.length ∧ ((unst b).2 = 0 → stf (unst b).1 [] = b) ∧ ((unst b).2 ≠ 0 → (unst b).1 = []) := by
  unfold unst
  split
  · exact ⟨Bytes.nil, by simp, (fun h => by cases h), fun _ => rfl⟩
  · split
    · exact ⟨Bytes.nil, by simp, (fun h => by cases h), fun _ => rfl⟩
    · rcases hu : unl b.length [] b with _ | o
      · exact ⟨Bytes.nil, by simp [fin], (fun h => by cases h), fun _ => rfl⟩
      · have := unl_bytes _ _ _ _ Bytes.nil hb hu
        unfold fin
        dsimp only
        split
        · rename_i he
          exact ⟨this.1, by simpa using this.2, fun _ => he, fun h => absurd rfl h⟩
        · exact ⟨Bytes.nil, by simp, (fun h => by cases h), fun _ => rfl⟩
noncomputable def opnb (l : List Int) : List Int × Int :=
  if (unst l).2 ≠ 0 then ([], (unst l).2) else if (unst l).1.length < 8 then ([], 2)
  else if lev ((unst l).1.drop ((unst l).1.length - 8)) ≠ ((wsum 0 ((unst l).1.take ((unst l).1.length - 8)) : Nat) : Int) then ([], 5) else ((unst l).1.take ((unst l).1.length - 8), 0)
set_option maxHeartbeats 4000000 in
theorem clos_told (w0 w : World) (g gx : Nat) (l : List Int) (ps : List HP) (hs : Sep.Sep w0 w (cur g l 0 true :: blk gx #[.int .u64 0] 30 :: ps)) (hb : Bytes l) (hl : l.length = 8) :
    Calls Try.prog 52 #[.pointer (some ⟨g, 0, none⟩), .pointer (some ⟨gx, 0, none⟩)] w fun e w2 =>
      ∃ (at2 : Nat) (x : Int) (qs : List HP), (x = 0 ∧ qs = [blk gx #[.int .u64 (lev l)] 30]) ∧ Sep.Sep w0 w2 (cur g l at2 true :: (qs ++ ps)) ∧ ((e = .returned (.tuple #[]) ∧ x = 0) ∨ e = .panicked [fault g x]) := by
  have hS := Aside0.mk hs
  clear hs
  go_enter Try.func52, Try.ntmps52
  go_wp2_with (fail)
  refine (cur_Eight_some w0 _ g 0 l _ hS.out hb (by omega) (by omega)).mono ?_
  rw [show (l.take (0 + 8)).drop 0 = l by rw [List.drop_zero, List.take_of_length_le (by omega)]]
  obtain ⟨z, hz⟩ : ∃ z, lev l = z := ⟨_, rfl⟩
  rw [hz]
  have hzA := Aside0.mk hz
  clear hz
  rintro e w2 ⟨rfl, h2⟩
  have hc2_0 : w2.cell? ⟨gx, 0, none⟩ = some (.int .u64 0) := ((h2.pick1).cell 0).trans rfl
  have hz2 := h2.pick1.frozen 0
  have hS2 : Sep.Sep w0 (w2.setCell ⟨gx, 0, none⟩ (.int .u64 z)) (cur g l (0 + 8) true :: blk gx #[.int .u64 z] 30 :: ps) := by
    have := (h2.pick1.set 0 (.int .u64 z)).put1
    simpa using this
  have hS2A := Aside0.mk hS2
  clear h2 hS2
  go_wp2
  go_end0
  exact ⟨0 + 8, 0, [blk gx #[.int .u64 z] 30], ⟨rfl, by rw [hzA.out]⟩, hS2A.out, .inl ⟨rfl, rfl⟩⟩
theorem finfo8 : (Try.prog.info? 5).map (fun i => (i.zero, i.size, i.bytes)) = some (some (.int .u8 0), 1, 1) := by kernel_rfl
set_option maxHeartbeats 8000000 in
set_option maxRecDepth 100000 in
theorem frame_open (w : World) (A : Option Addr) (c n : Nat) (l : List Int) (hn : n = l.length) (hC : Kd.C (Kd.int .u8) w A l.length l) (hc : l.length ≤ c) (hb : Bytes l) (hl : l.length ≤ 90000) :
    Calls Try.prog 19 #[.slice A n c] w fun e w' => ∃ (A2 : Option Addr) (c2 : Nat), e = .returned (.tuple #[.slice A2 (opnb l).1.length c2, .int .i64 (opnb l).2]) ∧ Kd.C (Kd.int .u8) w' A2 (opnb l).1.length (opnb l).1 ∧ (opnb l).1.length ≤ c2 ∧ Below w.heap.size w w' := by
  subst hn
  have hCA := Aside0.mk hC
  have hcA := Aside0.mk hc
  have hlA := Aside0.mk hl
  obtain ⟨k, hk⟩ := (unstuff_f l hb (by omega)).rounds
  have hk : cobs_Unstuff.f k l = some (unst l) := hk
  obtain ⟨hub, hul, hu0, hu1⟩ := unst_facts l hb
  obtain ⟨r1, r2, hu⟩ : ∃ r1 r2, unst l = (r1, r2) := ⟨_, _, rfl⟩
  have ho : opnb l = if r2 ≠ 0 then ([], r2) else if r1.length < 8 then ([], 2) else if lev (r1.drop (r1.length - 8)) ≠ ((wsum 0 (r1.take (r1.length - 8)) : Nat) : Int) then ([], 5) else (r1.take (r1.length - 8), 0) := by unfold opnb; rw [hu]
  rw [hu] at hk hub hul hu0 hu1
  have hkA := Aside0.mk hk
  have hoA := Aside0.mk ho
  have hulA := Aside0.mk hul
  have hmf : ∀ (fn : Fn) (first cap : Array Value) (w : World), (Instr.makeFunc fn first cap).run Try.prog w = .ok (.func fn first cap) w := fun _ _ _ _ => rfl
  clear hC hc hl hk ho hul hu hu0 hu1
  go_enter Try.func19, Try.ntmps19
  go_wp2_with (fail)
  refine (cobs_Unstuff.calls k (fun k_ => k_ < w.heap.size) A c l r1 r2 _ (Kd.V_mk hcA.out (Kd.C_F (Kd.heap_int .u8) hCA.out)) hkA.out).mono ?_
  rintro e w1 ⟨v1, rfl, ho1, hb1⟩
  have hS1 := Aside0.mk (Sep.row_new (Sep.start w) hb1 ho1)
  obtain ⟨A1, c1, rfl⟩ := Kd.R_slice ho1
  have hr1 := Aside0.mk (Kd.R_reads' ho1)
  clear ho1 hb1
  by_cases c0 : r2 = 0
  · subst c0
    by_cases c8 : r1.length < 8
    · have hd8 : decide (wrap64 ((r1.length : Int) - 8) < 0) = true := decide_eq_true (by rw [w64 (by omega) (by omega)]; omega)
      have hd8' : decide ((r1.length : Int) - 8 < 0) = true := decide_eq_true (by omega)
      go_wp2_with (fail)
      go_ret2
      rw [hoA.out, if_neg (by simp), if_pos c8]
      exact ⟨none, 0, rfl, Kd.C_nil _ _, Nat.le_refl _, hS1.out.1⟩
    · have hw8 : wrap64 ((r1.length : Int) - 8) = (r1.length : Int) - 8 := w64 (by omega) (by have := hulA.out; have := hlA.out; omega)
      have hd8 : decide ((r1.length : Int) - 8 < 0) = false := decide_eq_false (by omega)
      obtain ⟨i0, hi0, _, hsz, _⟩ := info_parts finfo8
      obtain ⟨m, hm⟩ : ∃ m : Nat, r1.length = m + 8 := ⟨r1.length - 8, by omega⟩
      have hmi : (r1.length : Int) - 8 = (m : Int) := by omega
      have hcut := cut_from (P := Try.prog) 39 5 .i64 Try.underlying39 hi0 1 hsz A1 r1.length c1 (m : Int) (by omega) (by omega)
      obtain ⟨A4, hA4⟩ : ∃ A4, A4 = (if c1 = m then A1 else A1.map (·.add (m * 1))) := ⟨_, rfl⟩
      rw [Int.toNat_natCast, ← hA4] at hcut
      have hC4 : Aside0 (∀ W, Kd.C (Kd.int .u8) W A1 r1.length r1 → Kd.C (Kd.int .u8) W A4 (r1.drop m).length (r1.drop m)) := ⟨fun W h => by
        rw [hA4]
        exact Kd.C_drop (m := m) (c := c1) h (by omega) hr1.out.2.1⟩
      have hcutT := cut_to (P := Try.prog) 39 5 .i64 Try.underlying39 hi0 A1 r1.length c1 (m : Int) (by omega) (by omega) hr1.out.2.1
      have hcutF := cut_full (P := Try.prog) 39 5 .i64 .i64 Try.underlying39 hi0 A1 r1.length c1 (m : Int) (by omega) (by omega) hr1.out.2.1
      rw [Int.toNat_natCast] at hcutT hcutF
      have hdl : (r1.drop m).length = 8 := by rw [List.length_drop]; omega
      have htl : (r1.take m).length = m := by rw [List.length_take]; omega
      have hm2 : r1.length - 8 = m := by omega
      have hm3 : r1.length - m = 8 := by omega
      have hmA := Aside0.mk hm
      have hdlA := Aside0.mk hdl
      have htlA := Aside0.mk htl
      have ho2 : Aside0 (opnb l = if lev (r1.drop m) ≠ ((wsum 0 (r1.take m) : Nat) : Int) then ([], 5) else (r1.take m, 0)) := ⟨by rw [hoA.out, if_neg (by simp), if_neg c8, hm2]⟩
      have hmle : m ≤ 90000 := by have := hulA.out; have := hlA.out; omega
      have hsl := wsum_lt 0 (r1.take m)
      have hm3A := Aside0.mk hm3
      clear hA4 hdl htl hm hoA hm2 hm3
      go_wp2_with (fail)
      have hrun := run_calls w _ A4 (c1 - m) (r1.drop m) 52 #[.pointer (some ⟨w1.heap.size, 0, none⟩)] [blk w1.heap.size #[.int .u64 0] 30] [row (Kd.int .u8) 5 (.slice A1 r1.length c1) r1] (fun at2 x qs => x = 0 ∧ qs = [blk w1.heap.size #[.int .u64 (lev (r1.drop m))] 30])
        Try.call52 (hS1.out.alloc #[.int .u64 0] 30) (hC4.out _ (Kd.C_alloc hr1.out.2.2 _)) (by rw [hdlA.out]; have := hr1.out.2.1; omega) (by rw [hdlA.out]; decide) (fun wq g ps' h => clos_told w wq g w1.heap.size (r1.drop m) ps' h (hub.drop m) hdlA.out)
      rw [show (r1.drop m).length = r1.length - m from List.length_drop] at hrun
      obtain ⟨z, hz⟩ : ∃ z, lev (r1.drop m) = z := ⟨_, rfl⟩
      rw [hz] at hrun ho2
      obtain ⟨y, hy⟩ : ∃ y, wsum 0 (r1.take m) = y := ⟨_, rfl⟩
      have hyA := Aside0.mk hy
      rw [hy] at ho2 hsl
      clear hz hy
      refine hrun.mono ?_
      clear hrun
      rintro e w2 ⟨at2, x, qs, ⟨rfl, rfl⟩, rfl, h2⟩
      have hS2 := Aside0.mk h2
      clear h2
      go_wp2_with (fail)
      have hc0 : w2.drew.cell? ⟨w1.heap.size, 0, none⟩ = some (.int .u64 z) := (hS2.out.drew.cell 0).trans rfl
      refine start_ (n := 6) (S := fun w' => w'.cell? ⟨w1.heap.size, 0, none⟩ = some (.int .u64 z)) (ds := []) #[false, false, false, false, false, false] (by kernel_rfl) rfl rfl (hc0) (fun hHeld => ?_)
      refine pure_ (i := 1) (N := some 27) (v := ?_) (a' := ?_) #[false, true, false, false, false, false] rfl rfl (by kernel_rfl) (fun _ _ _ h => h) (Or.inl ⟨by rfl, ?_⟩) ?_ ?_
      rotate_left
      · intro w'
        go_simp
        with_reducible rfl
      rotate_left
      · simp only [Act.put, List.setIfInBounds_toArray, List.set_cons_zero, List.set_cons_succ, i64_w, i32_w]
        rfl
      refine pure_ (i := 2) (N := some 28) (v := ?_) (a' := ?_) #[false, true, true, false, false, false] rfl rfl (by kernel_rfl) (fun _ _ _ h => h) (Or.inl ⟨by rfl, ?_⟩) ?_ ?_
      rotate_left
      · intro w'
        go_simp
        with_reducible rfl
      rotate_left
      · simp only [Act.put, List.setIfInBounds_toArray, List.set_cons_zero, List.set_cons_succ, i64_w, i32_w]
        rfl
      refine pure_ (i := 3) (N := some 29) (v := ?_) (a' := ?_) #[false, true, true, true, false, false] rfl rfl (by kernel_rfl) (fun _ _ _ h => h) (Or.inl ⟨by rfl, ?_⟩) ?_ ?_
      rotate_left
      · intro w'
        go_simp
        with_reducible rfl
      rotate_left
      · simp only [Act.put, List.setIfInBounds_toArray, List.set_cons_zero, List.set_cons_succ, i64_w, i32_w]
        rfl
      refine take_ (i := 0) (N := some 26) (v := ?_) (a' := ?_) #[true, true, true, true, false, false] rfl rfl (by kernel_rfl) (fun _ _ _ h => h) (Or.inl ⟨by rfl, ?_⟩) hHeld ?_ ?_
      rotate_left
      · intro w' s0
        go_simp
        with_reducible rfl
      rotate_left
      · simp only [Act.put, List.setIfInBounds_toArray, List.set_cons_zero, List.set_cons_succ, i64_w, i32_w]
        rfl
      refine one_ (i := 4) (N := some 30) #[true, true, true, true, true, false] rfl rfl (by kernel_rfl) (by decide) (fun K hK => ?_)
      refine goes_ Try.func54 (by kernel_rfl) rfl #[.int .u64 0, .slice A1 m c1] (by rfl) rfl rfl (by (try simp only [List.map_toArray, List.map_cons, List.map_nil]); first | done | rfl) ?_
      have hCt := Kd.C_take (m := m) (Kd.R_reads' hS2.out.drew.tail.row_R.choose_spec).2.2 (by have := hmA.out; omega)
      have hws := wide_Sum_calls w2.drew A1 c1 (r1.take m) 0 _ rfl hCt (by rw [htlA.out]; have := hr1.out.2.1; have := hmA.out; omega) (hub.take m) (by decide) (by rw [htlA.out]; omega)
      rw [htlA.out, hyA.out] at hws
      refine hws.mono ?_
      clear hws hCt
      rintro e w3 ⟨rfl, hb3⟩
      refine ⟨_, rfl, ?_⟩
      have hS3 := Aside0.mk (hS2.out.drew.below hb3)
      clear hb3
      refine hK.out _ _ ((hS3.out.cell 0).trans rfl) (fun hHeld => ?_)
      clear hK K
      refine norm_ (a' := ?_) ?_ ?_
      rotate_left
      · show Act.put _ (some 30) _ = _
        simp only [Act.put, List.setIfInBounds_toArray, List.set_cons_zero, List.set_cons_succ, i64_w, i32_w]
        rfl
      refine pure_ (i := 5) (N := some 31) (v := ?_) (a' := ?_) #[true, true, true, true, true, true] rfl rfl (by kernel_rfl) (fun _ _ _ h => h) (Or.inl ⟨by rfl, ?_⟩) ?_ ?_
      rotate_left
      · intro w'
        go_simp
        with_reducible rfl
      rotate_left
      · simp only [Act.put, List.setIfInBounds_toArray, List.set_cons_zero, List.set_cons_succ, i64_w, i32_w]
        rfl
      refine done_ (by kernel_rfl) ?_
      by_cases hzy : z = (y : Int)
      · have hne : (z != (y : Int)) = false := by rw [hzy]; simp
        have hne2 : decide (z ≠ (y : Int)) = false := decide_eq_false (by simpa using hzy)
        go_wp2_with (fail)
        go_ret2
        rw [ho2.out, if_neg (by simpa using hzy)]
        refine ⟨A1, m, by rw [htlA.out]; rfl, ?_, by rw [htlA.out]; exact Nat.le_refl _, hS3.out.1⟩
        exact Kd.C_take (m := m) (Kd.R_reads' hS3.out.tail.row_R.choose_spec).2.2 (by have := hmA.out; omega)
      · have hne : (z != (y : Int)) = true := bne_iff_ne.2 hzy
        have hne2 : decide (z ≠ (y : Int)) = true := decide_eq_true hzy
        go_wp2_with (fail)
        go_ret2
        rw [ho2.out, if_pos hzy]
        exact ⟨none, 0, rfl, Kd.C_nil _ _, Nat.le_refl _, hS3.out.1⟩
  · have hx : (r2 != 0) = true := bne_iff_ne.2 c0
    have hx2 : decide (r2 ≠ 0) = true := decide_eq_true c0
    go_wp2_with (fail)
    go_ret2
    rw [hoA.out, if_pos c0]
    exact ⟨none, 0, rfl, Kd.C_nil _ _, Nat.le_refl _, hS1.out.1⟩
end Go.Proofs.Ytekanmieppnpeaa.G
end
section
set_option linter.unusedVariables false
set_option linter.unusedSimpArgs false
namespace Go.Proofs.Ytekanmieppnpeaa.G
open Go Go.RowKit Go.Proofs.YtekanmieppnpeaaW.PrintWords Go.Proofs.YtekanmieppnpeaaW.PrintLast Go.Proofs.YtekanmieppnpeaaW.PrintMore Go.Proofs.Ytekanmieppnpeaa.PureKit Go.Proofs.Ytekanmieppnpeaa.Sep Go.Proofs.Ytekanmieppnpeaa.Rol Go.Proofs.Ytekanmieppnpeaa.LCobs
def unstc (b : List Int) : List Int × Int := if b.any (fun y => y == 0) = true then ([], 4) else if b = [] then ([], 2) else fin b (unl b.length [] b)
theorem unstc_eq (b : List Int) : unstc b = unst b := by
  unfold unstc unst
  by_cases h : NoZ b
  · have h1 : ¬ b.any (fun y => y == 0) = true := by
      rw [List.any_eq_true]
      rintro ⟨y, hy, h2⟩
      exact h y hy (eq_of_beq h2)
    rw [if_neg h1, if_neg (show ¬ ¬ NoZ b from fun h2 => h2 h)]
  · have h1 : b.any (fun y => y == 0) = true := by
      rw [List.any_eq_true]
      apply Classical.byContradiction
      intro h2
      exact h (fun y hy h3 => h2 ⟨y, hy, by rw [h3]; rfl⟩)
    rw [if_pos h1, if_pos h]
def opnbc (l : List Int) : List Int × Int :=
  if (unstc l).2 ≠ 0 then ([], (unstc l).2) else if (unstc l).1.length < 8 then ([], 2)
  else if lev ((unstc l).1.drop ((unstc l).1.length - 8)) ≠ ((wsum 0 ((unstc l).1.take ((unstc l).1.length - 8)) : Nat) : Int) then ([], 5) else ((unstc l).1.take ((unstc l).1.length - 8), 0)
theorem opnbc_eq (l : List Int) : opnbc l = opnb l := by
  unfold opnbc opnb
  rw [unstc_eq]
theorem opnb_small (l : List Int) (hb : Bytes l) : Bytes (opnb l).1 ∧ (opnb l).1.length ≤ l.length := by
  obtain ⟨h1, h2, _, _⟩ := unst_facts l hb
  unfold opnb
  split
  · exact ⟨Bytes.nil, by simp⟩
  · split
    · exact ⟨Bytes.nil, by simp⟩
    · split
      · exact ⟨Bytes.nil, by simp⟩
      · exact ⟨h1.take _, by rw [List.length_take]; omega⟩
end Go.Proofs.Ytekanmieppnpeaa.G
end
section
set_option linter.unusedVariables false
set_option linter.unusedSimpArgs false
namespace Go.Proofs.Ytekanmieppnpeaa.G
open Go Go.RowKit Go.Proofs.YtekanmieppnpeaaW.PrintWords Go.Proofs.YtekanmieppnpeaaW.PrintLast Go.Proofs.YtekanmieppnpeaaW.PrintMore Go.Proofs.Ytekanmieppnpeaa.PureKit Go.Proofs.Ytekanmieppnpeaa.Sep Go.Proofs.Ytekanmieppnpeaa.Rol Go.Proofs.Ytekanmieppnpeaa.LCobs Go.Proofs.Ytekanmieppnpeaa.Tb Go.Proofs.Ytekanmieppnpeaa.Fe
set_option maxRecDepth 100000
theorem equal_loop (a b : List Int) (hl : a.length ≤ 1000000) (he : a.length = b.length) : ∀ (d i : Nat), i + d = a.length → Ev (fun k => slices_Equal_uint64_uint64.l0 k a b (a.length : Int) (i : Int)) (decide (a.drop i = b.drop i))
  | 0, i, h => by
    rw [List.drop_of_length_le (by omega), List.drop_of_length_le (by omega), decide_eq_true rfl]
    refine Ev.step (f := fun _ => some true) (fun k => ?_) (Ev.now _)
    unfold slices_Equal_uint64_uint64.l0
    rw [if_neg (by omega)]
  | d + 1, i, h => by
    have hi : i < a.length := by omega
    have hj : i < b.length := by omega
    rw [List.drop_eq_getElem_cons hi, List.drop_eq_getElem_cons hj]
    by_cases hq : a[i] = b[i]
    · refine Ev.step (fun k => ?_) (Ev.eq (equal_loop a b hl he d (i + 1) (by omega)) (decide_eq_decide.2 (by rw [List.cons.injEq]; exact ⟨fun h => ⟨hq, h⟩, fun h => h.2⟩)))
      simp only [slices_Equal_uint64_uint64.l0]
      rw [if_pos (by omega), if_pos (by omega), if_pos (by omega), if_pos (by omega), rd_at a i hi, rd_at b i hj, if_pos hq, w64 (by omega) (by omega)]
      rfl
    · rw [decide_eq_false (fun h => hq (List.cons.inj h).1)]
      refine Ev.step (f := fun _ => some false) (fun k => ?_) (Ev.now _)
      simp only [slices_Equal_uint64_uint64.l0]
      rw [if_pos (by omega), if_pos (by omega), if_pos (by omega), if_pos (by omega), rd_at a i hi, rd_at b i hj, if_neg hq]
theorem equal_ev (a b : List Int) (hl : a.length ≤ 1000000) : Ev (fun k => slices_Equal_uint64_uint64.f k a b) (decide (a = b)) := by
  by_cases he : a.length = b.length
  · refine Ev.congr (fun k => ?_) (equal_loop a b hl he a.length 0 (by omega))
    unfold slices_Equal_uint64_uint64.f
    rw [if_pos (by omega)]
    rfl
  · rw [decide_eq_false (fun h => he (congrArg List.length h))]
    refine Ev.congr (f := fun _ => some false) (fun k => ?_) (Ev.now _)
    unfold slices_Equal_uint64_uint64.f
    rw [if_neg (by omega)]
theorem footrun_len (b : List Int) : (footrun b).2.2.1.length ≤ b.length ∧ (footrun b).2.2.2.length ≤ b.length := by
  unfold footrun footrun2
  repeat' split
  all_goals first | (simp [ffail]; done) | (simp only [entsAt_len, fensAt_len]; omega)
def footgot (r : Int × Int × List E1 × List Int) : Int × List E1 × Int :=
  if r.1 ≠ 0 then (0, [], r.1) else if checkF r.2.1 r.2.2.1 ≠ 0 then (0, [], checkF r.2.1 r.2.2.1) else if r.2.2.2 = fencesE r.2.2.1 then (r.2.1, r.2.2.1, 0) else (0, [], 4)
def footget (l : List Int) : Int × List E1 × Int := if (opnbc l).2 ≠ 0 then (0, [], (opnbc l).2) else footgot (footrun (opnbc l).1)
theorem footget_eq (l : List Int) : footget l = if (opnb l).2 ≠ 0 then (0, [], (opnb l).2) else footgot (footrun (opnb l).1) := by
  unfold footget
  rw [opnbc_eq]
def footer_Get.f (l0 : List Int) : Option (Int × List (S33) × Int) := if wbytesOK l0 = true ∧ l0.length ≤ 90000 then some (footget l0) else none
abbrev gFoot (g : Nat) (u : Int) (v : Value) : HP := blk g #[.int .u32 u, v] 29
theorem foot_ret {w w3 : World} {g : Nat} {u : Int} {v : Value} {T : List E1} {E : Int} {ps : List HP} (h3 : Sep.Sep w w3 (gFoot g u v :: row k33 33 v T :: ps)) :
    ∃ v1_ : Value, Ending.returned (.tuple #[.agg #[.int .u32 u, v], .int .i64 E]) = Ending.returned (.tuple #[.agg #[.int .u32 u, v1_], .int .i64 E]) ∧ Kd.R k33 33 w3 w.heap.size (fun _ => True) v1_ T ∧ Below w.heap.size w w3 := by
  obtain ⟨hb, bs, ⟨b1, b2, e, hp, hs⟩, hn, hr⟩ := h3.tail
  refine ⟨v, rfl, ?_, hb⟩
  exact Kd.R_raise (b := 0) (fun _ _ _ _ hm => hm) (Kd.R_mono hp (fun _ _ => trivial)) (fun j hj => (hr j (by rw [e]; exact List.mem_append_left _ (hp.1 j hj))).1)
set_option maxHeartbeats 8000000 in
theorem footer_Get.calls (A0 : Option Addr) (c0 : Nat) (l0 : List Int) (r1 : Int) (r2 : List (S33)) (r3 : Int) (w : World) (hr0 : Kd.C (Kd.int .u8) w A0 l0.length l0) (hc0 : l0.length ≤ c0) (h : footer_Get.f l0 = some (r1, r2, r3)) :
    Calls Try.prog 35 #[.slice A0 l0.length c0] w fun e w' => ∃ v1_ : Value, e = .returned (.tuple #[.agg #[.int .u32 r1, v1_], .int .i64 r3]) ∧ Kd.R k33 33 w' w.heap.size (fun _ => True) v1_ r2 ∧ Below w.heap.size w w' := by
  have hu := Try.underlying29
  have hmf : ∀ (fn : Fn) (first cap : Array Value) (w : World), (Instr.makeFunc fn first cap).run Try.prog w = .ok (.func fn first cap) w := fun _ _ _ _ => rfl
  obtain ⟨hb, hl, hro⟩ : Bytes l0 ∧ l0.length ≤ 90000 ∧ footget l0 = (r1, r2, r3) := by
    unfold footer_Get.f at h
    split at h
    · rename_i hh
      exact ⟨(wbytesOK_iff l0).1 hh.1, hh.2, Option.some.inj h⟩
    · cases h
  clear h
  obtain ⟨hob, hol⟩ := opnb_small l0 hb
  have hop := fun W (hC : Kd.C (Kd.int .u8) W A0 l0.length l0) => frame_open W A0 c0 l0.length l0 rfl hC hc0 hb hl
  obtain ⟨b7, e7, hq⟩ : ∃ b7 e7, opnb l0 = (b7, e7) := ⟨_, _, rfl⟩
  rw [footget_eq] at hro
  rw [hq] at hro hob hol hop
  dsimp only at hro hob hol hop
  have hopA := Aside0.mk hop
  have hobA := Aside0.mk hob
  have holA := Aside0.mk (show b7.length ≤ 90000 by omega)
  have hR := Aside0.mk hr0
  have hS := Aside0.mk ((Sep.start w).alloc #[.int .u32 0, .slice none 0 0] 29)
  clear hr0 hop hq hob hol hl hb
  by_cases he : e7 = 0
  rotate_left
  · rw [if_pos he] at hro
    have e1 : (e7 != 0) = true := bne_iff_ne.2 he
    obtain ⟨rfl, rfl, rfl⟩ : (0 : Int) = r1 ∧ ([] : List E1) = r2 ∧ e7 = r3 := by cases hro; exact ⟨rfl, rfl, rfl⟩
    clear hro
    go_enter Try.func35, Try.ntmps35
    go_wp2_with (fail)
    refine (hopA.out _ (Kd.C_alloc hR.out _)).mono ?_
    rintro e w1 ⟨A2, c2, rfl, hC2, hc2, hB2⟩
    have h2 := hS.out.below hB2
    have h2A := Aside0.mk h2
    have hd2_0 : w1.cell? ⟨w.heap.size, 0, none⟩ = some (.int .u32 0) := ((h2).cell 0).trans rfl; have hd2_1 : w1.cell? ⟨w.heap.size, 1, none⟩ = some (.slice none 0 0) := ((h2).cell 1).trans rfl
    have hz0 := h2.frozen 0
    have hz1 := h2.frozen 1
    clear h2 hC2 hc2 hB2
    go_wp2
    have h3 := (h2A.out.set 0 (.int .u32 0)).set 1 (.slice none 0 0)
    simp only [List.setIfInBounds_toArray, List.set_cons_zero, List.set_cons_succ] at h3
    try simp only [Exit.inBlock, Exit.then]
    refine bodyPost_ret (results_ct (P := Try.prog) Try.results35 _ _ w.heap.size 29 _ (0, 0) _ rfl h3.blk_at.1 hu rfl (by kernel_rfl)) rfl ?_
    exact foot_ret (h3.row_nil k33 33).pick1
  rw [if_neg (by rw [he]; decide)] at hro
  subst he
  have hrl := footrun_len b7
  go_enter Try.func35, Try.ntmps35
  go_wp2_with (fail)
  refine (hopA.out _ (Kd.C_alloc hR.out _)).mono ?_
  rintro e w1 ⟨A2, c2, rfl, hC2, hc2, hB2⟩
  have hS2 := ((hS.out.below hB2).alloc #[.int .u32 0, .slice none 0 0] 29).alloc #[.slice none 0 0] 31
  have hsz : ∀ (W : World) (o : Obj), (W.alloc o).heap.size = W.heap.size + 1 := fun W o => by show (W.heap.push _).size = _; simp
  rw [hsz] at hS2
  have hC3 := Aside0.mk (And.intro (Kd.C_alloc (Kd.C_alloc hC2 (.cells #[.int .u32 0, .slice none 0 0] 29 (0, 0))) (.cells #[.slice none 0 0] 31 (0, 0))) hc2)
  have hS2 := Aside0.mk hS2.pick1
  clear hC2 hc2 hB2 hS
  go_wp2_with (fail)
  obtain ⟨gf, hgf⟩ : ∃ gf, w1.heap.size = gf := ⟨_, rfl⟩
  rw [hgf] at hS2 ⊢
  refine (run_calls w _ A2 c2 b7 82 #[.pointer (some ⟨gf, 0, none⟩), .pointer (some ⟨gf + 1, 0, none⟩)] (capF gf (gf + 1) 0 none 0 0 none 0 0) [gFoot w.heap.size 0 (.slice none 0 0)] (fun at2 x qs => QF gf (gf + 1) b7 x qs)
    Try.call82 hS2.out hC3.out.1 hC3.out.2 (by have := holA.out; omega) (fun w1 g ps' h1 => clos_foot w w1 g gf (gf + 1) b7 ps' h1 hobA.out (by have := holA.out; omega))).mono ?_
  clear hC3 hS2 hgf
  rintro e w9 ⟨at2, x, qs, ⟨hx, hqs⟩, rfl, h9⟩
  obtain ⟨x2, u, T, F, hr⟩ : ∃ x2 u T F, footrun b7 = (x2, u, T, F) := ⟨_, _, _, _, rfl⟩
  rw [hr] at hro hx hqs hrl
  dsimp only at hx hqs hrl
  subst hx
  clear hr
  unfold footgot at hro
  dsimp only at hro
  by_cases hx0 : x = 0
  rotate_left
  · rw [if_pos hx0] at hro
    obtain ⟨rfl, rfl, rfl⟩ : (0 : Int) = r1 ∧ ([] : List E1) = r2 ∧ x = r3 := by cases hro; exact ⟨rfl, rfl, rfl⟩
    have e1 : (x != 0) = true := bne_iff_ne.2 hx0
    have e2 : (x == 0) = false := beq_eq_false_iff_ne.2 hx0
    have e3 : decide (x = 0) = false := decide_eq_false hx0
    have h9X := Aside0.mk h9.dropR
    clear h9 hro hqs hx0 hrl
    have h2A := Aside0.mk h9X.out.drew
    go_wp2_with (fail)
    refine start_ (n := 10) (S := fun w' => True) (ds := []) #[false, false, false, false, false, false, false, false, false, false] (by kernel_rfl) rfl rfl trivial (fun hHeld => ?_)
    generalize w9.drew = wq at h2A hHeld ⊢
    refine pure_ (i := 0) (N := some 27) (v := ?_) (a' := ?_) #[true, false, false, false, false, false, false, false, false, false] rfl rfl (by kernel_rfl) (fun _ _ _ h => h) (Or.inl ⟨by rfl, ?_⟩) ?_ ?_
    rotate_left
    · intro w'
      go_simp
      with_reducible rfl
    rotate_left
    · simp only [Act.put, List.setIfInBounds_toArray, List.set_cons_zero, List.set_cons_succ, i64_w, i32_w]
      rfl
    refine pure_ (i := 1) (N := some 28) (v := ?_) (a' := ?_) #[true, true, false, false, false, false, false, false, false, false] rfl rfl (by kernel_rfl) (fun _ _ _ h => h) (Or.inl ⟨by rfl, ?_⟩) ?_ ?_
    rotate_left
    · intro w'
      go_simp
      with_reducible rfl
    rotate_left
    · simp only [Act.put, List.setIfInBounds_toArray, List.set_cons_zero, List.set_cons_succ, i64_w, i32_w]
      rfl
    refine pure_ (i := 2) (N := some 29) (v := ?_) (a' := ?_) #[true, true, true, false, false, false, false, false, false, false] rfl rfl (by kernel_rfl) (fun _ _ _ h => h) (Or.inl ⟨by rfl, ?_⟩) ?_ ?_
    rotate_left
    · intro w'
      go_simp
      with_reducible rfl
    rotate_left
    · simp only [Act.put, List.setIfInBounds_toArray, List.set_cons_zero, List.set_cons_succ, i64_w, i32_w]
      rfl
    refine pure_ (i := 3) (N := some 30) (v := undef) (a' := ?_) #[true, true, true, true, false, false, false, false, false, false] rfl rfl (by kernel_rfl) (fun _ _ _ h => h) (Or.inr ⟨by rfl, rfl⟩) ?_ ?_
    rotate_left
    · simp only [Act.put, List.setIfInBounds_toArray, List.set_cons_zero, List.set_cons_succ, i64_w, i32_w]
      rfl
    refine pure_ (i := 4) (N := some 31) (v := undef) (a' := ?_) #[true, true, true, true, true, false, false, false, false, false] rfl rfl (by kernel_rfl) (fun _ _ _ h => h) (Or.inr ⟨by rfl, rfl⟩) ?_ ?_
    rotate_left
    · simp only [Act.put, List.setIfInBounds_toArray, List.set_cons_zero, List.set_cons_succ, i64_w, i32_w]
      rfl
    refine pure_ (i := 5) (N := some 32) (v := undef) (a' := ?_) #[true, true, true, true, true, true, false, false, false, false] rfl rfl (by kernel_rfl) (fun _ _ _ h => h) (Or.inr ⟨by rfl, rfl⟩) ?_ ?_
    rotate_left
    · simp only [Act.put, List.setIfInBounds_toArray, List.set_cons_zero, List.set_cons_succ, i64_w, i32_w]
      rfl
    refine pure_ (i := 6) (N := some 33) (v := undef) (a' := ?_) #[true, true, true, true, true, true, true, false, false, false] rfl rfl (by kernel_rfl) (fun _ _ _ h => h) (Or.inr ⟨by rfl, rfl⟩) ?_ ?_
    rotate_left
    · simp only [Act.put, List.setIfInBounds_toArray, List.set_cons_zero, List.set_cons_succ, i64_w, i32_w]
      rfl
    refine pure_ (i := 7) (N := some 34) (v := undef) (a' := ?_) #[true, true, true, true, true, true, true, true, false, false] rfl rfl (by kernel_rfl) (fun _ _ _ h => h) (Or.inr ⟨by rfl, rfl⟩) ?_ ?_
    rotate_left
    · simp only [Act.put, List.setIfInBounds_toArray, List.set_cons_zero, List.set_cons_succ, i64_w, i32_w]
      rfl
    refine pure_ (i := 8) (N := some 35) (v := undef) (a' := ?_) #[true, true, true, true, true, true, true, true, true, false] rfl rfl (by kernel_rfl) (fun _ _ _ h => h) (Or.inr ⟨by rfl, rfl⟩) ?_ ?_
    rotate_left
    · simp only [Act.put, List.setIfInBounds_toArray, List.set_cons_zero, List.set_cons_succ, i64_w, i32_w]
      rfl
    refine pure_ (i := 9) (N := some 36) (v := ?_) (a' := ?_) #[true, true, true, true, true, true, true, true, true, true] rfl rfl (by kernel_rfl) (fun _ _ _ h => h) (Or.inl ⟨by rfl, ?_⟩) ?_ ?_
    rotate_left
    · intro w'
      go_simp
      with_reducible rfl
    rotate_left
    · simp only [Act.put, List.setIfInBounds_toArray, List.set_cons_zero, List.set_cons_succ, i64_w, i32_w]
      rfl
    refine done_ (by kernel_rfl) ?_
    have h2 := h2A.out
    have hd2_0 : wq.cell? ⟨w.heap.size, 0, none⟩ = some (.int .u32 0) := ((h2).cell 0).trans rfl; have hd2_1 : wq.cell? ⟨w.heap.size, 1, none⟩ = some (.slice none 0 0) := ((h2).cell 1).trans rfl
    have hz0 := h2.frozen 0
    have hz1 := h2.frozen 1
    clear h2 hHeld
    go_wp2_with (fail)
    have h3 := (h2A.out.set 0 (.int .u32 0)).set 1 (.slice none 0 0)
    simp only [List.setIfInBounds_toArray, List.set_cons_zero, List.set_cons_succ] at h3
    try simp only [Exit.inBlock, Exit.then]
    refine bodyPost_ret (results_ct (P := Try.prog) Try.results35 _ _ w.heap.size 29 _ (0, 0) _ rfl h3.blk_at.1 hu rfl (by kernel_rfl)) rfl ?_
    exact foot_ret (h3.row_nil k33 33).pick1
  rw [if_neg (by rw [hx0]; decide)] at hro
  subst hx0
  obtain ⟨A, n, c, B, m, d, rfl⟩ := hqs rfl
  clear hqs
  have h9 : Sep.Sep w w9 [gFoot gf u (.slice A n c), blk (gf + 1) #[.slice B m d] 31, row (Kd.int .u64) 30 (.slice B m d) F, row kE 33 (.slice A n c) T, gFoot w.heap.size 0 (.slice none 0 0)] := h9
  obtain ⟨rfl, hcc, hCC⟩ := row_C h9.pick3
  obtain ⟨rfl, hcd, -⟩ := row_C h9.pick2
  have hS9 := Aside0.mk h9
  have hlT := Aside0.mk (show T.length ≤ 1000000 ∧ F.length ≤ 1000000 by have := holA.out; omega)
  obtain ⟨E, hE⟩ : ∃ E, checkF u T = E := ⟨_, rfl⟩
  have hck := check_call w9 A c u T hCC hcc hlT.out.1
  rw [hE] at hck hro
  have hckA := Aside0.mk hck
  have hcf_0 : w9.cell? ⟨gf, 0, none⟩ = some (.int .u32 u) := ((h9).cell 0).trans rfl; have hcf_1 : w9.cell? ⟨gf, 1, none⟩ = some (.slice A T.length c) := ((h9).cell 1).trans rfl
  clear h9 hcc hCC hcd hck hE hrl
  go_wp2_with (fail)
  refine hckA.out.mono ?_
  rintro e w10 ⟨rfl, hb10⟩
  have hS10 := Aside0.mk (hS9.out.below hb10)
  clear hb10 hcf_0 hcf_1 hS9 hckA
  by_cases hE0 : E = 0
  rotate_left
  · rw [if_pos hE0] at hro
    obtain ⟨rfl, rfl, rfl⟩ : (0 : Int) = r1 ∧ ([] : List E1) = r2 ∧ E = r3 := by cases hro; exact ⟨rfl, rfl, rfl⟩
    have e1 : (E != 0) = true := bne_iff_ne.2 hE0
    have e2 : (E == 0) = false := beq_eq_false_iff_ne.2 hE0
    have e3 : decide (E = 0) = false := decide_eq_false hE0
    have h9X := Aside0.mk hS10.out.tail.tail.tail.tail
    clear hS10 hro hE0
    have h2A := Aside0.mk h9X.out.drew
    go_wp2_with (fail)
    refine start_ (n := 10) (S := fun w' => True) (ds := []) #[false, false, false, false, false, false, false, false, false, false] (by kernel_rfl) rfl rfl trivial (fun hHeld => ?_)
    generalize w10.drew = wq at h2A hHeld ⊢
    refine pure_ (i := 0) (N := some 27) (v := ?_) (a' := ?_) #[true, false, false, false, false, false, false, false, false, false] rfl rfl (by kernel_rfl) (fun _ _ _ h => h) (Or.inl ⟨by rfl, ?_⟩) ?_ ?_
    rotate_left
    · intro w'
      go_simp
      with_reducible rfl
    rotate_left
    · simp only [Act.put, List.setIfInBounds_toArray, List.set_cons_zero, List.set_cons_succ, i64_w, i32_w]
      rfl
    refine pure_ (i := 1) (N := some 28) (v := ?_) (a' := ?_) #[true, true, false, false, false, false, false, false, false, false] rfl rfl (by kernel_rfl) (fun _ _ _ h => h) (Or.inl ⟨by rfl, ?_⟩) ?_ ?_
    rotate_left
    · intro w'
      go_simp
      with_reducible rfl
    rotate_left
    · simp only [Act.put, List.setIfInBounds_toArray, List.set_cons_zero, List.set_cons_succ, i64_w, i32_w]
      rfl
    refine pure_ (i := 2) (N := some 29) (v := ?_) (a' := ?_) #[true, true, true, false, false, false, false, false, false, false] rfl rfl (by kernel_rfl) (fun _ _ _ h => h) (Or.inl ⟨by rfl, ?_⟩) ?_ ?_
    rotate_left
    · intro w'
      go_simp
      with_reducible rfl
    rotate_left
    · simp only [Act.put, List.setIfInBounds_toArray, List.set_cons_zero, List.set_cons_succ, i64_w, i32_w]
      rfl
    refine pure_ (i := 3) (N := some 30) (v := undef) (a' := ?_) #[true, true, true, true, false, false, false, false, false, false] rfl rfl (by kernel_rfl) (fun _ _ _ h => h) (Or.inr ⟨by rfl, rfl⟩) ?_ ?_
    rotate_left
    · simp only [Act.put, List.setIfInBounds_toArray, List.set_cons_zero, List.set_cons_succ, i64_w, i32_w]
      rfl
    refine pure_ (i := 4) (N := some 31) (v := undef) (a' := ?_) #[true, true, true, true, true, false, false, false, false, false] rfl rfl (by kernel_rfl) (fun _ _ _ h => h) (Or.inr ⟨by rfl, rfl⟩) ?_ ?_
    rotate_left
    · simp only [Act.put, List.setIfInBounds_toArray, List.set_cons_zero, List.set_cons_succ, i64_w, i32_w]
      rfl
    refine pure_ (i := 5) (N := some 32) (v := undef) (a' := ?_) #[true, true, true, true, true, true, false, false, false, false] rfl rfl (by kernel_rfl) (fun _ _ _ h => h) (Or.inr ⟨by rfl, rfl⟩) ?_ ?_
    rotate_left
    · simp only [Act.put, List.setIfInBounds_toArray, List.set_cons_zero, List.set_cons_succ, i64_w, i32_w]
      rfl
    refine pure_ (i := 6) (N := some 33) (v := undef) (a' := ?_) #[true, true, true, true, true, true, true, false, false, false] rfl rfl (by kernel_rfl) (fun _ _ _ h => h) (Or.inr ⟨by rfl, rfl⟩) ?_ ?_
    rotate_left
    · simp only [Act.put, List.setIfInBounds_toArray, List.set_cons_zero, List.set_cons_succ, i64_w, i32_w]
      rfl
    refine pure_ (i := 7) (N := some 34) (v := undef) (a' := ?_) #[true, true, true, true, true, true, true, true, false, false] rfl rfl (by kernel_rfl) (fun _ _ _ h => h) (Or.inr ⟨by rfl, rfl⟩) ?_ ?_
    rotate_left
    · simp only [Act.put, List.setIfInBounds_toArray, List.set_cons_zero, List.set_cons_succ, i64_w, i32_w]
      rfl
    refine pure_ (i := 8) (N := some 35) (v := undef) (a' := ?_) #[true, true, true, true, true, true, true, true, true, false] rfl rfl (by kernel_rfl) (fun _ _ _ h => h) (Or.inr ⟨by rfl, rfl⟩) ?_ ?_
    rotate_left
    · simp only [Act.put, List.setIfInBounds_toArray, List.set_cons_zero, List.set_cons_succ, i64_w, i32_w]
      rfl
    refine pure_ (i := 9) (N := some 36) (v := ?_) (a' := ?_) #[true, true, true, true, true, true, true, true, true, true] rfl rfl (by kernel_rfl) (fun _ _ _ h => h) (Or.inl ⟨by rfl, ?_⟩) ?_ ?_
    rotate_left
    · intro w'
      go_simp
      with_reducible rfl
    rotate_left
    · simp only [Act.put, List.setIfInBounds_toArray, List.set_cons_zero, List.set_cons_succ, i64_w, i32_w]
      rfl
    refine done_ (by kernel_rfl) ?_
    have h2 := h2A.out
    have hd2_0 : wq.cell? ⟨w.heap.size, 0, none⟩ = some (.int .u32 0) := ((h2).cell 0).trans rfl; have hd2_1 : wq.cell? ⟨w.heap.size, 1, none⟩ = some (.slice none 0 0) := ((h2).cell 1).trans rfl
    have hz0 := h2.frozen 0
    have hz1 := h2.frozen 1
    clear h2 hHeld
    go_wp2_with (fail)
    have h3 := (h2A.out.set 0 (.int .u32 0)).set 1 (.slice none 0 0)
    simp only [List.setIfInBounds_toArray, List.set_cons_zero, List.set_cons_succ] at h3
    try simp only [Exit.inBlock, Exit.then]
    refine bodyPost_ret (results_ct (P := Try.prog) Try.results35 _ _ w.heap.size 29 _ (0, 0) _ rfl h3.blk_at.1 hu rfl (by kernel_rfl)) rfl ?_
    exact foot_ret (h3.row_nil k33 33).pick1
  rw [if_neg (by rw [hE0]; decide)] at hro
  subst hE0
  obtain ⟨ke, hke⟩ := (equal_ev F (fencesE T) hlT.out.2).rounds
  have hkeA := Aside0.mk hke
  have hof := Aside0.mk (fun W (hC : kE.C W A T.length T) hc => fence_Of A c T hlT.out.1 hc W hC)
  have hS := Aside0.mk hS10.out.drew
  clear hke hS10
  go_wp2_with (fail)
  generalize hEq : decide (F = fencesE T) = R at *
  have hRA := Aside0.mk hEq
  clear hEq
  refine start_ (n := 10) (S := fun w' => w'.cell? ⟨gf + 1, 0, none⟩ = some (.slice B F.length d) ∧ w'.cell? ⟨gf, 1, none⟩ = some (.slice A T.length c)) (ds := []) #[false, false, false, false, false, false, false, false, false, false] (by kernel_rfl) rfl rfl ⟨(hS.out.pick1.cell 0).trans rfl, (hS.out.cell 1).trans rfl⟩ (fun hHeld => ?_)
  generalize w10.drew = wq at hS hHeld ⊢
  refine pure_ (i := 0) (N := some 27) (v := ?_) (a' := ?_) #[true, false, false, false, false, false, false, false, false, false] rfl rfl (by kernel_rfl) (fun _ _ _ h => h) (Or.inl ⟨by rfl, ?_⟩) ?_ ?_
  rotate_left
  · intro w'
    go_simp
    with_reducible rfl
  rotate_left
  · simp only [Act.put, List.setIfInBounds_toArray, List.set_cons_zero, List.set_cons_succ, i64_w, i32_w]
    rfl
  refine pure_ (i := 1) (N := some 28) (v := ?_) (a' := ?_) #[true, true, false, false, false, false, false, false, false, false] rfl rfl (by kernel_rfl) (fun _ _ _ h => h) (Or.inl ⟨by rfl, ?_⟩) ?_ ?_
  rotate_left
  · intro w'
    go_simp
    with_reducible rfl
  rotate_left
  · simp only [Act.put, List.setIfInBounds_toArray, List.set_cons_zero, List.set_cons_succ, i64_w, i32_w]
    rfl
  refine pure_ (i := 2) (N := some 29) (v := ?_) (a' := ?_) #[true, true, true, false, false, false, false, false, false, false] rfl rfl (by kernel_rfl) (fun _ _ _ h => h) (Or.inl ⟨by rfl, ?_⟩) ?_ ?_
  rotate_left
  · intro w'
    go_simp
    with_reducible rfl
  rotate_left
  · simp only [Act.put, List.setIfInBounds_toArray, List.set_cons_zero, List.set_cons_succ, i64_w, i32_w]
    rfl
  refine pure_ (i := 4) (N := some 31) (v := ?_) (a' := ?_) #[true, true, true, false, true, false, false, false, false, false] rfl rfl (by kernel_rfl) (fun _ _ _ h => h) (Or.inl ⟨by rfl, ?_⟩) ?_ ?_
  rotate_left
  · intro w'
    go_simp
    with_reducible rfl
  rotate_left
  · simp only [Act.put, List.setIfInBounds_toArray, List.set_cons_zero, List.set_cons_succ, i64_w, i32_w]
    rfl
  refine take_ (i := 3) (N := some 30) (v := ?_) (a' := ?_) #[true, true, true, true, true, false, false, false, false, false] rfl rfl (by kernel_rfl) (fun _ _ _ h => h) (Or.inl ⟨by rfl, ?_⟩) hHeld ?_ ?_
  rotate_left
  · rintro w' ⟨s0, s1⟩
    go_simp
    with_reducible rfl
  rotate_left
  · simp only [Act.put, List.setIfInBounds_toArray, List.set_cons_zero, List.set_cons_succ, i64_w, i32_w]
    rfl
  refine take_ (i := 5) (N := some 32) (v := ?_) (a' := ?_) #[true, true, true, true, true, true, false, false, false, false] rfl rfl (by kernel_rfl) (fun _ _ _ h => h) (Or.inl ⟨by rfl, ?_⟩) hHeld ?_ ?_
  rotate_left
  · rintro w' ⟨s0, s1⟩
    go_simp
    with_reducible rfl
  rotate_left
  · simp only [Act.put, List.setIfInBounds_toArray, List.set_cons_zero, List.set_cons_succ, i64_w, i32_w]
    rfl
  refine one_ (i := 6) (N := some 33) #[true, true, true, true, true, true, true, false, false, false] rfl rfl (by kernel_rfl) (by decide) (fun K hK => ?_)
  refine goes_ Try.func45 (by kernel_rfl) rfl #[.slice A T.length c] (by rfl) rfl rfl (by (try simp only [List.map_toArray, List.map_cons, List.map_nil]); first | done | rfl) ?_
  refine (hof.out _ (row_C hS.out.pick3).2.2 (row_C hS.out.pick3).2.1).mono ?_
  rintro e wq ⟨v33, rfl, ho, hb⟩
  refine ⟨_, rfl, ?_⟩
  obtain ⟨A33, c33, rfl, hc33, hC33⟩ := Kd.R_reads ho
  have hC33 := Aside0.mk (And.intro hc33 hC33)
  have hS := Aside0.mk (hS.out.below hb)
  clear ho hb hc33
  refine hK.out _ _ ⟨(hS.out.pick1.cell 0).trans rfl, (hS.out.cell 1).trans rfl⟩ (fun hHeld => ?_)
  clear hK K
  refine norm_ (a' := ?_) ?_ ?_
  rotate_left
  · show Act.put _ (some 33) _ = _
    simp only [Act.put, List.setIfInBounds_toArray, List.set_cons_zero, List.set_cons_succ, i64_w, i32_w]
    rfl
  refine one_ (i := 7) (N := some 34) #[true, true, true, true, true, true, true, true, false, false] rfl rfl (by kernel_rfl) (by decide) (fun K hK => ?_)
  refine goes_ Try.func86 (by kernel_rfl) rfl #[.slice B F.length d, .slice A33 (fencesE T).length c33] (by rfl) rfl rfl (by (try simp only [List.map_toArray, List.map_cons, List.map_nil]); first | done | rfl) ?_
  refine (slices_Equal_uint64_uint64.calls ke B d F A33 c33 (fencesE T) R _ (row_C hS.out.pick2).2.2 (row_C hS.out.pick2).2.1 hC33.out.2 hC33.out.1 hkeA.out).mono ?_
  rintro e wq ⟨rfl, hb⟩
  refine ⟨_, rfl, ?_⟩
  have hS := Aside0.mk (hS.out.below hb.below)
  clear hb
  refine hK.out _ _ ⟨(hS.out.pick1.cell 0).trans rfl, (hS.out.cell 1).trans rfl⟩ (fun hHeld => ?_)
  clear hK K
  refine norm_ (a' := ?_) ?_ ?_
  rotate_left
  · show Act.put _ (some 34) _ = _
    simp only [Act.put, List.setIfInBounds_toArray, List.set_cons_zero, List.set_cons_succ, i64_w, i32_w]
    rfl
  refine pure_ (i := 8) (N := some 35) (v := ?_) (a' := ?_) #[true, true, true, true, true, true, true, true, true, false] rfl rfl (by kernel_rfl) (fun _ _ _ h => h) (Or.inl ⟨by rfl, ?_⟩) ?_ ?_
  rotate_left
  · intro w'
    go_simp
    with_reducible rfl
  rotate_left
  · simp only [Act.put, List.setIfInBounds_toArray, List.set_cons_zero, List.set_cons_succ, i64_w, i32_w]
    rfl
  refine pure_ (i := 9) (N := some 36) (v := ?_) (a' := ?_) #[true, true, true, true, true, true, true, true, true, true] rfl rfl (by kernel_rfl) (fun _ _ _ h => h) (Or.inl ⟨by rfl, ?_⟩) ?_ ?_
  rotate_left
  · intro w'
    go_simp
    with_reducible rfl
  rotate_left
  · simp only [Act.put, List.setIfInBounds_toArray, List.set_cons_zero, List.set_cons_succ, i64_w, i32_w]
    rfl
  refine done_ (by kernel_rfl) ?_
  have hq := hS.out
  have h2 := hq.pick4
  have hcf_0 : wq.cell? ⟨gf, 0, none⟩ = some (.int .u32 u) := ((hq).cell 0).trans rfl; have hcf_1 : wq.cell? ⟨gf, 1, none⟩ = some (.slice A T.length c) := ((hq).cell 1).trans rfl
  have hd2_0 : wq.cell? ⟨w.heap.size, 0, none⟩ = some (.int .u32 0) := ((h2).cell 0).trans rfl; have hd2_1 : wq.cell? ⟨w.heap.size, 1, none⟩ = some (.slice none 0 0) := ((h2).cell 1).trans rfl
  have hz0 := h2.frozen 0
  have hz1 := h2.frozen 1
  clear hq h2 hHeld hof hkeA
  cases R with
  | true =>
    rw [if_pos (of_decide_eq_true hRA.out)] at hro
    obtain ⟨rfl, rfl, rfl⟩ : u = r1 ∧ T = r2 ∧ (0 : Int) = r3 := by cases hro; exact ⟨rfl, rfl, rfl⟩
    clear hro
    go_wp2_with (fail)
    have h3 := (hS.out.pick4.set 0 (.int .u32 u)).set 1 (.slice A T.length c)
    simp only [List.setIfInBounds_toArray, List.set_cons_zero, List.set_cons_succ] at h3
    try simp only [Exit.inBlock, Exit.then]
    refine bodyPost_ret (results_ct (P := Try.prog) Try.results35 _ _ w.heap.size 29 _ (0, 0) _ rfl h3.blk_at.1 hu rfl (by kernel_rfl)) rfl ?_
    exact foot_ret h3.pick4.pick1
  | false =>
    rw [if_neg (of_decide_eq_false hRA.out)] at hro
    obtain ⟨rfl, rfl, rfl⟩ : (0 : Int) = r1 ∧ ([] : List E1) = r2 ∧ (4 : Int) = r3 := by cases hro; exact ⟨rfl, rfl, rfl⟩
    clear hro
    go_wp2_with (fail)
    have h3 := (hS.out.pick4.set 0 (.int .u32 0)).set 1 (.slice none 0 0)
    simp only [List.setIfInBounds_toArray, List.set_cons_zero, List.set_cons_succ] at h3
    try simp only [Exit.inBlock, Exit.then]
    refine bodyPost_ret (results_ct (P := Try.prog) Try.results35 _ _ w.heap.size 29 _ (0, 0) _ rfl h3.blk_at.1 hu rfl (by kernel_rfl)) rfl ?_
    exact foot_ret (h3.row_nil k33 33).pick1
end Go.Proofs.Ytekanmieppnpeaa.G
end
section
set_option linter.unusedVariables false
set_option linter.unusedSimpArgs false
namespace Go.Proofs.Ytekanmieppnpeaa.Sep
open Go Go.RowKit Go.Proofs.Ytekanmieppnpeaa.G Go.Proofs.YtekanmieppnpeaaW.PrintWords Go.Proofs.YtekanmieppnpeaaW.PrintLast Go.Proofs.YtekanmieppnpeaaW.PrintMore Go.Proofs.Ytekanmieppnpeaa.PureKit
set_option maxRecDepth 100000 in
theorem value_l0 (l : List Int) (hb : Bytes l) (hl : l.length ≤ 8) : ∀ (j : Nat), j ≤ l.length → Ev (fun k => fascicleref01_Value.l0 k (strOfNums l) (lev (l.drop j)) ((j : Int) - 1)) (lev l) := by
  intro j
  induction j with
  | zero =>
    intro _
    refine Ev.step (f := fun _ => some (lev l)) (fun k => ?_) (Ev.now _)
    simp only [fascicleref01_Value.l0]
    rw [if_neg (by omega)]
    rfl
  | succ j ih =>
    intro hj
    have hj1 : j < l.length := by omega
    refine Ev.step (fun k => ?_) (ih (by omega))
    simp only [fascicleref01_Value.l0]
    have hx := hb _ (List.getElem_mem hj1)
    have hd := List.drop_eq_getElem_cons hj1
    have hbd := lev_bound (l.drop (j + 1)) (hb.drop _)
    have hle : (256 : Int) ^ (l.drop (j + 1)).length ≤ 256 ^ 7 := by
      have := Nat.pow_le_pow_right (show 0 < 256 by decide) (show (l.drop (j + 1)).length ≤ 7 by rw [List.length_drop]; omega)
      exact_mod_cast this
    have h7 : (256 : Int) ^ 7 = 72057594037927936 := by decide
    rw [if_pos (by omega), if_pos (by omega), if_pos (by rw [nums_size]; omega), show (((j + 1 : Nat) : Int) - 1) = (j : Int) by omega, bt_nums l hb j hj1]
    rw [wu64 (x := lev (l.drop (j + 1)) * 256) (by omega) (by omega), wu64 (x := l[j]) (by omega) (by omega), wu64 (by omega) (by omega), w64 (by omega) (by omega), hd]
    congr 1
    show lev (l.drop (j + 1)) * 256 + l[j] = l[j] + 256 * lev (l.drop (j + 1))
    omega
theorem value_f (l : List Int) (hb : Bytes l) (hl : l.length ≤ 8) : Ev (fun k => fascicleref01_Value.f k (strOfNums l)) (lev l) := by
  have := value_l0 l hb hl l.length (Nat.le_refl _)
  refine Ev.congr (fun k => ?_) this
  unfold fascicleref01_Value.f
  rw [nums_size, w64 (by omega) (by omega), List.drop_length]
  rfl
theorem take_short (s : List Int) (at_ n : Int) (hn : 0 < n) (hs : n > s.length) : Ev (fun k => fascicleref01_Take.f k (strOfNums s) at_ 0 n) (strOfNums s, at_, 2, strOfNums []) := by
  refine Ev.step (f := fun _ => some (strOfNums s, at_, 2, strOfNums [])) (fun k => ?_) (Ev.now _)
  unfold fascicleref01_Take.f
  rw [if_pos rfl, decide_eq_false (by omega)]
  simp only [fascicleref01_Take.j0]
  rw [if_neg (by decide), if_pos (by rw [nums_size]; omega)]
  rfl
theorem take_some (s : List Int) (at_ : Int) (n : Nat) (hn : 0 < n) (hs : n ≤ s.length) (h0 : 0 ≤ at_) (h1 : at_ + n ≤ 1000000000000000) : Ev (fun k => fascicleref01_Take.f k (strOfNums s) at_ 0 n) (strOfNums (s.drop n), at_ + n, 0, strOfNums (s.take n)) := by
  refine Ev.step (f := fun _ => some (strOfNums (s.drop n), at_ + n, 0, strOfNums (s.take n))) (fun k => ?_) (Ev.now _)
  unfold fascicleref01_Take.f
  rw [if_pos rfl, decide_eq_false (by omega)]
  simp only [fascicleref01_Take.j0]
  rw [if_neg (by decide), if_neg (by rw [nums_size]; omega), if_pos (by omega), if_pos (by rw [nums_size]; omega), w64 (by omega) (by omega), nums_size, nums_extract, nums_extract, Int.toNat_natCast, List.take_length, List.drop_zero]
theorem getn_short (s : List Int) (at_ n : Int) (hn : 0 < n) (hs : n > s.length) : Ev (fun k => fascicleref01_Get.f k (strOfNums s) at_ 0 n) (strOfNums s, at_, 2, 0) := by
  unfold fascicleref01_Get.f
  refine Ev.bind (take_short s at_ n hn hs) ?_
  exact Ev.bind (value_f [] Bytes.nil (by decide)) (Ev.now _)
theorem getn_some (s : List Int) (at_ : Int) (n : Nat) (hn : 0 < n) (hn8 : n ≤ 8) (hb : Bytes s) (hs : n ≤ s.length) (h0 : 0 ≤ at_) (h1 : at_ + n ≤ 1000000000000000) : Ev (fun k => fascicleref01_Get.f k (strOfNums s) at_ 0 n) (strOfNums (s.drop n), at_ + n, 0, lev (s.take n)) := by
  unfold fascicleref01_Get.f
  refine Ev.bind (take_some s at_ n hn hs h0 h1) ?_
  exact Ev.bind (value_f (s.take n) (hb.take _) (by rw [List.length_take]; omega)) (Ev.now _)
end Go.Proofs.Ytekanmieppnpeaa.Sep
end
section
set_option linter.unusedVariables false
set_option linter.unusedSimpArgs false
namespace Go.Proofs.Ytekanmieppnpeaa.Tb
open Go Go.RowKit Go.Proofs.Ytekanmieppnpeaa.G Go.Proofs.YtekanmieppnpeaaW.PrintWords Go.Proofs.YtekanmieppnpeaaW.PrintLast Go.Proofs.YtekanmieppnpeaaW.PrintMore Go.Proofs.Ytekanmieppnpeaa.PureKit Go.Proofs.Ytekanmieppnpeaa.Sep
theorem nbT_bytes : ∀ (n : Nat) (x : Int), Bytes (nbytes n x)
  | 0, _ => Bytes.nil
  | n + 1, x => Bytes.cons (by omega) (nbT_bytes n _)
theorem nbT_levN : ∀ (n y : Nat), lev (nbytes n (y : Int)) = ((y % 256 ^ n : Nat) : Int)
  | 0, y => by simp [nbytes, lev]
  | n + 1, y => by
    have hp : 256 ^ (n + 1) = 256 * 256 ^ n := by rw [Nat.pow_succ, Nat.mul_comm]
    have e := nbT_levN n (y / 256)
    have e4 : y % (256 * 256 ^ n) = y % 256 + 256 * (y / 256 % 256 ^ n) := Nat.mod_mul
    simp only [nbytes, lev]
    rw [show (y : Int) / 256 = ((y / 256 : Nat) : Int) by omega, e, hp, e4]
    generalize y / 256 % 256 ^ n = q
    omega
theorem nbT_lev (n : Nat) (x : Int) (h : 0 ≤ x) : lev (nbytes n x) = x % ((256 ^ n : Nat) : Int) := by
  obtain ⟨y, rfl⟩ := Int.eq_ofNat_of_zero_le h
  have := nbT_levN n y
  rw [show ((y % 256 ^ n : Nat) : Int) = (y : Int) % ((256 ^ n : Nat) : Int) from rfl] at this
  exact this
theorem nbT_drop {L a r : List Int} {p : Nat} (h : L.drop p = a ++ r) : (L.take (p + a.length)).drop p = a := by
  rw [← List.take_drop, h, List.take_left]
theorem nbT_refn0 (n : Nat) (hn : n ≤ 8) : ∀ (d i : Nat) (x : Int) (a : List Int), i + d = n → 0 ≤ x → x < 18446744073709551616 → a.length + d ≤ 100 → Ev (fun k => fascicleref01_Num.l0 k x (strOfNums a) (n : Int) (i : Int)) (strOfNums (a ++ nbytes d x)) := by
  intro d
  induction d with
  | zero =>
    intro i x a hi h0 h1 ha
    refine Ev.step (f := fun _ => some (strOfNums (a ++ nbytes 0 x))) (fun k => ?_) (Ev.now _)
    simp only [fascicleref01_Num.l0]
    rw [if_neg (by omega), nbytes, List.append_nil]
  | succ d ih =>
    intro i x a hi h0 h1 ha
    refine Ev.step (fun k => ?_) (Ev.eq (ih (i + 1) (x / 256) (a ++ [x % 256]) (by omega) (by omega) (by omega) (by simp; omega)) (by simp [nbytes]))
    simp only [fascicleref01_Num.l0]
    rw [if_pos (by omega), Int.tmod_eq_emod_of_nonneg h0, Int.tdiv_eq_ediv_of_nonneg h0]
    simp only [Option.bind_some]
    rw [if_pos (by rw [nums_size, nums_size]; simp only [List.length_cons, List.length_nil]; omega), PureKit.nums_append, wu64 (by omega) (by omega), w64 (by omega) (by omega), show x % 256 % 256 = x % 256 by omega]
    rfl
theorem nbT_refn (n : Nat) (x : Int) (hn : n ≤ 8) (h0 : 0 ≤ x) (h1 : x < 18446744073709551616) : Ev (fun k => fascicleref01_Num.f k x (n : Int)) (strOfNums (nbytes n x)) := by
  have := nbT_refn0 n hn n 0 x [] (by omega) h0 h1 (by simp; omega)
  exact this
end Go.Proofs.Ytekanmieppnpeaa.Tb
end
section
set_option linter.unusedVariables false
set_option linter.unusedSimpArgs false
namespace Go.Proofs.Ytekanmieppnpeaa.Tb
open Go Go.RowKit Go.Proofs.YtekanmieppnpeaaW.PrintWords Go.Proofs.YtekanmieppnpeaaW.PrintLast Go.Proofs.YtekanmieppnpeaaW.PrintMore Go.Proofs.Ytekanmieppnpeaa.PureKit Go.Proofs.Ytekanmieppnpeaa.Sep Go.Proofs.Ytekanmieppnpeaa.G
set_option maxRecDepth 100000
def fbytesL (l : List Int) : List Int := l.flatMap fun x => nbytes 8 x
theorem fbytesL_len (l : List Int) : (fbytesL l).length = 8 * l.length := by
  induction l with
  | nil => rfl
  | cons x l ih => unfold fbytesL at *; rw [List.flatMap_cons, List.length_append, nbytes_len, ih, List.length_cons]; omega
theorem nextI {i : Nat} (h : i < 1000000000) : wrap64 ((i : Int) + 1) = ((i + 1 : Nat) : Int) := by rw [w64 (by omega) (by omega)]; omega
theorem text12_loop (l : List Int) (hl : l.length ≤ 1000000) (hb : ∀ x ∈ l, 0 ≤ x ∧ x < 18446744073709551616) : ∀ (d i : Nat) (acc : List Int), i + d = l.length → acc.length ≤ 8 * i → Ev (fun k => fascicleref12_Text.l0 k (strOfNums acc) l (l.length : Int) (i : Int)) (strOfNums (acc ++ fbytesL (l.drop i)))
  | 0, i, acc, h, ha => by
    rw [List.drop_of_length_le (by omega), show fbytesL [] = [] from rfl, List.append_nil]
    refine Ev.step (f := fun _ => some (strOfNums acc)) (fun k => ?_) (Ev.now _)
    unfold fascicleref12_Text.l0
    rw [if_neg (by omega)]
  | d + 1, i, acc, h, ha => by
    have hi : i < l.length := by omega
    have hx := hb _ (List.getElem_mem hi)
    have hd := List.drop_eq_getElem_cons hi
    refine Ev.step (f := fun k => (fascicleref01_Num.f k (l[i]) 8).bind fun t => (if (strOfNums acc).size + t.size ≤ 9223372036854775807 then (fascicleref12_Text.l0 k (strOfNums acc ++ t) l (l.length : Int) ((i + 1 : Nat) : Int)) else none)) (fun k => ?_) ?_
    · conv => lhs; unfold fascicleref12_Text.l0
      rw [if_pos (by omega), if_pos (by omega), if_pos (by omega), rd_at l i hi, nextI (by omega)]
    refine Ev.bind (f := fun k t => (if (strOfNums acc).size + t.size ≤ 9223372036854775807 then (fascicleref12_Text.l0 k (strOfNums acc ++ t) l (l.length : Int) ((i + 1 : Nat) : Int)) else none)) (nbT_refn 8 (l[i]) (by decide) hx.1 hx.2) ?_
    have := text12_loop l hl hb d (i + 1) (acc ++ nbytes 8 (l[i])) (by omega) (by rw [List.length_append, nbytes_len]; omega)
    refine Ev.congr (f := fun k => fascicleref12_Text.l0 k (strOfNums (acc ++ nbytes 8 (l[i]))) l (l.length : Int) ((i + 1 : Nat) : Int)) (fun k => ?_) (Ev.eq this ?_)
    · rw [if_pos (by rw [nums_size, nums_size, nbytes_len]; omega), PureKit.nums_append]
    · rw [hd, List.append_assoc]; rfl
theorem text12_ev (l : List Int) (hl : l.length ≤ 1000000) (hb : ∀ x ∈ l, 0 ≤ x ∧ x < 18446744073709551616) : Ev (fun k => fascicleref12_Text.f k l) (strOfNums (fbytesL l)) :=
  text12_loop l hl hb l.length 0 [] (by omega) (Nat.le_refl _)
theorem lev8_at (s : List Int) (p : Nat) : lev ((s.drop p).take 8) = fenAt s p := by
  unfold fenAt
  rw [List.drop_take, Nat.add_sub_cancel_left]
theorem fail12 (S : ByteArray) (a e : Int) : fascicleref01_Fail.f S a 0 e = some (S, a, e) := by unfold fascicleref01_Fail.f; rw [if_pos rfl]
def ref12g (s : List Int) (a : Int) (m : Nat) : ByteArray × Int × Int × List Int := if risesF (fensAt s 0 m) = true then (strOfNums (s.drop (8 * m)), a + 8 * m, 0, fensAt s 0 m) else (strOfNums (s.drop (8 * m)), a + 8 * m, 8, [])
end Go.Proofs.Ytekanmieppnpeaa.Tb
end
section
set_option linter.unusedVariables false
set_option linter.unusedSimpArgs false
namespace Go.Proofs.Ytekanmieppnpeaa.Tb
open Go Go.RowKit Go.Proofs.Ytekanmieppnpeaa.G Go.Proofs.YtekanmieppnpeaaW.PrintWords Go.Proofs.YtekanmieppnpeaaW.PrintLast Go.Proofs.YtekanmieppnpeaaW.PrintMore Go.Proofs.Ytekanmieppnpeaa.PureKit
abbrev R1 := S135
def toR (x : E1) : R1 := ⟨x.f0, x.f1⟩
def refsE (l : List E1) : List R1 := l.map toR
theorem refsE_len (l : List E1) : (refsE l).length = l.length := by unfold refsE; rw [List.length_map]
theorem rdR (l : List E1) (i : Nat) (x : E1) (h : l[i]? = some x) : rd_T135 (refsE l) (i : Int) = toR x := by
  unfold rd_T135 refsE
  rw [Int.toNat_natCast, List.getD_eq_getElem?_getD, List.getElem?_map, h]; rfl
theorem less_f0 (x y : E1) : fascicleref11_less.f x.f0 x.f1 y.f0 y.f1 = some (decide (lessE x y)) := by
  unfold fascicleref11_less.f
  by_cases h1 : x.f0 < y.f0
  · have h : lessE x y := Or.inl h1
    rw [if_pos h1, decide_eq_true h]
  · rw [if_neg h1]
    by_cases h2 : x.f0 = y.f0
    · rw [if_pos h2]
      by_cases h3 : x.f1 < y.f1
      · have h : lessE x y := Or.inr ⟨h2, h3⟩
        rw [decide_eq_true h3, decide_eq_true h]
      · have h : ¬ lessE x y := fun hh => by unfold lessE at hh; omega
        rw [decide_eq_false h3, decide_eq_false h]
    · have h : ¬ lessE x y := fun hh => by unfold lessE at hh; omega
      rw [if_neg h2, decide_eq_false h]
theorem less_f (x y : E1) : fascicleref11_less.f (toR x).f0 (toR x).f1 (toR y).f0 (toR y).f1 = some (decide (lessE x y)) := less_f0 x y
theorem same_loop (l : List E1) (hl : l.length ≤ 1000000) : ∀ (d i : Nat), i + d = l.length → Ev (fun k => fasciclelaw11_Same.l0 k l (refsE l) (l.length : Int) (i : Int)) true
  | 0, i, h => by
    refine Ev.step (f := fun _ => some true) (fun k => ?_) (Ev.now _)
    unfold fasciclelaw11_Same.l0
    rw [if_neg (by omega)]
  | d + 1, i, h => by
    obtain ⟨x, hx⟩ : ∃ x, l[i]? = some x := ⟨_, List.getElem?_eq_getElem (by omega)⟩
    refine Ev.step (f := fun k => fasciclelaw11_Same.l0 k l (refsE l) (l.length : Int) ((i + 1 : Nat) : Int)) (fun k => ?_) (same_loop l hl d (i + 1) (by omega))
    simp only [fasciclelaw11_Same.l0]
    rw [if_pos (by omega), if_pos (by omega), if_pos (by omega), if_pos (by rw [refsE_len]; omega), rdE l i x hx, rdR l i x hx, inc64 (by omega)]
    simp [toR]
theorem same_ev (l : List E1) (hl : l.length ≤ 1000000) : Ev (fun k => fasciclelaw11_Same.f k l (refsE l)) true := by
  have := same_loop l hl l.length 0 (by omega)
  refine Ev.congr (f := fun k => fasciclelaw11_Same.l0 k l (refsE l) (l.length : Int) (0 : Nat)) (fun k => ?_) this
  unfold fasciclelaw11_Same.f
  rw [if_pos (by rw [refsE_len])]
  rfl
theorem refrise_loop (l : List E1) (hl : l.length ≤ 1000000) : ∀ (d i : Nat), i + 1 + d = l.length → Ev (fun k => fascicleref11_Rising.l0 k (refsE l) (l.length : Int) ((i + 1 : Nat) : Int)) (riseN l d i)
  | 0, i, h => by
    refine Ev.step (f := fun _ => some true) (fun k => ?_) (Ev.now _)
    unfold fascicleref11_Rising.l0
    rw [if_neg (by omega)]
  | d + 1, i, h => by
    obtain ⟨x, hx⟩ : ∃ x, l[i]? = some x := ⟨_, List.getElem?_eq_getElem (by omega)⟩
    obtain ⟨y, hy⟩ : ∃ y, l[i + 1]? = some y := ⟨_, List.getElem?_eq_getElem (by omega)⟩
    refine Ev.step (f := fun k => if lessE x y then fascicleref11_Rising.l0 k (refsE l) (l.length : Int) ((i + 1 + 1 : Nat) : Int) else some false) (fun k => ?_) ?_
    · simp only [fascicleref11_Rising.l0]
      rw [dec64 (by omega), if_pos (by omega), if_pos (by omega), if_pos (by omega), if_pos (by rw [refsE_len]; omega), if_pos (by omega), if_pos (by rw [refsE_len]; omega), rdR l i x hx, rdR l (i + 1) y hy, less_f, Option.bind_some, inc64 (by omega)]
      by_cases hxy : lessE x y
      · rw [decide_eq_true hxy, if_pos rfl, if_pos hxy]
      · rw [decide_eq_false hxy, if_neg (by decide), if_neg hxy]
    · unfold riseN
      rw [hx, hy]
      dsimp only
      by_cases hxy : lessE x y
      · exact Ev.congr (f := fun k => fascicleref11_Rising.l0 k (refsE l) (l.length : Int) ((i + 1 + 1 : Nat) : Int)) (fun k => if_pos hxy) (ev_eq (refrise_loop l hl d (i + 1) (by omega)) (if_pos hxy).symm)
      · exact Ev.congr (f := fun k => some false) (fun k => if_neg hxy) (ev_eq (Ev.now _) (if_neg hxy).symm)
theorem refrise_ev (l : List E1) (hl : l.length ≤ 1000000) : Ev (fun k => fascicleref11_Rising.f k (refsE l)) (riseE l) := by
  by_cases h : l.length = 0
  · refine Ev.step (f := fun _ => some true) (fun k => ?_) (ev_eq (Ev.now _) (by unfold riseE; rw [h]; rfl))
    unfold fascicleref11_Rising.f fascicleref11_Rising.l0
    rw [if_neg (by rw [refsE_len]; omega)]
  · refine Ev.step (f := fun k => fascicleref11_Rising.l0 k (refsE l) (l.length : Int) ((0 + 1 : Nat) : Int)) (fun k => ?_) (refrise_loop l hl (l.length - 1) 0 (by omega))
    unfold fascicleref11_Rising.f
    simp only [fascicleref11_Rising.l0]
    rw [if_pos (by rw [refsE_len]; omega), if_neg (by decide), refsE_len, show wrap64 (0 + 1) = ((0 + 1 : Nat) : Int) from inc64 (i := 0) (by decide)]
end Go.Proofs.Ytekanmieppnpeaa.Tb
end
section
set_option linter.unusedVariables false
set_option linter.unusedSimpArgs false
namespace Go.Proofs.Ytekanmieppnpeaa.Tb
open Go Go.RowKit Go.Proofs.YtekanmieppnpeaaW.PrintWords Go.Proofs.YtekanmieppnpeaaW.PrintLast Go.Proofs.YtekanmieppnpeaaW.PrintMore Go.Proofs.Ytekanmieppnpeaa.PureKit Go.Proofs.Ytekanmieppnpeaa.Sep Go.Proofs.Ytekanmieppnpeaa.G
set_option maxRecDepth 100000
theorem lev_at (s : List Int) (p n : Nat) : lev ((s.drop p).take n) = lev ((s.take (p + n)).drop p) := by rw [List.drop_take, Nat.add_sub_cancel_left]
theorem refsE_snoc (l : List E1) (x : E1) : refsE (l ++ [x]) = refsE l ++ [toR x] := by unfold refsE; rw [List.map_append]; rfl
def ref11g (s : List Int) (a : Int) (m : Nat) : ByteArray × Int × Int × List R1 := if riseE (entsAt s 0 m) = true then (strOfNums (s.drop (12 * m)), a + 12 * m, 0, refsE (entsAt s 0 m)) else (strOfNums (s.drop (12 * m)), a + 12 * m, 8, [])
end Go.Proofs.Ytekanmieppnpeaa.Tb
end
section
set_option linter.unusedVariables false
set_option linter.unusedSimpArgs false
namespace Go.Proofs.Ytekanmieppnpeaa.Tb
open Go Go.RowKit Go.Proofs.YtekanmieppnpeaaW.PrintWords Go.Proofs.YtekanmieppnpeaaW.PrintLast Go.Proofs.YtekanmieppnpeaaW.PrintMore Go.Proofs.Ytekanmieppnpeaa.PureKit Go.Proofs.Ytekanmieppnpeaa.Sep Go.Proofs.Ytekanmieppnpeaa.G
set_option maxHeartbeats 8000000
set_option maxRecDepth 100000
abbrev kR := k135
abbrev rdr (g : Nat) (S : ByteArray) (a e : Int) : HP := blk g #[.string S, .int .i64 a, .int .i64 e] 115
theorem rdr_ret {α : Type} {d : Kd α} {t : TypeId} {w w3 : World} {g : Nat} {S : ByteArray} {a e : Int} {v : Value} {T : List α} {ps : List HP} (hM : ∀ (W : World) (ok : Nat → Prop) (x : α) (cs : List Value), d.M W 0 ok x cs → d.M W w.heap.size ok x cs) (h3 : Sep.Sep w w3 (rdr g S a e :: row d t v T :: ps)) :
    ∃ v1_ : Value, Ending.returned (.tuple #[.agg #[.string S, .int .i64 a, .int .i64 e], v]) = Ending.returned (.tuple #[.agg #[.string S, .int .i64 a, .int .i64 e], v1_]) ∧ Kd.R d t w3 w.heap.size (fun _ => True) v1_ T ∧ Below w.heap.size w w3 := by
  obtain ⟨hb, bs, ⟨b1, b2, e, hp, hs⟩, hn, hr⟩ := h3.tail
  refine ⟨v, rfl, ?_, hb⟩
  exact Kd.R_raise (b := 0) hM (Kd.R_mono hp (fun _ _ => trivial)) (fun j hj => (hr j (by rw [e]; exact List.mem_append_left _ (hp.1 j hj))).1)
theorem rdr_set {w0 w : World} {g : Nat} {S S' : ByteArray} {a a' e e' : Int} {ps : List HP} (h : Sep.Sep w0 w (rdr g S a e :: ps)) : Sep.Sep w0 (((w.setCell ⟨g, 0, none⟩ (.string S')).setCell ⟨g, 1, none⟩ (.int .i64 a')).setCell ⟨g, 2, none⟩ (.int .i64 e')) (rdr g S' a' e' :: ps) := by
  have := ((h.set 0 (.string S')).set 1 (.int .i64 a')).set 2 (.int .i64 e')
  simpa using this
def g11 (s : List Int) (a : Int) (n : Nat) : ByteArray × Int × Int × List R1 := if s.length < 12 * n then (strOfNums s, a, 2, []) else ref11g s a n
theorem ref11_callE (w : World) (S : ByteArray) (a e n : Int) (he : e ≠ 0) :
    Calls Try.prog 87 #[.agg #[.string S, .int .i64 a, .int .i64 e], .int .i64 n] w fun r w' => ∃ v : Value, r = .returned (.tuple #[.agg #[.string S, .int .i64 a, .int .i64 e], v]) ∧ Kd.R kR 135 w' w.heap.size (fun _ => True) v [] ∧ Below w.heap.size w w' := by
  have hu := Try.underlying115
  have hsz : ∀ (W : World) (o : Obj), (W.alloc o).heap.size = W.heap.size + 1 := fun W o => by show (W.heap.push _).size = _; simp
  have hS0 := ((Sep.start w).alloc #[.string S, .int .i64 a, .int .i64 e] 115).alloc #[.string ByteArray.empty, .int .i64 0, .int .i64 0] 115
  rw [hsz] at hS0
  have hne : (e != 0) = true := bne_iff_ne.2 he
  have hc_0 : ((w.alloc (.cells #[.string S, .int .i64 a, .int .i64 e] 115 (0, 0))).alloc (.cells #[.string ByteArray.empty, .int .i64 0, .int .i64 0] 115 (0, 0))).cell? ⟨w.heap.size, 0, none⟩ = some (.string S) := ((hS0.pick1).cell 0).trans rfl; have hc_1 : ((w.alloc (.cells #[.string S, .int .i64 a, .int .i64 e] 115 (0, 0))).alloc (.cells #[.string ByteArray.empty, .int .i64 0, .int .i64 0] 115 (0, 0))).cell? ⟨w.heap.size, 1, none⟩ = some (.int .i64 a) := ((hS0.pick1).cell 1).trans rfl; have hc_2 : ((w.alloc (.cells #[.string S, .int .i64 a, .int .i64 e] 115 (0, 0))).alloc (.cells #[.string ByteArray.empty, .int .i64 0, .int .i64 0] 115 (0, 0))).cell? ⟨w.heap.size, 2, none⟩ = some (.int .i64 e) := ((hS0.pick1).cell 2).trans rfl
  have hd_0 : ((w.alloc (.cells #[.string S, .int .i64 a, .int .i64 e] 115 (0, 0))).alloc (.cells #[.string ByteArray.empty, .int .i64 0, .int .i64 0] 115 (0, 0))).cell? ⟨(w.heap.size + 1), 0, none⟩ = some (.string ByteArray.empty) := ((hS0).cell 0).trans rfl; have hd_1 : ((w.alloc (.cells #[.string S, .int .i64 a, .int .i64 e] 115 (0, 0))).alloc (.cells #[.string ByteArray.empty, .int .i64 0, .int .i64 0] 115 (0, 0))).cell? ⟨(w.heap.size + 1), 1, none⟩ = some (.int .i64 0) := ((hS0).cell 1).trans rfl; have hd_2 : ((w.alloc (.cells #[.string S, .int .i64 a, .int .i64 e] 115 (0, 0))).alloc (.cells #[.string ByteArray.empty, .int .i64 0, .int .i64 0] 115 (0, 0))).cell? ⟨(w.heap.size + 1), 2, none⟩ = some (.int .i64 0) := ((hS0).cell 2).trans rfl
  have hz0 := hS0.frozen 0
  have hz1 := hS0.frozen 1
  have hz2 := hS0.frozen 2
  have h4 := ((Sep.start w).alloc #[.string S, .int .i64 a, .int .i64 e] 115).alloc #[.string S, .int .i64 a, .int .i64 e] 115
  rw [hsz] at h4
  have hS1 := Aside0.mk h4
  clear hS0 he h4
  go_enter Try.func87, Try.ntmps87
  go_wp2_with (fail)
  have h4 := hS1.out
  refine bodyPost_ret (results_ct (P := Try.prog) Try.results87 _ _ (w.heap.size + 1) 115 _ (0, 0) _ rfl h4.blk_at.1 hu rfl (by kernel_rfl)) rfl ?_
  exact rdr_ret (fun _ _ _ _ hm => hm) (Sep.row_nil kR _ h4).pick1
theorem ref11_call (w : World) (s : List Int) (hb : Bytes s) (a : Int) (ha0 : 0 ≤ a) (ha : a ≤ 1000000) (hs : s.length ≤ 1000000) (m : Nat) :
    Calls Try.prog 87 #[.agg #[.string (strOfNums s), .int .i64 a, .int .i64 0], .int .i64 (m : Int)] w fun r w' => ∃ v : Value, r = .returned (.tuple #[.agg #[.string (g11 s a m).1, .int .i64 (g11 s a m).2.1, .int .i64 (g11 s a m).2.2.1], v]) ∧ Kd.R kR 135 w' w.heap.size (fun _ => True) v (g11 s a m).2.2.2 ∧ Below w.heap.size w w' := by
  have hu := Try.underlying115
  have hsz : ∀ (W : World) (o : Obj), (W.alloc o).heap.size = W.heap.size + 1 := fun W o => by show (W.heap.push _).size = _; simp
  have hS0 := ((Sep.start w).alloc #[.string (strOfNums s), .int .i64 a, .int .i64 0] 115).alloc #[.string ByteArray.empty, .int .i64 0, .int .i64 0] 115
  rw [hsz] at hS0
  have hS0A := Aside0.mk hS0
  have hc_0 : ((w.alloc (.cells #[.string (strOfNums s), .int .i64 a, .int .i64 0] 115 (0, 0))).alloc (.cells #[.string ByteArray.empty, .int .i64 0, .int .i64 0] 115 (0, 0))).cell? ⟨w.heap.size, 0, none⟩ = some (.string (strOfNums s)) := ((hS0.pick1).cell 0).trans rfl; have hc_1 : ((w.alloc (.cells #[.string (strOfNums s), .int .i64 a, .int .i64 0] 115 (0, 0))).alloc (.cells #[.string ByteArray.empty, .int .i64 0, .int .i64 0] 115 (0, 0))).cell? ⟨w.heap.size, 1, none⟩ = some (.int .i64 a) := ((hS0.pick1).cell 1).trans rfl; have hc_2 : ((w.alloc (.cells #[.string (strOfNums s), .int .i64 a, .int .i64 0] 115 (0, 0))).alloc (.cells #[.string ByteArray.empty, .int .i64 0, .int .i64 0] 115 (0, 0))).cell? ⟨w.heap.size, 2, none⟩ = some (.int .i64 0) := ((hS0.pick1).cell 2).trans rfl
  have hz0 := hS0.frozen 0
  have hz1 := hS0.frozen 1
  have hz2 := hS0.frozen 2
  clear hS0
  have zS : (strOfNums s).size = s.length := nums_size s
  obtain ⟨q, hq⟩ : ∃ q, Int.tdiv ((s.length : Int)) 12 = q := ⟨_, rfl⟩
  have hqe : q = (s.length : Int) / 12 := by rw [← hq, Int.tdiv_eq_ediv_of_nonneg (by omega)]
  have hwq : wrap64 q = q := w64 (by omega) (by omega)
  by_cases h0 : m = 0
  · subst h0
    have hd : decide (((0 : Nat) : Int) ≤ 0) = true := by decide
    have hg : g11 s a 0 = (strOfNums s, a, 0, []) := by
      unfold g11 ref11g
      rw [if_neg (by omega), if_pos (by rfl)]
      simp [entsAt, refsE]
    rw [hg]
    have h4 := ((Sep.start w).alloc #[.string (strOfNums s), .int .i64 a, .int .i64 0] 115).alloc #[.string (strOfNums s), .int .i64 a, .int .i64 0] 115
    rw [hsz] at h4
    have hS1 := Aside0.mk h4
    clear h4 hg hq hqe hwq hs ha ha0
    go_enter Try.func87, Try.ntmps87
    go_wp2_with (fail)
    have h4 := hS1.out
    refine bodyPost_ret (results_ct (P := Try.prog) Try.results87 _ _ (w.heap.size + 1) 115 _ (0, 0) _ rfl h4.blk_at.1 hu rfl (by kernel_rfl)) rfl ?_
    exact rdr_ret (fun _ _ _ _ hm => hm) (Sep.row_nil kR _ h4).pick1
  have hd : decide ((m : Int) ≤ 0) = false := decide_eq_false (by omega)
  have hd0 : decide (m = 0) = false := decide_eq_false h0
  by_cases hsh : s.length < 12 * m
  · have hg : g11 s a m = (strOfNums s, a, 2, []) := by unfold g11; rw [if_pos hsh]
    rw [hg]
    have hgt : decide ((m : Int) > q) = true := decide_eq_true (by omega)
    have hgt2 : decide (q < (m : Int)) = true := decide_eq_true (by omega)
    clear hg hqe hs ha ha0 hsh h0
    go_enter Try.func87, Try.ntmps87
    go_wp2_with (fail)
    refine (fascicleref01_Fail.calls (strOfNums s) a 0 2 (strOfNums s) a 2 _ (fail12 _ _ _)).mono ?_
    rintro e w1 ⟨rfl, hb1⟩
    have h1 := hS0A.out.below hb1
    have hd_0 : w1.cell? ⟨(w.heap.size + 1), 0, none⟩ = some (.string ByteArray.empty) := ((h1).cell 0).trans rfl; have hd_1 : w1.cell? ⟨(w.heap.size + 1), 1, none⟩ = some (.int .i64 0) := ((h1).cell 1).trans rfl; have hd_2 : w1.cell? ⟨(w.heap.size + 1), 2, none⟩ = some (.int .i64 0) := ((h1).cell 2).trans rfl
    have hy0 := h1.frozen 0
    have hy1 := h1.frozen 1
    have hy2 := h1.frozen 2
    have hS1 := Aside0.mk (rdr_set (S' := strOfNums s) (a' := a) (e' := 2) h1)
    clear h1 hb1
    go_wp2_with (fail)
    have h4 := hS1.out
    refine bodyPost_ret (results_ct (P := Try.prog) Try.results87 _ _ (w.heap.size + 1) 115 _ (0, 0) _ rfl h4.blk_at.1 hu rfl (by kernel_rfl)) rfl ?_
    exact rdr_ret (fun _ _ _ _ hm => hm) (Sep.row_nil kR _ h4).pick1
  have hgt : decide ((m : Int) > q) = false := decide_eq_false (by omega)
  have hgt2 : decide (q < (m : Int)) = false := decide_eq_false (by omega)
  have hg : g11 s a m = ref11g s a m := by unfold g11; rw [if_neg hsh]
  rw [hg]
  have hA := Aside0.mk (And.intro hsh (And.intro hs (And.intro ha0 ha)))
  have hbA := Aside0.mk hb
  have hS1 : Aside0 (Sep.Sep w _ [row kR 135 (.slice none 0 0) [], rdr w.heap.size (strOfNums s) a 0, rdr (w.heap.size + 1) ByteArray.empty 0 0]) := ⟨(Sep.row_nil kR 135 hS0A.out.pick1)⟩
  generalize hgg : w.heap.size = g at *
  clear hg hqe hs ha ha0 hsh hb hS0A
  go_enter Try.func87, Try.ntmps87
  go_wp2_with (fail)
  go_loopg [6, 27] m (fun kq v6 v27 w' => ∃ (i c6 : Nat) (A6 : Option Addr), v6 = .slice A6 i c6 ∧ v27 = .int .i64 (i : Int) ∧ Aside0 (i + kq = m) ∧ Aside0 (Sep.Sep w w' [row kR 135 (.slice A6 i c6) (refsE (entsAt s 0 i)), rdr g (strOfNums (s.drop (12 * i))) (a + 12 * (i : Int)) 0, rdr (g + 1) ByteArray.empty 0 0]))
  case atStart => exact ⟨0, 0, none, rfl, rfl, ⟨by omega⟩, ⟨by have h := hS1.out; rw [show a + 12 * (((0 : Nat)) : Int) = a by omega]; exact h⟩⟩
  case round =>
    clear hS1 hc_0 hc_1 hc_2 hz0 hz1 hz2 hwq
    obtain ⟨i, c6, A6, rfl, rfl, hI, hS⟩ := hrel
    by_cases him : i < m
    · obtain ⟨k1, rfl⟩ : ∃ k1, gk = k1 + 1 := ⟨gk - 1, by have := hI.out; omega⟩
      have e1 : decide ((i : Int) < (m : Int)) = true := decide_eq_true (by omega)
      have e2 : decide (i < m) = true := decide_eq_true him
      obtain ⟨hsh, hs, ha0, ha⟩ := hA.out
      have hnx : wrap64 ((i : Int) + 1) = ((i + 1 : Nat) : Int) := by rw [w64 (by omega) (by omega)]; omega
      have hI' : Aside0 (i + 1 + k1 = m) := ⟨by have := hI.out; omega⟩
      have hG := getn_some (s.drop (12 * i)) (a + 12 * (i : Int)) 8 (by decide) (by decide) (hbA.out.drop _) (by rw [List.length_drop]; omega) (by omega) (by omega)
      rw [lev_at, List.drop_drop, show a + 12 * (i : Int) + ((8 : Nat) : Int) = a + 12 * (i : Int) + 8 from rfl] at hG
      have hG4 := getn_some (s.drop (12 * i + 8)) (a + 12 * (i : Int) + 8) 4 (by decide) (by decide) (hbA.out.drop _) (by rw [List.length_drop]; omega) (by omega) (by omega)
      rw [lev_at, List.drop_drop, show 12 * i + 8 + 4 = 12 * (i + 1) by omega, show a + 12 * (i : Int) + 8 + ((4 : Nat) : Int) = a + 12 * ((i + 1 : Nat) : Int) by omega] at hG4
      have h4 := lev_lt s (12 * i + 8) 4 hbA.out (by omega)
      rw [show (256 : Int) ^ 4 = 4294967296 by decide] at h4
      have hsc := entsAt_succ s 0 i
      rw [Nat.zero_add] at hsc
      have hL : (refsE (entsAt s 0 i)).length = i := by rw [refsE_len, entsAt_len]
      have hE : toR (entAt s (12 * i)) = ⟨lev ((s.take (12 * i + 8)).drop (12 * i)), lev ((s.take (12 * i + 8 + 4)).drop (12 * i + 8))⟩ := rfl
      have hn1 : refsE (entsAt s 0 (i + 1)) = refsE (entsAt s 0 i) ++ [toR (entAt s (12 * i))] := by rw [hsc, refsE_snoc]
      rw [hE] at hn1
      rw [show 12 * i + 8 + 4 = 12 * (i + 1) by omega] at h4 hn1
      obtain ⟨k8, hk8⟩ := hG.rounds
      obtain ⟨k4, hk4⟩ := hG4.rounds
      generalize lev ((s.take (12 * i + 8)).drop (12 * i)) = x at *
      generalize lev ((s.take (12 * (i + 1))).drop (12 * i + 8)) = y at *
      generalize strOfNums (s.drop (12 * i + 8)) = S8 at *
      generalize hS12e : strOfNums (s.drop (12 * (i + 1))) = S12 at *
      have hS12A := Aside0.mk hS12e
      clear hS12e
      have hn1 := Aside0.mk hn1
      have hk8A := Aside0.mk hk8
      have hk4A := Aside0.mk hk4
      have hwy : IntKind.u32.wrap y = y := by rw [IntKind.wrap_u32]; omega
      have hwy2 : y % 4294967296 = y := Int.emod_eq_of_lt h4.1 h4.2
      have hLA : Aside0 ((refsE (entsAt s 0 i)).length = i ∧ (i + 1) * 16 ≤ 140737488355328) := ⟨hL, by omega⟩
      obtain ⟨a8, ha8⟩ : ∃ a8, a + 12 * (i : Int) + 8 = a8 := ⟨_, rfl⟩
      obtain ⟨a0, ha00⟩ : ∃ a0, a + 12 * (i : Int) = a0 := ⟨_, rfl⟩
      obtain ⟨a12, ha12⟩ : ∃ a12, a + 12 * ((i + 1 : Nat) : Int) = a12 := ⟨_, rfl⟩
      rw [ha8] at hk8A hk4A
      rw [ha12] at hk4A
      rw [ha00] at hk8A hS
      have ha12A := Aside0.mk ha12
      generalize hacc : refsE (entsAt s 0 i) = acc at *
      generalize hS0e : strOfNums (s.drop (12 * i)) = S0 at *
      have h1 := hS.out
      have hr_0 : wr.cell? ⟨g, 0, none⟩ = some (.string S0) := ((h1.pick1).cell 0).trans rfl; have hr_1 : wr.cell? ⟨g, 1, none⟩ = some (.int .i64 a0) := ((h1.pick1).cell 1).trans rfl; have hr_2 : wr.cell? ⟨g, 2, none⟩ = some (.int .i64 0) := ((h1.pick1).cell 2).trans rfl
      have hS := hS
      clear hsh hs ha0 ha hG hG4 h4 hsc hL hE hk8 hk4 him ha8 ha00 ha12 h1 hacc hS0e hI hA zS
      go_wp2_with (fail)
      refine (fascicleref01_Get.calls k8 S0 a0 0 8 S8 a8 0 x _ hk8A.out).mono ?_
      rintro e w5 ⟨rfl, hb5⟩
      have h5 := (hS.out.below hb5).alloc #[.string S8, .int .i64 a8, .int .i64 0] 115
      have hq_0 : (w5.alloc (.cells #[.string S8, .int .i64 a8, .int .i64 0] 115 (0, 0))).cell? ⟨w5.heap.size, 0, none⟩ = some (.string S8) := ((h5).cell 0).trans rfl; have hq_1 : (w5.alloc (.cells #[.string S8, .int .i64 a8, .int .i64 0] 115 (0, 0))).cell? ⟨w5.heap.size, 1, none⟩ = some (.int .i64 a8) := ((h5).cell 1).trans rfl; have hq_2 : (w5.alloc (.cells #[.string S8, .int .i64 a8, .int .i64 0] 115 (0, 0))).cell? ⟨w5.heap.size, 2, none⟩ = some (.int .i64 0) := ((h5).cell 2).trans rfl
      have hS5 := Aside0.mk h5
      clear h5 hb5 hr_0 hr_1 hr_2
      go_wp2_with (fail)
      obtain ⟨g7, hg7⟩ : ∃ g7, w5.heap.size = g7 := ⟨_, rfl⟩
      rw [hg7] at hS5 ⊢
      refine (fascicleref01_Get.calls k4 S8 a8 0 4 S12 a12 0 y _ hk4A.out).mono ?_
      rintro e w6 ⟨rfl, hb6⟩
      have h6 := hS5.out.below hb6
      have hp_0 : w6.cell? ⟨g7, 0, none⟩ = some (.string S8) := ((h6).cell 0).trans rfl; have hp_1 : w6.cell? ⟨g7, 1, none⟩ = some (.int .i64 a8) := ((h6).cell 1).trans rfl; have hp_2 : w6.cell? ⟨g7, 2, none⟩ = some (.int .i64 0) := ((h6).cell 2).trans rfl
      have hy0 := h6.frozen 0
      have hy1 := h6.frozen 1
      have hy2 := h6.frozen 2
      have hS6 := Aside0.mk (rdr_set (S' := S12) (a' := a12) (e' := 0) h6)
      clear h6 hb6 hq_0 hq_1 hq_2 hg7
      go_upto_region 10 with (fail)
      generalize ((w6.setCell ⟨g7, 0, none⟩ (.string S12)).setCell ⟨g7, 1, none⟩ (.int .i64 a12)).setCell ⟨g7, 2, none⟩ (.int .i64 0) = w7 at hS6 ⊢
      clear hp_0 hp_1 hp_2 hy0 hy1 hy2
      have h7 := hS6.out
      have hp_0 : w7.cell? ⟨g7, 0, none⟩ = some (.string S12) := ((h7).cell 0).trans rfl; have hp_1 : w7.cell? ⟨g7, 1, none⟩ = some (.int .i64 a12) := ((h7).cell 1).trans rfl; have hp_2 : w7.cell? ⟨g7, 2, none⟩ = some (.int .i64 0) := ((h7).cell 2).trans rfl
      have hr_0 : w7.cell? ⟨g, 0, none⟩ = some (.string S0) := ((h7.pick2).cell 0).trans rfl; have hr_1 : w7.cell? ⟨g, 1, none⟩ = some (.int .i64 a0) := ((h7.pick2).cell 1).trans rfl; have hr_2 : w7.cell? ⟨g, 2, none⟩ = some (.int .i64 0) := ((h7.pick2).cell 2).trans rfl
      have hy0 := h7.pick2.frozen 0
      have hy1 := h7.pick2.frozen 1
      have hy2 := h7.pick2.frozen 2
      have hS8 := Aside0.mk (rdr_set (S' := S12) (a' := a12) (e' := 0) h7.pick2)
      clear h7 hS6
      go_upto_region 11 with (fail)
      generalize ((w7.setCell ⟨g, 0, none⟩ (.string S12)).setCell ⟨g, 1, none⟩ (.int .i64 a12)).setCell ⟨g, 2, none⟩ (.int .i64 0) = w8 at hS8 ⊢
      clear hp_0 hp_1 hp_2 hr_0 hr_1 hr_2 hy0 hy1 hy2
      obtain ⟨bs, hRr, hGr⟩ := hS8.out.pick2.row_open
      have hR := Aside0.mk hRr
      have hG := Aside0.mk hGr
      clear hRr hGr
      go_wp2_with (first | ((with_reducible refine gate_builtin (b := .append) (xs := #[.tmp 40, .tmp 45]) rfl ?_); at_builtin; refine Kd.R_append kR (w0 := w8) 0 rfl (.tmp 40) (.tmp 45) 72 135 (.agg #[(.int .u64 0), (.int .u32 0)]) 16 rfl Try.underlying72 info135 rfl (by decide) (by omega) (.slice A6 i c6) acc (⟨x, y⟩ : R1) [.int .u64 x, .int .u32 y] (fun k => k ∈ bs ∨ w8.heap.size ≤ k) (fun _ => False) rfl (by first | (go_simp; done) | (go_simp; rfl)) ?aP (fun _ hk => hk.elim) ?aF ?aO ?aB ?aS ?aL ?_; (case aP => exact k135_mkM _ _ _ (⟨x, y⟩ : R1)); (case aF => exact fun _ h => .inr h); (case aO => exact Kd.R_mono hR.out (fun _ h => .inl h)); (case aB => exact Below.refl _ _); (case aS => exact Nat.zero_le _); (case aL => (rw [hLA.out.1]; exact hLA.out.2)); intro v9 w9 ho9 hb9 hg9 hat9; obtain ⟨A9, c9, rfl⟩ := Kd.R_slice ho9; have hS9 := Aside0.mk (hG.out w9 _ _ ho9 hg9); clear ho9 hb9 hg9 hat9))
      have hlen9 : Aside0 ((acc ++ [(⟨x, y⟩ : R1)]).length = i + 1) := ⟨by rw [List.length_append, hLA.out.1]; rfl⟩
      have hS10 : Aside0 (Sep.Sep w w9 [row kR 135 (.slice A9 (i + 1) c9) (acc ++ [(⟨x, y⟩ : R1)]), rdr g S12 a12 0, rdr (g + 1) ByteArray.empty 0 0]) := ⟨by
        have h := hS9.out
        rw [hlen9.out] at h
        exact h.pick3.pick3.tail.pick2.pick2⟩
      clear hS hS5 hS8 hS9 hR hG
      go_roundg k1
      case measure => omega
      case rel => exact ⟨i + 1, c9, A9, by first | rfl | (rw [← hlen9.out]; rfl) | (simp [hLA.out.1]), by first | rw [hnx] | rfl, hI', ⟨by rw [hn1.out, hS12A.out, ha12A.out]; exact hS10.out⟩⟩
    · have e1 : decide ((i : Int) < (m : Int)) = false := decide_eq_false (by omega)
      have e2 : decide (i < m) = false := decide_eq_false him
      have hie : i = m := by have := hI.out; omega
      subst hie
      obtain ⟨kr, hkr⟩ := (refrise_ev (entsAt s 0 i) (by rw [entsAt_len]; have := hA.out; omega)).rounds
      have hL : (refsE (entsAt s 0 i)).length = i := by rw [refsE_len, entsAt_len]
      obtain ⟨-, hc6, hC6⟩ := row_C hS.out
      have hcall := Aside0.mk (fascicleref11_Rising.calls kr A6 c6 (refsE (entsAt s 0 i)) _ wr hC6 hc6 hkr)
      rw [hL] at hcall
      obtain ⟨R, hRe⟩ : ∃ R, riseE (entsAt s 0 i) = R := ⟨_, rfl⟩
      rw [hRe] at hcall
      have hg : Aside0 (ref11g s a i = if R = true then (strOfNums (s.drop (12 * i)), a + 12 * i, 0, refsE (entsAt s 0 i)) else (strOfNums (s.drop (12 * i)), a + 12 * i, 8, [])) := ⟨by unfold ref11g; rw [hRe]⟩
      generalize refsE (entsAt s 0 i) = acc at *
      generalize strOfNums (s.drop (12 * i)) = S1 at *
      generalize a + 12 * (i : Int) = a1 at *
      clear him hkr hL hc6 hC6 hRe hI hA zS
      go_wp2_with (fail)
      refine hcall.out.mono ?_
      rintro e w2 ⟨rfl, hb2⟩
      have h2 := hS.out.below hb2
      have hr_0 : w2.cell? ⟨g, 0, none⟩ = some (.string S1) := ((h2.pick1).cell 0).trans rfl; have hr_1 : w2.cell? ⟨g, 1, none⟩ = some (.int .i64 a1) := ((h2.pick1).cell 1).trans rfl; have hr_2 : w2.cell? ⟨g, 2, none⟩ = some (.int .i64 0) := ((h2.pick1).cell 2).trans rfl
      have hd_0 : w2.cell? ⟨(g + 1), 0, none⟩ = some (.string ByteArray.empty) := ((h2.pick2).cell 0).trans rfl; have hd_1 : w2.cell? ⟨(g + 1), 1, none⟩ = some (.int .i64 0) := ((h2.pick2).cell 1).trans rfl; have hd_2 : w2.cell? ⟨(g + 1), 2, none⟩ = some (.int .i64 0) := ((h2.pick2).cell 2).trans rfl
      have hy0 := h2.pick2.frozen 0
      have hy1 := h2.pick2.frozen 1
      have hy2 := h2.pick2.frozen 2
      have hS2 := Aside0.mk h2
      clear h2 hb2 hcall hS
      cases R with
      | true =>
        have hgt : Aside0 (ref11g s a i = (S1, a1, 0, acc)) := ⟨by rw [hg.out, if_pos rfl]⟩
        have h4 := Aside0.mk (rdr_set (S' := S1) (a' := a1) (e' := 0) hS2.out.pick2)
        clear hg
        go_wp2_with (fail)
        refine bodyPost_ret (results_ct (P := Try.prog) Try.results87 _ _ (g + 1) 115 _ (0, 0) _ rfl h4.out.blk_at.1 hu rfl (by kernel_rfl)) rfl ?_
        rw [hgt.out]
        subst hgg
        exact rdr_ret (fun _ _ _ _ hm => hm) h4.out
      | false =>
        have hgt : Aside0 (ref11g s a i = (S1, a1, 8, [])) := ⟨by rw [hg.out, if_neg (by decide)]⟩
        clear hg hd_0 hd_1 hd_2 hy0 hy1 hy2
        go_wp2_with (fail)
        refine (fascicleref01_Fail.calls S1 a1 0 8 S1 a1 8 _ (fail12 _ _ _)).mono ?_
        rintro e w3 ⟨rfl, hb3⟩
        have h3 := hS2.out.below hb3
        have hd_0 : w3.cell? ⟨(g + 1), 0, none⟩ = some (.string ByteArray.empty) := ((h3.pick2).cell 0).trans rfl; have hd_1 : w3.cell? ⟨(g + 1), 1, none⟩ = some (.int .i64 0) := ((h3.pick2).cell 1).trans rfl; have hd_2 : w3.cell? ⟨(g + 1), 2, none⟩ = some (.int .i64 0) := ((h3.pick2).cell 2).trans rfl
        have hy0 := h3.pick2.frozen 0
        have hy1 := h3.pick2.frozen 1
        have hy2 := h3.pick2.frozen 2
        have h4 := Aside0.mk (rdr_set (S' := S1) (a' := a1) (e' := 8) h3.pick2)
        clear h3 hb3
        go_wp2_with (fail)
        refine bodyPost_ret (results_ct (P := Try.prog) Try.results87 _ _ (g + 1) 115 _ (0, 0) _ rfl h4.out.blk_at.1 hu rfl (by kernel_rfl)) rfl ?_
        rw [hgt.out]
        subst hgg
        exact rdr_ret (fun _ _ _ _ hm => hm) (Sep.row_nil kR _ h4.out).pick1
end Go.Proofs.Ytekanmieppnpeaa.Tb
end
section
set_option linter.unusedVariables false
set_option linter.unusedSimpArgs false
namespace Go.Proofs.Ytekanmieppnpeaa.Tb
open Go Go.RowKit Go.Proofs.YtekanmieppnpeaaW.PrintWords Go.Proofs.YtekanmieppnpeaaW.PrintLast Go.Proofs.YtekanmieppnpeaaW.PrintMore Go.Proofs.Ytekanmieppnpeaa.PureKit Go.Proofs.Ytekanmieppnpeaa.Sep Go.Proofs.Ytekanmieppnpeaa.G
set_option maxRecDepth 100000
theorem fbytesL_append (a b : List Int) : fbytesL (a ++ b) = fbytesL a ++ fbytesL b := List.flatMap_append ..
theorem fbytesL_bytes (l : List Int) : Bytes (fbytesL l) := by
  induction l with
  | nil => exact Bytes.nil
  | cons x l ih => unfold fbytesL at *; rw [List.flatMap_cons]; exact Bytes.append (nbT_bytes 8 _) ih
theorem fbytesL_drop (l : List Int) (i : Nat) (h : i < l.length) : (fbytesL l).drop (8 * i) = nbytes 8 (l[i]) ++ fbytesL (l.drop (i + 1)) := by
  have h1 : fbytesL l = fbytesL (l.take i) ++ fbytesL (l.drop i) := by rw [← fbytesL_append, List.take_append_drop]
  have h2 : (fbytesL (l.take i)).length = 8 * i := by rw [fbytesL_len, List.length_take]; congr 1; omega
  rw [h1, List.drop_left' h2, List.drop_eq_getElem_cons h]
  rfl
theorem fens_fbytesL (l : List Int) (hok : ∀ x ∈ l, 0 ≤ x ∧ x < 18446744073709551616) : fensAt (fbytesL l) 0 l.length = l := by
  unfold fensAt
  apply List.ext_getElem
  · rw [List.length_map, List.length_range]
  · intro i h1 h2
    rw [List.getElem_map, List.getElem_range]
    have hx := hok _ (List.getElem_mem h2)
    have h8 := nbT_drop (fbytesL_drop l i h2)
    rw [nbytes_len] at h8
    unfold fenAt
    rw [Nat.zero_add, h8, nbT_lev 8 _ hx.1, show ((256 ^ 8 : Nat) : Int) = 18446744073709551616 by decide]
    omega
end Go.Proofs.Ytekanmieppnpeaa.Tb
end
section
set_option linter.unusedVariables false
set_option linter.unusedSimpArgs false
namespace Go.Proofs.Ytekanmieppnpeaa.Tb
open Go Go.RowKit Go.Proofs.YtekanmieppnpeaaW.PrintWords Go.Proofs.YtekanmieppnpeaaW.PrintLast Go.Proofs.YtekanmieppnpeaaW.PrintMore Go.Proofs.Ytekanmieppnpeaa.PureKit Go.Proofs.Ytekanmieppnpeaa.Sep Go.Proofs.Ytekanmieppnpeaa.G
set_option maxHeartbeats 8000000
set_option maxRecDepth 100000
def g12 (s : List Int) (a : Int) (n : Nat) : ByteArray × Int × Int × List Int := if s.length < 8 * n then (strOfNums s, a, 2, []) else ref12g s a n
theorem ref12_callE (w : World) (S : ByteArray) (a e n : Int) (he : e ≠ 0) :
    Calls Try.prog 88 #[.agg #[.string S, .int .i64 a, .int .i64 e], .int .i64 n] w fun r w' => ∃ v : Value, r = .returned (.tuple #[.agg #[.string S, .int .i64 a, .int .i64 e], v]) ∧ Kd.R (Kd.int .u64) 30 w' w.heap.size (fun _ => True) v [] ∧ Below w.heap.size w w' := by
  have hu := Try.underlying115
  have hsz : ∀ (W : World) (o : Obj), (W.alloc o).heap.size = W.heap.size + 1 := fun W o => by show (W.heap.push _).size = _; simp
  have hS0 := ((Sep.start w).alloc #[.string S, .int .i64 a, .int .i64 e] 115).alloc #[.string ByteArray.empty, .int .i64 0, .int .i64 0] 115
  rw [hsz] at hS0
  have hne : (e != 0) = true := bne_iff_ne.2 he
  have hc_0 : ((w.alloc (.cells #[.string S, .int .i64 a, .int .i64 e] 115 (0, 0))).alloc (.cells #[.string ByteArray.empty, .int .i64 0, .int .i64 0] 115 (0, 0))).cell? ⟨w.heap.size, 0, none⟩ = some (.string S) := ((hS0.pick1).cell 0).trans rfl; have hc_1 : ((w.alloc (.cells #[.string S, .int .i64 a, .int .i64 e] 115 (0, 0))).alloc (.cells #[.string ByteArray.empty, .int .i64 0, .int .i64 0] 115 (0, 0))).cell? ⟨w.heap.size, 1, none⟩ = some (.int .i64 a) := ((hS0.pick1).cell 1).trans rfl; have hc_2 : ((w.alloc (.cells #[.string S, .int .i64 a, .int .i64 e] 115 (0, 0))).alloc (.cells #[.string ByteArray.empty, .int .i64 0, .int .i64 0] 115 (0, 0))).cell? ⟨w.heap.size, 2, none⟩ = some (.int .i64 e) := ((hS0.pick1).cell 2).trans rfl
  have hd_0 : ((w.alloc (.cells #[.string S, .int .i64 a, .int .i64 e] 115 (0, 0))).alloc (.cells #[.string ByteArray.empty, .int .i64 0, .int .i64 0] 115 (0, 0))).cell? ⟨(w.heap.size + 1), 0, none⟩ = some (.string ByteArray.empty) := ((hS0).cell 0).trans rfl; have hd_1 : ((w.alloc (.cells #[.string S, .int .i64 a, .int .i64 e] 115 (0, 0))).alloc (.cells #[.string ByteArray.empty, .int .i64 0, .int .i64 0] 115 (0, 0))).cell? ⟨(w.heap.size + 1), 1, none⟩ = some (.int .i64 0) := ((hS0).cell 1).trans rfl; have hd_2 : ((w.alloc (.cells #[.string S, .int .i64 a, .int .i64 e] 115 (0, 0))).alloc (.cells #[.string ByteArray.empty, .int .i64 0, .int .i64 0] 115 (0, 0))).cell? ⟨(w.heap.size + 1), 2, none⟩ = some (.int .i64 0) := ((hS0).cell 2).trans rfl
  have hz0 := hS0.frozen 0
  have hz1 := hS0.frozen 1
  have hz2 := hS0.frozen 2
  have h4 := ((Sep.start w).alloc #[.string S, .int .i64 a, .int .i64 e] 115).alloc #[.string S, .int .i64 a, .int .i64 e] 115
  rw [hsz] at h4
  have hS1 := Aside0.mk h4
  clear hS0 he h4
  go_enter Try.func88, Try.ntmps88
  go_wp2_with (fail)
  have h4 := hS1.out
  refine bodyPost_ret (results_ct (P := Try.prog) Try.results88 _ _ (w.heap.size + 1) 115 _ (0, 0) _ rfl h4.blk_at.1 hu rfl (by kernel_rfl)) rfl ?_
  exact rdr_ret (fun _ _ _ _ hm => hm) (Sep.row_nil (Kd.int .u64) _ h4).pick1
theorem ref12_call (w : World) (s : List Int) (hb : Bytes s) (a : Int) (ha0 : 0 ≤ a) (ha : a ≤ 1000000) (hs : s.length ≤ 1000000) (m : Nat) :
    Calls Try.prog 88 #[.agg #[.string (strOfNums s), .int .i64 a, .int .i64 0], .int .i64 (m : Int)] w fun r w' => ∃ v : Value, r = .returned (.tuple #[.agg #[.string (g12 s a m).1, .int .i64 (g12 s a m).2.1, .int .i64 (g12 s a m).2.2.1], v]) ∧ Kd.R (Kd.int .u64) 30 w' w.heap.size (fun _ => True) v (g12 s a m).2.2.2 ∧ Below w.heap.size w w' := by
  have hu := Try.underlying115
  have hsz : ∀ (W : World) (o : Obj), (W.alloc o).heap.size = W.heap.size + 1 := fun W o => by show (W.heap.push _).size = _; simp
  have hS0 := ((Sep.start w).alloc #[.string (strOfNums s), .int .i64 a, .int .i64 0] 115).alloc #[.string ByteArray.empty, .int .i64 0, .int .i64 0] 115
  rw [hsz] at hS0
  have hS0A := Aside0.mk hS0
  have hc_0 : ((w.alloc (.cells #[.string (strOfNums s), .int .i64 a, .int .i64 0] 115 (0, 0))).alloc (.cells #[.string ByteArray.empty, .int .i64 0, .int .i64 0] 115 (0, 0))).cell? ⟨w.heap.size, 0, none⟩ = some (.string (strOfNums s)) := ((hS0.pick1).cell 0).trans rfl; have hc_1 : ((w.alloc (.cells #[.string (strOfNums s), .int .i64 a, .int .i64 0] 115 (0, 0))).alloc (.cells #[.string ByteArray.empty, .int .i64 0, .int .i64 0] 115 (0, 0))).cell? ⟨w.heap.size, 1, none⟩ = some (.int .i64 a) := ((hS0.pick1).cell 1).trans rfl; have hc_2 : ((w.alloc (.cells #[.string (strOfNums s), .int .i64 a, .int .i64 0] 115 (0, 0))).alloc (.cells #[.string ByteArray.empty, .int .i64 0, .int .i64 0] 115 (0, 0))).cell? ⟨w.heap.size, 2, none⟩ = some (.int .i64 0) := ((hS0.pick1).cell 2).trans rfl
  have hz0 := hS0.frozen 0
  have hz1 := hS0.frozen 1
  have hz2 := hS0.frozen 2
  clear hS0
  have zS : (strOfNums s).size = s.length := nums_size s
  obtain ⟨q, hq⟩ : ∃ q, Int.tdiv ((s.length : Int)) 8 = q := ⟨_, rfl⟩
  have hqe : q = (s.length : Int) / 8 := by rw [← hq, Int.tdiv_eq_ediv_of_nonneg (by omega)]
  have hwq : wrap64 q = q := w64 (by omega) (by omega)
  by_cases h0 : m = 0
  · subst h0
    have hd : decide (((0 : Nat) : Int) ≤ 0) = true := by decide
    have hg : g12 s a 0 = (strOfNums s, a, 0, []) := by
      unfold g12 ref12g
      rw [if_neg (by omega), if_pos (by exact risesF_nil)]
      simp [fensAt]
    rw [hg]
    have h4 := ((Sep.start w).alloc #[.string (strOfNums s), .int .i64 a, .int .i64 0] 115).alloc #[.string (strOfNums s), .int .i64 a, .int .i64 0] 115
    rw [hsz] at h4
    have hS1 := Aside0.mk h4
    clear h4 hg hq hqe hwq hs ha ha0
    go_enter Try.func88, Try.ntmps88
    go_wp2_with (fail)
    have h4 := hS1.out
    refine bodyPost_ret (results_ct (P := Try.prog) Try.results88 _ _ (w.heap.size + 1) 115 _ (0, 0) _ rfl h4.blk_at.1 hu rfl (by kernel_rfl)) rfl ?_
    exact rdr_ret (fun _ _ _ _ hm => hm) (Sep.row_nil (Kd.int .u64) _ h4).pick1
  have hd : decide ((m : Int) ≤ 0) = false := decide_eq_false (by omega)
  have hd0 : decide (m = 0) = false := decide_eq_false h0
  by_cases hsh : s.length < 8 * m
  · have hg : g12 s a m = (strOfNums s, a, 2, []) := by unfold g12; rw [if_pos hsh]
    rw [hg]
    have hgt : decide ((m : Int) > q) = true := decide_eq_true (by omega)
    have hgt2 : decide (q < (m : Int)) = true := decide_eq_true (by omega)
    clear hg hqe hs ha ha0 hsh h0
    go_enter Try.func88, Try.ntmps88
    go_wp2_with (fail)
    refine (fascicleref01_Fail.calls (strOfNums s) a 0 2 (strOfNums s) a 2 _ (fail12 _ _ _)).mono ?_
    rintro e w1 ⟨rfl, hb1⟩
    have h1 := hS0A.out.below hb1
    have hd_0 : w1.cell? ⟨(w.heap.size + 1), 0, none⟩ = some (.string ByteArray.empty) := ((h1).cell 0).trans rfl; have hd_1 : w1.cell? ⟨(w.heap.size + 1), 1, none⟩ = some (.int .i64 0) := ((h1).cell 1).trans rfl; have hd_2 : w1.cell? ⟨(w.heap.size + 1), 2, none⟩ = some (.int .i64 0) := ((h1).cell 2).trans rfl
    have hy0 := h1.frozen 0
    have hy1 := h1.frozen 1
    have hy2 := h1.frozen 2
    have hS1 := Aside0.mk (rdr_set (S' := strOfNums s) (a' := a) (e' := 2) h1)
    clear h1 hb1
    go_wp2_with (fail)
    have h4 := hS1.out
    refine bodyPost_ret (results_ct (P := Try.prog) Try.results88 _ _ (w.heap.size + 1) 115 _ (0, 0) _ rfl h4.blk_at.1 hu rfl (by kernel_rfl)) rfl ?_
    exact rdr_ret (fun _ _ _ _ hm => hm) (Sep.row_nil (Kd.int .u64) _ h4).pick1
  have hgt : decide ((m : Int) > q) = false := decide_eq_false (by omega)
  have hgt2 : decide (q < (m : Int)) = false := decide_eq_false (by omega)
  have hg : g12 s a m = ref12g s a m := by unfold g12; rw [if_neg hsh]
  rw [hg]
  have hA := Aside0.mk (And.intro hsh (And.intro hs (And.intro ha0 ha)))
  have hbA := Aside0.mk hb
  have hS1 : Aside0 (Sep.Sep w _ [row (Kd.int .u64) 30 (.slice none 0 0) [], rdr w.heap.size (strOfNums s) a 0, rdr (w.heap.size + 1) ByteArray.empty 0 0]) := ⟨(Sep.row_nil (Kd.int .u64) 30 hS0A.out.pick1)⟩
  generalize hgg : w.heap.size = g at *
  clear hg hqe hs ha ha0 hsh hb hS0A
  go_enter Try.func88, Try.ntmps88
  go_wp2_with (fail)
  go_loopg [6, 7, 28] m (fun kq v6 v7 v28 w' => ∃ (i c6 : Nat) (A6 : Option Addr), v6 = .slice A6 i c6 ∧ v7 = .bool (!risesF (fensAt s 0 i)) ∧ v28 = .int .i64 (i : Int) ∧ Aside0 (i + kq = m) ∧ Aside0 (Sep.Sep w w' [row (Kd.int .u64) 30 (.slice A6 i c6) (fensAt s 0 i), rdr g (strOfNums (s.drop (8 * i))) (a + 8 * (i : Int)) 0, rdr (g + 1) ByteArray.empty 0 0]))
  case atStart => exact ⟨0, 0, none, rfl, by first | rfl | (rw [show fensAt s 0 0 = [] from rfl, risesF_nil]; rfl), rfl, ⟨by omega⟩, ⟨by have h := hS1.out; rw [show a + 8 * (((0 : Nat)) : Int) = a by omega]; exact h⟩⟩
  case round =>
    clear hS1 hc_0 hc_1 hc_2 hz0 hz1 hz2 hwq
    obtain ⟨i, c6, A6, rfl, rfl, rfl, hI, hS⟩ := hrel
    by_cases him : i < m
    · obtain ⟨k1, rfl⟩ : ∃ k1, gk = k1 + 1 := ⟨gk - 1, by have := hI.out; omega⟩
      have e1 : decide ((i : Int) < (m : Int)) = true := decide_eq_true (by omega)
      have e2 : decide (i < m) = true := decide_eq_true him
      obtain ⟨hsh, hs, ha0, ha⟩ := hA.out
      have hnx : wrap64 ((i : Int) + 1) = ((i + 1 : Nat) : Int) := by rw [w64 (by omega) (by omega)]; omega
      have hI' : Aside0 (i + 1 + k1 = m) := ⟨by have := hI.out; omega⟩
      have hG := getn_some (s.drop (8 * i)) (a + 8 * (i : Int)) 8 (by decide) (by decide) (hbA.out.drop _) (by rw [List.length_drop]; omega) (by omega) (by omega)
      rw [lev8_at, List.drop_drop, show 8 * i + 8 = 8 * (i + 1) by omega, show a + 8 * (i : Int) + ((8 : Nat) : Int) = a + 8 * ((i + 1 : Nat) : Int) by omega] at hG
      have hsc := fensAt_succ s 0 i
      rw [Nat.zero_add] at hsc
      have hL : (fensAt s 0 i).length = i := fensAt_len s 0 i
      have hRn : (!risesF (fensAt s 0 (i + 1))) = (!risesF (fensAt s 0 i) || (decide (0 < i) && decide (fenAt s (8 * i) < (fensAt s 0 i).getD (i - 1) 0))) := by
        by_cases h0 : 0 < i
        · rw [hsc, risesF_snoc _ _ (by omega), hL, decide_eq_true h0, Bool.true_and, Bool.not_and]
          congr 1
          rw [← decide_not]
          exact decide_eq_decide.2 (by omega)
        · have : i = 0 := by omega
          subst this
          rw [hsc]
          rfl
      obtain ⟨k8, hk8⟩ := hG.rounds
      generalize fenAt s (8 * i) = x at *
      obtain ⟨S8, hS8e⟩ : ∃ S8, strOfNums (s.drop (8 * (i + 1))) = S8 := ⟨_, rfl⟩
      obtain ⟨a0, ha00⟩ : ∃ a0, a + 8 * (i : Int) = a0 := ⟨_, rfl⟩
      obtain ⟨a8, ha8⟩ : ∃ a8, a + 8 * ((i + 1 : Nat) : Int) = a8 := ⟨_, rfl⟩
      rw [hS8e, ha8, ha00] at hk8
      rw [ha00] at hS
      have hk8A := Aside0.mk hk8
      have hfin := Aside0.mk (And.intro hS8e (And.intro ha8 hsc))
      have hLA : Aside0 ((fensAt s 0 i).length = i ∧ ((fensAt s 0 i).length + 1) * 8 ≤ 140737488355328) := ⟨hL, by omega⟩
      obtain ⟨j, hj⟩ : ∃ j : Int, wrap64 ((i : Int) - 1) = j := ⟨_, rfl⟩
      have hjw : IntKind.i64.wrap ((i : Int) - 1) = j := (i64_w _).trans hj
      have hje : 0 < i → j = ((i - 1 : Nat) : Int) := fun h => by rw [← hj, w64 (by omega) (by omega)]; omega
      have hRnA := Aside0.mk hRn
      have hC6 := (row_C hS.out).2.2
      generalize hS0e : strOfNums (s.drop (8 * i)) = S0 at *
      have h1 := hS.out
      have hr_0 : wr.cell? ⟨g, 0, none⟩ = some (.string S0) := ((h1.pick1).cell 0).trans rfl; have hr_1 : wr.cell? ⟨g, 1, none⟩ = some (.int .i64 a0) := ((h1.pick1).cell 1).trans rfl; have hr_2 : wr.cell? ⟨g, 2, none⟩ = some (.int .i64 0) := ((h1.pick1).cell 2).trans rfl
      clear hsh hs ha0 ha hG hsc hL hk8 him ha8 ha00 h1 hS0e hI hA zS hRn hS8e hC6
      go_wp2_with (fail)
      refine (fascicleref01_Get.calls k8 S0 a0 0 8 S8 a8 0 x _ hk8A.out).mono ?_
      rintro e w5 ⟨rfl, hb5⟩
      have h5 := (hS.out.below hb5).alloc #[.string S8, .int .i64 a8, .int .i64 0] 115
      have hq_0 : (w5.alloc (.cells #[.string S8, .int .i64 a8, .int .i64 0] 115 (0, 0))).cell? ⟨w5.heap.size, 0, none⟩ = some (.string S8) := ((h5).cell 0).trans rfl; have hq_1 : (w5.alloc (.cells #[.string S8, .int .i64 a8, .int .i64 0] 115 (0, 0))).cell? ⟨w5.heap.size, 1, none⟩ = some (.int .i64 a8) := ((h5).cell 1).trans rfl; have hq_2 : (w5.alloc (.cells #[.string S8, .int .i64 a8, .int .i64 0] 115 (0, 0))).cell? ⟨w5.heap.size, 2, none⟩ = some (.int .i64 0) := ((h5).cell 2).trans rfl
      have hp_0 : (w5.alloc (.cells #[.string S8, .int .i64 a8, .int .i64 0] 115 (0, 0))).cell? ⟨g, 0, none⟩ = some (.string S0) := ((h5.pick2).cell 0).trans rfl; have hp_1 : (w5.alloc (.cells #[.string S8, .int .i64 a8, .int .i64 0] 115 (0, 0))).cell? ⟨g, 1, none⟩ = some (.int .i64 a0) := ((h5.pick2).cell 1).trans rfl; have hp_2 : (w5.alloc (.cells #[.string S8, .int .i64 a8, .int .i64 0] 115 (0, 0))).cell? ⟨g, 2, none⟩ = some (.int .i64 0) := ((h5.pick2).cell 2).trans rfl
      have hy0 := h5.pick2.frozen 0
      have hy1 := h5.pick2.frozen 1
      have hy2 := h5.pick2.frozen 2
      have hS5 := Aside0.mk (rdr_set (S' := S8) (a' := a8) (e' := 0) h5.pick2)
      clear h5 hb5 hr_0 hr_1 hr_2
      go_upto_region 12 with (fail)
      generalize (((w5.alloc (.cells #[.string S8, .int .i64 a8, .int .i64 0] 115 (0, 0))).setCell ⟨g, 0, none⟩ (.string S8)).setCell ⟨g, 1, none⟩ (.int .i64 a8)).setCell ⟨g, 2, none⟩ (.int .i64 0) = w6 at hS5 ⊢
      clear hq_0 hq_1 hq_2 hp_0 hp_1 hp_2 hy0 hy1 hy2
      have hrow := hS5.out.pick2
      obtain ⟨-, -, hC6⟩ := row_C hrow
      have hS6 := Aside0.mk hrow
      clear hrow hS5
      cases hR : risesF (fensAt s 0 i)
      case' false =>
        have hV : Aside0 ((!risesF (fensAt s 0 (i + 1))) = true) := ⟨by rw [hRnA.out, hR]; rfl⟩
        clear hRnA hR hC6 hje
        go_upto_region 13 with (fail)
      case' true =>
        by_cases h0 : 0 < i
        case' neg =>
          have hz : decide ((i : Int) > 0) = false := decide_eq_false (by omega)
          have hz2 : decide (0 < i) = false := decide_eq_false h0
          have hV : Aside0 ((!risesF (fensAt s 0 (i + 1))) = false) := ⟨by rw [hRnA.out, hR, hz2]; rfl⟩
          clear hRnA hR hC6 hje h0
          go_upto_region 13 with (fail)
        case' pos =>
          have hz : decide ((i : Int) > 0) = true := decide_eq_true (by omega)
          have hz2 : decide (0 < i) = true := decide_eq_true h0
          have hjl : 0 ≤ j ∧ j < ((fensAt s 0 i).length : Int) := by rw [hje h0, hLA.out.1]; omega
          obtain ⟨ad, e0, hx0⟩ := Kd.at_int hC6 j hjl.1 hjl.2
          subst e0
          have hV : Aside0 ((!risesF (fensAt s 0 (i + 1))) = decide (x < rd (fensAt s 0 i) j)) := ⟨by rw [hRnA.out, hR, hz2, hje h0, rd_getD]; rfl⟩
          have p0 : (0 ≤ j) = True := eq_true hjl.1
          have q0 : (j < (i : Int)) = True := eq_true (by rw [hLA.out.1] at hjl; exact hjl.2)
          clear hRnA hR hC6 hje h0 hjl
          go_upto_region 13 with (fail)
      all_goals (
        obtain ⟨bs, hRr, hGr⟩ := hS6.out.row_open
        have hR := Aside0.mk hRr
        have hG := Aside0.mk hGr
        clear hRr hGr
        go_wp2_with (first | ((with_reducible refine gate_builtin (b := .append) (xs := #[.tmp 51, .tmp 53]) rfl ?_); at_builtin; refine Kd.R_append (Kd.int .u64) (w0 := w6) 0 rfl (.tmp 51) (.tmp 53) 31 30 (.int .u64 0) 8 rfl Try.underlying31 (by kernel_rfl) rfl (by decide) (by decide) (.slice _ i c6) (fensAt s 0 i) x [.int .u64 x] (fun k => k ∈ bs ∨ w6.heap.size ≤ k) (fun _ => False) rfl rfl rfl (fun _ h => h.elim) (fun _ h => .inr h) ?aO ?aB ?aS ?aL ?_; (case aO => exact Kd.R_mono hR.out (fun _ h => .inl h)); (case aB => exact Below.refl _ _); (case aS => exact Nat.zero_le _); (case aL => exact hLA.out.2); intro v9 w9 ho9 hb9 hg9 hat9; obtain ⟨A9, c9, rfl⟩ := Kd.R_slice ho9; have hS9 := Aside0.mk (hG.out w9 _ _ ho9 hg9); clear ho9 hb9 hg9 hat9))
        have hlen9 : Aside0 ((fensAt s 0 i ++ [x]).length = i + 1) := ⟨by rw [List.length_append, hLA.out.1]; rfl⟩
        have hS10 : Aside0 (Sep.Sep w w9 [row (Kd.int .u64) 30 (.slice A9 (i + 1) c9) (fensAt s 0 (i + 1)), rdr g (strOfNums (s.drop (8 * (i + 1)))) (a + 8 * ((i + 1 : Nat) : Int)) 0, rdr (g + 1) ByteArray.empty 0 0]) := ⟨by
          have h := hS9.out
          rw [hlen9.out] at h
          rw [hfin.out.1, hfin.out.2.1, hfin.out.2.2]
          exact h.pick2.tail⟩
        clear hS hS9 hR hG hS6
        go_roundg k1
        case measure => omega
        case rel => exact ⟨i + 1, c9, A9, by first | rfl | (rw [← hlen9.out]; rfl) | (simp [hLA.out.1]), by first | rw [hV.out] | (rw [hV.out]; rfl), by first | rw [hnx] | rfl, hI', hS10⟩)
    · have e1 : decide ((i : Int) < (m : Int)) = false := decide_eq_false (by omega)
      have e2 : decide (i < m) = false := decide_eq_false him
      have hie : i = m := by have := hI.out; omega
      subst hie
      obtain ⟨R, hRe⟩ : ∃ R, risesF (fensAt s 0 i) = R := ⟨_, rfl⟩
      rw [hRe]
      have hg : Aside0 (ref12g s a i = if R = true then (strOfNums (s.drop (8 * i)), a + 8 * i, 0, fensAt s 0 i) else (strOfNums (s.drop (8 * i)), a + 8 * i, 8, [])) := ⟨by unfold ref12g; rw [hRe]⟩
      generalize fensAt s 0 i = acc at *
      generalize strOfNums (s.drop (8 * i)) = S1 at *
      generalize a + 8 * (i : Int) = a1 at *
      clear him hRe hI hA zS
      have h2 := hS.out
      have hr_0 : wr.cell? ⟨g, 0, none⟩ = some (.string S1) := ((h2.pick1).cell 0).trans rfl; have hr_1 : wr.cell? ⟨g, 1, none⟩ = some (.int .i64 a1) := ((h2.pick1).cell 1).trans rfl; have hr_2 : wr.cell? ⟨g, 2, none⟩ = some (.int .i64 0) := ((h2.pick1).cell 2).trans rfl
      have hd_0 : wr.cell? ⟨(g + 1), 0, none⟩ = some (.string ByteArray.empty) := ((h2.pick2).cell 0).trans rfl; have hd_1 : wr.cell? ⟨(g + 1), 1, none⟩ = some (.int .i64 0) := ((h2.pick2).cell 1).trans rfl; have hd_2 : wr.cell? ⟨(g + 1), 2, none⟩ = some (.int .i64 0) := ((h2.pick2).cell 2).trans rfl
      have hy0 := h2.pick2.frozen 0
      have hy1 := h2.pick2.frozen 1
      have hy2 := h2.pick2.frozen 2
      have hS2 := Aside0.mk h2
      clear h2 hS
      cases R with
      | true =>
        have hgt : Aside0 (ref12g s a i = (S1, a1, 0, acc)) := ⟨by rw [hg.out, if_pos rfl]⟩
        have h4 := Aside0.mk (rdr_set (S' := S1) (a' := a1) (e' := 0) hS2.out.pick2)
        clear hg
        go_wp2_with (fail)
        refine bodyPost_ret (results_ct (P := Try.prog) Try.results88 _ _ (g + 1) 115 _ (0, 0) _ rfl h4.out.blk_at.1 hu rfl (by kernel_rfl)) rfl ?_
        rw [hgt.out]
        subst hgg
        exact rdr_ret (fun _ _ _ _ hm => hm) h4.out
      | false =>
        have hgt : Aside0 (ref12g s a i = (S1, a1, 8, [])) := ⟨by rw [hg.out, if_neg (by decide)]⟩
        clear hg hd_0 hd_1 hd_2 hy0 hy1 hy2
        go_wp2_with (fail)
        refine (fascicleref01_Fail.calls S1 a1 0 8 S1 a1 8 _ (fail12 _ _ _)).mono ?_
        rintro e w3 ⟨rfl, hb3⟩
        have h3 := hS2.out.below hb3
        have hd_0 : w3.cell? ⟨(g + 1), 0, none⟩ = some (.string ByteArray.empty) := ((h3.pick2).cell 0).trans rfl; have hd_1 : w3.cell? ⟨(g + 1), 1, none⟩ = some (.int .i64 0) := ((h3.pick2).cell 1).trans rfl; have hd_2 : w3.cell? ⟨(g + 1), 2, none⟩ = some (.int .i64 0) := ((h3.pick2).cell 2).trans rfl
        have hy0 := h3.pick2.frozen 0
        have hy1 := h3.pick2.frozen 1
        have hy2 := h3.pick2.frozen 2
        have h4 := Aside0.mk (rdr_set (S' := S1) (a' := a1) (e' := 8) h3.pick2)
        clear h3 hb3
        go_wp2_with (fail)
        refine bodyPost_ret (results_ct (P := Try.prog) Try.results88 _ _ (g + 1) 115 _ (0, 0) _ rfl h4.out.blk_at.1 hu rfl (by kernel_rfl)) rfl ?_
        rw [hgt.out]
        subst hgg
        exact rdr_ret (fun _ _ _ _ hm => hm) (Sep.row_nil (Kd.int .u64) _ h4.out).pick1
end Go.Proofs.Ytekanmieppnpeaa.Tb
end
section
set_option linter.unusedVariables false
set_option linter.unusedSimpArgs false
namespace Go.Proofs.Ytekanmieppnpeaa.G
open Go Go.RowKit Go.Proofs.YtekanmieppnpeaaW.PrintWords Go.Proofs.YtekanmieppnpeaaW.PrintLast Go.Proofs.YtekanmieppnpeaaW.PrintMore Go.Proofs.Ytekanmieppnpeaa.PureKit Go.Proofs.Ytekanmieppnpeaa.Rol
theorem leb_cons_drop (l : List Int) (i : Nat) (h : i < l.length) : leb (l.drop i) = (l[i]).toNat + 256 * leb (l.drop (i + 1)) := by
  rw [List.drop_eq_getElem_cons h]
  rfl
theorem value_l0 (l : List Int) (hb : Bytes l) (hl : l.length ≤ 8) : ∀ (i : Nat), i ≤ l.length → Ev (fun k => fascicleref01_Value.l0 k (strOfNums l) ((leb (l.drop i) : Nat) : Int) ((i : Int) - 1)) ((leb l : Nat) : Int) := by
  intro i
  induction i with
  | zero =>
    intro _
    refine Ev.step (f := fun _ => some ((leb l : Nat) : Int)) (fun k => ?_) (Ev.now _)
    simp only [fascicleref01_Value.l0]
    rw [if_neg (by omega), List.drop_zero]
  | succ i ih =>
    intro hi
    refine Ev.step (fun k => ?_) (ih (by omega))
    have hlt := leb_lt (l.drop (i + 1)) (hb.drop _)
    rw [List.length_drop] at hlt
    have hp : (256 : Nat) ^ (l.length - (i + 1)) ≤ 256 ^ 7 := Nat.pow_le_pow_right (by omega) (by omega)
    have hby := hb l[i] (List.getElem_mem (by omega))
    have hbt := bt_nums l hb i (by omega)
    rw [leb_cons_drop l i (by omega)]
    simp only [fascicleref01_Value.l0]
    rw [show ((i + 1 : Nat) : Int) - 1 = (i : Int) by omega, if_pos (by omega), if_pos (by omega), if_pos (by rw [nums_size]; omega), hbt]
    generalize leb (l.drop (i + 1)) = y at *
    generalize l[i] = b at *
    have hy : y < 72057594037927936 := Nat.lt_of_lt_of_le hlt hp
    rw [wu64 (x := b) (by omega) (by omega), wu64 (x := (y : Int) * 256) (by omega) (by omega), wu64 (by omega) (by omega), w64 (by omega) (by omega)]
    congr 1
    omega
theorem value_calls (w : World) (l : List Int) (s : ByteArray) (hs : s = strOfNums l) (hb : Bytes l) (hl : l.length ≤ 8) :
    Calls Try.prog 56 #[.string s] w fun e w' => e = .returned (.int .u64 ((leb l : Nat) : Int)) ∧ Drawn0 w w' := by
  subst hs
  have h := value_l0 l hb hl l.length (Nat.le_refl _)
  rw [List.drop_length] at h
  obtain ⟨k, hk⟩ := h.rounds
  refine fascicleref01_Value.calls k _ _ w ?_
  unfold fascicleref01_Value.f
  rw [nums_size, w64 (by omega) (by omega)]
  exact hk
end Go.Proofs.Ytekanmieppnpeaa.G
end
section
set_option linter.unusedVariables false
set_option linter.unusedSimpArgs false
namespace Go.Proofs.Ytekanmieppnpeaa.G
open Go Go.RowKit Go.Proofs.YtekanmieppnpeaaW.PrintWords Go.Proofs.YtekanmieppnpeaaW.PrintLast Go.Proofs.YtekanmieppnpeaaW.PrintMore Go.Proofs.Ytekanmieppnpeaa.PureKit Go.Proofs.Ytekanmieppnpeaa.Sep Go.Proofs.Ytekanmieppnpeaa.Rol
theorem turn4_step (y : Nat) (hy : y < 18446744073709551616) : IntKind.u64.wrap (IntKind.u64.wrap (2 * (y : Int)) + Int.tdiv (y : Int) 9223372036854775808) = ((2 * y % 18446744073709551616 + y / 9223372036854775808 : Nat) : Int) := by
  rw [Int.tdiv_eq_ediv_of_nonneg (by omega), IntKind.wrap_u64, IntKind.wrap_u64]
  omega
theorem turn4_l0 (x n : Nat) (hx : x < 18446744073709551616) (hn : n ≤ 64) : ∀ (d i : Nat), i + d = n → Ev (fun k => fascicleref04_turn.l0 k ((rol 64 i x : Nat) : Int) (n : Int) (i : Int)) ((rol 64 n x : Nat) : Int) := by
  intro d
  induction d with
  | zero =>
    intro i hi
    refine Ev.step (f := fun _ => some ((rol 64 n x : Nat) : Int)) (fun k => ?_) (Ev.now _)
    simp only [fascicleref04_turn.l0]
    rw [if_neg (by omega), show i = n by omega]
  | succ d ih =>
    intro i hi
    refine Ev.step (fun k => ?_) (ih (i + 1) (by omega))
    have hl := rol64_lt i x (by omega) hx
    simp only [fascicleref04_turn.l0]
    rw [if_pos (by omega)]
    have e := rol_succ 64 i x (by omega) hx
    have e2 : rol 64 (i + 1) x = 2 * rol 64 i x % 18446744073709551616 + rol 64 i x / 9223372036854775808 := e
    rw [e2]
    generalize rol 64 i x = y at *
    rw [w64 (by omega) (by omega)]
    have hd : IntKind.u64.wrap (Int.tdiv (y : Int) 9223372036854775808) = Int.tdiv (y : Int) 9223372036854775808 := by rw [Int.tdiv_eq_ediv_of_nonneg (by omega)]; exact wu64 (by omega) (by omega)
    first | rw [hd, turn4_step y hl] | rw [turn4_step y hl]
    rfl
theorem turn4_ev (x n : Nat) (hx : x < 18446744073709551616) (hn : n ≤ 64) : Ev (fun k => fascicleref04_turn.f k (x : Int) (n : Int)) ((rol 64 n x : Nat) : Int) := by
  have := turn4_l0 x n hx hn n 0 (by omega)
  rw [rol_zero 64 x hx] at this
  exact this
theorem turn4_calls (w : World) (x n : Nat) (a b : Int) (ha : a = (x : Int)) (hb : b = (n : Int)) (hx : x < 18446744073709551616) (hn : n ≤ 64) :
    Calls Try.prog 119 #[.int .u64 a, .int .i64 b] w fun e w' => e = .returned (.int .u64 ((rol 64 n x : Nat) : Int)) ∧ Drawn0 w w' := by
  subst ha
  subst hb
  obtain ⟨k, hk⟩ := (turn4_ev x n hx hn).rounds
  exact fascicleref04_turn.calls k _ _ _ w hk
theorem into4_ev (x y : Nat) (hx : x < 18446744073709551616) (hy : y < 18446744073709551616) : Ev (fun k => fascicleref04_into.f k (x : Int) (y : Int)) ((win x y : Nat) : Int) := by
  have h := turn4_ev ((x + y * 14029467366897019727) % 18446744073709551616) 31 (mod_lt64 _) (by decide)
  have h3 : Ev (fun k => (fascicleref04_turn.f k (((x + y * 14029467366897019727) % 18446744073709551616 : Nat) : Int) ((31 : Nat) : Int)).bind (fun t => some (IntKind.u64.wrap (t * 11400714785074694791)))) (IntKind.u64.wrap (((rol 64 31 ((x + y * 14029467366897019727) % 18446744073709551616) : Nat) : Int) * 11400714785074694791)) :=
    Ev.bind h (f := fun _ t => some (IntKind.u64.wrap (t * 11400714785074694791))) (Ev.now _)
  refine Ev.congr (fun k => ?_) (Ev.eq h3 (mul_step (rol 64 31 ((x + y * 14029467366897019727) % 18446744073709551616)) 11400714785074694791))
  unfold fascicleref04_into.f
  rw [win_step]
  rfl
theorem into4_calls (w : World) (x y : Nat) (a b : Int) (ha : a = (x : Int)) (hb : b = (y : Int)) (hx : x < 18446744073709551616) (hy : y < 18446744073709551616) :
    Calls Try.prog 118 #[.int .u64 a, .int .u64 b] w fun e w' => e = .returned (.int .u64 ((win x y : Nat) : Int)) ∧ Drawn0 w w' := by
  subst ha
  subst hb
  obtain ⟨k, hk⟩ := (into4_ev x y hx hy).rounds
  exact fascicleref04_into.calls k _ _ _ w hk
end Go.Proofs.Ytekanmieppnpeaa.G
end
section
set_option linter.unusedVariables false
set_option linter.unusedSimpArgs false
namespace Go.Proofs.Ytekanmieppnpeaa.G
open Go Go.RowKit Go.Proofs.YtekanmieppnpeaaW.PrintWords Go.Proofs.YtekanmieppnpeaaW.PrintLast Go.Proofs.YtekanmieppnpeaaW.PrintMore Go.Proofs.Ytekanmieppnpeaa.PureKit Go.Proofs.Ytekanmieppnpeaa.Sep Go.Proofs.Ytekanmieppnpeaa.Rol
def wvals (vs : List Nat) : Array Value := (nat64 vs).toArray
theorem wvals_at (vs : List Nat) (j x : Nat) (h : vs[j]? = some x) : (wvals vs)[j]? = some (.int .u64 (x : Int)) := by
  unfold wvals nat64
  rw [List.getElem?_toArray, List.getElem?_map, h]
  rfl
theorem wvals_set (us : List Nat) (j x : Nat) : (wvals us).setIfInBounds j (.int .u64 (x : Int)) = wvals (us.set j x) := by
  unfold wvals nat64
  rw [List.setIfInBounds_toArray, List.map_set]
theorem sum_turns (x0 x1 x2 x3 : Nat) (h0 : x0 < 18446744073709551616) (h1 : x1 < 18446744073709551616) (h2 : x2 < 18446744073709551616) (h3 : x3 < 18446744073709551616) : ∃ y0 y1 y2 y3 a1 a2 a3 : Nat, rol 64 1 x0 = y0 ∧ rol 64 7 x1 = y1 ∧ rol 64 12 x2 = y2 ∧ rol 64 18 x3 = y3 ∧
    IntKind.u64.wrap ((y0 : Int) + (y1 : Int)) = (a1 : Int) ∧ IntKind.u64.wrap ((a1 : Int) + (y2 : Int)) = (a2 : Int) ∧ IntKind.u64.wrap ((a2 : Int) + (y3 : Int)) = (a3 : Int) ∧ a3 < 18446744073709551616 ∧ wout [x0, x1, x2, x3] = [x0, x1, x2, x3].foldl wmerge a3 := by
  refine ⟨_, _, _, _, _, _, _, rfl, rfl, rfl, rfl, add_step _ _, add_step _ _, add_step _ _, mod_lt64 _, ?_⟩
  unfold wout
  rw [show ([x0, x1, x2, x3] : List Nat).getD 0 0 = x0 from rfl, show ([x0, x1, x2, x3] : List Nat).getD 1 0 = x1 from rfl, show ([x0, x1, x2, x3] : List Nat).getD 2 0 = x2 from rfl, show ([x0, x1, x2, x3] : List Nat).getD 3 0 = x3 from rfl]
  generalize rol 64 1 x0 = p0
  generalize rol 64 7 x1 = p1
  generalize rol 64 12 x2 = p2
  generalize rol 64 18 x3 = p3
  exact congrArg (fun z => [x0, x1, x2, x3].foldl wmerge z) (by omega)
set_option maxHeartbeats 8000000 in
set_option maxRecDepth 100000 in
theorem begin_walk (w : World) (l : List Int) (s : Nat) (hb : Bytes l) (hl : l.length ≤ 1000000000000) (hs : s < 18446744073709551616) :
    Calls Try.prog 117 #[.int .u64 (s : Int), .string (strOfNums l)] w fun e w' => e = .returned (.tuple #[.int .u64 ((wout (wvs s l) : Nat) : Int), .string (strOfNums (wrest l))]) ∧ Below w.heap.size w w' := by
  have hsz : (strOfNums l).size = l.length := nums_size l
  obtain ⟨q1, hq1⟩ : ∃ q : Nat, (s + 11400714785074694791) % 18446744073709551616 = q := ⟨_, rfl⟩
  have fq1 : IntKind.u64.wrap ((s : Int) + 11400714785074694791) = (q1 : Int) := by rw [IntKind.wrap_u64]; omega
  obtain ⟨q2, hq2⟩ : ∃ q : Nat, (q1 + 14029467366897019727) % 18446744073709551616 = q := ⟨_, rfl⟩
  have fq2 : IntKind.u64.wrap ((q1 : Int) + 14029467366897019727) = (q2 : Int) := by rw [IntKind.wrap_u64]; omega
  obtain ⟨q3, hq3⟩ : ∃ q : Nat, (s + 14029467366897019727) % 18446744073709551616 = q := ⟨_, rfl⟩
  have fq3 : IntKind.u64.wrap ((s : Int) + 14029467366897019727) = (q3 : Int) := by rw [IntKind.wrap_u64]; omega
  obtain ⟨q4, hq4⟩ : ∃ q : Nat, (s + 18446744073709551616 - 11400714785074694791) % 18446744073709551616 = q := ⟨_, rfl⟩
  have fq4 : IntKind.u64.wrap ((s : Int) - 11400714785074694791) = (q4 : Int) := by rw [IntKind.wrap_u64]; omega
  have hv : winit s = [q2, q3, s, q4] := wnew_q s q1 q2 q3 q4 hq1 hq2 hq3 hq4
  have hS := Aside0.mk (Sep.start w)
  have hvA := Aside0.mk hv
  have hwi : Small8 [q2, q3, s, q4] := by rw [← hv]; exact winit_small s hs
  have hlA := Aside0.mk hl
  clear hq1 hq2 hq3 hq4 hv
  go_enter Try.func117, Try.ntmps117
  go_wp2_with (fail)
  have hS1 : Aside0 (Sep.Sep w (w.alloc (.cells #[.int .u64 (q2 : Int), .int .u64 (q3 : Int), .int .u64 (s : Int), .int .u64 (q4 : Int)] 179 (0, 0))) [blk w.heap.size (wvals [q2, q3, s, q4]) 179]) := ⟨hS.out.alloc _ _⟩
  generalize w.alloc (.cells #[.int .u64 (q2 : Int), .int .u64 (q3 : Int), .int .u64 (s : Int), .int .u64 (q4 : Int)] 179 (0, 0)) = w1 at hS1 ⊢
  clear fq1 fq2 fq3 fq4
  generalize hvv : [q2, q3, s, q4] = v0 at *
  clear hvv
  go_loopg [1] (l.length / 32) (fun kq v1 w' => ∃ (i : Nat), v1 = .string (strOfNums (l.drop (32 * i))) ∧ Aside0 (i + kq = l.length / 32) ∧ Aside0 (Sep.Sep w w' [blk w.heap.size (wvals (wstripes i v0 l)) 179]))
  case atStart => exact ⟨0, by rw [Nat.mul_zero, List.drop_zero], ⟨by omega⟩, hS1⟩
  case round =>
    obtain ⟨i, rfl, hA, hS⟩ := hrel
    have hv0l : v0.length = 4 := by rw [← hvA.out]; rfl
    by_cases hin : i < l.length / 32
    · have hlen : (l.drop (32 * i)).length = l.length - 32 * i := by rw [List.length_drop]
      have h32 : 32 ≤ (l.drop (32 * i)).length := by omega
      have hb1 : Bytes (l.drop (32 * i)) := hb.drop _
      have hvs : Small8 (wstripes i v0 l) := wstripes_small _ _ hwi _
      have hvl : (wstripes i v0 l).length = 4 := by rw [wstripes_len, hv0l]
      have hd : decide (((l.drop (32 * i)).length : Int) ≥ 32) = true := decide_eq_true (by omega)
      obtain ⟨k1, rfl⟩ : ∃ k1, gk = k1 + 1 := ⟨gk - 1, by have := hA.out; omega⟩
      generalize hll : l.drop (32 * i) = l1 at *
      generalize hvv : wstripes i v0 l = vs at *
      have hl1l : l1.length ≤ 1000000000000 := by rw [hlen]; have := hlA.out; omega
      have hsz1 : (strOfNums l1).size = l1.length := nums_size l1
      have h32A := Aside0.mk h32
      have h32i : (32 : Int) ≤ (l1.length : Int) := by omega
      have hex32 : (strOfNums l1).extract 32 l1.length = strOfNums (l1.drop 32) := by rw [nums_extract, List.take_of_length_le (by omega)]
      clear hlen h32 hsz
      go_wp2_with (fail)
      go_loopg [29] 4 (fun kq v29 w' => ∃ (j : Nat), v29 = .int .i64 j ∧ Aside0 (j + kq = 4) ∧ Aside0 (Sep.Sep w w' [blk w.heap.size (wvals (wpart l1 vs j)) 179]))
      case atStart => exact ⟨0, rfl, ⟨by omega⟩, hS⟩
      case round =>
        obtain ⟨j, rfl, hj, hS2⟩ := hrel
        by_cases hjn : j < 4
        · have hd2 : decide ((j : Int) < 4) = true := decide_eq_true (by omega)
          obtain ⟨k2, rfl⟩ : ∃ k2, gk = k2 + 1 := ⟨gk - 1, by have := hj.out; omega⟩
          have p0 : ((0 : Int) ≤ (j : Int)) = True := eq_true (by omega)
          have q0 : ((j : Int) < 4) = True := eq_true (by omega)
          have hul : (wpart l1 vs j).length = 4 := by rw [wpart_len, hvl]
          have hus : Small8 (wpart l1 vs j) := wpart_small _ _ hvs j
          obtain ⟨x, hx⟩ : ∃ x, (wpart l1 vs j).getD j 0 = x := ⟨_, rfl⟩
          have hxl : x < 18446744073709551616 := by rw [← hx]; exact hus.at j
          have hux : (wpart l1 vs j)[j]? = some x := by rw [← hx, List.getD_eq_getElem?_getD, List.getElem?_eq_getElem (by omega)]; rfl
          have hcell := wvals_at _ j x hux
          generalize hu : wpart l1 vs j = us at *
          have hxA := Aside0.mk hx
          have hulA := Aside0.mk hul
          clear hx hul hux
          obtain ⟨y, hy⟩ : ∃ y, leb ((l1.drop (8 * j)).take 8) = y := ⟨_, rfl⟩
          have hyl : y < 18446744073709551616 := by rw [← hy]; exact leb_lt4 _ ((hb1.drop _).take _) 8 (by rw [List.length_take]; omega)
          have hex : (strOfNums l1).extract (8 * j) (8 * j + 8) = strOfNums ((l1.drop (8 * j)).take 8) := by rw [nums_extract, List.drop_take]; congr 2; omega
          have hyA := Aside0.mk hy
          clear hy
          have b1 : (8 * (j : Int) + 8 ≤ (l1.length : Int)) = True := eq_true (by omega)
          have b2 : (0 ≤ 8 * (j : Int)) = True := eq_true (by omega)
          have b3 : (8 * (j : Int) ≤ 8 * (j : Int) + 8) = True := eq_true (by omega)
          have b4 : (8 * (j : Int) + 8).toNat = 8 * j + 8 := by omega
          have b5 : (8 * (j : Int)).toNat = 8 * j := by omega
          have hw4 : wrap64 (8 * (j : Int)) = 8 * (j : Int) := w64 (by omega) (by omega)
          have hw5 : wrap64 (8 * (j : Int) + 8) = 8 * (j : Int) + 8 := w64 (by omega) (by omega)
          go_wp2_with (fail)
          have hS3 := hS2.out.drew
          have hc0 : wr.drew.cell? ⟨w.heap.size, j, none⟩ = some (.int .u64 (x : Int)) := (hS3.cell j).trans hcell
          have hfr : wr.drew.frozen? ⟨w.heap.size, j, none⟩ = false := hS3.frozen j
          have hS3 := Aside0.mk hS3
          refine start_ (n := 15) (S := fun w' => w'.cell? ⟨w.heap.size, j, none⟩ = some (.int .u64 (x : Int))) (ds := [14]) #[false, false, false, false, false, false, false, false, false, false, false, false, false, false, false] (by kernel_rfl) rfl rfl (hc0) (fun hHeld => ?_)
          refine pure_ (i := 0) (N := some 32) (v := ?_) (a' := ?_) #[true, false, false, false, false, false, false, false, false, false, false, false, false, false, false] rfl rfl (by kernel_rfl) (fun _ _ _ h => h) (Or.inl ⟨by rfl, ?_⟩) ?_ ?_
          rotate_left
          · intro w'
            go_simp
            with_reducible rfl
          rotate_left
          · simp only [Act.put, List.setIfInBounds_toArray, List.set_cons_zero, List.set_cons_succ, i64_w, i32_w]
            rfl
          refine pure_ (i := 1) (N := some 33) (v := ?_) (a' := ?_) #[true, true, false, false, false, false, false, false, false, false, false, false, false, false, false] rfl rfl (by kernel_rfl) (fun _ _ _ h => h) (Or.inl ⟨by rfl, ?_⟩) ?_ ?_
          rotate_left
          · intro w'
            go_simp
            with_reducible rfl
          rotate_left
          · simp only [Act.put, List.setIfInBounds_toArray, List.set_cons_zero, List.set_cons_succ, i64_w, i32_w]
            rfl
          refine pure_ (i := 2) (N := some 34) (v := ?_) (a' := ?_) #[true, true, true, false, false, false, false, false, false, false, false, false, false, false, false] rfl rfl (by kernel_rfl) (fun _ _ _ h => h) (Or.inl ⟨by rfl, ?_⟩) ?_ ?_
          rotate_left
          · intro w'
            go_simp
            with_reducible rfl
          rotate_left
          · simp only [Act.put, List.setIfInBounds_toArray, List.set_cons_zero, List.set_cons_succ, i64_w, i32_w]
            rfl
          refine pure_ (i := 4) (N := some 36) (v := ?_) (a' := ?_) #[true, true, true, false, true, false, false, false, false, false, false, false, false, false, false] rfl rfl (by kernel_rfl) (fun _ _ _ h => h) (Or.inl ⟨by rfl, ?_⟩) ?_ ?_
          rotate_left
          · intro w'
            go_simp
            with_reducible rfl
          rotate_left
          · simp only [Act.put, List.setIfInBounds_toArray, List.set_cons_zero, List.set_cons_succ, i64_w, i32_w]
            rfl
          refine pure_ (i := 5) (N := some 37) (v := ?_) (a' := ?_) #[true, true, true, false, true, true, false, false, false, false, false, false, false, false, false] rfl rfl (by kernel_rfl) (fun _ _ _ h => h) (Or.inl ⟨by rfl, ?_⟩) ?_ ?_
          rotate_left
          · intro w'
            go_simp
            with_reducible rfl
          rotate_left
          · simp only [Act.put, List.setIfInBounds_toArray, List.set_cons_zero, List.set_cons_succ, i64_w, i32_w]
            rfl
          refine pure_ (i := 6) (N := some 38) (v := ?_) (a' := ?_) #[true, true, true, false, true, true, true, false, false, false, false, false, false, false, false] rfl rfl (by kernel_rfl) (fun _ _ _ h => h) (Or.inl ⟨by rfl, ?_⟩) ?_ ?_
          rotate_left
          · intro w'
            go_simp
            with_reducible rfl
          rotate_left
          · simp only [Act.put, List.setIfInBounds_toArray, List.set_cons_zero, List.set_cons_succ, i64_w, i32_w]
            rfl
          refine pure_ (i := 7) (N := some 39) (v := ?_) (a' := ?_) #[true, true, true, false, true, true, true, true, false, false, false, false, false, false, false] rfl rfl (by kernel_rfl) (fun _ _ _ h => h) (Or.inl ⟨by rfl, ?_⟩) ?_ ?_
          rotate_left
          · intro w'
            go_simp
            with_reducible rfl
          rotate_left
          · simp only [Act.put, List.setIfInBounds_toArray, List.set_cons_zero, List.set_cons_succ, i64_w, i32_w]
            rfl
          refine pure_ (i := 8) (N := some 40) (v := ?_) (a' := ?_) #[true, true, true, false, true, true, true, true, true, false, false, false, false, false, false] rfl rfl (by kernel_rfl) (fun _ _ _ h => h) (Or.inl ⟨by rfl, ?_⟩) ?_ ?_
          rotate_left
          · intro w'
            go_simp
            with_reducible rfl
          rotate_left
          · simp only [Act.put, List.setIfInBounds_toArray, List.set_cons_zero, List.set_cons_succ, i64_w, i32_w]
            rfl
          refine pure_ (i := 9) (N := some 41) (v := ?_) (a' := ?_) #[true, true, true, false, true, true, true, true, true, true, false, false, false, false, false] rfl rfl (by kernel_rfl) (fun _ _ _ h => h) (Or.inl ⟨by rfl, ?_⟩) ?_ ?_
          rotate_left
          · intro w'
            go_simp
            with_reducible rfl
          rotate_left
          · simp only [Act.put, List.setIfInBounds_toArray, List.set_cons_zero, List.set_cons_succ, i64_w, i32_w]
            rfl
          refine pure_ (i := 10) (N := some 42) (v := ?_) (a' := ?_) #[true, true, true, false, true, true, true, true, true, true, true, false, false, false, false] rfl rfl (by kernel_rfl) (fun _ _ _ h => h) (Or.inl ⟨by rfl, ?_⟩) ?_ ?_
          rotate_left
          · intro w'
            go_simp
            with_reducible rfl
          rotate_left
          · simp only [Act.put, List.setIfInBounds_toArray, List.set_cons_zero, List.set_cons_succ, i64_w, i32_w]
            rfl
          refine take_ (i := 3) (N := some 35) (v := ?_) (a' := ?_) #[true, true, true, true, true, true, true, true, true, true, true, false, false, false, false] rfl rfl (by kernel_rfl) (fun _ _ _ h => h) (Or.inl ⟨by rfl, ?_⟩) hHeld ?_ ?_
          rotate_left
          · intro w' s0
            go_simp
            with_reducible rfl
          rotate_left
          · simp only [Act.put, List.setIfInBounds_toArray, List.set_cons_zero, List.set_cons_succ, i64_w, i32_w]
            rfl
          refine one_ (i := 11) (N := some 43) #[true, true, true, true, true, true, true, true, true, true, true, true, false, false, false] rfl rfl (by kernel_rfl) (by decide) (fun K hK => ?_)
          refine goes_ Try.func56 (by kernel_rfl) rfl #[.string (strOfNums ((l1.drop (8 * j)).take 8))] (by rfl) rfl rfl (by (try simp only [List.map_toArray, List.map_cons, List.map_nil]); first | done | rfl) ?_
          have hv := value_calls wr.drew ((l1.drop (8 * j)).take 8) _ rfl ((hb1.drop _).take _) (by rw [List.length_take]; omega)
          rw [hyA.out] at hv
          refine hv.mono ?_
          clear hv
          rintro e w3 ⟨rfl, ⟨nd, rfl⟩⟩
          refine ⟨_, rfl, ?_⟩
          have hS4 := Aside0.mk (hS3.out.drewN nd)
          have hc4 := (hS4.out.cell j).trans hcell
          refine hK.out _ _ (hc4) (fun hHeld => ?_)
          clear hK K
          refine norm_ (a' := ?_) ?_ ?_
          rotate_left
          · show Act.put _ (some 43) _ = _
            simp only [Act.put, List.setIfInBounds_toArray, List.set_cons_zero, List.set_cons_succ, i64_w, i32_w]
            rfl
          refine one_ (i := 12) (N := some 44) #[true, true, true, true, true, true, true, true, true, true, true, true, true, false, false] rfl rfl (by kernel_rfl) (by decide) (fun K hK => ?_)
          refine goes_ Try.func118 (by kernel_rfl) rfl #[.int .u64 (x : Int), .int .u64 (y : Int)] (by rfl) rfl rfl (by (try simp only [List.map_toArray, List.map_cons, List.map_nil]); first | done | rfl) ?_
          refine (into4_calls _ x y _ _ rfl rfl hxl hyl).mono ?_
          rintro e w4 ⟨rfl, ⟨nd2, rfl⟩⟩
          refine ⟨_, rfl, ?_⟩
          have hS5 := Aside0.mk (hS4.out.drewN nd2)
          have hc5 := (hS5.out.cell j).trans hcell
          have hf5 := hS5.out.frozen j
          refine hK.out _ _ (hc5) (fun hHeld => ?_)
          clear hK K
          refine norm_ (a' := ?_) ?_ ?_
          rotate_left
          · show Act.put _ (some 44) _ = _
            simp only [Act.put, List.setIfInBounds_toArray, List.set_cons_zero, List.set_cons_succ, i64_w, i32_w]
            rfl
          refine pure_ (i := 13) (N := some 45) (v := ?_) (a' := ?_) #[true, true, true, true, true, true, true, true, true, true, true, true, true, true, false] rfl rfl (by kernel_rfl) (fun _ _ _ h => h) (Or.inl ⟨by rfl, ?_⟩) ?_ ?_
          rotate_left
          · intro w'
            go_simp
            with_reducible rfl
          rotate_left
          · simp only [Act.put, List.setIfInBounds_toArray, List.set_cons_zero, List.set_cons_succ, i64_w, i32_w]
            rfl
          refine last_ (i := 14) (N := none) #[true, true, true, true, true, true, true, true, true, true, true, true, true, true, true] rfl rfl (by kernel_rfl) (by decide) (fun K hK => ?_)
          have hcw : wr.cell? ⟨w.heap.size, j, none⟩ = some (.int .u64 (x : Int)) := (hS2.out.cell j).trans hcell
          have hfw : wr.frozen? ⟨w.heap.size, j, none⟩ = false := hS2.out.frozen j
          refine skip_ (w1 := ?_) (by kernel_rfl) rfl ?_ ?_
          rotate_left
          · go_simp
            rfl
          refine hK.out _ _ ?_
          clear hK K
          refine done_ (by kernel_rfl) ?_
          clear hc0 hfr
          go_wp2_with (fail)
          clear b1 b2 b3 b4 b5 hw4 hw5 hex hxl hyl h32i hl1l hsz1
          go_roundg k2
          case measure => omega
          case rel =>
            refine ⟨j + 1, by simp, ⟨by have := hj.out; omega⟩, ⟨?_⟩⟩
            have hq := (hS2.out.drewN (1 + nd + nd2)).set j (.int .u64 ((win x y : Nat) : Int))
            rw [wvals_set] at hq
            rw [show wpart l1 vs (j + 1) = us.set j (win x y) by rw [wpart, hu, wstep, hxA.out, hyA.out]]
            exact hq
        · have hj4 : j = 4 := by have := hj.out; omega
          subst hj4
          have hd2 : decide (((4 : Nat) : Int) < 4) = false := rfl
          go_wp2_with (fail)
          go_roundg k1
          case measure => omega
          case rel =>
            have e : l.drop (32 * (i + 1)) = l1.drop 32 := by rw [← hll, List.drop_drop]; congr 1
            refine ⟨i + 1, by rw [e], ⟨by have := hA.out; omega⟩, ⟨?_⟩⟩
            rw [wstripes_succ, hll, hvv]
            exact hS2.out
    · have hie : i = l.length / 32 := by have := hA.out; omega
      have hlen : (l.drop (32 * i)).length = l.length - 32 * i := by rw [List.length_drop]
      have hd : decide (((l.drop (32 * i)).length : Int) ≥ 32) = false := decide_eq_false (by omega)
      have hr : Aside0 (l.drop (32 * i) = wrest l) := ⟨by rw [hie]; rfl⟩
      have hvs : Small8 (wstripes i v0 l) := wstripes_small _ _ hwi _
      have hvl : (wstripes i v0 l).length = 4 := by rw [wstripes_len, hv0l]
      have hstart : wvs s l = wstripes i v0 l := by unfold wvs; rw [hvA.out, hie]
      have hszr : (strOfNums (l.drop (32 * i))).size = (l.drop (32 * i)).length := nums_size _
      generalize wstripes i v0 l = vs at *
      generalize l.drop (32 * i) = r at *
      obtain ⟨x0, x1, x2, x3, rfl⟩ : ∃ x0 x1 x2 x3, vs = [x0, x1, x2, x3] := by
        rcases vs with _ | ⟨x0, _ | ⟨x1, _ | ⟨x2, _ | ⟨x3, _ | ⟨x4, r⟩⟩⟩⟩⟩ <;> simp at hvl
        exact ⟨_, _, _, _, rfl⟩
      have hx0 : x0 < 18446744073709551616 := hvs x0 (by simp)
      have hx1 : x1 < 18446744073709551616 := hvs x1 (by simp)
      have hx2 : x2 < 18446744073709551616 := hvs x2 (by simp)
      have hx3 : x3 < 18446744073709551616 := hvs x3 (by simp)
      obtain ⟨y0, y1, y2, y3, a1, a2, a3, e0, e1, e2, e3, f1, f2, f3, f4, f5⟩ := sum_turns x0 x1 x2 x3 hx0 hx1 hx2 hx3
      have hout : Aside0 (wout (wvs s l) = [x0, x1, x2, x3].foldl wmerge a3) := ⟨by rw [hstart, f5]⟩
      have e0A := Aside0.mk e0
      have e1A := Aside0.mk e1
      have e2A := Aside0.mk e2
      have e3A := Aside0.mk e3
      have hvsA := Aside0.mk hvs
      clear hvs hvl e0 e1 e2 e3 f5 hstart hlen hsz hie hin
      go_wp2_with (fail)
      have hS3 := hS.out.drew
      have hc0 : wr.drew.cell? ⟨w.heap.size, 0, none⟩ = some (.int .u64 (x0 : Int)) := hS3.cell 0
      have hc1 : wr.drew.cell? ⟨w.heap.size, 1, none⟩ = some (.int .u64 (x1 : Int)) := hS3.cell 1
      have hc2 : wr.drew.cell? ⟨w.heap.size, 2, none⟩ = some (.int .u64 (x2 : Int)) := hS3.cell 2
      have hc3 : wr.drew.cell? ⟨w.heap.size, 3, none⟩ = some (.int .u64 (x3 : Int)) := hS3.cell 3
      have hS3 := Aside0.mk hS3
      refine start_ (n := 16) (S := fun w' => w'.cell? ⟨w.heap.size, 0, none⟩ = some (.int .u64 (x0 : Int)) ∧ w'.cell? ⟨w.heap.size, 1, none⟩ = some (.int .u64 (x1 : Int)) ∧ w'.cell? ⟨w.heap.size, 2, none⟩ = some (.int .u64 (x2 : Int)) ∧ w'.cell? ⟨w.heap.size, 3, none⟩ = some (.int .u64 (x3 : Int))) (ds := []) #[false, false, false, false, false, false, false, false, false, false, false, false, false, false, false, false] (by kernel_rfl) rfl rfl ⟨hc0, hc1, hc2, hc3⟩ (fun hHeld => ?_)
      refine pure_ (i := 0) (N := some 49) (v := ?_) (a' := ?_) #[true, false, false, false, false, false, false, false, false, false, false, false, false, false, false, false] rfl rfl (by kernel_rfl) (fun _ _ _ h => h) (Or.inl ⟨by rfl, ?_⟩) ?_ ?_
      rotate_left
      · intro w'
        go_simp
        with_reducible rfl
      rotate_left
      · simp only [Act.put, List.setIfInBounds_toArray, List.set_cons_zero, List.set_cons_succ, i64_w, i32_w]
        rfl
      refine pure_ (i := 3) (N := some 52) (v := ?_) (a' := ?_) #[true, false, false, true, false, false, false, false, false, false, false, false, false, false, false, false] rfl rfl (by kernel_rfl) (fun _ _ _ h => h) (Or.inl ⟨by rfl, ?_⟩) ?_ ?_
      rotate_left
      · intro w'
        go_simp
        with_reducible rfl
      rotate_left
      · simp only [Act.put, List.setIfInBounds_toArray, List.set_cons_zero, List.set_cons_succ, i64_w, i32_w]
        rfl
      refine pure_ (i := 7) (N := some 56) (v := ?_) (a' := ?_) #[true, false, false, true, false, false, false, true, false, false, false, false, false, false, false, false] rfl rfl (by kernel_rfl) (fun _ _ _ h => h) (Or.inl ⟨by rfl, ?_⟩) ?_ ?_
      rotate_left
      · intro w'
        go_simp
        with_reducible rfl
      rotate_left
      · simp only [Act.put, List.setIfInBounds_toArray, List.set_cons_zero, List.set_cons_succ, i64_w, i32_w]
        rfl
      refine pure_ (i := 11) (N := some 60) (v := ?_) (a' := ?_) #[true, false, false, true, false, false, false, true, false, false, false, true, false, false, false, false] rfl rfl (by kernel_rfl) (fun _ _ _ h => h) (Or.inl ⟨by rfl, ?_⟩) ?_ ?_
      rotate_left
      · intro w'
        go_simp
        with_reducible rfl
      rotate_left
      · simp only [Act.put, List.setIfInBounds_toArray, List.set_cons_zero, List.set_cons_succ, i64_w, i32_w]
        rfl
      refine take_ (i := 1) (N := some 50) (v := ?_) (a' := ?_) #[true, true, false, true, false, false, false, true, false, false, false, true, false, false, false, false] rfl rfl (by kernel_rfl) (fun _ _ _ h => h) (Or.inl ⟨by rfl, ?_⟩) hHeld ?_ ?_
      rotate_left
      · rintro w' ⟨s0, s1, s2, s3⟩
        go_simp
        with_reducible rfl
      rotate_left
      · simp only [Act.put, List.setIfInBounds_toArray, List.set_cons_zero, List.set_cons_succ, i64_w, i32_w]
        rfl
      refine take_ (i := 4) (N := some 53) (v := ?_) (a' := ?_) #[true, true, false, true, true, false, false, true, false, false, false, true, false, false, false, false] rfl rfl (by kernel_rfl) (fun _ _ _ h => h) (Or.inl ⟨by rfl, ?_⟩) hHeld ?_ ?_
      rotate_left
      · rintro w' ⟨s0, s1, s2, s3⟩
        go_simp
        with_reducible rfl
      rotate_left
      · simp only [Act.put, List.setIfInBounds_toArray, List.set_cons_zero, List.set_cons_succ, i64_w, i32_w]
        rfl
      refine take_ (i := 8) (N := some 57) (v := ?_) (a' := ?_) #[true, true, false, true, true, false, false, true, true, false, false, true, false, false, false, false] rfl rfl (by kernel_rfl) (fun _ _ _ h => h) (Or.inl ⟨by rfl, ?_⟩) hHeld ?_ ?_
      rotate_left
      · rintro w' ⟨s0, s1, s2, s3⟩
        go_simp
        with_reducible rfl
      rotate_left
      · simp only [Act.put, List.setIfInBounds_toArray, List.set_cons_zero, List.set_cons_succ, i64_w, i32_w]
        rfl
      refine take_ (i := 12) (N := some 61) (v := ?_) (a' := ?_) #[true, true, false, true, true, false, false, true, true, false, false, true, true, false, false, false] rfl rfl (by kernel_rfl) (fun _ _ _ h => h) (Or.inl ⟨by rfl, ?_⟩) hHeld ?_ ?_
      rotate_left
      · rintro w' ⟨s0, s1, s2, s3⟩
        go_simp
        with_reducible rfl
      rotate_left
      · simp only [Act.put, List.setIfInBounds_toArray, List.set_cons_zero, List.set_cons_succ, i64_w, i32_w]
        rfl
      refine one_ (i := 2) (N := some 51) #[true, true, true, true, true, false, false, true, true, false, false, true, true, false, false, false] rfl rfl (by kernel_rfl) (by decide) (fun K hK => ?_)
      refine goes_ Try.func119 (by kernel_rfl) rfl #[.int .u64 (x0 : Int), .int .i64 1] (by rfl) rfl rfl (by (try simp only [List.map_toArray, List.map_cons, List.map_nil]); first | done | rfl) ?_
      refine (turn4_calls _ x0 1 _ _ rfl rfl hx0 (by decide)).mono ?_
      rw [e0A.out]
      rintro e w4 ⟨rfl, ⟨n0, rfl⟩⟩
      refine ⟨_, rfl, ?_⟩
      have hS4 := Aside0.mk (hS3.out.drewN n0)
      refine hK.out _ _ ⟨hS4.out.cell 0, hS4.out.cell 1, hS4.out.cell 2, hS4.out.cell 3⟩ (fun hHeld => ?_)
      clear hK K
      refine norm_ (a' := ?_) ?_ ?_
      rotate_left
      · show Act.put _ (some 51) _ = _
        simp only [Act.put, List.setIfInBounds_toArray, List.set_cons_zero, List.set_cons_succ, i64_w, i32_w]
        rfl
      refine one_ (i := 5) (N := some 54) #[true, true, true, true, true, true, false, true, true, false, false, true, true, false, false, false] rfl rfl (by kernel_rfl) (by decide) (fun K hK => ?_)
      refine goes_ Try.func119 (by kernel_rfl) rfl #[.int .u64 (x1 : Int), .int .i64 7] (by rfl) rfl rfl (by (try simp only [List.map_toArray, List.map_cons, List.map_nil]); first | done | rfl) ?_
      refine (turn4_calls _ x1 7 _ _ rfl rfl hx1 (by decide)).mono ?_
      rw [e1A.out]
      rintro e w4 ⟨rfl, ⟨n1, rfl⟩⟩
      refine ⟨_, rfl, ?_⟩
      have hS5 := Aside0.mk (hS4.out.drewN n1)
      refine hK.out _ _ ⟨hS5.out.cell 0, hS5.out.cell 1, hS5.out.cell 2, hS5.out.cell 3⟩ (fun hHeld => ?_)
      clear hK K
      refine norm_ (a' := ?_) ?_ ?_
      rotate_left
      · show Act.put _ (some 54) _ = _
        simp only [Act.put, List.setIfInBounds_toArray, List.set_cons_zero, List.set_cons_succ, i64_w, i32_w]
        rfl
      refine pure_ (i := 6) (N := some 55) (v := ?_) (a' := ?_) #[true, true, true, true, true, true, true, true, true, false, false, true, true, false, false, false] rfl rfl (by kernel_rfl) (fun _ _ _ h => h) (Or.inl ⟨by rfl, ?_⟩) ?_ ?_
      rotate_left
      · intro w'
        go_simp
        with_reducible rfl
      rotate_left
      · simp only [Act.put, List.setIfInBounds_toArray, List.set_cons_zero, List.set_cons_succ, i64_w, i32_w]
        rfl
      refine one_ (i := 9) (N := some 58) #[true, true, true, true, true, true, true, true, true, true, false, true, true, false, false, false] rfl rfl (by kernel_rfl) (by decide) (fun K hK => ?_)
      refine goes_ Try.func119 (by kernel_rfl) rfl #[.int .u64 (x2 : Int), .int .i64 12] (by rfl) rfl rfl (by (try simp only [List.map_toArray, List.map_cons, List.map_nil]); first | done | rfl) ?_
      refine (turn4_calls _ x2 12 _ _ rfl rfl hx2 (by decide)).mono ?_
      rw [e2A.out]
      rintro e w4 ⟨rfl, ⟨n2, rfl⟩⟩
      refine ⟨_, rfl, ?_⟩
      have hS6 := Aside0.mk (hS5.out.drewN n2)
      refine hK.out _ _ ⟨hS6.out.cell 0, hS6.out.cell 1, hS6.out.cell 2, hS6.out.cell 3⟩ (fun hHeld => ?_)
      clear hK K
      refine norm_ (a' := ?_) ?_ ?_
      rotate_left
      · show Act.put _ (some 58) _ = _
        simp only [Act.put, List.setIfInBounds_toArray, List.set_cons_zero, List.set_cons_succ, i64_w, i32_w]
        rfl
      refine pure_ (i := 10) (N := some 59) (v := ?_) (a' := ?_) #[true, true, true, true, true, true, true, true, true, true, true, true, true, false, false, false] rfl rfl (by kernel_rfl) (fun _ _ _ h => h) (Or.inl ⟨by rfl, ?_⟩) ?_ ?_
      rotate_left
      · intro w'
        go_simp
        with_reducible rfl
      rotate_left
      · simp only [Act.put, List.setIfInBounds_toArray, List.set_cons_zero, List.set_cons_succ, i64_w, i32_w]
        rfl
      refine one_ (i := 13) (N := some 62) #[true, true, true, true, true, true, true, true, true, true, true, true, true, true, false, false] rfl rfl (by kernel_rfl) (by decide) (fun K hK => ?_)
      refine goes_ Try.func119 (by kernel_rfl) rfl #[.int .u64 (x3 : Int), .int .i64 18] (by rfl) rfl rfl (by (try simp only [List.map_toArray, List.map_cons, List.map_nil]); first | done | rfl) ?_
      refine (turn4_calls _ x3 18 _ _ rfl rfl hx3 (by decide)).mono ?_
      rw [e3A.out]
      rintro e w4 ⟨rfl, ⟨n3, rfl⟩⟩
      refine ⟨_, rfl, ?_⟩
      have hS7 := Aside0.mk (hS6.out.drewN n3)
      refine hK.out _ _ ⟨hS7.out.cell 0, hS7.out.cell 1, hS7.out.cell 2, hS7.out.cell 3⟩ (fun hHeld => ?_)
      clear hK K
      refine norm_ (a' := ?_) ?_ ?_
      rotate_left
      · show Act.put _ (some 62) _ = _
        simp only [Act.put, List.setIfInBounds_toArray, List.set_cons_zero, List.set_cons_succ, i64_w, i32_w]
        rfl
      refine pure_ (i := 14) (N := some 63) (v := ?_) (a' := ?_) #[true, true, true, true, true, true, true, true, true, true, true, true, true, true, true, false] rfl rfl (by kernel_rfl) (fun _ _ _ h => h) (Or.inl ⟨by rfl, ?_⟩) ?_ ?_
      rotate_left
      · intro w'
        go_simp
        with_reducible rfl
      rotate_left
      · simp only [Act.put, List.setIfInBounds_toArray, List.set_cons_zero, List.set_cons_succ, i64_w, i32_w]
        rfl
      refine pure_ (i := 15) (N := some 10) (v := ?_) (a' := ?_) #[true, true, true, true, true, true, true, true, true, true, true, true, true, true, true, true] rfl rfl (by kernel_rfl) (fun _ _ _ h => h) (Or.inl ⟨by rfl, ?_⟩) ?_ ?_
      rotate_left
      · intro w'
        go_simp
        with_reducible rfl
      rotate_left
      · simp only [Act.put, List.setIfInBounds_toArray, List.set_cons_zero, List.set_cons_succ, i64_w, i32_w]
        rfl
      refine done_ (by kernel_rfl) ?_
      clear hc0 hc1 hc2 hc3 hHeld
      go_wp2_with (fail)
      clear f1 f2 f3
      go_loopg [10, 64] 4 (fun kq v10 v64 w' => ∃ (j : Nat), v10 = .int .u64 ((([x0, x1, x2, x3].take j).foldl wmerge a3 : Nat) : Int) ∧ v64 = .int .i64 j ∧ Aside0 (j + kq = 4) ∧ Aside0 (Sep.Sep w w' [blk w.heap.size (wvals [x0, x1, x2, x3]) 179]))
      case atStart => exact ⟨0, rfl, rfl, ⟨by omega⟩, by first | exact hS7 | exact ⟨hS7.out⟩⟩
      case round =>
        obtain ⟨j, rfl, rfl, hj, hS8⟩ := hrel
        have hh := wmerges_lt ([x0, x1, x2, x3].take j) a3 f4
        obtain ⟨h, hhe⟩ : ∃ h, ([x0, x1, x2, x3].take j).foldl wmerge a3 = h := ⟨_, rfl⟩
        rw [hhe] at hh ⊢
        by_cases hjn : j < 4
        · have hd2 : decide ((j : Int) < 4) = true := decide_eq_true (by omega)
          obtain ⟨k2, rfl⟩ : ∃ k2, gk = k2 + 1 := ⟨gk - 1, by have := hj.out; omega⟩
          obtain ⟨x, hx⟩ : ∃ x, [x0, x1, x2, x3][j]? = some x := ⟨_, List.getElem?_eq_getElem (by simp; omega)⟩
          have hxl : x < 18446744073709551616 := hvsA.out x (List.mem_of_getElem? hx)
          have hnext : ([x0, x1, x2, x3].take (j + 1)).foldl wmerge a3 = wmerge h x := by
            rw [List.take_add_one, hx, List.foldl_append, hhe, Option.toList_some, List.foldl_cons, List.foldl_nil]
          have hcx : wr.cell? ⟨w.heap.size, j, none⟩ = some (.int .u64 (x : Int)) := (hS8.out.cell j).trans (wvals_at _ j x hx)
          have hyl := win_lt 0 x
          obtain ⟨y, hy⟩ : ∃ y, win 0 x = y := ⟨_, rfl⟩
          obtain ⟨z1, z2, z3, g1, g2, g3, g4⟩ := merge_step h x y hh (by rw [← hy]; exact hyl) hy.symm
          rw [g4] at hnext
          have hnA := Aside0.mk hnext
          have p0 : ((0 : Int) ≤ (j : Int)) = True := eq_true (by omega)
          have q0 : ((j : Int) < 4) = True := eq_true (by omega)
          have hyA := Aside0.mk hy
          clear hnext hx hyl hy hhe g4 hx0 hx1 hx2 hx3 hh hs hl hszr
          go_wp2_with (fail)
          refine (into4_calls _ 0 x _ _ rfl rfl (by decide) hxl).mono ?_
          rw [hyA.out]
          rintro e w4 ⟨rfl, ⟨n9, rfl⟩⟩
          go_wp2
          clear g1 g2 g3 hcx p0 q0 hxl f4
          go_roundg k2
          case measure => omega
          case rel => exact ⟨j + 1, by rw [hnA.out], by simp, ⟨by have := hj.out; omega⟩, ⟨hS8.out.drewN _⟩⟩
        · have hj4 : j = 4 := by have := hj.out; omega
          subst hj4
          have hd2 : decide (((4 : Nat) : Int) < 4) = false := rfl
          rw [take4] at hhe
          have hoA : Aside0 (wout (wvs s l) = h) := ⟨by rw [hout.out, hhe]⟩
          clear hhe hh f4 hx0 hx1 hx2 hx3
          go_wp2
          go_ret2
          refine ⟨?_, hS8.out.1⟩
          rw [hoA.out, ← hr.out]
          rfl
def fascicleref04_begin.f (a0 : Int) (a1 : ByteArray) : Option (Int × ByteArray) := if 0 ≤ a0 ∧ a0 < 18446744073709551616 ∧ a1.size ≤ 1000000000000 then some (((wout (wvs a0.toNat (sby a1)) : Nat) : Int), strOfNums (wrest (sby a1))) else none
theorem fascicleref04_begin.calls (a0 : Int) (a1 : ByteArray) (r1 : Int) (r2 : ByteArray) (w : World) (h : fascicleref04_begin.f a0 a1 = some (r1, r2)) :
    Calls Try.prog 117 #[.int .u64 a0, .string a1] w fun e w' => e = .returned (.tuple #[.int .u64 r1, .string r2]) ∧ Below w.heap.size w w' := by
  unfold fascicleref04_begin.f at h
  split at h
  · rename_i hh
    cases h
    have := begin_walk w (sby a1) a0.toNat (sby_bytes a1) (by rw [sby_len]; exact hh.2.2) (by omega)
    rw [nums_sby, show ((a0.toNat : Nat) : Int) = a0 by omega] at this
    exact this
  · cases h
end Go.Proofs.Ytekanmieppnpeaa.G
end
