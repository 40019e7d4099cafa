/- TableOrder, walked. -/
import Derived.Test.YtnmdckgaljldhaaHTable11
set_option linter.unusedVariables false
set_option linter.unusedSimpArgs false
namespace Go.Proofs.Ytnmdckgaljldhaa.Fw
open Go Go.RowKit Go.Sort Go.Proofs.YtnmdckgaljldhaaW.PrintWords Go.Proofs.YtnmdckgaljldhaaW.PrintLast Go.Proofs.YtnmdckgaljldhaaW.PrintMore Go.Proofs.Ytnmdckgaljldhaa.Sep Go.Proofs.Ytnmdckgaljldhaa.G Go.Proofs.Ytnmdckgaljldhaa.Tb
set_option maxHeartbeats 4000000
set_option maxRecDepth 100000

theorem Compare_B (x y : E1) (W : World) : Calls Try.prog 47 #[.agg #[.int .u64 x.f0, .int .u32 x.f1], .agg #[.int .u64 y.f0, .int .u32 y.f1]] W fun e w' => e = .returned (.int .i64 (cfE x y)) ∧ Below W.heap.size W w' := by
  refine (table_Compare (x.f0, x.f1) (y.f0, y.f1) W).mono ?_
  rintro e w' ⟨rfl, q, os, rfl⟩
  have hd : (W.drewN q).heap = W.heap := rfl
  exact ⟨rfl, rfl, rfl, rfl, by show W.heap.size ≤ ((W.drewN q).heap ++ os).size; rw [hd, Array.size_append]; omega, fun k hk => by show ((W.drewN q).heap ++ os)[k]? = _; rw [hd, Array.getElem?_append_left hk]⟩

theorem cfE_neg (x y : E1) : cfE y x = -cfE x y := by
  rcases lessE_tri x y with h | h | h
  · rw [cfE_lt h, cfE_gt h]; rfl
  · rw [h, cfE_same]; rfl
  · rw [cfE_lt h, cfE_gt h]
theorem cfE_le {x y : E1} : cfE x y ≤ 0 ↔ ¬ lessE y x := by
  rcases lessE_tri x y with h | h | h
  · rw [cfE_lt h]; exact ⟨fun _ => by unfold lessE at *; omega, fun _ => by decide⟩
  · rw [h, cfE_same]; exact ⟨fun _ => by unfold lessE; omega, fun _ => by decide⟩
  · rw [cfE_gt h]; exact ⟨fun hh => absurd hh (by decide), fun hh => absurd h hh⟩
theorem cfE_trans {x y z : E1} (h1 : cfE x y ≤ 0) (h2 : cfE y z ≤ 0) : cfE x z ≤ 0 := by
  rw [cfE_le] at *
  rcases lessE_tri x z with h | h | h <;> unfold lessE at * <;> omega
def wantE (a b : E1) : Int := if lessE a b then -1 else if a = b then 0 else 1
theorem cfE_want (a b : E1) : cfE a b = wantE a b := by
  unfold wantE
  rcases lessE_tri a b with h | h | h
  · rw [cfE_lt h, if_pos h]
  · subst h; rw [cfE_same, if_neg (by unfold lessE; omega), if_pos rfl]
  · rw [cfE_gt h, if_neg (by unfold lessE at *; omega), if_neg (by rintro rfl; unfold lessE at h; omega)]

theorem tableOrder_call (a0 a1 b0 b1 c0 c1 : Int) (w : World) : Calls Try.prog 10 #[.agg #[.int .u64 a0, .int .u32 a1], .agg #[.int .u64 b0, .int .u32 b1], .agg #[.int .u64 c0, .int .u32 c1]] w fun e w' => e = .returned (.bool true) ∧ Below w.heap.size w w' := by
  have hsz : ∀ (W : World) (o : Obj), (W.alloc o).heap.size = W.heap.size + 1 := fun W o => by show (W.heap.push _).size = _; simp
  have hS0 := (((Sep.start w).alloc #[.int .u64 a0, .int .u32 a1] 81).alloc #[.int .u64 b0, .int .u32 b1] 81).alloc #[.int .u64 c0, .int .u32 c1] 81
  rw [hsz, hsz] at hS0
  have hS := Aside0.mk hS0
  have hl := Aside0.mk (lives11 (((w.alloc (.cells #[.int .u64 a0, .int .u32 a1] 81 (0, 0))).alloc (.cells #[.int .u64 b0, .int .u32 b1] 81 (0, 0))).alloc (.cells #[.int .u64 c0, .int .u32 c1] 81 (0, 0))))
  clear hS0
  obtain ⟨X, hX⟩ : ∃ X, cfE ⟨a0, a1⟩ ⟨b0, b1⟩ = X := ⟨_, rfl⟩
  obtain ⟨Y, hY⟩ : ∃ Y, cfE ⟨b0, b1⟩ ⟨c0, c1⟩ = Y := ⟨_, rfl⟩
  obtain ⟨Z, hZ⟩ : ∃ Z, cfE ⟨a0, a1⟩ ⟨c0, c1⟩ = Z := ⟨_, rfl⟩
  have hB1 := Aside0.mk (fun W => Compare_B ⟨a0, a1⟩ ⟨b0, b1⟩ W)
  have hB2 := Aside0.mk (fun W => Compare_B ⟨b0, b1⟩ ⟨c0, c1⟩ W)
  have hB3 := Aside0.mk (fun W => Compare_B ⟨a0, a1⟩ ⟨c0, c1⟩ W)
  have hB4 := Aside0.mk (fun W => Compare_B ⟨b0, b1⟩ ⟨a0, a1⟩ W)
  simp only [hX] at hB1
  simp only [hY] at hB2
  simp only [hZ] at hB3
  rw [cfE_neg, hX] at hB4
  have hXYZ : Aside0 (X ≤ 0 → Y ≤ 0 → Z ≤ 0) := ⟨by rw [← hX, ← hY, ← hZ]; exact cfE_trans⟩
  go_enter Try.func10, Try.ntmps10
  go_wp2_with (fail)
  refine hl.out.mono ?_
  rintro e w1 ⟨rfl, hb⟩
  have hS1 := hS.out.below hb
  have hc_0 : w1.cell? ⟨w.heap.size, 0, none⟩ = some (.int .u64 a0) := (hS1.pick2.cell 0).trans rfl
  have hc_1 : w1.cell? ⟨w.heap.size, 1, none⟩ = some (.int .u32 a1) := (hS1.pick2.cell 1).trans rfl
  have hd_0 : w1.cell? ⟨w.heap.size + 1, 0, none⟩ = some (.int .u64 b0) := (hS1.pick1.cell 0).trans rfl
  have hd_1 : w1.cell? ⟨w.heap.size + 1, 1, none⟩ = some (.int .u32 b1) := (hS1.pick1.cell 1).trans rfl
  have he_0 : w1.cell? ⟨w.heap.size + 1 + 1, 0, none⟩ = some (.int .u64 c0) := (hS1.cell 0).trans rfl
  have he_1 : w1.cell? ⟨w.heap.size + 1 + 1, 1, none⟩ = some (.int .u32 c1) := (hS1.cell 1).trans rfl
  have hS := Aside0.mk hS1.drew
  clear hl hb hS1
  have h3 : (a0 < b0 ∧ X = -1) ∨ (a0 = b0 ∧ a1 < b1 ∧ X = -1) ∨ (a0 = b0 ∧ a1 = b1 ∧ X = 0) ∨ (a0 = b0 ∧ b1 < a1 ∧ X = 1) ∨ (b0 < a0 ∧ X = 1) := by
    rw [cfE_want] at hX
    unfold wantE lessE at hX
    have hq : (⟨a0, a1⟩ : E1) = ⟨b0, b1⟩ ↔ a0 = b0 ∧ a1 = b1 := ⟨fun h => by injection h with h1 h2; exact ⟨h1, h2⟩, fun h => by rw [h.1, h.2]⟩
    simp only [hq] at hX
    split at hX
    · omega
    · split at hX <;> omega
  clear hX hY hZ hsz
  rcases h3 with ⟨h3, rfl⟩ | ⟨rfl, h3, rfl⟩ | ⟨rfl, rfl, rfl⟩ | ⟨rfl, h3, rfl⟩ | ⟨h3, rfl⟩
  · go_wp2_with (fail)
    refine start_ (n := 8) (S := fun w' => w'.cell? ⟨w.heap.size, 0, none⟩ = some (.int .u64 a0) ∧ w'.cell? ⟨w.heap.size, 1, none⟩ = some (.int .u32 a1) ∧ w'.cell? ⟨w.heap.size + 1, 0, none⟩ = some (.int .u64 b0) ∧ w'.cell? ⟨w.heap.size + 1, 1, none⟩ = some (.int .u32 b1) ∧ w'.cell? ⟨w.heap.size + 1 + 1, 0, none⟩ = some (.int .u64 c0) ∧ w'.cell? ⟨w.heap.size + 1 + 1, 1, none⟩ = some (.int .u32 c1)) (ds := []) #[false, false, false, false, false, false, false, false] (by kernel_rfl) rfl rfl ⟨hc_0, hc_1, hd_0, hd_1, he_0, he_1⟩ (fun hHeld => ?_)
    generalize w1.drew = wq at hS hHeld ⊢
    refine take_ (i := 0) (N := some 34) (v := ?_) (a' := ?_) #[true, false, false, false, false, false, false, false] rfl rfl (by kernel_rfl) (fun _ _ _ h => h) (Or.inl ⟨by rfl, ?_⟩) hHeld ?_ ?_
    rotate_left
    · rintro w' ⟨s0, s1, s2, s3, s4, s5⟩
      go_simp
      with_reducible rfl
    rotate_left
    · simp only [Act.put, List.setIfInBounds_toArray, List.set_cons_zero, List.set_cons_succ, i64_w, i32_w]
      rfl
    refine take_ (i := 1) (N := some 35) (v := ?_) (a' := ?_) #[true, true, false, false, false, false, false, false] rfl rfl (by kernel_rfl) (fun _ _ _ h => h) (Or.inl ⟨by rfl, ?_⟩) hHeld ?_ ?_
    rotate_left
    · rintro w' ⟨s0, s1, s2, s3, s4, s5⟩
      go_simp
      with_reducible rfl
    rotate_left
    · simp only [Act.put, List.setIfInBounds_toArray, List.set_cons_zero, List.set_cons_succ, i64_w, i32_w]
      rfl
    refine take_ (i := 3) (N := some 37) (v := ?_) (a' := ?_) #[true, true, false, true, false, false, false, false] rfl rfl (by kernel_rfl) (fun _ _ _ h => h) (Or.inl ⟨by rfl, ?_⟩) hHeld ?_ ?_
    rotate_left
    · rintro w' ⟨s0, s1, s2, s3, s4, s5⟩
      go_simp
      with_reducible rfl
    rotate_left
    · simp only [Act.put, List.setIfInBounds_toArray, List.set_cons_zero, List.set_cons_succ, i64_w, i32_w]
      rfl
    refine take_ (i := 4) (N := some 38) (v := ?_) (a' := ?_) #[true, true, false, true, true, false, false, false] rfl rfl (by kernel_rfl) (fun _ _ _ h => h) (Or.inl ⟨by rfl, ?_⟩) hHeld ?_ ?_
    rotate_left
    · rintro w' ⟨s0, s1, s2, s3, s4, s5⟩
      go_simp
      with_reducible rfl
    rotate_left
    · simp only [Act.put, List.setIfInBounds_toArray, List.set_cons_zero, List.set_cons_succ, i64_w, i32_w]
      rfl
    refine one_ (i := 2) (N := some 36) #[true, true, true, true, true, false, false, false] rfl rfl (by kernel_rfl) (by decide) (fun K hK => ?_)
    refine goes_ Try.func47 (by kernel_rfl) rfl #[.agg #[.int .u64 a0, .int .u32 a1], .agg #[.int .u64 b0, .int .u32 b1]] (by rfl) rfl rfl (by (try simp only [List.map_toArray, List.map_cons, List.map_nil]); first | done | rfl) ?_
    refine (hB1.out _).mono ?_
    rintro e wq ⟨rfl, hb⟩
    refine ⟨_, rfl, ?_⟩
    have hS := Aside0.mk (hS.out.below hb)
    clear hb
    refine hK.out _ _ ⟨(hS.out.pick2.cell 0).trans rfl, (hS.out.pick2.cell 1).trans rfl, (hS.out.pick1.cell 0).trans rfl, (hS.out.pick1.cell 1).trans rfl, (hS.out.cell 0).trans rfl, (hS.out.cell 1).trans rfl⟩ (fun hHeld => ?_)
    clear hK K
    refine norm_ (a' := ?_) ?_ ?_
    rotate_left
    · show Act.put _ (some 36) _ = _
      simp only [Act.put, List.setIfInBounds_toArray, List.set_cons_zero, List.set_cons_succ, i64_w, i32_w]
      rfl
    refine one_ (i := 5) (N := some 39) #[true, true, true, true, true, true, false, false] rfl rfl (by kernel_rfl) (by decide) (fun K hK => ?_)
    refine goes_ Try.func47 (by kernel_rfl) rfl #[.agg #[.int .u64 b0, .int .u32 b1], .agg #[.int .u64 c0, .int .u32 c1]] (by rfl) rfl rfl (by (try simp only [List.map_toArray, List.map_cons, List.map_nil]); first | done | rfl) ?_
    refine (hB2.out _).mono ?_
    rintro e wq ⟨rfl, hb⟩
    refine ⟨_, rfl, ?_⟩
    have hS := Aside0.mk (hS.out.below hb)
    clear hb
    refine hK.out _ _ ⟨(hS.out.pick2.cell 0).trans rfl, (hS.out.pick2.cell 1).trans rfl, (hS.out.pick1.cell 0).trans rfl, (hS.out.pick1.cell 1).trans rfl, (hS.out.cell 0).trans rfl, (hS.out.cell 1).trans rfl⟩ (fun hHeld => ?_)
    clear hK K
    refine norm_ (a' := ?_) ?_ ?_
    rotate_left
    · show Act.put _ (some 39) _ = _
      simp only [Act.put, List.setIfInBounds_toArray, List.set_cons_zero, List.set_cons_succ, i64_w, i32_w]
      rfl
    refine pure_ (i := 6) (N := some 8) (v := ?_) (a' := ?_) #[true, true, true, true, true, true, true, false] rfl rfl (by kernel_rfl) (fun _ _ _ h => h) (Or.inl ⟨by rfl, ?_⟩) ?_ ?_
    rotate_left
    · intro w'
      go_simp
      with_reducible rfl
    rotate_left
    · simp only [Act.put, List.setIfInBounds_toArray, List.set_cons_zero, List.set_cons_succ, i64_w, i32_w]
      rfl
    refine pure_ (i := 7) (N := some 9) (v := ?_) (a' := ?_) #[true, true, true, true, true, true, true, true] rfl rfl (by kernel_rfl) (fun _ _ _ h => h) (Or.inl ⟨by rfl, ?_⟩) ?_ ?_
    rotate_left
    · intro w'
      go_simp
      with_reducible rfl
    rotate_left
    · simp only [Act.put, List.setIfInBounds_toArray, List.set_cons_zero, List.set_cons_succ, i64_w, i32_w]
      rfl
    refine done_ (by kernel_rfl) ?_
    have f_0 : wq.cell? ⟨w.heap.size, 0, none⟩ = some (.int .u64 a0) := (hS.out.pick2.cell 0).trans rfl
    have f_1 : wq.cell? ⟨w.heap.size, 1, none⟩ = some (.int .u32 a1) := (hS.out.pick2.cell 1).trans rfl
    have g_0 : wq.cell? ⟨w.heap.size + 1, 0, none⟩ = some (.int .u64 b0) := (hS.out.pick1.cell 0).trans rfl
    have g_1 : wq.cell? ⟨w.heap.size + 1, 1, none⟩ = some (.int .u32 b1) := (hS.out.pick1.cell 1).trans rfl
    have k_0 : wq.cell? ⟨w.heap.size + 1 + 1, 0, none⟩ = some (.int .u64 c0) := (hS.out.cell 0).trans rfl
    have k_1 : wq.cell? ⟨w.heap.size + 1 + 1, 1, none⟩ = some (.int .u32 c1) := (hS.out.cell 1).trans rfl
    clear hc_0 hc_1 hd_0 hd_1 he_0 he_1
    by_cases hy : 0 < Y
    · have hy2 : decide (0 < Y) = true := decide_eq_true hy
      go_wp2_with (first | ((with_reducible refine gate_callee (f := 47) rfl ?_); (try (refine gate_guard (by rfl) ?_; dsimp only)); refine goesL_ (some 46) rfl rfl Try.func47 (by kernel_rfl) rfl #[.agg #[.int .u64 b0, .int .u32 b1], .agg #[.int .u64 a0, .int .u32 a1]] rfl (by (try simp only [List.map_toArray, List.map_cons, List.map_nil]); first | done | rfl) ?_; refine (hB4.out _).mono ?_; rintro e w2 ⟨rfl, hb⟩; refine ⟨_, rfl, ?_⟩; have hS2 := Aside0.mk (hS.out.below hb); have f_0 : w2.cell? ⟨w.heap.size, 0, none⟩ = some (.int .u64 a0) := (hS2.out.pick2.cell 0).trans rfl; have f_1 : w2.cell? ⟨w.heap.size, 1, none⟩ = some (.int .u32 a1) := (hS2.out.pick2.cell 1).trans rfl; have g_0 : w2.cell? ⟨w.heap.size + 1, 0, none⟩ = some (.int .u64 b0) := (hS2.out.pick1.cell 0).trans rfl; have g_1 : w2.cell? ⟨w.heap.size + 1, 1, none⟩ = some (.int .u32 b1) := (hS2.out.pick1.cell 1).trans rfl; have k_0 : w2.cell? ⟨w.heap.size + 1 + 1, 0, none⟩ = some (.int .u64 c0) := (hS2.out.cell 0).trans rfl; have k_1 : w2.cell? ⟨w.heap.size + 1 + 1, 1, none⟩ = some (.int .u32 c1) := (hS2.out.cell 1).trans rfl; clear hb) | ((with_reducible refine gate_callee (f := 47) rfl ?_); (try (refine gate_guard (by rfl) ?_; dsimp only)); refine goesL_ (some 61) rfl rfl Try.func47 (by kernel_rfl) rfl #[.agg #[.int .u64 a0, .int .u32 a1], .agg #[.int .u64 c0, .int .u32 c1]] rfl (by (try simp only [List.map_toArray, List.map_cons, List.map_nil]); first | done | rfl) ?_; refine (hB3.out _).mono ?_; rintro e w3 ⟨rfl, hb⟩; refine ⟨_, rfl, ?_⟩; have hS3 := Aside0.mk (hS2.out.below hb); clear hb))
      go_ret
      exact ⟨rfl, hS2.out.1⟩
    · have hy2 : decide (0 < Y) = false := decide_eq_false hy
      have hz : Z ≤ 0 := hXYZ.out (by decide) (by omega)
      have hz2 : decide (Z ≤ 0) = true := decide_eq_true hz
      go_wp2_with (first | ((with_reducible refine gate_callee (f := 47) rfl ?_); (try (refine gate_guard (by rfl) ?_; dsimp only)); refine goesL_ (some 46) rfl rfl Try.func47 (by kernel_rfl) rfl #[.agg #[.int .u64 b0, .int .u32 b1], .agg #[.int .u64 a0, .int .u32 a1]] rfl (by (try simp only [List.map_toArray, List.map_cons, List.map_nil]); first | done | rfl) ?_; refine (hB4.out _).mono ?_; rintro e w2 ⟨rfl, hb⟩; refine ⟨_, rfl, ?_⟩; have hS2 := Aside0.mk (hS.out.below hb); have f_0 : w2.cell? ⟨w.heap.size, 0, none⟩ = some (.int .u64 a0) := (hS2.out.pick2.cell 0).trans rfl; have f_1 : w2.cell? ⟨w.heap.size, 1, none⟩ = some (.int .u32 a1) := (hS2.out.pick2.cell 1).trans rfl; have g_0 : w2.cell? ⟨w.heap.size + 1, 0, none⟩ = some (.int .u64 b0) := (hS2.out.pick1.cell 0).trans rfl; have g_1 : w2.cell? ⟨w.heap.size + 1, 1, none⟩ = some (.int .u32 b1) := (hS2.out.pick1.cell 1).trans rfl; have k_0 : w2.cell? ⟨w.heap.size + 1 + 1, 0, none⟩ = some (.int .u64 c0) := (hS2.out.cell 0).trans rfl; have k_1 : w2.cell? ⟨w.heap.size + 1 + 1, 1, none⟩ = some (.int .u32 c1) := (hS2.out.cell 1).trans rfl; clear hb) | ((with_reducible refine gate_callee (f := 47) rfl ?_); (try (refine gate_guard (by rfl) ?_; dsimp only)); refine goesL_ (some 61) rfl rfl Try.func47 (by kernel_rfl) rfl #[.agg #[.int .u64 a0, .int .u32 a1], .agg #[.int .u64 c0, .int .u32 c1]] rfl (by (try simp only [List.map_toArray, List.map_cons, List.map_nil]); first | done | rfl) ?_; refine (hB3.out _).mono ?_; rintro e w3 ⟨rfl, hb⟩; refine ⟨_, rfl, ?_⟩; have hS3 := Aside0.mk (hS2.out.below hb); clear hb))
      go_ret
      exact ⟨rfl, hS3.out.1⟩
  · go_wp2_with (fail)
    refine start_ (n := 8) (S := fun w' => w'.cell? ⟨w.heap.size, 0, none⟩ = some (.int .u64 a0) ∧ w'.cell? ⟨w.heap.size, 1, none⟩ = some (.int .u32 a1) ∧ w'.cell? ⟨w.heap.size + 1, 0, none⟩ = some (.int .u64 a0) ∧ w'.cell? ⟨w.heap.size + 1, 1, none⟩ = some (.int .u32 b1) ∧ w'.cell? ⟨w.heap.size + 1 + 1, 0, none⟩ = some (.int .u64 c0) ∧ w'.cell? ⟨w.heap.size + 1 + 1, 1, none⟩ = some (.int .u32 c1)) (ds := []) #[false, false, false, false, false, false, false, false] (by kernel_rfl) rfl rfl ⟨hc_0, hc_1, hd_0, hd_1, he_0, he_1⟩ (fun hHeld => ?_)
    generalize w1.drew = wq at hS hHeld ⊢
    refine take_ (i := 0) (N := some 34) (v := ?_) (a' := ?_) #[true, false, false, false, false, false, false, false] rfl rfl (by kernel_rfl) (fun _ _ _ h => h) (Or.inl ⟨by rfl, ?_⟩) hHeld ?_ ?_
    rotate_left
    · rintro w' ⟨s0, s1, s2, s3, s4, s5⟩
      go_simp
      with_reducible rfl
    rotate_left
    · simp only [Act.put, List.setIfInBounds_toArray, List.set_cons_zero, List.set_cons_succ, i64_w, i32_w]
      rfl
    refine take_ (i := 1) (N := some 35) (v := ?_) (a' := ?_) #[true, true, false, false, false, false, false, false] rfl rfl (by kernel_rfl) (fun _ _ _ h => h) (Or.inl ⟨by rfl, ?_⟩) hHeld ?_ ?_
    rotate_left
    · rintro w' ⟨s0, s1, s2, s3, s4, s5⟩
      go_simp
      with_reducible rfl
    rotate_left
    · simp only [Act.put, List.setIfInBounds_toArray, List.set_cons_zero, List.set_cons_succ, i64_w, i32_w]
      rfl
    refine take_ (i := 3) (N := some 37) (v := ?_) (a' := ?_) #[true, true, false, true, false, false, false, false] rfl rfl (by kernel_rfl) (fun _ _ _ h => h) (Or.inl ⟨by rfl, ?_⟩) hHeld ?_ ?_
    rotate_left
    · rintro w' ⟨s0, s1, s2, s3, s4, s5⟩
      go_simp
      with_reducible rfl
    rotate_left
    · simp only [Act.put, List.setIfInBounds_toArray, List.set_cons_zero, List.set_cons_succ, i64_w, i32_w]
      rfl
    refine take_ (i := 4) (N := some 38) (v := ?_) (a' := ?_) #[true, true, false, true, true, false, false, false] rfl rfl (by kernel_rfl) (fun _ _ _ h => h) (Or.inl ⟨by rfl, ?_⟩) hHeld ?_ ?_
    rotate_left
    · rintro w' ⟨s0, s1, s2, s3, s4, s5⟩
      go_simp
      with_reducible rfl
    rotate_left
    · simp only [Act.put, List.setIfInBounds_toArray, List.set_cons_zero, List.set_cons_succ, i64_w, i32_w]
      rfl
    refine one_ (i := 2) (N := some 36) #[true, true, true, true, true, false, false, false] rfl rfl (by kernel_rfl) (by decide) (fun K hK => ?_)
    refine goes_ Try.func47 (by kernel_rfl) rfl #[.agg #[.int .u64 a0, .int .u32 a1], .agg #[.int .u64 a0, .int .u32 b1]] (by rfl) rfl rfl (by (try simp only [List.map_toArray, List.map_cons, List.map_nil]); first | done | rfl) ?_
    refine (hB1.out _).mono ?_
    rintro e wq ⟨rfl, hb⟩
    refine ⟨_, rfl, ?_⟩
    have hS := Aside0.mk (hS.out.below hb)
    clear hb
    refine hK.out _ _ ⟨(hS.out.pick2.cell 0).trans rfl, (hS.out.pick2.cell 1).trans rfl, (hS.out.pick1.cell 0).trans rfl, (hS.out.pick1.cell 1).trans rfl, (hS.out.cell 0).trans rfl, (hS.out.cell 1).trans rfl⟩ (fun hHeld => ?_)
    clear hK K
    refine norm_ (a' := ?_) ?_ ?_
    rotate_left
    · show Act.put _ (some 36) _ = _
      simp only [Act.put, List.setIfInBounds_toArray, List.set_cons_zero, List.set_cons_succ, i64_w, i32_w]
      rfl
    refine one_ (i := 5) (N := some 39) #[true, true, true, true, true, true, false, false] rfl rfl (by kernel_rfl) (by decide) (fun K hK => ?_)
    refine goes_ Try.func47 (by kernel_rfl) rfl #[.agg #[.int .u64 a0, .int .u32 b1], .agg #[.int .u64 c0, .int .u32 c1]] (by rfl) rfl rfl (by (try simp only [List.map_toArray, List.map_cons, List.map_nil]); first | done | rfl) ?_
    refine (hB2.out _).mono ?_
    rintro e wq ⟨rfl, hb⟩
    refine ⟨_, rfl, ?_⟩
    have hS := Aside0.mk (hS.out.below hb)
    clear hb
    refine hK.out _ _ ⟨(hS.out.pick2.cell 0).trans rfl, (hS.out.pick2.cell 1).trans rfl, (hS.out.pick1.cell 0).trans rfl, (hS.out.pick1.cell 1).trans rfl, (hS.out.cell 0).trans rfl, (hS.out.cell 1).trans rfl⟩ (fun hHeld => ?_)
    clear hK K
    refine norm_ (a' := ?_) ?_ ?_
    rotate_left
    · show Act.put _ (some 39) _ = _
      simp only [Act.put, List.setIfInBounds_toArray, List.set_cons_zero, List.set_cons_succ, i64_w, i32_w]
      rfl
    refine pure_ (i := 6) (N := some 8) (v := ?_) (a' := ?_) #[true, true, true, true, true, true, true, false] rfl rfl (by kernel_rfl) (fun _ _ _ h => h) (Or.inl ⟨by rfl, ?_⟩) ?_ ?_
    rotate_left
    · intro w'
      go_simp
      with_reducible rfl
    rotate_left
    · simp only [Act.put, List.setIfInBounds_toArray, List.set_cons_zero, List.set_cons_succ, i64_w, i32_w]
      rfl
    refine pure_ (i := 7) (N := some 9) (v := ?_) (a' := ?_) #[true, true, true, true, true, true, true, true] rfl rfl (by kernel_rfl) (fun _ _ _ h => h) (Or.inl ⟨by rfl, ?_⟩) ?_ ?_
    rotate_left
    · intro w'
      go_simp
      with_reducible rfl
    rotate_left
    · simp only [Act.put, List.setIfInBounds_toArray, List.set_cons_zero, List.set_cons_succ, i64_w, i32_w]
      rfl
    refine done_ (by kernel_rfl) ?_
    have f_0 : wq.cell? ⟨w.heap.size, 0, none⟩ = some (.int .u64 a0) := (hS.out.pick2.cell 0).trans rfl
    have f_1 : wq.cell? ⟨w.heap.size, 1, none⟩ = some (.int .u32 a1) := (hS.out.pick2.cell 1).trans rfl
    have g_0 : wq.cell? ⟨w.heap.size + 1, 0, none⟩ = some (.int .u64 a0) := (hS.out.pick1.cell 0).trans rfl
    have g_1 : wq.cell? ⟨w.heap.size + 1, 1, none⟩ = some (.int .u32 b1) := (hS.out.pick1.cell 1).trans rfl
    have k_0 : wq.cell? ⟨w.heap.size + 1 + 1, 0, none⟩ = some (.int .u64 c0) := (hS.out.cell 0).trans rfl
    have k_1 : wq.cell? ⟨w.heap.size + 1 + 1, 1, none⟩ = some (.int .u32 c1) := (hS.out.cell 1).trans rfl
    clear hc_0 hc_1 hd_0 hd_1 he_0 he_1
    by_cases hy : 0 < Y
    · have hy2 : decide (0 < Y) = true := decide_eq_true hy
      go_wp2_with (first | ((with_reducible refine gate_callee (f := 47) rfl ?_); (try (refine gate_guard (by rfl) ?_; dsimp only)); refine goesL_ (some 46) rfl rfl Try.func47 (by kernel_rfl) rfl #[.agg #[.int .u64 a0, .int .u32 b1], .agg #[.int .u64 a0, .int .u32 a1]] rfl (by (try simp only [List.map_toArray, List.map_cons, List.map_nil]); first | done | rfl) ?_; refine (hB4.out _).mono ?_; rintro e w2 ⟨rfl, hb⟩; refine ⟨_, rfl, ?_⟩; have hS2 := Aside0.mk (hS.out.below hb); have f_0 : w2.cell? ⟨w.heap.size, 0, none⟩ = some (.int .u64 a0) := (hS2.out.pick2.cell 0).trans rfl; have f_1 : w2.cell? ⟨w.heap.size, 1, none⟩ = some (.int .u32 a1) := (hS2.out.pick2.cell 1).trans rfl; have g_0 : w2.cell? ⟨w.heap.size + 1, 0, none⟩ = some (.int .u64 a0) := (hS2.out.pick1.cell 0).trans rfl; have g_1 : w2.cell? ⟨w.heap.size + 1, 1, none⟩ = some (.int .u32 b1) := (hS2.out.pick1.cell 1).trans rfl; have k_0 : w2.cell? ⟨w.heap.size + 1 + 1, 0, none⟩ = some (.int .u64 c0) := (hS2.out.cell 0).trans rfl; have k_1 : w2.cell? ⟨w.heap.size + 1 + 1, 1, none⟩ = some (.int .u32 c1) := (hS2.out.cell 1).trans rfl; clear hb) | ((with_reducible refine gate_callee (f := 47) rfl ?_); (try (refine gate_guard (by rfl) ?_; dsimp only)); refine goesL_ (some 61) rfl rfl Try.func47 (by kernel_rfl) rfl #[.agg #[.int .u64 a0, .int .u32 a1], .agg #[.int .u64 c0, .int .u32 c1]] rfl (by (try simp only [List.map_toArray, List.map_cons, List.map_nil]); first | done | rfl) ?_; refine (hB3.out _).mono ?_; rintro e w3 ⟨rfl, hb⟩; refine ⟨_, rfl, ?_⟩; have hS3 := Aside0.mk (hS2.out.below hb); clear hb))
      go_ret
      exact ⟨rfl, hS2.out.1⟩
    · have hy2 : decide (0 < Y) = false := decide_eq_false hy
      have hz : Z ≤ 0 := hXYZ.out (by decide) (by omega)
      have hz2 : decide (Z ≤ 0) = true := decide_eq_true hz
      go_wp2_with (first | ((with_reducible refine gate_callee (f := 47) rfl ?_); (try (refine gate_guard (by rfl) ?_; dsimp only)); refine goesL_ (some 46) rfl rfl Try.func47 (by kernel_rfl) rfl #[.agg #[.int .u64 a0, .int .u32 b1], .agg #[.int .u64 a0, .int .u32 a1]] rfl (by (try simp only [List.map_toArray, List.map_cons, List.map_nil]); first | done | rfl) ?_; refine (hB4.out _).mono ?_; rintro e w2 ⟨rfl, hb⟩; refine ⟨_, rfl, ?_⟩; have hS2 := Aside0.mk (hS.out.below hb); have f_0 : w2.cell? ⟨w.heap.size, 0, none⟩ = some (.int .u64 a0) := (hS2.out.pick2.cell 0).trans rfl; have f_1 : w2.cell? ⟨w.heap.size, 1, none⟩ = some (.int .u32 a1) := (hS2.out.pick2.cell 1).trans rfl; have g_0 : w2.cell? ⟨w.heap.size + 1, 0, none⟩ = some (.int .u64 a0) := (hS2.out.pick1.cell 0).trans rfl; have g_1 : w2.cell? ⟨w.heap.size + 1, 1, none⟩ = some (.int .u32 b1) := (hS2.out.pick1.cell 1).trans rfl; have k_0 : w2.cell? ⟨w.heap.size + 1 + 1, 0, none⟩ = some (.int .u64 c0) := (hS2.out.cell 0).trans rfl; have k_1 : w2.cell? ⟨w.heap.size + 1 + 1, 1, none⟩ = some (.int .u32 c1) := (hS2.out.cell 1).trans rfl; clear hb) | ((with_reducible refine gate_callee (f := 47) rfl ?_); (try (refine gate_guard (by rfl) ?_; dsimp only)); refine goesL_ (some 61) rfl rfl Try.func47 (by kernel_rfl) rfl #[.agg #[.int .u64 a0, .int .u32 a1], .agg #[.int .u64 c0, .int .u32 c1]] rfl (by (try simp only [List.map_toArray, List.map_cons, List.map_nil]); first | done | rfl) ?_; refine (hB3.out _).mono ?_; rintro e w3 ⟨rfl, hb⟩; refine ⟨_, rfl, ?_⟩; have hS3 := Aside0.mk (hS2.out.below hb); clear hb))
      go_ret
      exact ⟨rfl, hS3.out.1⟩
  · go_wp2_with (fail)
    refine start_ (n := 8) (S := fun w' => w'.cell? ⟨w.heap.size, 0, none⟩ = some (.int .u64 a0) ∧ w'.cell? ⟨w.heap.size, 1, none⟩ = some (.int .u32 a1) ∧ w'.cell? ⟨w.heap.size + 1, 0, none⟩ = some (.int .u64 a0) ∧ w'.cell? ⟨w.heap.size + 1, 1, none⟩ = some (.int .u32 a1) ∧ w'.cell? ⟨w.heap.size + 1 + 1, 0, none⟩ = some (.int .u64 c0) ∧ w'.cell? ⟨w.heap.size + 1 + 1, 1, none⟩ = some (.int .u32 c1)) (ds := []) #[false, false, false, false, false, false, false, false] (by kernel_rfl) rfl rfl ⟨hc_0, hc_1, hd_0, hd_1, he_0, he_1⟩ (fun hHeld => ?_)
    generalize w1.drew = wq at hS hHeld ⊢
    refine take_ (i := 0) (N := some 34) (v := ?_) (a' := ?_) #[true, false, false, false, false, false, false, false] rfl rfl (by kernel_rfl) (fun _ _ _ h => h) (Or.inl ⟨by rfl, ?_⟩) hHeld ?_ ?_
    rotate_left
    · rintro w' ⟨s0, s1, s2, s3, s4, s5⟩
      go_simp
      with_reducible rfl
    rotate_left
    · simp only [Act.put, List.setIfInBounds_toArray, List.set_cons_zero, List.set_cons_succ, i64_w, i32_w]
      rfl
    refine take_ (i := 1) (N := some 35) (v := ?_) (a' := ?_) #[true, true, false, false, false, false, false, false] rfl rfl (by kernel_rfl) (fun _ _ _ h => h) (Or.inl ⟨by rfl, ?_⟩) hHeld ?_ ?_
    rotate_left
    · rintro w' ⟨s0, s1, s2, s3, s4, s5⟩
      go_simp
      with_reducible rfl
    rotate_left
    · simp only [Act.put, List.setIfInBounds_toArray, List.set_cons_zero, List.set_cons_succ, i64_w, i32_w]
      rfl
    refine take_ (i := 3) (N := some 37) (v := ?_) (a' := ?_) #[true, true, false, true, false, false, false, false] rfl rfl (by kernel_rfl) (fun _ _ _ h => h) (Or.inl ⟨by rfl, ?_⟩) hHeld ?_ ?_
    rotate_left
    · rintro w' ⟨s0, s1, s2, s3, s4, s5⟩
      go_simp
      with_reducible rfl
    rotate_left
    · simp only [Act.put, List.setIfInBounds_toArray, List.set_cons_zero, List.set_cons_succ, i64_w, i32_w]
      rfl
    refine take_ (i := 4) (N := some 38) (v := ?_) (a' := ?_) #[true, true, false, true, true, false, false, false] rfl rfl (by kernel_rfl) (fun _ _ _ h => h) (Or.inl ⟨by rfl, ?_⟩) hHeld ?_ ?_
    rotate_left
    · rintro w' ⟨s0, s1, s2, s3, s4, s5⟩
      go_simp
      with_reducible rfl
    rotate_left
    · simp only [Act.put, List.setIfInBounds_toArray, List.set_cons_zero, List.set_cons_succ, i64_w, i32_w]
      rfl
    refine one_ (i := 2) (N := some 36) #[true, true, true, true, true, false, false, false] rfl rfl (by kernel_rfl) (by decide) (fun K hK => ?_)
    refine goes_ Try.func47 (by kernel_rfl) rfl #[.agg #[.int .u64 a0, .int .u32 a1], .agg #[.int .u64 a0, .int .u32 a1]] (by rfl) rfl rfl (by (try simp only [List.map_toArray, List.map_cons, List.map_nil]); first | done | rfl) ?_
    refine (hB1.out _).mono ?_
    rintro e wq ⟨rfl, hb⟩
    refine ⟨_, rfl, ?_⟩
    have hS := Aside0.mk (hS.out.below hb)
    clear hb
    refine hK.out _ _ ⟨(hS.out.pick2.cell 0).trans rfl, (hS.out.pick2.cell 1).trans rfl, (hS.out.pick1.cell 0).trans rfl, (hS.out.pick1.cell 1).trans rfl, (hS.out.cell 0).trans rfl, (hS.out.cell 1).trans rfl⟩ (fun hHeld => ?_)
    clear hK K
    refine norm_ (a' := ?_) ?_ ?_
    rotate_left
    · show Act.put _ (some 36) _ = _
      simp only [Act.put, List.setIfInBounds_toArray, List.set_cons_zero, List.set_cons_succ, i64_w, i32_w]
      rfl
    refine one_ (i := 5) (N := some 39) #[true, true, true, true, true, true, false, false] rfl rfl (by kernel_rfl) (by decide) (fun K hK => ?_)
    refine goes_ Try.func47 (by kernel_rfl) rfl #[.agg #[.int .u64 a0, .int .u32 a1], .agg #[.int .u64 c0, .int .u32 c1]] (by rfl) rfl rfl (by (try simp only [List.map_toArray, List.map_cons, List.map_nil]); first | done | rfl) ?_
    refine (hB2.out _).mono ?_
    rintro e wq ⟨rfl, hb⟩
    refine ⟨_, rfl, ?_⟩
    have hS := Aside0.mk (hS.out.below hb)
    clear hb
    refine hK.out _ _ ⟨(hS.out.pick2.cell 0).trans rfl, (hS.out.pick2.cell 1).trans rfl, (hS.out.pick1.cell 0).trans rfl, (hS.out.pick1.cell 1).trans rfl, (hS.out.cell 0).trans rfl, (hS.out.cell 1).trans rfl⟩ (fun hHeld => ?_)
    clear hK K
    refine norm_ (a' := ?_) ?_ ?_
    rotate_left
    · show Act.put _ (some 39) _ = _
      simp only [Act.put, List.setIfInBounds_toArray, List.set_cons_zero, List.set_cons_succ, i64_w, i32_w]
      rfl
    refine pure_ (i := 6) (N := some 8) (v := ?_) (a' := ?_) #[true, true, true, true, true, true, true, false] rfl rfl (by kernel_rfl) (fun _ _ _ h => h) (Or.inl ⟨by rfl, ?_⟩) ?_ ?_
    rotate_left
    · intro w'
      go_simp
      with_reducible rfl
    rotate_left
    · simp only [Act.put, List.setIfInBounds_toArray, List.set_cons_zero, List.set_cons_succ, i64_w, i32_w]
      rfl
    refine pure_ (i := 7) (N := some 9) (v := ?_) (a' := ?_) #[true, true, true, true, true, true, true, true] rfl rfl (by kernel_rfl) (fun _ _ _ h => h) (Or.inl ⟨by rfl, ?_⟩) ?_ ?_
    rotate_left
    · intro w'
      go_simp
      with_reducible rfl
    rotate_left
    · simp only [Act.put, List.setIfInBounds_toArray, List.set_cons_zero, List.set_cons_succ, i64_w, i32_w]
      rfl
    refine done_ (by kernel_rfl) ?_
    have f_0 : wq.cell? ⟨w.heap.size, 0, none⟩ = some (.int .u64 a0) := (hS.out.pick2.cell 0).trans rfl
    have f_1 : wq.cell? ⟨w.heap.size, 1, none⟩ = some (.int .u32 a1) := (hS.out.pick2.cell 1).trans rfl
    have g_0 : wq.cell? ⟨w.heap.size + 1, 0, none⟩ = some (.int .u64 a0) := (hS.out.pick1.cell 0).trans rfl
    have g_1 : wq.cell? ⟨w.heap.size + 1, 1, none⟩ = some (.int .u32 a1) := (hS.out.pick1.cell 1).trans rfl
    have k_0 : wq.cell? ⟨w.heap.size + 1 + 1, 0, none⟩ = some (.int .u64 c0) := (hS.out.cell 0).trans rfl
    have k_1 : wq.cell? ⟨w.heap.size + 1 + 1, 1, none⟩ = some (.int .u32 c1) := (hS.out.cell 1).trans rfl
    clear hc_0 hc_1 hd_0 hd_1 he_0 he_1
    by_cases hy : 0 < Y
    · have hy2 : decide (0 < Y) = true := decide_eq_true hy
      go_wp2_with (first | ((with_reducible refine gate_callee (f := 47) rfl ?_); (try (refine gate_guard (by rfl) ?_; dsimp only)); refine goesL_ (some 46) rfl rfl Try.func47 (by kernel_rfl) rfl #[.agg #[.int .u64 a0, .int .u32 a1], .agg #[.int .u64 a0, .int .u32 a1]] rfl (by (try simp only [List.map_toArray, List.map_cons, List.map_nil]); first | done | rfl) ?_; refine (hB4.out _).mono ?_; rintro e w2 ⟨rfl, hb⟩; refine ⟨_, rfl, ?_⟩; have hS2 := Aside0.mk (hS.out.below hb); have f_0 : w2.cell? ⟨w.heap.size, 0, none⟩ = some (.int .u64 a0) := (hS2.out.pick2.cell 0).trans rfl; have f_1 : w2.cell? ⟨w.heap.size, 1, none⟩ = some (.int .u32 a1) := (hS2.out.pick2.cell 1).trans rfl; have g_0 : w2.cell? ⟨w.heap.size + 1, 0, none⟩ = some (.int .u64 a0) := (hS2.out.pick1.cell 0).trans rfl; have g_1 : w2.cell? ⟨w.heap.size + 1, 1, none⟩ = some (.int .u32 a1) := (hS2.out.pick1.cell 1).trans rfl; have k_0 : w2.cell? ⟨w.heap.size + 1 + 1, 0, none⟩ = some (.int .u64 c0) := (hS2.out.cell 0).trans rfl; have k_1 : w2.cell? ⟨w.heap.size + 1 + 1, 1, none⟩ = some (.int .u32 c1) := (hS2.out.cell 1).trans rfl; clear hb) | ((with_reducible refine gate_callee (f := 47) rfl ?_); (try (refine gate_guard (by rfl) ?_; dsimp only)); refine goesL_ (some 61) rfl rfl Try.func47 (by kernel_rfl) rfl #[.agg #[.int .u64 a0, .int .u32 a1], .agg #[.int .u64 c0, .int .u32 c1]] rfl (by (try simp only [List.map_toArray, List.map_cons, List.map_nil]); first | done | rfl) ?_; refine (hB3.out _).mono ?_; rintro e w3 ⟨rfl, hb⟩; refine ⟨_, rfl, ?_⟩; have hS3 := Aside0.mk (hS2.out.below hb); clear hb))
      go_ret
      exact ⟨rfl, hS2.out.1⟩
    · have hy2 : decide (0 < Y) = false := decide_eq_false hy
      have hz : Z ≤ 0 := hXYZ.out (by decide) (by omega)
      have hz2 : decide (Z ≤ 0) = true := decide_eq_true hz
      go_wp2_with (first | ((with_reducible refine gate_callee (f := 47) rfl ?_); (try (refine gate_guard (by rfl) ?_; dsimp only)); refine goesL_ (some 46) rfl rfl Try.func47 (by kernel_rfl) rfl #[.agg #[.int .u64 a0, .int .u32 a1], .agg #[.int .u64 a0, .int .u32 a1]] rfl (by (try simp only [List.map_toArray, List.map_cons, List.map_nil]); first | done | rfl) ?_; refine (hB4.out _).mono ?_; rintro e w2 ⟨rfl, hb⟩; refine ⟨_, rfl, ?_⟩; have hS2 := Aside0.mk (hS.out.below hb); have f_0 : w2.cell? ⟨w.heap.size, 0, none⟩ = some (.int .u64 a0) := (hS2.out.pick2.cell 0).trans rfl; have f_1 : w2.cell? ⟨w.heap.size, 1, none⟩ = some (.int .u32 a1) := (hS2.out.pick2.cell 1).trans rfl; have g_0 : w2.cell? ⟨w.heap.size + 1, 0, none⟩ = some (.int .u64 a0) := (hS2.out.pick1.cell 0).trans rfl; have g_1 : w2.cell? ⟨w.heap.size + 1, 1, none⟩ = some (.int .u32 a1) := (hS2.out.pick1.cell 1).trans rfl; have k_0 : w2.cell? ⟨w.heap.size + 1 + 1, 0, none⟩ = some (.int .u64 c0) := (hS2.out.cell 0).trans rfl; have k_1 : w2.cell? ⟨w.heap.size + 1 + 1, 1, none⟩ = some (.int .u32 c1) := (hS2.out.cell 1).trans rfl; clear hb) | ((with_reducible refine gate_callee (f := 47) rfl ?_); (try (refine gate_guard (by rfl) ?_; dsimp only)); refine goesL_ (some 61) rfl rfl Try.func47 (by kernel_rfl) rfl #[.agg #[.int .u64 a0, .int .u32 a1], .agg #[.int .u64 c0, .int .u32 c1]] rfl (by (try simp only [List.map_toArray, List.map_cons, List.map_nil]); first | done | rfl) ?_; refine (hB3.out _).mono ?_; rintro e w3 ⟨rfl, hb⟩; refine ⟨_, rfl, ?_⟩; have hS3 := Aside0.mk (hS2.out.below hb); clear hb))
      go_ret
      exact ⟨rfl, hS3.out.1⟩
  · go_wp2_with (fail)
    refine start_ (n := 8) (S := fun w' => w'.cell? ⟨w.heap.size, 0, none⟩ = some (.int .u64 a0) ∧ w'.cell? ⟨w.heap.size, 1, none⟩ = some (.int .u32 a1) ∧ w'.cell? ⟨w.heap.size + 1, 0, none⟩ = some (.int .u64 a0) ∧ w'.cell? ⟨w.heap.size + 1, 1, none⟩ = some (.int .u32 b1) ∧ w'.cell? ⟨w.heap.size + 1 + 1, 0, none⟩ = some (.int .u64 c0) ∧ w'.cell? ⟨w.heap.size + 1 + 1, 1, none⟩ = some (.int .u32 c1)) (ds := []) #[false, false, false, false, false, false, false, false] (by kernel_rfl) rfl rfl ⟨hc_0, hc_1, hd_0, hd_1, he_0, he_1⟩ (fun hHeld => ?_)
    generalize w1.drew = wq at hS hHeld ⊢
    refine take_ (i := 0) (N := some 34) (v := ?_) (a' := ?_) #[true, false, false, false, false, false, false, false] rfl rfl (by kernel_rfl) (fun _ _ _ h => h) (Or.inl ⟨by rfl, ?_⟩) hHeld ?_ ?_
    rotate_left
    · rintro w' ⟨s0, s1, s2, s3, s4, s5⟩
      go_simp
      with_reducible rfl
    rotate_left
    · simp only [Act.put, List.setIfInBounds_toArray, List.set_cons_zero, List.set_cons_succ, i64_w, i32_w]
      rfl
    refine take_ (i := 1) (N := some 35) (v := ?_) (a' := ?_) #[true, true, false, false, false, false, false, false] rfl rfl (by kernel_rfl) (fun _ _ _ h => h) (Or.inl ⟨by rfl, ?_⟩) hHeld ?_ ?_
    rotate_left
    · rintro w' ⟨s0, s1, s2, s3, s4, s5⟩
      go_simp
      with_reducible rfl
    rotate_left
    · simp only [Act.put, List.setIfInBounds_toArray, List.set_cons_zero, List.set_cons_succ, i64_w, i32_w]
      rfl
    refine take_ (i := 3) (N := some 37) (v := ?_) (a' := ?_) #[true, true, false, true, false, false, false, false] rfl rfl (by kernel_rfl) (fun _ _ _ h => h) (Or.inl ⟨by rfl, ?_⟩) hHeld ?_ ?_
    rotate_left
    · rintro w' ⟨s0, s1, s2, s3, s4, s5⟩
      go_simp
      with_reducible rfl
    rotate_left
    · simp only [Act.put, List.setIfInBounds_toArray, List.set_cons_zero, List.set_cons_succ, i64_w, i32_w]
      rfl
    refine take_ (i := 4) (N := some 38) (v := ?_) (a' := ?_) #[true, true, false, true, true, false, false, false] rfl rfl (by kernel_rfl) (fun _ _ _ h => h) (Or.inl ⟨by rfl, ?_⟩) hHeld ?_ ?_
    rotate_left
    · rintro w' ⟨s0, s1, s2, s3, s4, s5⟩
      go_simp
      with_reducible rfl
    rotate_left
    · simp only [Act.put, List.setIfInBounds_toArray, List.set_cons_zero, List.set_cons_succ, i64_w, i32_w]
      rfl
    refine one_ (i := 2) (N := some 36) #[true, true, true, true, true, false, false, false] rfl rfl (by kernel_rfl) (by decide) (fun K hK => ?_)
    refine goes_ Try.func47 (by kernel_rfl) rfl #[.agg #[.int .u64 a0, .int .u32 a1], .agg #[.int .u64 a0, .int .u32 b1]] (by rfl) rfl rfl (by (try simp only [List.map_toArray, List.map_cons, List.map_nil]); first | done | rfl) ?_
    refine (hB1.out _).mono ?_
    rintro e wq ⟨rfl, hb⟩
    refine ⟨_, rfl, ?_⟩
    have hS := Aside0.mk (hS.out.below hb)
    clear hb
    refine hK.out _ _ ⟨(hS.out.pick2.cell 0).trans rfl, (hS.out.pick2.cell 1).trans rfl, (hS.out.pick1.cell 0).trans rfl, (hS.out.pick1.cell 1).trans rfl, (hS.out.cell 0).trans rfl, (hS.out.cell 1).trans rfl⟩ (fun hHeld => ?_)
    clear hK K
    refine norm_ (a' := ?_) ?_ ?_
    rotate_left
    · show Act.put _ (some 36) _ = _
      simp only [Act.put, List.setIfInBounds_toArray, List.set_cons_zero, List.set_cons_succ, i64_w, i32_w]
      rfl
    refine one_ (i := 5) (N := some 39) #[true, true, true, true, true, true, false, false] rfl rfl (by kernel_rfl) (by decide) (fun K hK => ?_)
    refine goes_ Try.func47 (by kernel_rfl) rfl #[.agg #[.int .u64 a0, .int .u32 b1], .agg #[.int .u64 c0, .int .u32 c1]] (by rfl) rfl rfl (by (try simp only [List.map_toArray, List.map_cons, List.map_nil]); first | done | rfl) ?_
    refine (hB2.out _).mono ?_
    rintro e wq ⟨rfl, hb⟩
    refine ⟨_, rfl, ?_⟩
    have hS := Aside0.mk (hS.out.below hb)
    clear hb
    refine hK.out _ _ ⟨(hS.out.pick2.cell 0).trans rfl, (hS.out.pick2.cell 1).trans rfl, (hS.out.pick1.cell 0).trans rfl, (hS.out.pick1.cell 1).trans rfl, (hS.out.cell 0).trans rfl, (hS.out.cell 1).trans rfl⟩ (fun hHeld => ?_)
    clear hK K
    refine norm_ (a' := ?_) ?_ ?_
    rotate_left
    · show Act.put _ (some 39) _ = _
      simp only [Act.put, List.setIfInBounds_toArray, List.set_cons_zero, List.set_cons_succ, i64_w, i32_w]
      rfl
    refine pure_ (i := 6) (N := some 8) (v := ?_) (a' := ?_) #[true, true, true, true, true, true, true, false] rfl rfl (by kernel_rfl) (fun _ _ _ h => h) (Or.inl ⟨by rfl, ?_⟩) ?_ ?_
    rotate_left
    · intro w'
      go_simp
      with_reducible rfl
    rotate_left
    · simp only [Act.put, List.setIfInBounds_toArray, List.set_cons_zero, List.set_cons_succ, i64_w, i32_w]
      rfl
    refine pure_ (i := 7) (N := some 9) (v := ?_) (a' := ?_) #[true, true, true, true, true, true, true, true] rfl rfl (by kernel_rfl) (fun _ _ _ h => h) (Or.inl ⟨by rfl, ?_⟩) ?_ ?_
    rotate_left
    · intro w'
      go_simp
      with_reducible rfl
    rotate_left
    · simp only [Act.put, List.setIfInBounds_toArray, List.set_cons_zero, List.set_cons_succ, i64_w, i32_w]
      rfl
    refine done_ (by kernel_rfl) ?_
    have f_0 : wq.cell? ⟨w.heap.size, 0, none⟩ = some (.int .u64 a0) := (hS.out.pick2.cell 0).trans rfl
    have f_1 : wq.cell? ⟨w.heap.size, 1, none⟩ = some (.int .u32 a1) := (hS.out.pick2.cell 1).trans rfl
    have g_0 : wq.cell? ⟨w.heap.size + 1, 0, none⟩ = some (.int .u64 a0) := (hS.out.pick1.cell 0).trans rfl
    have g_1 : wq.cell? ⟨w.heap.size + 1, 1, none⟩ = some (.int .u32 b1) := (hS.out.pick1.cell 1).trans rfl
    have k_0 : wq.cell? ⟨w.heap.size + 1 + 1, 0, none⟩ = some (.int .u64 c0) := (hS.out.cell 0).trans rfl
    have k_1 : wq.cell? ⟨w.heap.size + 1 + 1, 1, none⟩ = some (.int .u32 c1) := (hS.out.cell 1).trans rfl
    clear hc_0 hc_1 hd_0 hd_1 he_0 he_1
    go_wp2_with (first | ((with_reducible refine gate_callee (f := 47) rfl ?_); (try (refine gate_guard (by rfl) ?_; dsimp only)); refine goesL_ (some 46) rfl rfl Try.func47 (by kernel_rfl) rfl #[.agg #[.int .u64 a0, .int .u32 b1], .agg #[.int .u64 a0, .int .u32 a1]] rfl (by (try simp only [List.map_toArray, List.map_cons, List.map_nil]); first | done | rfl) ?_; refine (hB4.out _).mono ?_; rintro e w2 ⟨rfl, hb⟩; refine ⟨_, rfl, ?_⟩; have hS2 := Aside0.mk (hS.out.below hb); have f_0 : w2.cell? ⟨w.heap.size, 0, none⟩ = some (.int .u64 a0) := (hS2.out.pick2.cell 0).trans rfl; have f_1 : w2.cell? ⟨w.heap.size, 1, none⟩ = some (.int .u32 a1) := (hS2.out.pick2.cell 1).trans rfl; have g_0 : w2.cell? ⟨w.heap.size + 1, 0, none⟩ = some (.int .u64 a0) := (hS2.out.pick1.cell 0).trans rfl; have g_1 : w2.cell? ⟨w.heap.size + 1, 1, none⟩ = some (.int .u32 b1) := (hS2.out.pick1.cell 1).trans rfl; have k_0 : w2.cell? ⟨w.heap.size + 1 + 1, 0, none⟩ = some (.int .u64 c0) := (hS2.out.cell 0).trans rfl; have k_1 : w2.cell? ⟨w.heap.size + 1 + 1, 1, none⟩ = some (.int .u32 c1) := (hS2.out.cell 1).trans rfl; clear hb) | ((with_reducible refine gate_callee (f := 47) rfl ?_); (try (refine gate_guard (by rfl) ?_; dsimp only)); refine goesL_ (some 61) rfl rfl Try.func47 (by kernel_rfl) rfl #[.agg #[.int .u64 a0, .int .u32 a1], .agg #[.int .u64 c0, .int .u32 c1]] rfl (by (try simp only [List.map_toArray, List.map_cons, List.map_nil]); first | done | rfl) ?_; refine (hB3.out _).mono ?_; rintro e w3 ⟨rfl, hb⟩; refine ⟨_, rfl, ?_⟩; have hS3 := Aside0.mk (hS2.out.below hb); clear hb))
    go_ret
    exact ⟨rfl, hS2.out.1⟩
  · go_wp2_with (fail)
    refine start_ (n := 8) (S := fun w' => w'.cell? ⟨w.heap.size, 0, none⟩ = some (.int .u64 a0) ∧ w'.cell? ⟨w.heap.size, 1, none⟩ = some (.int .u32 a1) ∧ w'.cell? ⟨w.heap.size + 1, 0, none⟩ = some (.int .u64 b0) ∧ w'.cell? ⟨w.heap.size + 1, 1, none⟩ = some (.int .u32 b1) ∧ w'.cell? ⟨w.heap.size + 1 + 1, 0, none⟩ = some (.int .u64 c0) ∧ w'.cell? ⟨w.heap.size + 1 + 1, 1, none⟩ = some (.int .u32 c1)) (ds := []) #[false, false, false, false, false, false, false, false] (by kernel_rfl) rfl rfl ⟨hc_0, hc_1, hd_0, hd_1, he_0, he_1⟩ (fun hHeld => ?_)
    generalize w1.drew = wq at hS hHeld ⊢
    refine take_ (i := 0) (N := some 34) (v := ?_) (a' := ?_) #[true, false, false, false, false, false, false, false] rfl rfl (by kernel_rfl) (fun _ _ _ h => h) (Or.inl ⟨by rfl, ?_⟩) hHeld ?_ ?_
    rotate_left
    · rintro w' ⟨s0, s1, s2, s3, s4, s5⟩
      go_simp
      with_reducible rfl
    rotate_left
    · simp only [Act.put, List.setIfInBounds_toArray, List.set_cons_zero, List.set_cons_succ, i64_w, i32_w]
      rfl
    refine take_ (i := 1) (N := some 35) (v := ?_) (a' := ?_) #[true, true, false, false, false, false, false, false] rfl rfl (by kernel_rfl) (fun _ _ _ h => h) (Or.inl ⟨by rfl, ?_⟩) hHeld ?_ ?_
    rotate_left
    · rintro w' ⟨s0, s1, s2, s3, s4, s5⟩
      go_simp
      with_reducible rfl
    rotate_left
    · simp only [Act.put, List.setIfInBounds_toArray, List.set_cons_zero, List.set_cons_succ, i64_w, i32_w]
      rfl
    refine take_ (i := 3) (N := some 37) (v := ?_) (a' := ?_) #[true, true, false, true, false, false, false, false] rfl rfl (by kernel_rfl) (fun _ _ _ h => h) (Or.inl ⟨by rfl, ?_⟩) hHeld ?_ ?_
    rotate_left
    · rintro w' ⟨s0, s1, s2, s3, s4, s5⟩
      go_simp
      with_reducible rfl
    rotate_left
    · simp only [Act.put, List.setIfInBounds_toArray, List.set_cons_zero, List.set_cons_succ, i64_w, i32_w]
      rfl
    refine take_ (i := 4) (N := some 38) (v := ?_) (a' := ?_) #[true, true, false, true, true, false, false, false] rfl rfl (by kernel_rfl) (fun _ _ _ h => h) (Or.inl ⟨by rfl, ?_⟩) hHeld ?_ ?_
    rotate_left
    · rintro w' ⟨s0, s1, s2, s3, s4, s5⟩
      go_simp
      with_reducible rfl
    rotate_left
    · simp only [Act.put, List.setIfInBounds_toArray, List.set_cons_zero, List.set_cons_succ, i64_w, i32_w]
      rfl
    refine one_ (i := 2) (N := some 36) #[true, true, true, true, true, false, false, false] rfl rfl (by kernel_rfl) (by decide) (fun K hK => ?_)
    refine goes_ Try.func47 (by kernel_rfl) rfl #[.agg #[.int .u64 a0, .int .u32 a1], .agg #[.int .u64 b0, .int .u32 b1]] (by rfl) rfl rfl (by (try simp only [List.map_toArray, List.map_cons, List.map_nil]); first | done | rfl) ?_
    refine (hB1.out _).mono ?_
    rintro e wq ⟨rfl, hb⟩
    refine ⟨_, rfl, ?_⟩
    have hS := Aside0.mk (hS.out.below hb)
    clear hb
    refine hK.out _ _ ⟨(hS.out.pick2.cell 0).trans rfl, (hS.out.pick2.cell 1).trans rfl, (hS.out.pick1.cell 0).trans rfl, (hS.out.pick1.cell 1).trans rfl, (hS.out.cell 0).trans rfl, (hS.out.cell 1).trans rfl⟩ (fun hHeld => ?_)
    clear hK K
    refine norm_ (a' := ?_) ?_ ?_
    rotate_left
    · show Act.put _ (some 36) _ = _
      simp only [Act.put, List.setIfInBounds_toArray, List.set_cons_zero, List.set_cons_succ, i64_w, i32_w]
      rfl
    refine one_ (i := 5) (N := some 39) #[true, true, true, true, true, true, false, false] rfl rfl (by kernel_rfl) (by decide) (fun K hK => ?_)
    refine goes_ Try.func47 (by kernel_rfl) rfl #[.agg #[.int .u64 b0, .int .u32 b1], .agg #[.int .u64 c0, .int .u32 c1]] (by rfl) rfl rfl (by (try simp only [List.map_toArray, List.map_cons, List.map_nil]); first | done | rfl) ?_
    refine (hB2.out _).mono ?_
    rintro e wq ⟨rfl, hb⟩
    refine ⟨_, rfl, ?_⟩
    have hS := Aside0.mk (hS.out.below hb)
    clear hb
    refine hK.out _ _ ⟨(hS.out.pick2.cell 0).trans rfl, (hS.out.pick2.cell 1).trans rfl, (hS.out.pick1.cell 0).trans rfl, (hS.out.pick1.cell 1).trans rfl, (hS.out.cell 0).trans rfl, (hS.out.cell 1).trans rfl⟩ (fun hHeld => ?_)
    clear hK K
    refine norm_ (a' := ?_) ?_ ?_
    rotate_left
    · show Act.put _ (some 39) _ = _
      simp only [Act.put, List.setIfInBounds_toArray, List.set_cons_zero, List.set_cons_succ, i64_w, i32_w]
      rfl
    refine pure_ (i := 6) (N := some 8) (v := ?_) (a' := ?_) #[true, true, true, true, true, true, true, false] rfl rfl (by kernel_rfl) (fun _ _ _ h => h) (Or.inl ⟨by rfl, ?_⟩) ?_ ?_
    rotate_left
    · intro w'
      go_simp
      with_reducible rfl
    rotate_left
    · simp only [Act.put, List.setIfInBounds_toArray, List.set_cons_zero, List.set_cons_succ, i64_w, i32_w]
      rfl
    refine pure_ (i := 7) (N := some 9) (v := ?_) (a' := ?_) #[true, true, true, true, true, true, true, true] rfl rfl (by kernel_rfl) (fun _ _ _ h => h) (Or.inl ⟨by rfl, ?_⟩) ?_ ?_
    rotate_left
    · intro w'
      go_simp
      with_reducible rfl
    rotate_left
    · simp only [Act.put, List.setIfInBounds_toArray, List.set_cons_zero, List.set_cons_succ, i64_w, i32_w]
      rfl
    refine done_ (by kernel_rfl) ?_
    have f_0 : wq.cell? ⟨w.heap.size, 0, none⟩ = some (.int .u64 a0) := (hS.out.pick2.cell 0).trans rfl
    have f_1 : wq.cell? ⟨w.heap.size, 1, none⟩ = some (.int .u32 a1) := (hS.out.pick2.cell 1).trans rfl
    have g_0 : wq.cell? ⟨w.heap.size + 1, 0, none⟩ = some (.int .u64 b0) := (hS.out.pick1.cell 0).trans rfl
    have g_1 : wq.cell? ⟨w.heap.size + 1, 1, none⟩ = some (.int .u32 b1) := (hS.out.pick1.cell 1).trans rfl
    have k_0 : wq.cell? ⟨w.heap.size + 1 + 1, 0, none⟩ = some (.int .u64 c0) := (hS.out.cell 0).trans rfl
    have k_1 : wq.cell? ⟨w.heap.size + 1 + 1, 1, none⟩ = some (.int .u32 c1) := (hS.out.cell 1).trans rfl
    clear hc_0 hc_1 hd_0 hd_1 he_0 he_1
    go_wp2_with (first | ((with_reducible refine gate_callee (f := 47) rfl ?_); (try (refine gate_guard (by rfl) ?_; dsimp only)); refine goesL_ (some 46) rfl rfl Try.func47 (by kernel_rfl) rfl #[.agg #[.int .u64 b0, .int .u32 b1], .agg #[.int .u64 a0, .int .u32 a1]] rfl (by (try simp only [List.map_toArray, List.map_cons, List.map_nil]); first | done | rfl) ?_; refine (hB4.out _).mono ?_; rintro e w2 ⟨rfl, hb⟩; refine ⟨_, rfl, ?_⟩; have hS2 := Aside0.mk (hS.out.below hb); have f_0 : w2.cell? ⟨w.heap.size, 0, none⟩ = some (.int .u64 a0) := (hS2.out.pick2.cell 0).trans rfl; have f_1 : w2.cell? ⟨w.heap.size, 1, none⟩ = some (.int .u32 a1) := (hS2.out.pick2.cell 1).trans rfl; have g_0 : w2.cell? ⟨w.heap.size + 1, 0, none⟩ = some (.int .u64 b0) := (hS2.out.pick1.cell 0).trans rfl; have g_1 : w2.cell? ⟨w.heap.size + 1, 1, none⟩ = some (.int .u32 b1) := (hS2.out.pick1.cell 1).trans rfl; have k_0 : w2.cell? ⟨w.heap.size + 1 + 1, 0, none⟩ = some (.int .u64 c0) := (hS2.out.cell 0).trans rfl; have k_1 : w2.cell? ⟨w.heap.size + 1 + 1, 1, none⟩ = some (.int .u32 c1) := (hS2.out.cell 1).trans rfl; clear hb) | ((with_reducible refine gate_callee (f := 47) rfl ?_); (try (refine gate_guard (by rfl) ?_; dsimp only)); refine goesL_ (some 61) rfl rfl Try.func47 (by kernel_rfl) rfl #[.agg #[.int .u64 a0, .int .u32 a1], .agg #[.int .u64 c0, .int .u32 c1]] rfl (by (try simp only [List.map_toArray, List.map_cons, List.map_nil]); first | done | rfl) ?_; refine (hB3.out _).mono ?_; rintro e w3 ⟨rfl, hb⟩; refine ⟨_, rfl, ?_⟩; have hS3 := Aside0.mk (hS2.out.below hb); clear hb))
    go_ret
    exact ⟨rfl, hS2.out.1⟩
end Go.Proofs.Ytnmdckgaljldhaa.Fw
