/- wear: the mean, the skew, the least. -/
import Derived.Test.YtlakjninlpiedaaHWear2
set_option linter.unusedVariables false
set_option linter.unusedSimpArgs false
namespace Go.Proofs.Ytlakjninlpiedaa.Fw
open Go Go.RowKit Go.Proofs.YtlakjninlpiedaaW.PrintWords Go.Proofs.YtlakjninlpiedaaW.PrintLast Go.Proofs.YtlakjninlpiedaaW.PrintMore Go.Proofs.Ytlakjninlpiedaa.Fl Go.Proofs.Ytlakjninlpiedaa.Sep Go.Proofs.Ytlakjninlpiedaa.G
set_option maxHeartbeats 4000000
set_option maxRecDepth 100000
attribute [local go_sem] run_f64bits run_frombits max2_int min2_int

theorem fdiv_low : fdiv (fnat 1) (fnat 65536) = 4535124824762089472 := by
  have h1 : fnat 65536 = 4679240012837945344 := by have := fnat_pow (j := 16) (by decide); rw [show (2 : Nat) ^ 16 = 65536 by decide] at this; rw [this]
  have h2 := div_nonneg (x := 4607182418800017408) (y := 4679240012837945344) (by decide) (by decide) (by decide)
  rw [show Ieee.double.div 4607182418800017408 4679240012837945344 = some 4535124824762089472 by kernel_rfl] at h2
  rw [fnat_one, h1]
  exact (Option.some.inj h2).symm
theorem fdiv_high : fdiv (fnat 9007199254740992) (fnat 1) = 4845873199050653696 := by
  have h1 : fnat 9007199254740992 = 4845873199050653696 := by have := fnat_pow (j := 53) (by decide); rw [show (2 : Nat) ^ 53 = 9007199254740992 by decide] at this; rw [this]
  have h2 := div_nonneg (x := 4845873199050653696) (y := 4607182418800017408) (by decide) (by decide) (by decide)
  rw [show Ieee.double.div 4845873199050653696 4607182418800017408 = some 4845873199050653696 by kernel_rfl] at h2
  rw [fnat_one, h1]
  exact (Option.some.inj h2).symm
theorem mean_bounds {t s : Nat} (h0 : 1 ≤ t) (h1 : t ≤ 9007199254740992) (h2 : 1 ≤ s) (h3 : s ≤ 65536) : 4535124824762089472 ≤ ratiov t s ∧ ratiov t s ≤ 4845873199050653696 := by
  unfold ratiov
  rw [if_neg (by omega), if_neg (by omega)]
  have ps := fnat_pos (n := s) (by omega)
  have p1 := fnat_pos (n := 65536) (by omega)
  have l1 := fdiv_mono (x := fnat 1) (x' := fnat t) (y := fnat 65536) (y' := fnat s) (by omega) (by omega) (fnat_mono h0) (fnat_mono h3)
  have l2 := fdiv_mono (x := fnat t) (x' := fnat 9007199254740992) (y := fnat s) (y' := fnat 1) (by omega) (by rw [fnat_one]; decide) (fnat_mono h1) (fnat_mono h2)
  rw [fdiv_low] at l1
  rw [fdiv_high] at l2
  exact ⟨l1, l2⟩
/-- The skew, where there is one. -/
def skewv (m t s : Nat) : Nat := if t = 0 then 4607182418800017408 else fdiv (fnat m) (ratiov t s)
theorem skew_div {m t s : Nat} (hm : m ≤ 18446744073709551616) (h0 : 1 ≤ t) (h1 : t ≤ 9007199254740992) (h2 : 1 ≤ s) (h3 : s ≤ 65536) : Ieee.double.div (fnat m) (ratiov t s) = some (skewv m t s) := by
  have hb := mean_bounds h0 h1 h2 h3
  have := fnat_fin hm
  unfold skewv
  rw [if_neg (by omega)]
  exact div_nonneg (by omega) (by omega) (by omega)

theorem wear_Mean (w0 w : World) (g : Nat) (e : Int) (s b n t : Nat) (f : Nat → Nat) (ps : List HP) (hs : Sep.Sep w0 w (gg g e s b n t f ++ ps)) (ht : t < 18446744073709551616) (hs32 : s < 4294967296) :
    Calls Try.prog 47 #[.pointer (some ⟨g, 0, none⟩)] w fun r w' => r = .returned (.float .f64 (ratiov t s)) ∧ Below w.heap.size w w' := by
  have hu := Try.underlying107
  have hu2 := Try.underlying24
  have cr := edge_Ratio t s ht (by omega)
  have hw : IntKind.u64.wrap (s : Int) = (s : Int) := by rw [IntKind.wrap_u64]; omega
  have hq := hs.drew
  have hc_0 : w.drew.cell? ⟨g, 0, none⟩ = some (.int .u8 e) := ((hq).cell 0).trans rfl; have hc_1 : w.drew.cell? ⟨g, 1, none⟩ = some (.int .u32 (s : Int)) := ((hq).cell 1).trans rfl; have hc_2 : w.drew.cell? ⟨g, 2, none⟩ = some (.map (some b)) := ((hq).cell 2).trans rfl; have hc_3 : w.drew.cell? ⟨g, 3, none⟩ = some (.int .u64 (t : Int)) := ((hq).cell 3).trans rfl
  have hB := Aside0.mk (below_drew (Below.refl w.heap.size w))
  clear hs hq ht hs32
  go_enter Try.func47, Try.ntmps47
  go_wp2_with (fail)
  refine start_ (n := 12) (S := fun w' => w'.cell? ⟨g, 1, none⟩ = some (.int .u32 (s : Int)) ∧ w'.cell? ⟨g, 3, none⟩ = some (.int .u64 (t : Int))) (ds := []) #[false, false, false, false, false, false, false, false, false, false, false, false] (by kernel_rfl) rfl rfl ⟨hc_1, hc_3⟩ (fun hHeld => ?_)
  refine pure_ (i := 0) (N := some 3) (v := ?_) (a' := ?_) #[true, false, false, false, false, false, false, false, false, false, false, false] rfl rfl (by kernel_rfl) (fun _ _ _ h => h) (Or.inl ⟨by rfl, ?_⟩) ?_ ?_
  rotate_left
  · intro w'
    go_simp
    with_reducible rfl
  rotate_left
  · simp only [Act.put, List.setIfInBounds_toArray, List.set_cons_zero, List.set_cons_succ, i64_w, i32_w]
    rfl
  refine pure_ (i := 1) (N := some 4) (v := ?_) (a' := ?_) #[true, true, false, false, false, false, false, false, false, false, false, false] rfl rfl (by kernel_rfl) (fun _ _ _ h => h) (Or.inl ⟨by rfl, ?_⟩) ?_ ?_
  rotate_left
  · intro w'
    go_simp
    with_reducible rfl
  rotate_left
  · simp only [Act.put, List.setIfInBounds_toArray, List.set_cons_zero, List.set_cons_succ, i64_w, i32_w]
    rfl
  refine pure_ (i := 2) (N := some 5) (v := ?_) (a' := ?_) #[true, true, true, false, false, false, false, false, false, false, false, false] rfl rfl (by kernel_rfl) (fun _ _ _ h => h) (Or.inl ⟨by rfl, ?_⟩) ?_ ?_
  rotate_left
  · intro w'
    go_simp
    with_reducible rfl
  rotate_left
  · simp only [Act.put, List.setIfInBounds_toArray, List.set_cons_zero, List.set_cons_succ, i64_w, i32_w]
    rfl
  refine pure_ (i := 4) (N := some 7) (v := ?_) (a' := ?_) #[true, true, true, false, true, false, false, false, false, false, false, false] rfl rfl (by kernel_rfl) (fun _ _ _ h => h) (Or.inl ⟨by rfl, ?_⟩) ?_ ?_
  rotate_left
  · intro w'
    go_simp
    with_reducible rfl
  rotate_left
  · simp only [Act.put, List.setIfInBounds_toArray, List.set_cons_zero, List.set_cons_succ, i64_w, i32_w]
    rfl
  refine pure_ (i := 5) (N := some 8) (v := ?_) (a' := ?_) #[true, true, true, false, true, true, false, false, false, false, false, false] rfl rfl (by kernel_rfl) (fun _ _ _ h => h) (Or.inl ⟨by rfl, ?_⟩) ?_ ?_
  rotate_left
  · intro w'
    go_simp
    with_reducible rfl
  rotate_left
  · simp only [Act.put, List.setIfInBounds_toArray, List.set_cons_zero, List.set_cons_succ, i64_w, i32_w]
    rfl
  refine pure_ (i := 6) (N := some 9) (v := ?_) (a' := ?_) #[true, true, true, false, true, true, true, false, false, false, false, false] rfl rfl (by kernel_rfl) (fun _ _ _ h => h) (Or.inl ⟨by rfl, ?_⟩) ?_ ?_
  rotate_left
  · intro w'
    go_simp
    with_reducible rfl
  rotate_left
  · simp only [Act.put, List.setIfInBounds_toArray, List.set_cons_zero, List.set_cons_succ, i64_w, i32_w]
    rfl
  refine pure_ (i := 7) (N := some 10) (v := ?_) (a' := ?_) #[true, true, true, false, true, true, true, true, false, false, false, false] rfl rfl (by kernel_rfl) (fun _ _ _ h => h) (Or.inl ⟨by rfl, ?_⟩) ?_ ?_
  rotate_left
  · intro w'
    go_simp
    with_reducible rfl
  rotate_left
  · simp only [Act.put, List.setIfInBounds_toArray, List.set_cons_zero, List.set_cons_succ, i64_w, i32_w]
    rfl
  refine take_ (i := 3) (N := some 6) (v := ?_) (a' := ?_) #[true, true, true, true, true, true, true, true, false, false, false, false] rfl rfl (by kernel_rfl) (fun _ _ _ h => h) (Or.inl ⟨by rfl, ?_⟩) hHeld ?_ ?_
  rotate_left
  · rintro w' ⟨s0, s1⟩
    go_simp
    with_reducible rfl
  rotate_left
  · simp only [Act.put, List.setIfInBounds_toArray, List.set_cons_zero, List.set_cons_succ, i64_w, i32_w]
    rfl
  refine take_ (i := 8) (N := some 11) (v := ?_) (a' := ?_) #[true, true, true, true, true, true, true, true, true, false, false, false] rfl rfl (by kernel_rfl) (fun _ _ _ h => h) (Or.inl ⟨by rfl, ?_⟩) hHeld ?_ ?_
  rotate_left
  · rintro w' ⟨s0, s1⟩
    go_simp
    with_reducible rfl
  rotate_left
  · simp only [Act.put, List.setIfInBounds_toArray, List.set_cons_zero, List.set_cons_succ, i64_w, i32_w]
    rfl
  refine pure_ (i := 9) (N := some 12) (v := ?_) (a' := ?_) #[true, true, true, true, true, true, true, true, true, true, false, false] rfl rfl (by kernel_rfl) (fun _ _ _ h => h) (Or.inl ⟨by rfl, ?_⟩) ?_ ?_
  rotate_left
  · intro w'
    go_simp
    with_reducible rfl
  rotate_left
  · simp only [Act.put, List.setIfInBounds_toArray, List.set_cons_zero, List.set_cons_succ, i64_w, i32_w]
    rfl
  refine one_ (i := 10) (N := some 13) #[true, true, true, true, true, true, true, true, true, true, true, false] rfl rfl (by kernel_rfl) (by decide) (fun K hK => ?_)
  refine goes_ Try.func31 (by kernel_rfl) rfl #[.int .u64 (t : Int), .int .u64 (s : Int)] (by rfl) rfl rfl (by (try simp only [List.map_toArray, List.map_cons, List.map_nil]); first | done | rfl) ?_
  refine (cr _).mono ?_
  rintro r w3 ⟨rfl, rfl⟩
  refine ⟨_, rfl, ?_⟩
  refine hK.out _ _ ⟨hc_1, hc_3⟩ (fun hHeld => ?_)
  clear hK K
  refine norm_ (a' := ?_) ?_ ?_
  rotate_left
  · show Act.put _ (some 13) _ = _
    simp only [Act.put, List.setIfInBounds_toArray, List.set_cons_zero, List.set_cons_succ, i64_w, i32_w]
    rfl
  refine pure_ (i := 11) (N := some 2) (v := ?_) (a' := ?_) #[true, true, true, true, true, true, true, true, true, true, true, true] rfl rfl (by kernel_rfl) (fun _ _ _ h => h) (Or.inl ⟨by rfl, ?_⟩) ?_ ?_
  rotate_left
  · intro w'
    go_simp
    with_reducible rfl
  rotate_left
  · simp only [Act.put, List.setIfInBounds_toArray, List.set_cons_zero, List.set_cons_succ, i64_w, i32_w]
    rfl
  refine done_ (by kernel_rfl) ?_
  go_wp2_with (fail)
  go_ret
  exact ⟨rfl, hB.out⟩

theorem wear_Skew (w0 w : World) (g : Nat) (e : Int) (s b n t : Nat) (f : Nat → Nat) (ps : List HP) (hs : Sep.Sep w0 w (gg g e s b n t f ++ ps)) (hf : ∀ k, k < 4294967296 → f k < 18446744073709551616) (ht : t ≤ 9007199254740992) (hs0 : 1 ≤ s) (hs1 : s ≤ 65536) :
    Calls Try.prog 46 #[.pointer (some ⟨g, 0, none⟩)] w fun r w' => (∃ m, r = .returned (.float .f64 (skewv m t s)) ∧ Mx f m) ∧ Below w.heap.size w w' := by
  have hu := Try.underlying107
  have hc_0 : w.cell? ⟨g, 0, none⟩ = some (.int .u8 e) := ((hs).cell 0).trans rfl; have hc_1 : w.cell? ⟨g, 1, none⟩ = some (.int .u32 (s : Int)) := ((hs).cell 1).trans rfl; have hc_2 : w.cell? ⟨g, 2, none⟩ = some (.map (some b)) := ((hs).cell 2).trans rfl; have hc_3 : w.cell? ⟨g, 3, none⟩ = some (.int .u64 (t : Int)) := ((hs).cell 3).trans rfl
  have hS := Aside0.mk hs
  by_cases h0 : t = 0
  · have hb : ((t : Int) == 0) = true := by rw [h0]; rfl
    have hsk : ∀ m, skewv m t s = 4607182418800017408 := fun m => if_pos h0
    have hM := Aside0.mk (fun W hW => wear_most w0 W g e s b n t f ps hW hf)
    have hex : ∃ m, Mx f m := by
      classical
      by_cases hz : ∀ k, k < 4294967296 → f k = 0
      · exact ⟨0, fun k hk => by rw [hz k hk]; exact Nat.le_refl _, .inl rfl⟩
      · have key : ∀ N : Nat, N ≤ 4294967296 → ∃ m, (∀ k, k < N → f k ≤ m) ∧ (m = 0 ∨ ∃ k, k < 4294967296 ∧ f k = m) := by
          intro N
          induction N with
          | zero => intro _; exact ⟨0, fun k hk => by omega, .inl rfl⟩
          | succ N ih =>
            intro hN
            obtain ⟨m, h1, h2⟩ := ih (by omega)
            by_cases hm : f N ≤ m
            · exact ⟨m, fun k hk => by
                by_cases hkN : k = N
                · rw [hkN]; exact hm
                · exact h1 k (by omega), h2⟩
            · exact ⟨f N, fun k hk => by
                by_cases hkN : k = N
                · rw [hkN]; exact Nat.le_refl _
                · have := h1 k (by omega); omega, .inr ⟨N, by omega, rfl⟩⟩
        exact key _ (Nat.le_refl _)
    have hexA := Aside0.mk hex
    clear hs hf ht hs0 hs1 h0 hex
    go_enter Try.func46, Try.ntmps46
    go_wp2_with (fail)
    go_ret
    obtain ⟨m, hm⟩ := hexA.out
    exact ⟨⟨m, by rw [hsk m]; rfl, hm⟩, Below.refl _ _⟩
  · have hb : ((t : Int) == 0) = false := beq_false_of_ne (by omega)
    have hM := Aside0.mk (fun W hW => wear_most w0 W g e s b n t f ps hW hf)
    have hMe := Aside0.mk (fun W hW => wear_Mean w0 W g e s b n t f ps hW (by omega) (by omega))
    have hdv := Aside0.mk (fun m (hm : m ≤ 18446744073709551616) => skew_div hm (show 1 ≤ t by omega) ht hs0 hs1)
    have hfA := Aside0.mk hf
    clear hs hf ht hs0 hs1 h0
    go_enter Try.func46, Try.ntmps46
    go_wp2_with (fail)
    refine (hM.out _ hS.out).mono ?_
    rintro r w1 ⟨⟨m, rfl, hMx⟩, hb1⟩
    have hS1 := Aside0.mk (hS.out.below hb1)
    have hB1 := Aside0.mk hb1
    have hmle : m ≤ 18446744073709551616 := by
      rcases hMx.2 with h | ⟨k, hk, h⟩
      · omega
      · have := hfA.out k hk; omega
    have hq : ∀ W : World, (binOp .quo 38 (.float .f64 (fnat m)) (.float .f64 (ratiov t s))).run Try.prog W = .ok (.float .f64 (skewv m t s)) W := fun W => run_float_arith W .quo _ .f64 _ _ _ (hdv.out m hmle)
    have hfl := floatOf m
    have hMxA := Aside0.mk hMx
    clear hb1 hMx hmle
    go_wp2_with (fail)
    refine (hMe.out _ hS1.out).mono ?_
    rintro r w2 ⟨rfl, hb2⟩
    have hB2 := Aside0.mk (hB1.out.trans (hb2.mono hB1.out.size))
    clear hb2
    go_wp2_with (fail)
    go_ret
    exact ⟨⟨m, rfl, hMxA.out⟩, hB2.out⟩

/-- The first of the least ones. -/
def Ls (f : Nat → Nat) (s k : Nat) : Prop := k < s ∧ (∀ j, j < s → f k ≤ f j) ∧ ∀ j, j < k → f k < f j
theorem wear_Least (w0 w : World) (g : Nat) (e : Int) (s b n t : Nat) (f : Nat → Nat) (ps : List HP) (hs : Sep.Sep w0 w (gg g e s b n t f ++ ps)) (hs0 : 1 ≤ s) (hs1 : s ≤ 65536) :
    Calls Try.prog 20 #[.pointer (some ⟨g, 0, none⟩)] w fun r w' => (∃ k : Nat, r = .returned (.int .u32 (k : Int)) ∧ Ls f s k) ∧ Below w.heap.size w w' := by
  have hu := Try.underlying107
  have hu2 := Try.underlying24
  have hc_0 : w.cell? ⟨g, 0, none⟩ = some (.int .u8 e) := ((hs).cell 0).trans rfl; have hc_1 : w.cell? ⟨g, 1, none⟩ = some (.int .u32 (s : Int)) := ((hs).cell 1).trans rfl; have hc_2 : w.cell? ⟨g, 2, none⟩ = some (.map (some b)) := ((hs).cell 2).trans rfl; have hc_3 : w.cell? ⟨g, 3, none⟩ = some (.int .u64 (t : Int)) := ((hs).cell 3).trans rfl
  have hS := Aside0.mk hs
  have hsA := Aside0.mk (And.intro hs0 hs1)
  have hB := Aside0.mk (Below.refl w.heap.size w)
  clear hs hs0 hs1
  go_enter Try.func20, Try.ntmps20
  go_wp2_with (fail)
  go_loopg [3, 10] s (fun kq v3 v10 w' => ∃ (i k : Nat), v3 = .int .u32 (k : Int) ∧ v10 = .int .u32 (i : Int) ∧ Aside0 (i + kq = s) ∧ Aside0 ((i = 0 ∧ k = 0) ∨ Ls f i k) ∧ Aside0 (∀ j, j < i → f j ≠ 0) ∧ Aside0 (Below w.heap.size w w'))
  case atStart => exact ⟨0, 0, rfl, rfl, ⟨by omega⟩, ⟨.inl ⟨rfl, rfl⟩⟩, ⟨fun j h => by omega⟩, hB⟩
  case round =>
    obtain ⟨i, k, rfl, rfl, hA, hL, hZ, hB⟩ := hrel
    by_cases his : i < s
    · obtain ⟨k1, rfl⟩ : ∃ k1, gk = k1 + 1 := ⟨gk - 1, by have := hA.out; omega⟩
      have hd : decide ((i : Int) < (s : Int)) = true := decide_eq_true (by omega)
      have hd2 : decide (i < s) = true := decide_eq_true his
      have hks : k < s := by rcases hL.out with ⟨_, h⟩ | h; · omega
                             · have := h.1; omega
      have h1 := hS.out.below hB.out
      have hd_0 : wr.cell? ⟨g, 0, none⟩ = some (.int .u8 e) := ((h1).cell 0).trans rfl; have hd_1 : wr.cell? ⟨g, 1, none⟩ = some (.int .u32 (s : Int)) := ((h1).cell 1).trans rfl; have hd_2 : wr.cell? ⟨g, 2, none⟩ = some (.map (some b)) := ((h1).cell 2).trans rfl; have hd_3 : wr.cell? ⟨g, 3, none⟩ = some (.int .u64 (t : Int)) := ((h1).cell 3).trans rfl
      have hl1 := (h1.pick1).mp_look (k := i) (by have := hsA.out; omega)
      have hw1 : IntKind.u32.wrap ((i : Int) + 1) = ((i + 1 : Nat) : Int) := by rw [IntKind.wrap_u32]; have := hsA.out; omega
      have hA' : Aside0 (i + 1 + k1 = s) := ⟨by have := hA.out; omega⟩
      by_cases h0 : f i = 0
      · have hfin := Aside0.mk (show Ls f s i from ⟨his, fun j _ => by omega, fun j hj => by have := hZ.out j hj; omega⟩)
        have hb0 : ((f i : Int) == 0) = true := by rw [h0]; rfl
        generalize f i = fi at *
        clear h1 his hks h0
        go_wp2_with (fail)
        go_ret
        exact ⟨⟨i, rfl, hfin.out⟩, hB.out⟩
      · have hb0 : ((f i : Int) == 0) = false := beq_false_of_ne (by omega)
        have hZ' : Aside0 (∀ j, j < i + 1 → f j ≠ 0) := ⟨fun j hj => by
          by_cases hji : j = i
          · rw [hji]; exact h0
          · exact hZ.out j (by omega)⟩
        have h2 := h1.drew
        have he_0 : wr.drew.cell? ⟨g, 0, none⟩ = some (.int .u8 e) := ((h2).cell 0).trans rfl; have he_1 : wr.drew.cell? ⟨g, 1, none⟩ = some (.int .u32 (s : Int)) := ((h2).cell 1).trans rfl; have he_2 : wr.drew.cell? ⟨g, 2, none⟩ = some (.map (some b)) := ((h2).cell 2).trans rfl; have he_3 : wr.drew.cell? ⟨g, 3, none⟩ = some (.int .u64 (t : Int)) := ((h2).cell 3).trans rfl
        have hl3 := (h2.pick1).mp_look (k := i) (by have := hsA.out; omega)
        have hl4 := (h2.pick1).mp_look (k := k) (by have := hsA.out; omega)
        have hB2 := Aside0.mk (hB.out.trans ((below_drew (Below.refl wr.heap.size wr)).mono hB.out.size))
        have hor : Aside0 ((f i < f k → Ls f (i + 1) i) ∧ (¬ f i < f k → Ls f (i + 1) k)) := ⟨fun h => ⟨by omega, fun j hj => by
            by_cases hji : j = i
            · rw [hji]; exact Nat.le_refl _
            · rcases hL.out with ⟨h5, h6⟩ | h5
              · omega
              · have := h5.2.1 j (by omega); omega, fun j hj => by
            rcases hL.out with ⟨h5, h6⟩ | h5
            · omega
            · have := h5.2.1 j (by omega); omega⟩, fun h => by
            rcases hL.out with ⟨rfl, rfl⟩ | h5
            · exact ⟨by omega, fun j hj => by rw [show j = 0 by omega]; exact Nat.le_refl _, fun j hj => by omega⟩
            · exact ⟨by have := h5.1; omega, fun j hj => by
                by_cases hji : j = i
                · rw [hji]; omega
                · exact h5.2.1 j (by omega), h5.2.2⟩⟩
        by_cases hlt : f i < f k
        · have hq : decide ((f i : Int) < (f k : Int)) = true := decide_eq_true (by omega)
          have hLn := Aside0.mk (Or.inr (a := (i + 1 = 0 ∧ i = 0)) (hor.out.1 hlt))
          have hq2 : decide (f i < f k) = true := decide_eq_true hlt
          generalize f i = fi at *
          generalize f k = fk at *
          clear h1 h2 his hks h0 hlt
          go_wp2_with (fail)
          refine start_ (n := 13) (S := fun w' => w'.cell? ⟨g, 2, none⟩ = some (.map (some b)) ∧ (Instr.lookup 105 (.map (some b)) (.int .u32 (i : Int)) false).run Try.prog w' = .ok (.int .u64 (fi : Int)) w' ∧ (Instr.lookup 105 (.map (some b)) (.int .u32 (k : Int)) false).run Try.prog w' = .ok (.int .u64 (fk : Int)) w') (ds := []) #[false, false, false, false, false, false, false, false, false, false, false, false, false] (by kernel_rfl) rfl rfl ⟨he_2, hl3, hl4⟩ (fun hHeld => ?_)
          refine pure_ (i := 0) (N := some 21) (v := ?_) (a' := ?_) #[true, false, false, false, false, false, false, false, false, false, false, false, false] rfl rfl (by kernel_rfl) (fun _ _ _ h => h) (Or.inl ⟨by rfl, ?_⟩) ?_ ?_
          rotate_left
          · intro w'
            go_simp
            with_reducible rfl
          rotate_left
          · simp only [Act.put, List.setIfInBounds_toArray, List.set_cons_zero, List.set_cons_succ, i64_w, i32_w]
            rfl
          refine pure_ (i := 1) (N := some 22) (v := ?_) (a' := ?_) #[true, true, false, false, false, false, false, false, false, false, false, false, false] rfl rfl (by kernel_rfl) (fun _ _ _ h => h) (Or.inl ⟨by rfl, ?_⟩) ?_ ?_
          rotate_left
          · intro w'
            go_simp
            with_reducible rfl
          rotate_left
          · simp only [Act.put, List.setIfInBounds_toArray, List.set_cons_zero, List.set_cons_succ, i64_w, i32_w]
            rfl
          refine pure_ (i := 2) (N := some 23) (v := ?_) (a' := ?_) #[true, true, true, false, false, false, false, false, false, false, false, false, false] rfl rfl (by kernel_rfl) (fun _ _ _ h => h) (Or.inl ⟨by rfl, ?_⟩) ?_ ?_
          rotate_left
          · intro w'
            go_simp
            with_reducible rfl
          rotate_left
          · simp only [Act.put, List.setIfInBounds_toArray, List.set_cons_zero, List.set_cons_succ, i64_w, i32_w]
            rfl
          refine pure_ (i := 4) (N := some 25) (v := ?_) (a' := ?_) #[true, true, true, false, true, false, false, false, false, false, false, false, false] rfl rfl (by kernel_rfl) (fun _ _ _ h => h) (Or.inl ⟨by rfl, ?_⟩) ?_ ?_
          rotate_left
          · intro w'
            go_simp
            with_reducible rfl
          rotate_left
          · simp only [Act.put, List.setIfInBounds_toArray, List.set_cons_zero, List.set_cons_succ, i64_w, i32_w]
            rfl
          refine pure_ (i := 6) (N := some 27) (v := ?_) (a' := ?_) #[true, true, true, false, true, false, true, false, false, false, false, false, false] rfl rfl (by kernel_rfl) (fun _ _ _ h => h) (Or.inl ⟨by rfl, ?_⟩) ?_ ?_
          rotate_left
          · intro w'
            go_simp
            with_reducible rfl
          rotate_left
          · simp only [Act.put, List.setIfInBounds_toArray, List.set_cons_zero, List.set_cons_succ, i64_w, i32_w]
            rfl
          refine pure_ (i := 7) (N := some 28) (v := ?_) (a' := ?_) #[true, true, true, false, true, false, true, true, false, false, false, false, false] rfl rfl (by kernel_rfl) (fun _ _ _ h => h) (Or.inl ⟨by rfl, ?_⟩) ?_ ?_
          rotate_left
          · intro w'
            go_simp
            with_reducible rfl
          rotate_left
          · simp only [Act.put, List.setIfInBounds_toArray, List.set_cons_zero, List.set_cons_succ, i64_w, i32_w]
            rfl
          refine pure_ (i := 8) (N := some 29) (v := ?_) (a' := ?_) #[true, true, true, false, true, false, true, true, true, false, false, false, false] rfl rfl (by kernel_rfl) (fun _ _ _ h => h) (Or.inl ⟨by rfl, ?_⟩) ?_ ?_
          rotate_left
          · intro w'
            go_simp
            with_reducible rfl
          rotate_left
          · simp only [Act.put, List.setIfInBounds_toArray, List.set_cons_zero, List.set_cons_succ, i64_w, i32_w]
            rfl
          refine pure_ (i := 10) (N := some 31) (v := ?_) (a' := ?_) #[true, true, true, false, true, false, true, true, true, false, true, false, false] rfl rfl (by kernel_rfl) (fun _ _ _ h => h) (Or.inl ⟨by rfl, ?_⟩) ?_ ?_
          rotate_left
          · intro w'
            go_simp
            with_reducible rfl
          rotate_left
          · simp only [Act.put, List.setIfInBounds_toArray, List.set_cons_zero, List.set_cons_succ, i64_w, i32_w]
            rfl
          refine take_ (i := 3) (N := some 24) (v := ?_) (a' := ?_) #[true, true, true, true, true, false, true, true, true, false, true, false, false] rfl rfl (by kernel_rfl) (fun _ _ _ h => h) (Or.inl ⟨by rfl, ?_⟩) hHeld ?_ ?_
          rotate_left
          · rintro w' ⟨s0, s1, s2⟩
            go_simp
            with_reducible rfl
          rotate_left
          · simp only [Act.put, List.setIfInBounds_toArray, List.set_cons_zero, List.set_cons_succ, i64_w, i32_w]
            rfl
          refine take_ (i := 5) (N := some 26) (v := ?_) (a' := ?_) #[true, true, true, true, true, true, true, true, true, false, true, false, false] rfl rfl (by kernel_rfl) (fun _ _ _ h => h) (Or.inl ⟨by rfl, ?_⟩) hHeld ?_ ?_
          rotate_left
          · rintro w' ⟨s0, s1, s2⟩
            go_simp
            with_reducible rfl
          rotate_left
          · simp only [Act.put, List.setIfInBounds_toArray, List.set_cons_zero, List.set_cons_succ, i64_w, i32_w]
            rfl
          refine take_ (i := 9) (N := some 30) (v := ?_) (a' := ?_) #[true, true, true, true, true, true, true, true, true, true, true, false, false] rfl rfl (by kernel_rfl) (fun _ _ _ h => h) (Or.inl ⟨by rfl, ?_⟩) hHeld ?_ ?_
          rotate_left
          · rintro w' ⟨s0, s1, s2⟩
            go_simp
            with_reducible rfl
          rotate_left
          · simp only [Act.put, List.setIfInBounds_toArray, List.set_cons_zero, List.set_cons_succ, i64_w, i32_w]
            rfl
          refine take_ (i := 11) (N := some 32) (v := ?_) (a' := ?_) #[true, true, true, true, true, true, true, true, true, true, true, true, false] rfl rfl (by kernel_rfl) (fun _ _ _ h => h) (Or.inl ⟨by rfl, ?_⟩) hHeld ?_ ?_
          rotate_left
          · rintro w' ⟨s0, s1, s2⟩
            go_simp
            with_reducible rfl
          rotate_left
          · simp only [Act.put, List.setIfInBounds_toArray, List.set_cons_zero, List.set_cons_succ, i64_w, i32_w]
            rfl
          refine pure_ (i := 12) (N := some 33) (v := ?_) (a' := ?_) #[true, true, true, true, true, true, true, true, true, true, true, true, true] rfl rfl (by kernel_rfl) (fun _ _ _ h => h) (Or.inl ⟨by rfl, ?_⟩) ?_ ?_
          rotate_left
          · intro w'
            go_simp
            with_reducible rfl
          rotate_left
          · simp only [Act.put, List.setIfInBounds_toArray, List.set_cons_zero, List.set_cons_succ, i64_w, i32_w]
            rfl
          refine done_ (by kernel_rfl) ?_
          go_wp2_with (fail)
          go_roundg k1
          case measure => omega
          case rel => exact ⟨i + 1, i, rfl, by first | rfl | simp | rw [hw1], hA', hLn, hZ', hB2⟩
        · have hq : decide ((f i : Int) < (f k : Int)) = false := decide_eq_false (by omega)
          have hLn := Aside0.mk (Or.inr (a := (i + 1 = 0 ∧ k = 0)) (hor.out.2 hlt))
          have hq2 : decide (f i < f k) = false := decide_eq_false hlt
          generalize f i = fi at *
          generalize f k = fk at *
          clear h1 h2 his hks h0 hlt
          go_wp2_with (fail)
          refine start_ (n := 13) (S := fun w' => w'.cell? ⟨g, 2, none⟩ = some (.map (some b)) ∧ (Instr.lookup 105 (.map (some b)) (.int .u32 (i : Int)) false).run Try.prog w' = .ok (.int .u64 (fi : Int)) w' ∧ (Instr.lookup 105 (.map (some b)) (.int .u32 (k : Int)) false).run Try.prog w' = .ok (.int .u64 (fk : Int)) w') (ds := []) #[false, false, false, false, false, false, false, false, false, false, false, false, false] (by kernel_rfl) rfl rfl ⟨he_2, hl3, hl4⟩ (fun hHeld => ?_)
          refine pure_ (i := 0) (N := some 21) (v := ?_) (a' := ?_) #[true, false, false, false, false, false, false, false, false, false, false, false, false] rfl rfl (by kernel_rfl) (fun _ _ _ h => h) (Or.inl ⟨by rfl, ?_⟩) ?_ ?_
          rotate_left
          · intro w'
            go_simp
            with_reducible rfl
          rotate_left
          · simp only [Act.put, List.setIfInBounds_toArray, List.set_cons_zero, List.set_cons_succ, i64_w, i32_w]
            rfl
          refine pure_ (i := 1) (N := some 22) (v := ?_) (a' := ?_) #[true, true, false, false, false, false, false, false, false, false, false, false, false] rfl rfl (by kernel_rfl) (fun _ _ _ h => h) (Or.inl ⟨by rfl, ?_⟩) ?_ ?_
          rotate_left
          · intro w'
            go_simp
            with_reducible rfl
          rotate_left
          · simp only [Act.put, List.setIfInBounds_toArray, List.set_cons_zero, List.set_cons_succ, i64_w, i32_w]
            rfl
          refine pure_ (i := 2) (N := some 23) (v := ?_) (a' := ?_) #[true, true, true, false, false, false, false, false, false, false, false, false, false] rfl rfl (by kernel_rfl) (fun _ _ _ h => h) (Or.inl ⟨by rfl, ?_⟩) ?_ ?_
          rotate_left
          · intro w'
            go_simp
            with_reducible rfl
          rotate_left
          · simp only [Act.put, List.setIfInBounds_toArray, List.set_cons_zero, List.set_cons_succ, i64_w, i32_w]
            rfl
          refine pure_ (i := 4) (N := some 25) (v := ?_) (a' := ?_) #[true, true, true, false, true, false, false, false, false, false, false, false, false] rfl rfl (by kernel_rfl) (fun _ _ _ h => h) (Or.inl ⟨by rfl, ?_⟩) ?_ ?_
          rotate_left
          · intro w'
            go_simp
            with_reducible rfl
          rotate_left
          · simp only [Act.put, List.setIfInBounds_toArray, List.set_cons_zero, List.set_cons_succ, i64_w, i32_w]
            rfl
          refine pure_ (i := 6) (N := some 27) (v := ?_) (a' := ?_) #[true, true, true, false, true, false, true, false, false, false, false, false, false] rfl rfl (by kernel_rfl) (fun _ _ _ h => h) (Or.inl ⟨by rfl, ?_⟩) ?_ ?_
          rotate_left
          · intro w'
            go_simp
            with_reducible rfl
          rotate_left
          · simp only [Act.put, List.setIfInBounds_toArray, List.set_cons_zero, List.set_cons_succ, i64_w, i32_w]
            rfl
          refine pure_ (i := 7) (N := some 28) (v := ?_) (a' := ?_) #[true, true, true, false, true, false, true, true, false, false, false, false, false] rfl rfl (by kernel_rfl) (fun _ _ _ h => h) (Or.inl ⟨by rfl, ?_⟩) ?_ ?_
          rotate_left
          · intro w'
            go_simp
            with_reducible rfl
          rotate_left
          · simp only [Act.put, List.setIfInBounds_toArray, List.set_cons_zero, List.set_cons_succ, i64_w, i32_w]
            rfl
          refine pure_ (i := 8) (N := some 29) (v := ?_) (a' := ?_) #[true, true, true, false, true, false, true, true, true, false, false, false, false] rfl rfl (by kernel_rfl) (fun _ _ _ h => h) (Or.inl ⟨by rfl, ?_⟩) ?_ ?_
          rotate_left
          · intro w'
            go_simp
            with_reducible rfl
          rotate_left
          · simp only [Act.put, List.setIfInBounds_toArray, List.set_cons_zero, List.set_cons_succ, i64_w, i32_w]
            rfl
          refine pure_ (i := 10) (N := some 31) (v := ?_) (a' := ?_) #[true, true, true, false, true, false, true, true, true, false, true, false, false] rfl rfl (by kernel_rfl) (fun _ _ _ h => h) (Or.inl ⟨by rfl, ?_⟩) ?_ ?_
          rotate_left
          · intro w'
            go_simp
            with_reducible rfl
          rotate_left
          · simp only [Act.put, List.setIfInBounds_toArray, List.set_cons_zero, List.set_cons_succ, i64_w, i32_w]
            rfl
          refine take_ (i := 3) (N := some 24) (v := ?_) (a' := ?_) #[true, true, true, true, true, false, true, true, true, false, true, false, false] rfl rfl (by kernel_rfl) (fun _ _ _ h => h) (Or.inl ⟨by rfl, ?_⟩) hHeld ?_ ?_
          rotate_left
          · rintro w' ⟨s0, s1, s2⟩
            go_simp
            with_reducible rfl
          rotate_left
          · simp only [Act.put, List.setIfInBounds_toArray, List.set_cons_zero, List.set_cons_succ, i64_w, i32_w]
            rfl
          refine take_ (i := 5) (N := some 26) (v := ?_) (a' := ?_) #[true, true, true, true, true, true, true, true, true, false, true, false, false] rfl rfl (by kernel_rfl) (fun _ _ _ h => h) (Or.inl ⟨by rfl, ?_⟩) hHeld ?_ ?_
          rotate_left
          · rintro w' ⟨s0, s1, s2⟩
            go_simp
            with_reducible rfl
          rotate_left
          · simp only [Act.put, List.setIfInBounds_toArray, List.set_cons_zero, List.set_cons_succ, i64_w, i32_w]
            rfl
          refine take_ (i := 9) (N := some 30) (v := ?_) (a' := ?_) #[true, true, true, true, true, true, true, true, true, true, true, false, false] rfl rfl (by kernel_rfl) (fun _ _ _ h => h) (Or.inl ⟨by rfl, ?_⟩) hHeld ?_ ?_
          rotate_left
          · rintro w' ⟨s0, s1, s2⟩
            go_simp
            with_reducible rfl
          rotate_left
          · simp only [Act.put, List.setIfInBounds_toArray, List.set_cons_zero, List.set_cons_succ, i64_w, i32_w]
            rfl
          refine take_ (i := 11) (N := some 32) (v := ?_) (a' := ?_) #[true, true, true, true, true, true, true, true, true, true, true, true, false] rfl rfl (by kernel_rfl) (fun _ _ _ h => h) (Or.inl ⟨by rfl, ?_⟩) hHeld ?_ ?_
          rotate_left
          · rintro w' ⟨s0, s1, s2⟩
            go_simp
            with_reducible rfl
          rotate_left
          · simp only [Act.put, List.setIfInBounds_toArray, List.set_cons_zero, List.set_cons_succ, i64_w, i32_w]
            rfl
          refine pure_ (i := 12) (N := some 33) (v := ?_) (a' := ?_) #[true, true, true, true, true, true, true, true, true, true, true, true, true] rfl rfl (by kernel_rfl) (fun _ _ _ h => h) (Or.inl ⟨by rfl, ?_⟩) ?_ ?_
          rotate_left
          · intro w'
            go_simp
            with_reducible rfl
          rotate_left
          · simp only [Act.put, List.setIfInBounds_toArray, List.set_cons_zero, List.set_cons_succ, i64_w, i32_w]
            rfl
          refine done_ (by kernel_rfl) ?_
          go_wp2_with (fail)
          go_roundg k1
          case measure => omega
          case rel => exact ⟨i + 1, k, rfl, by first | rfl | simp | rw [hw1], hA', hLn, hZ', hB2⟩
    · have hd : decide ((i : Int) < (s : Int)) = false := decide_eq_false (by omega)
      have hd2 : decide (i < s) = false := decide_eq_false his
      have hi : i = s := by have := hA.out; omega
      have hfin := Aside0.mk (show Ls f s k by
        rcases hL.out with ⟨h5, h6⟩ | h5
        · have := hsA.out; omega
        · exact hi ▸ h5)
      clear his hi
      go_wp2_with (fail)
      go_ret
      exact ⟨⟨k, rfl, hfin.out⟩, hB.out⟩
end Go.Proofs.Ytlakjninlpiedaa.Fw
