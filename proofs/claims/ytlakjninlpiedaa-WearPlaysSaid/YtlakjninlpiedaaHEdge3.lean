/- Floats in the program: the same, ratios, whole numbers, the chapter's example, walked. -/
import Derived.Test.YtlakjninlpiedaaHEdge2
set_option linter.unusedVariables false
set_option linter.unusedSimpArgs false
namespace Go.Proofs.Ytlakjninlpiedaa.Fw
open Go Go.RowKit Go.Proofs.YtlakjninlpiedaaW.PrintWords Go.Proofs.YtlakjninlpiedaaW.PrintLast Go.Proofs.YtlakjninlpiedaaW.PrintMore Go.Proofs.Ytlakjninlpiedaa.Fl
set_option maxHeartbeats 2000000
set_option maxRecDepth 100000
attribute [local go_sem] run_f64bits run_frombits max2_int min2_int

theorem edge_Same (x y : Nat) (hx : x < 18446744073709551616) (hy : y < 18446744073709551616) : Tells 35 #[.float .f64 x, .float .f64 y] (.bool (decide (keyv x = keyv y))) := by
  intro w
  have hb : (((keyv x : Nat) : Int) == ((keyv y : Nat) : Int)) = decide (keyv x = keyv y) := by
    rw [show (((keyv x : Nat) : Int) == ((keyv y : Nat) : Int)) = decide (((keyv x : Nat) : Int) = ((keyv y : Nat) : Int)) from rfl]
    exact decide_eq_decide.2 (by omega)
  have c1 := edge_Key x hx
  have c2 := edge_Key y hy
  generalize decide (keyv x = keyv y) = b at *
  generalize keyv x = k at *
  generalize keyv y = j at *
  go_enter Try.func35, Try.ntmps35
  go_wp2_with (fail)
  refine (c1 _).mono ?_
  intro ef_ wf_ hf_
  obtain ⟨h1f_, h2f_⟩ := hf_
  subst h1f_
  subst h2f_
  go_wp2_with (fail)
  refine (c2 _).mono ?_
  intro ef_ wf_ hf_
  obtain ⟨h1f_, h2f_⟩ := hf_
  subst h1f_
  subst h2f_
  go_wp2_with (fail)
  go_ret
  exact ⟨rfl, rfl⟩
theorem law_same (x y : Nat) : Tells 37 #[.float .f64 x, .float .f64 y] (.bool (decide (bitsv x = bitsv y))) := by
  intro w
  have hb : (((bitsv x : Nat) : Int) == ((bitsv y : Nat) : Int)) = decide (bitsv x = bitsv y) := by
    rw [show (((bitsv x : Nat) : Int) == ((bitsv y : Nat) : Int)) = decide (((bitsv x : Nat) : Int) = ((bitsv y : Nat) : Int)) from rfl]
    exact decide_eq_decide.2 (by omega)
  have c1 := ref_Bits x
  have c2 := ref_Bits y
  generalize decide (bitsv x = bitsv y) = b at *
  generalize bitsv x = k at *
  generalize bitsv y = j at *
  go_enter Try.func37, Try.ntmps37
  go_wp2_with (fail)
  refine (c1 _).mono ?_
  intro ef_ wf_ hf_
  obtain ⟨h1f_, h2f_⟩ := hf_
  subst h1f_
  subst h2f_
  go_wp2_with (fail)
  refine (c2 _).mono ?_
  intro ef_ wf_ hf_
  obtain ⟨h1f_, h2f_⟩ := hf_
  subst h1f_
  subst h2f_
  go_wp2_with (fail)
  go_ret
  exact ⟨rfl, rfl⟩
theorem copysign_neg : Tells 76 #[.float .f64 0, .float .f64 13830554455654793216] (.float .f64 9223372036854775808) := by
  intro w
  go_enter Try.func76, Try.ntmps76
  go_wp2_with (fail)
  go_ret
  exact ⟨congrArg (fun b => Ending.returned (.float .f64 b)) (by kernel_rfl), rfl⟩

theorem floatOf (n : Nat) : floatOfInt .f64 (n : Int) = fnat n := by
  rw [← nearest_nat]
  show Ieee.double.nearest (decide ((n : Int) < 0)) (n : Int).natAbs 0 = _
  rw [decide_eq_false (by omega), Int.natAbs_natCast]
theorem edge_Ratio (p a : Nat) (hp : p < 18446744073709551616) (ha : a < 18446744073709551616) : Tells 31 #[.int .u64 p, .int .u64 a] (.float .f64 (ratiov p a)) := by
  intro w
  have f1 := floatOf p
  have f2 := floatOf a
  by_cases h : p = 0 ∧ a = 0
  · have hr : ratiov p a = 0 := if_pos h
    rw [hr]
    obtain ⟨rfl, rfl⟩ := h
    go_enter Try.func31, Try.ntmps31
    go_wp2_with (fail)
    go_ret
    exact ⟨rfl, rfl⟩
  · have hd := ratio_div (p := p) (a := a) (by omega) (by omega) h
    have hq : ∀ W : World, (binOp .quo 38 (.float .f64 (fnat p)) (.float .f64 (fnat a))).run Try.prog W = .ok (.float .f64 (ratiov p a)) W := fun W => run_float_arith W .quo _ .f64 _ _ _ hd
    have h0 : ((p : Int) == 0 && (a : Int) == 0) = false := by
      by_cases h1 : p = 0
      · rw [show ((a : Int) == 0) = false from beq_false_of_ne (by omega), Bool.and_false]
      · rw [show ((p : Int) == 0) = false from beq_false_of_ne (by omega), Bool.false_and]
    generalize ratiov p a = r at *
    clear hd
    by_cases h1 : p = 0
    · have h2 : ((a : Int) == 0) = false := beq_false_of_ne (by omega)
      have h3 : ((p : Int) == 0) = true := by rw [h1]; rfl
      clear h h0 h1
      go_enter Try.func31, Try.ntmps31
      go_wp2_with (fail)
      go_ret
      exact ⟨rfl, rfl⟩
    · have h3 : ((p : Int) == 0) = false := beq_false_of_ne (by omega)
      clear h h0
      go_enter Try.func31, Try.ntmps31
      go_wp2_with (fail)
      go_ret
      exact ⟨rfl, rfl⟩

/-- 'x >= 1'. -/
theorem ge1 (x : Nat) : (FloatKind.f64.format.order x 4607182418800017408 == some .gt || FloatKind.f64.format.order x 4607182418800017408 == some .eq) = decide (¬ (nan x ∨ rv x < 4607182418800017408)) := by
  rw [f64_ge]; exact decide_eq_decide.2 ⟨fun ⟨a, _, b⟩ => by
    have : rv 4607182418800017408 = 4607182418800017408 := by decide
    rintro (h | h)
    · exact a h
    · omega, fun h => ⟨fun h' => h (.inl h'), by decide, by
        have : rv 4607182418800017408 = 4607182418800017408 := by decide
        have := fun h' => h (.inr h')
        omega⟩⟩
/-- 'x >= 2^63', where x is above 0. -/
theorem ge63 (x : Nat) (h : x ≤ 9218868437227405312) : (FloatKind.f64.format.order x 4890909195324358656 == some .gt || FloatKind.f64.format.order x 4890909195324358656 == some .eq) = decide (4890909195324358656 ≤ x) := by
  rw [f64_ge]; exact decide_eq_decide.2 ⟨fun ⟨a, _, b⟩ => by
    have : rv 4890909195324358656 = 4890909195324358656 := by decide
    rw [rv_pos (x := x) (by omega)] at b
    omega, fun h' => ⟨nan_pos h, by decide, by
        have : rv 4890909195324358656 = 4890909195324358656 := by decide
        rw [rv_pos (x := x) (by omega)]
        omega⟩⟩

/-- What is at least 1 is above 0. -/
theorem pos_of_one {x : Nat} (hx : x < 18446744073709551616) (h : ¬ (nan x ∨ rv x < 4607182418800017408)) : 4607182418800017408 ≤ x ∧ x ≤ 9218868437227405312 := by
  have h1 : ¬ nan x := fun h' => h (.inl h')
  have h2 : ¬ rv x < 4607182418800017408 := fun h' => h (.inr h')
  rw [rv_eq hx] at h2
  rw [nan_iff] at h1
  split at h2 <;> omega

theorem conv_facts {x : Nat} (h : x < 4890909195324358656) : floatToIntVal .f64 x .u64 = some (flr x : Int) ∧ flr x < 9223372036854775808 := by
  obtain ⟨a, b⟩ := @rg_of_lt x (by omega)
  have h1 := toInt_pos (x := x) (by omega) b
  rw [a] at h1
  have h2 := flr_lt (j := 63) (r := x) (by decide) (by omega)
  rw [show (2 : Nat) ^ 63 = 9223372036854775808 by decide] at h2
  refine ⟨?_, h2⟩
  unfold floatToIntVal
  rw [show FloatKind.f64.decode x = Ieee.double.read x from rfl, h1]
  show (if IntKind.u64.min ≤ (flr x : Int) ∧ (flr x : Int) ≤ IntKind.u64.max then _ else _) = _
  rw [if_pos ⟨by show (0 : Int) ≤ _; omega, by show _ ≤ (18446744073709551615 : Int); omega⟩]

theorem word_pos (r : Nat) : Ieee.double.word false r = r := by unfold Ieee.Format.word; rw [if_neg (by decide)]
/-- The test of 2^63. -/
abbrev ge63b (x : Nat) : Bool := FloatKind.f64.format.order x 4890909195324358656 == some .gt || FloatKind.f64.format.order x 4890909195324358656 == some .eq

theorem whole_small {x m : Nat} (h0 : 4607182418800017408 ≤ x) (h : x < 4890909195324358656) : ∃ f mn : Nat, ge63b x = false ∧
    floatToIntVal .f64 x .u64 = some (f : Int) ∧ (f < m → mn = f) ∧ (¬ f < m → mn = m) ∧ (if 4895412794951729152 ≤ x then m else min m (flr x)) = mn := by
  obtain ⟨t1, t2⟩ := conv_facts h
  refine ⟨flr x, min m (flr x), ?_, t1, fun _ => by omega, fun _ => by omega, by rw [if_neg (by omega)]⟩
  rw [ge63b, ge63 x (by omega)]; exact decide_eq_false (by omega)
theorem whole_mid {x m : Nat} (h : 4890909195324358656 ≤ x) (h' : x < 4895412794951729152) : ∃ r f f2 mn : Nat, ge63b x = true ∧ Ieee.double.div x 4611686018427387904 = some r ∧ ge63b r = false ∧
    floatToIntVal .f64 r .u64 = some (f : Int) ∧ IntKind.u64.wrap (2 * (f : Int)) = (f2 : Int) ∧ (f2 < m → mn = f2) ∧ (¬ f2 < m → mn = m) ∧ (if 4895412794951729152 ≤ x then m else min m (flr x)) = mn := by
  obtain ⟨rx, sx⟩ := @rg_of_lt x (by omega)
  have hd := div_two (x := x) (nan_pos (by omega))
  rw [rx, sx, word_pos] at hd
  obtain ⟨e1, e2⟩ := halfr_mid h h'
  obtain ⟨t1, t2⟩ := conv_facts (x := x - 4503599627370496) (by omega)
  rw [e1] at hd
  refine ⟨x - 4503599627370496, flr (x - 4503599627370496), 2 * flr (x - 4503599627370496), min m (2 * flr (x - 4503599627370496)), ?_, hd, ?_, t1, ?_, fun _ => by omega, fun _ => by omega, by rw [if_neg (by omega), e2]⟩
  · rw [ge63b, ge63 x (by omega)]; exact decide_eq_true h
  · rw [ge63b, ge63 _ (by omega)]; exact decide_eq_false (by omega)
  · rw [IntKind.wrap_u64]; omega
theorem whole_big {x m : Nat} (h : 4895412794951729152 ≤ x) (h' : x ≤ 9218868437227405312) : ∃ r : Nat, ge63b x = true ∧ Ieee.double.div x 4611686018427387904 = some r ∧ ge63b r = true ∧
    (if 4895412794951729152 ≤ x then m else min m (flr x)) = m := by
  obtain ⟨rx, sx⟩ := @rg_of_lt x (by omega)
  have hd := div_two (x := x) (nan_pos (by omega))
  rw [rx, sx, word_pos] at hd
  have hle := halfr_le h'
  refine ⟨halfr x, ?_, hd, ?_, by rw [if_pos h]⟩
  · rw [ge63b, ge63 x (by omega)]; exact decide_eq_true (by omega)
  · rw [ge63b, ge63 _ (by omega)]; exact decide_eq_true (halfr_ge h h')

theorem edge_Whole (x m : Nat) (hx : x < 18446744073709551616) (hm : m < 18446744073709551616) : Tells 42 #[.float .f64 x, .int .u64 m] (.int .u64 (wholev x m)) := by
  intro w
  have g1 := ge1 x
  unfold wholev
  by_cases h : nan x ∨ rv x < 4607182418800017408
  · rw [decide_eq_false (fun h' => h' h)] at g1
    rw [if_pos h]
    clear h hx hm
    go_enter Try.func42, Try.ntmps42
    go_wp2_with (fail)
    go_ret
    exact ⟨rfl, rfl⟩
  · rw [decide_eq_true h] at g1
    rw [if_neg h]
    obtain ⟨p0, p1⟩ := pos_of_one hx h
    clear h hx hm
    by_cases h : 4890909195324358656 ≤ x
    · by_cases h64 : 4895412794951729152 ≤ x
      · obtain ⟨r, g2, hd, g3, he⟩ := whole_big (m := m) h64 p1
        rw [he]
        have hq : ∀ W : World, (binOp .quo 38 (.float .f64 x) (.float .f64 4611686018427387904)).run Try.prog W = .ok (.float .f64 r) W := fun W => run_float_arith W .quo _ .f64 _ _ _ hd
        clear p0 p1 h h64 hd he
        go_enter Try.func42, Try.ntmps42
        go_wp2_with (fail)
        go_ret
        exact ⟨rfl, rfl⟩
      · obtain ⟨r, f, f2, mn, g2, hd, g3, t1, hw, m1, m2, he⟩ := whole_mid (m := m) h (Nat.lt_of_not_le h64)
        rw [he]
        have hq : ∀ W : World, (binOp .quo 38 (.float .f64 x) (.float .f64 4611686018427387904)).run Try.prog W = .ok (.float .f64 r) W := fun W => run_float_arith W .quo _ .f64 _ _ _ hd
        have hcv : ∀ W : World, (convert 38 32 (.float .f64 r)).run Try.prog W = .ok (.int .u64 (f : Int)) W := fun W => run_convert_float_int W _ _ .f64 .u64 r _ (by kernel_rfl) (by kernel_rfl) t1
        clear p0 p1 h h64 hd he t1
        by_cases hmn : f2 < m
        · obtain rfl := m1 hmn
          clear m1 m2
          go_enter Try.func42, Try.ntmps42
          go_wp2_with (fail)
          all_goals first | contradiction | (go_ret; exact ⟨rfl, rfl⟩)
        · obtain rfl := m2 hmn
          clear m1 m2
          go_enter Try.func42, Try.ntmps42
          go_wp2_with (fail)
          all_goals first | contradiction | (go_ret; exact ⟨rfl, rfl⟩)
    · obtain ⟨f, mn, g2, t1, m1, m2, he⟩ := whole_small (m := m) p0 (Nat.lt_of_not_le h)
      rw [he]
      have hcv : ∀ W : World, (convert 38 32 (.float .f64 x)).run Try.prog W = .ok (.int .u64 (f : Int)) W := fun W => run_convert_float_int W _ _ .f64 .u64 x _ (by kernel_rfl) (by kernel_rfl) t1
      clear p0 p1 h he t1
      by_cases hmn : f < m
      · obtain rfl := m1 hmn
        clear m1 m2
        go_enter Try.func42, Try.ntmps42
        go_wp2_with (fail)
        all_goals first | contradiction | (go_ret; exact ⟨rfl, rfl⟩)
      · obtain rfl := m2 hmn
        clear m1 m2
        go_enter Try.func42, Try.ntmps42
        go_wp2_with (fail)
        all_goals first | contradiction | (go_ret; exact ⟨rfl, rfl⟩)

theorem whole_ex : wholev 4613712638259704627 10 = 2 := by
  unfold wholev
  have h1 : ¬ (nan 4613712638259704627 ∨ rv 4613712638259704627 < 4607182418800017408) := by decide
  rw [if_neg h1, if_neg (by decide)]
  have hu := units_at (j := 1) (t := 2026619832316723) (by decide)
  unfold flr
  rw [show 1022 + 1 = lp - 51 by rw [lp_eq]] at hu
  rw [show (4613712638259704627 : Nat) = (1023 + 1) * 4503599627370496 + 2026619832316723 by decide, hu, ← up_eq]
  have : (2 : Nat) ^ lp = 2 ^ 51 * 2 ^ (lp - 51) := by rw [← Nat.pow_add, show 51 + (lp - 51) = lp by rw [lp_eq]]
  rw [this, Nat.mul_div_mul_right _ _ (Nat.two_pow_pos _)]
  decide

theorem law_lives : Tells 30 #[] (.bool true) := by
  intro w
  have c1 := edge_Compare 9223372036854775808 0 (by decide) (by decide)
  rw [show cmpi (keyv 9223372036854775808) (keyv 0) = -1 by decide] at c1
  have c2 := edge_Ratio 1 0 (by decide) (by decide)
  rw [show ratiov 1 0 = 9218868437227405312 from rfl] at c2
  have c3 := math_IsInf 9218868437227405312 1 (by decide) (by decide)
  rw [show decide ((9218868437227405312 : Nat) = 9218868437227405312) = true from rfl] at c3
  have c4 := edge_Whole 4613712638259704627 10 (by decide) (by decide)
  rw [whole_ex] at c4
  go_enter Try.func30, Try.ntmps30
  go_wp2_with (fail)
  refine (copysign_neg _).mono ?_
  intro ef_ wf_ hf_
  obtain ⟨h1f_, h2f_⟩ := hf_
  subst h1f_
  subst h2f_
  go_wp2_with (fail)
  refine (c1 _).mono ?_
  intro ef_ wf_ hf_
  obtain ⟨h1f_, h2f_⟩ := hf_
  subst h1f_
  subst h2f_
  go_wp2_with (fail)
  refine (c2 _).mono ?_
  intro ef_ wf_ hf_
  obtain ⟨h1f_, h2f_⟩ := hf_
  subst h1f_
  subst h2f_
  go_wp2_with (fail)
  refine (c3 _).mono ?_
  intro ef_ wf_ hf_
  obtain ⟨h1f_, h2f_⟩ := hf_
  subst h1f_
  subst h2f_
  go_wp2_with (fail)
  refine (c4 _).mono ?_
  intro ef_ wf_ hf_
  obtain ⟨h1f_, h2f_⟩ := hf_
  subst h1f_
  subst h2f_
  go_wp2_with (fail)
  go_ret
  exact ⟨rfl, rfl⟩
end Go.Proofs.Ytlakjninlpiedaa.Fw
