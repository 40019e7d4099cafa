/- EdgeCounts: what is within two numbers, whole numbers by halves, the last of a row; the law, walked. -/
import Derived.Test.YtlakjninlpiedaaHEdge3
import Derived.Test.YtlakjninlpiedaaHSep
set_option linter.unusedVariables false
set_option linter.unusedSimpArgs false
namespace Go.Proofs.Ytlakjninlpiedaa.Fw
open Go Go.RowKit Go.Proofs.YtlakjninlpiedaaW.PrintWords Go.Proofs.YtlakjninlpiedaaW.PrintLast Go.Proofs.YtlakjninlpiedaaW.PrintMore Go.Proofs.Ytlakjninlpiedaa.Fl
set_option maxHeartbeats 4000000
set_option maxRecDepth 100000
attribute [local go_sem] run_f64bits run_frombits max2_int min2_int

/-- Within two. -/
def clampv (x lo hi : Nat) : Nat := if cmpi (keyv x) (keyv lo) < 0 ∨ cmpi (keyv hi) (keyv lo) < 0 then lo else if 0 < cmpi (keyv x) (keyv hi) then hi else x

theorem edge_Clamp (x lo hi : Nat) (hx : x < 18446744073709551616) (hl : lo < 18446744073709551616) (hh : hi < 18446744073709551616) : Tells 40 #[.float .f64 x, .float .f64 lo, .float .f64 hi] (.float .f64 (clampv x lo hi)) := by
  intro w
  have c1 := edge_Compare x lo hx hl
  have c2 := edge_Compare hi lo hh hl
  have c3 := edge_Compare x hi hx hh
  unfold clampv
  generalize cmpi (keyv x) (keyv lo) = a at *
  generalize cmpi (keyv hi) (keyv lo) = b at *
  generalize cmpi (keyv x) (keyv hi) = c at *
  clear hx hl hh
  by_cases h1 : a < 0
  · have d1 : decide (a < 0) = true := decide_eq_true h1
    rw [if_pos (.inl h1)]
    go_enter Try.func40, Try.ntmps40
    go_wp2_with (fail)
    refine (c1 _).mono ?_
    intro ef_ wf_ hf_
    obtain ⟨h1f_, h2f_⟩ := hf_
    subst h1f_
    subst h2f_
    go_wp2_with (fail)
    go_ret
    exact ⟨rfl, rfl⟩
  have d1 : decide (a < 0) = false := decide_eq_false h1
  by_cases h2 : b < 0
  · have d2 : decide (b < 0) = true := decide_eq_true h2
    rw [if_pos (.inr h2)]
    go_enter Try.func40, Try.ntmps40
    go_wp2_with (fail)
    refine (c1 _).mono ?_
    intro ef_ wf_ hf_
    obtain ⟨h1f_, h2f_⟩ := hf_
    subst h1f_
    subst h2f_
    go_wp2_with (fail)
    refine (c2 _).mono ?_
    intro ef_ wf_ hf_
    obtain ⟨h1f_, h2f_⟩ := hf_
    subst h1f_
    subst h2f_
    go_wp2_with (fail)
    go_ret
    exact ⟨rfl, rfl⟩
  have d2 : decide (b < 0) = false := decide_eq_false h2
  rw [if_neg (fun h => h.elim h1 h2)]
  by_cases h3 : 0 < c
  · have d3 : decide (0 < c) = true := decide_eq_true h3
    rw [if_pos h3]
    go_enter Try.func40, Try.ntmps40
    go_wp2_with (fail)
    refine (c1 _).mono ?_
    intro ef_ wf_ hf_
    obtain ⟨h1f_, h2f_⟩ := hf_
    subst h1f_
    subst h2f_
    go_wp2_with (fail)
    refine (c2 _).mono ?_
    intro ef_ wf_ hf_
    obtain ⟨h1f_, h2f_⟩ := hf_
    subst h1f_
    subst h2f_
    go_wp2_with (fail)
    refine (c3 _).mono ?_
    intro ef_ wf_ hf_
    obtain ⟨h1f_, h2f_⟩ := hf_
    subst h1f_
    subst h2f_
    go_wp2_with (fail)
    go_ret
    exact ⟨rfl, rfl⟩
  · have d3 : decide (0 < c) = false := decide_eq_false h3
    rw [if_neg h3]
    go_enter Try.func40, Try.ntmps40
    go_wp2_with (fail)
    refine (c1 _).mono ?_
    intro ef_ wf_ hf_
    obtain ⟨h1f_, h2f_⟩ := hf_
    subst h1f_
    subst h2f_
    go_wp2_with (fail)
    refine (c2 _).mono ?_
    intro ef_ wf_ hf_
    obtain ⟨h1f_, h2f_⟩ := hf_
    subst h1f_
    subst h2f_
    go_wp2_with (fail)
    refine (c3 _).mono ?_
    intro ef_ wf_ hf_
    obtain ⟨h1f_, h2f_⟩ := hf_
    subst h1f_
    subst h2f_
    go_wp2_with (fail)
    go_ret
    exact ⟨rfl, rfl⟩

theorem ref_Clamp (x lo hi : Nat) (hx : x < 18446744073709551616) (hl : lo < 18446744073709551616) (hh : hi < 18446744073709551616) : Tells 41 #[.float .f64 x, .float .f64 lo, .float .f64 hi] (.float .f64 (clampv x lo hi)) := by
  intro w
  have c1 := ref_Compare x lo hx hl
  have c2 := ref_Compare hi lo hh hl
  have c3 := ref_Compare x hi hx hh
  unfold clampv
  generalize cmpi (keyv x) (keyv lo) = a at *
  generalize cmpi (keyv hi) (keyv lo) = b at *
  generalize cmpi (keyv x) (keyv hi) = c at *
  clear hx hl hh
  by_cases h2 : b < 0
  · have d2 : decide (b < 0) = true := decide_eq_true h2
    rw [if_pos (.inr h2)]
    go_enter Try.func41, Try.ntmps41
    go_wp2_with (fail)
    refine (c2 _).mono ?_
    intro ef_ wf_ hf_
    obtain ⟨h1f_, h2f_⟩ := hf_
    subst h1f_
    subst h2f_
    go_wp2_with (fail)
    go_ret
    exact ⟨rfl, rfl⟩
  have d2 : decide (b < 0) = false := decide_eq_false h2
  by_cases h1 : a < 0
  · have d1 : decide (a < 0) = true := decide_eq_true h1
    rw [if_pos (.inl h1)]
    go_enter Try.func41, Try.ntmps41
    go_wp2_with (fail)
    refine (c2 _).mono ?_
    intro ef_ wf_ hf_
    obtain ⟨h1f_, h2f_⟩ := hf_
    subst h1f_
    subst h2f_
    go_wp2_with (fail)
    refine (c1 _).mono ?_
    intro ef_ wf_ hf_
    obtain ⟨h1f_, h2f_⟩ := hf_
    subst h1f_
    subst h2f_
    go_wp2_with (fail)
    go_ret
    exact ⟨rfl, rfl⟩
  have d1 : decide (a < 0) = false := decide_eq_false h1
  rw [if_neg (fun h => h.elim h1 h2)]
  by_cases h3 : 0 < c
  · have d3 : decide (0 < c) = true := decide_eq_true h3
    rw [if_pos h3]
    go_enter Try.func41, Try.ntmps41
    go_wp2_with (fail)
    refine (c2 _).mono ?_
    intro ef_ wf_ hf_
    obtain ⟨h1f_, h2f_⟩ := hf_
    subst h1f_
    subst h2f_
    go_wp2_with (fail)
    refine (c1 _).mono ?_
    intro ef_ wf_ hf_
    obtain ⟨h1f_, h2f_⟩ := hf_
    subst h1f_
    subst h2f_
    go_wp2_with (fail)
    refine (c3 _).mono ?_
    intro ef_ wf_ hf_
    obtain ⟨h1f_, h2f_⟩ := hf_
    subst h1f_
    subst h2f_
    go_wp2_with (fail)
    go_ret
    exact ⟨rfl, rfl⟩
  · have d3 : decide (0 < c) = false := decide_eq_false h3
    rw [if_neg h3]
    go_enter Try.func41, Try.ntmps41
    go_wp2_with (fail)
    refine (c2 _).mono ?_
    intro ef_ wf_ hf_
    obtain ⟨h1f_, h2f_⟩ := hf_
    subst h1f_
    subst h2f_
    go_wp2_with (fail)
    refine (c1 _).mono ?_
    intro ef_ wf_ hf_
    obtain ⟨h1f_, h2f_⟩ := hf_
    subst h1f_
    subst h2f_
    go_wp2_with (fail)
    refine (c3 _).mono ?_
    intro ef_ wf_ hf_
    obtain ⟨h1f_, h2f_⟩ := hf_
    subst h1f_
    subst h2f_
    go_wp2_with (fail)
    go_ret
    exact ⟨rfl, rfl⟩

theorem math_Inf1 : Tells 80 #[.int .i64 1] (.float .f64 9218868437227405312) := by
  intro w
  go_enter Try.func80, Try.ntmps80
  go_wp2_with (fail)
  go_ret
  exact ⟨rfl, rfl⟩
theorem math_NaN : Tells 81 #[] (.float .f64 9221120237041090561) := by
  intro w
  go_enter Try.func81, Try.ntmps81
  go_wp2_with (fail)
  go_ret
  exact ⟨rfl, rfl⟩

theorem ref_Ratio (p a : Nat) (hp : p < 18446744073709551616) (ha : a < 18446744073709551616) : Tells 39 #[.int .u64 p, .int .u64 a] (.float .f64 (ratiov p a)) := by
  intro w
  have f1 := floatOf p
  have f2 := floatOf a
  by_cases h : p = 0 ∧ a = 0
  · have hr : ratiov p a = 0 := if_pos h
    rw [hr]
    obtain ⟨rfl, rfl⟩ := h
    go_enter Try.func39, Try.ntmps39
    go_wp2_with (fail)
    go_ret
    exact ⟨rfl, rfl⟩
  · by_cases h1 : a = 0
    · have hr : ratiov p a = 9218868437227405312 := by unfold ratiov; rw [if_neg h, if_pos h1]
      have h2 : ((p : Int) == 0) = false := beq_false_of_ne (by omega)
      have h3 : ((a : Int) == 0) = true := by rw [h1]; rfl
      rw [hr]
      clear h h1 hp ha hr
      go_enter Try.func39, Try.ntmps39
      go_wp2_with (fail)
      refine (math_Inf1 _).mono ?_
      intro ef_ wf_ hf_
      obtain ⟨h1f_, h2f_⟩ := hf_
      subst h1f_
      subst h2f_
      go_wp2_with (fail)
      go_ret
      exact ⟨rfl, rfl⟩
    · have hd := ratio_div (p := p) (a := a) (by omega) (by omega) h
      have hq : ∀ W : World, (binOp .quo 38 (.float .f64 (fnat p)) (.float .f64 (fnat a))).run Try.prog W = .ok (.float .f64 (ratiov p a)) W := fun W => run_float_arith W .quo _ .f64 _ _ _ hd
      have h3 : ((a : Int) == 0) = false := beq_false_of_ne (by omega)
      generalize ratiov p a = r at *
      clear hd h h1 hp ha
      go_enter Try.func39, Try.ntmps39
      go_wp2_with (fail)
      go_ret
      exact ⟨rfl, rfl⟩

/-! whole numbers by halves -/
def pw : Nat → Nat
  | 0 => 0
  | j + 1 => 2 ^ j
theorem lt1 (x : Nat) : (FloatKind.f64.format.order x 4607182418800017408 == some .lt) = decide (¬ nan x ∧ rv x < 4607182418800017408) := by
  rw [f64_lt]; exact decide_eq_decide.2 ⟨fun ⟨a, _, b⟩ => ⟨a, by
    have : rv 4607182418800017408 = 4607182418800017408 := by decide
    omega⟩, fun ⟨a, b⟩ => ⟨a, by decide, by
    have : rv 4607182418800017408 = 4607182418800017408 := by decide
    omega⟩⟩
theorem ge_f (x y : Nat) (hx : x ≤ 9218868437227405312) (hy : y ≤ 9218868437227405312) : (FloatKind.f64.format.order x y == some .gt || FloatKind.f64.format.order x y == some .eq) = decide (y ≤ x) := by
  rw [f64_ge, rv_pos (x := x) (by omega), rv_pos (x := y) (by omega)]
  exact decide_eq_decide.2 ⟨fun ⟨_, _, h⟩ => by omega, fun h => ⟨nan_pos hx, nan_pos hy, by omega⟩⟩
/-- One round: what the walk needs. -/
theorem half_round {j r n F : Nat} (hj : j ≤ 63) (hr : r < (1024 + j) * 4503599627370496) (hn : n + flr r = F) (hF : F < 18446744073709551616) :
    ∃ p c p2 : Nat, pw (j + 1) = p ∧ 0 < p ∧ floatOfInt .f64 (p : Int) = c ∧ (p : Int) / 2 = (p2 : Int) ∧ pw j = p2 ∧ IntKind.u64.wrap (p2 : Int) = (p2 : Int) ∧
      (((FloatKind.f64.format.order r c == some .gt || FloatKind.f64.format.order r c == some .eq) = true ∧ ∃ r' n', Ieee.double.sub r c = some r' ∧ r' < (1023 + j) * 4503599627370496 ∧ n' + flr r' = F ∧ IntKind.u64.wrap ((n : Int) + (p : Int)) = (n' : Int)) ∨
       ((FloatKind.f64.format.order r c == some .gt || FloatKind.f64.format.order r c == some .eq) = false ∧ r < (1023 + j) * 4503599627370496)) := by
  have hpw : 0 < 2 ^ j := Nat.two_pow_pos j
  have hp63 : 2 ^ j ≤ 2 ^ 63 := Nat.pow_le_pow_right (by decide) hj
  rw [show (2 : Nat) ^ 63 = 9223372036854775808 by decide] at hp63
  have hfp := fnat_pow (j := j) (Nat.le_trans hj (by decide))
  have hr2 : r < 4895412794951729152 := Nat.lt_of_lt_of_le hr (Nat.le_trans (Nat.mul_le_mul_right _ (show 1024 + j ≤ 1087 by omega)) (show (1087 : Nat) * 4503599627370496 ≤ 4895412794951729152 by decide))
  have hge := ge_f r (fnat (2 ^ j)) (Nat.le_trans (Nat.le_of_lt hr2) (by decide)) (fnat_big _)
  have hpj : pw j = 2 ^ j / 2 := by
    cases j with
    | zero => rfl
    | succ j => show 2 ^ j = 2 ^ (j + 1) / 2; rw [Nat.pow_succ]; omega
  refine ⟨2 ^ j, fnat (2 ^ j), 2 ^ j / 2, rfl, hpw, floatOf _, (Int.natCast_ediv _ _).symm, hpj, by rw [IntKind.wrap_u64]; omega, ?_⟩
  rw [hge, hfp]
  by_cases h : (1023 + j) * 4503599627370496 ≤ r
  · obtain ⟨r', h1, h2, h3⟩ := whole_step hj h hr
    rw [hfp] at h1
    refine .inl ⟨decide_eq_true h, r', n + 2 ^ j, h1, h2, by omega, ?_⟩
    have : n + 2 ^ j ≤ F := by omega
    rw [IntKind.wrap_u64]
    omega
  · exact .inr ⟨decide_eq_false h, Nat.lt_of_not_le h⟩

theorem ref_Whole (x m : Nat) (hx : x < 18446744073709551616) (hm : m < 18446744073709551616) : Tells 43 #[.float .f64 x, .int .u64 m] (.int .u64 (wholev x m)) := by
  intro w
  have c1 := math_IsNaN x
  have l1 := lt1 x
  unfold wholev
  by_cases hn : nan x
  · rw [decide_eq_true hn] at c1
    rw [if_pos (.inl hn)]
    clear hn hx hm
    go_enter Try.func43, Try.ntmps43
    go_wp2_with (fail)
    refine (c1 _).mono ?_
    intro ef_ wf_ hf_
    obtain ⟨h1f_, h2f_⟩ := hf_
    subst h1f_
    subst h2f_
    go_wp2_with (fail)
    go_ret
    exact ⟨rfl, rfl⟩
  rw [decide_eq_false hn] at c1
  by_cases h1 : rv x < 4607182418800017408
  · rw [decide_eq_true ⟨hn, h1⟩] at l1
    rw [if_pos (.inr h1)]
    clear hn hx hm h1
    go_enter Try.func43, Try.ntmps43
    go_wp2_with (fail)
    refine (c1 _).mono ?_
    intro ef_ wf_ hf_
    obtain ⟨h1f_, h2f_⟩ := hf_
    subst h1f_
    subst h2f_
    go_wp2_with (fail)
    go_ret
    exact ⟨rfl, rfl⟩
  rw [decide_eq_false (fun h => h1 h.2)] at l1
  rw [if_neg (fun h => h.elim hn h1)]
  obtain ⟨p0, p1⟩ := pos_of_one hx (fun h => h.elim hn h1)
  have g2 := ge_f x 4895412794951729152 p1 (by decide)
  by_cases h2 : 4895412794951729152 ≤ x
  · rw [decide_eq_true h2] at g2
    rw [if_pos h2]
    clear hn hx hm h1 h2 p0 p1
    go_enter Try.func43, Try.ntmps43
    go_wp2_with (fail)
    refine (c1 _).mono ?_
    intro ef_ wf_ hf_
    obtain ⟨h1f_, h2f_⟩ := hf_
    subst h1f_
    subst h2f_
    go_wp2_with (fail)
    go_ret
    exact ⟨rfl, rfl⟩
  · rw [decide_eq_false h2] at g2
    rw [if_neg h2]
    have hF : flr x < 18446744073709551616 := by
      have := flr_lt (j := 64) (r := x) (by decide) (by omega)
      rwa [show (2 : Nat) ^ 64 = 18446744073709551616 by decide] at this
    obtain ⟨F, hFF⟩ : ∃ F, flr x = F := ⟨_, rfl⟩
    rw [hFF] at hF ⊢
    have h0 : Aside0 (x < (1023 + 64) * 4503599627370496 ∧ 0 + flr x = F ∧ F < 18446744073709551616) := ⟨by omega, by omega, hF⟩
    have hmn : Aside0 ((F < m → min m F = F) ∧ (¬ F < m → min m F = m) ∧ (m < F → min m F = m) ∧ (¬ m < F → min m F = F)) := ⟨fun _ => by omega, fun _ => by omega, fun _ => by omega, fun _ => by omega⟩
    generalize min m F = mn at *
    clear hn hx hm h1 h2 p0 p1 hF hFF
    go_enter Try.func43, Try.ntmps43
    go_wp2_with (fail)
    refine (c1 _).mono ?_
    rintro e w1 ⟨rfl, hw1⟩
    have hwA := Aside0.mk hw1
    clear hw1
    go_wp2_with (fail)
    go_loopg [0, 5, 6] 64 (fun kq v0 v5 v6 w' => ∃ (r n p : Nat), v0 = .float .f64 r ∧ v5 = .int .u64 (n : Int) ∧ v6 = .int .u64 (p : Int) ∧ Aside0 (kq ≤ 64 ∧ pw kq = p ∧ r < (1023 + kq) * 4503599627370496 ∧ n + flr r = F ∧ F < 18446744073709551616) ∧ Aside0 (w' = w))
    case atStart => exact ⟨x, 0, 9223372036854775808, rfl, rfl, rfl, ⟨by decide, rfl, h0.out.1, h0.out.2.1, h0.out.2.2⟩, hwA⟩
    case round =>
      obtain ⟨r, n, p, rfl, rfl, rfl, hA, hwA⟩ := hrel
      cases gk with
      | zero =>
        obtain ⟨-, hp, hr, hnF, -⟩ := hA.out
        have hz := flr_small (r := r) (by omega)
        have hp0 : p = 0 := hp.symm
        have hnn : n = F := by omega
        subst hp0 hnn
        have hd : decide ((0 : Int) > 0) = false := rfl
        clear hp hr hnF hz
        go_wp2_with (fail)
        all_goals
          go_ret
          refine ⟨?_, hwA.out⟩
          obtain ⟨m1, m2, m3, m4⟩ := hmn.out
          first | (rw [m3 (by assumption)]; done) | (rw [m4 (by assumption)]; done) | (rw [m3 (by assumption)]; rfl) | (rw [m4 (by assumption)]; rfl)
      | succ j =>
        obtain ⟨hj, hp, hr, hnF, hF⟩ := hA.out
        obtain ⟨p', c, p2, e1, hpos, hfl, hdiv, e2, hw2, hor⟩ := half_round (j := j) (Nat.le_of_succ_le_succ hj) (by rw [show 1023 + (j + 1) = 1024 + j from by rw [Nat.add_comm j 1, ← Nat.add_assoc]] at hr; exact hr) hnF hF
        rw [hp] at e1
        subst e1
        have hd : decide ((p : Int) > 0) = true := decide_eq_true (by omega)
        have hd2 : decide (0 < p) = true := decide_eq_true hpos
        have hFA := Aside0.mk hF
        have e2A := Aside0.mk e2
        have hjA := Aside0.mk hj
        have h2A := Aside0.mk hnF
        clear hp hr hnF hF hj e2 hpos
        rcases hor with ⟨hge, r', n', hs, hr', hn', hw'⟩ | ⟨hge, hr'⟩
        · have hsub : ∀ V : World, (binOp .sub 38 (.float .f64 r) (.float .f64 c)).run Try.prog V = .ok (.float .f64 r') V := fun V => run_float_arith V .sub _ .f64 _ _ _ hs
          have h1A := Aside0.mk hr'
          have h2A := Aside0.mk hn'
          clear hs hr' hn'
          go_wp2_with (fail)
          go_roundg j
          case measure => omega
          case rel => exact ⟨r', n', p2, rfl, rfl, rfl, ⟨Nat.le_of_succ_le hjA.out, e2A.out, h1A.out, h2A.out, hFA.out⟩, hwA⟩
        · have h1A := Aside0.mk hr'
          clear hr'
          go_wp2_with (fail)
          go_roundg j
          case measure => omega
          case rel => exact ⟨r, n, p2, rfl, rfl, rfl, ⟨Nat.le_of_succ_le hjA.out, e2A.out, h1A.out, h2A.out, hFA.out⟩, hwA⟩
end Go.Proofs.Ytlakjninlpiedaa.Fw
