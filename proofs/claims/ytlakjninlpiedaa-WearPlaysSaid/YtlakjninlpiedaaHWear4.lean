/- wear: life; the skew is at least 1; acts. -/
import Derived.Test.YtlakjninlpiedaaHWearLaws
set_option linter.unusedVariables false
set_option linter.unusedSimpArgs false
namespace Go.Proofs.Ytlakjninlpiedaa.Fl

theorem nearest_rg (neg : Bool) (mag : Nat) (place : Int) : rg (Ieee.double.nearest neg mag place) ≤ 9218868437227405312 := by
  rw [nearest_eq]
  have := (word_rg neg (r := min (rnq (mag * 2 ^ (place + 1074).toNat) (2 ^ (-1074 - place).toNat)) 9218868437227405312) (by omega)).1
  rw [this]; exact Nat.min_le_right ..
theorem write_rg {d : Ieee.Datum} (h : d.isNaN = false) : rg (Ieee.double.write d) ≤ 9218868437227405312 := by
  cases d with
  | number neg mag place => exact nearest_rg neg mag place
  | infinity neg =>
    show rg (Ieee.double.word neg Ieee.double.infRung) ≤ _
    rw [d_inf, (word_rg neg (by decide)).1]; exact Nat.le_refl _
  | nan neg f => cases h
theorem sum_nan {a b d : Ieee.Datum} (h : a.sum b = some d) : d.isNaN = false := by
  unfold Ieee.Datum.sum at h
  split at h <;> first | (cases h; done) | (cases h; rfl) | skip
  all_goals (split at h <;> first | (cases h; done) | (cases h; rfl) | skip)
theorem quo_nan {n : Nat} {a b d : Ieee.Datum} (h : a.quotient n b = some d) : d.isNaN = false := by
  unfold Ieee.Datum.quotient at h
  split at h <;> first | (cases h; done) | (cases h; rfl) | skip
  all_goals (split at h <;> first | (cases h; done) | (cases h; rfl) | skip)
  all_goals (split at h <;> first | (cases h; done) | (cases h; rfl) | skip)
theorem sub_not_nan {x y r : Nat} (h : Ieee.double.sub x y = some r) : ¬ nan r := by
  unfold Ieee.Format.sub at h
  cases hd : (Ieee.double.read x).sum (Ieee.double.read y).opposite with
  | none => rw [hd] at h; cases h
  | some d =>
    rw [hd] at h
    cases h
    have := write_rg (sum_nan hd)
    unfold nan; omega
theorem div_not_nan {x y r : Nat} (h : Ieee.double.div x y = some r) : ¬ nan r := by
  unfold Ieee.Format.div at h
  cases hd : (Ieee.double.read x).quotient (Ieee.double.fractionBits + 2) (Ieee.double.read y) with
  | none => rw [hd] at h; cases h
  | some d =>
    rw [hd] at h
    cases h
    have := write_rg (quo_nan hd)
    unfold nan; omega
theorem div_nan_left {x y : Nat} (h : nan x) : Ieee.double.div x y = none := by
  obtain ⟨s, f, e⟩ := read_nan h
  unfold Ieee.Format.div
  rw [e]; cases Ieee.double.read y <;> rfl

/-- What fits in 53 digits is a float as it is. -/
theorem units_fnat {n : Nat} (h : n ≤ 9007199254740992) : units (fnat n) = n * up := by
  have hr : ∃ r, units r = n * up := by
    by_cases h' : n < 9007199254740992
    · exact repr lp n h'
    · obtain ⟨r, hr⟩ := repr (lp + 1) 4503599627370496 (by decide)
      refine ⟨r, ?_⟩
      rw [hr, show n = 4503599627370496 * 2 by omega, Nat.pow_succ, Nat.mul_comm (2 ^ lp), ← Nat.mul_assoc]
      rfl
  obtain ⟨r, hr⟩ := hr
  have he := rnq_exact r (b := 1) (by decide)
  have hf := fnat_fin (n := n) (by omega)
  unfold fnat at hf ⊢
  rw [Nat.mul_one, hr] at he
  rw [he] at hf ⊢
  rw [Nat.min_eq_left (by omega)]; exact hr
theorem fdiv_one {y : Nat} (hy : y ≠ 0) : fdiv y y = 4607182418800017408 := by
  unfold fdiv
  rw [rnq_congr (a' := up * 1) (b' := 1) (units_pos hy) (by decide) (by rw [Nat.mul_one, Nat.mul_one, Nat.mul_comm]), ← units_one, rnq_exact _ (by decide)]
  decide
/-- The mean is never above the greatest. -/
theorem mean_le {t s m : Nat} (ht : t ≤ 9007199254740992) (hs : 1 ≤ s) (hs1 : s ≤ 65536) (hm : m ≤ 9007199254740992) (h : t ≤ m * s) : ratiov t s ≤ fnat m := by
  unfold ratiov
  by_cases h0 : t = 0 ∧ s = 0
  · omega
  rw [if_neg h0, if_neg (by omega)]
  unfold fdiv fnat
  have u1 := units_fnat ht
  have u2 := units_fnat (n := s) (by omega)
  unfold fnat at u1 u2
  rw [u1, u2]
  have hup := up_pos
  clear u1 u2
  generalize up = U at *
  have h3 : t * U * U * 1 ≤ m * U * (s * U) := by
    rw [Nat.mul_one]
    calc t * U * U ≤ m * s * U * U := Nat.mul_le_mul_right _ (Nat.mul_le_mul_right _ h)
      _ = m * U * (s * U) := by simp only [Nat.mul_assoc, Nat.mul_comm, Nat.mul_left_comm]
  have h4 := rnq_mono (a := t * U * U) (b := s * U) (a' := m * U) (b' := 1) (Nat.mul_pos (by omega) hup) (by decide) h3
  generalize rnq (t * U * U) (s * U) = x at *
  generalize rnq (m * U) 1 = y at *
  omega
end Go.Proofs.Ytlakjninlpiedaa.Fl
namespace Go.Proofs.Ytlakjninlpiedaa.Fw
open Go Go.RowKit Go.Proofs.YtlakjninlpiedaaW.PrintWords Go.Proofs.YtlakjninlpiedaaW.PrintLast Go.Proofs.YtlakjninlpiedaaW.PrintMore Go.Proofs.Ytlakjninlpiedaa.Fl Go.Proofs.Ytlakjninlpiedaa.Sep Go.Proofs.Ytlakjninlpiedaa.G
set_option maxHeartbeats 4000000
set_option maxRecDepth 100000
attribute [local go_sem] run_f64bits run_frombits max2_int min2_int

theorem skew_one {m t s : Nat} (h1 : t ≤ 9007199254740992) (h2 : 1 ≤ s) (h3 : s ≤ 65536) (hm : m ≤ 9007199254740992) (h : t ≤ m * s) : 4607182418800017408 ≤ skewv m t s ∧ skewv m t s ≤ 9218868437227405312 := by
  unfold skewv
  by_cases h0 : t = 0
  · rw [if_pos h0]; omega
  · rw [if_neg h0]
    have hb := mean_bounds (t := t) (by omega) h1 h2 h3
    have hl := mean_le h1 h2 h3 hm h
    have := fdiv_mono (x := ratiov t s) (x' := fnat m) (y := ratiov t s) (y' := ratiov t s) (by omega) (by omega) hl (Nat.le_refl _)
    rw [fdiv_one (by omega)] at this
    exact ⟨this, fdiv_le _ _⟩

/-- What is left. -/
def lifev (limit m : Nat) : Nat := match Ieee.double.sub limit (fnat m) with
  | none => 0
  | some d => match Ieee.double.div d limit with
    | none => 0
    | some q => clampv q 0 4607182418800017408
theorem clamp_unit {q : Nat} (hq : q < 18446744073709551616) : clampv q 0 4607182418800017408 ≤ 4607182418800017408 := by
  unfold clampv
  have k0 : keyv 0 = 9223372036854775808 := by decide
  have k1 : keyv 4607182418800017408 = 13830554455654793216 := by decide
  rw [k0, k1]
  have hc := kcls hq
  have hv := rv_eq hq
  split
  · omega
  · rename_i h
    split
    · omega
    · rename_i h'
      have a1 : ¬ cmpi (keyv q) 9223372036854775808 < 0 := fun h'' => h (.inl h'')
      unfold cmpi at a1 h'
      have b1 : 9223372036854775808 ≤ keyv q := by
        refine Nat.le_of_not_lt fun hlt => a1 ?_
        rw [if_pos hlt]; decide
      have b2 : keyv q ≤ 13830554455654793216 := by
        refine Nat.le_of_not_lt fun hlt => h' ?_
        rw [if_neg (by omega), if_pos hlt]; decide
      by_cases hn : nan q
      · rcases hc with ⟨_, _, h5⟩ | ⟨h5, _⟩ | ⟨h5, _⟩ | ⟨h5, _⟩ | ⟨h5, _⟩ | ⟨h5, _⟩ | ⟨h5, _⟩
        · omega
        all_goals exact absurd hn h5
      · have hb : bitsv q = q := if_neg hn
        unfold keyv at b1 b2
        rw [hb] at b1 b2
        split at b2
        · rw [if_pos (by assumption)] at b1; omega
        · omega
theorem run_sub_nan (t : TypeId) (x y : Nat) (W : World) (h : Ieee.double.sub x y = none) : ∃ r, (binOp .sub t (.float .f64 x) (.float .f64 y)).run Try.prog W = .ok (.float .f64 r) W.drew ∧ nan r ∧ r < 18446744073709551616 := by
  have hc : ∀ q : Nat, nan ((q % 2) * 2 ^ 63 + 0x7ff0000000000000 + 1 + (q / 2) % (2 ^ 52 - 1)) ∧ (q % 2) * 2 ^ 63 + 0x7ff0000000000000 + 1 + (q / 2) % (2 ^ 52 - 1) < 18446744073709551616 := by
    intro q
    rw [nan_iff, show (2 : Nat) ^ 63 = 9223372036854775808 by decide, show (2 : Nat) ^ 52 - 1 = 4503599627370495 by decide]
    have h1 := Nat.mod_lt (q / 2) (show 4503599627370495 > 0 by decide)
    have h2 : q % 2 = 0 ∨ q % 2 = 1 := by omega
    generalize q / 2 % 4503599627370495 = z at *
    generalize q % 2 = b at *
    clear h W
    rcases h2 with rfl | rfl <;> constructor <;> omega
  refine ⟨_, ?_, (hc (W.tape W.drawn (.nanBits .f64 x y))).1, (hc _).2⟩
  have h2 : FloatKind.f64.format.sub x y = none := h
  simp only [binOp, Op.floatArith, h2]
  rfl

theorem wear_Life (w0 w : World) (g : Nat) (e : Int) (s b n t : Nat) (f : Nat → Nat) (ps : List HP) (limit : Nat) (hs : Sep.Sep w0 w (gg g e s b n t f ++ ps)) (hf : ∀ k, k < 4294967296 → f k < 18446744073709551616) (hl : limit < 18446744073709551616) :
    Calls Try.prog 45 #[.pointer (some ⟨g, 0, none⟩), .float .f64 limit] w fun r w' => (∃ m, r = .returned (.float .f64 (lifev limit m)) ∧ Mx f m) ∧ Below w.heap.size w w' := by
  have hM := Aside0.mk (wear_most w0 w g e s b n t f ps hs hf)
  have hfA := Aside0.mk hf
  clear hs hf
  go_enter Try.func45, Try.ntmps45
  go_wp2_with (fail)
  refine hM.out.mono ?_
  rintro r w1 ⟨⟨m, rfl, hMx⟩, hb1⟩
  have hMxA := Aside0.mk hMx
  have hB1 := Aside0.mk hb1
  have hfl := floatOf m
  clear hb1 hMx hM
  cases hsub : Ieee.double.sub limit (fnat m) with
  | none =>
    have hlv : lifev limit m = 0 := by unfold lifev; rw [hsub]
    obtain ⟨d, hr1, hd1, hd2⟩ := run_sub_nan 38 limit (fnat m) w1 hsub
    obtain ⟨q, hr2, hq1, hq2⟩ := run_quo_nan 38 d limit w1.drew (div_nan_left hd1)
    have hn := math_IsNaN q
    rw [decide_eq_true hq1] at hn
    have hB2 := Aside0.mk (below_drew (below_drew hB1.out))
    clear hd1 hq1 hsub
    go_wp2_with (fail)
    refine (hn _).mono ?_
    intro ef_ wf_ hf_
    obtain ⟨h1f_, h2f_⟩ := hf_
    subst h1f_
    subst h2f_
    go_wp2_with (fail)
    go_ret
    exact ⟨⟨m, by rw [hlv]; rfl, hMxA.out⟩, hB2.out⟩
  | some d =>
    have hr1 : ∀ W : World, (binOp .sub 38 (.float .f64 limit) (.float .f64 (fnat m))).run Try.prog W = .ok (.float .f64 d) W := fun W => run_float_arith W .sub _ .f64 _ _ _ hsub
    cases hdv : Ieee.double.div d limit with
    | none =>
      have hlv : lifev limit m = 0 := by unfold lifev; rw [hsub]; simp only [hdv]
      obtain ⟨q, hr2, hq1, hq2⟩ := run_quo_nan 38 d limit w1 hdv
      have hn := math_IsNaN q
      rw [decide_eq_true hq1] at hn
      have hB2 := Aside0.mk (below_drew hB1.out)
      clear hq1 hsub hdv
      go_wp2_with (fail)
      refine (hn _).mono ?_
      intro ef_ wf_ hf_
      obtain ⟨h1f_, h2f_⟩ := hf_
      subst h1f_
      subst h2f_
      go_wp2_with (fail)
      go_ret
      exact ⟨⟨m, by rw [hlv]; rfl, hMxA.out⟩, hB2.out⟩
    | some q =>
      have hlv : lifev limit m = clampv q 0 4607182418800017408 := by unfold lifev; rw [hsub]; simp only [hdv]
      have hr2 : ∀ W : World, (binOp .quo 38 (.float .f64 d) (.float .f64 limit)).run Try.prog W = .ok (.float .f64 q) W := fun W => run_float_arith W .quo _ .f64 _ _ _ hdv
      have hn := math_IsNaN q
      rw [decide_eq_false (div_not_nan hdv)] at hn
      have hq2 : q < 18446744073709551616 := Ieee.Format.div_lt _ hdv
      have hcl := edge_Clamp q 0 4607182418800017408 hq2 (by decide) (by decide)
      clear hsub hdv hq2
      go_wp2_with (fail)
      refine (hn _).mono ?_
      intro ef_ wf_ hf_
      obtain ⟨h1f_, h2f_⟩ := hf_
      subst h1f_
      subst h2f_
      go_wp2_with (fail)
      refine (hcl _).mono ?_
      intro ef_ wf_ hf_
      obtain ⟨h1f_, h2f_⟩ := hf_
      subst h1f_
      subst h2f_
      go_wp2_with (fail)
      go_ret
      exact ⟨⟨m, by rw [hlv]; rfl, hMxA.out⟩, hB1.out⟩
end Go.Proofs.Ytlakjninlpiedaa.Fw
