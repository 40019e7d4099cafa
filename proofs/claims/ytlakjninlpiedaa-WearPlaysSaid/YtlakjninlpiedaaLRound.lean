/- Floats: rounding; quotients; whole numbers as floats. -/
import Derived.Test.YtlakjninlpiedaaLFloat
namespace Go.Proofs.Ytlakjninlpiedaa.Fl
/-- n/g rounded to the nearest, ties to even. -/
def rne (a g : Nat) : Nat := a / g + (if g < 2 * (a % g) ∨ (g = 2 * (a % g) ∧ a / g % 2 = 1) then 1 else 0)

theorem rne_gt {a g : Nat} (hg : 0 < g) (k : Nat) : k < rne a g ↔ (2 * k + 1) * g < 2 * a ∨ ((2 * k + 1) * g = 2 * a ∧ k % 2 = 1) := by
  unfold rne
  have ha : g * (a / g) + a % g = a := Nat.div_add_mod a g
  have hr : a % g < g := Nat.mod_lt _ hg
  generalize a / g = q at *
  generalize a % g = r at *
  have e1 : (2 * k + 1) * g = 2 * (g * k) + g := by rw [Nat.add_mul, Nat.mul_assoc, Nat.one_mul, Nat.mul_comm k]
  rw [e1]
  rcases Nat.lt_trichotomy k q with h | h | h
  · have : g * (k + 1) ≤ g * q := Nat.mul_le_mul_left _ h
    rw [Nat.mul_add, Nat.mul_one] at this
    constructor
    · intro; left; omega
    · intro; omega
  · subst h
    constructor
    · intro h
      split at h
      · rename_i h'; rcases h' with h' | ⟨h', h''⟩
        · left; omega
        · right; exact ⟨by omega, h''⟩
      · omega
    · rintro (h | ⟨h, h'⟩)
      · rw [if_pos (.inl (by omega))]; omega
      · rw [if_pos (.inr ⟨by omega, h'⟩)]; omega
  · have : g * (q + 1) ≤ g * k := Nat.mul_le_mul_left _ h
    rw [Nat.mul_add, Nat.mul_one] at this
    constructor
    · intro h; split at h <;> omega
    · rintro (h | ⟨h, -⟩) <;> omega

theorem eq_of_gt {a b : Nat} (h : ∀ k, k < a ↔ k < b) : a = b := by
  have := h a; have := h b; omega

theorem rne_mono {a b g h : Nat} (hg : 0 < g) (hh : 0 < h) (hle : a * h ≤ b * g) : rne a g ≤ rne b h := by
  refine Nat.le_of_not_lt fun hlt => ?_
  have h1 := (rne_gt hg (rne b h)).1 hlt
  have h2 := fun h' => Nat.lt_irrefl _ ((rne_gt hh (rne b h)).2 h')
  generalize rne b h = k at *
  have hm : (2 * k + 1) * g ≤ 2 * a := by rcases h1 with h1 | ⟨h1, -⟩ <;> omega
  have hn : 2 * b ≤ (2 * k + 1) * h := by
    refine Nat.le_of_not_lt fun h3 => h2 (.inl h3)
  have c1 : (2 * k + 1) * g * h ≤ 2 * a * h := Nat.mul_le_mul_right _ hm
  have c2 : 2 * b * g ≤ (2 * k + 1) * h * g := Nat.mul_le_mul_right _ hn
  have c3 : (2 * k + 1) * h * g = (2 * k + 1) * g * h := by rw [Nat.mul_assoc, Nat.mul_comm h, Nat.mul_assoc]
  have c4 : 2 * a * h = 2 * (a * h) := Nat.mul_assoc ..
  have c5 : 2 * b * g = 2 * (b * g) := Nat.mul_assoc ..
  have d1 : 2 * a * h = (2 * k + 1) * g * h := by omega
  have d2 : 2 * b * g = (2 * k + 1) * h * g := by omega
  have f1 : 2 * a = (2 * k + 1) * g := Nat.eq_of_mul_eq_mul_right hh d1
  have f2 : 2 * b = (2 * k + 1) * h := Nat.eq_of_mul_eq_mul_right hg d2
  rcases h1 with h1 | ⟨-, h1⟩
  · omega
  · exact h2 (.inr ⟨f2.symm, h1⟩)
theorem rne_congr {a b g h : Nat} (hg : 0 < g) (hh : 0 < h) (he : a * h = b * g) : rne a g = rne b h :=
  Nat.le_antisymm (rne_mono hg hh (Nat.le_of_eq he)) (rne_mono hh hg (Nat.le_of_eq he.symm))
theorem rne_exact (c g : Nat) (hg : 0 < g) : rne (c * g) g = c := by
  unfold rne
  rw [Nat.mul_div_cancel _ hg, Nat.mul_mod_left, if_neg (by omega)]; rfl
theorem rne_le {a g c : Nat} (hg : 0 < g) (h : a ≤ c * g) : rne a g ≤ c := by
  have := rne_mono (a := a) (b := c * g) hg hg (Nat.mul_le_mul_right _ h)
  rwa [rne_exact _ _ hg] at this
theorem le_rne {a g c : Nat} (hg : 0 < g) (h : c * g ≤ a) : c ≤ rne a g := by
  have := rne_mono (a := c * g) (b := a) hg hg (Nat.mul_le_mul_right _ h)
  rwa [rne_exact _ _ hg] at this

theorem cut_eq (neg : Bool) (n drop : Nat) : Ieee.Toward.even.cut neg n drop = rne n (2 ^ drop) := by
  have hb : ∀ (g : Nat), n / g + (g < 2 * (n % g) || (g == 2 * (n % g) && n / g % 2 == 1)).toNat = rne n g := by
    intro g; unfold rne
    have hB : ∀ (P Q R : Prop) [Decidable P] [Decidable Q] [Decidable R], (decide P || (decide Q && decide R)).toNat = if P ∨ (Q ∧ R) then 1 else 0 := by
      intro P Q R _ _ _
      by_cases P <;> by_cases Q <;> by_cases R <;> simp [*]
    exact congrArg (n / g + ·) (hB _ _ _)
  show n / (1 <<< min drop (n.log2 + 2)) + _ = _
  by_cases h : drop ≤ n.log2 + 2
  · have e : (1 <<< min drop (n.log2 + 2)) = 2 ^ drop := by rw [Nat.min_eq_left h, Nat.shiftLeft_eq, Nat.one_mul]
    rw [e]
    exact hb _
  · have e : (1 <<< min drop (n.log2 + 2)) = 2 ^ (n.log2 + 2) := by rw [Nat.min_eq_right (by omega), Nat.shiftLeft_eq, Nat.one_mul]
    rw [e]
    refine (hb _).trans ?_
    have hl : 2 * n < 2 ^ (n.log2 + 2) := by have := @Nat.lt_log2_self n; rw [Nat.pow_succ]; omega
    have hl' : 2 * n < 2 ^ drop := Nat.lt_of_lt_of_le hl (Nat.pow_le_pow_right (by decide) (by omega))
    have z : ∀ g, 2 * n < g → rne n g = 0 := by
      intro g hg; unfold rne
      rw [Nat.div_eq_of_lt (by omega), Nat.mod_eq_of_lt (by omega), if_neg (by omega)]
    rw [z _ hl, z _ hl']

/-- The rung next to a/b units (whatever is too great has a rung, too). -/
def rnq (a b : Nat) : Nat := ((a / b).log2 - 52) * 4503599627370496 + rne a (b * 2 ^ ((a / b).log2 - 52))

theorem log2_mono {a b : Nat} (h : a ≤ b) : a.log2 ≤ b.log2 := by
  by_cases ha : a = 0
  · subst ha; rw [show Nat.log2 0 = 0 from rfl]; omega
  · exact (Nat.le_log2 (by omega)).2 (Nat.le_trans (Nat.log2_self_le ha) h)

theorem p52 : (2 : Nat) ^ 52 = 4503599627370496 := by decide
theorem rnq_mono {a b a' b' : Nat} (hb : 0 < b) (hb' : 0 < b') (h : a * b' ≤ a' * b) : rnq a b ≤ rnq a' b' := by
  have hq : a / b ≤ a' / b' := by
    rw [Nat.le_div_iff_mul_le hb']
    refine Nat.le_of_mul_le_mul_right (?_ : a / b * b' * b ≤ a' * b) hb
    calc a / b * b' * b = a / b * b * b' := by rw [Nat.mul_assoc, Nat.mul_comm b', Nat.mul_assoc]
      _ ≤ a * b' := Nat.mul_le_mul_right _ (Nat.div_mul_le_self a b)
      _ ≤ _ := h
  have hl := log2_mono hq
  unfold rnq
  by_cases hp : (a / b).log2 - 52 = (a' / b').log2 - 52
  · rw [hp]
    generalize (a' / b').log2 - 52 = p
    have := rne_mono (a := a) (b := a') (g := b * 2 ^ p) (h := b' * 2 ^ p) (Nat.mul_pos hb (Nat.two_pow_pos p)) (Nat.mul_pos hb' (Nat.two_pow_pos p)) (by rw [← Nat.mul_assoc, ← Nat.mul_assoc]; exact Nat.mul_le_mul_right _ h)
    omega
  · have hx : a / b < 2 ^ ((a / b).log2 - 52 + 53) := Nat.lt_of_lt_of_le Nat.lt_log2_self (Nat.pow_le_pow_right (by decide) (by omega))
    have hy : 2 ^ ((a' / b').log2 - 52 + 52) ≤ a' / b' := by
      have hn : a' / b' ≠ 0 := by intro h0; rw [h0, show Nat.log2 0 = 0 from rfl] at hl hp; omega
      have := Nat.log2_self_le hn
      rwa [show (a' / b').log2 - 52 + 52 = (a' / b').log2 by omega]
    have hpp : (a / b).log2 - 52 + 1 ≤ (a' / b').log2 - 52 := by omega
    generalize (a / b).log2 - 52 = p at *
    generalize (a' / b').log2 - 52 = p' at *
    rw [Nat.div_lt_iff_lt_mul hb] at hx
    rw [Nat.le_div_iff_mul_le hb'] at hy
    have u1 : rne a (b * 2 ^ p) ≤ 9007199254740992 := by
      refine rne_le (Nat.mul_pos hb (Nat.two_pow_pos p)) (Nat.le_of_lt (Nat.lt_of_lt_of_eq hx ?_))
      rw [Nat.pow_add, Nat.mul_comm (2 ^ p), Nat.mul_assoc, Nat.mul_comm (2 ^ p)]
    have u2 : 4503599627370496 ≤ rne a' (b' * 2 ^ p') := by
      refine le_rne (Nat.mul_pos hb' (Nat.two_pow_pos p')) (Nat.le_trans (Nat.le_of_eq ?_) hy)
      rw [Nat.pow_add, Nat.mul_comm (2 ^ p'), Nat.mul_assoc, Nat.mul_comm (2 ^ p')]
    have : (p + 1) * 4503599627370496 ≤ p' * 4503599627370496 := Nat.mul_le_mul_right _ hpp
    omega
theorem rnq_congr {a b a' b' : Nat} (hb : 0 < b) (hb' : 0 < b') (h : a * b' = a' * b) : rnq a b = rnq a' b' :=
  Nat.le_antisymm (rnq_mono hb hb' (Nat.le_of_eq h)) (rnq_mono hb' hb (Nat.le_of_eq h.symm))

theorem rnq_exact (r : Nat) {b : Nat} (hb : 0 < b) : rnq (units r * b) b = r := by
  rw [rnq_congr (a' := units r) (b' := 1) hb (by decide) (by omega)]
  unfold rnq
  rw [Nat.div_one, Nat.one_mul]
  unfold units
  by_cases h : r < 4503599627370496
  · rw [if_pos h]
    have : r.log2 - 52 = 0 := by
      by_cases h0 : r = 0
      · subst h0; rfl
      · have := (Nat.log2_lt h0 (k := 52)).2 (by rw [p52]; exact h); omega
    rw [this, Nat.zero_mul, Nat.zero_add, Nat.pow_zero]
    have := rne_exact r 1 (by decide)
    rwa [Nat.mul_one] at this
  · rw [if_neg h]
    have hl : ((4503599627370496 + r % 4503599627370496) * 2 ^ (r / 4503599627370496 - 1)).log2 = 52 + (r / 4503599627370496 - 1) := by
      have hp := Nat.two_pow_pos (r / 4503599627370496 - 1)
      generalize r / 4503599627370496 - 1 = p at *
      have hm : r % 4503599627370496 < 4503599627370496 := Nat.mod_lt _ (by decide)
      rw [Nat.log2_eq_iff (Nat.mul_ne_zero (by omega) (by omega))]
      constructor
      · rw [Nat.pow_add, p52]; exact Nat.mul_le_mul_right _ (by omega)
      · rw [show 52 + p + 1 = 53 + p by omega, Nat.pow_add]; exact Nat.mul_lt_mul_of_pos_right (by rw [show (2:Nat)^53 = 9007199254740992 by decide]; omega) hp
    rw [hl, show 52 + (r / 4503599627370496 - 1) - 52 = r / 4503599627370496 - 1 by omega, rne_exact _ _ (Nat.two_pow_pos _)]
    omega
theorem rnq_zero (b : Nat) : rnq 0 b = 0 := by
  unfold rnq rne; simp

theorem lg {a b L : Nat} (hb : 0 < b) (h1 : 2 ^ L * b ≤ a) (h2 : a < 2 ^ (L + 1) * b) (i j : Nat) : (a * 2 ^ i / (b * 2 ^ j)).log2 = L + i - j := by
  have hj := Nat.two_pow_pos j
  have hi := Nat.two_pow_pos i
  have k1 : 2 ^ (L + i) * b ≤ a * 2 ^ i := by
    rw [Nat.pow_add, Nat.mul_assoc, Nat.mul_comm (2 ^ i), ← Nat.mul_assoc]; exact Nat.mul_le_mul_right _ h1
  have k2 : a * 2 ^ i < 2 ^ (L + 1 + i) * b := by
    rw [Nat.pow_add _ (L + 1), Nat.mul_assoc, Nat.mul_comm (2 ^ i), ← Nat.mul_assoc]; exact Nat.mul_lt_mul_of_pos_right h2 hi
  by_cases h : j ≤ L + i
  · have m1 : 2 ^ (L + i - j) ≤ a * 2 ^ i / (b * 2 ^ j) := by
      rw [Nat.le_div_iff_mul_le (Nat.mul_pos hb hj), Nat.mul_comm b, ← Nat.mul_assoc, ← Nat.pow_add, show L + i - j + j = L + i by omega]; exact k1
    have m2 : a * 2 ^ i / (b * 2 ^ j) < 2 ^ (L + i - j + 1) := by
      rw [Nat.div_lt_iff_lt_mul (Nat.mul_pos hb hj), Nat.mul_comm b, ← Nat.mul_assoc, ← Nat.pow_add, show L + i - j + 1 + j = L + 1 + i by omega]; exact k2
    exact (Nat.log2_eq_iff (by have := Nat.two_pow_pos (L + i - j); omega)).2 ⟨m1, m2⟩
  · have : a * 2 ^ i / (b * 2 ^ j) = 0 := by
      refine Nat.div_eq_of_lt (Nat.lt_of_lt_of_le k2 ?_)
      rw [Nat.mul_comm b]; exact Nat.mul_le_mul_right _ (Nat.pow_le_pow_right (by decide) (by omega))
    rw [this, show Nat.log2 0 = 0 from rfl]; omega

theorem nearest_eq (neg : Bool) (mag : Nat) (place : Int) : Ieee.double.nearest neg mag place = Ieee.double.word neg (min (rnq (mag * 2 ^ (place + 1074).toNat) (2 ^ (-1074 - place).toNat)) 9218868437227405312) := by
  unfold Ieee.Format.nearest
  simp only [d_inf, d_bin, d_least, show Ieee.double.fractionBits = 52 from rfl]
  by_cases hm : mag = 0
  · rw [if_pos hm, hm, Nat.zero_mul, rnq_zero]; rfl
  · rw [if_neg hm]
    rw [cut_eq]
    have hl := lg (a := mag) (b := 1) (L := mag.log2) (by decide) (by have := Nat.log2_self_le hm; omega) (by have := @Nat.lt_log2_self mag; omega) (place + 1074).toNat (-1074 - place).toNat
    rw [Nat.one_mul] at hl
    refine congrArg (fun t => Ieee.double.word neg (min t 9218868437227405312)) ?_
    unfold rnq
    rw [hl]
    have e : (max (place + (mag.log2 : Int) - ((52 : Nat) : Int)) (-1074) - -1074).toNat = mag.log2 + (place + 1074).toNat - (-1074 - place).toNat - 52 := by omega
    rw [e]
    refine Nat.add_left_cancel_iff.2 ?_
    rw [Nat.shiftLeft_eq]
    refine rne_congr (Nat.two_pow_pos _) (Nat.mul_pos (Nat.two_pow_pos _) (Nat.two_pow_pos _)) ?_
    rw [← Nat.pow_add, Nat.mul_assoc, Nat.mul_assoc, ← Nat.pow_add, ← Nat.pow_add]
    congr 2
    omega
theorem sticky {D n : Nat} (hn : 0 < n) (hs : 18014398509481984 ≤ 2 * (D / n) + (D % n != 0).toNat) (i j : Nat) :
    rnq ((2 * (D / n) + (D % n != 0).toNat) * 2 ^ i) (2 ^ j) = rnq (2 * D * 2 ^ i) (n * 2 ^ j) := by
  have hD : n * (D / n) + D % n = D := Nat.div_add_mod D n
  have hr : D % n < n := Nat.mod_lt _ hn
  obtain ⟨st, est, h1⟩ : ∃ st, (D % n != 0).toNat = st ∧ ((st = 0 ∧ D % n = 0) ∨ (st = 1 ∧ 0 < D % n)) := by
    by_cases h : D % n = 0
    · exact ⟨0, by simp [h], .inl ⟨rfl, h⟩⟩
    · exact ⟨1, by simp [h], .inr ⟨rfl, by omega⟩⟩
  rw [est] at hs ⊢
  generalize D / n = f at *
  generalize D % n = r at *
  -- against even numbers the same
  have lt2 : ∀ c, 2 * c < 2 * f + st ↔ c * n < D := by
    intro c
    rcases Nat.lt_or_ge f c with h | h
    · have : n * (f + 1) ≤ n * c := Nat.mul_le_mul_left _ h
      rw [Nat.mul_comm c, Nat.mul_add] at *
      omega
    · rcases Nat.lt_or_eq_of_le h with h | h
      · have : n * (c + 1) ≤ n * f := Nat.mul_le_mul_left _ h
        rw [Nat.mul_comm c, Nat.mul_add] at *
        omega
      · subst h; rw [Nat.mul_comm c]; omega
  have eq2 : ∀ c, 2 * c = 2 * f + st ↔ c * n = D := by
    intro c
    rcases Nat.lt_or_ge f c with h | h
    · have : n * (f + 1) ≤ n * c := Nat.mul_le_mul_left _ h
      rw [Nat.mul_comm c, Nat.mul_add] at *
      omega
    · rcases Nat.lt_or_eq_of_le h with h | h
      · have : n * (c + 1) ≤ n * f := Nat.mul_le_mul_left _ h
        rw [Nat.mul_comm c, Nat.mul_add] at *
        omega
      · subst h; rw [Nat.mul_comm c]; omega
  generalize 2 * f + st = s at *
  have hs0 : s ≠ 0 := by omega
  have hL : 54 ≤ s.log2 := (Nat.le_log2 hs0).2 (by rw [show (2:Nat) ^ 54 = 18014398509481984 by decide]; exact hs)
  have l1 := Nat.log2_self_le hs0
  have l2 := @Nat.lt_log2_self s
  have g1 := lg (a := s) (b := 1) (L := s.log2) (by decide) (by omega) (by omega) i j
  have ev : ∀ k, 0 < k → 2 ^ k = 2 * 2 ^ (k - 1) := by
    intro k hk; rw [Nat.mul_comm, ← Nat.pow_succ]; congr 1; omega
  have g2 := lg (a := 2 * D) (b := n) (L := s.log2) hn
    (by
      rw [ev _ (by omega), Nat.mul_assoc]
      refine Nat.mul_le_mul_left _ (Nat.le_of_not_lt fun h => ?_)
      have e1 := lt2 (2 ^ (s.log2 - 1)); have e2 := eq2 (2 ^ (s.log2 - 1)); rw [← ev _ (by omega)] at e1 e2; omega)
    (by
      rw [ev _ (by omega), Nat.mul_assoc]
      refine Nat.mul_lt_mul_of_pos_left (Nat.lt_of_not_le fun h => ?_) (by decide)
      have e1 := lt2 (2 ^ (s.log2 + 1 - 1)); have e2 := eq2 (2 ^ (s.log2 + 1 - 1)); rw [← ev _ (by omega)] at e1 e2; omega) i j
  rw [Nat.one_mul] at g1
  unfold rnq
  rw [g1, g2]
  refine Nat.add_left_cancel_iff.2 ?_
  have hp : s.log2 + i - j - 52 + j = i + 2 + (s.log2 + i - j - 52 + j - i - 2) := by omega
  generalize s.log2 + i - j - 52 = p at *
  generalize p + j - i - 2 = h at *
  have k1 : 2 ^ j * 2 ^ p = 4 * 2 ^ h * 2 ^ i := by
    rw [← Nat.pow_add, Nat.add_comm j p, hp, Nat.pow_add, Nat.pow_add, Nat.mul_comm, Nat.mul_comm (2 ^ i), ← Nat.mul_assoc, Nat.mul_comm (2 ^ h)]
  have hi := Nat.two_pow_pos i
  have hh := Nat.two_pow_pos h
  rw [Nat.mul_assoc n, k1, ← Nat.mul_assoc n]
  rw [rne_congr (b := s) (h := 4 * 2 ^ h) (Nat.mul_pos (by omega) hi) (by omega) (by rw [Nat.mul_assoc, Nat.mul_comm (2 ^ i)]),
      rne_congr (b := 2 * D) (h := n * (4 * 2 ^ h)) (Nat.mul_pos (Nat.mul_pos hn (by omega)) hi) (Nat.mul_pos hn (by omega)) (by rw [Nat.mul_assoc, Nat.mul_comm (2 ^ i)])]
  generalize 2 ^ h = q at *
  refine eq_of_gt fun k => ?_
  rw [rne_gt (by omega), rne_gt (Nat.mul_pos hn (by omega))]
  have c1 : (2 * k + 1) * (4 * q) = 2 * (2 * ((2 * k + 1) * q)) := by rw [Nat.mul_left_comm]; omega
  have c2 : (2 * k + 1) * (n * (4 * q)) = 4 * (((2 * k + 1) * q) * n) := by
    rw [Nat.mul_left_comm n, Nat.mul_left_comm _ 4, Nat.mul_comm n, ← Nat.mul_assoc _ q]
  rw [c1, c2]
  have := lt2 ((2 * k + 1) * q); have := eq2 ((2 * k + 1) * q)
  generalize (2 * k + 1) * q = c at *
  generalize c * n = cn at *
  omega

theorem num_zero {x m k : Nat} (hu : m * 2 ^ k = units (rg x)) : m = 0 ↔ rg x = 0 := by
  have hp := Nat.two_pow_pos k
  rw [← @units_inj (rg x) 0, units_zero, ← hu]
  constructor
  · intro h; rw [h, Nat.zero_mul]
  · intro h; rcases Nat.mul_eq_zero.1 h with h | h
    · exact h
    · omega

/-- The units of 1. -/
@[irreducible] def lp : Nat := 1074
theorem lp_eq : lp = 1074 := by unfold lp; rfl
def up : Nat := 2 ^ lp
theorem up_eq : 2 ^ lp = up := rfl
theorem up_pos : 0 < up := Nat.two_pow_pos lp

/-- The quotient of two finite words. -/
theorem div_fin {x y : Nat} (hx : rg x < 9218868437227405312) (hy : rg y < 9218868437227405312) (h0 : rg y ≠ 0) :
    Ieee.double.div x y = some (Ieee.double.word (sg x ^^ sg y) (min (rnq (units (rg x) * up) (units (rg y))) 9218868437227405312)) := by
  obtain ⟨m, k, e, hu, -⟩ := read_num hx
  obtain ⟨n, l, e', hv, -⟩ := read_num hy
  have hm0 := num_zero hu
  have hn0 : n ≠ 0 := fun h => h0 ((num_zero hv).1 h)
  unfold Ieee.Format.div
  rw [e, e', show Ieee.double.fractionBits = 52 from rfl]
  unfold Ieee.Datum.quotient
  simp only [if_neg hn0, Option.map_some]
  refine congrArg some ?_
  rw [Nat.shiftLeft_eq]
  show Ieee.double.nearest _ _ _ = _
  rw [nearest_eq]
  refine congrArg (fun t => Ieee.double.word (sg x ^^ sg y) (min t 9218868437227405312)) ?_
  by_cases hm : m = 0
  · have : units (rg x) = 0 := by rw [hm0.1 hm]; rfl
    rw [this, hm]
    simp [rnq_zero]
  · generalize hmore : 52 + 2 + n.log2 - m.log2 = more
    have big : 18014398509481984 ≤ 2 * (m * 2 ^ more / n) + (m * 2 ^ more % n != 0).toNat := by
      have a1 : 2 ^ m.log2 ≤ m := Nat.log2_self_le hm
      have a2 : n < 2 ^ (n.log2 + 1) := Nat.lt_log2_self
      have a3 : 2 ^ 53 ≤ m * 2 ^ more / n := by
        rw [Nat.le_div_iff_mul_le (by omega)]
        calc 2 ^ 53 * n ≤ 2 ^ 53 * 2 ^ (n.log2 + 1) := Nat.mul_le_mul_left _ (by omega)
          _ = 2 ^ (53 + (n.log2 + 1)) := (Nat.pow_add ..).symm
          _ ≤ 2 ^ (m.log2 + more) := Nat.pow_le_pow_right (by decide) (by omega)
          _ = 2 ^ m.log2 * 2 ^ more := Nat.pow_add ..
          _ ≤ _ := Nat.mul_le_mul_right _ a1
      rw [show (2 : Nat) ^ 53 = 9007199254740992 by decide] at a3
      generalize m * 2 ^ more / n = z at *
      generalize (m * 2 ^ more % n != 0).toNat = y at *
      omega
    rw [sticky (by omega) big]
    refine rnq_congr (Nat.mul_pos (by omega) (Nat.two_pow_pos _)) ?_ ?_
    · rw [← hv]; exact Nat.mul_pos (by omega) (Nat.two_pow_pos _)
    · rw [← hu, ← hv]
      generalize hI : (-1074 + (k : Int) - (-1074 + (l : Int)) - (more : Int) - 1 + 1074).toNat = I
      generalize hJ : (-1074 - (-1074 + (k : Int) - (-1074 + (l : Int)) - (more : Int) - 1)).toNat = J
      have hIJ : more + I + l + 1 = k + lp + J := by rw [lp_eq]; omega
      have : 2 * (m * 2 ^ more) * 2 ^ I * (n * 2 ^ l) = m * n * 2 ^ (more + I + l + 1) := by
        rw [Nat.pow_add, Nat.pow_add, Nat.pow_add, Nat.pow_one]; simp only [Nat.mul_assoc, Nat.mul_comm, Nat.mul_left_comm]
      rw [this, hIJ, Nat.pow_add, Nat.pow_add, up_eq]; simp only [Nat.mul_assoc, Nat.mul_comm, Nat.mul_left_comm]

theorem word_rg (s : Bool) {r : Nat} (h : r < 9223372036854775808) : rg (Ieee.double.word s r) = r ∧ sg (Ieee.double.word s r) = s := by
  unfold Ieee.Format.word rg sg
  rw [d_sign]
  cases s <;> simp <;> omega

/-- 'float64(n)' of a whole number that isn't below 0. -/
def fnat (n : Nat) : Nat := min (rnq (n * up) 1) 9218868437227405312
theorem nearest_nat (n : Nat) : Ieee.double.nearest false n 0 = fnat n := by
  rw [nearest_eq, show ((0 : Int) + 1074).toNat = lp by rw [lp_eq]; rfl, show (-1074 - (0 : Int)).toNat = 0 from rfl, up_eq, Nat.pow_zero]; unfold Ieee.Format.word fnat; rw [if_neg (by decide)]
theorem rg_of_lt {r : Nat} (h : r < 9223372036854775808) : rg r = r ∧ sg r = false := by
  have := word_rg false h; exact this
theorem fnat_mono {a b : Nat} (h : a ≤ b) : fnat a ≤ fnat b := by
  unfold fnat
  have := rnq_mono (a := a * up) (b := 1) (a' := b * up) (b' := 1) (by decide) (by decide) (by rw [Nat.mul_one, Nat.mul_one]; exact Nat.mul_le_mul_right _ h)
  omega

theorem units_one : units 4607182418800017408 = up := by
  unfold units up
  rw [if_neg (by decide), show (4607182418800017408 : Nat) / 4503599627370496 - 1 = lp - 52 by rw [lp_eq], show (4503599627370496 : Nat) + 4607182418800017408 % 4503599627370496 = 2 ^ 52 by decide, ← Nat.pow_add, show 52 + (lp - 52) = lp by rw [lp_eq]]
theorem units_two64 : units 4895412794951729152 = 18446744073709551616 * up := by
  unfold units up
  rw [if_neg (by decide), show (4895412794951729152 : Nat) / 4503599627370496 - 1 = lp + 64 - 52 by rw [lp_eq], show (4503599627370496 : Nat) + 4895412794951729152 % 4503599627370496 = 2 ^ 52 by decide, show (18446744073709551616 : Nat) = 2 ^ 64 by decide, ← Nat.pow_add, ← Nat.pow_add, show 52 + (lp + 64 - 52) = 64 + lp by rw [lp_eq]]
theorem fnat_zero : fnat 0 = 0 := by unfold fnat; rw [Nat.zero_mul, rnq_zero]; decide
theorem fnat_one : fnat 1 = 4607182418800017408 := by
  unfold fnat
  have := rnq_exact 4607182418800017408 (b := 1) (by decide)
  rw [units_one, Nat.mul_one] at this
  rw [Nat.one_mul, this]; decide
theorem fnat_two64 : fnat 18446744073709551616 = 4895412794951729152 := by
  unfold fnat
  have := rnq_exact 4895412794951729152 (b := 1) (by decide)
  rw [units_two64, Nat.mul_one] at this
  rw [this]; decide
theorem fnat_fin {n : Nat} (h : n ≤ 18446744073709551616) : fnat n ≤ 4895412794951729152 := by
  have := fnat_mono h; rwa [fnat_two64] at this
theorem fnat_pos {n : Nat} (h : 0 < n) : 4607182418800017408 ≤ fnat n := by
  have := fnat_mono (Nat.succ_le_of_lt h); rwa [Nat.succ_eq_add_one, Nat.zero_add, fnat_one] at this
theorem fnat_rg {n : Nat} (h : n ≤ 18446744073709551616) : rg (fnat n) = fnat n ∧ sg (fnat n) = false := by
  have := fnat_fin h; exact rg_of_lt (by omega)
theorem fnat_big (n : Nat) : fnat n ≤ 9218868437227405312 := Nat.min_le_right ..

/-- The quotient of two words that aren't below 0: finite ones, the second one no zero. -/
def fdiv (x y : Nat) : Nat := min (rnq (units x * up) (units y)) 9218868437227405312
theorem fdiv_le (x y : Nat) : fdiv x y ≤ 9218868437227405312 := Nat.min_le_right ..
theorem units_pos {r : Nat} (h : r ≠ 0) : 0 < units r := by
  have := @units_lt_iff 0 r; rw [units_zero] at this; omega
theorem fdiv_mono {x x' y y' : Nat} (hy : y ≠ 0) (hy' : y' ≠ 0) (h : x ≤ x') (h' : y' ≤ y) : fdiv x y ≤ fdiv x' y' := by
  unfold fdiv
  have u := units_pos hy; have v := units_pos hy'
  have le : ∀ {a b}, a ≤ b → units a ≤ units b := fun {a b} h => by
    rcases Nat.lt_or_eq_of_le h with h | h
    · exact Nat.le_of_lt (units_lt h)
    · rw [h]; exact Nat.le_refl _
  have := rnq_mono (a := units x * up) (b := units y) (a' := units x' * up) (b' := units y') u v (Nat.mul_le_mul (Nat.mul_le_mul_right _ (le h)) (le h'))
  omega
theorem fdiv_self {x y : Nat} (hy : y ≠ 0) (h : x ≤ y) : fdiv x y ≤ 4607182418800017408 := by
  refine Nat.le_trans (fdiv_mono hy hy h (Nat.le_refl _)) ?_
  unfold fdiv
  rw [rnq_congr (a' := up * 1) (b' := 1) (units_pos hy) (by decide) (by rw [Nat.mul_one, Nat.mul_one, Nat.mul_comm]), ← units_one, rnq_exact _ (by decide)]
  exact Nat.min_le_left ..
theorem div_nonneg {x y : Nat} (hx : x < 9218868437227405312) (hy : y < 9218868437227405312) (h0 : y ≠ 0) : Ieee.double.div x y = some (fdiv x y) := by
  obtain ⟨a, b⟩ := @rg_of_lt x (by omega)
  obtain ⟨c, d⟩ := @rg_of_lt y (by omega)
  have := @div_fin x y (by omega) (by omega) (by omega)
  rw [this, a, b, c, d]
  unfold fdiv Ieee.Format.word
  rw [if_neg (by decide)]
end Go.Proofs.Ytlakjninlpiedaa.Fl
