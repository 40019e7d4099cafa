/- EdgeKeys, EdgeOrders, EdgeRatios, walked. -/
import Derived.Test.YtlakjninlpiedaaHEdge3
set_option linter.unusedVariables false
set_option linter.unusedSimpArgs false
namespace Go.Proofs.Ytlakjninlpiedaa.Fw
open Go Go.RowKit Go.Proofs.YtlakjninlpiedaaW.PrintWords Go.Proofs.YtlakjninlpiedaaW.PrintLast Go.Proofs.YtlakjninlpiedaaW.PrintMore Go.Proofs.Ytlakjninlpiedaa.Fl
set_option maxHeartbeats 4000000
set_option maxRecDepth 100000
attribute [local go_sem] run_f64bits run_frombits

theorem nan_quiet : nan 9221120237041090560 := by decide
theorem bits_bits (x : Nat) : bitsv (bitsv x) = bitsv x := by
  unfold bitsv
  by_cases h : nan x
  · rw [if_pos h, if_pos nan_quiet]
  · rw [if_neg h, if_neg h]
theorem of_key {x : Nat} (hx : x < 18446744073709551616) : ofv (keyv x) = bitsv x := by
  have hb := bitsv_lt hx
  have key : ∀ n : Nat, n < 18446744073709551616 → (if 9223372036854775808 ≤ (if 9223372036854775808 ≤ n then 18446744073709551615 - n else n + 9223372036854775808) then (if 9223372036854775808 ≤ n then 18446744073709551615 - n else n + 9223372036854775808) - 9223372036854775808 else 18446744073709551615 - (if 9223372036854775808 ≤ n then 18446744073709551615 - n else n + 9223372036854775808)) = n := by
    intro n hn
    by_cases h : 9223372036854775808 ≤ n
    · rw [if_pos h, if_neg (by omega)]; omega
    · rw [if_neg h, if_pos (by omega)]; omega
  unfold ofv keyv
  rw [key _ hb, bits_bits]

theorem key_of {k : Nat} (hk : k < 18446744073709551616) : keyv (ofv k) = k ∨ nan (ofv k) := by
  unfold ofv
  generalize hb : (if 9223372036854775808 ≤ k then k - 9223372036854775808 else 18446744073709551615 - k) = b
  by_cases h : nan b
  · right; unfold bitsv; rw [if_pos h]; exact nan_quiet
  · left
    have : bitsv b = b := if_neg h
    rw [this]
    unfold keyv
    rw [this]
    split at hb
    · rw [if_neg (by omega)]; omega
    · rw [if_pos (by omega)]; omega

theorem ofv_lt (k : Nat) (hk : k < 18446744073709551616) : ofv k < 18446744073709551616 := by
  unfold ofv; exact bitsv_lt (by split <;> omega)

theorem edgeKeys_call (x k : Nat) (hx : x < 18446744073709551616) (hk : k < 18446744073709551616) : Tells 8 #[.float .f64 x, .int .u64 k] (.bool true) := by
  intro w
  have c1 := edge_Key x hx
  have c2 := edge_Of (keyv x) (keyv_lt hx)
  have c3 := law_same (ofv (keyv x)) x
  rw [of_key hx, bits_bits, decide_eq_true rfl] at c3
  rw [of_key hx] at c2
  have d1 := edge_Of k hk
  have d2 := edge_Key (ofv k) (ofv_lt k hk)
  have d3 := math_IsNaN (ofv k)
  have hor := key_of hk
  generalize keyv x = kx at *
  generalize bitsv x = bx at *
  generalize ofv k = y at *
  by_cases h : keyv y = k
  · have h1 : (((keyv y : Nat) : Int) == (k : Int)) = true := by rw [h]; exact beq_self_eq_true _
    generalize keyv y = ky at *
    clear h hor hx hk
    go_enter Try.func8, Try.ntmps8
    go_wp2_with (fail)
    refine (law_lives _).mono ?_
    intro ef_ wf_ hf_
    obtain ⟨h1f_, h2f_⟩ := hf_
    subst h1f_
    subst h2f_
    go_wp2_with (fail)
    refine (c1 _).mono ?_
    intro ef_ wf_ hf_
    obtain ⟨h1f_, h2f_⟩ := hf_
    subst h1f_
    subst h2f_
    go_wp2_with (fail)
    refine (c2 _).mono ?_
    intro ef_ wf_ hf_
    obtain ⟨h1f_, h2f_⟩ := hf_
    subst h1f_
    subst h2f_
    go_wp2_with (fail)
    refine (c3 _).mono ?_
    intro ef_ wf_ hf_
    obtain ⟨h1f_, h2f_⟩ := hf_
    subst h1f_
    subst h2f_
    go_wp2_with (fail)
    refine (d1 _).mono ?_
    intro ef_ wf_ hf_
    obtain ⟨h1f_, h2f_⟩ := hf_
    subst h1f_
    subst h2f_
    go_wp2_with (fail)
    refine (d2 _).mono ?_
    intro ef_ wf_ hf_
    obtain ⟨h1f_, h2f_⟩ := hf_
    subst h1f_
    subst h2f_
    go_wp2_with (fail)
    go_ret
    exact ⟨rfl, rfl⟩
  · have h1 : (((keyv y : Nat) : Int) == (k : Int)) = false := beq_false_of_ne (by omega)
    have h2 : nan y := hor.resolve_left h
    rw [decide_eq_true h2] at d3
    generalize keyv y = ky at *
    clear h hor hx hk h2
    go_enter Try.func8, Try.ntmps8
    go_wp2_with (fail)
    refine (law_lives _).mono ?_
    intro ef_ wf_ hf_
    obtain ⟨h1f_, h2f_⟩ := hf_
    subst h1f_
    subst h2f_
    go_wp2_with (fail)
    refine (c1 _).mono ?_
    intro ef_ wf_ hf_
    obtain ⟨h1f_, h2f_⟩ := hf_
    subst h1f_
    subst h2f_
    go_wp2_with (fail)
    refine (c2 _).mono ?_
    intro ef_ wf_ hf_
    obtain ⟨h1f_, h2f_⟩ := hf_
    subst h1f_
    subst h2f_
    go_wp2_with (fail)
    refine (c3 _).mono ?_
    intro ef_ wf_ hf_
    obtain ⟨h1f_, h2f_⟩ := hf_
    subst h1f_
    subst h2f_
    go_wp2_with (fail)
    refine (d1 _).mono ?_
    intro ef_ wf_ hf_
    obtain ⟨h1f_, h2f_⟩ := hf_
    subst h1f_
    subst h2f_
    go_wp2_with (fail)
    refine (d2 _).mono ?_
    intro ef_ wf_ hf_
    obtain ⟨h1f_, h2f_⟩ := hf_
    subst h1f_
    subst h2f_
    go_wp2_with (fail)
    refine (d3 _).mono ?_
    intro ef_ wf_ hf_
    obtain ⟨h1f_, h2f_⟩ := hf_
    subst h1f_
    subst h2f_
    go_wp2_with (fail)
    go_ret
    exact ⟨rfl, rfl⟩

/-- What EdgeOrders asks of the first two. -/
theorem order_facts (x y : Nat) : ∃ (c d : Int) (b : Bool), cmpi x y = c ∧ cmpi y x = d ∧ IntKind.i64.wrap (-c) = d ∧ (decide (x = y) = b) ∧ ((c == 0) = b) ∧ (decide ((x : Int) < (y : Int)) = decide (c < 0)) ∧ (((x : Int) == (y : Int)) = b) := by
  refine ⟨cmpi x y, cmpi y x, decide (x = y), rfl, rfl, ?_, rfl, ?_, ?_, ?_⟩
  · unfold cmpi
    rcases Nat.lt_trichotomy x y with h | h | h
    · rw [if_pos h, if_neg (by omega), if_pos h]; decide
    · rw [if_neg (by omega), if_neg (by omega), if_neg (by omega), if_neg (by omega)]; decide
    · rw [if_neg (by omega), if_pos h, if_pos h]; decide
  · unfold cmpi
    rcases Nat.lt_trichotomy x y with h | h | h
    · rw [if_pos h, decide_eq_false (by omega)]; decide
    · rw [if_neg (by omega), if_neg (by omega), decide_eq_true h]; decide
    · rw [if_neg (by omega), if_pos h, decide_eq_false (by omega)]; decide
  · unfold cmpi
    rcases Nat.lt_trichotomy x y with h | h | h
    · rw [if_pos h, decide_eq_true (by omega)]; decide
    · rw [if_neg (by omega), if_neg (by omega), decide_eq_false (by omega)]; decide
    · rw [if_neg (by omega), if_pos h, decide_eq_false (by omega)]; decide
  · rw [show ((x : Int) == (y : Int)) = decide ((x : Int) = (y : Int)) from rfl]; exact decide_eq_decide.2 (by omega)
theorem trans_facts (x y z : Nat) : (decide (0 < cmpi x y) = true) ∨ (decide (0 < cmpi x y) = false ∧ decide (0 < cmpi y z) = true) ∨ (decide (0 < cmpi x y) = false ∧ decide (0 < cmpi y z) = false ∧ decide (cmpi x z ≤ 0) = true) := by
  by_cases h : 0 < cmpi x y
  · exact .inl (decide_eq_true h)
  by_cases h' : 0 < cmpi y z
  · exact .inr (.inl ⟨decide_eq_false h, decide_eq_true h'⟩)
  · refine .inr (.inr ⟨decide_eq_false h, decide_eq_false h', decide_eq_true ?_⟩)
    unfold cmpi at *
    split at h <;> split at h' <;> (try split at h) <;> (try split at h') <;> (split <;> (try split) <;> omega)

theorem edgeOrders_call (a b c : Nat) (ha : a < 18446744073709551616) (hb : b < 18446744073709551616) (hc : c < 18446744073709551616) : Tells 7 #[.float .f64 a, .float .f64 b, .float .f64 c] (.bool true) := by
  intro w
  have c1 := ref_Compare a b ha hb
  have c2 := edge_Key a ha
  have c3 := edge_Key b hb
  have c4 := edge_Compare a b ha hb
  have c5 := edge_Compare b a hb ha
  have c6 := edge_Same a b ha hb
  have c7 := ref_Key a ha
  have c8 := edge_Compare b c hb hc
  have c9 := edge_Compare a c ha hc
  have ht := trans_facts (keyv a) (keyv b) (keyv c)
  obtain ⟨p, q, s, e1, e2, e3, e4, e5, e6, e7⟩ := order_facts (keyv a) (keyv b)
  rw [e1] at c1 c4 ht
  rw [e2] at c5
  rw [e4] at c6
  generalize cmpi (keyv b) (keyv c) = bc at *
  generalize cmpi (keyv a) (keyv c) = ac at *
  generalize keyv a = ka at *
  generalize keyv b = kb at *
  clear e1 e2 e4 ha hb hc
  have e8 : ka < kb ↔ p < 0 := by
    have := decide_eq_decide.1 e6
    omega
  clear e6
  rcases ht with ht | ⟨h1, h2⟩ | ⟨h1, h2, h3⟩
  · go_enter Try.func7, Try.ntmps7
    go_wp2_with (fail)
    refine (law_lives _).mono ?_
    intro ef_ wf_ hf_
    obtain ⟨h1f_, h2f_⟩ := hf_
    subst h1f_
    subst h2f_
    go_wp2_with (fail)
    refine (c1 _).mono ?_
    intro ef_ wf_ hf_
    obtain ⟨h1f_, h2f_⟩ := hf_
    subst h1f_
    subst h2f_
    go_wp2_with (fail)
    refine (c2 _).mono ?_
    intro ef_ wf_ hf_
    obtain ⟨h1f_, h2f_⟩ := hf_
    subst h1f_
    subst h2f_
    go_wp2_with (fail)
    refine (c3 _).mono ?_
    intro ef_ wf_ hf_
    obtain ⟨h1f_, h2f_⟩ := hf_
    subst h1f_
    subst h2f_
    go_wp2_with (fail)
    refine (c4 _).mono ?_
    intro ef_ wf_ hf_
    obtain ⟨h1f_, h2f_⟩ := hf_
    subst h1f_
    subst h2f_
    go_wp2_with (fail)
    refine (c5 _).mono ?_
    intro ef_ wf_ hf_
    obtain ⟨h1f_, h2f_⟩ := hf_
    subst h1f_
    subst h2f_
    go_wp2_with (fail)
    refine (c6 _).mono ?_
    intro ef_ wf_ hf_
    obtain ⟨h1f_, h2f_⟩ := hf_
    subst h1f_
    subst h2f_
    go_wp2_with (fail)
    refine (c7 _).mono ?_
    intro ef_ wf_ hf_
    obtain ⟨h1f_, h2f_⟩ := hf_
    subst h1f_
    subst h2f_
    go_wp2_with (fail)
    all_goals first | (rename_i hx; exact absurd e8 hx) | skip
    refine (c4 _).mono ?_
    intro ef_ wf_ hf_
    obtain ⟨h1f_, h2f_⟩ := hf_
    subst h1f_
    subst h2f_
    go_wp2_with (fail)
    go_ret
    exact ⟨rfl, rfl⟩
  · go_enter Try.func7, Try.ntmps7
    go_wp2_with (fail)
    refine (law_lives _).mono ?_
    intro ef_ wf_ hf_
    obtain ⟨h1f_, h2f_⟩ := hf_
    subst h1f_
    subst h2f_
    go_wp2_with (fail)
    refine (c1 _).mono ?_
    intro ef_ wf_ hf_
    obtain ⟨h1f_, h2f_⟩ := hf_
    subst h1f_
    subst h2f_
    go_wp2_with (fail)
    refine (c2 _).mono ?_
    intro ef_ wf_ hf_
    obtain ⟨h1f_, h2f_⟩ := hf_
    subst h1f_
    subst h2f_
    go_wp2_with (fail)
    refine (c3 _).mono ?_
    intro ef_ wf_ hf_
    obtain ⟨h1f_, h2f_⟩ := hf_
    subst h1f_
    subst h2f_
    go_wp2_with (fail)
    refine (c4 _).mono ?_
    intro ef_ wf_ hf_
    obtain ⟨h1f_, h2f_⟩ := hf_
    subst h1f_
    subst h2f_
    go_wp2_with (fail)
    refine (c5 _).mono ?_
    intro ef_ wf_ hf_
    obtain ⟨h1f_, h2f_⟩ := hf_
    subst h1f_
    subst h2f_
    go_wp2_with (fail)
    refine (c6 _).mono ?_
    intro ef_ wf_ hf_
    obtain ⟨h1f_, h2f_⟩ := hf_
    subst h1f_
    subst h2f_
    go_wp2_with (fail)
    refine (c7 _).mono ?_
    intro ef_ wf_ hf_
    obtain ⟨h1f_, h2f_⟩ := hf_
    subst h1f_
    subst h2f_
    go_wp2_with (fail)
    all_goals first | (rename_i hx; exact absurd e8 hx) | skip
    refine (c4 _).mono ?_
    intro ef_ wf_ hf_
    obtain ⟨h1f_, h2f_⟩ := hf_
    subst h1f_
    subst h2f_
    go_wp2_with (fail)
    refine (c8 _).mono ?_
    intro ef_ wf_ hf_
    obtain ⟨h1f_, h2f_⟩ := hf_
    subst h1f_
    subst h2f_
    go_wp2_with (fail)
    go_ret
    exact ⟨rfl, rfl⟩
  · go_enter Try.func7, Try.ntmps7
    go_wp2_with (fail)
    refine (law_lives _).mono ?_
    intro ef_ wf_ hf_
    obtain ⟨h1f_, h2f_⟩ := hf_
    subst h1f_
    subst h2f_
    go_wp2_with (fail)
    refine (c1 _).mono ?_
    intro ef_ wf_ hf_
    obtain ⟨h1f_, h2f_⟩ := hf_
    subst h1f_
    subst h2f_
    go_wp2_with (fail)
    refine (c2 _).mono ?_
    intro ef_ wf_ hf_
    obtain ⟨h1f_, h2f_⟩ := hf_
    subst h1f_
    subst h2f_
    go_wp2_with (fail)
    refine (c3 _).mono ?_
    intro ef_ wf_ hf_
    obtain ⟨h1f_, h2f_⟩ := hf_
    subst h1f_
    subst h2f_
    go_wp2_with (fail)
    refine (c4 _).mono ?_
    intro ef_ wf_ hf_
    obtain ⟨h1f_, h2f_⟩ := hf_
    subst h1f_
    subst h2f_
    go_wp2_with (fail)
    refine (c5 _).mono ?_
    intro ef_ wf_ hf_
    obtain ⟨h1f_, h2f_⟩ := hf_
    subst h1f_
    subst h2f_
    go_wp2_with (fail)
    refine (c6 _).mono ?_
    intro ef_ wf_ hf_
    obtain ⟨h1f_, h2f_⟩ := hf_
    subst h1f_
    subst h2f_
    go_wp2_with (fail)
    refine (c7 _).mono ?_
    intro ef_ wf_ hf_
    obtain ⟨h1f_, h2f_⟩ := hf_
    subst h1f_
    subst h2f_
    go_wp2_with (fail)
    all_goals first | (rename_i hx; exact absurd e8 hx) | skip
    refine (c4 _).mono ?_
    intro ef_ wf_ hf_
    obtain ⟨h1f_, h2f_⟩ := hf_
    subst h1f_
    subst h2f_
    go_wp2_with (fail)
    refine (c8 _).mono ?_
    intro ef_ wf_ hf_
    obtain ⟨h1f_, h2f_⟩ := hf_
    subst h1f_
    subst h2f_
    go_wp2_with (fail)
    refine (c9 _).mono ?_
    intro ef_ wf_ hf_
    obtain ⟨h1f_, h2f_⟩ := hf_
    subst h1f_
    subst h2f_
    go_wp2_with (fail)
    go_ret
    exact ⟨rfl, rfl⟩

theorem le_f (x y : Nat) (hx : x ≤ 9218868437227405312) (hy : y ≤ 9218868437227405312) : (FloatKind.f64.format.order x y == some .lt || FloatKind.f64.format.order x y == some .eq) = decide (x ≤ y) := by
  rw [f64_le, rv_pos (x := x) (by omega), rv_pos (x := y) (by omega)]
  exact decide_eq_decide.2 ⟨fun ⟨_, _, h⟩ => by omega, fun h => ⟨nan_pos hx, nan_pos hy, by omega⟩⟩
theorem ge0 (x : Nat) (hx : x ≤ 9218868437227405312) : (FloatKind.f64.format.order x 0 == some .gt || FloatKind.f64.format.order x 0 == some .eq) = true := by
  rw [f64_ge, rv_pos (x := x) (by omega)]
  exact decide_eq_true ⟨nan_pos hx, by decide, by have : rv 0 = 0 := by decide
                                                  omega⟩

theorem edgeRatios_call (p o a : Nat) (hp : p < 18446744073709551616) (ho : o < 18446744073709551616) (ha : a < 18446744073709551616) : Tells 6 #[.int .u64 p, .int .u64 o, .int .u64 a] (.bool true) := by
  intro w
  have c1 := edge_Ratio p a hp ha
  have c2 := edge_Ratio o a ho ha
  have g0 := ge0 _ (ratiov_le p a)
  have l1 := le_f (ratiov p a) 4607182418800017408 (ratiov_le p a) (by decide)
  have l2 := le_f (ratiov p a) (ratiov o a) (ratiov_le p a) (ratiov_le o a)
  have k1 : (¬ p ≤ a ∧ decide (a < p) = true) ∨ ((p ≤ a ∧ decide (a < p) = false) ∧ decide (ratiov p a ≤ 4607182418800017408) = true) := by
    by_cases h : p ≤ a
    · exact .inr ⟨⟨h, decide_eq_false (by omega)⟩, decide_eq_true (ratiov_one h)⟩
    · exact .inl ⟨h, decide_eq_true (by omega)⟩
  have k2 : (¬ p ≤ o ∧ decide (o < p) = true) ∨ ((p ≤ o ∧ decide (o < p) = false) ∧ decide (ratiov p a ≤ ratiov o a) = true) := by
    by_cases h : p ≤ o
    · exact .inr ⟨⟨h, decide_eq_false (by omega)⟩, decide_eq_true (ratiov_mono h)⟩
    · exact .inl ⟨h, decide_eq_true (by omega)⟩
  rw [← l1] at k1
  rw [← l2] at k2
  clear l1 l2 hp ho ha
  generalize ratiov p a = x at *
  generalize ratiov o a = y at *
  rcases k1 with ⟨k1, k1'⟩ | ⟨⟨k1, k1''⟩, k1'⟩ <;> rcases k2 with ⟨k2, k2'⟩ | ⟨⟨k2, k2''⟩, k2'⟩
  all_goals
    go_enter Try.func6, Try.ntmps6
    go_wp2_with (fail)
    refine (law_lives _).mono ?_
    intro ef_ wf_ hf_
    obtain ⟨h1f_, h2f_⟩ := hf_
    subst h1f_
    subst h2f_
    go_wp2_with (fail)
    refine (c1 _).mono ?_
    intro ef_ wf_ hf_
    obtain ⟨h1f_, h2f_⟩ := hf_
    subst h1f_
    subst h2f_
    go_wp2_with (fail)
    refine (c2 _).mono ?_
    intro ef_ wf_ hf_
    obtain ⟨h1f_, h2f_⟩ := hf_
    subst h1f_
    subst h2f_
    go_wp2_with (fail)
    go_ret
    exact ⟨rfl, rfl⟩
end Go.Proofs.Ytlakjninlpiedaa.Fw
