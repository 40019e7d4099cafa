/- score: the chapter's example, Decay; ScoreDecays, walked. -/
import Derived.Test.YtlakjninlpiedaaHEdge3
import Derived.Test.YtlakjninlpiedaaHSep
set_option linter.unusedVariables false
set_option linter.unusedSimpArgs false
namespace Go.Proofs.Ytlakjninlpiedaa.Fw
open Go Go.RowKit Go.Proofs.YtlakjninlpiedaaW.PrintWords Go.Proofs.YtlakjninlpiedaaW.PrintLast Go.Proofs.YtlakjninlpiedaaW.PrintMore Go.Proofs.Ytlakjninlpiedaa.Fl Go.Proofs.Ytlakjninlpiedaa.Sep
set_option maxHeartbeats 4000000
set_option maxRecDepth 100000
attribute [local go_sem] run_f64bits run_frombits max2_int min2_int

theorem conv2 : floatOfInt .f64 2 = 4611686018427387904 := by kernel_rfl
theorem conv3 : floatOfInt .f64 3 = 4613937818241073152 := by kernel_rfl
theorem score_more1 : Tells 98 #[.int .u64 1] (.float .f64 4611686018427387904) := by
  intro w
  have h := conv2
  go_enter Try.func98, Try.ntmps98
  go_wp2_with (fail)
  go_ret
  exact ⟨rfl, rfl⟩
theorem score_more2 : Tells 98 #[.int .u64 2] (.float .f64 4613937818241073152) := by
  intro w
  have h := conv3
  go_enter Try.func98, Try.ntmps98
  go_wp2_with (fail)
  go_ret
  exact ⟨rfl, rfl⟩
theorem mul_6_2 (W : World) : (binOp .mul 38 (.float .f64 4618441417868443648) (.float .f64 4611686018427387904)).run Try.prog W = .ok (.float .f64 4622945017495814144) W := run_float_arith W .mul _ .f64 _ _ _ (by kernel_rfl)
theorem div_12_3 (W : World) : (binOp .quo 38 (.float .f64 4622945017495814144) (.float .f64 4613937818241073152)).run Try.prog W = .ok (.float .f64 4616189618054758400) W := run_float_arith W .quo _ .f64 _ _ _ (by kernel_rfl)
theorem div_4_2 (W : World) : (binOp .quo 38 (.float .f64 4616189618054758400) (.float .f64 4611686018427387904)).run Try.prog W = .ok (.float .f64 4611686018427387904) W := run_float_arith W .quo _ .f64 _ _ _ (by kernel_rfl)

theorem score_ex (w : World) : Calls Try.prog 67 #[.agg #[.string ByteArray.empty, .float .f64 4618441417868443648, .int .u32 1, .int .u64 2, .int .u64 1]] w fun e w' => e = .returned (.float .f64 4611686018427387904) ∧ Below w.heap.size w w' := by
  have hu := Try.underlying93
  have hm := mul_6_2
  have hd1 := div_12_3
  have hd2 := div_4_2
  have hS := Aside0.mk ((Sep.start w).alloc #[.string ByteArray.empty, .float .f64 4618441417868443648, .int .u32 1, .int .u64 2, .int .u64 1] 93)
  go_enter Try.func67, Try.ntmps67
  go_wp2_with (fail)
  have hS1 := hS.out
  generalize w.alloc (.cells #[.string ByteArray.empty, .float .f64 4618441417868443648, .int .u32 1, .int .u64 2, .int .u64 1] 93 (0, 0)) = w1 at hS1 ⊢
  generalize hg : w.heap.size = g at hS1 ⊢
  clear hS
  have hS := Aside0.mk hS1.drew
  clear hS1
  have hc_0 : w1.drew.cell? ⟨g, 0, none⟩ = some (.string ByteArray.empty) := ((hS.out).cell 0).trans rfl; have hc_1 : w1.drew.cell? ⟨g, 1, none⟩ = some (.float .f64 4618441417868443648) := ((hS.out).cell 1).trans rfl; have hc_2 : w1.drew.cell? ⟨g, 2, none⟩ = some (.int .u32 1) := ((hS.out).cell 2).trans rfl; have hc_3 : w1.drew.cell? ⟨g, 3, none⟩ = some (.int .u64 2) := ((hS.out).cell 3).trans rfl; have hc_4 : w1.drew.cell? ⟨g, 4, none⟩ = some (.int .u64 1) := ((hS.out).cell 4).trans rfl
  have hw32 : IntKind.u64.wrap 1 = 1 := by decide
  refine start_ (n := 8) (S := fun w' => w'.cell? ⟨g, 1, none⟩ = some (.float .f64 4618441417868443648) ∧ w'.cell? ⟨g, 2, none⟩ = some (.int .u32 1)) (ds := []) #[false, false, false, false, false, false, false, false] (by kernel_rfl) rfl rfl ⟨hc_1, hc_2⟩ (fun hHeld => ?_)
  refine pure_ (i := 0) (N := some 4) (v := ?_) (a' := ?_) #[true, false, false, false, false, false, false, false] rfl rfl (by kernel_rfl) (fun _ _ _ h => h) (Or.inl ⟨by rfl, ?_⟩) ?_ ?_
  rotate_left
  · intro w'
    go_simp
    with_reducible rfl
  rotate_left
  · simp only [Act.put, List.setIfInBounds_toArray, List.set_cons_zero, List.set_cons_succ, i64_w, i32_w]
    rfl
  refine pure_ (i := 2) (N := some 6) (v := ?_) (a' := ?_) #[true, false, true, false, false, false, false, false] rfl rfl (by kernel_rfl) (fun _ _ _ h => h) (Or.inl ⟨by rfl, ?_⟩) ?_ ?_
  rotate_left
  · intro w'
    go_simp
    with_reducible rfl
  rotate_left
  · simp only [Act.put, List.setIfInBounds_toArray, List.set_cons_zero, List.set_cons_succ, i64_w, i32_w]
    rfl
  refine take_ (i := 1) (N := some 5) (v := ?_) (a' := ?_) #[true, true, true, false, false, false, false, false] rfl rfl (by kernel_rfl) (fun _ _ _ h => h) (Or.inl ⟨by rfl, ?_⟩) hHeld ?_ ?_
  rotate_left
  · rintro w' ⟨s0, s1⟩
    go_simp
    with_reducible rfl
  rotate_left
  · simp only [Act.put, List.setIfInBounds_toArray, List.set_cons_zero, List.set_cons_succ, i64_w, i32_w]
    rfl
  refine take_ (i := 3) (N := some 7) (v := ?_) (a' := ?_) #[true, true, true, true, false, false, false, false] rfl rfl (by kernel_rfl) (fun _ _ _ h => h) (Or.inl ⟨by rfl, ?_⟩) hHeld ?_ ?_
  rotate_left
  · rintro w' ⟨s0, s1⟩
    go_simp
    with_reducible rfl
  rotate_left
  · simp only [Act.put, List.setIfInBounds_toArray, List.set_cons_zero, List.set_cons_succ, i64_w, i32_w]
    rfl
  refine pure_ (i := 4) (N := some 8) (v := ?_) (a' := ?_) #[true, true, true, true, true, false, false, false] rfl rfl (by kernel_rfl) (fun _ _ _ h => h) (Or.inl ⟨by rfl, ?_⟩) ?_ ?_
  rotate_left
  · intro w'
    go_simp
    with_reducible rfl
  rotate_left
  · simp only [Act.put, List.setIfInBounds_toArray, List.set_cons_zero, List.set_cons_succ, i64_w, i32_w]
    rfl
  refine one_ (i := 5) (N := some 9) #[true, true, true, true, true, true, false, false] rfl rfl (by kernel_rfl) (by decide) (fun K hK => ?_)
  refine goes_ Try.func98 (by kernel_rfl) rfl #[.int .u64 1] (by rfl) rfl rfl (by (try simp only [List.map_toArray, List.map_cons, List.map_nil]); first | done | rfl) ?_
  refine (score_more1 _).mono ?_
  rintro e w3 ⟨rfl, rfl⟩
  refine ⟨_, rfl, ?_⟩
  refine hK.out _ _ ⟨hc_1, hc_2⟩ (fun hHeld => ?_)
  clear hK K
  refine norm_ (a' := ?_) ?_ ?_
  rotate_left
  · show Act.put _ (some 9) _ = _
    simp only [Act.put, List.setIfInBounds_toArray, List.set_cons_zero, List.set_cons_succ, i64_w, i32_w]
    rfl
  refine pure_ (i := 6) (N := some 10) (v := ?_) (a' := ?_) #[true, true, true, true, true, true, true, false] rfl rfl (by kernel_rfl) (fun _ _ _ h => h) (Or.inl ⟨by rfl, ?_⟩) ?_ ?_
  rotate_left
  · intro w'
    go_simp
    with_reducible rfl
  rotate_left
  · simp only [Act.put, List.setIfInBounds_toArray, List.set_cons_zero, List.set_cons_succ, i64_w, i32_w]
    rfl
  refine pure_ (i := 7) (N := some 3) (v := ?_) (a' := ?_) #[true, true, true, true, true, true, true, true] rfl rfl (by kernel_rfl) (fun _ _ _ h => h) (Or.inl ⟨by rfl, ?_⟩) ?_ ?_
  rotate_left
  · intro w'
    go_simp
    with_reducible rfl
  rotate_left
  · simp only [Act.put, List.setIfInBounds_toArray, List.set_cons_zero, List.set_cons_succ, i64_w, i32_w]
    rfl
  refine done_ (by kernel_rfl) ?_
  have hnn := math_IsNaN 4611686018427387904
  rw [decide_eq_false (by decide)] at hnn
  go_wp2_with (fail)
  refine (score_more2 _).mono ?_
  intro ef_ wf_ hf_
  obtain ⟨h1f_, h2f_⟩ := hf_
  subst h1f_
  subst h2f_
  go_wp2_with (fail)
  refine (score_more1 _).mono ?_
  intro ef_ wf_ hf_
  obtain ⟨h1f_, h2f_⟩ := hf_
  subst h1f_
  subst h2f_
  go_wp2_with (fail)
  refine (hnn _).mono ?_
  intro ef_ wf_ hf_
  obtain ⟨h1f_, h2f_⟩ := hf_
  subst h1f_
  subst h2f_
  go_wp2_with (fail)
  go_ret
  exact ⟨rfl, hS.out.1⟩

theorem eq_22 : (FloatKind.f64.format.order 4611686018427387904 4611686018427387904 == some .eq) = true := by
  rw [show (FloatKind.f64.format.order 4611686018427387904 4611686018427387904 == some .eq) = decide (¬ nan 4611686018427387904 ∧ ¬ nan 4611686018427387904 ∧ rv 4611686018427387904 = rv 4611686018427387904) from o_eq _ _]
  exact decide_eq_true ⟨by decide, by decide, rfl⟩
theorem lives28 (w : World) : Calls Try.prog 23 #[] w fun e w' => e = .returned (.bool true) ∧ Below w.heap.size w w' := by
  have hu := Try.underlying93
  have he := eq_22
  go_enter Try.func23, Try.ntmps23
  go_wp2_with (fail)
  refine (score_ex _).mono ?_
  rintro e w1 ⟨rfl, hb⟩
  go_wp2_with (fail)
  go_ret
  exact ⟨rfl, hb⟩

theorem run_quo_nan (t : TypeId) (x y : Nat) (W : World) (h : Ieee.double.div x y = none) : ∃ r, (binOp .quo t (.float .f64 x) (.float .f64 y)).run Try.prog W = .ok (.float .f64 r) W.drew ∧ nan r ∧ r < 18446744073709551616 := by
  have hc : ∀ q : Nat, nan ((q % 2) * 2 ^ 63 + 0x7ff0000000000000 + 1 + (q / 2) % (2 ^ 52 - 1)) ∧ (q % 2) * 2 ^ 63 + 0x7ff0000000000000 + 1 + (q / 2) % (2 ^ 52 - 1) < 18446744073709551616 := by
    intro q
    rw [nan_iff, show (2 : Nat) ^ 63 = 9223372036854775808 by decide, show (2 : Nat) ^ 52 - 1 = 4503599627370495 by decide]
    have h1 := Nat.mod_lt (q / 2) (show 4503599627370495 > 0 by decide)
    have h2 : q % 2 = 0 ∨ q % 2 = 1 := by omega
    generalize q / 2 % 4503599627370495 = z at *
    generalize q % 2 = b at *
    clear h W
    rcases h2 with rfl | rfl <;> constructor <;> omega
  refine ⟨_, ?_, (hc (W.tape W.drawn (.nanBits .f64 x y))).1, (hc _).2⟩
  have h2 : FloatKind.f64.format.div x y = none := h
  simp only [binOp, Op.floatArith, h2]
  rfl

/-- So often halved. -/
def Hv (x i y : Nat) : Prop := (nan x → nan y) ∧ (¬ nan x → y = Ieee.double.word (sg x) (halfn i (rg x))) ∧ y < 18446744073709551616
theorem halfn_succ (n : Nat) : ∀ r, halfn (n + 1) r = halfr (halfn n r) := by
  induction n with
  | zero => intro r; rfl
  | succ n ih => intro r; rw [halfn, ih (halfr r)]; rfl
theorem rg_le {x : Nat} (h : ¬ nan x) : rg x ≤ 9218868437227405312 := by unfold nan at h; omega
theorem Hv.zero {x : Nat} (hx : x < 18446744073709551616) : Hv x 0 x := ⟨fun h => h, fun _ => (word_sg_rg hx).symm, hx⟩
theorem Hv.step {x i y : Nat} (h : Hv x i y) (t : TypeId) (W : World) : ∃ r W', (binOp .quo t (.float .f64 y) (.float .f64 4611686018427387904)).run Try.prog W = .ok (.float .f64 r) W' ∧ Below W.heap.size W W' ∧ Hv x (i + 1) r := by
  by_cases hx : nan x
  · obtain ⟨r, h1, h2, h3⟩ := run_quo_nan t y 4611686018427387904 W (div_two_nan (h.1 hx))
    exact ⟨r, _, h1, below_drew (Below.refl _ _), fun _ => h2, fun h' => absurd hx h', h3⟩
  · have hy := h.2.1 hx
    have hle := rg_le hx
    have hln := halfn_le i hle
    obtain ⟨e1, e2⟩ := word_rg (sg x) (r := halfn i (rg x)) (by omega)
    rw [← hy] at e1 e2
    have hny : ¬ nan y := by unfold nan; rw [e1]; omega
    have hd := div_two hny
    rw [e1, e2, ← halfn_succ] at hd
    have hl2 := halfn_le (i + 1) hle
    exact ⟨_, W, run_float_arith W .quo t .f64 _ _ _ hd, Below.refl _ _, fun h' => absurd h' hx, fun _ => rfl, word_lt' _ (by omega)⟩

theorem score_Decay (x age half : Nat) (hx : x < 18446744073709551616) (ha : age < 18446744073709551616) (hh : half < 18446744073709551616) (w : World) : Calls Try.prog 24 #[.float .f64 x, .int .u64 age, .int .u64 half] w fun e w' => (∃ r : Nat, e = .returned (.float .f64 r) ∧ Hv x (if half = 0 then 0 else min (age / half) 2000) r) ∧ Below w.heap.size w w' := by
  by_cases h0 : half = 0
  · rw [if_pos h0]
    subst h0
    go_enter Try.func24, Try.ntmps24
    go_wp2_with (fail)
    go_ret
    exact ⟨⟨x, rfl, Hv.zero hx⟩, Below.refl _ _⟩
  · rw [if_neg h0]
    generalize hn : min (age / half) 2000 = n
    have h1 : ((half : Int) == 0) = false := beq_false_of_ne (by omega)
    have h2 : ¬ (half : Int) = 0 := by omega
    have hq : (age : Int) / (half : Int) = ((age / half : Nat) : Int) := (Int.natCast_ediv _ _).symm
    have hqle : age / half ≤ age := Nat.div_le_self _ _
    have hwq : IntKind.u64.wrap ((age / half : Nat) : Int) = ((age / half : Nat) : Int) := by rw [IntKind.wrap_u64]; omega
    generalize age / half = q at *
    have hS := Aside0.mk (Below.refl w.heap.size w)
    have hxA := Aside0.mk hx
    obtain ⟨hcase, hn2⟩ : (((q : Int) ≤ 2000 ∧ n = q) ∨ (¬ (q : Int) ≤ 2000 ∧ n = 2000)) ∧ n ≤ 2000 := by omega
    clear hn hx h0 hqle ha hh
    rcases hcase with ⟨hle, rfl⟩ | ⟨hle, rfl⟩
    all_goals
      go_enter Try.func24, Try.ntmps24
      go_wp2_with (fail)
    · clear hle
      go_loopg [0, 14] n (fun kq v0 v14 w' => ∃ (i y : Nat), v0 = .float .f64 y ∧ v14 = .int .u64 (i : Int) ∧ Aside0 (i + kq = n) ∧ Aside0 (Hv x i y) ∧ Aside0 (Below w.heap.size w w'))
      case atStart => exact ⟨0, x, rfl, rfl, ⟨by omega⟩, ⟨Hv.zero hxA.out⟩, hS⟩
      case round =>
        obtain ⟨i, y, rfl, rfl, hA, hH, hS⟩ := hrel
        by_cases hin : i < n
        · have hd : decide ((i : Int) < (n : Int)) = true := decide_eq_true (by omega)
          have hd2 : decide (i < n) = true := decide_eq_true hin
          have hw1 : IntKind.u64.wrap ((i : Int) + 1) = ((i + 1 : Nat) : Int) := by rw [IntKind.wrap_u64]; omega
          obtain ⟨k1, rfl⟩ : ∃ k1, gk = k1 + 1 := ⟨gk - 1, by have := hA.out; omega⟩
          obtain ⟨r, W', hrun, hb, hH'⟩ := hH.out.step 38 wr
          have hS' := Aside0.mk (hS.out.trans (hb.mono hS.out.size))
          have hHA := Aside0.mk hH'
          clear hb hH' hin
          go_wp2_with (fail)
          go_roundg k1
          case measure => omega
          case rel => exact ⟨i + 1, r, rfl, by first | rfl | simp, ⟨by have := hA.out; omega⟩, hHA, hS'⟩
        · have hd : decide ((i : Int) < (n : Int)) = false := decide_eq_false (by omega)
          have hd2 : decide (i < n) = false := decide_eq_false hin
          have hi : i = n := by have := hA.out; omega
          have hH2 := Aside0.mk (hi ▸ hH.out : Hv x n y)
          clear hin hi
          go_wp2_with (fail)
          go_ret
          exact ⟨⟨y, rfl, hH2.out⟩, hS.out⟩
    · clear hle
      go_loopg [0, 14] 2000 (fun kq v0 v14 w' => ∃ (i y : Nat), v0 = .float .f64 y ∧ v14 = .int .u64 (i : Int) ∧ Aside0 (i + kq = 2000) ∧ Aside0 (Hv x i y) ∧ Aside0 (Below w.heap.size w w'))
      case atStart => exact ⟨0, x, rfl, rfl, ⟨by omega⟩, ⟨Hv.zero hxA.out⟩, hS⟩
      case round =>
        obtain ⟨i, y, rfl, rfl, hA, hH, hS⟩ := hrel
        by_cases hin : i < 2000
        · have hd : decide ((i : Int) < 2000) = true := decide_eq_true (by omega)
          have hd2 : decide (i < 2000) = true := decide_eq_true hin
          have hw1 : IntKind.u64.wrap ((i : Int) + 1) = ((i + 1 : Nat) : Int) := by rw [IntKind.wrap_u64]; omega
          obtain ⟨k1, rfl⟩ : ∃ k1, gk = k1 + 1 := ⟨gk - 1, by have := hA.out; omega⟩
          obtain ⟨r, W', hrun, hb, hH'⟩ := hH.out.step 38 wr
          have hS' := Aside0.mk (hS.out.trans (hb.mono hS.out.size))
          have hHA := Aside0.mk hH'
          clear hb hH' hin
          go_wp2_with (fail)
          go_roundg k1
          case measure => omega
          case rel => exact ⟨i + 1, r, rfl, by first | rfl | simp, ⟨by have := hA.out; omega⟩, hHA, hS'⟩
        · have hd : decide ((i : Int) < 2000) = false := decide_eq_false (by omega)
          have hd2 : decide (i < 2000) = false := decide_eq_false hin
          have hi : i = 2000 := by have := hA.out; omega
          have hH2 := Aside0.mk (hi ▸ hH.out : Hv x 2000 y)
          clear hin hi
          go_wp2_with (fail)
          go_ret
          exact ⟨⟨y, rfl, hH2.out⟩, hS.out⟩

/-- What is so often halved has the same bits. -/
theorem Hv.bits {x n a b : Nat} (h : Hv x n a) (h' : Hv x n b) : bitsv a = bitsv b := by
  by_cases hx : nan x
  · unfold bitsv; rw [if_pos (h.1 hx), if_pos (h'.1 hx)]
  · rw [h.2.1 hx, h'.2.1 hx]
/-- At the edges it stays. -/
theorem Hv.edge {x n a : Nat} (hx : x < 18446744073709551616) (h : Hv x n a) (he : nan x ∨ rg x = 9218868437227405312 ∨ rg x = 0) : bitsv a = bitsv x := by
  by_cases hn : nan x
  · unfold bitsv; rw [if_pos (h.1 hn), if_pos hn]
  · rw [h.2.1 hn]
    rcases he with he | he | he
    · exact absurd he hn
    · rw [he, halfn_inf, ← he, word_sg_rg hx]
    · rw [he, halfn_zero, ← he, word_sg_rg hx]
theorem Hv.less {x n a : Nat} (hx : x < 18446744073709551616) (h : Hv x n a) (hn : ¬ nan x) : rg a ≤ rg x ∧ rg a ≤ 9218868437227405312 ∧ decide (9223372036854775808 ≤ a) = decide (9223372036854775808 ≤ x) := by
  have hle := rg_le hn
  have hl := halfn_le n hle
  obtain ⟨e1, e2⟩ := word_rg (sg x) (r := halfn n (rg x)) (by omega)
  rw [← h.2.1 hn] at e1 e2
  refine ⟨by omega, by omega, ?_⟩
  rw [← sg_iff h.2.2, ← sg_iff hx, e2]

theorem eq0 (x : Nat) : (FloatKind.f64.format.order x 0 == some .eq) = decide (¬ nan x ∧ rg x = 0) := by
  rw [show (FloatKind.f64.format.order x 0 == some .eq) = decide (¬ nan x ∧ ¬ nan 0 ∧ rv x = rv 0) from o_eq _ _]
  refine decide_eq_decide.2 ?_
  rw [show rv 0 = 0 by decide]
  unfold rv
  constructor
  · rintro ⟨h1, -, h2⟩; exact ⟨h1, by split at h2 <;> omega⟩
  · rintro ⟨h1, h2⟩; exact ⟨h1, by decide, by split <;> omega⟩
theorem math_IsInf0 (x : Nat) (hx : x < 18446744073709551616) : Tells 27 #[.float .f64 x, .int .i64 0] (.bool (decide (rg x = 9218868437227405312))) := by
  intro w
  have hd : (FloatKind.f64.format.order (rg x) 9218868437227405311 == some .gt) = decide (rg x = 9218868437227405312) := by
    rw [f64_gt]
    refine decide_eq_decide.2 ?_
    have hr : rg x < 9223372036854775808 := Nat.mod_lt _ (by decide)
    rw [nan_iff, nan_iff, rv_eq (x := rg x) (by omega), rv_eq (x := 9218868437227405311) (by decide), if_neg (show ¬ 9223372036854775808 ≤ 9218868437227405311 by decide), if_neg (show ¬ 9223372036854775808 ≤ rg x by omega)]
    constructor
    · rintro ⟨h1, -, h2⟩; omega
    · intro h; exact ⟨by omega, by decide, by omega⟩
  have ca := math_Abs x hx
  generalize decide (rg x = 9218868437227405312) = b at *
  generalize rg x = y at *
  go_enter Try.func27, Try.ntmps27
  go_wp2_with (fail)
  refine (ca _).mono ?_
  intro ef_ wf_ hf_
  obtain ⟨h1f_, h2f_⟩ := hf_
  subst h1f_
  subst h2f_
  go_wp2_with (fail)
  go_ret
  exact ⟨rfl, rfl⟩

theorem decays_end (x a b n : Nat) (hx : x < 18446744073709551616) (hA : Hv x n a) (hB : Hv x n b) : ∃ nn inf zz s1 : Bool, ∃ ra rx ba bb bx : Nat,
    bitsv a = ba ∧ bitsv b = bb ∧ bitsv x = bx ∧ ((ba : Int) == (bb : Int)) = true ∧ decide (nan x) = nn ∧ decide (rg x = 9218868437227405312) = inf ∧ (FloatKind.f64.format.order x 0 == some .eq) = zz ∧
    ((nn = true ∧ ((ba : Int) == (bx : Int)) = true) ∨ (nn = false ∧ inf = true ∧ ((ba : Int) == (bx : Int)) = true) ∨ (nn = false ∧ inf = false ∧ zz = true ∧ ((ba : Int) == (bx : Int)) = true) ∨
     (nn = false ∧ inf = false ∧ zz = false ∧ rg a = ra ∧ rg x = rx ∧ (FloatKind.f64.format.order ra rx == some .lt || FloatKind.f64.format.order ra rx == some .eq) = true ∧ decide (9223372036854775808 ≤ a) = s1 ∧ decide (9223372036854775808 ≤ x) = s1)) := by
  refine ⟨decide (nan x), decide (rg x = 9218868437227405312), FloatKind.f64.format.order x 0 == some .eq, decide (9223372036854775808 ≤ x), rg a, rg x, bitsv a, bitsv b, bitsv x, rfl, rfl, rfl, by rw [hA.bits hB]; exact beq_self_eq_true _, rfl, rfl, rfl, ?_⟩
  by_cases h1 : nan x
  · exact .inl ⟨decide_eq_true h1, by rw [hA.edge hx (.inl h1)]; exact beq_self_eq_true _⟩
  by_cases h2 : rg x = 9218868437227405312
  · exact .inr (.inl ⟨decide_eq_false h1, decide_eq_true h2, by rw [hA.edge hx (.inr (.inl h2))]; exact beq_self_eq_true _⟩)
  by_cases h3 : rg x = 0
  · exact .inr (.inr (.inl ⟨decide_eq_false h1, decide_eq_false h2, by rw [eq0]; exact decide_eq_true ⟨h1, h3⟩, by rw [hA.edge hx (.inr (.inr h3))]; exact beq_self_eq_true _⟩))
  · obtain ⟨l1, l2, l3⟩ := hA.less hx h1
    refine .inr (.inr (.inr ⟨decide_eq_false h1, decide_eq_false h2, by rw [eq0]; exact decide_eq_false (fun h => h3 h.2), rfl, rfl, ?_, l3, rfl⟩))
    have hle := rg_le h1
    rw [f64_le, rv_pos (x := rg a) (by omega), rv_pos (x := rg x) (by omega)]
    exact decide_eq_true ⟨nan_pos l2, nan_pos hle, by omega⟩

theorem scoreDecays_call (x age half : Nat) (hx : x < 18446744073709551616) (ha : age < 18446744073709551616) (hh : half < 18446744073709551616) (w : World) : Calls Try.prog 5 #[.float .f64 x, .int .u64 age, .int .u64 half] w fun e w' => e = .returned (.bool true) ∧ Below w.heap.size w w' := by
  have cD := fun w => score_Decay x age half hx ha hh w
  have endA := Aside0.mk (decays_end x)
  have cb := ref_Bits
  have cn := math_IsNaN x
  have ci := math_IsInf0 x hx
  have cs := math_Signbit x hx
  have ca := math_Abs x hx
  have hcase : (half = 0 ∧ (if half = 0 then 0 else min (age / half) 2000) = 0) ∨ (half ≠ 0 ∧ ∃ q n : Nat, (age : Int) / (half : Int) = (q : Int) ∧ IntKind.u64.wrap (q : Int) = (q : Int) ∧ (if half = 0 then 0 else min (age / half) 2000) = n ∧ (((q : Int) ≤ 2000 ∧ n = q) ∨ (¬ (q : Int) ≤ 2000 ∧ n = 2000)) ∧ n ≤ 2000) := by
    by_cases h : half = 0
    · exact .inl ⟨h, if_pos h⟩
    · refine .inr ⟨h, age / half, min (age / half) 2000, (Int.natCast_ediv _ _).symm, ?_, if_neg h, by omega, by omega⟩
      have : age / half ≤ age := Nat.div_le_self _ _
      generalize age / half = q at *
      rw [IntKind.wrap_u64]; omega
  have hxA := Aside0.mk hx
  rcases hcase with ⟨rfl, hn⟩ | ⟨h0, q, n, hq, hwq, hn, hcase, hn2⟩
  · rw [hn] at cD
    clear hn ha hh hx
    go_enter Try.func5, Try.ntmps5
    go_wp2_with (fail)
    refine (lives28 _).mono ?_
    rintro e w1 ⟨rfl, hb1⟩
    go_wp2_with (fail)
    refine (cD _).mono ?_
    rintro e w2 ⟨⟨r, rfl, hH⟩, hb2⟩
    have hHr := Aside0.mk hH
    have hS := Aside0.mk (hb1.trans (hb2.mono hb1.size))
    clear hb1 hb2 hH
    go_wp2_with (fail)
    go_loopg [9, 24] 0 (fun kq v0 v14 w' => ∃ (i y : Nat), v0 = .float .f64 y ∧ v14 = .int .u64 (i : Int) ∧ Aside0 (i + kq = 0) ∧ Aside0 (Hv x i y) ∧ Aside0 (Below w.heap.size w w'))
    case atStart => exact ⟨0, x, rfl, rfl, ⟨by omega⟩, ⟨Hv.zero hxA.out⟩, hS⟩
    case round =>
      obtain ⟨i, y, rfl, rfl, hA, hH, hS⟩ := hrel
      by_cases hin : i < 0
      · have hd : decide ((i : Int) < 0) = true := decide_eq_true (by omega)
        have hd2 : decide (i < 0) = true := decide_eq_true hin
        have hw1 : IntKind.u64.wrap ((i : Int) + 1) = ((i + 1 : Nat) : Int) := by rw [IntKind.wrap_u64]; omega
        obtain ⟨k1, rfl⟩ : ∃ k1, gk = k1 + 1 := ⟨gk - 1, by have := hA.out; omega⟩
        obtain ⟨z, W', hrun, hb, hH'⟩ := hH.out.step 38 wr
        have hS' := Aside0.mk (hS.out.trans (hb.mono hS.out.size))
        have hHA := Aside0.mk hH'
        clear hb hH' hin
        go_wp2_with (fail)
        go_roundg k1
        case measure => omega
        case rel => exact ⟨i + 1, z, rfl, by first | rfl | simp, ⟨by have := hA.out; omega⟩, hHA, hS'⟩
      · have hd : decide ((i : Int) < 0) = false := decide_eq_false (by omega)
        have hd2 : decide (i < 0) = false := decide_eq_false hin
        have hi : i = 0 := by have := hA.out; omega
        have hHy := Aside0.mk (hi ▸ hH.out : Hv x 0 y)
        clear hin hi
        obtain ⟨nn, inf, zz, s1, ra, rx, ba, bb, bx, e1, e2, e3, e4, e5, e6, e7, hor⟩ := endA.out r y 0 hxA.out hHr.out hHy.out
        have cr := cb r
        have cy := cb y
        have cx := cb x
        have car := math_Abs r hHr.out.2.2
        have csr := math_Signbit r hHr.out.2.2
        rw [e1] at cr
        rw [e2] at cy
        rw [e3] at cx
        rw [e5] at cn
        rw [e6] at ci
        clear e1 e2 e3 e5 e6
        rcases hor with ⟨k1, k2⟩ | ⟨k1, k2, k3⟩ | ⟨k1, k2, k3, k4⟩ | ⟨k1, k2, k3, k4, k5, k6, k7, k8⟩
        · subst k1
          go_wp2_with (fail)
          refine (cr _).mono ?_
          intro ef_ wf_ hf_
          obtain ⟨h1f_, h2f_⟩ := hf_
          subst h1f_
          subst h2f_
          go_wp2_with (fail)
          refine (cy _).mono ?_
          intro ef_ wf_ hf_
          obtain ⟨h1f_, h2f_⟩ := hf_
          subst h1f_
          subst h2f_
          go_wp2_with (fail)
          refine (cn _).mono ?_
          intro ef_ wf_ hf_
          obtain ⟨h1f_, h2f_⟩ := hf_
          subst h1f_
          subst h2f_
          go_wp2_with (fail)
          refine (cr _).mono ?_
          intro ef_ wf_ hf_
          obtain ⟨h1f_, h2f_⟩ := hf_
          subst h1f_
          subst h2f_
          go_wp2_with (fail)
          refine (cx _).mono ?_
          intro ef_ wf_ hf_
          obtain ⟨h1f_, h2f_⟩ := hf_
          subst h1f_
          subst h2f_
          go_wp2_with (fail)
          go_ret
          exact ⟨rfl, hS.out⟩
        · subst k1 k2
          go_wp2_with (fail)
          refine (cr _).mono ?_
          intro ef_ wf_ hf_
          obtain ⟨h1f_, h2f_⟩ := hf_
          subst h1f_
          subst h2f_
          go_wp2_with (fail)
          refine (cy _).mono ?_
          intro ef_ wf_ hf_
          obtain ⟨h1f_, h2f_⟩ := hf_
          subst h1f_
          subst h2f_
          go_wp2_with (fail)
          refine (cn _).mono ?_
          intro ef_ wf_ hf_
          obtain ⟨h1f_, h2f_⟩ := hf_
          subst h1f_
          subst h2f_
          go_wp2_with (fail)
          refine (ci _).mono ?_
          intro ef_ wf_ hf_
          obtain ⟨h1f_, h2f_⟩ := hf_
          subst h1f_
          subst h2f_
          go_wp2_with (fail)
          refine (cr _).mono ?_
          intro ef_ wf_ hf_
          obtain ⟨h1f_, h2f_⟩ := hf_
          subst h1f_
          subst h2f_
          go_wp2_with (fail)
          refine (cx _).mono ?_
          intro ef_ wf_ hf_
          obtain ⟨h1f_, h2f_⟩ := hf_
          subst h1f_
          subst h2f_
          go_wp2_with (fail)
          go_ret
          exact ⟨rfl, hS.out⟩
        · subst k1 k2
          rw [k3] at e7
          clear k3
          go_wp2_with (fail)
          refine (cr _).mono ?_
          intro ef_ wf_ hf_
          obtain ⟨h1f_, h2f_⟩ := hf_
          subst h1f_
          subst h2f_
          go_wp2_with (fail)
          refine (cy _).mono ?_
          intro ef_ wf_ hf_
          obtain ⟨h1f_, h2f_⟩ := hf_
          subst h1f_
          subst h2f_
          go_wp2_with (fail)
          refine (cn _).mono ?_
          intro ef_ wf_ hf_
          obtain ⟨h1f_, h2f_⟩ := hf_
          subst h1f_
          subst h2f_
          go_wp2_with (fail)
          refine (ci _).mono ?_
          intro ef_ wf_ hf_
          obtain ⟨h1f_, h2f_⟩ := hf_
          subst h1f_
          subst h2f_
          go_wp2_with (fail)
          refine (cr _).mono ?_
          intro ef_ wf_ hf_
          obtain ⟨h1f_, h2f_⟩ := hf_
          subst h1f_
          subst h2f_
          go_wp2_with (fail)
          refine (cx _).mono ?_
          intro ef_ wf_ hf_
          obtain ⟨h1f_, h2f_⟩ := hf_
          subst h1f_
          subst h2f_
          go_wp2_with (fail)
          go_ret
          exact ⟨rfl, hS.out⟩
        · subst k1 k2
          rw [k3] at e7
          rw [k4] at car
          rw [k5] at ca
          rw [k7] at csr
          rw [k8] at cs
          clear k3 k4 k5 k7 k8
          go_wp2_with (fail)
          refine (cr _).mono ?_
          intro ef_ wf_ hf_
          obtain ⟨h1f_, h2f_⟩ := hf_
          subst h1f_
          subst h2f_
          go_wp2_with (fail)
          refine (cy _).mono ?_
          intro ef_ wf_ hf_
          obtain ⟨h1f_, h2f_⟩ := hf_
          subst h1f_
          subst h2f_
          go_wp2_with (fail)
          refine (cn _).mono ?_
          intro ef_ wf_ hf_
          obtain ⟨h1f_, h2f_⟩ := hf_
          subst h1f_
          subst h2f_
          go_wp2_with (fail)
          refine (ci _).mono ?_
          intro ef_ wf_ hf_
          obtain ⟨h1f_, h2f_⟩ := hf_
          subst h1f_
          subst h2f_
          go_wp2_with (fail)
          refine (car _).mono ?_
          intro ef_ wf_ hf_
          obtain ⟨h1f_, h2f_⟩ := hf_
          subst h1f_
          subst h2f_
          go_wp2_with (fail)
          refine (ca _).mono ?_
          intro ef_ wf_ hf_
          obtain ⟨h1f_, h2f_⟩ := hf_
          subst h1f_
          subst h2f_
          go_wp2_with (fail)
          refine (csr _).mono ?_
          intro ef_ wf_ hf_
          obtain ⟨h1f_, h2f_⟩ := hf_
          subst h1f_
          subst h2f_
          go_wp2_with (fail)
          refine (cs _).mono ?_
          intro ef_ wf_ hf_
          obtain ⟨h1f_, h2f_⟩ := hf_
          subst h1f_
          subst h2f_
          go_wp2_with (fail)
          go_ret
          exact ⟨by first | rfl | simp, hS.out⟩
  · rw [hn] at cD
    have hpos : ¬ (half : Int) ≤ 0 := by omega
    have hpos2 : decide ((half : Int) > 0) = true := decide_eq_true (by omega)
    have hpos3 : decide ((0 : Int) < (half : Int)) = true := decide_eq_true (by omega)
    have hne : ¬ (half : Int) = 0 := by omega
    have hne2 : ¬ half = 0 := h0
    clear hn ha hh hx
    rcases hcase with ⟨hle, rfl⟩ | ⟨hle, rfl⟩
    · go_enter Try.func5, Try.ntmps5
      go_wp2_with (fail)
      refine (lives28 _).mono ?_
      rintro e w1 ⟨rfl, hb1⟩
      go_wp2_with (fail)
      refine (cD _).mono ?_
      rintro e w2 ⟨⟨r, rfl, hH⟩, hb2⟩
      have hHr := Aside0.mk hH
      have hS := Aside0.mk (hb1.trans (hb2.mono hb1.size))
      clear hb1 hb2 hH
      go_wp2_with (fail)
      go_loopg [9, 24] n (fun kq v0 v14 w' => ∃ (i y : Nat), v0 = .float .f64 y ∧ v14 = .int .u64 (i : Int) ∧ Aside0 (i + kq = n) ∧ Aside0 (Hv x i y) ∧ Aside0 (Below w.heap.size w w'))
      case atStart => exact ⟨0, x, rfl, rfl, ⟨by omega⟩, ⟨Hv.zero hxA.out⟩, hS⟩
      case round =>
        obtain ⟨i, y, rfl, rfl, hA, hH, hS⟩ := hrel
        by_cases hin : i < n
        · have hd : decide ((i : Int) < (n : Int)) = true := decide_eq_true (by omega)
          have hd2 : decide (i < n) = true := decide_eq_true hin
          have hw1 : IntKind.u64.wrap ((i : Int) + 1) = ((i + 1 : Nat) : Int) := by rw [IntKind.wrap_u64]; omega
          obtain ⟨k1, rfl⟩ : ∃ k1, gk = k1 + 1 := ⟨gk - 1, by have := hA.out; omega⟩
          obtain ⟨z, W', hrun, hb, hH'⟩ := hH.out.step 38 wr
          have hS' := Aside0.mk (hS.out.trans (hb.mono hS.out.size))
          have hHA := Aside0.mk hH'
          clear hb hH' hin
          go_wp2_with (fail)
          go_roundg k1
          case measure => omega
          case rel => exact ⟨i + 1, z, rfl, by first | rfl | simp, ⟨by have := hA.out; omega⟩, hHA, hS'⟩
        · have hd : decide ((i : Int) < (n : Int)) = false := decide_eq_false (by omega)
          have hd2 : decide (i < n) = false := decide_eq_false hin
          have hi : i = n := by have := hA.out; omega
          have hHy := Aside0.mk (hi ▸ hH.out : Hv x n y)
          clear hin hi
          obtain ⟨nn, inf, zz, s1, ra, rx, ba, bb, bx, e1, e2, e3, e4, e5, e6, e7, hor⟩ := endA.out r y n hxA.out hHr.out hHy.out
          have cr := cb r
          have cy := cb y
          have cx := cb x
          have car := math_Abs r hHr.out.2.2
          have csr := math_Signbit r hHr.out.2.2
          rw [e1] at cr
          rw [e2] at cy
          rw [e3] at cx
          rw [e5] at cn
          rw [e6] at ci
          clear e1 e2 e3 e5 e6
          rcases hor with ⟨k1, k2⟩ | ⟨k1, k2, k3⟩ | ⟨k1, k2, k3, k4⟩ | ⟨k1, k2, k3, k4, k5, k6, k7, k8⟩
          · subst k1
            go_wp2_with (fail)
            refine (cr _).mono ?_
            intro ef_ wf_ hf_
            obtain ⟨h1f_, h2f_⟩ := hf_
            subst h1f_
            subst h2f_
            go_wp2_with (fail)
            refine (cy _).mono ?_
            intro ef_ wf_ hf_
            obtain ⟨h1f_, h2f_⟩ := hf_
            subst h1f_
            subst h2f_
            go_wp2_with (fail)
            refine (cn _).mono ?_
            intro ef_ wf_ hf_
            obtain ⟨h1f_, h2f_⟩ := hf_
            subst h1f_
            subst h2f_
            go_wp2_with (fail)
            refine (cr _).mono ?_
            intro ef_ wf_ hf_
            obtain ⟨h1f_, h2f_⟩ := hf_
            subst h1f_
            subst h2f_
            go_wp2_with (fail)
            refine (cx _).mono ?_
            intro ef_ wf_ hf_
            obtain ⟨h1f_, h2f_⟩ := hf_
            subst h1f_
            subst h2f_
            go_wp2_with (fail)
            go_ret
            exact ⟨rfl, hS.out⟩
          · subst k1 k2
            go_wp2_with (fail)
            refine (cr _).mono ?_
            intro ef_ wf_ hf_
            obtain ⟨h1f_, h2f_⟩ := hf_
            subst h1f_
            subst h2f_
            go_wp2_with (fail)
            refine (cy _).mono ?_
            intro ef_ wf_ hf_
            obtain ⟨h1f_, h2f_⟩ := hf_
            subst h1f_
            subst h2f_
            go_wp2_with (fail)
            refine (cn _).mono ?_
            intro ef_ wf_ hf_
            obtain ⟨h1f_, h2f_⟩ := hf_
            subst h1f_
            subst h2f_
            go_wp2_with (fail)
            refine (ci _).mono ?_
            intro ef_ wf_ hf_
            obtain ⟨h1f_, h2f_⟩ := hf_
            subst h1f_
            subst h2f_
            go_wp2_with (fail)
            refine (cr _).mono ?_
            intro ef_ wf_ hf_
            obtain ⟨h1f_, h2f_⟩ := hf_
            subst h1f_
            subst h2f_
            go_wp2_with (fail)
            refine (cx _).mono ?_
            intro ef_ wf_ hf_
            obtain ⟨h1f_, h2f_⟩ := hf_
            subst h1f_
            subst h2f_
            go_wp2_with (fail)
            go_ret
            exact ⟨rfl, hS.out⟩
          · subst k1 k2
            rw [k3] at e7
            clear k3
            go_wp2_with (fail)
            refine (cr _).mono ?_
            intro ef_ wf_ hf_
            obtain ⟨h1f_, h2f_⟩ := hf_
            subst h1f_
            subst h2f_
            go_wp2_with (fail)
            refine (cy _).mono ?_
            intro ef_ wf_ hf_
            obtain ⟨h1f_, h2f_⟩ := hf_
            subst h1f_
            subst h2f_
            go_wp2_with (fail)
            refine (cn _).mono ?_
            intro ef_ wf_ hf_
            obtain ⟨h1f_, h2f_⟩ := hf_
            subst h1f_
            subst h2f_
            go_wp2_with (fail)
            refine (ci _).mono ?_
            intro ef_ wf_ hf_
            obtain ⟨h1f_, h2f_⟩ := hf_
            subst h1f_
            subst h2f_
            go_wp2_with (fail)
            refine (cr _).mono ?_
            intro ef_ wf_ hf_
            obtain ⟨h1f_, h2f_⟩ := hf_
            subst h1f_
            subst h2f_
            go_wp2_with (fail)
            refine (cx _).mono ?_
            intro ef_ wf_ hf_
            obtain ⟨h1f_, h2f_⟩ := hf_
            subst h1f_
            subst h2f_
            go_wp2_with (fail)
            go_ret
            exact ⟨rfl, hS.out⟩
          · subst k1 k2
            rw [k3] at e7
            rw [k4] at car
            rw [k5] at ca
            rw [k7] at csr
            rw [k8] at cs
            clear k3 k4 k5 k7 k8
            go_wp2_with (fail)
            refine (cr _).mono ?_
            intro ef_ wf_ hf_
            obtain ⟨h1f_, h2f_⟩ := hf_
            subst h1f_
            subst h2f_
            go_wp2_with (fail)
            refine (cy _).mono ?_
            intro ef_ wf_ hf_
            obtain ⟨h1f_, h2f_⟩ := hf_
            subst h1f_
            subst h2f_
            go_wp2_with (fail)
            refine (cn _).mono ?_
            intro ef_ wf_ hf_
            obtain ⟨h1f_, h2f_⟩ := hf_
            subst h1f_
            subst h2f_
            go_wp2_with (fail)
            refine (ci _).mono ?_
            intro ef_ wf_ hf_
            obtain ⟨h1f_, h2f_⟩ := hf_
            subst h1f_
            subst h2f_
            go_wp2_with (fail)
            refine (car _).mono ?_
            intro ef_ wf_ hf_
            obtain ⟨h1f_, h2f_⟩ := hf_
            subst h1f_
            subst h2f_
            go_wp2_with (fail)
            refine (ca _).mono ?_
            intro ef_ wf_ hf_
            obtain ⟨h1f_, h2f_⟩ := hf_
            subst h1f_
            subst h2f_
            go_wp2_with (fail)
            refine (csr _).mono ?_
            intro ef_ wf_ hf_
            obtain ⟨h1f_, h2f_⟩ := hf_
            subst h1f_
            subst h2f_
            go_wp2_with (fail)
            refine (cs _).mono ?_
            intro ef_ wf_ hf_
            obtain ⟨h1f_, h2f_⟩ := hf_
            subst h1f_
            subst h2f_
            go_wp2_with (fail)
            go_ret
            exact ⟨by first | rfl | simp, hS.out⟩
    · go_enter Try.func5, Try.ntmps5
      go_wp2_with (fail)
      refine (lives28 _).mono ?_
      rintro e w1 ⟨rfl, hb1⟩
      go_wp2_with (fail)
      refine (cD _).mono ?_
      rintro e w2 ⟨⟨r, rfl, hH⟩, hb2⟩
      have hHr := Aside0.mk hH
      have hS := Aside0.mk (hb1.trans (hb2.mono hb1.size))
      clear hb1 hb2 hH
      go_wp2_with (fail)
      go_loopg [9, 24] 2000 (fun kq v0 v14 w' => ∃ (i y : Nat), v0 = .float .f64 y ∧ v14 = .int .u64 (i : Int) ∧ Aside0 (i + kq = 2000) ∧ Aside0 (Hv x i y) ∧ Aside0 (Below w.heap.size w w'))
      case atStart => exact ⟨0, x, rfl, rfl, ⟨by omega⟩, ⟨Hv.zero hxA.out⟩, hS⟩
      case round =>
        obtain ⟨i, y, rfl, rfl, hA, hH, hS⟩ := hrel
        by_cases hin : i < 2000
        · have hd : decide ((i : Int) < 2000) = true := decide_eq_true (by omega)
          have hd2 : decide (i < 2000) = true := decide_eq_true hin
          have hw1 : IntKind.u64.wrap ((i : Int) + 1) = ((i + 1 : Nat) : Int) := by rw [IntKind.wrap_u64]; omega
          obtain ⟨k1, rfl⟩ : ∃ k1, gk = k1 + 1 := ⟨gk - 1, by have := hA.out; omega⟩
          obtain ⟨z, W', hrun, hb, hH'⟩ := hH.out.step 38 wr
          have hS' := Aside0.mk (hS.out.trans (hb.mono hS.out.size))
          have hHA := Aside0.mk hH'
          clear hb hH' hin
          go_wp2_with (fail)
          go_roundg k1
          case measure => omega
          case rel => exact ⟨i + 1, z, rfl, by first | rfl | simp, ⟨by have := hA.out; omega⟩, hHA, hS'⟩
        · have hd : decide ((i : Int) < 2000) = false := decide_eq_false (by omega)
          have hd2 : decide (i < 2000) = false := decide_eq_false hin
          have hi : i = 2000 := by have := hA.out; omega
          have hHy := Aside0.mk (hi ▸ hH.out : Hv x 2000 y)
          clear hin hi
          obtain ⟨nn, inf, zz, s1, ra, rx, ba, bb, bx, e1, e2, e3, e4, e5, e6, e7, hor⟩ := endA.out r y 2000 hxA.out hHr.out hHy.out
          have cr := cb r
          have cy := cb y
          have cx := cb x
          have car := math_Abs r hHr.out.2.2
          have csr := math_Signbit r hHr.out.2.2
          rw [e1] at cr
          rw [e2] at cy
          rw [e3] at cx
          rw [e5] at cn
          rw [e6] at ci
          clear e1 e2 e3 e5 e6
          rcases hor with ⟨k1, k2⟩ | ⟨k1, k2, k3⟩ | ⟨k1, k2, k3, k4⟩ | ⟨k1, k2, k3, k4, k5, k6, k7, k8⟩
          · subst k1
            go_wp2_with (fail)
            refine (cr _).mono ?_
            intro ef_ wf_ hf_
            obtain ⟨h1f_, h2f_⟩ := hf_
            subst h1f_
            subst h2f_
            go_wp2_with (fail)
            refine (cy _).mono ?_
            intro ef_ wf_ hf_
            obtain ⟨h1f_, h2f_⟩ := hf_
            subst h1f_
            subst h2f_
            go_wp2_with (fail)
            refine (cn _).mono ?_
            intro ef_ wf_ hf_
            obtain ⟨h1f_, h2f_⟩ := hf_
            subst h1f_
            subst h2f_
            go_wp2_with (fail)
            refine (cr _).mono ?_
            intro ef_ wf_ hf_
            obtain ⟨h1f_, h2f_⟩ := hf_
            subst h1f_
            subst h2f_
            go_wp2_with (fail)
            refine (cx _).mono ?_
            intro ef_ wf_ hf_
            obtain ⟨h1f_, h2f_⟩ := hf_
            subst h1f_
            subst h2f_
            go_wp2_with (fail)
            go_ret
            exact ⟨rfl, hS.out⟩
          · subst k1 k2
            go_wp2_with (fail)
            refine (cr _).mono ?_
            intro ef_ wf_ hf_
            obtain ⟨h1f_, h2f_⟩ := hf_
            subst h1f_
            subst h2f_
            go_wp2_with (fail)
            refine (cy _).mono ?_
            intro ef_ wf_ hf_
            obtain ⟨h1f_, h2f_⟩ := hf_
            subst h1f_
            subst h2f_
            go_wp2_with (fail)
            refine (cn _).mono ?_
            intro ef_ wf_ hf_
            obtain ⟨h1f_, h2f_⟩ := hf_
            subst h1f_
            subst h2f_
            go_wp2_with (fail)
            refine (ci _).mono ?_
            intro ef_ wf_ hf_
            obtain ⟨h1f_, h2f_⟩ := hf_
            subst h1f_
            subst h2f_
            go_wp2_with (fail)
            refine (cr _).mono ?_
            intro ef_ wf_ hf_
            obtain ⟨h1f_, h2f_⟩ := hf_
            subst h1f_
            subst h2f_
            go_wp2_with (fail)
            refine (cx _).mono ?_
            intro ef_ wf_ hf_
            obtain ⟨h1f_, h2f_⟩ := hf_
            subst h1f_
            subst h2f_
            go_wp2_with (fail)
            go_ret
            exact ⟨rfl, hS.out⟩
          · subst k1 k2
            rw [k3] at e7
            clear k3
            go_wp2_with (fail)
            refine (cr _).mono ?_
            intro ef_ wf_ hf_
            obtain ⟨h1f_, h2f_⟩ := hf_
            subst h1f_
            subst h2f_
            go_wp2_with (fail)
            refine (cy _).mono ?_
            intro ef_ wf_ hf_
            obtain ⟨h1f_, h2f_⟩ := hf_
            subst h1f_
            subst h2f_
            go_wp2_with (fail)
            refine (cn _).mono ?_
            intro ef_ wf_ hf_
            obtain ⟨h1f_, h2f_⟩ := hf_
            subst h1f_
            subst h2f_
            go_wp2_with (fail)
            refine (ci _).mono ?_
            intro ef_ wf_ hf_
            obtain ⟨h1f_, h2f_⟩ := hf_
            subst h1f_
            subst h2f_
            go_wp2_with (fail)
            refine (cr _).mono ?_
            intro ef_ wf_ hf_
            obtain ⟨h1f_, h2f_⟩ := hf_
            subst h1f_
            subst h2f_
            go_wp2_with (fail)
            refine (cx _).mono ?_
            intro ef_ wf_ hf_
            obtain ⟨h1f_, h2f_⟩ := hf_
            subst h1f_
            subst h2f_
            go_wp2_with (fail)
            go_ret
            exact ⟨rfl, hS.out⟩
          · subst k1 k2
            rw [k3] at e7
            rw [k4] at car
            rw [k5] at ca
            rw [k7] at csr
            rw [k8] at cs
            clear k3 k4 k5 k7 k8
            go_wp2_with (fail)
            refine (cr _).mono ?_
            intro ef_ wf_ hf_
            obtain ⟨h1f_, h2f_⟩ := hf_
            subst h1f_
            subst h2f_
            go_wp2_with (fail)
            refine (cy _).mono ?_
            intro ef_ wf_ hf_
            obtain ⟨h1f_, h2f_⟩ := hf_
            subst h1f_
            subst h2f_
            go_wp2_with (fail)
            refine (cn _).mono ?_
            intro ef_ wf_ hf_
            obtain ⟨h1f_, h2f_⟩ := hf_
            subst h1f_
            subst h2f_
            go_wp2_with (fail)
            refine (ci _).mono ?_
            intro ef_ wf_ hf_
            obtain ⟨h1f_, h2f_⟩ := hf_
            subst h1f_
            subst h2f_
            go_wp2_with (fail)
            refine (car _).mono ?_
            intro ef_ wf_ hf_
            obtain ⟨h1f_, h2f_⟩ := hf_
            subst h1f_
            subst h2f_
            go_wp2_with (fail)
            refine (ca _).mono ?_
            intro ef_ wf_ hf_
            obtain ⟨h1f_, h2f_⟩ := hf_
            subst h1f_
            subst h2f_
            go_wp2_with (fail)
            refine (csr _).mono ?_
            intro ef_ wf_ hf_
            obtain ⟨h1f_, h2f_⟩ := hf_
            subst h1f_
            subst h2f_
            go_wp2_with (fail)
            refine (cs _).mono ?_
            intro ef_ wf_ hf_
            obtain ⟨h1f_, h2f_⟩ := hf_
            subst h1f_
            subst h2f_
            go_wp2_with (fail)
            go_ret
            exact ⟨by first | rfl | simp, hS.out⟩
end Go.Proofs.Ytlakjninlpiedaa.Fw
