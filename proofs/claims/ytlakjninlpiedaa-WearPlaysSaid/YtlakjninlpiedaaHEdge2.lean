/- Floats in the program: kinds, the document's order, ratios, whole numbers, walked. -/
import Derived.Test.YtlakjninlpiedaaHEdge
import Derived.Test.YtlakjninlpiedaaLWhole
set_option linter.unusedVariables false
set_option linter.unusedSimpArgs false
namespace Go.Proofs.Ytlakjninlpiedaa.Fw
open Go Go.RowKit Go.Proofs.YtlakjninlpiedaaW.PrintWords Go.Proofs.YtlakjninlpiedaaW.PrintLast Go.Proofs.YtlakjninlpiedaaW.PrintMore Go.Proofs.Ytlakjninlpiedaa.Fl
set_option maxHeartbeats 2000000
set_option maxRecDepth 100000
attribute [local go_sem] run_f64bits run_frombits

theorem lt0 (x : Nat) : (FloatKind.f64.format.order x 0 == some .lt) = decide (¬ nan x ∧ rv x < 0) := by
  rw [f64_lt]; exact decide_eq_decide.2 ⟨fun ⟨a, _, b⟩ => ⟨a, b⟩, fun ⟨a, b⟩ => ⟨a, by decide, b⟩⟩
theorem gt0 (x : Nat) : (FloatKind.f64.format.order x 0 == some .gt) = decide (¬ nan x ∧ 0 < rv x) := by
  rw [f64_gt]; exact decide_eq_decide.2 ⟨fun ⟨a, _, b⟩ => ⟨a, b⟩, fun ⟨a, b⟩ => ⟨a, by decide, b⟩⟩

theorem ref_kind (x : Nat) (hx : x < 18446744073709551616) : Tells 77 #[.float .f64 x] (.int .i64 (kindv x)) := by
  intro w
  have c1 := math_IsNaN x
  have c2 := math_IsInf_neg x hx
  have c3 := math_IsInf x 1 hx (by decide)
  have c4 := math_Signbit x hx
  unfold kindv
  by_cases h1 : nan x
  · have hd : decide (nan x) = true := decide_eq_true h1
    rw [if_pos h1]
    clear h1
    go_enter Try.func77, Try.ntmps77
    go_wp2_with (fail)
    refine (c1 _).mono ?_
    intro ef_ wf_ hf_
    obtain ⟨h1f_, h2f_⟩ := hf_
    subst h1f_
    subst h2f_
    go_wp2_with (fail)
    go_ret
    exact ⟨rfl, rfl⟩
  have hd : decide (nan x) = false := decide_eq_false h1
  rw [if_neg h1]
  by_cases h2 : x = 18442240474082181120
  · have hd2 : decide (x = 18442240474082181120) = true := decide_eq_true h2
    rw [if_pos h2]
    clear h1 h2
    go_enter Try.func77, Try.ntmps77
    go_wp2_with (fail)
    refine (c1 _).mono ?_
    intro ef_ wf_ hf_
    obtain ⟨h1f_, h2f_⟩ := hf_
    subst h1f_
    subst h2f_
    go_wp2_with (fail)
    refine (c2 _).mono ?_
    intro ef_ wf_ hf_
    obtain ⟨h1f_, h2f_⟩ := hf_
    subst h1f_
    subst h2f_
    go_wp2_with (fail)
    go_ret
    exact ⟨rfl, rfl⟩
  have hd2 : decide (x = 18442240474082181120) = false := decide_eq_false h2
  rw [if_neg h2]
  by_cases h3 : x = 9218868437227405312
  · have hd3 : decide (x = 9218868437227405312) = true := decide_eq_true h3
    rw [if_pos h3]
    clear h1 h2 h3
    go_enter Try.func77, Try.ntmps77
    go_wp2_with (fail)
    refine (c1 _).mono ?_
    intro ef_ wf_ hf_
    obtain ⟨h1f_, h2f_⟩ := hf_
    subst h1f_
    subst h2f_
    go_wp2_with (fail)
    refine (c2 _).mono ?_
    intro ef_ wf_ hf_
    obtain ⟨h1f_, h2f_⟩ := hf_
    subst h1f_
    subst h2f_
    go_wp2_with (fail)
    refine (c3 _).mono ?_
    intro ef_ wf_ hf_
    obtain ⟨h1f_, h2f_⟩ := hf_
    subst h1f_
    subst h2f_
    go_wp2_with (fail)
    go_ret
    exact ⟨rfl, rfl⟩
  have hd3 : decide (x = 9218868437227405312) = false := decide_eq_false h3
  rw [if_neg h3]
  clear h2 h3
  by_cases h4 : rv x < 0
  · have hd4 : (FloatKind.f64.format.order x 0 == some .lt) = true := by rw [lt0]; exact decide_eq_true ⟨h1, h4⟩
    rw [if_pos h4]
    clear h1 h4
    go_enter Try.func77, Try.ntmps77
    go_wp2_with (fail)
    refine (c1 _).mono ?_
    intro ef_ wf_ hf_
    obtain ⟨h1f_, h2f_⟩ := hf_
    subst h1f_
    subst h2f_
    go_wp2_with (fail)
    refine (c2 _).mono ?_
    intro ef_ wf_ hf_
    obtain ⟨h1f_, h2f_⟩ := hf_
    subst h1f_
    subst h2f_
    go_wp2_with (fail)
    refine (c3 _).mono ?_
    intro ef_ wf_ hf_
    obtain ⟨h1f_, h2f_⟩ := hf_
    subst h1f_
    subst h2f_
    go_wp2_with (fail)
    go_ret
    exact ⟨rfl, rfl⟩
  have hd4 : (FloatKind.f64.format.order x 0 == some .lt) = false := by rw [lt0]; exact decide_eq_false (fun h => h4 h.2)
  rw [if_neg h4]
  by_cases h5 : 0 < rv x
  · have hd5 : (FloatKind.f64.format.order x 0 == some .gt) = true := by rw [gt0]; exact decide_eq_true ⟨h1, h5⟩
    rw [if_pos h5]
    clear h1 h4 h5
    go_enter Try.func77, Try.ntmps77
    go_wp2_with (fail)
    refine (c1 _).mono ?_
    intro ef_ wf_ hf_
    obtain ⟨h1f_, h2f_⟩ := hf_
    subst h1f_
    subst h2f_
    go_wp2_with (fail)
    refine (c2 _).mono ?_
    intro ef_ wf_ hf_
    obtain ⟨h1f_, h2f_⟩ := hf_
    subst h1f_
    subst h2f_
    go_wp2_with (fail)
    refine (c3 _).mono ?_
    intro ef_ wf_ hf_
    obtain ⟨h1f_, h2f_⟩ := hf_
    subst h1f_
    subst h2f_
    go_wp2_with (fail)
    go_ret
    exact ⟨rfl, rfl⟩
  have hd5 : (FloatKind.f64.format.order x 0 == some .gt) = false := by rw [gt0]; exact decide_eq_false (fun h => h5 h.2)
  rw [if_neg h5]
  clear h1 h4 h5
  by_cases h6 : 9223372036854775808 ≤ x
  · have hd6 : decide (9223372036854775808 ≤ x) = true := decide_eq_true h6
    rw [if_pos h6]
    clear h6
    go_enter Try.func77, Try.ntmps77
    go_wp2_with (fail)
    refine (c1 _).mono ?_
    intro ef_ wf_ hf_
    obtain ⟨h1f_, h2f_⟩ := hf_
    subst h1f_
    subst h2f_
    go_wp2_with (fail)
    refine (c2 _).mono ?_
    intro ef_ wf_ hf_
    obtain ⟨h1f_, h2f_⟩ := hf_
    subst h1f_
    subst h2f_
    go_wp2_with (fail)
    refine (c3 _).mono ?_
    intro ef_ wf_ hf_
    obtain ⟨h1f_, h2f_⟩ := hf_
    subst h1f_
    subst h2f_
    go_wp2_with (fail)
    refine (c4 _).mono ?_
    intro ef_ wf_ hf_
    obtain ⟨h1f_, h2f_⟩ := hf_
    subst h1f_
    subst h2f_
    go_wp2_with (fail)
    go_ret
    exact ⟨rfl, rfl⟩
  · have hd6 : decide (9223372036854775808 ≤ x) = false := decide_eq_false h6
    rw [if_neg h6]
    clear h6
    go_enter Try.func77, Try.ntmps77
    go_wp2_with (fail)
    refine (c1 _).mono ?_
    intro ef_ wf_ hf_
    obtain ⟨h1f_, h2f_⟩ := hf_
    subst h1f_
    subst h2f_
    go_wp2_with (fail)
    refine (c2 _).mono ?_
    intro ef_ wf_ hf_
    obtain ⟨h1f_, h2f_⟩ := hf_
    subst h1f_
    subst h2f_
    go_wp2_with (fail)
    refine (c3 _).mono ?_
    intro ef_ wf_ hf_
    obtain ⟨h1f_, h2f_⟩ := hf_
    subst h1f_
    subst h2f_
    go_wp2_with (fail)
    refine (c4 _).mono ?_
    intro ef_ wf_ hf_
    obtain ⟨h1f_, h2f_⟩ := hf_
    subst h1f_
    subst h2f_
    go_wp2_with (fail)
    go_ret
    exact ⟨rfl, rfl⟩

theorem ref_Compare (x y : Nat) (hx : x < 18446744073709551616) (hy : y < 18446744073709551616) : Tells 32 #[.float .f64 x, .float .f64 y] (.int .i64 (cmpi (keyv x) (keyv y))) := by
  intro w
  rw [← rcmp_eq hx hy]
  unfold rcmp
  have c1 := ref_kind x hx
  have c2 := ref_kind y hy
  have flt := f64_lt x y
  have fgt := f64_gt x y
  generalize kindv x = k at *
  generalize kindv y = j at *
  clear hx hy
  by_cases h : k = j
  · subst h
    rw [if_neg (by omega)]
    by_cases h1 : k = 1 ∨ k = 4
    · rw [if_pos h1]
      by_cases h2 : ¬ nan x ∧ ¬ nan y ∧ rv x < rv y
      · rw [decide_eq_true h2] at flt
        rw [if_pos h2]
        clear h2 fgt
        rcases h1 with rfl | rfl
        · go_enter Try.func32, Try.ntmps32
          go_wp2_with (fail)
          refine (c1 _).mono ?_
          intro ef_ wf_ hf_
          obtain ⟨h1f_, h2f_⟩ := hf_
          subst h1f_
          subst h2f_
          go_wp2_with (fail)
          refine (c2 _).mono ?_
          intro ef_ wf_ hf_
          obtain ⟨h1f_, h2f_⟩ := hf_
          subst h1f_
          subst h2f_
          go_wp2_with (fail)
          refine (c1 _).mono ?_
          intro ef_ wf_ hf_
          obtain ⟨h1f_, h2f_⟩ := hf_
          subst h1f_
          subst h2f_
          go_wp2_with (fail)
          go_ret
          exact ⟨rfl, rfl⟩
        · go_enter Try.func32, Try.ntmps32
          go_wp2_with (fail)
          refine (c1 _).mono ?_
          intro ef_ wf_ hf_
          obtain ⟨h1f_, h2f_⟩ := hf_
          subst h1f_
          subst h2f_
          go_wp2_with (fail)
          refine (c2 _).mono ?_
          intro ef_ wf_ hf_
          obtain ⟨h1f_, h2f_⟩ := hf_
          subst h1f_
          subst h2f_
          go_wp2_with (fail)
          refine (c1 _).mono ?_
          intro ef_ wf_ hf_
          obtain ⟨h1f_, h2f_⟩ := hf_
          subst h1f_
          subst h2f_
          go_wp2_with (fail)
          refine (c1 _).mono ?_
          intro ef_ wf_ hf_
          obtain ⟨h1f_, h2f_⟩ := hf_
          subst h1f_
          subst h2f_
          go_wp2_with (fail)
          go_ret
          exact ⟨rfl, rfl⟩
      · rw [decide_eq_false h2] at flt
        rw [if_neg h2]
        clear h2
        by_cases h2 : ¬ nan x ∧ ¬ nan y ∧ rv y < rv x
        · rw [decide_eq_true h2] at fgt
          rw [if_pos h2]
          clear h2
          rcases h1 with rfl | rfl
          · go_enter Try.func32, Try.ntmps32
            go_wp2_with (fail)
            refine (c1 _).mono ?_
            intro ef_ wf_ hf_
            obtain ⟨h1f_, h2f_⟩ := hf_
            subst h1f_
            subst h2f_
            go_wp2_with (fail)
            refine (c2 _).mono ?_
            intro ef_ wf_ hf_
            obtain ⟨h1f_, h2f_⟩ := hf_
            subst h1f_
            subst h2f_
            go_wp2_with (fail)
            refine (c1 _).mono ?_
            intro ef_ wf_ hf_
            obtain ⟨h1f_, h2f_⟩ := hf_
            subst h1f_
            subst h2f_
            go_wp2_with (fail)
            go_ret
            exact ⟨rfl, rfl⟩
          · go_enter Try.func32, Try.ntmps32
            go_wp2_with (fail)
            refine (c1 _).mono ?_
            intro ef_ wf_ hf_
            obtain ⟨h1f_, h2f_⟩ := hf_
            subst h1f_
            subst h2f_
            go_wp2_with (fail)
            refine (c2 _).mono ?_
            intro ef_ wf_ hf_
            obtain ⟨h1f_, h2f_⟩ := hf_
            subst h1f_
            subst h2f_
            go_wp2_with (fail)
            refine (c1 _).mono ?_
            intro ef_ wf_ hf_
            obtain ⟨h1f_, h2f_⟩ := hf_
            subst h1f_
            subst h2f_
            go_wp2_with (fail)
            refine (c1 _).mono ?_
            intro ef_ wf_ hf_
            obtain ⟨h1f_, h2f_⟩ := hf_
            subst h1f_
            subst h2f_
            go_wp2_with (fail)
            go_ret
            exact ⟨rfl, rfl⟩
        · rw [decide_eq_false h2] at fgt
          rw [if_neg h2]
          clear h2
          rcases h1 with rfl | rfl
          · go_enter Try.func32, Try.ntmps32
            go_wp2_with (fail)
            refine (c1 _).mono ?_
            intro ef_ wf_ hf_
            obtain ⟨h1f_, h2f_⟩ := hf_
            subst h1f_
            subst h2f_
            go_wp2_with (fail)
            refine (c2 _).mono ?_
            intro ef_ wf_ hf_
            obtain ⟨h1f_, h2f_⟩ := hf_
            subst h1f_
            subst h2f_
            go_wp2_with (fail)
            refine (c1 _).mono ?_
            intro ef_ wf_ hf_
            obtain ⟨h1f_, h2f_⟩ := hf_
            subst h1f_
            subst h2f_
            go_wp2_with (fail)
            go_ret
            exact ⟨rfl, rfl⟩
          · go_enter Try.func32, Try.ntmps32
            go_wp2_with (fail)
            refine (c1 _).mono ?_
            intro ef_ wf_ hf_
            obtain ⟨h1f_, h2f_⟩ := hf_
            subst h1f_
            subst h2f_
            go_wp2_with (fail)
            refine (c2 _).mono ?_
            intro ef_ wf_ hf_
            obtain ⟨h1f_, h2f_⟩ := hf_
            subst h1f_
            subst h2f_
            go_wp2_with (fail)
            refine (c1 _).mono ?_
            intro ef_ wf_ hf_
            obtain ⟨h1f_, h2f_⟩ := hf_
            subst h1f_
            subst h2f_
            go_wp2_with (fail)
            refine (c1 _).mono ?_
            intro ef_ wf_ hf_
            obtain ⟨h1f_, h2f_⟩ := hf_
            subst h1f_
            subst h2f_
            go_wp2_with (fail)
            go_ret
            exact ⟨rfl, rfl⟩
    · rw [if_neg h1]
      have d1 : ((k : Int) == 1) = false := beq_false_of_ne (by omega)
      have d4 : ((k : Int) == 4) = false := beq_false_of_ne (by omega)
      clear h1 flt fgt
      go_enter Try.func32, Try.ntmps32
      go_wp2_with (fail)
      refine (c1 _).mono ?_
      intro ef_ wf_ hf_
      obtain ⟨h1f_, h2f_⟩ := hf_
      subst h1f_
      subst h2f_
      go_wp2_with (fail)
      refine (c2 _).mono ?_
      intro ef_ wf_ hf_
      obtain ⟨h1f_, h2f_⟩ := hf_
      subst h1f_
      subst h2f_
      go_wp2_with (fail)
      refine (c1 _).mono ?_
      intro ef_ wf_ hf_
      obtain ⟨h1f_, h2f_⟩ := hf_
      subst h1f_
      subst h2f_
      go_wp2_with (fail)
      refine (c1 _).mono ?_
      intro ef_ wf_ hf_
      obtain ⟨h1f_, h2f_⟩ := hf_
      subst h1f_
      subst h2f_
      go_wp2_with (fail)
      go_ret
      exact ⟨rfl, rfl⟩
  · rw [if_pos h]
    have d0 : decide ((k : Int) = (j : Int)) = false := decide_eq_false (by omega)
    clear flt fgt
    by_cases h2 : k < j
    · have d1 : decide ((k : Int) < (j : Int)) = true := decide_eq_true (by omega)
      rw [if_pos h2]
      go_enter Try.func32, Try.ntmps32
      go_wp2_with (fail)
      refine (c1 _).mono ?_
      intro ef_ wf_ hf_
      obtain ⟨h1f_, h2f_⟩ := hf_
      subst h1f_
      subst h2f_
      go_wp2_with (fail)
      refine (c2 _).mono ?_
      intro ef_ wf_ hf_
      obtain ⟨h1f_, h2f_⟩ := hf_
      subst h1f_
      subst h2f_
      go_wp2_with (fail)
      refine (c1 _).mono ?_
      intro ef_ wf_ hf_
      obtain ⟨h1f_, h2f_⟩ := hf_
      subst h1f_
      subst h2f_
      go_wp2_with (fail)
      refine (c2 _).mono ?_
      intro ef_ wf_ hf_
      obtain ⟨h1f_, h2f_⟩ := hf_
      subst h1f_
      subst h2f_
      go_wp2_with (fail)
      go_ret
      exact ⟨rfl, rfl⟩
    · have d1 : decide ((k : Int) < (j : Int)) = false := decide_eq_false (by omega)
      rw [if_neg h2]
      go_enter Try.func32, Try.ntmps32
      go_wp2_with (fail)
      refine (c1 _).mono ?_
      intro ef_ wf_ hf_
      obtain ⟨h1f_, h2f_⟩ := hf_
      subst h1f_
      subst h2f_
      go_wp2_with (fail)
      refine (c2 _).mono ?_
      intro ef_ wf_ hf_
      obtain ⟨h1f_, h2f_⟩ := hf_
      subst h1f_
      subst h2f_
      go_wp2_with (fail)
      refine (c1 _).mono ?_
      intro ef_ wf_ hf_
      obtain ⟨h1f_, h2f_⟩ := hf_
      subst h1f_
      subst h2f_
      go_wp2_with (fail)
      refine (c2 _).mono ?_
      intro ef_ wf_ hf_
      obtain ⟨h1f_, h2f_⟩ := hf_
      subst h1f_
      subst h2f_
      go_wp2_with (fail)
      go_ret
      exact ⟨rfl, rfl⟩

theorem ref_Bits (x : Nat) : Tells 25 #[.float .f64 x] (.int .u64 (bitsv x)) := by
  intro w
  unfold bitsv
  have c1 := math_IsNaN x
  by_cases h : nan x
  · have hd : decide (nan x) = true := decide_eq_true h
    rw [if_pos h]; clear h
    go_enter Try.func25, Try.ntmps25
    go_wp2_with (fail)
    refine (c1 _).mono ?_
    intro ef_ wf_ hf_
    obtain ⟨h1f_, h2f_⟩ := hf_
    subst h1f_
    subst h2f_
    go_wp2_with (fail)
    go_ret
    exact ⟨rfl, rfl⟩
  · have hd : decide (nan x) = false := decide_eq_false h
    rw [if_neg h]; clear h
    go_enter Try.func25, Try.ntmps25
    go_wp2_with (fail)
    refine (c1 _).mono ?_
    intro ef_ wf_ hf_
    obtain ⟨h1f_, h2f_⟩ := hf_
    subst h1f_
    subst h2f_
    go_wp2_with (fail)
    go_ret
    exact ⟨rfl, rfl⟩

theorem ref_Key (x : Nat) (hx : x < 18446744073709551616) : Tells 36 #[.float .f64 x] (.int .u64 (keyv x)) := by
  intro w
  have hb := bitsv_lt hx
  have c1 := ref_Bits x
  unfold keyv
  generalize bitsv x = n at *
  by_cases h : 9223372036854775808 ≤ n
  · have hd : decide ((9223372036854775808 : Int) ≤ (n : Int)) = true := decide_eq_true (by omega)
    have hw : IntKind.u64.wrap (18446744073709551615 - (n : Int)) = ((18446744073709551615 - n : Nat) : Int) := by rw [IntKind.wrap_u64]; omega
    rw [if_pos h]; clear h hb
    generalize 18446744073709551615 - n = r at *
    go_enter Try.func36, Try.ntmps36
    go_wp2_with (fail)
    refine (c1 _).mono ?_
    intro ef_ wf_ hf_
    obtain ⟨h1f_, h2f_⟩ := hf_
    subst h1f_
    subst h2f_
    go_wp2_with (fail)
    go_ret
    exact ⟨rfl, rfl⟩
  · have hd : decide ((9223372036854775808 : Int) ≤ (n : Int)) = false := decide_eq_false (by omega)
    have hw : IntKind.u64.wrap ((n : Int) + 9223372036854775808) = ((n + 9223372036854775808 : Nat) : Int) := by rw [IntKind.wrap_u64]; omega
    rw [if_neg h]; clear h hb
    generalize n + 9223372036854775808 = r at *
    go_enter Try.func36, Try.ntmps36
    go_wp2_with (fail)
    refine (c1 _).mono ?_
    intro ef_ wf_ hf_
    obtain ⟨h1f_, h2f_⟩ := hf_
    subst h1f_
    subst h2f_
    go_wp2_with (fail)
    go_ret
    exact ⟨rfl, rfl⟩
end Go.Proofs.Ytlakjninlpiedaa.Fw
