/- Plain laws of the configs. -/
import Derived.Test.YtfeaalfajcdalaaGx2
import Derived.Test.YtfeaalfajcdalaaGx2
import Derived.Test.YtfeaalfajcdalaaPureKit
import Derived.OpenShut
namespace Go.Proofs.Ytfeaalfajcdalaa.LConfig
open Go.RowKit Go.Proofs.Ytfeaalfajcdalaa.G Go.Proofs.YtfeaalfajcdalaaW.PrintWords Go.Proofs.YtfeaalfajcdalaaW.PrintLast Go.Proofs.YtfeaalfajcdalaaW.PrintMore Go.Proofs.Ytfeaalfajcdalaa.PureKit
set_option linter.unusedVariables false

/-- The thirteen sizes. -/
def Pair (e S : Int) : Prop := (e = 12 ∧ S = 4096) ∨ (e = 13 ∧ S = 8192) ∨ (e = 14 ∧ S = 16384) ∨ (e = 15 ∧ S = 32768) ∨ (e = 16 ∧ S = 65536) ∨ (e = 17 ∧ S = 131072) ∨ (e = 18 ∧ S = 262144) ∨ (e = 19 ∧ S = 524288) ∨ (e = 20 ∧ S = 1048576) ∨ (e = 21 ∧ S = 2097152) ∨ (e = 22 ∧ S = 4194304) ∨ (e = 23 ∧ S = 8388608) ∨ (e = 24 ∧ S = 16777216)
theorem pair_of {e : Int} (h0 : 12 ≤ e) (h1 : e ≤ 24) : ∃ S, Pair e S := by
  rcases (by omega : e = 12 ∨ e = 13 ∨ e = 14 ∨ e = 15 ∨ e = 16 ∨ e = 17 ∨ e = 18 ∨ e = 19 ∨ e = 20 ∨ e = 21 ∨ e = 22 ∨ e = 23 ∨ e = 24) with h | h | h | h | h | h | h | h | h | h | h | h | h <;> subst h
  · exact ⟨4096, by unfold Pair; omega⟩
  · exact ⟨8192, by unfold Pair; omega⟩
  · exact ⟨16384, by unfold Pair; omega⟩
  · exact ⟨32768, by unfold Pair; omega⟩
  · exact ⟨65536, by unfold Pair; omega⟩
  · exact ⟨131072, by unfold Pair; omega⟩
  · exact ⟨262144, by unfold Pair; omega⟩
  · exact ⟨524288, by unfold Pair; omega⟩
  · exact ⟨1048576, by unfold Pair; omega⟩
  · exact ⟨2097152, by unfold Pair; omega⟩
  · exact ⟨4194304, by unfold Pair; omega⟩
  · exact ⟨8388608, by unfold Pair; omega⟩
  · exact ⟨16777216, by unfold Pair; omega⟩
theorem check_ok {e s : Int} (h0 : 12 ≤ e) (h1 : e ≤ 24) (h2 : 1 ≤ s) (h3 : s ≤ 65536) : config_Check.f e s = some 0 := by
  unfold config_Check.f; rw [if_neg (by omega), if_neg (by omega), if_neg (by omega), if_neg (by omega)]
theorem check_no {e s : Int} (h : ¬ (12 ≤ e ∧ e ≤ 24 ∧ 1 ≤ s ∧ s ≤ 65536)) : config_Check.f e s = some 1 := by
  unfold config_Check.f
  by_cases a : e < 12
  · rw [if_pos a]
  · rw [if_neg a]
    by_cases b : e > 24
    · rw [if_pos b]
    · rw [if_neg b]
      by_cases c : s < 1
      · rw [if_pos c]
      · rw [if_neg c, if_pos (by omega)]
theorem size_ok {e s S : Int} (h : Pair e S) (h2 : 1 ≤ s) (h3 : s ≤ 65536) : config_Size.f e s = some S := by
  have hc : config_Check.f e s = some 0 := check_ok (by unfold Pair at h; omega) (by unfold Pair at h; omega) h2 h3
  unfold config_Size.f
  rw [hc]
  simp only [Option.bind_some, if_true]
  rw [if_pos (by unfold Pair at h; omega)]
  rcases h with ⟨rfl, rfl⟩ | ⟨rfl, rfl⟩ | ⟨rfl, rfl⟩ | ⟨rfl, rfl⟩ | ⟨rfl, rfl⟩ | ⟨rfl, rfl⟩ | ⟨rfl, rfl⟩ | ⟨rfl, rfl⟩ | ⟨rfl, rfl⟩ | ⟨rfl, rfl⟩ | ⟨rfl, rfl⟩ | ⟨rfl, rfl⟩ | ⟨rfl, rfl⟩ <;> rfl
theorem size_no {e s : Int} (h : ¬ (12 ≤ e ∧ e ≤ 24 ∧ 1 ≤ s ∧ s ≤ 65536)) : config_Size.f e s = some 0 := by
  unfold config_Size.f; rw [check_no h]; rfl
theorem may_ok {e s : Int} (h0 : 12 ≤ e) (h1 : e ≤ 24) (h2 : 1 ≤ s) (h3 : s ≤ 65536) : fascicleref08_May.f e s = some true := by
  unfold fascicleref08_May.f; rw [if_pos (by omega), if_pos (by omega), if_pos (by omega), decide_eq_true h3]
theorem may_no {e s : Int} (h : ¬ (12 ≤ e ∧ e ≤ 24 ∧ 1 ≤ s ∧ s ≤ 65536)) : fascicleref08_May.f e s = some false := by
  unfold fascicleref08_May.f
  by_cases a : e ≥ 12
  · rw [if_pos a]
    by_cases b : e ≤ 24
    · rw [if_pos b]
      by_cases c : s ≥ 1
      · rw [if_pos c, decide_eq_false (by omega)]
      · rw [if_neg c]
    · rw [if_neg b]
  · rw [if_neg a]
theorem rsize_l0 {e S : Int} (h : Pair e S) : fascicleref08_Size.l0 40 1 e 0 = some S := by
  rcases h with ⟨rfl, rfl⟩ | ⟨rfl, rfl⟩ | ⟨rfl, rfl⟩ | ⟨rfl, rfl⟩ | ⟨rfl, rfl⟩ | ⟨rfl, rfl⟩ | ⟨rfl, rfl⟩ | ⟨rfl, rfl⟩ | ⟨rfl, rfl⟩ | ⟨rfl, rfl⟩ | ⟨rfl, rfl⟩ | ⟨rfl, rfl⟩ | ⟨rfl, rfl⟩ <;> decide +kernel
theorem rsize_ok {e S : Int} (h : Pair e S) (s : Int) : Ev (fun k => fascicleref08_Size.f k e s) S := Ev.of (fascicleref08_Size.mono e s) (k := 40) (rsize_l0 h)

theorem lives_f : fasciclelaw08_lives.f = some true := by decide +kernel

theorem prod_le {e s S : Int} (h : Pair e S) (h2 : 0 ≤ s) (h3 : s ≤ 65537) : 0 ≤ S * s ∧ S * s ≤ 1099528404992 := by
  rcases h with ⟨rfl, rfl⟩ | ⟨rfl, rfl⟩ | ⟨rfl, rfl⟩ | ⟨rfl, rfl⟩ | ⟨rfl, rfl⟩ | ⟨rfl, rfl⟩ | ⟨rfl, rfl⟩ | ⟨rfl, rfl⟩ | ⟨rfl, rfl⟩ | ⟨rfl, rfl⟩ | ⟨rfl, rfl⟩ | ⟨rfl, rfl⟩ | ⟨rfl, rfl⟩ <;> omega
theorem pair_S {e S : Int} (h : Pair e S) : 4096 ≤ S ∧ S ≤ 16777216 ∧ 12 ≤ e ∧ e ≤ 24 := by unfold Pair at h; omega

/-- What the program says of a count. -/
theorem count_ok {e s n S : Int} (h : Pair e S) (h2 : 1 ≤ s) (h3 : s ≤ 65536) (hn : 0 ≤ n) (hn' : n ≤ 18446744073709551615) :
    config_Count.f e s n = some (if n > S * s then (0, 7) else if n % S = 0 then (n / S, 0) else (0, 4)) := by
  have hS := pair_S h
  have hc : config_Check.f e s = some 0 := check_ok hS.2.2.1 hS.2.2.2 h2 h3
  have hp := prod_le h (s := s) (by omega) (by omega)
  unfold config_Count.f
  rw [hc]
  simp only [Option.bind_some, if_true]
  rw [size_ok h h2 h3]
  simp only [Option.bind_some]
  rw [wu64 (x := S) (by omega) (by omega), wu64 (x := s) (by omega) (by omega), wu64 (x := S * s) (by omega) (by omega), Int.tmod_eq_emod_of_nonneg hn, Int.tdiv_eq_ediv_of_nonneg hn]
  by_cases a : n > S * s
  · rw [if_pos a, if_pos a]
  · rw [if_neg a, if_neg a, if_neg (by omega)]
    have hd0 : 0 ≤ n / S := Int.ediv_nonneg hn (by omega)
    have hd1 : n / S ≤ s := Int.ediv_le_of_le_mul (by omega) (by rw [Int.mul_comm]; omega)
    by_cases b : n % S = 0
    · rw [if_pos b, if_pos b, wu64 hd0 (by omega), Int.emod_eq_of_lt hd0 (by omega)]
    · rw [if_neg b, if_neg b]
/-- What the document says of it. -/
theorem rcount_ok {e s n S : Int} (h : Pair e S) (h2 : 1 ≤ s) (h3 : s ≤ 65536) (hn : 0 ≤ n) (hn' : n ≤ 18446744073709551615) :
    Ev (fun k => fascicleref08_Count.f k e s n) (if n > S * s then (0, 7) else if n % S = 0 then (n / S, 0) else (0, 4)) := by
  unfold fascicleref08_Count.f
  rw [may_ok (by unfold Pair at h; omega) (by unfold Pair at h; omega) h2 h3]
  simp only [Option.bind_some, if_true]
  refine Ev.bind (f := fun k t => if t = 0 then none else _) (rsize_ok h s) ?_
  have hS : S ≠ 0 := by unfold Pair at h; omega
  have hS' : 0 < S ∧ S ≤ 16777216 := by unfold Pair at h; omega
  have hd : n / S ≤ n := Int.ediv_le_self _ hn
  have hd0 : 0 ≤ n / S := Int.ediv_nonneg hn (by omega)
  have t2 : IntKind.u64.wrap (Int.tdiv n S) = n / S := by
    rw [Int.tdiv_eq_ediv_of_nonneg hn, wu64 hd0 (by omega)]
  have ts : IntKind.u64.wrap s = s := wu64 (by omega) (by omega)
  simp only [if_neg hS, t2, ts]
  have hj : ∀ b, Ev (fun k => fascicleref08_Count.j0 k n (n / S) b e s) (if b = true then (0, 7) else if n % S = 0 then (n / S, 0) else (0, 4)) := by
    intro b
    cases b with
    | true => exact Ev.step (f := fun _ => some (0, 7)) (fun k => by simp only [fascicleref08_Count.j0]; rfl) (Ev.now _)
    | false =>
      refine Ev.step (f := fun k => (fascicleref08_Size.f k e s).bind fun t => if IntKind.u64.wrap (n / S * t) = n then some (n / S, 0) else some (0, 4)) (fun k => by simp only [fascicleref08_Count.j0]; rfl) ?_
      refine Ev.bind (f := fun k t => if IntKind.u64.wrap (n / S * t) = n then some (n / S, 0) else some (0, 4)) (rsize_ok h s) ?_
      have hm : n / S * S + n % S = n := by rw [Int.mul_comm]; exact Int.mul_ediv_add_emod n S
      have hr := Int.emod_nonneg n hS
      have hq := Int.mul_nonneg hd0 (show 0 ≤ S from by omega)
      rw [wu64 (by omega) (by omega)]
      by_cases hz : n % S = 0
      · rw [if_pos (by omega)]
        refine Ev.eq (Ev.now _) ?_
        simp [hz]
      · rw [if_neg (by omega)]
        refine Ev.eq (Ev.now _) ?_
        simp [hz]
  have hm : n / S * S + n % S = n := by rw [Int.mul_comm]; exact Int.mul_ediv_add_emod n S
  have hr := Int.emod_nonneg n hS
  have hr2 := Int.emod_lt_of_pos n hS'.1
  have hq := Int.mul_nonneg hd0 (show 0 ≤ S from by omega)
  have hbig : ∀ q : Int, n / S = q → (n > S * s ↔ (q > s ∨ (q = s ∧ n > q * S))) := by
    intro q hq
    rw [hq] at hm
    constructor
    · intro g
      by_cases a : q > s
      · exact .inl a
      · right
        have : q = s := by
          rcases Int.lt_trichotomy q s with g1 | g1 | g1
          · exfalso
            have : (q + 1) * S ≤ s * S := Int.mul_le_mul_of_nonneg_right (by omega) (by omega)
            rw [Int.add_mul, Int.one_mul] at this
            rw [Int.mul_comm] at g
            omega
          · exact g1
          · exact absurd g1 a
        exact ⟨this, by rw [this, Int.mul_comm]; exact g⟩
    · rintro (g | ⟨g, g'⟩)
      · have : (s + 1) * S ≤ q * S := Int.mul_le_mul_of_nonneg_right (by omega) (by omega)
        rw [Int.add_mul, Int.one_mul] at this
        rw [Int.mul_comm]
        omega
      · rw [g, Int.mul_comm] at g'; exact g'
  have hB := hbig _ rfl
  by_cases a : n / S > s
  · simp only [if_pos a]
    refine Ev.eq (hj true) ?_
    rw [if_pos rfl, if_pos (hB.2 (.inl a))]
  · simp only [if_neg a]
    by_cases b : n / S = s
    · simp only [if_pos b]
      refine Ev.bind (f := fun k t => fascicleref08_Count.j0 k n (n / S) (decide (n > IntKind.u64.wrap (n / S * t))) e s) (rsize_ok h s) ?_
      rw [wu64 (by omega) (by omega)]
      refine Ev.eq (hj _) ?_
      by_cases c : n > n / S * S
      · rw [decide_eq_true c, if_pos rfl, if_pos (hB.2 (.inr ⟨b, c⟩))]
      · rw [decide_eq_false c, if_neg (show ¬ n > S * s from fun g => by rcases hB.1 g with g | g; exact a g; exact c g.2)]
        rfl
    · simp only [if_neg b]
      refine Ev.eq (hj false) ?_
      rw [if_neg (show ¬ n > S * s from fun g => by rcases hB.1 g with g | g; exact a g; exact b g.1)]
      rfl

/-! ### ConfigCounts -/
theorem counts (e s n : Int) (he : 0 ≤ e ∧ e ≤ 255) (hs : 0 ≤ s ∧ s ≤ 4294967295) (hn : 0 ≤ n ∧ n ≤ 18446744073709551615) : Ev (fun k => fasciclelaw08_ConfigCounts.f k e s n) true := by
  unfold fasciclelaw08_ConfigCounts.f
  rw [lives_f]
  simp only [Option.bind_some, if_true]
  by_cases ok : 12 ≤ e ∧ e ≤ 24 ∧ 1 ≤ s ∧ s ≤ 65536
  · obtain ⟨S, h⟩ := pair_of ok.1 ok.2.1
    have hS := pair_S h
    rw [may_ok ok.1 ok.2.1 ok.2.2.1 ok.2.2.2]
    simp only [Option.bind_some, if_true]
    refine Ev.bind (f := fun k t => fasciclelaw08_ConfigCounts.j0 k n true (wrap64 t) e s) (rsize_ok h s) ?_
    rw [w64 (by omega) (by omega)]
    have hc := count_ok h ok.2.2.1 ok.2.2.2 hn.1 hn.2
    have hr := rcount_ok h ok.2.2.1 ok.2.2.2 hn.1 hn.2
    generalize hR : (if n > S * s then ((0 : Int), (7 : Int)) else if n % S = 0 then (n / S, 0) else (0, 4)) = R at hc hr
    have hR1 : 0 ≤ R.1 ∧ R.1 ≤ n := by
      rw [← hR]
      split
      · exact ⟨by simp, hn.1⟩
      · split
        · exact ⟨Int.ediv_nonneg hn.1 (by omega), Int.ediv_le_self _ hn.1⟩
        · exact ⟨by simp, hn.1⟩
    refine Ev.step (f := fun k => (fascicleref08_Count.f k e s n).bind fun t => if IntKind.u64.wrap R.1 = t.1 then some (R.2 == t.2) else some false) (fun k => ?_) ?_
    · simp only [fasciclelaw08_ConfigCounts.j0, hc, check_ok ok.1 ok.2.1 ok.2.2.1 ok.2.2.2, size_ok h ok.2.2.1 ok.2.2.2, Option.bind_some]
      simp
    · refine Ev.bind (f := fun k t => if IntKind.u64.wrap R.1 = t.1 then some (R.2 == t.2) else some false) hr ?_
      rw [wu64 hR1.1 (by omega)]
      refine Ev.eq (Ev.congr (fun k => if_pos rfl) (Ev.now _)) (by simp)
  · rw [may_no ok]
    simp only [Option.bind_some, Bool.false_eq_true, if_false]
    refine Ev.step (f := fun k => some true) (fun k => ?_) (Ev.now _)
    have hcf : config_Count.f e s n = some (0, 1) := by unfold config_Count.f; rw [check_no ok]; rfl
    have hrf : fascicleref08_Count.f k e s n = some (0, 1) := by unfold fascicleref08_Count.f; rw [may_no ok]; rfl
    simp only [fasciclelaw08_ConfigCounts.j0, hcf, hrf, check_no ok, size_no ok, Option.bind_some]
    rfl

/-! ### ConfigBounds -/
theorem bounds_ok {e s S : Int} (h : Pair e S) (h2 : 1 ≤ s) (h3 : s ≤ 65536) {n i : Int} (hn : 0 ≤ n ∧ n ≤ 18446744073709551615) (hi : 0 ≤ i ∧ i ≤ 18446744073709551615) :
    config_Bounds.f e s n i = some (if i ≥ s ∨ i * S ≥ n then (0, 0, 10) else (i * S, (if n < (i + 1) * S then n else (i + 1) * S), 0)) := by
  have hS := pair_S h
  have hc : config_Check.f e s = some 0 := check_ok hS.2.2.1 hS.2.2.2 h2 h3
  unfold config_Bounds.f
  rw [hc]
  simp only [Option.bind_some, if_true]
  rw [size_ok h h2 h3]
  simp only [Option.bind_some]
  rw [wu64 (x := S) (by omega) (by omega), wu64 (x := s) (by omega) (by omega)]
  by_cases a : i ≥ s
  · rw [if_pos a, if_pos (.inl a)]
  · rw [if_neg a]
    have hp := prod_le h (s := i) (by omega) (by omega)
    have hp' := prod_le h (s := i + 1) (by omega) (by omega)
    rw [Int.mul_comm S i] at hp
    rw [Int.mul_comm S (i + 1)] at hp'
    rw [wu64 (x := i * S) (by omega) (by omega), wu64 (x := i + 1) (by omega) (by omega), wu64 (x := (i + 1) * S) (by omega) (by omega)]
    by_cases b : i * S ≥ n
    · rw [if_pos b, if_pos (.inr b)]
    · rw [if_neg b, if_neg (by rintro (h | h) <;> omega)]
      unfold mn
      by_cases c : (i + 1) * S < n
      · rw [if_pos c, if_neg (by omega)]
      · rw [if_neg c]
        by_cases d : n < (i + 1) * S
        · rw [if_pos d]
        · rw [if_neg d, show n = (i + 1) * S from by omega]
theorem bounds_no {e s n i : Int} (h : ¬ (12 ≤ e ∧ e ≤ 24 ∧ 1 ≤ s ∧ s ≤ 65536)) : config_Bounds.f e s n i = some (0, 0, 1) := by
  unfold config_Bounds.f; rw [check_no h]; rfl
theorem rbounds_ok {e s S : Int} (h : Pair e S) (h2 : 1 ≤ s) (h3 : s ≤ 65536) {n i : Int} (hn : 0 ≤ n ∧ n ≤ 18446744073709551615) (hi : 0 ≤ i ∧ i ≤ 18446744073709551615) :
    Ev (fun k => fascicleref08_Bounds.f k e s n i) (if i ≥ s ∨ i * S ≥ n then (0, 0, 10) else (i * S, (if n < (i + 1) * S then n else (i + 1) * S), 0)) := by
  have hS := pair_S h
  unfold fascicleref08_Bounds.f
  rw [may_ok hS.2.2.1 hS.2.2.2 h2 h3]
  simp only [Option.bind_some, if_true]
  rw [wu64 (x := s) (by omega) (by omega)]
  by_cases a : i ≥ s
  · simp only [if_pos a]
    refine Ev.eq (Ev.now _) ?_
    rw [if_pos (.inl a)]
  · simp only [if_neg a]
    have hp := prod_le h (s := i) (by omega) (by omega)
    have hp' := prod_le h (s := i + 1) (by omega) (by omega)
    rw [Int.mul_comm S i] at hp
    rw [Int.mul_comm S (i + 1)] at hp'
    have hs1 : i * S + S = (i + 1) * S := by rw [Int.add_mul, Int.one_mul]
    refine Ev.bind (f := fun k t => if IntKind.u64.wrap (i * t) ≥ n then some (0, 0, 10) else (fascicleref08_Size.f k e s).bind fun u => if IntKind.u64.wrap (IntKind.u64.wrap (i * t) + u) > n then some (IntKind.u64.wrap (i * t), n, 0) else some (IntKind.u64.wrap (i * t), IntKind.u64.wrap (IntKind.u64.wrap (i * t) + u), 0)) (rsize_ok h s) ?_
    rw [wu64 (x := i * S) (by omega) (by omega)]
    by_cases b : i * S ≥ n
    · simp only [if_pos b]
      refine Ev.eq (Ev.now _) ?_
      rw [if_pos (.inr b)]
    · simp only [if_neg b]
      refine Ev.bind (f := fun k u => if IntKind.u64.wrap (i * S + u) > n then some (i * S, n, 0) else some (i * S, IntKind.u64.wrap (i * S + u), 0)) (rsize_ok h s) ?_
      rw [hs1, wu64 (x := (i + 1) * S) (by omega) (by omega), if_neg (show ¬ (i ≥ s ∨ i * S ≥ n) from by rintro (h | h) <;> omega)]
      by_cases c : (i + 1) * S > n
      · simp only [if_pos c]
        exact Ev.now _
      · simp only [if_neg c]
        exact Ev.now _
theorem bounds (e s n i : Int) (hn : 0 ≤ n ∧ n ≤ 18446744073709551615) (hi : 0 ≤ i ∧ i ≤ 18446744073709551615) : Ev (fun k => fasciclelaw08_ConfigBounds.f k e s n i) true := by
  unfold fasciclelaw08_ConfigBounds.f
  rw [lives_f]
  simp only [Option.bind_some, if_true]
  by_cases ok : 12 ≤ e ∧ e ≤ 24 ∧ 1 ≤ s ∧ s ≤ 65536
  · obtain ⟨S, h⟩ := pair_of ok.1 ok.2.1
    rw [bounds_ok h ok.2.2.1 ok.2.2.2 hn hi]
    simp only [Option.bind_some]
    generalize hR : (if i ≥ s ∨ i * S ≥ n then ((0 : Int), (0 : Int), (10 : Int)) else (i * S, (if n < (i + 1) * S then n else (i + 1) * S), 0)) = R
    refine Ev.bind (f := fun k t => if R.1 = t.1 then if R.2.1 = t.2.1 then some (R.2.2 == t.2.2) else some false else some false) (hR ▸ rbounds_ok h ok.2.2.1 ok.2.2.2 hn hi) ?_
    refine Ev.eq (Ev.congr (fun k => by rw [if_pos rfl, if_pos rfl]) (Ev.now _)) (by simp)
  · rw [bounds_no ok]
    have hrf : ∀ k, fascicleref08_Bounds.f k e s n i = some (0, 0, 1) := fun k => by unfold fascicleref08_Bounds.f; rw [may_no ok]; rfl
    refine Ev.congr (f := fun _ => some true) (fun k => ?_) (Ev.now _)
    rw [hrf]; rfl

/-! ### ConfigWhere -/
theorem where_ok {e s S : Int} (h : Pair e S) (h2 : 1 ≤ s) (h3 : s ≤ 65536) {n : Int} (hn : 0 ≤ n ∧ n ≤ 18446744073709551615) :
    config_Where.f e s n = some (if n / S ≥ s then (0, 0, 10) else (n / S, n % S, 0)) := by
  have hS := pair_S h
  have hc : config_Check.f e s = some 0 := check_ok hS.2.2.1 hS.2.2.2 h2 h3
  unfold config_Where.f
  rw [hc]
  simp only [Option.bind_some, if_true]
  rw [size_ok h h2 h3]
  simp only [Option.bind_some]
  have hd0 : 0 ≤ n / S := Int.ediv_nonneg hn.1 (by omega)
  have hd1 : n / S ≤ n := Int.ediv_le_self _ hn.1
  rw [wu64 (x := S) (by omega) (by omega), wu64 (x := s) (by omega) (by omega), if_neg (by omega), Int.tmod_eq_emod_of_nonneg hn.1, Int.tdiv_eq_ediv_of_nonneg hn.1, wu64 (x := n / S) hd0 (by omega)]
  by_cases a : n / S ≥ s
  · rw [if_pos a, if_pos a]
  · rw [if_neg a, if_neg a]
theorem where_ (e s n at_ o : Int) (hn : 0 ≤ n ∧ n ≤ 18446744073709551615) (ha : 0 ≤ at_ ∧ at_ ≤ 18446744073709551615) (ho : 0 ≤ o ∧ o ≤ 18446744073709551615) : fasciclelaw08_ConfigWhere.f e s n at_ o = some true := by
  unfold fasciclelaw08_ConfigWhere.f
  rw [lives_f]
  simp only [Option.bind_some, if_true]
  by_cases ok : 12 ≤ e ∧ e ≤ 24 ∧ 1 ≤ s ∧ s ≤ 65536
  · obtain ⟨S, h⟩ := pair_of ok.1 ok.2.1
    have hS := pair_S h
    rw [where_ok h ok.2.2.1 ok.2.2.2 ha, check_ok ok.1 ok.2.1 ok.2.2.1 ok.2.2.2, size_ok h ok.2.2.1 ok.2.2.2]
    have hd0 : 0 ≤ at_ / S := Int.ediv_nonneg ha.1 (by omega)
    have hd1 : at_ / S ≤ at_ := Int.ediv_le_self _ ha.1
    have hr0 := Int.emod_nonneg at_ (show S ≠ 0 from by omega)
    have hr1 := Int.emod_lt_of_pos at_ (show 0 < S from by omega)
    have hm : at_ / S * S + at_ % S = at_ := by rw [Int.mul_comm]; exact Int.mul_ediv_add_emod at_ S
    by_cases a : at_ / S ≥ s
    · rw [if_pos a]; rfl
    · rw [if_neg a]
      simp only [Option.bind_some, if_true]
      rw [wu64 (x := S) (by omega) (by omega), if_neg (by omega)]
      by_cases b : at_ ≥ n
      · rw [if_pos b]
      · rw [if_neg b, bounds_ok h ok.2.2.1 ok.2.2.2 hn ⟨hd0, by omega⟩, bounds_ok h ok.2.2.1 ok.2.2.2 hn ho]
        have hs1 : (at_ / S + 1) * S = at_ / S * S + S := by rw [Int.add_mul, Int.one_mul]
        rw [if_neg (show ¬ (at_ / S ≥ s ∨ at_ / S * S ≥ n) from by rintro (h | h) <;> omega)]
        simp only [Option.bind_some, if_true]
        rw [if_neg (by omega), if_neg (by split <;> omega), wu64 (by omega) (by omega), if_pos (by omega)]
        by_cases c : o = at_ / S
        · rw [if_pos c]
        · rw [if_neg c]
          by_cases d : o ≥ s ∨ o * S ≥ n
          · rw [if_pos d]; rfl
          · rw [if_neg d]
            simp only [if_true]
            by_cases f : at_ < o * S
            · rw [if_pos f]
            · rw [if_neg f]
              have g : (o + 1) * S ≤ at_ / S * S := by
                have : o < at_ / S := by
                  rcases Int.lt_trichotomy o (at_ / S) with g | g | g
                  · exact g
                  · exact absurd g c
                  · have : (at_ / S + 1) * S ≤ o * S := Int.mul_le_mul_of_nonneg_right (by omega) (by omega)
                    omega
                exact Int.mul_le_mul_of_nonneg_right (by omega) (by omega)
              rw [decide_eq_true]
              split <;> omega
  · have hw : config_Where.f e s at_ = some (0, 0, 1) := by unfold config_Where.f; rw [check_no ok]; rfl
    rw [hw, check_no ok]; rfl

end Go.Proofs.Ytfeaalfajcdalaa.LConfig
