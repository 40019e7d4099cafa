/- wear: the document's row of counts. (needs Gy1: gprint with fascicleref29.Total, Least, Most) -/
import Derived.Test.YtlakjninlpiedaaHWearEdges
import Derived.Test.YtlakjninlpiedaaGy1
set_option linter.unusedVariables false
set_option linter.unusedSimpArgs false
namespace Go.Proofs.Ytlakjninlpiedaa.Fw
open Go Go.RowKit Go.Proofs.YtlakjninlpiedaaW.PrintWords Go.Proofs.YtlakjninlpiedaaW.PrintLast Go.Proofs.YtlakjninlpiedaaW.PrintMore Go.Proofs.Ytlakjninlpiedaa.Fl Go.Proofs.Ytlakjninlpiedaa.Sep Go.Proofs.Ytlakjninlpiedaa.G Go.Proofs.Ytlakjninlpiedaa.GY
set_option maxHeartbeats 4000000
set_option maxRecDepth 100000
attribute [local go_sem] run_f64bits run_frombits max2_int min2_int

/-- The document's row tells the counts. -/
def Rw (xs : List Int) (f : Nat → Nat) (s : Nat) : Prop := xs.length = s ∧ ∀ i, i < s → rd xs (i : Int) = (f i : Int)
theorem Rw.zero (s : Nat) : Rw (List.replicate s 0) (fun _ => 0) s := ⟨List.length_replicate, fun i hi => by unfold rd; rw [Int.toNat_natCast, List.getD_eq_getElem?_getD, List.getElem?_replicate, if_pos hi]; rfl⟩
theorem Rw.set {xs : List Int} {f : Nat → Nat} {s k v : Nat} (h : Rw xs f s) (hk : k < s) : Rw (xs.set k (v : Int)) (upd f k v) s := by
  obtain ⟨h1, h2⟩ := h
  refine ⟨by rw [List.length_set]; exact h1, fun i hi => ?_⟩
  have h3 := h2 i hi
  unfold rd at h3 ⊢
  rw [Int.toNat_natCast] at h3 ⊢
  by_cases hik : i = k
  · subst hik
    rw [upd_same, List.getD_eq_getElem?_getD, List.getElem?_set_self (by omega)]; rfl
  · rw [upd_other hik, ← h3, List.getD_eq_getElem?_getD, List.getElem?_set_ne (fun e => hik e.symm), List.getD_eq_getElem?_getD]
theorem sumf_mono (f : Nat → Nat) (s : Nat) : ∀ n i, i + n = s → sumf f i ≤ sumf f s
  | 0, i, h => by have : i = s := by omega
                  subst this; exact Nat.le_refl _
  | n + 1, i, h => Nat.le_trans (Nat.le_add_right _ _) (sumf_mono f s n (i + 1) (by omega))
theorem w64 {i : Nat} (h : i < 9223372036854775807) : wrap64 ((i : Int) + 1) = ((i + 1 : Nat) : Int) := by rw [show ((i : Int) + 1) = ((i + 1 : Nat) : Int) from rfl]; unfold wrap64; omega
theorem tot_l0 {xs : List Int} {f : Nat → Nat} {s : Nat} (h : Rw xs f s) (hs : s ≤ 65536) (hb : sumf f s < 18446744073709551616) : ∀ n i, i + n = s →
    fascicleref29_Total.l0 (n + 1) (sumf f i : Int) xs (xs.length : Int) (i : Int) = some (sumf f s : Int)
  | 0, i, hi => by
    have : i = s := by omega
    subst this
    unfold fascicleref29_Total.l0
    rw [if_neg (by rw [h.1]; omega)]
  | n + 1, i, hi => by
    unfold fascicleref29_Total.l0
    have h1 := h.1
    rw [if_pos (by omega), if_pos (by omega), if_pos (by omega), h.2 i (by omega), w64 (by omega)]
    have hm := sumf_mono f s n (i + 1) (by omega)
    have hm' : sumf f i + f i ≤ sumf f s := hm
    rw [show IntKind.u64.wrap ((sumf f i : Int) + (f i : Int)) = ((sumf f (i + 1) : Nat) : Int) from by
      rw [IntKind.wrap_u64]; show _ = ((sumf f i + f i : Nat) : Int); omega]
    exact tot_l0 h hs hb n (i + 1) (by omega)
theorem tot_f {xs : List Int} {f : Nat → Nat} {s t : Nat} (h : Rw xs f s) (hs : s ≤ 65536) (hC : Cs f s t) : fascicleref29_Total.f (s + 1) xs = some (t : Int) := by
  have := tot_l0 h hs (by have := hC.2.1; have := hC.2.2; omega) s 0 (by omega)
  rw [hC.2.1] at this
  exact this
theorem most_l0 {xs : List Int} {f : Nat → Nat} {s : Nat} (h : Rw xs f s) (hs : s ≤ 65536) : ∀ n i m, i + n = s → (∀ k, k < i → f k ≤ m) → (m = 0 ∨ ∃ k, k < 4294967296 ∧ f k = m) →
    ∃ m' : Nat, fascicleref29_Most.l0 (n + 1) (m : Int) xs (xs.length : Int) (i : Int) = some (m' : Int) ∧ (∀ k, k < s → f k ≤ m') ∧ (m' = 0 ∨ ∃ k, k < 4294967296 ∧ f k = m')
  | 0, i, m, hi, ha, hb => by
    have : i = s := by omega
    subst this
    unfold fascicleref29_Most.l0
    rw [if_neg (by rw [h.1]; omega)]
    exact ⟨m, rfl, ha, hb⟩
  | n + 1, i, m, hi, ha, hb => by
    unfold fascicleref29_Most.l0
    have h1 := h.1
    rw [if_pos (by omega), if_pos (by omega), if_pos (by omega), h.2 i (by omega), w64 (by omega)]
    by_cases hc : m < f i
    · rw [if_pos (by omega)]
      exact most_l0 h hs n (i + 1) (f i) (by omega) (fun k hk => by
        by_cases hki : k = i
        · subst hki; omega
        · have := ha k (by omega); omega) (.inr ⟨i, by omega, rfl⟩)
    · rw [if_neg (by omega)]
      exact most_l0 h hs n (i + 1) m (by omega) (fun k hk => by
        by_cases hki : k = i
        · subst hki; omega
        · exact ha k (by omega)) hb
theorem most_f {xs : List Int} {f : Nat → Nat} {s t : Nat} (h : Rw xs f s) (hs : s ≤ 65536) (hC : Cs f s t) : ∃ m : Nat, fascicleref29_Most.f (s + 1) xs = some (m : Int) ∧ Mx f m := by
  obtain ⟨m, h1, h2, h3⟩ := most_l0 h hs s 0 0 (by omega) (fun k hk => by omega) (.inl rfl)
  refine ⟨m, h1, fun k _ => ?_, h3⟩
  by_cases hk : k < s
  · exact h2 k hk
  · rw [hC.1 k (by omega)]; omega
theorem Mx.uniq {f : Nat → Nat} {m m' : Nat} (h : Mx f m) (h' : Mx f m') : m = m' := by
  obtain ⟨a, b⟩ := h
  obtain ⟨a', b'⟩ := h'
  apply Nat.le_antisymm
  · rcases b with b | ⟨k, hk, b⟩
    · omega
    · rw [← b]; exact a' k hk
  · rcases b' with b | ⟨k, hk, b⟩
    · omega
    · rw [← b]; exact a k hk
theorem least_l0 {xs : List Int} {f : Nat → Nat} {s : Nat} (h : Rw xs f s) (hs : s ≤ 65536) : ∀ n i b, i + n = s → b < s → b ≤ i → (∀ j, j < i → f b ≤ f j) → (∀ j, j < b → f b < f j) →
    ∃ k : Nat, fascicleref29_Least.l0 (n + 1) xs (b : Int) xs (xs.length : Int) (i : Int) = some (k : Int) ∧ Ls f s k
  | 0, i, b, hi, hb, hbi, ha, hc => by
    have : i = s := by omega
    subst this
    unfold fascicleref29_Least.l0
    rw [if_neg (by rw [h.1]; omega)]
    exact ⟨b, by congr 1; omega, hb, ha, hc⟩
  | n + 1, i, b, hi, hb, hbi, ha, hc => by
    unfold fascicleref29_Least.l0
    have h1 := h.1
    rw [if_pos (by omega), if_pos (by omega), if_pos (by omega), if_pos (by omega), if_pos (by omega), h.2 i (by omega), h.2 b hb, w64 (by omega)]
    by_cases hd : f i < f b
    · rw [if_pos (by omega)]
      exact least_l0 h hs n (i + 1) i (by omega) (by omega) (by omega) (fun j hj => by
        by_cases hji : j = i
        · subst hji; omega
        · have := ha j (by omega); omega) (fun j hj => by have := ha j hj; omega)
    · rw [if_neg (by omega)]
      exact least_l0 h hs n (i + 1) b (by omega) hb (by omega) (fun j hj => by
        by_cases hji : j = i
        · subst hji; omega
        · exact ha j (by omega)) hc
theorem least_f {xs : List Int} {f : Nat → Nat} {s : Nat} (h : Rw xs f s) (hs0 : 1 ≤ s) (hs : s ≤ 65536) : ∃ k : Nat, fascicleref29_Least.f (s + 1) xs = some (k : Int) ∧ Ls f s k :=
  least_l0 h hs s 0 0 (by omega) hs0 (Nat.le_refl _) (fun j hj => by omega) (fun j hj => by omega)
theorem Ls.uniq {f : Nat → Nat} {s k k' : Nat} (h : Ls f s k) (h' : Ls f s k') : k = k' := by
  obtain ⟨a, b, c⟩ := h
  obtain ⟨a', b', c'⟩ := h'
  rcases Nat.lt_trichotomy k k' with h1 | h1 | h1
  · have := c' k h1; have := b k' a'; omega
  · exact h1
  · have := c k' h1; have := b' k a; omega

/-! ### the walks -/
theorem ref_Mean (A : Option Addr) (c : Nat) (xs : List Int) (f : Nat → Nat) (s t : Nat) (w : World) (hC : Kd.C (Kd.int .u64) w A s xs) (hR : Rw xs f s) (hc : s ≤ c) (hs : s ≤ 65536) (hJ : Cs f s t) :
    Calls Try.prog 53 #[.slice A s c] w fun r w' => r = .returned (.float .f64 (ratiov t s)) ∧ Drawn0 w w' := by
  have hT := Aside0.mk (tot_f hR hs hJ)
  have hl := hR.1
  have cr := ref_Ratio t s (by have := hJ.2.2; omega) (by omega)
  have hcv : IntKind.u64.wrap (s : Int) = (s : Int) := by rw [IntKind.wrap_u64]; omega
  subst hl
  have hCA := Aside0.mk hC
  have hcA := Aside0.mk hc
  clear hC hR hc hs hJ
  go_enter Try.func53, Try.ntmps53
  go_wp2_with (fail)
  refine (fascicleref29_Total.calls _ A c xs t _ hCA.out hcA.out hT.out).mono ?_
  rintro r w1 ⟨rfl, hd⟩
  have hdA := Aside0.mk hd
  clear hd
  go_wp2_with (fail)
  refine (cr _).mono ?_
  intro ef_ wf_ hf_
  obtain ⟨h1f_, h2f_⟩ := hf_
  subst h1f_
  subst h2f_
  go_wp2_with (fail)
  go_ret
  exact ⟨rfl, hdA.out⟩
theorem ref_Skew (A : Option Addr) (c : Nat) (xs : List Int) (f : Nat → Nat) (s t : Nat) (w : World) (hC : Kd.C (Kd.int .u64) w A s xs) (hR : Rw xs f s) (hc : s ≤ c) (hs0 : 1 ≤ s) (hs : s ≤ 65536) (hJ : Cs f s t) :
    Calls Try.prog 54 #[.slice A s c] w fun r w' => (∃ m, r = .returned (.float .f64 (skewv m t s)) ∧ Mx f m) ∧ Drawn0 w w' := by
  have hT := Aside0.mk (tot_f hR hs hJ)
  obtain ⟨m, hm, hM⟩ := most_f hR hs hJ
  have hmA := Aside0.mk hm
  have hMA := Aside0.mk hM
  have hl := hR.1
  have hmb := (hJ.mx hs hM).1
  have hRA := Aside0.mk hR
  have hJA := Aside0.mk hJ
  have hsA := Aside0.mk hs
  have hCA := Aside0.mk hC
  have hcA := Aside0.mk hc
  have hf := floatOf m
  by_cases h0 : t = 0
  · have hk : skewv m t s = 4607182418800017408 := if_pos h0
    have e0 : ((t : Int) == 0) = true := by rw [h0]; rfl
    subst hl
    clear hC hR hc hs hJ hm hM hmb h0
    go_enter Try.func54, Try.ntmps54
    go_wp2_with (fail)
    refine (fascicleref29_Total.calls _ A c xs t _ hCA.out hcA.out hT.out).mono ?_
    rintro r w1 ⟨rfl, hd⟩
    have hdA := Aside0.mk hd
    clear hd
    go_wp2_with (fail)
    go_ret
    exact ⟨⟨m, by rw [hk]; rfl, hMA.out⟩, hdA.out⟩
  · have e0 : ((t : Int) == 0) = false := beq_false_of_ne (by omega)
    have hdv := skew_div (m := m) (t := t) (s := s) (by omega) (by omega) hJ.2.2 hs0 hs
    have hq : ∀ W : World, (binOp .quo 38 (.float .f64 (fnat m)) (.float .f64 (ratiov t s))).run Try.prog W = .ok (.float .f64 (skewv m t s)) W := fun W => run_float_arith W .quo _ .f64 _ _ _ hdv
    subst hl
    clear hC hR hc hs hJ hm hM hmb h0 hdv
    go_enter Try.func54, Try.ntmps54
    go_wp2_with (fail)
    refine (fascicleref29_Total.calls _ A c xs t _ hCA.out hcA.out hT.out).mono ?_
    rintro r w1 ⟨rfl, ⟨n1, rfl⟩⟩
    go_wp2_with (fail)
    refine (fascicleref29_Most.calls _ A c xs m _ (Kd.C_drewN hCA.out n1) hcA.out hmA.out).mono ?_
    rintro r w2 ⟨rfl, hd⟩
    have hdA := Aside0.mk hd
    clear hd
    go_wp2_with (fail)
    have hC2 : Kd.C (Kd.int .u64) w2 A xs.length xs := by
      obtain ⟨n2, h2⟩ := hdA.out
      rw [h2]; exact Kd.C_drewN (Kd.C_drewN hCA.out n1) n2
    have hC2A := Aside0.mk hC2
    clear hC2
    refine (ref_Mean A c xs f xs.length t _ hC2A.out hRA.out hcA.out hsA.out hJA.out).mono ?_
    rintro r w3 ⟨rfl, hd3⟩
    have hd3A := Aside0.mk hd3
    clear hd3
    go_wp2_with (fail)
    go_ret
    exact ⟨⟨m, rfl, hMA.out⟩, by
      obtain ⟨n2, h2⟩ := hdA.out
      obtain ⟨n3, h3⟩ := hd3A.out
      subst h2 h3
      exact ((Drawn0.refl w).step n1 |>.step n2).step n3⟩
theorem ref_Life (A : Option Addr) (c : Nat) (xs : List Int) (f : Nat → Nat) (s t limit : Nat) (w : World) (hC : Kd.C (Kd.int .u64) w A s xs) (hR : Rw xs f s) (hc : s ≤ c) (hs : s ≤ 65536) (hJ : Cs f s t) (hl : limit < 18446744073709551616) :
    Calls Try.prog 55 #[.slice A s c, .float .f64 limit] w fun r w' => (∃ m, r = .returned (.float .f64 (lifev limit m)) ∧ Mx f m) ∧ Drawn0 w w' := by
  obtain ⟨m, hm, hM⟩ := most_f hR hs hJ
  have hmA := Aside0.mk hm
  have hMA := Aside0.mk hM
  have hln := hR.1
  have hCA := Aside0.mk hC
  have hcA := Aside0.mk hc
  have hfl := floatOf m
  subst hln
  clear hC hR hc hs hJ hm hM
  go_enter Try.func55, Try.ntmps55
  go_wp2_with (fail)
  refine (fascicleref29_Most.calls _ A c xs m _ hCA.out hcA.out hmA.out).mono ?_
  rintro r w1 ⟨rfl, hd⟩
  have hdA := Aside0.mk hd
  clear hd
  cases hsub : Ieee.double.sub limit (fnat m) with
  | none =>
    have hlv : lifev limit m = 0 := by unfold lifev; rw [hsub]
    obtain ⟨d, hr1, hd1, hd2⟩ := run_sub_nan 38 limit (fnat m) w1 hsub
    obtain ⟨q, hr2, hq1, hq2⟩ := run_quo_nan 38 d limit w1.drew (div_nan_left hd1)
    have hn : (FloatKind.f64.format.order q q != some .eq) = true := by rw [f64_ne]; exact decide_eq_true hq1
    clear hd1 hq1 hsub
    go_wp2_with (fail)
    go_ret
    exact ⟨⟨m, by rw [hlv]; rfl, hMA.out⟩, (hdA.out.step 1).step 1⟩
  | some d =>
    have hr1 : ∀ W : World, (binOp .sub 38 (.float .f64 limit) (.float .f64 (fnat m))).run Try.prog W = .ok (.float .f64 d) W := fun W => run_float_arith W .sub _ .f64 _ _ _ hsub
    cases hdv : Ieee.double.div d limit with
    | none =>
      have hlv : lifev limit m = 0 := by unfold lifev; rw [hsub]; simp only [hdv]
      obtain ⟨q, hr2, hq1, hq2⟩ := run_quo_nan 38 d limit w1 hdv
      have hn : (FloatKind.f64.format.order q q != some .eq) = true := by rw [f64_ne]; exact decide_eq_true hq1
      clear hq1 hsub hdv
      go_wp2_with (fail)
      go_ret
      exact ⟨⟨m, by rw [hlv]; rfl, hMA.out⟩, hdA.out.step 1⟩
    | some q =>
      have hlv : lifev limit m = clampv q 0 4607182418800017408 := by unfold lifev; rw [hsub]; simp only [hdv]
      have hr2 : ∀ W : World, (binOp .quo 38 (.float .f64 d) (.float .f64 limit)).run Try.prog W = .ok (.float .f64 q) W := fun W => run_float_arith W .quo _ .f64 _ _ _ hdv
      have hn : (FloatKind.f64.format.order q q != some .eq) = false := by rw [f64_ne]; exact decide_eq_false (div_not_nan hdv)
      have hq2 : q < 18446744073709551616 := Ieee.Format.div_lt _ hdv
      have hcl := ref_Clamp q 0 4607182418800017408 hq2 (by decide) (by decide)
      clear hsub hdv hq2
      go_wp2_with (fail)
      refine (hcl _).mono ?_
      intro ef_ wf_ hf_
      obtain ⟨h1f_, h2f_⟩ := hf_
      subst h1f_
      subst h2f_
      go_wp2_with (fail)
      go_ret
      exact ⟨⟨m, by rw [hlv]; rfl, hMA.out⟩, hdA.out⟩
theorem law_bits (x : Nat) : Tells 52 #[.float .f64 x] (.int .u64 (bitsv x)) := by
  intro w
  have c1 := ref_Bits x
  go_enter Try.func52, Try.ntmps52
  go_wp2_with (fail)
  refine (c1 _).mono ?_
  intro ef_ wf_ hf_
  obtain ⟨h1f_, h2f_⟩ := hf_
  subst h1f_
  subst h2f_
  go_wp2_with (fail)
  go_ret
  exact ⟨rfl, rfl⟩
end Go.Proofs.Ytlakjninlpiedaa.Fw
