/- fasciclelaw04.WideTails holds: of bytes that are alike but for the last one, their number not a multiple of four, the sums differ; for every input, no condition. -/
import Derived.Test.YtfeaalfajcdalaaGx6
import Derived.Test.YtfeaalfajcdalaaHLives04
import Derived.Test.YtfeaalfajcdalaaLInj
set_option linter.unusedVariables false
set_option linter.unusedSimpArgs false
namespace Go.Proofs.Ytfeaalfajcdalaa.Pure
open Go Go.RowKit Go.Proofs.Ytfeaalfajcdalaa.G Go.Proofs.YtfeaalfajcdalaaW.PrintWords Go.Proofs.YtfeaalfajcdalaaW.PrintLast Go.Proofs.Ytfeaalfajcdalaa.PureKit Go.Proofs.Ytfeaalfajcdalaa.Sep Go.Proofs.Ytfeaalfajcdalaa.Rol

theorem u64_wf {x : Int} (h : (Lit.int .u64 x).wf = true) : 0 ≤ x ∧ x < 18446744073709551616 := by
  simp [Lit.wf] at h
  rw [show IntKind.u64.min = 0 by decide, show IntKind.u64.max = 18446744073709551615 by decide] at h
  omega
theorem weights_take (m : List Int) : ∀ (n h : Nat) (l : List Int), 8 * n ≤ l.length → weights n h (l ++ m) = weights n h l
  | 0, _, _, _ => rfl
  | n + 1, h, l, hl => by
    have e : (l ++ m).take 8 = l.take 8 := List.take_append_of_le_length (by omega)
    rw [weights, weights, weight, weight, e, List.drop_append_of_le_length (by omega), weights_take m n _ (l.drop 8) (by rw [List.length_drop]; omega)]
theorem wfour_take (h : Nat) (l m : List Int) (hl : 4 ≤ l.length) : wfour h (l ++ m) = wfour h l := by
  unfold wfour
  rw [List.take_append_of_le_length hl]
/-- What stands behind the numbers of eight bytes, up to the last byte. -/
theorem wlast_snoc (h : Nat) (q : List Int) (hh : h < 18446744073709551616) (hq : (q.length + 1) % 4 ≠ 0) (hq8 : q.length < 8) : ∃ u : Nat, u < 18446744073709551616 ∧ ∀ x, wlast h (q ++ [x]) = wbyte u x := by
  by_cases hl : q.length + 1 < 4
  · refine ⟨wbytes h q, wbytes_lt _ hh _, fun x => ?_⟩
    unfold wlast
    rw [if_pos (by simpa using hl), wbytes_append]
    rfl
  · refine ⟨wbytes (wfour h q) (q.drop 4), wbytes_lt _ (wfour_lt _ _) _, fun x => ?_⟩
    unfold wlast
    rw [if_neg (by simpa using hl), wfour_take h q [x] (by omega), drop_snoc q x 4 (by omega), wbytes_append]
    rfl
theorem wsum_snoc (s : Nat) (r : List Int) (hs : s < 18446744073709551616) (hr : (r.length + 1) % 4 ≠ 0) : ∃ u : Nat, u < 18446744073709551616 ∧ ∀ x, wsum s (r ++ [x]) = wfin (wbyte u x) := by
  have h32 : 32 * ((r.length + 1) / 32) ≤ r.length := by omega
  have hl : ∀ x : Int, (r ++ [x]).length = r.length + 1 := fun x => by simp
  obtain ⟨t, ht⟩ : ∃ t, r.drop (32 * ((r.length + 1) / 32)) = t := ⟨_, rfl⟩
  have htl : t.length = r.length - 32 * ((r.length + 1) / 32) := by rw [← ht, List.length_drop]
  have h8 : (t.length + 1) / 8 = t.length / 8 := by omega
  obtain ⟨q, hq⟩ : ∃ q, t.drop (8 * (t.length / 8)) = q := ⟨_, rfl⟩
  have hql : q.length = t.length - 8 * (t.length / 8) := by rw [← hq, List.length_drop]
  obtain ⟨z, hz⟩ : ∃ z, (wbeg s (wstripes ((r.length + 1) / 32) (winit s) r) (r.length + 1) + (r.length + 1)) % 18446744073709551616 = z := ⟨_, rfl⟩
  have hzl : z < 18446744073709551616 := hz ▸ mod_lt64 _
  obtain ⟨u, hu, hk⟩ := wlast_snoc (weights (t.length / 8) z t) q (weights_lt _ _ hzl _) (by omega) (by omega)
  refine ⟨u, hu, fun x => ?_⟩
  rw [← hk x]
  unfold wsum wstart wvs wtail
  have e2 : wrest (r ++ [x]) = t ++ [x] := by unfold wrest; rw [hl x, drop_snoc r x _ h32, ht]
  rw [e2, hl x, wstripes_take [x] _ r _ h32, hz, show (t ++ [x]).length = t.length + 1 by simp, h8, weights_take [x] _ _ t (by omega), drop_snoc t x _ (by omega), hq]
theorem inj8_p1 (u v : Nat) (hu : u < 18446744073709551616) (hv : v < 18446744073709551616) (e : u * 11400714785074694791 % 18446744073709551616 = v * 11400714785074694791 % 18446744073709551616) : u = v := mul_inj 18446744073709551616 11400714785074694791 614540362697595703 u v (by rfl) hu hv e
theorem inj8_p2 (u v : Nat) (hu : u < 18446744073709551616) (hv : v < 18446744073709551616) (e : u * 14029467366897019727 % 18446744073709551616 = v * 14029467366897019727 % 18446744073709551616) : u = v := mul_inj 18446744073709551616 14029467366897019727 839798700976720815 u v (by rfl) hu hv e
theorem inj8_p3 (u v : Nat) (hu : u < 18446744073709551616) (hv : v < 18446744073709551616) (e : u * 1609587929392839161 % 18446744073709551616 = v * 1609587929392839161 % 18446744073709551616) : u = v := mul_inj 18446744073709551616 1609587929392839161 16855272203555305545 u v (by rfl) hu hv e
theorem inj8_p5 (u v : Nat) (hu : u < 18446744073709551616) (hv : v < 18446744073709551616) (e : u * 2870177450012600261 % 18446744073709551616 = v * 2870177450012600261 % 18446744073709551616) : u = v := mul_inj 18446744073709551616 2870177450012600261 14236653164957433613 u v (by rfl) hu hv e
theorem rol64_inj (n x y : Nat) (hn : n ≤ 64) (hx : x < 18446744073709551616) (hy : y < 18446744073709551616) (h : rol 64 n x = rol 64 n y) : x = y := rol_inj 64 n x y hn hx hy h
theorem wmix_inj (n x y : Nat) (hn : 0 < n) (hx : x < 18446744073709551616) (hy : y < 18446744073709551616) (h : wmix n x = wmix n y) : x = y := xs_inj 64 n hn x y hx hy h
theorem wbyte_inj (h : Nat) (x y : Int) (hh : h < 18446744073709551616) (hx : x.toNat < 256) (hy : y.toNat < 256) (e : wbyte h x = wbyte h y) : x.toNat = y.toNat := by
  unfold wbyte at e
  obtain ⟨a, ha⟩ : ∃ a, x.toNat = a := ⟨_, rfl⟩
  obtain ⟨b, hb⟩ : ∃ b, y.toNat = b := ⟨_, rfl⟩
  rw [ha] at hx e ⊢
  rw [hb] at hy e ⊢
  obtain ⟨c, hc⟩ : ∃ c, a * 2870177450012600261 % 18446744073709551616 = c := ⟨_, rfl⟩
  obtain ⟨d, hd⟩ : ∃ d, b * 2870177450012600261 % 18446744073709551616 = d := ⟨_, rfl⟩
  rw [hc, hd] at e
  have lc : c < 18446744073709551616 := hc ▸ mod_lt64 _
  have ld : d < 18446744073709551616 := hd ▸ mod_lt64 _
  have e2 := inj8_p1 (rol 64 11 (h ^^^ c)) (rol 64 11 (h ^^^ d)) (rol64_lt 11 _ (by decide) (xor_lt64 _ _ hh lc)) (rol64_lt 11 _ (by decide) (xor_lt64 _ _ hh ld)) e
  have e3 := rol64_inj 11 (h ^^^ c) (h ^^^ d) (by decide) (xor_lt64 _ _ hh lc) (xor_lt64 _ _ hh ld) e2
  exact inj8_p5 a b (Nat.lt_trans hx (by decide)) (Nat.lt_trans hy (by decide)) (by rw [hc, hd, xor_cancel h c d e3])
theorem wmix_step (n p : Nat) (inj : ∀ u v : Nat, u < 18446744073709551616 → v < 18446744073709551616 → u * p % 18446744073709551616 = v * p % 18446744073709551616 → u = v) (hn : 0 < n) (x y : Nat) (hx : x < 18446744073709551616) (hy : y < 18446744073709551616) (e : wmix n x * p % 18446744073709551616 = wmix n y * p % 18446744073709551616) : x = y :=
  wmix_inj n x y hn hx hy (inj (wmix n x) (wmix n y) (wmix_lt n x hx) (wmix_lt n y hy) e)
theorem wfin_inj (x y : Nat) (hx : x < 18446744073709551616) (hy : y < 18446744073709551616) (e : wfin x = wfin y) : x = y := by
  unfold wfin at e
  obtain ⟨a, ha⟩ : ∃ a, wmix 33 x * 14029467366897019727 % 18446744073709551616 = a := ⟨_, rfl⟩
  obtain ⟨b, hb⟩ : ∃ b, wmix 33 y * 14029467366897019727 % 18446744073709551616 = b := ⟨_, rfl⟩
  rw [ha, hb] at e
  obtain ⟨c, hc⟩ : ∃ c, wmix 29 a * 1609587929392839161 % 18446744073709551616 = c := ⟨_, rfl⟩
  obtain ⟨d, hd⟩ : ∃ d, wmix 29 b * 1609587929392839161 % 18446744073709551616 = d := ⟨_, rfl⟩
  rw [hc, hd] at e
  have la : a < 18446744073709551616 := ha ▸ mod_lt64 _
  have lb : b < 18446744073709551616 := hb ▸ mod_lt64 _
  have lc : c < 18446744073709551616 := hc ▸ mod_lt64 _
  have ld : d < 18446744073709551616 := hd ▸ mod_lt64 _
  have e1 := wmix_inj 32 c d (by decide) lc ld e
  have e2 := wmix_step 29 1609587929392839161 inj8_p3 (by decide) a b la lb (by rw [hc, hd, e1])
  exact wmix_step 33 14029467366897019727 inj8_p2 (by decide) x y hx hy (by rw [ha, hb, e2])
theorem wsum_last (s : Nat) (r : List Int) (hs : s < 18446744073709551616) (hr : (r.length + 1) % 4 ≠ 0) (x y : Int) (hx : x.toNat < 256) (hy : y.toNat < 256) (e : wsum s (r ++ [x]) = wsum s (r ++ [y])) : x.toNat = y.toNat := by
  obtain ⟨h, hh, hk⟩ := wsum_snoc s r hs hr
  rw [hk, hk] at e
  exact wbyte_inj h x y hh hx hy (wfin_inj _ _ (wbyte_lt _ _) (wbyte_lt _ _) e)

theorem wtails_long (a : Int) (l : List Int) (x : Int) : Ev (fun k => fasciclelaw04_WideTails.j0 k a l x true) true := by
  refine Ev.step (f := fun _ => some true) (fun k => ?_) (Ev.now _)
  simp only [fasciclelaw04_WideTails.j0, if_true]
  rw [lives04]
  rfl
theorem wtails_short (a : Int) (r : List Int) (z t : Int) (h0 : 0 ≤ a) (h1 : a < 18446744073709551616) (hb : Bytes (r ++ [z])) (hl : (r ++ [z]).length ≤ 400) (hm : (r.length + 1) % 4 ≠ 0) (ht : 0 ≤ t ∧ t ≤ 255) (ht0 : t ≠ 0) : Ev (fun k => fasciclelaw04_WideTails.j0 k a (r ++ [z]) t false) true := by
  have hz := hb z (by simp)
  obtain ⟨y, hy, hyl, hyn⟩ := turned z t hz ht ht0
  have hb2 : Bytes (r ++ [(y : Int)]) := fun q hq => by
    rcases List.mem_append.1 hq with hq | hq
    · exact hb q (List.mem_append_left _ hq)
    · rw [List.mem_singleton.1 hq]; omega
  have hlr : r.length + 1 ≤ 400 := by simpa using hl
  have hlz : ∀ x : Int, (r ++ [x]).length ≤ 1000000000000 := fun x => by rw [List.length_append, List.length_singleton]; omega
  have hw : wrap64 (((r ++ [z]).length : Int) - 1) = (r.length : Int) := by rw [List.length_append, List.length_singleton, w64 (by omega) (by omega)]; omega
  have hne : (((wsum a.toNat (r ++ [z]) : Nat) : Int) != ((wsum a.toNat (r ++ [(y : Int)]) : Nat) : Int)) = true := by
    refine bne_iff_ne.2 (fun e => ?_)
    have := wsum_last a.toNat r (by omega) hm z (y : Int) (by omega) (by omega) (Int.ofNat.inj e)
    omega
  refine Ev.step (f := fun _ => some true) (fun k => ?_) (Ev.now _)
  simp only [fasciclelaw04_WideTails.j0, Option.bind_some, List.nil_append, List.length_nil]
  rw [if_neg (by decide), if_pos (by simp; omega), hw, if_pos (by omega), if_pos (by rw [List.length_append, List.length_singleton]; omega), rd_snoc, Int.toNat_natCast, set_snoc, hy, wide_ev a _ h0 h1 hb (hlz _), Option.bind_some, wide_ev a _ h0 h1 hb2 (hlz _), Option.bind_some, hne]
theorem WideTails : fasciclelaw04_WideTails.Pure := by
  intro a l x hw _ _ hwf hx
  have hb := Bytes.of_wf hwf
  obtain ⟨h0, h1⟩ := u64_wf hw
  have hx2 := bounds_u8 hx
  refine rounds_of (r := true) ?_
  unfold fasciclelaw04_WideTails.f
  refine Ev.congr (f := fun k => fasciclelaw04_WideTails.j0 k a l x (decide ((l.length : Int) > 400) || decide ((l.length : Int) % 4 = 0) || (x == 0))) (fun k => ?_) ?_
  · rw [lives04, Option.bind_some, if_pos rfl]
    by_cases c1 : (l.length : Int) > 400
    · rw [if_pos c1, decide_eq_true c1, Bool.true_or, Bool.true_or]
    · rw [if_neg c1, decide_eq_false c1, Bool.false_or]
      by_cases c2 : (l.length : Int) % 4 = 0
      · rw [if_pos c2, decide_eq_true c2, Bool.true_or]
      · rw [if_neg c2, decide_eq_false c2, Bool.false_or]
  by_cases h : (decide ((l.length : Int) > 400) || decide ((l.length : Int) % 4 = 0) || (x == 0)) = true
  · rw [h]
    exact wtails_long a l x
  · rw [Bool.not_eq_true] at h
    rw [h]
    simp only [Bool.or_eq_false_iff, decide_eq_false_iff_not, beq_eq_false_iff_ne] at h
    obtain ⟨⟨c1, c2⟩, c3⟩ := h
    have hl0 : l ≠ [] := by rintro rfl; simp at c2
    obtain ⟨r, z, rfl⟩ := snoc_of l hl0
    rw [List.length_append, List.length_singleton] at c1 c2
    exact wtails_short a r z x h0 h1 hb (by rw [List.length_append, List.length_singleton]; omega) (by omega) (by omega) c3

end Go.Proofs.Ytfeaalfajcdalaa.Pure
