/- fasciclelaw03.ThinTails holds: of bytes that are alike but for the last one, their number not a multiple of four, the sums differ; for every input, no condition. -/
import Derived.Test.YtfeaalfajcdalaaGx2
import Derived.Test.YtfeaalfajcdalaaLLives03
import Derived.Test.YtfeaalfajcdalaaLInj
set_option linter.unusedVariables false
set_option linter.unusedSimpArgs false
namespace Go.Proofs.Ytfeaalfajcdalaa.Pure
open Go Go.RowKit Go.Proofs.Ytfeaalfajcdalaa.G Go.Proofs.YtfeaalfajcdalaaW.PrintWords Go.Proofs.YtfeaalfajcdalaaW.PrintLast Go.Proofs.Ytfeaalfajcdalaa.PureKit Go.Proofs.Ytfeaalfajcdalaa.Sep Go.Proofs.Ytfeaalfajcdalaa.Rol

theorem tpart_take (l m : List Int) (vs : List Nat) (i : Nat) (h : 4 * i ≤ l.length) : tpart (l ++ m) vs i = tpart l vs i := by
  induction i with
  | zero => rfl
  | succ i ih =>
    have e : (((l ++ m).drop (4 * i)).take 4) = ((l.drop (4 * i)).take 4) := by
      rw [List.drop_append_of_le_length (by omega), List.take_append_of_le_length (by rw [List.length_drop]; omega)]
    rw [tpart, tpart, ih (by omega), tstep, tstep, e]
theorem tstripes_take (m : List Int) : ∀ (n : Nat) (l : List Int) (vs : List Nat), 16 * n ≤ l.length → tstripes n vs (l ++ m) = tstripes n vs l
  | 0, _, _, _ => rfl
  | n + 1, l, vs, h => by
    rw [tstripes, tstripes, tpart_take l m vs 4 (by omega), List.drop_append_of_le_length (by omega), tstripes_take m n (l.drop 16) _ (by rw [List.length_drop]; omega)]
theorem tfours_take (m : List Int) : ∀ (n h : Nat) (l : List Int), 4 * n ≤ l.length → tfours n h (l ++ m) = tfours n h l
  | 0, _, _, _ => rfl
  | n + 1, h, l, hl => by
    have e : (l ++ m).take 4 = l.take 4 := List.take_append_of_le_length (by omega)
    rw [tfours, tfours, tfour, tfour, e, List.drop_append_of_le_length (by omega), tfours_take m n _ (l.drop 4) (by rw [List.length_drop]; omega)]
/-- Up to the last byte. -/
theorem tsum_snoc (s : Nat) (r : List Int) (hs : s < 4294967296) (hr : (r.length + 1) % 4 ≠ 0) : ∃ h : Nat, h < 4294967296 ∧ ∀ x, tsum s (r ++ [x]) = tfin (tbyte h x) := by
  refine ⟨tbytes (tfours ((r.drop (16 * ((r.length + 1) / 16))).length / 4) (((if r.length + 1 < 16 then (s + 374761393) % 4294967296 else tout (tstripes ((r.length + 1) / 16) (tinit s) r)) + (r.length + 1)) % 4294967296) (r.drop (16 * ((r.length + 1) / 16)))) ((r.drop (16 * ((r.length + 1) / 16))).drop (4 * ((r.drop (16 * ((r.length + 1) / 16))).length / 4))), ?_, fun x => ?_⟩
  · exact tbytes_lt _ (tfours_lt _ _ (Nat.mod_lt _ (by omega)) _) _
  · have hl : (r ++ [x]).length = r.length + 1 := by simp
    have h16 : 16 * ((r.length + 1) / 16) ≤ r.length := by omega
    have e1 : tstart s (r ++ [x]) = (if r.length + 1 < 16 then (s + 374761393) % 4294967296 else tout (tstripes ((r.length + 1) / 16) (tinit s) r)) := by
      unfold tstart
      rw [hl, tstripes_take [x] _ r _ h16]
    have e2 : trest (r ++ [x]) = r.drop (16 * ((r.length + 1) / 16)) ++ [x] := by
      unfold trest
      rw [hl, drop_snoc r x _ h16]
    have hd : (r.drop (16 * ((r.length + 1) / 16))).length = r.length - 16 * ((r.length + 1) / 16) := List.length_drop
    unfold tsum
    rw [e1, e2, hl]
    generalize (if r.length + 1 < 16 then (s + 374761393) % 4294967296 else tout (tstripes ((r.length + 1) / 16) (tinit s) r)) = q
    generalize r.drop (16 * ((r.length + 1) / 16)) = t at *
    have h4 : (t.length + 1) / 4 = t.length / 4 := by omega
    unfold ttail
    rw [show (t ++ [x]).length = t.length + 1 by simp, h4, tfours_take [x] _ _ t (by omega), drop_snoc t x _ (by omega), tbytes_append]
    rfl
theorem add_cancel (M h A B : Nat) (e : (h + A) % M = (h + B) % M) : A % M = B % M := by
  have e2 : ((h + A) % M + (M - h % M)) % M = ((h + B) % M + (M - h % M)) % M := by rw [e]
  rcases Nat.eq_zero_or_pos M with hM | hM
  · subst hM; simp only [Nat.mod_zero] at *; omega
  have key : ∀ C, ((h + C) % M + (M - h % M)) % M = C % M := fun C => by
    have hh := Nat.mod_lt h hM
    have h1 : h = M * (h / M) + h % M := (Nat.div_add_mod h M).symm
    rw [Nat.mod_add_mod]
    have h2 : h + C + (M - h % M) = C + M * (h / M + 1) := by rw [Nat.mul_add, Nat.mul_one]; omega
    rw [h2, Nat.add_mul_mod_self_left]
  rw [← key A, ← key B, e2]
theorem inj_p1 (u v : Nat) (hu : u < 4294967296) (hv : v < 4294967296) (e : u * 2654435761 % 4294967296 = v * 2654435761 % 4294967296) : u = v := mul_inj 4294967296 2654435761 244002641 u v (by rfl) hu hv e
theorem inj_p2 (u v : Nat) (hu : u < 4294967296) (hv : v < 4294967296) (e : u * 2246822519 % 4294967296 = v * 2246822519 % 4294967296) : u = v := mul_inj 4294967296 2246822519 3066638151 u v (by rfl) hu hv e
theorem inj_p3 (u v : Nat) (hu : u < 4294967296) (hv : v < 4294967296) (e : u * 3266489917 % 4294967296 = v * 3266489917 % 4294967296) : u = v := mul_inj 4294967296 3266489917 2828982549 u v (by rfl) hu hv e
theorem inj_p5 (u v : Nat) (hu : u < 4294967296) (hv : v < 4294967296) (e : u * 374761393 % 4294967296 = v * 374761393 % 4294967296) : u = v := mul_inj 4294967296 374761393 2923004241 u v (by rfl) hu hv e
theorem rol32_lt (n x : Nat) (hn : n ≤ 32) (hx : x < 4294967296) : rol 32 n x < 4294967296 := rol_lt 32 n x hn hx
theorem rol32_inj (n x y : Nat) (hn : n ≤ 32) (hx : x < 4294967296) (hy : y < 4294967296) (h : rol 32 n x = rol 32 n y) : x = y := rol_inj 32 n x y hn hx hy h
theorem tmix_inj (n x y : Nat) (hn : 0 < n) (hx : x < 4294967296) (hy : y < 4294967296) (h : tmix n x = tmix n y) : x = y := xs_inj 32 n hn x y hx hy h
theorem mod_lt32 (x : Nat) : x % 4294967296 < 4294967296 := Nat.mod_lt _ (by omega)
theorem tbyte_inj (h : Nat) (x y : Int) (hx : x.toNat < 256) (hy : y.toNat < 256) (e : tbyte h x = tbyte h y) : x.toNat = y.toNat := by
  unfold tbyte at e
  obtain ⟨a, ha⟩ : ∃ a, x.toNat = a := ⟨_, rfl⟩
  obtain ⟨b, hb⟩ : ∃ b, y.toNat = b := ⟨_, rfl⟩
  rw [ha] at hx e ⊢
  rw [hb] at hy e ⊢
  obtain ⟨c, hc⟩ : ∃ c, (h + a * 374761393) % 4294967296 = c := ⟨_, rfl⟩
  obtain ⟨d, hd⟩ : ∃ d, (h + b * 374761393) % 4294967296 = d := ⟨_, rfl⟩
  rw [hc, hd] at e
  have lc : c < 4294967296 := hc ▸ mod_lt32 _
  have ld : d < 4294967296 := hd ▸ mod_lt32 _
  have e2 := inj_p1 (rol 32 11 c) (rol 32 11 d) (rol32_lt 11 c (by decide) lc) (rol32_lt 11 d (by decide) ld) e
  have e3 := rol32_inj 11 c d (by decide) lc ld e2
  exact inj_p5 a b (Nat.lt_trans hx (by decide)) (Nat.lt_trans hy (by decide)) (add_cancel 4294967296 h (a * 374761393) (b * 374761393) (by rw [hc, hd, e3]))
theorem tmix_step (n p : Nat) (inj : ∀ u v : Nat, u < 4294967296 → v < 4294967296 → u * p % 4294967296 = v * p % 4294967296 → u = v) (hn : 0 < n) (x y : Nat) (hx : x < 4294967296) (hy : y < 4294967296) (e : tmix n x * p % 4294967296 = tmix n y * p % 4294967296) : x = y :=
  tmix_inj n x y hn hx hy (inj (tmix n x) (tmix n y) (tmix_lt n x hx) (tmix_lt n y hy) e)
theorem tfin_inj (x y : Nat) (hx : x < 4294967296) (hy : y < 4294967296) (e : tfin x = tfin y) : x = y := by
  unfold tfin at e
  obtain ⟨a, ha⟩ : ∃ a, tmix 15 x * 2246822519 % 4294967296 = a := ⟨_, rfl⟩
  obtain ⟨b, hb⟩ : ∃ b, tmix 15 y * 2246822519 % 4294967296 = b := ⟨_, rfl⟩
  rw [ha, hb] at e
  obtain ⟨c, hc⟩ : ∃ c, tmix 13 a * 3266489917 % 4294967296 = c := ⟨_, rfl⟩
  obtain ⟨d, hd⟩ : ∃ d, tmix 13 b * 3266489917 % 4294967296 = d := ⟨_, rfl⟩
  rw [hc, hd] at e
  have la : a < 4294967296 := ha ▸ mod_lt32 _
  have lb : b < 4294967296 := hb ▸ mod_lt32 _
  have lc : c < 4294967296 := hc ▸ mod_lt32 _
  have ld : d < 4294967296 := hd ▸ mod_lt32 _
  have e1 := tmix_inj 16 c d (by decide) lc ld e
  have e2 := tmix_step 13 3266489917 inj_p3 (by decide) a b la lb (by rw [hc, hd, e1])
  exact tmix_step 15 2246822519 inj_p2 (by decide) x y hx hy (by rw [ha, hb, e2])
theorem tsum_last (s : Nat) (r : List Int) (hs : s < 4294967296) (hr : (r.length + 1) % 4 ≠ 0) (x y : Int) (hx : x.toNat < 256) (hy : y.toNat < 256) (e : tsum s (r ++ [x]) = tsum s (r ++ [y])) : x.toNat = y.toNat := by
  obtain ⟨h, hh, hk⟩ := tsum_snoc s r hs hr
  rw [hk, hk] at e
  exact tbyte_inj h x y hx hy (tfin_inj _ _ (tbyte_lt _ _) (tbyte_lt _ _) e)

theorem tails_long (a : Int) (l : List Int) (x : Int) : Ev (fun k => fasciclelaw03_ThinTails.j0 k a l x true) true := by
  refine Ev.step (f := fun _ => some true) (fun k => ?_) (Ev.now _)
  simp only [fasciclelaw03_ThinTails.j0, if_true]
  rw [lives03]
  rfl
theorem tails_short (a : Int) (r : List Int) (z t : Int) (h0 : 0 ≤ a) (h1 : a < 4294967296) (hb : Bytes (r ++ [z])) (hl : (r ++ [z]).length ≤ 300) (hm : (r.length + 1) % 4 ≠ 0) (ht : 0 ≤ t ∧ t ≤ 255) (ht0 : t ≠ 0) : Ev (fun k => fasciclelaw03_ThinTails.j0 k a (r ++ [z]) t false) true := by
  have hz := hb z (by simp)
  obtain ⟨y, hy, hyl, hyn⟩ := turned z t hz ht ht0
  have hb2 : Bytes (r ++ [(y : Int)]) := fun q hq => by
    rcases List.mem_append.1 hq with hq | hq
    · exact hb q (List.mem_append_left _ hq)
    · rw [List.mem_singleton.1 hq]; omega
  have hlr : r.length + 1 ≤ 300 := by simpa using hl
  have hw : wrap64 (((r ++ [z]).length : Int) - 1) = (r.length : Int) := by rw [List.length_append, List.length_singleton, w64 (by omega) (by omega)]; omega
  have hne : (((tsum a.toNat (r ++ [z]) : Nat) : Int) != ((tsum a.toNat (r ++ [(y : Int)]) : Nat) : Int)) = true := by
    refine bne_iff_ne.2 (fun e => ?_)
    have := tsum_last a.toNat r (by omega) hm z (y : Int) (by omega) (by omega) (by omega)
    omega
  refine Ev.step (f := fun _ => some true) (fun k => ?_) (Ev.now _)
  simp only [fasciclelaw03_ThinTails.j0, Option.bind_some, List.nil_append, List.length_nil]
  rw [if_neg (by decide), if_pos (by simp; omega), hw, if_pos (by omega), if_pos (by rw [List.length_append, List.length_singleton]; omega), rd_snoc, Int.toNat_natCast, set_snoc, hy, thin_ev a _ h0 h1 hb, Option.bind_some, thin_ev a _ h0 h1 hb2, Option.bind_some, hne]
theorem ThinTails : fasciclelaw03_ThinTails.Pure := by
  intro a l x hw _ _ hwf hx
  have hb := Bytes.of_wf hwf
  obtain ⟨h0, h1⟩ := u32_wf hw
  have hx2 := bounds_u8 hx
  refine rounds_of (r := true) ?_
  unfold fasciclelaw03_ThinTails.f
  refine Ev.congr (f := fun k => fasciclelaw03_ThinTails.j0 k a l x (decide ((l.length : Int) > 300) || decide ((l.length : Int) % 4 = 0) || (x == 0))) (fun k => ?_) ?_
  · rw [lives03, Option.bind_some, if_pos rfl]
    by_cases c1 : (l.length : Int) > 300
    · rw [if_pos c1, decide_eq_true c1, Bool.true_or, Bool.true_or]
    · rw [if_neg c1, decide_eq_false c1, Bool.false_or]
      by_cases c2 : (l.length : Int) % 4 = 0
      · rw [if_pos c2, decide_eq_true c2, Bool.true_or]
      · rw [if_neg c2, decide_eq_false c2, Bool.false_or]
  by_cases h : (decide ((l.length : Int) > 300) || decide ((l.length : Int) % 4 = 0) || (x == 0)) = true
  · rw [h]
    exact tails_long a l x
  · rw [Bool.not_eq_true] at h
    rw [h]
    simp only [Bool.or_eq_false_iff, decide_eq_false_iff_not, beq_eq_false_iff_ne] at h
    obtain ⟨⟨c1, c2⟩, c3⟩ := h
    have hl0 : l ≠ [] := by rintro rfl; simp at c2
    obtain ⟨r, z, rfl⟩ := snoc_of l hl0
    rw [List.length_append, List.length_singleton] at c1 c2
    exact tails_short a r z x h0 h1 hb (by rw [List.length_append, List.length_singleton]; omega) (by omega) (by omega) c3

end Go.Proofs.Ytfeaalfajcdalaa.Pure
