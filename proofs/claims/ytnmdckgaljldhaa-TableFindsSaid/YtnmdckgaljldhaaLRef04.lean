/- fascicleref04.Sum: the document's sum is that of the steps. -/
import Derived.Test.YtnmdckgaljldhaaHRefBegin
import Derived.Test.YtnmdckgaljldhaaGx6
set_option linter.unusedVariables false
set_option linter.unusedSimpArgs false
namespace Go.Proofs.Ytnmdckgaljldhaa.G
open Go Go.RowKit Go.Proofs.YtnmdckgaljldhaaW.PrintWords Go.Proofs.YtnmdckgaljldhaaW.PrintLast Go.Proofs.YtnmdckgaljldhaaW.PrintMore Go.Proofs.Ytnmdckgaljldhaa.PureKit Go.Proofs.Ytnmdckgaljldhaa.Sep Go.Proofs.Ytnmdckgaljldhaa.Rol

theorem mix4_l0 (x n : Nat) (hx : x < 18446744073709551616) (hn : n ≤ 64) : ∀ (d i : Nat), i + d = n → Ev (fun k => fascicleref04_mix.l0 k (x : Int) ((x / 2 ^ i : Nat) : Int) (n : Int) (i : Int)) ((wmix n x : Nat) : Int) := by
  intro d
  induction d with
  | zero =>
    intro i hi
    refine Ev.step (f := fun _ => some ((wmix n x : Nat) : Int)) (fun k => ?_) (Ev.now _)
    simp only [fascicleref04_mix.l0]
    rw [if_neg (by omega), show i = n by omega, bits_xor_u64_nat _ _ hx (Nat.lt_of_le_of_lt (Nat.div_le_self _ _) hx)]
    rfl
  | succ d ih =>
    intro i hi
    refine Ev.step (fun k => ?_) (ih (i + 1) (by omega))
    have hle : x / 2 ^ i ≤ x := Nat.div_le_self _ _
    simp only [fascicleref04_mix.l0]
    rw [Nat.pow_succ, ← Nat.div_div_eq_div_mul]
    generalize x / 2 ^ i = y at *
    rw [if_pos (by omega), Int.tdiv_eq_ediv_of_nonneg (by omega), wu64 (by omega) (by omega), w64 (by omega) (by omega)]
    congr 1
theorem mix4_ev (x n : Nat) (hx : x < 18446744073709551616) (hn : n ≤ 64) : Ev (fun k => fascicleref04_mix.f k (x : Int) (n : Int)) ((wmix n x : Nat) : Int) := by
  have h := mix4_l0 x n hx hn n 0 (by omega)
  rw [Nat.pow_zero, Nat.div_one] at h
  exact h
theorem value_ev (l : List Int) (hb : Bytes l) (hl : l.length ≤ 8) : Ev (fun k => fascicleref01_Value.f k (strOfNums l)) ((leb l : Nat) : Int) := by
  have h := value_l0 l hb hl l.length (Nat.le_refl _)
  rw [List.drop_length] at h
  unfold fascicleref01_Value.f
  rw [nums_size, w64 (by omega) (by omega)]
  exact h
theorem ref4_l2 (r : List Int) (hb : Bytes r) (hl : r.length ≤ 8) (h : Nat) (hh : h < 18446744073709551616) : ∀ (d i : Nat), i + d = r.length → Ev (fun k => fascicleref04_Sum.l2 k (strOfNums r) ((wbytes h (r.take i) : Nat) : Int) (i : Int)) ((wfin (wbytes h r) : Nat) : Int) := by
  intro d
  induction d with
  | zero =>
    intro i hi
    have hz := wbytes_lt h hh r
    obtain ⟨z, hz'⟩ : ∃ z, wbytes h r = z := ⟨_, rfl⟩
    rw [show i = r.length by omega, List.take_length, hz']
    rw [hz'] at hz
    obtain ⟨a1, h1⟩ : ∃ a, wmix 33 z * 14029467366897019727 % 18446744073709551616 = a := ⟨_, rfl⟩
    obtain ⟨a2, h2⟩ : ∃ a, wmix 29 a1 * 1609587929392839161 % 18446744073709551616 = a := ⟨_, rfl⟩
    have e1 := mix4_ev z 33 hz (by decide)
    have e2 := mix4_ev a1 29 (h1 ▸ mod_lt64 _) (by decide)
    have e3 := mix4_ev a2 32 (h2 ▸ mod_lt64 _) (by decide)
    have g1 : IntKind.u64.wrap (((wmix 33 z : Nat) : Int) * 14029467366897019727) = (a1 : Int) := by rw [← h1]; exact mul_step _ 14029467366897019727
    have g2 : IntKind.u64.wrap (((wmix 29 a1 : Nat) : Int) * 1609587929392839161) = (a2 : Int) := by rw [← h2]; exact mul_step _ 1609587929392839161
    have hf : wfin z = wmix 32 a2 := by rw [wfin, h1, h2]
    rw [hf]
    have step : Ev (fun k => (fascicleref04_mix.f k (z : Int) ((33 : Nat) : Int)).bind fun t => (fascicleref04_mix.f k (IntKind.u64.wrap (t * 14029467366897019727)) ((29 : Nat) : Int)).bind fun u => (fascicleref04_mix.f k (IntKind.u64.wrap (u * 1609587929392839161)) ((32 : Nat) : Int)).bind fun v => some v) ((wmix 32 a2 : Nat) : Int) := by
      refine Ev.bind e1 ?_
      rw [g1]
      refine Ev.bind e2 ?_
      rw [g2]
      exact Ev.bind e3 (Ev.now _)
    refine Ev.step (fun k => ?_) step
    simp only [fascicleref04_Sum.l2]
    rw [nums_size, if_neg (by omega)]
    rfl
  | succ d ih =>
    intro i hi
    have hu := wbytes_lt h hh (r.take i)
    have hnext := wbytes_take r h i (by omega)
    have hyb := hb r[i] (List.getElem_mem (by omega))
    have hbt := bt_nums r hb i (by omega)
    obtain ⟨u, hu'⟩ : ∃ u, wbytes h (r.take i) = u := ⟨_, rfl⟩
    rw [hu'] at hu hnext ⊢
    obtain ⟨y5, hy⟩ : ∃ y, r[i]'(by omega) = y := ⟨_, rfl⟩
    rw [hy] at hnext hyb hbt
    obtain ⟨b5, rfl⟩ := Int.eq_ofNat_of_zero_le hyb.1
    obtain ⟨q5, z5, t5, z6, g1, g2, g3, g4, g5, g6⟩ := wbyte_step u b5 hu
    have e1 := turn4_ev z5 11 g3 (by decide)
    rw [g4] at e1
    have hrec := ih (i + 1) (by omega)
    rw [hnext, g6] at hrec
    have step : Ev (fun k => (fascicleref04_turn.f k (z5 : Int) ((11 : Nat) : Int)).bind fun t => fascicleref04_Sum.l2 k (strOfNums r) (IntKind.u64.wrap (t * 11400714785074694791)) ((i + 1 : Nat) : Int)) ((wfin (wbytes h r) : Nat) : Int) := by
      refine Ev.bind e1 ?_
      rw [g5]
      exact hrec
    refine Ev.step (fun k => ?_) step
    simp only [fascicleref04_Sum.l2]
    rw [nums_size, if_pos (by omega), if_pos (by omega), hbt, wu64 (x := ((b5 : Nat) : Int)) (by omega) (by omega), g1, g2, w64 (by omega) (by omega)]
    rfl
theorem ref4_l1b (r : List Int) (hb : Bytes r) (hl : r.length < 4) (h : Nat) (hh : h < 18446744073709551616) : Ev (fun k => fascicleref04_Sum.l1 k (strOfNums r) (h : Int)) ((wfin (wbytes h r) : Nat) : Int) := by
  have h2 := ref4_l2 r hb (by omega) h hh r.length 0 (by omega)
  refine Ev.step (fun k => ?_) h2
  simp only [fascicleref04_Sum.l1]
  rw [nums_size, if_neg (by omega), List.take_zero]
  rfl
theorem ref4_l1 (r : List Int) (hb : Bytes r) (hl : r.length < 8) (h : Nat) (hh : h < 18446744073709551616) : Ev (fun k => fascicleref04_Sum.l1 k (strOfNums r) (h : Int)) ((wfin (wlast h r) : Nat) : Int) := by
  by_cases h4 : r.length < 4
  · rw [wlast, if_pos h4]
    exact ref4_l1b r hb h4 h hh
  · rw [wlast, if_neg h4]
    obtain ⟨y, q4, z, t, z1, z2, e1, e2, e3, e4, e5, e6, e7, e8⟩ := wfour_step h r hh hb
    have hv := value_ev (r.take 4) (hb.take _) (by rw [List.length_take]; omega)
    rw [e1] at hv
    have ht := turn4_ev z 23 e4 (by decide)
    rw [e5] at ht
    have hrec := ref4_l1b (r.drop 4) (hb.drop 4) (by rw [List.length_drop]; omega) z2 (by rw [← e8]; exact wfour_lt _ _)
    rw [e8]
    have step : Ev (fun k => (fascicleref01_Value.f k (strOfNums (r.take 4))).bind fun v => (fascicleref04_turn.f k (bits .xor .u64 (h : Int) (IntKind.u64.wrap (v * 11400714785074694791))) ((23 : Nat) : Int)).bind fun u => fascicleref04_Sum.l1 k (strOfNums (r.drop 4)) (IntKind.u64.wrap (IntKind.u64.wrap (u * 14029467366897019727) + 1609587929392839161))) ((wfin (wbytes z2 (r.drop 4)) : Nat) : Int) := by
      refine Ev.bind hv ?_
      rw [e2, e3]
      refine Ev.bind ht ?_
      rw [e6, e7]
      exact hrec
    refine Ev.step (fun k => ?_) step
    have hx1 : (strOfNums r).extract 0 4 = strOfNums (r.take 4) := by rw [nums_extract, List.drop_zero]
    have hx2 : (strOfNums r).extract 4 r.length = strOfNums (r.drop 4) := by rw [nums_extract, List.take_of_length_le (by omega)]
    simp only [fascicleref04_Sum.l1]
    rw [nums_size, if_pos (by omega), if_pos (by omega), if_pos (by omega), hx1, hx2]
    rfl
theorem wtail_small (h : Nat) (r : List Int) (hl : r.length < 8) : wtail h r = wlast h r := by
  unfold wtail
  rw [show r.length / 8 = 0 by omega]
  rfl
theorem wtail_step (h : Nat) (r : List Int) (hl : 8 ≤ r.length) : wtail h r = wtail (weight h r) (r.drop 8) := by
  unfold wtail
  rw [List.length_drop, show r.length / 8 = (r.length - 8) / 8 + 1 by omega, weights, List.drop_drop]
  congr 2
  omega
theorem ref4_l0 : ∀ (n : Nat) (r : List Int) (hb : Bytes r) (hn : r.length / 8 = n) (h : Nat) (hh : h < 18446744073709551616), Ev (fun k => fascicleref04_Sum.l0 k (strOfNums r) (h : Int)) ((wfin (wtail h r) : Nat) : Int) := by
  intro n
  induction n with
  | zero =>
    intro r hb hn h hh
    rw [wtail_small h r (by omega)]
    refine Ev.step (fun k => ?_) (ref4_l1 r hb (by omega) h hh)
    simp only [fascicleref04_Sum.l0]
    rw [nums_size, if_neg (by omega)]
  | succ n ih =>
    intro r hb hn h hh
    obtain ⟨y, wy, z, t, z1, z2, e1, e2, e3, e4, e5, e6, e7, e8, e9⟩ := weight_step h r hh hb
    have hv := value_ev (r.take 8) (hb.take _) (by rw [List.length_take]; omega)
    rw [e1] at hv
    have hi := into4_ev 0 y (by decide) e2
    rw [e3] at hi
    have ht := turn4_ev z 27 e5 (by decide)
    rw [e6] at ht
    have hrec := ih (r.drop 8) (hb.drop 8) (by rw [List.length_drop]; omega) z2 (by rw [← e9]; exact weight_lt _ _)
    rw [wtail_step h r (by omega), e9]
    have step : Ev (fun k => (fascicleref01_Value.f k (strOfNums (r.take 8))).bind fun v => (fascicleref04_into.f k ((0 : Nat) : Int) v).bind fun q => (fascicleref04_turn.f k (bits .xor .u64 (h : Int) q) ((27 : Nat) : Int)).bind fun u => fascicleref04_Sum.l0 k (strOfNums (r.drop 8)) (IntKind.u64.wrap (IntKind.u64.wrap (u * 11400714785074694791) + 9650029242287828579))) ((wfin (wtail z2 (r.drop 8)) : Nat) : Int) := by
      refine Ev.bind hv ?_
      refine Ev.bind hi ?_
      rw [e4]
      refine Ev.bind ht ?_
      rw [e7, e8]
      exact hrec
    refine Ev.step (fun k => ?_) step
    have hx1 : (strOfNums r).extract 0 8 = strOfNums (r.take 8) := by rw [nums_extract, List.drop_zero]
    have hx2 : (strOfNums r).extract 8 r.length = strOfNums (r.drop 8) := by rw [nums_extract, List.take_of_length_le (by omega)]
    simp only [fascicleref04_Sum.l0]
    rw [nums_size, if_pos (by omega), if_pos (by omega), if_pos (by omega), hx1, hx2]
    rfl
theorem ref4_ev (a : Int) (l : List Int) (h0 : 0 ≤ a) (h1 : a < 18446744073709551616) (hb : Bytes l) (hl : l.length ≤ 1000000000000) : Ev (fun k => fascicleref04_Sum.f k a (strOfNums l)) ((wsum a.toNat l : Nat) : Int) := by
  obtain ⟨s, rfl⟩ := Int.eq_ofNat_of_zero_le h0
  rw [Int.toNat_natCast]
  have hs : s < 18446744073709551616 := by omega
  unfold fascicleref04_Sum.f
  have hw : IntKind.u64.wrap ((l.length : Nat) : Int) = (l.length : Int) := wu64 (by omega) (by omega)
  have hq := wstart_lt s l
  have key : Ev (fun k => fascicleref04_Sum.j0 k (strOfNums (wrest l)) (l.length : Int) ((wstart s l : Nat) : Int)) ((wsum s l : Nat) : Int) := by
    rw [wsum]
    refine Ev.step (fun k => ?_) (ref4_l0 _ (wrest l) (hb.drop _) rfl ((wstart s l + l.length) % 18446744073709551616) (mod_lt64 _))
    simp only [fascicleref04_Sum.j0]
    rw [add_step]
  by_cases c : l.length < 32
  · have e1 : wrest l = l := by unfold wrest; rw [show l.length / 32 = 0 by omega]; rfl
    have e2 : IntKind.u64.wrap ((s : Int) + 2870177450012600261) = ((wstart s l : Nat) : Int) := by
      rw [wstart, wbeg, if_pos c]
      exact add_step s 2870177450012600261
    rw [e1] at key
    refine Ev.congr (fun k => ?_) key
    rw [nums_size, if_neg (by omega), hw, e2]
  · refine Ev.congr (fun k => ?_) key
    rw [nums_size, if_pos (by omega), hw]
    have hbg : fascicleref04_begin.f (s : Int) (strOfNums l) = some (((wout (wvs s l) : Nat) : Int), strOfNums (wrest l)) := by
      unfold fascicleref04_begin.f
      rw [if_pos ⟨h0, h1, by rw [nums_size]; exact hl⟩, sby_nums l hb, Int.toNat_natCast]
    rw [hbg, Option.bind_some, wstart, wbeg, if_neg c]

end Go.Proofs.Ytnmdckgaljldhaa.G
