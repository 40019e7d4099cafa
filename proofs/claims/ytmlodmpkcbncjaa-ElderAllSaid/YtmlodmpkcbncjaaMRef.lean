/- HRefThin HRefSum HRefLong, in one text (merge.py). -/
import Derived.Test.YtmlodmpkcbncjaaMThin
import Derived.Test.YtmlodmpkcbncjaaGx5
import Derived.Test.YtmlodmpkcbncjaaHValue
import Derived.Test.YtmlodmpkcbncjaaMBuf
/- fascicleref03: turn, into, mix; fascicleref01.Value. -/
set_option linter.unusedVariables false
set_option linter.unusedSimpArgs false
namespace Go.Proofs.Ytmlodmpkcbncjaa.G
open Go Go.RowKit Go.Proofs.YtmlodmpkcbncjaaW.PrintWords Go.Proofs.YtmlodmpkcbncjaaW.PrintLast Go.Proofs.YtmlodmpkcbncjaaW.PrintMore Go.Proofs.Ytmlodmpkcbncjaa.PureKit Go.Proofs.Ytmlodmpkcbncjaa.Sep Go.Proofs.Ytmlodmpkcbncjaa.Rol

theorem turn_l0 (x n : Nat) (hx : x < 4294967296) (hn : n ≤ 32) : ∀ (d i : Nat), i + d = n → Ev (fun k => fascicleref03_turn.l0 k ((rol 32 i x : Nat) : Int) (n : Int) (i : Int)) ((rol 32 n x : Nat) : Int) := by
  intro d
  induction d with
  | zero =>
    intro i hi
    refine Ev.step (f := fun _ => some ((rol 32 n x : Nat) : Int)) (fun k => ?_) (Ev.now _)
    simp only [fascicleref03_turn.l0]
    rw [if_neg (by omega), show i = n by omega]
  | succ d ih =>
    intro i hi
    refine Ev.step (fun k => ?_) (ih (i + 1) (by omega))
    have hl := rol_lt 32 i x (by omega) hx
    simp only [fascicleref03_turn.l0]
    rw [if_pos (by omega)]
    rw [rol_succ 32 i x (by omega) hx]
    generalize rol 32 i x = y at *
    have hl' : y < 4294967296 := hl
    rw [wu64 (x := 2 * (y : Int)) (by omega) (by omega), Int.tmod_eq_emod_of_nonneg (by omega), Int.tdiv_eq_ediv_of_nonneg (by omega), wu64 (x := (y : Int) / 2147483648) (by omega) (by omega), wu64 (by omega) (by omega), w64 (by omega) (by omega)]
    congr 1
theorem turn_ev (x n : Nat) (hx : x < 4294967296) (hn : n ≤ 32) : Ev (fun k => fascicleref03_turn.f k (x : Int) (n : Int)) ((rol 32 n x : Nat) : Int) := by
  have := turn_l0 x n hx hn n 0 (by omega)
  rw [rol_zero 32 x hx] at this
  exact this
theorem turn_calls (w : World) (x n : Nat) (a b : Int) (ha : a = (x : Int)) (hb : b = (n : Int)) (hx : x < 4294967296) (hn : n ≤ 32) :
    Calls Try.prog 90 #[.int .u64 a, .int .i64 b] w fun e w' => e = .returned (.int .u64 ((rol 32 n x : Nat) : Int)) ∧ Drawn0 w w' := by
  subst ha
  subst hb
  obtain ⟨k, hk⟩ := (turn_ev x n hx hn).rounds
  exact fascicleref03_turn.calls k _ _ _ w hk
theorem into_calls (w : World) (x y : Nat) (a b : Int) (ha : a = (x : Int)) (hb : b = (y : Int)) (hx : x < 4294967296) (hy : y < 4294967296) :
    Calls Try.prog 89 #[.int .u64 a, .int .u64 b] w fun e w' => e = .returned (.int .u64 ((tin x y : Nat) : Int)) ∧ Drawn0 w w' := by
  subst ha
  subst hb
  have hp : y * 2246822519 ≤ 4294967295 * 2246822519 := Nat.mul_le_mul_right _ (by omega)
  obtain ⟨k, hk⟩ := (turn_ev ((x + y * 2246822519) % 4294967296) 13 (Nat.mod_lt _ (by omega)) (by omega)).rounds
  refine fascicleref03_into.calls k _ _ _ w ?_
  have hr := rol_lt 32 13 ((x + y * 2246822519) % 4294967296) (by omega) (Nat.mod_lt _ (by omega))
  unfold fascicleref03_into.f
  rw [wu64 (x := (y : Int) * 2246822519) (by omega) (by omega), wu64 (by omega) (by omega), Int.tmod_eq_emod_of_nonneg (by omega), show ((x : Int) + (y : Int) * 2246822519) % 4294967296 = (((x + y * 2246822519) % 4294967296 : Nat) : Int) by omega]
  have hk' : fascicleref03_turn.f k (((x + y * 2246822519) % 4294967296 : Nat) : Int) 13 = some ((rol 32 13 ((x + y * 2246822519) % 4294967296) : Nat) : Int) := hk
  rw [hk', Option.bind_some]
  unfold tin
  generalize rol 32 13 ((x + y * 2246822519) % 4294967296) = z at *
  have hr' : z < 4294967296 := hr
  rw [wu64 (by omega) (by omega), Int.tmod_eq_emod_of_nonneg (by omega)]
  congr 1
theorem mix_l0 (x n : Nat) (hx : x < 4294967296) (hn : n ≤ 64) : ∀ (d i : Nat), i + d = n → Ev (fun k => fascicleref03_mix.l0 k (x : Int) ((x / 2 ^ i : Nat) : Int) (n : Int) (i : Int)) ((tmix n x : Nat) : Int) := by
  intro d
  induction d with
  | zero =>
    intro i hi
    refine Ev.step (f := fun _ => some ((tmix n x : Nat) : Int)) (fun k => ?_) (Ev.now _)
    simp only [fascicleref03_mix.l0]
    rw [if_neg (by omega), show i = n by omega, bits_xor_u64_nat _ _ (by omega) (Nat.lt_of_le_of_lt (Nat.div_le_self _ _) (by omega))]
    rfl
  | succ d ih =>
    intro i hi
    refine Ev.step (fun k => ?_) (ih (i + 1) (by omega))
    have hle : x / 2 ^ i ≤ x := Nat.div_le_self _ _
    simp only [fascicleref03_mix.l0]
    rw [Nat.pow_succ, ← Nat.div_div_eq_div_mul]
    generalize x / 2 ^ i = y at *
    rw [if_pos (by omega), Int.tdiv_eq_ediv_of_nonneg (by omega), wu64 (by omega) (by omega)]
    rw [w64 (by omega) (by omega)]
    congr 1
theorem mix_calls (w : World) (x n : Nat) (a b : Int) (ha : a = (x : Int)) (hb : b = (n : Int)) (hx : x < 4294967296) (hn : n ≤ 64) :
    Calls Try.prog 91 #[.int .u64 a, .int .i64 b] w fun e w' => e = .returned (.int .u64 ((tmix n x : Nat) : Int)) ∧ Drawn0 w w' := by
  subst ha
  subst hb
  have h := mix_l0 x n hx hn n 0 (by omega)
  rw [Nat.pow_zero, Nat.div_one] at h
  obtain ⟨k, hk⟩ := h.rounds
  exact fascicleref03_mix.calls k _ _ _ w hk

end Go.Proofs.Ytmlodmpkcbncjaa.G

/- fascicleref03.Sum. -/
set_option linter.unusedVariables false
set_option linter.unusedSimpArgs false
namespace Go.Proofs.Ytmlodmpkcbncjaa.G
open Go Go.RowKit Go.Proofs.YtmlodmpkcbncjaaW.PrintWords Go.Proofs.YtmlodmpkcbncjaaW.PrintLast Go.Proofs.YtmlodmpkcbncjaaW.PrintMore Go.Proofs.Ytmlodmpkcbncjaa.PureKit Go.Proofs.Ytmlodmpkcbncjaa.Sep Go.Proofs.Ytmlodmpkcbncjaa.Rol

def tvals8 (vs : List Nat) : Array Value := (vs.map (fun (v : Nat) => Value.int .u64 (v : Int))).toArray
theorem tvals8_set (us : List Nat) (j x : Nat) : (tvals8 us).setIfInBounds j (.int .u64 (x : Int)) = tvals8 (us.set j x) := by
  unfold tvals8
  rw [List.setIfInBounds_toArray, List.map_set]

set_option maxHeartbeats 4000000 in
set_option maxRecDepth 100000 in
theorem ref_sum_short (w : World) (l : List Int) (s : Nat) (hb : Bytes l) (hl : l.length ≤ 1000000000000) (hs : s < 4294967296) (hsh : l.length < 16) :
    Calls Try.prog 70 #[.int .u32 (s : Int), .string (strOfNums l)] w fun e w' => e = .returned (.int .u32 ((tsum s l : Nat) : Int)) ∧ Below w.heap.size w w' := by
  have hsz : (strOfNums l).size = l.length := nums_size l
  obtain ⟨lw, hlw⟩ : ∃ lw : Nat, l.length % 4294967296 = lw := ⟨_, rfl⟩
  have fl : IntKind.u64.wrap (l.length : Int) = (l.length : Int) := wu64 (by omega) (by omega)
  have fl2 : (l.length : Int) % 4294967296 = (lw : Int) := by omega
  have fl3 : Int.tmod (l.length : Int) 4294967296 = (lw : Int) := by rw [Int.tmod_eq_emod_of_nonneg (by omega)]; omega
  have hlwl : lw < 4294967296 := by rw [← hlw]; exact Nat.mod_lt _ (by omega)
  have hd : decide ((l.length : Int) ≥ 16) = false := decide_eq_false (by omega)
  obtain ⟨p5, hp5⟩ : ∃ p5 : Nat, (s + 374761393) % 4294967296 = p5 := ⟨_, rfl⟩
  have hp5l : p5 < 4294967296 := by rw [← hp5]; exact Nat.mod_lt _ (by omega)
  have fp5 : ((s : Int) + 374761393) % 4294967296 = (p5 : Int) := by rw [← hp5]; omega
  obtain ⟨h0, hh0⟩ : ∃ h0 : Nat, (p5 + lw) % 4294967296 = h0 := ⟨_, rfl⟩
  have hh0l : h0 < 4294967296 := by rw [← hh0]; exact Nat.mod_lt _ (by omega)
  have fh0 : ((p5 : Int) + (lw : Int)) % 4294967296 = (h0 : Int) := by rw [← hh0]; omega
  have hh0A : Aside0 (h0 = (tstart s l + l.length) % 4294967296) := ⟨by unfold tstart; rw [if_pos hsh]; omega⟩
  obtain ⟨r, hr⟩ : ∃ r, trest l = r := ⟨_, rfl⟩
  have hrl : r = l := by rw [← hr]; unfold trest; rw [show l.length / 16 = 0 by omega]; rfl
  have hrA := Aside0.mk hr
  have hrb : Bytes r := by rw [hrl]; exact hb
  have hrlA := Aside0.mk hrl
  have hrlen : r.length ≤ 1000000000000 := by rw [hrl]; exact hl
  clear hlw hp5 hh0 hr hrl
  go_enter Try.func70, Try.ntmps70
  go_wp2_with (fail)
  try simp only [fp5, fh0]
  go_loopg [1, 5] (r.length / 4) (fun kq v1 v5 w' => ∃ (i : Nat), v1 = .string (strOfNums (r.drop (4 * i))) ∧ v5 = .int .u64 ((tfours i h0 r : Nat) : Int) ∧ Aside0 (i + kq = r.length / 4) ∧ Below w.heap.size w w')
  case atStart => exact ⟨0, by rw [Nat.mul_zero, List.drop_zero, hrlA.out], rfl, ⟨by omega⟩, by first | exact Below.refl w.heap.size w | (have := Below.refl w.heap.size w; simpa using this)⟩
  case round =>
    obtain ⟨i, rfl, rfl, hA, hBw⟩ := hrel
    have hBw := Aside0.mk hBw
    obtain ⟨x, hx⟩ : ∃ x, tfours i h0 r = x := ⟨_, rfl⟩
    have hxl : x < 4294967296 := by rw [← hx]; exact tfours_lt r h0 hh0l i
    rw [hx]
    by_cases hin : i < r.length / 4
    · have hlen : (r.drop (4 * i)).length = r.length - 4 * i := by rw [List.length_drop]
      have h4 : 4 ≤ (r.drop (4 * i)).length := by omega
      have hxA := Aside0.mk hx
      clear hx
      have hb1 : Bytes (r.drop (4 * i)) := hrb.drop _
      obtain ⟨k1, rfl⟩ : ∃ k1, gk = k1 + 1 := ⟨gk - 1, by have := hA.out; omega⟩
      generalize hll : r.drop (4 * i) = l1 at *
      have hsz1 : (strOfNums l1).size = l1.length := nums_size l1
      have hd1 : decide ((l1.length : Int) ≥ 4) = true := decide_eq_true (by omega)
      have hl1l : l1.length ≤ 1000000000000 := by rw [hlen]; omega
      obtain ⟨y, hy⟩ : ∃ y, leb (l1.take 4) = y := ⟨_, rfl⟩
      have hyl : y < 4294967296 := by rw [← hy]; exact leb_lt4 _ (hb1.take _) 4 (by rw [List.length_take]; omega)
      have hyA := Aside0.mk hy
      have h4A := Aside0.mk h4
      have hex : (strOfNums l1).extract 0 4 = strOfNums (l1.take 4) := by rw [nums_extract, List.drop_zero]
      have hex2 : (strOfNums l1).extract 4 l1.length = strOfNums (l1.drop 4) := by rw [nums_extract, List.take_of_length_le (by omega)]
      have yp : y * 3266489917 ≤ 4294967295 * 3266489917 := Nat.mul_le_mul_right _ (by omega)
      obtain ⟨z, hz⟩ : ∃ z : Nat, (x + y * 3266489917) % 4294967296 = z := ⟨_, rfl⟩
      have hzl : z < 4294967296 := by rw [← hz]; exact Nat.mod_lt _ (by omega)
      have g1 : IntKind.u64.wrap ((y : Int) * 3266489917) = (y : Int) * 3266489917 := wu64 (by omega) (by omega)
      have g2 : IntKind.u64.wrap ((x : Int) + (y : Int) * 3266489917) = (x : Int) + (y : Int) * 3266489917 := wu64 (by omega) (by omega)
      have g3 : Int.tmod ((x : Int) + (y : Int) * 3266489917) 4294967296 = (z : Int) := by rw [Int.tmod_eq_emod_of_nonneg (by omega), ← hz]; omega
      have g4 : ((x : Int) + (y : Int) * 3266489917) % 4294967296 = (z : Int) := by rw [← hz]; omega
      have hzA := Aside0.mk hz
      have h4i : (4 : Int) ≤ (l1.length : Int) := by omega
      clear hz hy hlen yp
      go_wp2_with (first | ((with_reducible refine gate_callee (f := 71) rfl ?_); refine goesL_ (some 87) rfl rfl Try.func71 (by kernel_rfl) rfl #[.string (strOfNums (l1.take 4))] rfl (by (try simp only [List.map_toArray, List.map_cons, List.map_nil]); first | done | rfl) ?_; have hv := value_calls wr (l1.take 4) _ rfl (hb1.take _) (by rw [List.length_take]; omega); rw [hyA.out] at hv; (refine hv.mono ?_); clear hv; rintro e w4 ⟨rfl, ⟨n2, rfl⟩⟩; refine ⟨_, rfl, ?_⟩))
      refine (turn_calls _ z 17 _ 17 rfl rfl hzl (by omega)).mono ?_
      rintro e w4 ⟨rfl, ⟨n3, rfl⟩⟩
      obtain ⟨t, ht⟩ : ∃ t, rol 32 17 z = t := ⟨_, rfl⟩
      have htl : t < 4294967296 := by rw [← ht]; exact rol_lt 32 17 z (by omega) hzl
      rw [ht]
      have htA := Aside0.mk ht
      clear ht
      go_wp2_with (fail)
      go_roundg k1
      case measure => omega
      case rel =>
        have e : r.drop (4 * (i + 1)) = l1.drop 4 := by rw [← hll, List.drop_drop]; congr 1
        refine ⟨i + 1, ?_, ?_, ⟨by have := hA.out; omega⟩, ?_⟩
        · rw [e]
        · refine congrArg (Value.int .u64) ?_
          rw [tfours_succ, hxA.out, hll]
          unfold tfour
          rw [hyA.out, hzA.out, htA.out]
          omega
        · exact pw_below_drewN hBw.out _
    · have hie : i = r.length / 4 := by have := hA.out; omega
      have hlen : (r.drop (4 * i)).length = r.length - 4 * i := by rw [List.length_drop]
      have hsum : tsum s l = tfin (tbytes x (r.drop (4 * i))) := by
        unfold tsum ttail
        rw [hrA.out, ← hh0A.out, ← hie, hx]
      have hsumA := Aside0.mk hsum
      have hb2 : Bytes (r.drop (4 * i)) := hrb.drop _
      have hlt2 : (r.drop (4 * i)).length < 4 := by omega
      clear hx hsum hlen
      generalize hll : r.drop (4 * i) = l2 at *
      have hsz2 : (strOfNums l2).size = l2.length := nums_size l2
      have hd1 : decide ((l2.length : Int) ≥ 4) = false := decide_eq_false (by omega)
      have hlt2A := Aside0.mk hlt2
      clear hlt2
      go_wp2_with (fail)
      go_loopg [5, 9] l2.length (fun kq v5 v9 w' => ∃ (j : Nat), v5 = .int .u64 ((tbytes x (l2.take j) : Nat) : Int) ∧ v9 = .int .i64 j ∧ Aside0 (j + kq = l2.length) ∧ Below w.heap.size w w')
      case atStart => exact ⟨0, rfl, rfl, ⟨by omega⟩, by first | exact hBw.out | exact pw_below_drewN hBw.out _⟩
      case round =>
        obtain ⟨j, rfl, rfl, hj, hBw⟩ := hrel
        have hBw := Aside0.mk hBw
        obtain ⟨z, hz⟩ : ∃ z, tbytes x (l2.take j) = z := ⟨_, rfl⟩
        have hzl : z < 4294967296 := by rw [← hz]; exact tbytes_lt x hxl _
        rw [hz]
        have hzA := Aside0.mk hz
        clear hz
        by_cases hjn : j < l2.length
        · have hd2 : decide ((j : Int) < (l2.length : Int)) = true := decide_eq_true (by omega)
          obtain ⟨k1, rfl⟩ : ∃ k1, gk = k1 + 1 := ⟨gk - 1, by have := hj.out; omega⟩
          have hyb := hb2 l2[j] (List.getElem_mem hjn)
          have hbt := bt_nums l2 hb2 j hjn
          obtain ⟨y, hy⟩ : ∃ y, l2[j]'hjn = y := ⟨_, rfl⟩
          rw [hy] at hbt hyb
          have hyA := Aside0.mk hy
          clear hy
          have p0 : ((0 : Int) ≤ (j : Int)) = True := eq_true (by omega)
          have q0 : ((j : Int) < (l2.length : Int)) = True := eq_true (by omega)
          obtain ⟨yn, rfl⟩ := Int.eq_ofNat_of_zero_le hyb.1
          have hyn : yn ≤ 255 := by omega
          clear hyb
          obtain ⟨q, hq⟩ : ∃ q : Nat, (z + yn * 374761393) % 4294967296 = q := ⟨_, rfl⟩
          have hql : q < 4294967296 := by rw [← hq]; exact Nat.mod_lt _ (by omega)
          have g0 : ∀ h2 : j < (strOfNums l2).size, (((strOfNums l2)[j]'h2).toNat : Int) = (yn : Int) := fun h2 => (bt_at (strOfNums l2) j h2).trans hbt
          have g1 : IntKind.u64.wrap (yn : Int) = (yn : Int) := wu64 (by omega) (by omega)
          have g2 : IntKind.u64.wrap ((yn : Int) * 374761393) = (yn : Int) * 374761393 := wu64 (by omega) (by omega)
          have g3 : IntKind.u64.wrap ((z : Int) + (yn : Int) * 374761393) = (z : Int) + (yn : Int) * 374761393 := wu64 (by omega) (by omega)
          have g4 : ((z : Int) + (yn : Int) * 374761393) % 4294967296 = (q : Int) := by rw [← hq]; omega
          have g5 : Int.tmod ((z : Int) + (yn : Int) * 374761393) 4294967296 = (q : Int) := by rw [Int.tmod_eq_emod_of_nonneg (by omega)]; exact g4
          have hqA := Aside0.mk hq
          clear hq
          go_wp2_with (fail)
          refine (turn_calls _ q 11 _ 11 rfl rfl hql (by omega)).mono ?_
          rintro e w4 ⟨rfl, ⟨n3, rfl⟩⟩
          obtain ⟨t, ht⟩ : ∃ t, rol 32 11 q = t := ⟨_, rfl⟩
          have htl : t < 4294967296 := by rw [← ht]; exact rol_lt 32 11 q (by omega) hql
          rw [ht]
          have htA := Aside0.mk ht
          clear ht
          go_wp2_with (fail)
          go_roundg k1
          case measure => omega
          case rel =>
            refine ⟨j + 1, ?_, by simp; exact w64 (by omega) (by have := hlt2A.out; omega), ⟨by have := hj.out; omega⟩, ?_⟩
            · refine congrArg (Value.int .u64) ?_
              rw [tbytes_take l2 x j hjn, hzA.out, hyA.out]
              unfold tbyte
              rw [Int.toNat_natCast, hqA.out, htA.out]
              omega
            · exact pw_below_drewN hBw.out _
        · have hje : j = l2.length := by have := hj.out; omega
          have hd2 : decide ((j : Int) < (l2.length : Int)) = false := decide_eq_false (by omega)
          have hz2 : tbytes x l2 = z := by rw [← hzA.out, List.take_of_length_le (by omega)]
          have hfin : tsum s l = tfin z := by rw [hsumA.out, hz2]
          have hfinA := Aside0.mk hfin
          clear hz2 hfin
          go_wp2_with (fail)
          refine (mix_calls _ z 15 _ 15 rfl rfl hzl (by omega)).mono ?_
          rintro e w4 ⟨rfl, ⟨n3, rfl⟩⟩
          obtain ⟨m1, hm1⟩ : ∃ m, tmix 15 z = m := ⟨_, rfl⟩
          have hm1l : m1 < 4294967296 := by rw [← hm1]; exact tmix_lt 15 z hzl
          rw [hm1]
          obtain ⟨q1, hq1⟩ : ∃ q : Nat, m1 * 2246822519 % 4294967296 = q := ⟨_, rfl⟩
          have hq1l : q1 < 4294967296 := by rw [← hq1]; exact Nat.mod_lt _ (by omega)
          have g5 : (m1 : Int) * 2246822519 % 4294967296 = (q1 : Int) := by rw [← hq1]; omega
          have hq1A := Aside0.mk hq1
          have hm1A := Aside0.mk hm1
          clear hq1 hm1
          go_wp2_with (fail)
          refine (mix_calls _ q1 13 _ 13 rfl rfl hq1l (by omega)).mono ?_
          rintro e w4 ⟨rfl, ⟨n4, rfl⟩⟩
          obtain ⟨m2, hm2⟩ : ∃ m, tmix 13 q1 = m := ⟨_, rfl⟩
          have hm2l : m2 < 4294967296 := by rw [← hm2]; exact tmix_lt 13 q1 hq1l
          rw [hm2]
          obtain ⟨q2, hq2⟩ : ∃ q : Nat, m2 * 3266489917 % 4294967296 = q := ⟨_, rfl⟩
          have hq2l : q2 < 4294967296 := by rw [← hq2]; exact Nat.mod_lt _ (by omega)
          have g6 : (m2 : Int) * 3266489917 % 4294967296 = (q2 : Int) := by rw [← hq2]; omega
          have hq2A := Aside0.mk hq2
          have hm2A := Aside0.mk hm2
          clear hq2 hm2
          go_wp2_with (fail)
          refine (mix_calls _ q2 16 _ 16 rfl rfl hq2l (by omega)).mono ?_
          rintro e w4 ⟨rfl, ⟨n5, rfl⟩⟩
          obtain ⟨m3, hm3⟩ : ∃ m, tmix 16 q2 = m := ⟨_, rfl⟩
          have hm3l : m3 < 4294967296 := by rw [← hm3]; exact tmix_lt 16 q2 hq2l
          rw [hm3]
          have hm3A := Aside0.mk hm3
          clear hm3
          go_wp2_with (fail)
          go_ret
          refine ⟨?_, by first | exact hBw.out | exact pw_below_drewN hBw.out _⟩
          refine congrArg (fun q => Ending.returned (Value.int .u32 q)) ?_
          rw [hfinA.out]
          unfold tfin
          rw [hm1A.out, hq1A.out, hm2A.out, hq2A.out, hm3A.out]


end Go.Proofs.Ytmlodmpkcbncjaa.G

/- fascicleref03.Sum, of 16 bytes or more. Printed by mkref.py. -/
set_option linter.unusedVariables false
set_option linter.unusedSimpArgs false
namespace Go.Proofs.Ytmlodmpkcbncjaa.G
open Go Go.RowKit Go.Proofs.YtmlodmpkcbncjaaW.PrintWords Go.Proofs.YtmlodmpkcbncjaaW.PrintLast Go.Proofs.YtmlodmpkcbncjaaW.PrintMore Go.Proofs.Ytmlodmpkcbncjaa.PureKit Go.Proofs.Ytmlodmpkcbncjaa.Sep Go.Proofs.Ytmlodmpkcbncjaa.Rol

set_option maxHeartbeats 8000000 in
set_option maxRecDepth 100000 in
theorem ref_sum_long (w : World) (l : List Int) (s : Nat) (hb : Bytes l) (hl : l.length ≤ 1000000000000) (hs : s < 4294967296) (hsh : 16 ≤ l.length) :
    Calls Try.prog 70 #[.int .u32 (s : Int), .string (strOfNums l)] w fun e w' => e = .returned (.int .u32 ((tsum s l : Nat) : Int)) ∧ Below w.heap.size w w' := by
  have hsz : (strOfNums l).size = l.length := nums_size l
  obtain ⟨lw, hlw⟩ : ∃ lw : Nat, l.length % 4294967296 = lw := ⟨_, rfl⟩
  have fl : IntKind.u64.wrap (l.length : Int) = (l.length : Int) := wu64 (by omega) (by omega)
  have fl2 : (l.length : Int) % 4294967296 = (lw : Int) := by omega
  have fl3 : Int.tmod (l.length : Int) 4294967296 = (lw : Int) := by rw [Int.tmod_eq_emod_of_nonneg (by omega)]; omega
  have hlwl : lw < 4294967296 := by rw [← hlw]; exact Nat.mod_lt _ (by omega)
  have hd : decide ((l.length : Int) ≥ 16) = true := decide_eq_true (by omega)
  have hlwA := Aside0.mk hlw
  have hshA := Aside0.mk hsh
  have hS := Aside0.mk (Sep.start w)
  clear hlw hsh
  go_enter Try.func70, Try.ntmps70
  go_wp2_with (fail)
  have hS1 : Aside0 (Sep.Sep w (w.alloc (.cells #[.int .u64 (((s : Int) + 2654435761 + 2246822519) % 4294967296), .int .u64 (((s : Int) + 2246822519) % 4294967296), .int .u64 s, .int .u64 (((s : Int) + 4294967296 - 2654435761) % 4294967296)] 131 (0, 0))) [blk w.heap.size (tvals8 (tinit s)) 131]) := by
    have e : tvals8 (tinit s) = #[.int .u64 (((s : Int) + 2654435761 + 2246822519) % 4294967296), .int .u64 (((s : Int) + 2246822519) % 4294967296), .int .u64 s, .int .u64 (((s : Int) + 4294967296 - 2654435761) % 4294967296)] := by
      unfold tvals8 tinit
      simp only [List.map_cons, List.map_nil]
      rw [show (((s + 2654435761 + 2246822519) % 4294967296 : Nat) : Int) = ((s : Int) + 2654435761 + 2246822519) % 4294967296 by omega, show (((s + 2246822519) % 4294967296 : Nat) : Int) = ((s : Int) + 2246822519) % 4294967296 by omega, show (((s + 4294967296 - 2654435761) % 4294967296 : Nat) : Int) = ((s : Int) + 4294967296 - 2654435761) % 4294967296 by omega]
    rw [e]
    exact ⟨hS.out.alloc _ _⟩
  generalize w.alloc (.cells #[.int .u64 (((s : Int) + 2654435761 + 2246822519) % 4294967296), .int .u64 (((s : Int) + 2246822519) % 4294967296), .int .u64 s, .int .u64 (((s : Int) + 4294967296 - 2654435761) % 4294967296)] 131 (0, 0)) = w1 at hS1 ⊢
  go_loopg [1] (l.length / 16) (fun kq v1 w' => ∃ (i : Nat), v1 = .string (strOfNums (l.drop (16 * i))) ∧ Aside0 (i + kq = l.length / 16) ∧ Aside0 (Sep.Sep w w' [blk w.heap.size (tvals8 (tstripes i (tinit s) l)) 131]))
  case atStart => exact ⟨0, by rw [Nat.mul_zero, List.drop_zero], ⟨by omega⟩, hS1⟩
  case round =>
    obtain ⟨i, rfl, hA, hS⟩ := hrel
    by_cases hin : i < l.length / 16
    · have hlen : (l.drop (16 * i)).length = l.length - 16 * i := by rw [List.length_drop]
      have h16 : 16 ≤ (l.drop (16 * i)).length := by omega
      have hb1 : Bytes (l.drop (16 * i)) := hb.drop _
      have hvs : Small (tstripes i (tinit s) l) := tstripes_small _ _ (tinit_small s hs) _
      have hvl : (tstripes i (tinit s) l).length = 4 := tstripes_len _ _ _
      have hd : decide (((l.drop (16 * i)).length : Int) ≥ 16) = true := decide_eq_true (by omega)
      obtain ⟨k1, rfl⟩ : ∃ k1, gk = k1 + 1 := ⟨gk - 1, by have := hA.out; omega⟩
      generalize hll : l.drop (16 * i) = l1 at *
      generalize hvv : tstripes i (tinit s) l = vs at *
      have hl1l : l1.length ≤ 1000000000000 := by rw [hlen]; omega
      have hsz1 : (strOfNums l1).size = l1.length := nums_size l1
      have h16A := Aside0.mk h16
      have h16i : (16 : Int) ≤ (l1.length : Int) := by omega
      have hex16 : (strOfNums l1).extract 16 l1.length = strOfNums (l1.drop 16) := by rw [nums_extract, List.take_of_length_le (by omega)]
      clear hlen h16
      go_wp2_with (fail)
      go_loopg [41] 4 (fun kq v41 w' => ∃ (j : Nat), v41 = .int .i64 j ∧ Aside0 (j + kq = 4) ∧ Aside0 (Sep.Sep w w' [blk w.heap.size (tvals8 (tpart l1 vs j)) 131]))
      case atStart => exact ⟨0, rfl, ⟨by omega⟩, hS⟩
      case round =>
        obtain ⟨j, rfl, hj, hS2⟩ := hrel
        by_cases hjn : j < 4
        · have hd2 : decide ((j : Int) < 4) = true := decide_eq_true (by omega)
          obtain ⟨k2, rfl⟩ : ∃ k2, gk = k2 + 1 := ⟨gk - 1, by have := hj.out; omega⟩
          have p0 : ((0 : Int) ≤ (j : Int)) = True := eq_true (by omega)
          have q0 : ((j : Int) < 4) = True := eq_true (by omega)
          have hul : (tpart l1 vs j).length = 4 := by rw [tpart_len, hvl]
          have hus : Small (tpart l1 vs j) := tpart_small _ _ hvs j
          obtain ⟨x, hx⟩ : ∃ x, (tpart l1 vs j).getD j 0 = x := ⟨_, rfl⟩
          have hxl : x < 4294967296 := by rw [← hx]; exact hus.at j
          have hcell : (tvals8 (tpart l1 vs j))[j]? = some (.int .u64 (x : Int)) := by
            unfold tvals8
            rw [List.getElem?_toArray, List.getElem?_map, List.getElem?_eq_getElem (by omega)]
            rw [List.getD_eq_getElem?_getD, List.getElem?_eq_getElem (by omega)] at hx
            simp only [Option.getD_some] at hx
            rw [hx]
            rfl
          generalize hu : tpart l1 vs j = us at *
          have hxA := Aside0.mk hx
          have hulA := Aside0.mk hul
          clear hx hul
          obtain ⟨y, hy⟩ : ∃ y, leb ((l1.drop (4 * j)).take 4) = y := ⟨_, rfl⟩
          have hyl : y < 4294967296 := by rw [← hy]; exact leb_lt4 _ ((hb1.drop _).take _) 4 (by rw [List.length_take]; omega)
          have hex : (strOfNums l1).extract (4 * j) (4 * j + 4) = strOfNums ((l1.drop (4 * j)).take 4) := by rw [nums_extract, List.drop_take]; congr 2; omega
          have hyA := Aside0.mk hy
          clear hy
          have b1 : (4 * (j : Int) + 4 ≤ (l1.length : Int)) = True := eq_true (by omega)
          have b2 : (0 ≤ 4 * (j : Int)) = True := eq_true (by omega)
          have b3 : (4 * (j : Int) ≤ 4 * (j : Int) + 4) = True := eq_true (by omega)
          have b4 : (4 * (j : Int) + 4).toNat = 4 * j + 4 := by omega
          have b5 : (4 * (j : Int)).toNat = 4 * j := by omega
          have hw4 : wrap64 (4 * (j : Int)) = 4 * (j : Int) := w64 (by omega) (by omega)
          have hw5 : wrap64 (4 * (j : Int) + 4) = 4 * (j : Int) + 4 := w64 (by omega) (by omega)
          go_wp2_with (fail)
          have hS3 := hS2.out.drew
          have hc0 : wr.drew.cell? ⟨w.heap.size, j, none⟩ = some (.int .u64 (x : Int)) := (hS3.cell j).trans hcell
          have hfr : wr.drew.frozen? ⟨w.heap.size, j, none⟩ = false := hS3.frozen j
          have hS3 := Aside0.mk hS3
          refine start_ (n := 15) (S := fun w' => w'.cell? ⟨w.heap.size, j, none⟩ = some (.int .u64 (x : Int))) (ds := [14]) #[false, false, false, false, false, false, false, false, false, false, false, false, false, false, false] (by kernel_rfl) rfl rfl (hc0) (fun hHeld => ?_)
          refine pure_ (i := 0) (N := some 44) (v := ?_) (a' := ?_) #[true, false, false, false, false, false, false, false, false, false, false, false, false, false, false] rfl rfl (by kernel_rfl) (fun _ _ _ h => h) (Or.inl ⟨by rfl, ?_⟩) ?_ ?_
          rotate_left
          · intro w'
            go_simp
            with_reducible rfl
          rotate_left
          · simp only [Act.put, List.setIfInBounds_toArray, List.set_cons_zero, List.set_cons_succ, i64_w, i32_w]
            rfl
          refine pure_ (i := 1) (N := some 45) (v := ?_) (a' := ?_) #[true, true, false, false, false, false, false, false, false, false, false, false, false, false, false] rfl rfl (by kernel_rfl) (fun _ _ _ h => h) (Or.inl ⟨by rfl, ?_⟩) ?_ ?_
          rotate_left
          · intro w'
            go_simp
            with_reducible rfl
          rotate_left
          · simp only [Act.put, List.setIfInBounds_toArray, List.set_cons_zero, List.set_cons_succ, i64_w, i32_w]
            rfl
          refine pure_ (i := 2) (N := some 46) (v := ?_) (a' := ?_) #[true, true, true, false, false, false, false, false, false, false, false, false, false, false, false] rfl rfl (by kernel_rfl) (fun _ _ _ h => h) (Or.inl ⟨by rfl, ?_⟩) ?_ ?_
          rotate_left
          · intro w'
            go_simp
            with_reducible rfl
          rotate_left
          · simp only [Act.put, List.setIfInBounds_toArray, List.set_cons_zero, List.set_cons_succ, i64_w, i32_w]
            rfl
          refine pure_ (i := 4) (N := some 48) (v := ?_) (a' := ?_) #[true, true, true, false, true, false, false, false, false, false, false, false, false, false, false] rfl rfl (by kernel_rfl) (fun _ _ _ h => h) (Or.inl ⟨by rfl, ?_⟩) ?_ ?_
          rotate_left
          · intro w'
            go_simp
            with_reducible rfl
          rotate_left
          · simp only [Act.put, List.setIfInBounds_toArray, List.set_cons_zero, List.set_cons_succ, i64_w, i32_w]
            rfl
          refine pure_ (i := 5) (N := some 49) (v := ?_) (a' := ?_) #[true, true, true, false, true, true, false, false, false, false, false, false, false, false, false] rfl rfl (by kernel_rfl) (fun _ _ _ h => h) (Or.inl ⟨by rfl, ?_⟩) ?_ ?_
          rotate_left
          · intro w'
            go_simp
            with_reducible rfl
          rotate_left
          · simp only [Act.put, List.setIfInBounds_toArray, List.set_cons_zero, List.set_cons_succ, i64_w, i32_w]
            rfl
          refine pure_ (i := 6) (N := some 50) (v := ?_) (a' := ?_) #[true, true, true, false, true, true, true, false, false, false, false, false, false, false, false] rfl rfl (by kernel_rfl) (fun _ _ _ h => h) (Or.inl ⟨by rfl, ?_⟩) ?_ ?_
          rotate_left
          · intro w'
            go_simp
            with_reducible rfl
          rotate_left
          · simp only [Act.put, List.setIfInBounds_toArray, List.set_cons_zero, List.set_cons_succ, i64_w, i32_w]
            rfl
          refine pure_ (i := 7) (N := some 51) (v := ?_) (a' := ?_) #[true, true, true, false, true, true, true, true, false, false, false, false, false, false, false] rfl rfl (by kernel_rfl) (fun _ _ _ h => h) (Or.inl ⟨by rfl, ?_⟩) ?_ ?_
          rotate_left
          · intro w'
            go_simp
            with_reducible rfl
          rotate_left
          · simp only [Act.put, List.setIfInBounds_toArray, List.set_cons_zero, List.set_cons_succ, i64_w, i32_w]
            rfl
          refine pure_ (i := 8) (N := some 52) (v := ?_) (a' := ?_) #[true, true, true, false, true, true, true, true, true, false, false, false, false, false, false] rfl rfl (by kernel_rfl) (fun _ _ _ h => h) (Or.inl ⟨by rfl, ?_⟩) ?_ ?_
          rotate_left
          · intro w'
            go_simp
            with_reducible rfl
          rotate_left
          · simp only [Act.put, List.setIfInBounds_toArray, List.set_cons_zero, List.set_cons_succ, i64_w, i32_w]
            rfl
          refine pure_ (i := 9) (N := some 53) (v := ?_) (a' := ?_) #[true, true, true, false, true, true, true, true, true, true, false, false, false, false, false] rfl rfl (by kernel_rfl) (fun _ _ _ h => h) (Or.inl ⟨by rfl, ?_⟩) ?_ ?_
          rotate_left
          · intro w'
            go_simp
            with_reducible rfl
          rotate_left
          · simp only [Act.put, List.setIfInBounds_toArray, List.set_cons_zero, List.set_cons_succ, i64_w, i32_w]
            rfl
          refine pure_ (i := 10) (N := some 54) (v := ?_) (a' := ?_) #[true, true, true, false, true, true, true, true, true, true, true, false, false, false, false] rfl rfl (by kernel_rfl) (fun _ _ _ h => h) (Or.inl ⟨by rfl, ?_⟩) ?_ ?_
          rotate_left
          · intro w'
            go_simp
            with_reducible rfl
          rotate_left
          · simp only [Act.put, List.setIfInBounds_toArray, List.set_cons_zero, List.set_cons_succ, i64_w, i32_w]
            rfl
          refine take_ (i := 3) (N := some 47) (v := ?_) (a' := ?_) #[true, true, true, true, true, true, true, true, true, true, true, false, false, false, false] rfl rfl (by kernel_rfl) (fun _ _ _ h => h) (Or.inl ⟨by rfl, ?_⟩) hHeld ?_ ?_
          rotate_left
          · intro w' s0
            go_simp
            with_reducible rfl
          rotate_left
          · simp only [Act.put, List.setIfInBounds_toArray, List.set_cons_zero, List.set_cons_succ, i64_w, i32_w]
            rfl
          refine one_ (i := 11) (N := some 55) #[true, true, true, true, true, true, true, true, true, true, true, true, false, false, false] rfl rfl (by kernel_rfl) (by decide) (fun K hK => ?_)
          refine goes_ Try.func71 (by kernel_rfl) rfl #[.string (strOfNums ((l1.drop (4 * j)).take 4))] (by rfl) rfl rfl (by (try simp only [List.map_toArray, List.map_cons, List.map_nil]); first | done | rfl) ?_
          have hv := value_calls wr.drew ((l1.drop (4 * j)).take 4) _ rfl ((hb1.drop _).take _) (by rw [List.length_take]; omega)
          rw [hyA.out] at hv
          refine hv.mono ?_
          clear hv
          rintro e w3 ⟨rfl, ⟨nd, rfl⟩⟩
          refine ⟨_, rfl, ?_⟩
          have hS4 := Aside0.mk (hS3.out.drewN nd)
          have hc4 := (hS4.out.cell j).trans hcell
          refine hK.out _ _ (hc4) (fun hHeld => ?_)
          clear hK K
          refine norm_ (a' := ?_) ?_ ?_
          rotate_left
          · show Act.put _ (some 55) _ = _
            simp only [Act.put, List.setIfInBounds_toArray, List.set_cons_zero, List.set_cons_succ, i64_w, i32_w]
            rfl
          refine one_ (i := 12) (N := some 56) #[true, true, true, true, true, true, true, true, true, true, true, true, true, false, false] rfl rfl (by kernel_rfl) (by decide) (fun K hK => ?_)
          refine goes_ Try.func89 (by kernel_rfl) rfl #[.int .u64 (x : Int), .int .u64 (y : Int)] (by rfl) rfl rfl (by (try simp only [List.map_toArray, List.map_cons, List.map_nil]); first | done | rfl) ?_
          refine (into_calls _ x y _ _ rfl rfl hxl hyl).mono ?_
          rintro e w4 ⟨rfl, ⟨nd2, rfl⟩⟩
          refine ⟨_, rfl, ?_⟩
          have hS5 := Aside0.mk (hS4.out.drewN nd2)
          have hc5 := (hS5.out.cell j).trans hcell
          have hf5 := hS5.out.frozen j
          refine hK.out _ _ (hc5) (fun hHeld => ?_)
          clear hK K
          refine norm_ (a' := ?_) ?_ ?_
          rotate_left
          · show Act.put _ (some 56) _ = _
            simp only [Act.put, List.setIfInBounds_toArray, List.set_cons_zero, List.set_cons_succ, i64_w, i32_w]
            rfl
          refine pure_ (i := 13) (N := some 57) (v := ?_) (a' := ?_) #[true, true, true, true, true, true, true, true, true, true, true, true, true, true, false] rfl rfl (by kernel_rfl) (fun _ _ _ h => h) (Or.inl ⟨by rfl, ?_⟩) ?_ ?_
          rotate_left
          · intro w'
            go_simp
            with_reducible rfl
          rotate_left
          · simp only [Act.put, List.setIfInBounds_toArray, List.set_cons_zero, List.set_cons_succ, i64_w, i32_w]
            rfl
          refine last_ (i := 14) (N := none) #[true, true, true, true, true, true, true, true, true, true, true, true, true, true, true] rfl rfl (by kernel_rfl) (by decide) (fun K hK => ?_)
          have hcw : wr.cell? ⟨w.heap.size, j, none⟩ = some (.int .u64 (x : Int)) := (hS2.out.cell j).trans hcell
          have hfw : wr.frozen? ⟨w.heap.size, j, none⟩ = false := hS2.out.frozen j
          refine skip_ (w1 := ?_) (by kernel_rfl) rfl ?_ ?_
          rotate_left
          · go_simp
            rfl
          refine hK.out _ _ ?_
          clear hK K
          refine done_ (by kernel_rfl) ?_
          clear hc0 hfr
          go_wp2_with (fail)
          go_roundg k2
          case measure => omega
          case rel =>
            refine ⟨j + 1, by simp, ⟨by have := hj.out; omega⟩, ⟨?_⟩⟩
            have hq := (hS2.out.drewN (1 + nd + nd2)).set j (.int .u64 ((tin x y : Nat) : Int))
            rw [tvals8_set] at hq
            rw [show tpart l1 vs (j + 1) = us.set j (tin x y) by rw [tpart, hu, tstep, hxA.out, hyA.out]]
            exact hq
        · have hj4 : j = 4 := by have := hj.out; omega
          subst hj4
          have hd2 : decide (((4 : Nat) : Int) < 4) = false := rfl
          go_wp2_with (fail)
          go_roundg k1
          case measure => omega
          case rel =>
            have e : l.drop (16 * (i + 1)) = l1.drop 16 := by rw [← hll, List.drop_drop]; congr 1
            refine ⟨i + 1, by rw [e], ⟨by have := hA.out; omega⟩, ⟨?_⟩⟩
            rw [tstripes_succ, hll, hvv]
            exact hS2.out
    · have hie : i = l.length / 16 := by have := hA.out; omega
      have hlen : (l.drop (16 * i)).length = l.length - 16 * i := by rw [List.length_drop]
      have hd : decide (((l.drop (16 * i)).length : Int) ≥ 16) = false := decide_eq_false (by omega)
      have hr : l.drop (16 * i) = trest l := by rw [hie]; rfl
      have hvs : Small (tstripes i (tinit s) l) := tstripes_small _ _ (tinit_small s hs) _
      have hvl : (tstripes i (tinit s) l).length = 4 := tstripes_len _ _ _
      have hstart : tstart s l = tout (tstripes i (tinit s) l) := by unfold tstart; rw [if_neg (by have := hshA.out; omega), hie]
      have hrb : Bytes (l.drop (16 * i)) := hb.drop _
      have hrlen : (l.drop (16 * i)).length ≤ 1000000000000 := by omega
      clear hlen
      generalize tstripes i (tinit s) l = vs at *
      obtain ⟨x0, x1, x2, x3, rfl⟩ : ∃ x0 x1 x2 x3, vs = [x0, x1, x2, x3] := by
        rcases vs with _ | ⟨x0, _ | ⟨x1, _ | ⟨x2, _ | ⟨x3, _ | ⟨x4, r⟩⟩⟩⟩⟩ <;> simp at hvl
        exact ⟨_, _, _, _, rfl⟩
      have hx0 : x0 < 4294967296 := hvs x0 (by simp)
      have hx1 : x1 < 4294967296 := hvs x1 (by simp)
      have hx2 : x2 < 4294967296 := hvs x2 (by simp)
      have hx3 : x3 < 4294967296 := hvs x3 (by simp)
      clear hvs hvl
      generalize l.drop (16 * i) = r at *
      have hrA : Aside0 (trest l = r) := ⟨hr.symm⟩
      have hszr : (strOfNums r).size = r.length := nums_size r
      obtain ⟨y0, hy0⟩ : ∃ y, rol 32 1 x0 = y := ⟨_, rfl⟩
      obtain ⟨y1, hy1⟩ : ∃ y, rol 32 7 x1 = y := ⟨_, rfl⟩
      obtain ⟨y2, hy2⟩ : ∃ y, rol 32 12 x2 = y := ⟨_, rfl⟩
      obtain ⟨y3, hy3⟩ : ∃ y, rol 32 18 x3 = y := ⟨_, rfl⟩
      have hy0l : y0 < 4294967296 := by rw [← hy0]; exact rol_lt 32 1 x0 (by omega) hx0
      have hy1l : y1 < 4294967296 := by rw [← hy1]; exact rol_lt 32 7 x1 (by omega) hx1
      have hy2l : y2 < 4294967296 := by rw [← hy2]; exact rol_lt 32 12 x2 (by omega) hx2
      have hy3l : y3 < 4294967296 := by rw [← hy3]; exact rol_lt 32 18 x3 (by omega) hx3
      have hts : tstart s l = (y0 + y1 + y2 + y3) % 4294967296 := by
        rw [hstart]
        unfold tout
        simp only [List.getD_cons_zero, List.getD_cons_succ]
        rw [hy0, hy1, hy2, hy3]
      obtain ⟨t0, ht0⟩ : ∃ t : Nat, (y0 + y1 + y2 + y3) % 4294967296 = t := ⟨_, rfl⟩
      have ht0l : t0 < 4294967296 := by rw [← ht0]; exact Nat.mod_lt _ (by omega)
      obtain ⟨h0, hh0⟩ : ∃ h0 : Nat, (t0 + lw) % 4294967296 = h0 := ⟨_, rfl⟩
      have hh0l : h0 < 4294967296 := by rw [← hh0]; exact Nat.mod_lt _ (by omega)
      have fq1 : ((y0 : Int) + (y1 : Int) + (y2 : Int) + (y3 : Int)) % 4294967296 = (t0 : Int) := by rw [← ht0]; omega
      have fh0 : ((t0 : Int) + (lw : Int)) % 4294967296 = (h0 : Int) := by rw [← hh0]; omega
      have hh0A : Aside0 (h0 = (tstart s l + l.length) % 4294967296) := ⟨by rw [hts, ht0, ← hh0, ← hlwA.out]; omega⟩
      have y0A := Aside0.mk hy0
      have y1A := Aside0.mk hy1
      have y2A := Aside0.mk hy2
      have y3A := Aside0.mk hy3
      clear hr hstart hts hy0 hy1 hy2 hy3 ht0 hh0
      go_wp2_with (fail)
      have hS3 := hS.out.drew
      have hc0 : wr.drew.cell? ⟨w.heap.size, 0, none⟩ = some (.int .u64 (x0 : Int)) := hS3.cell 0
      have hc1 : wr.drew.cell? ⟨w.heap.size, 1, none⟩ = some (.int .u64 (x1 : Int)) := hS3.cell 1
      have hc2 : wr.drew.cell? ⟨w.heap.size, 2, none⟩ = some (.int .u64 (x2 : Int)) := hS3.cell 2
      have hc3 : wr.drew.cell? ⟨w.heap.size, 3, none⟩ = some (.int .u64 (x3 : Int)) := hS3.cell 3
      have hS3 := Aside0.mk hS3
      refine start_ (n := 17) (S := fun w' => w'.cell? ⟨w.heap.size, 0, none⟩ = some (.int .u64 (x0 : Int)) ∧ w'.cell? ⟨w.heap.size, 1, none⟩ = some (.int .u64 (x1 : Int)) ∧ w'.cell? ⟨w.heap.size, 2, none⟩ = some (.int .u64 (x2 : Int)) ∧ w'.cell? ⟨w.heap.size, 3, none⟩ = some (.int .u64 (x3 : Int))) (ds := []) #[false, false, false, false, false, false, false, false, false, false, false, false, false, false, false, false, false] (by kernel_rfl) rfl rfl ⟨hc0, hc1, hc2, hc3⟩ (fun hHeld => ?_)
      refine pure_ (i := 0) (N := some 61) (v := ?_) (a' := ?_) #[true, false, false, false, false, false, false, false, false, false, false, false, false, false, false, false, false] rfl rfl (by kernel_rfl) (fun _ _ _ h => h) (Or.inl ⟨by rfl, ?_⟩) ?_ ?_
      rotate_left
      · intro w'
        go_simp
        with_reducible rfl
      rotate_left
      · simp only [Act.put, List.setIfInBounds_toArray, List.set_cons_zero, List.set_cons_succ, i64_w, i32_w]
        rfl
      refine pure_ (i := 3) (N := some 64) (v := ?_) (a' := ?_) #[true, false, false, true, false, false, false, false, false, false, false, false, false, false, false, false, false] rfl rfl (by kernel_rfl) (fun _ _ _ h => h) (Or.inl ⟨by rfl, ?_⟩) ?_ ?_
      rotate_left
      · intro w'
        go_simp
        with_reducible rfl
      rotate_left
      · simp only [Act.put, List.setIfInBounds_toArray, List.set_cons_zero, List.set_cons_succ, i64_w, i32_w]
        rfl
      refine pure_ (i := 7) (N := some 68) (v := ?_) (a' := ?_) #[true, false, false, true, false, false, false, true, false, false, false, false, false, false, false, false, false] rfl rfl (by kernel_rfl) (fun _ _ _ h => h) (Or.inl ⟨by rfl, ?_⟩) ?_ ?_
      rotate_left
      · intro w'
        go_simp
        with_reducible rfl
      rotate_left
      · simp only [Act.put, List.setIfInBounds_toArray, List.set_cons_zero, List.set_cons_succ, i64_w, i32_w]
        rfl
      refine pure_ (i := 11) (N := some 72) (v := ?_) (a' := ?_) #[true, false, false, true, false, false, false, true, false, false, false, true, false, false, false, false, false] rfl rfl (by kernel_rfl) (fun _ _ _ h => h) (Or.inl ⟨by rfl, ?_⟩) ?_ ?_
      rotate_left
      · intro w'
        go_simp
        with_reducible rfl
      rotate_left
      · simp only [Act.put, List.setIfInBounds_toArray, List.set_cons_zero, List.set_cons_succ, i64_w, i32_w]
        rfl
      refine take_ (i := 1) (N := some 62) (v := ?_) (a' := ?_) #[true, true, false, true, false, false, false, true, false, false, false, true, false, false, false, false, false] rfl rfl (by kernel_rfl) (fun _ _ _ h => h) (Or.inl ⟨by rfl, ?_⟩) hHeld ?_ ?_
      rotate_left
      · rintro w' ⟨s0, s1, s2, s3⟩
        go_simp
        with_reducible rfl
      rotate_left
      · simp only [Act.put, List.setIfInBounds_toArray, List.set_cons_zero, List.set_cons_succ, i64_w, i32_w]
        rfl
      refine take_ (i := 4) (N := some 65) (v := ?_) (a' := ?_) #[true, true, false, true, true, false, false, true, false, false, false, true, false, false, false, false, false] rfl rfl (by kernel_rfl) (fun _ _ _ h => h) (Or.inl ⟨by rfl, ?_⟩) hHeld ?_ ?_
      rotate_left
      · rintro w' ⟨s0, s1, s2, s3⟩
        go_simp
        with_reducible rfl
      rotate_left
      · simp only [Act.put, List.setIfInBounds_toArray, List.set_cons_zero, List.set_cons_succ, i64_w, i32_w]
        rfl
      refine take_ (i := 8) (N := some 69) (v := ?_) (a' := ?_) #[true, true, false, true, true, false, false, true, true, false, false, true, false, false, false, false, false] rfl rfl (by kernel_rfl) (fun _ _ _ h => h) (Or.inl ⟨by rfl, ?_⟩) hHeld ?_ ?_
      rotate_left
      · rintro w' ⟨s0, s1, s2, s3⟩
        go_simp
        with_reducible rfl
      rotate_left
      · simp only [Act.put, List.setIfInBounds_toArray, List.set_cons_zero, List.set_cons_succ, i64_w, i32_w]
        rfl
      refine take_ (i := 12) (N := some 73) (v := ?_) (a' := ?_) #[true, true, false, true, true, false, false, true, true, false, false, true, true, false, false, false, false] rfl rfl (by kernel_rfl) (fun _ _ _ h => h) (Or.inl ⟨by rfl, ?_⟩) hHeld ?_ ?_
      rotate_left
      · rintro w' ⟨s0, s1, s2, s3⟩
        go_simp
        with_reducible rfl
      rotate_left
      · simp only [Act.put, List.setIfInBounds_toArray, List.set_cons_zero, List.set_cons_succ, i64_w, i32_w]
        rfl
      refine one_ (i := 2) (N := some 63) #[true, true, true, true, true, false, false, true, true, false, false, true, true, false, false, false, false] rfl rfl (by kernel_rfl) (by decide) (fun K hK => ?_)
      refine goes_ Try.func90 (by kernel_rfl) rfl #[.int .u64 (x0 : Int), .int .i64 1] (by rfl) rfl rfl (by (try simp only [List.map_toArray, List.map_cons, List.map_nil]); first | done | rfl) ?_
      refine (turn_calls _ x0 1 _ 1 rfl rfl hx0 (by omega)).mono ?_
      rw [y0A.out]
      rintro e w4 ⟨rfl, ⟨n1, rfl⟩⟩
      refine ⟨_, rfl, ?_⟩
      have hS4 := Aside0.mk (hS3.out.drewN n1)
      refine hK.out _ _ ⟨hS4.out.cell 0, hS4.out.cell 1, hS4.out.cell 2, hS4.out.cell 3⟩ (fun hHeld => ?_)
      clear hK K
      refine norm_ (a' := ?_) ?_ ?_
      rotate_left
      · show Act.put _ (some 63) _ = _
        simp only [Act.put, List.setIfInBounds_toArray, List.set_cons_zero, List.set_cons_succ, i64_w, i32_w]
        rfl
      refine one_ (i := 5) (N := some 66) #[true, true, true, true, true, true, false, true, true, false, false, true, true, false, false, false, false] rfl rfl (by kernel_rfl) (by decide) (fun K hK => ?_)
      refine goes_ Try.func90 (by kernel_rfl) rfl #[.int .u64 (x1 : Int), .int .i64 7] (by rfl) rfl rfl (by (try simp only [List.map_toArray, List.map_cons, List.map_nil]); first | done | rfl) ?_
      refine (turn_calls _ x1 7 _ 7 rfl rfl hx1 (by omega)).mono ?_
      rw [y1A.out]
      rintro e w4 ⟨rfl, ⟨n2, rfl⟩⟩
      refine ⟨_, rfl, ?_⟩
      have hS5 := Aside0.mk (hS4.out.drewN n2)
      refine hK.out _ _ ⟨hS5.out.cell 0, hS5.out.cell 1, hS5.out.cell 2, hS5.out.cell 3⟩ (fun hHeld => ?_)
      clear hK K
      refine norm_ (a' := ?_) ?_ ?_
      rotate_left
      · show Act.put _ (some 66) _ = _
        simp only [Act.put, List.setIfInBounds_toArray, List.set_cons_zero, List.set_cons_succ, i64_w, i32_w]
        rfl
      refine pure_ (i := 6) (N := some 67) (v := ?_) (a' := ?_) #[true, true, true, true, true, true, true, true, true, false, false, true, true, false, false, false, false] rfl rfl (by kernel_rfl) (fun _ _ _ h => h) (Or.inl ⟨by rfl, ?_⟩) ?_ ?_
      rotate_left
      · intro w'
        go_simp
        with_reducible rfl
      rotate_left
      · simp only [Act.put, List.setIfInBounds_toArray, List.set_cons_zero, List.set_cons_succ, i64_w, i32_w]
        rfl
      refine one_ (i := 9) (N := some 70) #[true, true, true, true, true, true, true, true, true, true, false, true, true, false, false, false, false] rfl rfl (by kernel_rfl) (by decide) (fun K hK => ?_)
      refine goes_ Try.func90 (by kernel_rfl) rfl #[.int .u64 (x2 : Int), .int .i64 12] (by rfl) rfl rfl (by (try simp only [List.map_toArray, List.map_cons, List.map_nil]); first | done | rfl) ?_
      refine (turn_calls _ x2 12 _ 12 rfl rfl hx2 (by omega)).mono ?_
      rw [y2A.out]
      rintro e w4 ⟨rfl, ⟨n3, rfl⟩⟩
      refine ⟨_, rfl, ?_⟩
      have hS6 := Aside0.mk (hS5.out.drewN n3)
      refine hK.out _ _ ⟨hS6.out.cell 0, hS6.out.cell 1, hS6.out.cell 2, hS6.out.cell 3⟩ (fun hHeld => ?_)
      clear hK K
      refine norm_ (a' := ?_) ?_ ?_
      rotate_left
      · show Act.put _ (some 70) _ = _
        simp only [Act.put, List.setIfInBounds_toArray, List.set_cons_zero, List.set_cons_succ, i64_w, i32_w]
        rfl
      refine pure_ (i := 10) (N := some 71) (v := ?_) (a' := ?_) #[true, true, true, true, true, true, true, true, true, true, true, true, true, false, false, false, false] rfl rfl (by kernel_rfl) (fun _ _ _ h => h) (Or.inl ⟨by rfl, ?_⟩) ?_ ?_
      rotate_left
      · intro w'
        go_simp
        with_reducible rfl
      rotate_left
      · simp only [Act.put, List.setIfInBounds_toArray, List.set_cons_zero, List.set_cons_succ, i64_w, i32_w]
        rfl
      refine one_ (i := 13) (N := some 74) #[true, true, true, true, true, true, true, true, true, true, true, true, true, true, false, false, false] rfl rfl (by kernel_rfl) (by decide) (fun K hK => ?_)
      refine goes_ Try.func90 (by kernel_rfl) rfl #[.int .u64 (x3 : Int), .int .i64 18] (by rfl) rfl rfl (by (try simp only [List.map_toArray, List.map_cons, List.map_nil]); first | done | rfl) ?_
      refine (turn_calls _ x3 18 _ 18 rfl rfl hx3 (by omega)).mono ?_
      rw [y3A.out]
      rintro e w4 ⟨rfl, ⟨n4, rfl⟩⟩
      refine ⟨_, rfl, ?_⟩
      have hS7 := Aside0.mk (hS6.out.drewN n4)
      refine hK.out _ _ ⟨hS7.out.cell 0, hS7.out.cell 1, hS7.out.cell 2, hS7.out.cell 3⟩ (fun hHeld => ?_)
      clear hK K
      refine norm_ (a' := ?_) ?_ ?_
      rotate_left
      · show Act.put _ (some 74) _ = _
        simp only [Act.put, List.setIfInBounds_toArray, List.set_cons_zero, List.set_cons_succ, i64_w, i32_w]
        rfl
      refine pure_ (i := 14) (N := some 75) (v := ?_) (a' := ?_) #[true, true, true, true, true, true, true, true, true, true, true, true, true, true, true, false, false] rfl rfl (by kernel_rfl) (fun _ _ _ h => h) (Or.inl ⟨by rfl, ?_⟩) ?_ ?_
      rotate_left
      · intro w'
        go_simp
        with_reducible rfl
      rotate_left
      · simp only [Act.put, List.setIfInBounds_toArray, List.set_cons_zero, List.set_cons_succ, i64_w, i32_w]
        rfl
      refine pure_ (i := 15) (N := some 76) (v := ?_) (a' := ?_) #[true, true, true, true, true, true, true, true, true, true, true, true, true, true, true, true, false] rfl rfl (by kernel_rfl) (fun _ _ _ h => h) (Or.inl ⟨by rfl, ?_⟩) ?_ ?_
      rotate_left
      · intro w'
        go_simp
        with_reducible rfl
      rotate_left
      · simp only [Act.put, List.setIfInBounds_toArray, List.set_cons_zero, List.set_cons_succ, i64_w, i32_w]
        rfl
      refine pure_ (i := 16) (N := some 5) (v := ?_) (a' := ?_) #[true, true, true, true, true, true, true, true, true, true, true, true, true, true, true, true, true] rfl rfl (by kernel_rfl) (fun _ _ _ h => h) (Or.inl ⟨by rfl, ?_⟩) ?_ ?_
      rotate_left
      · intro w'
        go_simp
        with_reducible rfl
      rotate_left
      · simp only [Act.put, List.setIfInBounds_toArray, List.set_cons_zero, List.set_cons_succ, i64_w, i32_w]
        rfl
      refine done_ (by kernel_rfl) ?_
      clear hc0 hc1 hc2 hc3
      have hB7 := Aside0.mk hS7.out.1
      go_wp2_with (fail)
      have fw1 : IntKind.u64.wrap ((y0 : Int) + (y1 : Int)) = (y0 : Int) + (y1 : Int) := wu64 (by omega) (by omega)
      have fw2 : IntKind.u64.wrap ((y0 : Int) + (y1 : Int) + (y2 : Int)) = (y0 : Int) + (y1 : Int) + (y2 : Int) := wu64 (by omega) (by omega)
      have fw3 : IntKind.u64.wrap ((y0 : Int) + (y1 : Int) + (y2 : Int) + (y3 : Int)) = (y0 : Int) + (y1 : Int) + (y2 : Int) + (y3 : Int) := wu64 (by omega) (by omega)
      have fq2 : Int.tmod ((y0 : Int) + (y1 : Int) + (y2 : Int) + (y3 : Int)) 4294967296 = (t0 : Int) := by rw [Int.tmod_eq_emod_of_nonneg (by omega)]; exact fq1
      have fw4 : IntKind.u64.wrap ((t0 : Int) + (lw : Int)) = (t0 : Int) + (lw : Int) := wu64 (by omega) (by omega)
      have fq3 : Int.tmod ((t0 : Int) + (lw : Int)) 4294967296 = (h0 : Int) := by rw [Int.tmod_eq_emod_of_nonneg (by omega)]; exact fh0
      try simp only [fw1, fw2, fw3, fq1, fq2, fw4, fq3, fh0]
      go_loopg [1, 5] (r.length / 4) (fun kq v1 v5 w' => ∃ (i : Nat), v1 = .string (strOfNums (r.drop (4 * i))) ∧ v5 = .int .u64 ((tfours i h0 r : Nat) : Int) ∧ Aside0 (i + kq = r.length / 4) ∧ Below w.heap.size w w')
      case atStart => exact ⟨0, by rw [Nat.mul_zero, List.drop_zero], rfl, ⟨by omega⟩, by have := hB7.out; simpa using this⟩
      case round =>
        obtain ⟨i, rfl, rfl, hA, hBw⟩ := hrel
        have hBw := Aside0.mk hBw
        obtain ⟨x, hx⟩ : ∃ x, tfours i h0 r = x := ⟨_, rfl⟩
        have hxl : x < 4294967296 := by rw [← hx]; exact tfours_lt r h0 hh0l i
        rw [hx]
        by_cases hin : i < r.length / 4
        · have hlen : (r.drop (4 * i)).length = r.length - 4 * i := by rw [List.length_drop]
          have h4 : 4 ≤ (r.drop (4 * i)).length := by omega
          have hxA := Aside0.mk hx
          clear hx
          have hb1 : Bytes (r.drop (4 * i)) := hrb.drop _
          obtain ⟨k1, rfl⟩ : ∃ k1, gk = k1 + 1 := ⟨gk - 1, by have := hA.out; omega⟩
          generalize hll : r.drop (4 * i) = l1 at *
          have hsz1 : (strOfNums l1).size = l1.length := nums_size l1
          have hd1 : decide ((l1.length : Int) ≥ 4) = true := decide_eq_true (by omega)
          have hl1l : l1.length ≤ 1000000000000 := by rw [hlen]; omega
          obtain ⟨y, hy⟩ : ∃ y, leb (l1.take 4) = y := ⟨_, rfl⟩
          have hyl : y < 4294967296 := by rw [← hy]; exact leb_lt4 _ (hb1.take _) 4 (by rw [List.length_take]; omega)
          have hyA := Aside0.mk hy
          have h4A := Aside0.mk h4
          have hex : (strOfNums l1).extract 0 4 = strOfNums (l1.take 4) := by rw [nums_extract, List.drop_zero]
          have hex2 : (strOfNums l1).extract 4 l1.length = strOfNums (l1.drop 4) := by rw [nums_extract, List.take_of_length_le (by omega)]
          have yp : y * 3266489917 ≤ 4294967295 * 3266489917 := Nat.mul_le_mul_right _ (by omega)
          obtain ⟨z, hz⟩ : ∃ z : Nat, (x + y * 3266489917) % 4294967296 = z := ⟨_, rfl⟩
          have hzl : z < 4294967296 := by rw [← hz]; exact Nat.mod_lt _ (by omega)
          have g1 : IntKind.u64.wrap ((y : Int) * 3266489917) = (y : Int) * 3266489917 := wu64 (by omega) (by omega)
          have g2 : IntKind.u64.wrap ((x : Int) + (y : Int) * 3266489917) = (x : Int) + (y : Int) * 3266489917 := wu64 (by omega) (by omega)
          have g3 : Int.tmod ((x : Int) + (y : Int) * 3266489917) 4294967296 = (z : Int) := by rw [Int.tmod_eq_emod_of_nonneg (by omega), ← hz]; omega
          have g4 : ((x : Int) + (y : Int) * 3266489917) % 4294967296 = (z : Int) := by rw [← hz]; omega
          have hzA := Aside0.mk hz
          have h4i : (4 : Int) ≤ (l1.length : Int) := by omega
          clear hz hy hlen yp
          go_wp2_with (first | ((with_reducible refine gate_callee (f := 71) rfl ?_); refine goesL_ (some 87) rfl rfl Try.func71 (by kernel_rfl) rfl #[.string (strOfNums (l1.take 4))] rfl (by (try simp only [List.map_toArray, List.map_cons, List.map_nil]); first | done | rfl) ?_; have hv := value_calls wr (l1.take 4) _ rfl (hb1.take _) (by rw [List.length_take]; omega); rw [hyA.out] at hv; (refine hv.mono ?_); clear hv; rintro e w4 ⟨rfl, ⟨n2, rfl⟩⟩; refine ⟨_, rfl, ?_⟩))
          refine (turn_calls _ z 17 _ 17 rfl rfl hzl (by omega)).mono ?_
          rintro e w4 ⟨rfl, ⟨n3, rfl⟩⟩
          obtain ⟨t, ht⟩ : ∃ t, rol 32 17 z = t := ⟨_, rfl⟩
          have htl : t < 4294967296 := by rw [← ht]; exact rol_lt 32 17 z (by omega) hzl
          rw [ht]
          have htA := Aside0.mk ht
          clear ht
          go_wp2_with (fail)
          go_roundg k1
          case measure => omega
          case rel =>
            have e : r.drop (4 * (i + 1)) = l1.drop 4 := by rw [← hll, List.drop_drop]; congr 1
            refine ⟨i + 1, ?_, ?_, ⟨by have := hA.out; omega⟩, ?_⟩
            · rw [e]
            · refine congrArg (Value.int .u64) ?_
              rw [tfours_succ, hxA.out, hll]
              unfold tfour
              rw [hyA.out, hzA.out, htA.out]
              omega
            · exact pw_below_drewN hBw.out _
        · have hie : i = r.length / 4 := by have := hA.out; omega
          have hlen : (r.drop (4 * i)).length = r.length - 4 * i := by rw [List.length_drop]
          have hsum : tsum s l = tfin (tbytes x (r.drop (4 * i))) := by
            unfold tsum ttail
            rw [hrA.out, ← hh0A.out, ← hie, hx]
          have hsumA := Aside0.mk hsum
          have hb2 : Bytes (r.drop (4 * i)) := hrb.drop _
          have hlt2 : (r.drop (4 * i)).length < 4 := by omega
          clear hx hsum hlen
          generalize hll : r.drop (4 * i) = l2 at *
          have hsz2 : (strOfNums l2).size = l2.length := nums_size l2
          have hd1 : decide ((l2.length : Int) ≥ 4) = false := decide_eq_false (by omega)
          have hlt2A := Aside0.mk hlt2
          clear hlt2
          go_wp2_with (fail)
          go_loopg [5, 9] l2.length (fun kq v5 v9 w' => ∃ (j : Nat), v5 = .int .u64 ((tbytes x (l2.take j) : Nat) : Int) ∧ v9 = .int .i64 j ∧ Aside0 (j + kq = l2.length) ∧ Below w.heap.size w w')
          case atStart => exact ⟨0, rfl, rfl, ⟨by omega⟩, by first | exact hBw.out | exact hB7.out | exact pw_below_drewN hBw.out _⟩
          case round =>
            obtain ⟨j, rfl, rfl, hj, hBw⟩ := hrel
            have hBw := Aside0.mk hBw
            obtain ⟨z, hz⟩ : ∃ z, tbytes x (l2.take j) = z := ⟨_, rfl⟩
            have hzl : z < 4294967296 := by rw [← hz]; exact tbytes_lt x hxl _
            rw [hz]
            have hzA := Aside0.mk hz
            clear hz
            by_cases hjn : j < l2.length
            · have hd2 : decide ((j : Int) < (l2.length : Int)) = true := decide_eq_true (by omega)
              obtain ⟨k1, rfl⟩ : ∃ k1, gk = k1 + 1 := ⟨gk - 1, by have := hj.out; omega⟩
              have hyb := hb2 l2[j] (List.getElem_mem hjn)
              have hbt := bt_nums l2 hb2 j hjn
              obtain ⟨y, hy⟩ : ∃ y, l2[j]'hjn = y := ⟨_, rfl⟩
              rw [hy] at hbt hyb
              have hyA := Aside0.mk hy
              clear hy
              have p0 : ((0 : Int) ≤ (j : Int)) = True := eq_true (by omega)
              have q0 : ((j : Int) < (l2.length : Int)) = True := eq_true (by omega)
              obtain ⟨yn, rfl⟩ := Int.eq_ofNat_of_zero_le hyb.1
              have hyn : yn ≤ 255 := by omega
              clear hyb
              obtain ⟨q, hq⟩ : ∃ q : Nat, (z + yn * 374761393) % 4294967296 = q := ⟨_, rfl⟩
              have hql : q < 4294967296 := by rw [← hq]; exact Nat.mod_lt _ (by omega)
              have g0 : ∀ h2 : j < (strOfNums l2).size, (((strOfNums l2)[j]'h2).toNat : Int) = (yn : Int) := fun h2 => (bt_at (strOfNums l2) j h2).trans hbt
              have g1 : IntKind.u64.wrap (yn : Int) = (yn : Int) := wu64 (by omega) (by omega)
              have g2 : IntKind.u64.wrap ((yn : Int) * 374761393) = (yn : Int) * 374761393 := wu64 (by omega) (by omega)
              have g3 : IntKind.u64.wrap ((z : Int) + (yn : Int) * 374761393) = (z : Int) + (yn : Int) * 374761393 := wu64 (by omega) (by omega)
              have g4 : ((z : Int) + (yn : Int) * 374761393) % 4294967296 = (q : Int) := by rw [← hq]; omega
              have g5 : Int.tmod ((z : Int) + (yn : Int) * 374761393) 4294967296 = (q : Int) := by rw [Int.tmod_eq_emod_of_nonneg (by omega)]; exact g4
              have hqA := Aside0.mk hq
              clear hq
              go_wp2_with (fail)
              refine (turn_calls _ q 11 _ 11 rfl rfl hql (by omega)).mono ?_
              rintro e w4 ⟨rfl, ⟨n3, rfl⟩⟩
              obtain ⟨t, ht⟩ : ∃ t, rol 32 11 q = t := ⟨_, rfl⟩
              have htl : t < 4294967296 := by rw [← ht]; exact rol_lt 32 11 q (by omega) hql
              rw [ht]
              have htA := Aside0.mk ht
              clear ht
              go_wp2_with (fail)
              go_roundg k1
              case measure => omega
              case rel =>
                refine ⟨j + 1, ?_, by simp; exact w64 (by omega) (by have := hlt2A.out; omega), ⟨by have := hj.out; omega⟩, ?_⟩
                · refine congrArg (Value.int .u64) ?_
                  rw [tbytes_take l2 x j hjn, hzA.out, hyA.out]
                  unfold tbyte
                  rw [Int.toNat_natCast, hqA.out, htA.out]
                  omega
                · exact pw_below_drewN hBw.out _
            · have hje : j = l2.length := by have := hj.out; omega
              have hd2 : decide ((j : Int) < (l2.length : Int)) = false := decide_eq_false (by omega)
              have hz2 : tbytes x l2 = z := by rw [← hzA.out, List.take_of_length_le (by omega)]
              have hfin : tsum s l = tfin z := by rw [hsumA.out, hz2]
              have hfinA := Aside0.mk hfin
              clear hz2 hfin
              go_wp2_with (fail)
              refine (mix_calls _ z 15 _ 15 rfl rfl hzl (by omega)).mono ?_
              rintro e w4 ⟨rfl, ⟨n3, rfl⟩⟩
              obtain ⟨m1, hm1⟩ : ∃ m, tmix 15 z = m := ⟨_, rfl⟩
              have hm1l : m1 < 4294967296 := by rw [← hm1]; exact tmix_lt 15 z hzl
              rw [hm1]
              obtain ⟨q1, hq1⟩ : ∃ q : Nat, m1 * 2246822519 % 4294967296 = q := ⟨_, rfl⟩
              have hq1l : q1 < 4294967296 := by rw [← hq1]; exact Nat.mod_lt _ (by omega)
              have g5 : (m1 : Int) * 2246822519 % 4294967296 = (q1 : Int) := by rw [← hq1]; omega
              have hq1A := Aside0.mk hq1
              have hm1A := Aside0.mk hm1
              clear hq1 hm1
              go_wp2_with (fail)
              refine (mix_calls _ q1 13 _ 13 rfl rfl hq1l (by omega)).mono ?_
              rintro e w4 ⟨rfl, ⟨n4, rfl⟩⟩
              obtain ⟨m2, hm2⟩ : ∃ m, tmix 13 q1 = m := ⟨_, rfl⟩
              have hm2l : m2 < 4294967296 := by rw [← hm2]; exact tmix_lt 13 q1 hq1l
              rw [hm2]
              obtain ⟨q2, hq2⟩ : ∃ q : Nat, m2 * 3266489917 % 4294967296 = q := ⟨_, rfl⟩
              have hq2l : q2 < 4294967296 := by rw [← hq2]; exact Nat.mod_lt _ (by omega)
              have g6 : (m2 : Int) * 3266489917 % 4294967296 = (q2 : Int) := by rw [← hq2]; omega
              have hq2A := Aside0.mk hq2
              have hm2A := Aside0.mk hm2
              clear hq2 hm2
              go_wp2_with (fail)
              refine (mix_calls _ q2 16 _ 16 rfl rfl hq2l (by omega)).mono ?_
              rintro e w4 ⟨rfl, ⟨n5, rfl⟩⟩
              obtain ⟨m3, hm3⟩ : ∃ m, tmix 16 q2 = m := ⟨_, rfl⟩
              have hm3l : m3 < 4294967296 := by rw [← hm3]; exact tmix_lt 16 q2 hq2l
              rw [hm3]
              have hm3A := Aside0.mk hm3
              clear hm3
              go_wp2_with (fail)
              go_ret
              refine ⟨?_, by first | exact hBw.out | exact hB7.out | exact pw_below_drewN hBw.out _⟩
              refine congrArg (fun q => Ending.returned (Value.int .u32 q)) ?_
              rw [hfinA.out]
              unfold tfin
              rw [hm1A.out, hq1A.out, hm2A.out, hq2A.out, hm3A.out]

/-- In the printed form. -/
def fascicleref03_Sum.f (a0 : Int) (a1 : ByteArray) : Option Int :=
  if 0 ≤ a0 ∧ a0 < 4294967296 ∧ a1.size ≤ 1000000000000 then some ((tsum a0.toNat (sby a1) : Nat) : Int) else none
theorem fascicleref03_Sum.calls (a0 : Int) (a1 : ByteArray) (r : Int) (w : World) (h : fascicleref03_Sum.f a0 a1 = some r) :
    Calls Try.prog 70 #[.int .u32 a0, .string a1] w fun e w' => e = .returned (.int .u32 r) ∧ Below w.heap.size w w' := by
  unfold fascicleref03_Sum.f at h
  split at h
  · rename_i hh
    cases h
    have hlen : (sby a1).length = a1.size := sby_len a1
    have ha : a0 = ((a0.toNat : Nat) : Int) := by omega
    rw [ha, Int.toNat_natCast]
    have e : (Value.string a1) = .string (strOfNums (sby a1)) := by rw [nums_sby]
    rw [e]
    by_cases hs : (sby a1).length < 16
    · exact ref_sum_short w _ _ (sby_bytes a1) (by omega) (by omega) hs
    · exact ref_sum_long w _ _ (sby_bytes a1) (by omega) (by omega) (by omega)
  · cases h

end Go.Proofs.Ytmlodmpkcbncjaa.G
