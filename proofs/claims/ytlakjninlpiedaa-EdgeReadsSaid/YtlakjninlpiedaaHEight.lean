/- numbers of 8 bytes. -/
import Derived.Test.YtlakjninlpiedaaHCurFour
import Derived.Test.YtlakjninlpiedaaHBuf
import Derived.Test.YtlakjninlpiedaaHRun2
import Derived.Test.YtlakjninlpiedaaGx1
set_option linter.unusedVariables false
set_option linter.unusedSimpArgs false
namespace Go.Proofs.Ytlakjninlpiedaa.G
open Go Go.RowKit Go.Proofs.YtlakjninlpiedaaW.PrintWords Go.Proofs.YtlakjninlpiedaaW.PrintLast Go.Proofs.YtlakjninlpiedaaW.PrintMore Go.Proofs.Ytlakjninlpiedaa.PureKit Go.Proofs.Ytlakjninlpiedaa.Sep

set_option maxHeartbeats 4000000 in
set_option maxHeartbeats 4000000 in
theorem buf_Eight (w0 w : World) (g : Nat) (l : List Int) (ps : List HP) (x : Int) (hs : Sep.Sep w0 w (buf g l :: ps)) (hx : 0 ≤ x) (hx' : x < 18446744073709551616) (hl : l.length ≤ 1000000000000) :
    Calls Try.prog 85 #[.pointer (some ⟨g, 0, none⟩), .int .u64 x] w fun e w' => e = .returned (.pointer (some ⟨g, 0, none⟩)) ∧ Sep.Sep w0 w' (buf g (l ++ nbytes 8 x) :: ps) := by
  have hS := Aside0.mk hs
  clear hs
  go_enter Try.func85, Try.ntmps85
  go_wp2_with (first | ((with_reducible refine gate_callee (f := 104) rfl ?_); refine goesL_ (some 7) rfl rfl Try.func104 (by kernel_rfl) rfl #[.pointer (some ⟨g, 0, none⟩), .int .u64 x, .int .i64 8] rfl (by (try simp only [List.map_toArray, List.map_cons, List.map_nil]); first | done | rfl) ?_; (with_reducible refine (buf_num w0 _ g l ps x 8 8 rfl hS.out hx hx' (by decide) hl).mono ?_); rintro e w1 ⟨rfl, h1⟩; refine ⟨_, rfl, ?_⟩; have hS1 := Aside0.mk h1; clear h1))
  go_ret
  exact ⟨rfl, hS1.out⟩
set_option maxHeartbeats 4000000 in
theorem nbytes_bytes : ∀ (n : Nat) (x : Int), Bytes (nbytes n x)
  | 0, _ => Bytes.nil
  | n + 1, x => Bytes.cons (by omega) (nbytes_bytes n _)
theorem nbytes_modN : ∀ (n y : Nat), nbytes n ((y % 256 ^ n : Nat) : Int) = nbytes n (y : Int)
  | 0, _ => rfl
  | n + 1, y => by
    have hp : 256 ^ (n + 1) = 256 * 256 ^ n := by rw [Nat.pow_succ, Nat.mul_comm]
    have e1 : y % (256 * 256 ^ n) % 256 = y % 256 := Nat.mod_mul_right_mod _ _ _
    have e2 : y % (256 * 256 ^ n) / 256 = y / 256 % 256 ^ n := Nat.mod_mul_right_div_self _ _ _
    have e3 := nbytes_modN n (y / 256)
    simp only [nbytes, List.cons.injEq]
    rw [hp]
    generalize 256 ^ n = P at *
    refine ⟨by omega, ?_⟩
    rw [show ((y % (256 * P) : Nat) : Int) / 256 = ((y % (256 * P) / 256 : Nat) : Int) by omega, e2, e3]
    congr 1
theorem nbytes_mod (n : Nat) (x : Int) (h : 0 ≤ x) : nbytes n (x % ((256 ^ n : Nat) : Int)) = nbytes n x := by
  obtain ⟨y, rfl⟩ := Int.eq_ofNat_of_zero_le h
  rw [← nbytes_modN n y]
  congr 1
theorem lev_nbytesN : ∀ (n y : Nat), lev (nbytes n (y : Int)) = ((y % 256 ^ n : Nat) : Int)
  | 0, y => by simp [nbytes, lev]
  | n + 1, y => by
    have hp : 256 ^ (n + 1) = 256 * 256 ^ n := by rw [Nat.pow_succ, Nat.mul_comm]
    have e := lev_nbytesN n (y / 256)
    have e4 : y % (256 * 256 ^ n) = y % 256 + 256 * (y / 256 % 256 ^ n) := Nat.mod_mul
    simp only [nbytes, lev]
    rw [show (y : Int) / 256 = ((y / 256 : Nat) : Int) by omega, e, hp, e4]
    generalize y / 256 % 256 ^ n = q
    omega
theorem lev_nbytes (n : Nat) (x : Int) (h : 0 ≤ x) : lev (nbytes n x) = x % ((256 ^ n : Nat) : Int) := by
  obtain ⟨y, rfl⟩ := Int.eq_ofNat_of_zero_le h
  have := lev_nbytesN n y
  rw [show ((y % 256 ^ n : Nat) : Int) = (y : Int) % ((256 ^ n : Nat) : Int) from rfl] at this
  exact this
theorem tkdrop {L a r : List Int} {p : Nat} (h : L.drop p = a ++ r) : (L.take (p + a.length)).drop p = a := by
  rw [← List.take_drop, h, List.take_left]

/-- The document's bytes of a number. -/
theorem refn_l0 (n : Nat) (hn : n ≤ 8) : ∀ (d i : Nat) (x : Int) (a : List Int), i + d = n → 0 ≤ x → x < 18446744073709551616 → a.length + d ≤ 100 → Ev (fun k => fascicleref01_Num.l0 k x (strOfNums a) (n : Int) (i : Int)) (strOfNums (a ++ nbytes d x)) := by
  intro d
  induction d with
  | zero =>
    intro i x a hi h0 h1 ha
    refine Ev.step (f := fun _ => some (strOfNums (a ++ nbytes 0 x))) (fun k => ?_) (Ev.now _)
    simp only [fascicleref01_Num.l0]
    rw [if_neg (by omega), nbytes, List.append_nil]
  | succ d ih =>
    intro i x a hi h0 h1 ha
    refine Ev.step (fun k => ?_) (Ev.eq (ih (i + 1) (x / 256) (a ++ [x % 256]) (by omega) (by omega) (by omega) (by simp; omega)) (by simp [nbytes]))
    simp only [fascicleref01_Num.l0]
    rw [if_pos (by omega), Int.tmod_eq_emod_of_nonneg h0, Int.tdiv_eq_ediv_of_nonneg h0]
    simp only [Option.bind_some]
    rw [if_pos (by rw [nums_size, nums_size]; simp only [List.length_cons, List.length_nil]; omega), PureKit.nums_append, wu64 (by omega) (by omega), w64 (by omega) (by omega), show x % 256 % 256 = x % 256 by omega]
    rfl
theorem refn (n : Nat) (x : Int) (hn : n ≤ 8) (h0 : 0 ≤ x) (h1 : x < 18446744073709551616) : Ev (fun k => fascicleref01_Num.f k x (n : Int)) (strOfNums (nbytes n x)) := by
  have := refn_l0 n hn n 0 x [] (by omega) h0 h1 (by simp; omega)
  exact this


end Go.Proofs.Ytlakjninlpiedaa.G
