/- LRol LThin HThin HThinStart HThinSum, in one text (merge.py). -/
import Derived.Test.YtmlodmpkcbncjaaPureKit
import Derived.Laws.Bits64b
import Derived.Test.YtmlodmpkcbncjaaHSep
import Derived.Test.YtmlodmpkcbncjaaGx0
import Derived.Test.YtmlodmpkcbncjaaGx3
/- Numbers of W bits turned to the left; a number's bytes, the least first. -/
set_option linter.unusedVariables false
set_option linter.unusedSimpArgs false
namespace Go.Proofs.Ytmlodmpkcbncjaa.Rol
open Go Go.RowKit Go.Proofs.YtmlodmpkcbncjaaW.PrintWords Go.Proofs.YtmlodmpkcbncjaaW.PrintLast Go.Proofs.YtmlodmpkcbncjaaW.PrintMore Go.Proofs.Ytmlodmpkcbncjaa.PureKit

theorem bits_xor_u32_nat (a b : Nat) (ha : a < 4294967296) (hb : b < 4294967296) :
    bits .xor .u32 (a : Int) (b : Int) = ((a ^^^ b : Nat) : Int) := by
  have hx : a ^^^ b < 2 ^ 32 := Nat.xor_lt_two_pow (by omega) (by omega)
  have h1 : (BitVec.ofInt 32 (a : Int)).toNat = a := by
    rw [BitVec.ofInt_natCast, BitVec.toNat_ofNat]; exact Nat.mod_eq_of_lt (by omega)
  have h2 : (BitVec.ofInt 32 (b : Int)).toNat = b := by
    rw [BitVec.ofInt_natCast, BitVec.toNat_ofNat]; exact Nat.mod_eq_of_lt (by omega)
  show IntKind.u32.wrap ((BitVec.ofInt 32 (a : Int) ^^^ BitVec.ofInt 32 (b : Int)).toNat : Int) = _
  rw [BitVec.toNat_xor, h1, h2, IntKind.wrap_u32]
  omega
theorem bits_or_u32_nat (a b : Nat) (ha : a < 4294967296) (hb : b < 4294967296) :
    bits .or .u32 (a : Int) (b : Int) = ((a ||| b : Nat) : Int) := by
  have hx : a ||| b < 2 ^ 32 := Nat.or_lt_two_pow (by omega) (by omega)
  have h1 : (BitVec.ofInt 32 (a : Int)).toNat = a := by
    rw [BitVec.ofInt_natCast, BitVec.toNat_ofNat]; exact Nat.mod_eq_of_lt (by omega)
  have h2 : (BitVec.ofInt 32 (b : Int)).toNat = b := by
    rw [BitVec.ofInt_natCast, BitVec.toNat_ofNat]; exact Nat.mod_eq_of_lt (by omega)
  show IntKind.u32.wrap ((BitVec.ofInt 32 (a : Int) ||| BitVec.ofInt 32 (b : Int)).toNat : Int) = _
  rw [BitVec.toNat_or, h1, h2, IntKind.wrap_u32]
  omega

/-- Turned to the left by n, of W bits. -/
def rol (W n x : Nat) : Nat := x * 2 ^ n % 2 ^ W + x / 2 ^ (W - n)

theorem rol_char (W n q r : Nat) (hn : n ≤ W) (hr : r < 2 ^ (W - n)) : rol W n (q * 2 ^ (W - n) + r) = r * 2 ^ n + q := by
  have hp : 2 ^ W = 2 ^ (W - n) * 2 ^ n := by rw [← Nat.pow_add, Nat.sub_add_cancel hn]
  unfold rol
  rw [hp]
  generalize 2 ^ (W - n) = A at *
  have hB : 0 < 2 ^ n := Nat.two_pow_pos n
  generalize 2 ^ n = B at *
  have h1 : (q * A + r) * B = r * B + (A * B) * q := by rw [Nat.add_mul, Nat.mul_assoc, Nat.mul_comm q, Nat.add_comm]
  rw [h1, Nat.add_mul_mod_self_left, Nat.mod_eq_of_lt (Nat.mul_lt_mul_of_pos_right hr hB), Nat.mul_comm q A, Nat.mul_add_div (by omega), Nat.div_eq_of_lt hr, Nat.add_zero]
theorem rol_split (W n x : Nat) (hn : n ≤ W) (hx : x < 2 ^ W) : ∃ q r, x = q * 2 ^ (W - n) + r ∧ r < 2 ^ (W - n) ∧ q < 2 ^ n := by
  have hp : 2 ^ W = 2 ^ (W - n) * 2 ^ n := by rw [← Nat.pow_add, Nat.sub_add_cancel hn]
  have hA : 0 < 2 ^ (W - n) := Nat.two_pow_pos _
  exact ⟨x / 2 ^ (W - n), x % 2 ^ (W - n), by rw [Nat.mul_comm]; exact (Nat.div_add_mod x _).symm, Nat.mod_lt _ hA, Nat.div_lt_of_lt_mul (by rw [← hp]; exact hx)⟩
theorem rol_lt (W n x : Nat) (hn : n ≤ W) (hx : x < 2 ^ W) : rol W n x < 2 ^ W := by
  obtain ⟨q, r, rfl, hr, hq⟩ := rol_split W n x hn hx
  rw [rol_char W n q r hn hr]
  have hp : 2 ^ W = 2 ^ (W - n) * 2 ^ n := by rw [← Nat.pow_add, Nat.sub_add_cancel hn]
  rw [hp]
  calc r * 2 ^ n + q < r * 2 ^ n + 2 ^ n := by omega
    _ = (r + 1) * 2 ^ n := by rw [Nat.add_mul, Nat.one_mul]
    _ ≤ 2 ^ (W - n) * 2 ^ n := Nat.mul_le_mul_right _ hr
theorem rol_inj (W n x y : Nat) (hn : n ≤ W) (hx : x < 2 ^ W) (hy : y < 2 ^ W) (h : rol W n x = rol W n y) : x = y := by
  obtain ⟨q, r, rfl, hr, hq⟩ := rol_split W n x hn hx
  obtain ⟨q2, r2, rfl, hr2, hq2⟩ := rol_split W n y hn hy
  rw [rol_char W n q r hn hr, rol_char W n q2 r2 hn hr2] at h
  have hB : 0 < 2 ^ n := Nat.two_pow_pos n
  have h1 : r = r2 := by
    have e1 : (r * 2 ^ n + q) / 2 ^ n = r := by rw [Nat.mul_comm, Nat.mul_add_div hB, Nat.div_eq_of_lt hq, Nat.add_zero]
    have e2 : (r2 * 2 ^ n + q2) / 2 ^ n = r2 := by rw [Nat.mul_comm, Nat.mul_add_div hB, Nat.div_eq_of_lt hq2, Nat.add_zero]
    rw [← e1, ← e2, h]
  subst h1
  have h2 : q = q2 := by omega
  rw [h2]
theorem rol_zero (W x : Nat) (hx : x < 2 ^ W) : rol W 0 x = x := by
  unfold rol
  rw [Nat.pow_zero, Nat.mul_one, Nat.sub_zero, Nat.mod_eq_of_lt hx, Nat.div_eq_of_lt hx, Nat.add_zero]
/-- One bit more. -/
theorem rol_succ (W n x : Nat) (hn : n + 1 ≤ W) (hx : x < 2 ^ W) : rol W (n + 1) x = 2 * rol W n x % 2 ^ W + rol W n x / 2 ^ (W - 1) := by
  obtain ⟨q, r, rfl, hr, hq⟩ := rol_split W n x (by omega) hx
  rw [rol_char W n q r (by omega) hr]
  have hA : 2 ^ (W - n) = 2 * 2 ^ (W - (n + 1)) := by rw [← Nat.pow_succ', show W - n = W - (n + 1) + 1 by omega]
  have hW : 2 ^ (W - 1) = 2 ^ (W - (n + 1)) * 2 ^ n := by rw [← Nat.pow_add]; congr 1; omega
  have hW2 : 2 ^ W = 2 * (2 ^ (W - (n + 1)) * 2 ^ n) := by rw [← hW, ← Nat.pow_succ']; congr 1; omega
  have hchar := rol_char W (n + 1) (2 * q + r / 2 ^ (W - (n + 1))) (r % 2 ^ (W - (n + 1))) hn (Nat.mod_lt _ (Nat.two_pow_pos _))
  have hB1 : 2 ^ (n + 1) = 2 * 2 ^ n := by rw [Nat.pow_succ']
  rw [hB1] at hchar
  have hB : 0 < 2 ^ n := Nat.two_pow_pos n
  have hA1 : 0 < 2 ^ (W - (n + 1)) := Nat.two_pow_pos _
  rw [hW2, hW, hA]
  rw [hA] at hr
  generalize 2 ^ (W - (n + 1)) = A at *
  generalize 2 ^ n = B at *
  have hdm := Nat.div_add_mod r A
  have hd2 : r / A < 2 := Nat.div_lt_of_lt_mul (by omega)
  have hm : r % A < A := Nat.mod_lt _ hA1
  generalize r / A = b at *
  generalize r % A = r' at *
  have e0 : q * (2 * A) + r = (2 * q + b) * A + r' := by
    rw [← hdm, Nat.add_mul, ← Nat.mul_assoc, Nat.mul_comm q 2, Nat.mul_comm A b, Nat.add_assoc]
  rw [e0, hchar, ← hdm]
  have e1 : (A * b + r') * B + q = b * (A * B) + (r' * B + q) := by
    rw [Nat.add_mul, Nat.mul_comm A b, Nat.mul_assoc, Nat.add_assoc]
  have hlt : r' * B + q < A * B := by
    calc r' * B + q < r' * B + B := by omega
      _ = (r' + 1) * B := by rw [Nat.add_mul, Nat.one_mul]
      _ ≤ A * B := Nat.mul_le_mul_right _ hm
  have hX : r' * (2 * B) = 2 * (r' * B) := by rw [Nat.mul_left_comm]
  rw [e1, hX]
  generalize r' * B = Y at *
  generalize A * B = Z at *
  rcases (show b = 0 ∨ b = 1 by omega) with rfl | rfl
  · rw [Nat.zero_mul, Nat.zero_add, Nat.div_eq_of_lt hlt, Nat.mod_eq_of_lt (by omega)]
    omega
  · rw [Nat.one_mul, show (Z + (Y + q)) / Z = 1 from by rw [Nat.add_div_left _ (by omega), Nat.div_eq_of_lt hlt], show 2 * (Z + (Y + q)) = 2 * (Y + q) + 2 * Z by omega, Nat.add_mod_right, Nat.mod_eq_of_lt (by omega)]
    omega
/-- By or, of the two parts. -/
theorem rol_or (W n x : Nat) (hn : n ≤ W) (hx : x < 2 ^ W) : (x * 2 ^ n % 2 ^ W) ||| (x / 2 ^ (W - n)) = rol W n x := by
  obtain ⟨q, r, rfl, hr, hq⟩ := rol_split W n x hn hx
  have h := rol_char W n q r hn hr
  have hp : 2 ^ W = 2 ^ (W - n) * 2 ^ n := by rw [← Nat.pow_add, Nat.sub_add_cancel hn]
  have e2 : (q * 2 ^ (W - n) + r) / 2 ^ (W - n) = q := by rw [Nat.mul_comm, Nat.mul_add_div (Nat.two_pow_pos _), Nat.div_eq_of_lt hr, Nat.add_zero]
  have e1 : (q * 2 ^ (W - n) + r) * 2 ^ n % 2 ^ W = 2 ^ n * r := by
    have : (q * 2 ^ (W - n) + r) * 2 ^ n % 2 ^ W + q = r * 2 ^ n + q := by rw [← h]; unfold rol; rw [e2]
    rw [Nat.mul_comm (2 ^ n) r]
    omega
  rw [h, e1, e2, ← Nat.two_pow_add_eq_or_of_lt hq, Nat.mul_comm]

theorem and31 (n : Nat) (h : n < 32) : bits .and .u64 (IntKind.u64.wrap (n : Int)) 31 = n := by
  rw [wu64 (by omega) (by omega)]
  have := bits_and_u64_nat n 31 (by omega) (by omega)
  rw [show (31 : Nat) = 2 ^ 5 - 1 from rfl, Nat.and_two_pow_sub_one_eq_mod, Nat.mod_eq_of_lt (by omega)] at this
  exact this
theorem and63 (n : Nat) (h : n < 64) : bits .and .u64 (IntKind.u64.wrap (n : Int)) 63 = n := by
  rw [wu64 (by omega) (by omega)]
  have := bits_and_u64_nat n 63 (by omega) (by omega)
  rw [show (63 : Nat) = 2 ^ 6 - 1 from rfl, Nat.and_two_pow_sub_one_eq_mod, Nat.mod_eq_of_lt (by omega)] at this
  exact this

/-- The number of bytes, the least one first. -/
def leb : List Int → Nat
  | [] => 0
  | b :: bs => b.toNat + 256 * leb bs
theorem leb_lt : ∀ (l : List Int), Bytes l → leb l < 256 ^ l.length
  | [], _ => by simp [leb]
  | b :: bs, h => by
    have := leb_lt bs h.tail
    have hb := h.head
    simp only [leb, List.length_cons, Nat.pow_succ]
    omega
theorem leb_lt4 (l : List Int) (h : Bytes l) (n : Nat) (hn : l.length ≤ n) : leb l < 256 ^ n := Nat.lt_of_lt_of_le (leb_lt l h) (Nat.pow_le_pow_right (by omega) hn)

end Go.Proofs.Ytmlodmpkcbncjaa.Rol

/- thin.Sum: what the document's steps give; plain laws. -/
set_option linter.unusedVariables false
set_option linter.unusedSimpArgs false
namespace Go.Proofs.Ytmlodmpkcbncjaa.Rol
open Go Go.RowKit Go.Proofs.YtmlodmpkcbncjaaW.PrintWords Go.Proofs.YtmlodmpkcbncjaaW.PrintLast Go.Proofs.YtmlodmpkcbncjaaW.PrintMore Go.Proofs.Ytmlodmpkcbncjaa.PureKit

def tin (x y : Nat) : Nat := rol 32 13 ((x + y * 2246822519) % 4294967296) * 2654435761 % 4294967296
def tstep (l : List Int) (i : Nat) (vs : List Nat) : List Nat := vs.set i (tin (vs.getD i 0) (leb ((l.drop (4 * i)).take 4)))
def tpart (l : List Int) (vs : List Nat) : Nat → List Nat
  | 0 => vs
  | i + 1 => tstep l i (tpart l vs i)
def tstripes : Nat → List Nat → List Int → List Nat
  | 0, vs, _ => vs
  | n + 1, vs, l => tstripes n (tpart l vs 4) (l.drop 16)
def tinit (s : Nat) : List Nat := [(s + 2654435761 + 2246822519) % 4294967296, (s + 2246822519) % 4294967296, s, (s + 4294967296 - 2654435761) % 4294967296]
def tout (v : List Nat) : Nat := (rol 32 1 (v.getD 0 0) + rol 32 7 (v.getD 1 0) + rol 32 12 (v.getD 2 0) + rol 32 18 (v.getD 3 0)) % 4294967296
def tstart (s : Nat) (l : List Int) : Nat := if l.length < 16 then (s + 374761393) % 4294967296 else tout (tstripes (l.length / 16) (tinit s) l)
def tfour (h : Nat) (l : List Int) : Nat := rol 32 17 ((h + leb (l.take 4) * 3266489917) % 4294967296) * 668265263 % 4294967296
def tfours : Nat → Nat → List Int → Nat
  | 0, h, _ => h
  | n + 1, h, l => tfours n (tfour h l) (l.drop 4)
def tbyte (h : Nat) (b : Int) : Nat := rol 32 11 ((h + b.toNat * 374761393) % 4294967296) * 2654435761 % 4294967296
def tbytes : Nat → List Int → Nat
  | h, [] => h
  | h, b :: bs => tbytes (tbyte h b) bs
def tmix (n x : Nat) : Nat := x ^^^ (x / 2 ^ n)
def tfin (h : Nat) : Nat := tmix 16 (tmix 13 (tmix 15 h * 2246822519 % 4294967296) * 3266489917 % 4294967296)
def trest (l : List Int) : List Int := l.drop (16 * (l.length / 16))
def ttail (h : Nat) (r : List Int) : Nat := tbytes (tfours (r.length / 4) h r) (r.drop (4 * (r.length / 4)))
def tsum (s : Nat) (l : List Int) : Nat := tfin (ttail ((tstart s l + l.length) % 4294967296) (trest l))

theorem tin_lt (x y : Nat) : tin x y < 4294967296 := Nat.mod_lt _ (by omega)
theorem tstep_len (l : List Int) (i : Nat) (vs : List Nat) : (tstep l i vs).length = vs.length := by simp [tstep]
theorem tpart_len (l : List Int) (vs : List Nat) : ∀ i, (tpart l vs i).length = vs.length
  | 0 => rfl
  | i + 1 => by rw [tpart, tstep_len, tpart_len l vs i]
def Small (vs : List Nat) : Prop := ∀ v ∈ vs, v < 4294967296
theorem Small.at {vs : List Nat} (h : Small vs) (i : Nat) : vs.getD i 0 < 4294967296 := by
  rw [List.getD_eq_getElem?_getD]
  rcases hv : vs[i]? with _ | v
  · rw [Option.getD_none]; exact Nat.zero_lt_succ 4294967295
  · rw [Option.getD_some]; exact h v (List.mem_of_getElem? hv)
theorem tstep_small (l : List Int) (i : Nat) (vs : List Nat) (h : Small vs) : Small (tstep l i vs) := fun v hv => by
  rcases List.mem_or_eq_of_mem_set hv with hv | rfl
  · exact h v hv
  · exact tin_lt _ _
theorem tpart_small (l : List Int) (vs : List Nat) (h : Small vs) : ∀ i, Small (tpart l vs i)
  | 0 => h
  | i + 1 => tstep_small l i _ (tpart_small l vs h i)
theorem tinit_small (s : Nat) (h : s < 4294967296) : Small (tinit s) := by
  intro v hv
  simp only [tinit, List.mem_cons, List.not_mem_nil, or_false] at hv
  rcases hv with h1 | h1 | h1 | h1 <;> rw [h1]
  · exact Nat.mod_lt _ (by omega)
  · exact Nat.mod_lt _ (by omega)
  · exact h
  · exact Nat.mod_lt _ (by omega)
theorem tstripes_succ (l : List Int) : ∀ (n : Nat) (vs : List Nat), tstripes (n + 1) vs l = tpart (l.drop (16 * n)) (tstripes n vs l) 4 := by
  intro n
  induction n generalizing l with
  | zero => intro vs; simp [tstripes]
  | succ n ih =>
    intro vs
    rw [tstripes, ih, tstripes, List.drop_drop]
    congr 2
    omega
theorem tstripes_len (l : List Int) (vs : List Nat) : ∀ n, (tstripes n vs l).length = vs.length
  | 0 => rfl
  | n + 1 => by rw [tstripes_succ, tpart_len, tstripes_len l vs n]
theorem tstripes_small (l : List Int) (vs : List Nat) (h : Small vs) : ∀ n, Small (tstripes n vs l)
  | 0 => h
  | n + 1 => by rw [tstripes_succ]; exact tpart_small _ _ (tstripes_small l vs h n) 4
theorem tfours_succ (l : List Int) : ∀ (n h : Nat), tfours (n + 1) h l = tfour (tfours n h l) (l.drop (4 * n)) := by
  intro n
  induction n generalizing l with
  | zero => intro h; simp [tfours]
  | succ n ih =>
    intro h
    rw [tfours, ih, tfours, List.drop_drop]
    congr 2
    omega
theorem tfour_lt (h : Nat) (l : List Int) : tfour h l < 4294967296 := Nat.mod_lt _ (by omega)
theorem tfours_lt (l : List Int) (h : Nat) (hh : h < 4294967296) : ∀ n, tfours n h l < 4294967296
  | 0 => hh
  | n + 1 => by rw [tfours_succ]; exact tfour_lt _ _
theorem tbyte_lt (h : Nat) (b : Int) : tbyte h b < 4294967296 := Nat.mod_lt _ (by omega)
theorem tbytes_append : ∀ (a b : List Int) (h : Nat), tbytes h (a ++ b) = tbytes (tbytes h a) b
  | [], _, _ => rfl
  | x :: xs, b, h => by simp only [List.cons_append, tbytes, tbytes_append xs b]
theorem tbytes_take (l : List Int) (h i : Nat) (hi : i < l.length) : tbytes h (l.take (i + 1)) = tbyte (tbytes h (l.take i)) l[i] := by
  rw [List.take_succ_eq_append_getElem hi, tbytes_append]
  rfl
theorem tbytes_lt (h : Nat) (hh : h < 4294967296) : ∀ (l : List Int), tbytes h l < 4294967296 := by
  intro l
  induction l generalizing h with
  | nil => exact hh
  | cons b bs ih => exact ih _ (tbyte_lt _ _)
theorem tmix_lt (n x : Nat) (h : x < 4294967296) : tmix n x < 4294967296 :=
  Nat.xor_lt_two_pow (n := 32) h (Nat.lt_of_le_of_lt (Nat.div_le_self _ _) h)
theorem tout_lt (v : List Nat) : tout v < 4294967296 := Nat.mod_lt _ (by omega)
theorem tstart_lt (s : Nat) (l : List Int) : tstart s l < 4294967296 := by
  unfold tstart
  split
  · exact Nat.mod_lt _ (by omega)
  · exact tout_lt _
theorem tsum_lt (s : Nat) (l : List Int) : tsum s l < 4294967296 := tmix_lt 16 _ (Nat.mod_lt _ (by omega))

end Go.Proofs.Ytmlodmpkcbncjaa.Rol

/- thin.num, bits.RotateLeft32. -/
set_option linter.unusedVariables false
set_option linter.unusedSimpArgs false
namespace Go.Proofs.Ytmlodmpkcbncjaa.G
open Go Go.RowKit Go.Proofs.YtmlodmpkcbncjaaW.PrintWords Go.Proofs.YtmlodmpkcbncjaaW.PrintLast Go.Proofs.YtmlodmpkcbncjaaW.PrintMore Go.Proofs.Ytmlodmpkcbncjaa.PureKit Go.Proofs.Ytmlodmpkcbncjaa.Sep Go.Proofs.Ytmlodmpkcbncjaa.Rol

theorem rot32_eq (x n : Nat) (hx : x < 4294967296) (h0 : 0 < n) (hn : n < 32) : bits_RotateLeft32.f (x : Int) (n : Int) = some ((rol 32 n x : Nat) : Int) := by
  have e : IntKind.u64.wrap (32 - (n : Int)) = ((32 - n : Nat) : Int) := by rw [wu64 (by omega) (by omega)]; omega
  have h := rol_or 32 n x (by omega) hx
  have hl := rol_lt 32 n x (by omega) hx
  unfold bits_RotateLeft32.f
  rw [and31 n hn, e, if_pos (by omega), if_pos (by omega)]
  unfold shl shr
  rw [show min ((n : Int).toNat) (IntKind.u32.bits) = n from by show min _ 32 = _; omega, show min (((32 - n : Nat) : Int).toNat) (IntKind.u32.bits) = 32 - n from by show min _ 32 = _; omega]
  rw [IntKind.wrap_u32]
  have e1 : (x : Int) * 2 ^ n % 4294967296 = ((x * 2 ^ n % 2 ^ 32 : Nat) : Int) := by simp
  have e2 : (x : Int) / 2 ^ (32 - n) = ((x / 2 ^ (32 - n) : Nat) : Int) := by simp
  rw [e1, e2, bits_or_u32_nat _ _ (Nat.mod_lt _ (by omega)) (Nat.lt_of_le_of_lt (Nat.div_le_self _ _) hx), h]
theorem rot32 (w : World) (x n : Nat) (a b : Int) (ha : a = (x : Int)) (hb : b = (n : Int)) (hx : x < 4294967296) (h0 : 0 < n) (hn : n < 32) :
    Calls Try.prog 86 #[.int .u32 a, .int .i64 b] w fun e w' => e = .returned (.int .u32 ((rol 32 n x : Nat) : Int)) ∧ Drawn0 w w' := by
  subst ha
  subst hb
  exact bits_RotateLeft32.calls _ _ _ w (rot32_eq x n hx h0 hn)
theorem num_eq (l : List Int) (hb : Bytes l) (hl : 4 ≤ l.length) : thin_num.f l = some ((leb (l.take 4) : Nat) : Int) := by
  obtain ⟨b0, b1, b2, b3, r, rfl⟩ : ∃ b0 b1 b2 b3 r, l = b0 :: b1 :: b2 :: b3 :: r := by
    rcases l with _ | ⟨b0, _ | ⟨b1, _ | ⟨b2, _ | ⟨b3, r⟩⟩⟩⟩ <;> simp at hl
    exact ⟨_, _, _, _, _, rfl⟩
  have h0 := hb.head
  have h1 := hb.tail.head
  have h2 := hb.tail.tail.head
  have h3 := hb.tail.tail.tail.head
  obtain ⟨c0, rfl⟩ := Int.eq_ofNat_of_zero_le h0.1
  obtain ⟨c1, rfl⟩ := Int.eq_ofNat_of_zero_le h1.1
  obtain ⟨c2, rfl⟩ := Int.eq_ofNat_of_zero_le h2.1
  obtain ⟨c3, rfl⟩ := Int.eq_ofNat_of_zero_le h3.1
  unfold thin_num.f
  rw [if_pos (by simp; omega), if_pos (by simp; omega), if_pos (by simp; omega), if_pos (by simp; omega)]
  have r0 : rd ((c0 : Int) :: (c1 : Int) :: (c2 : Int) :: (c3 : Int) :: r) 0 = c0 := rfl
  have r1 : rd ((c0 : Int) :: (c1 : Int) :: (c2 : Int) :: (c3 : Int) :: r) 1 = c1 := rfl
  have r2 : rd ((c0 : Int) :: (c1 : Int) :: (c2 : Int) :: (c3 : Int) :: r) 2 = c2 := rfl
  have r3 : rd ((c0 : Int) :: (c1 : Int) :: (c2 : Int) :: (c3 : Int) :: r) 3 = c3 := rfl
  rw [r0, r1, r2, r3]
  have g0 : (c0 : Int) % 4294967296 = (c0 : Nat) := by omega
  have g1 : (c1 : Int) % 4294967296 * 256 % 4294967296 = ((2 ^ 8 * c1 : Nat) : Int) := by omega
  have g2 : (c2 : Int) % 4294967296 * 65536 % 4294967296 = ((2 ^ 16 * c2 : Nat) : Int) := by omega
  have g3 : (c3 : Int) % 4294967296 * 16777216 % 4294967296 = ((2 ^ 24 * c3 : Nat) : Int) := by omega
  rw [g0, g1, g2, g3]
  have o1 := Nat.two_pow_add_eq_or_of_lt (i := 8) (b := c0) (by omega) c1
  have o2 := Nat.two_pow_add_eq_or_of_lt (i := 16) (b := 2 ^ 8 * c1 + c0) (by omega) c2
  have o3 := Nat.two_pow_add_eq_or_of_lt (i := 24) (b := 2 ^ 16 * c2 + (2 ^ 8 * c1 + c0)) (by omega) c3
  rw [bits_or_u32_nat c0 (2 ^ 8 * c1) (by omega) (by omega), Nat.or_comm, ← o1, bits_or_u32_nat _ _ (by omega) (by omega), Nat.or_comm, ← o2, bits_or_u32_nat _ _ (by omega) (by omega), Nat.or_comm, ← o3]
  congr 1
  simp only [List.take_succ_cons, List.take_zero, leb, Int.toNat_natCast]
  omega
theorem num4 (w : World) (A : Option Addr) (c n : Nat) (l : List Int) (hn : n = l.length) (hC : Kd.C (Kd.int .u8) w A l.length l) (hc : l.length ≤ c) (hb : Bytes l) (hl : 4 ≤ l.length) :
    Calls Try.prog 87 #[.slice A n c] w fun e w' => e = .returned (.int .u32 ((leb (l.take 4) : Nat) : Int)) ∧ Drawn0 w w' := by
  subst hn
  exact thin_num.calls A c l _ w hC hc (num_eq l hb hl)

end Go.Proofs.Ytmlodmpkcbncjaa.G

/- thin.start. -/
set_option linter.unusedVariables false
set_option linter.unusedSimpArgs false
namespace Go.Proofs.Ytmlodmpkcbncjaa.G
open Go Go.RowKit Go.Proofs.YtmlodmpkcbncjaaW.PrintWords Go.Proofs.YtmlodmpkcbncjaaW.PrintLast Go.Proofs.YtmlodmpkcbncjaaW.PrintMore Go.Proofs.Ytmlodmpkcbncjaa.PureKit Go.Proofs.Ytmlodmpkcbncjaa.Sep Go.Proofs.Ytmlodmpkcbncjaa.Rol

theorem tinfo8 : (Try.prog.info? 5).map (fun i => (i.zero, i.size, i.bytes)) = some (some (.int .u8 0), 1, 1) := by kernel_rfl
def tvals (vs : List Nat) : Array Value := (vs.map (fun (v : Nat) => Value.int .u32 (v : Int))).toArray
theorem tvals_set (us : List Nat) (j x : Nat) : (tvals us).setIfInBounds j (.int .u32 (x : Int)) = tvals (us.set j x) := by
  unfold tvals
  rw [List.setIfInBounds_toArray, List.map_set]

set_option maxHeartbeats 4000000 in
set_option maxRecDepth 100000 in
theorem thin_start (w : World) (A : Option Addr) (c : Nat) (l : List Int) (s : Nat) (a : Int) (ha : a = (s : Int)) (hC : Kd.C (Kd.int .u8) w A l.length l) (hc : l.length ≤ c) (hb : Bytes l) (hs : s < 4294967296) :
    Calls Try.prog 85 #[.int .u32 a, .slice A l.length c] w fun e w' => ∃ (A1 : Option Addr) (c1 : Nat), e = .returned (.tuple #[.int .u32 ((tstart s l : Nat) : Int), .slice A1 (trest l).length c1]) ∧ Kd.C (Kd.int .u8) w A1 (trest l).length (trest l) ∧ (trest l).length ≤ c1 ∧ Below w.heap.size w w' := by
  subst ha
  have hCA := Aside0.mk hC
  have hcA := Aside0.mk hc
  have hS := Aside0.mk (Sep.start w)
  clear hC hc
  by_cases hsh : l.length < 16
  · have hd : decide ((l.length : Int) < 16) = true := decide_eq_true (by omega)
    go_enter Try.func85, Try.ntmps85
    go_wp2
    go_ret2
    have hr : trest l = l := by unfold trest; rw [show l.length / 16 = 0 by omega]; rfl
    rw [hr]
    refine ⟨A, c, ?_, hCA.out, hcA.out, ?_⟩
    · unfold tstart
      rw [if_pos hsh]
      refine congrArg (fun z => Ending.returned (Value.tuple #[.int .u32 z, .slice A l.length c])) ?_
      omega
    · exact Below.refl _ _
  · have hd : decide ((l.length : Int) < 16) = false := decide_eq_false (by omega)
    have hshA := Aside0.mk hsh
    clear hsh
    go_enter Try.func85, Try.ntmps85
    go_wp2
    have hS1 : Aside0 (Sep.Sep w (w.alloc (.cells #[.int .u32 (((s : Int) + 2654435761 + 2246822519) % 4294967296), .int .u32 (((s : Int) + 2246822519) % 4294967296), .int .u32 s, .int .u32 (((s : Int) - 2654435761) % 4294967296)] 137 (0, 0))) [blk w.heap.size (tvals (tinit s)) 137]) := by
      have e : tvals (tinit s) = #[.int .u32 (((s : Int) + 2654435761 + 2246822519) % 4294967296), .int .u32 (((s : Int) + 2246822519) % 4294967296), .int .u32 s, .int .u32 (((s : Int) - 2654435761) % 4294967296)] := by
        unfold tvals tinit
        simp only [List.map_cons, List.map_nil]
        rw [show (((s + 2654435761 + 2246822519) % 4294967296 : Nat) : Int) = ((s : Int) + 2654435761 + 2246822519) % 4294967296 by omega, show (((s + 2246822519) % 4294967296 : Nat) : Int) = ((s : Int) + 2246822519) % 4294967296 by omega, show (((s + 4294967296 - 2654435761) % 4294967296 : Nat) : Int) = ((s : Int) - 2654435761) % 4294967296 by omega]
      rw [e]
      exact ⟨hS.out.alloc _ _⟩
    generalize w.alloc (.cells #[.int .u32 (((s : Int) + 2654435761 + 2246822519) % 4294967296), .int .u32 (((s : Int) + 2246822519) % 4294967296), .int .u32 s, .int .u32 (((s : Int) - 2654435761) % 4294967296)] 137 (0, 0)) = w1 at hS1 ⊢
    go_loopg [1] (l.length / 16) (fun kq v1 w' => ∃ (i : Nat) (A1 : Option Addr) (c1 : Nat), v1 = .slice A1 (l.drop (16 * i)).length c1 ∧ Aside0 (Kd.C (Kd.int .u8) w A1 (l.drop (16 * i)).length (l.drop (16 * i)) ∧ (l.drop (16 * i)).length ≤ c1 ∧ i + kq = l.length / 16) ∧ Aside0 (Sep.Sep w w' [blk w.heap.size (tvals (tstripes i (tinit s) l)) 137]))
    case atStart => exact ⟨0, A, c, rfl, ⟨hCA.out, hcA.out, by omega⟩, hS1⟩
    case round =>
      obtain ⟨i, A1, c1, rfl, hA, hS⟩ := hrel
      by_cases hin : i < l.length / 16
      · have hlen : (l.drop (16 * i)).length = l.length - 16 * i := by rw [List.length_drop]
        have h16 : 16 ≤ (l.drop (16 * i)).length := by omega
        have hb1 : Bytes (l.drop (16 * i)) := hb.drop _
        have hvs : Small (tstripes i (tinit s) l) := tstripes_small _ _ (tinit_small s hs) _
        have hvl : (tstripes i (tinit s) l).length = 4 := tstripes_len _ _ _
        have hd : decide (((l.drop (16 * i)).length : Int) ≥ 16) = true := decide_eq_true (by omega)
        obtain ⟨k1, rfl⟩ : ∃ k1, gk = k1 + 1 := ⟨gk - 1, by have := hA.out; omega⟩
        generalize hll : l.drop (16 * i) = l1 at *
        generalize hvv : tstripes i (tinit s) l = vs at *
        have hlenA := Aside0.mk hlen
        have h16A := Aside0.mk h16
        clear hlen h16
        go_wp2
        go_loopg [30] 4 (fun kq v30 w' => ∃ (j : Nat), v30 = .int .i64 j ∧ Aside0 (j + kq = 4) ∧ Aside0 (Sep.Sep w w' [blk w.heap.size (tvals (tpart l1 vs j)) 137]))
        case atStart => exact ⟨0, rfl, ⟨by omega⟩, hS⟩
        case round =>
          obtain ⟨j, rfl, hj, hS2⟩ := hrel
          by_cases hjn : j < 4
          · have hd2 : decide ((j : Int) < 4) = true := decide_eq_true (by omega)
            obtain ⟨k2, rfl⟩ : ∃ k2, gk = k2 + 1 := ⟨gk - 1, by have := hj.out; omega⟩
            have p0 : ((0 : Int) ≤ (j : Int)) = True := eq_true (by omega)
            have q0 : ((j : Int) < 4) = True := eq_true (by omega)
            have hul : (tpart l1 vs j).length = 4 := by rw [tpart_len, hvl]
            have hus : Small (tpart l1 vs j) := tpart_small _ _ hvs j
            obtain ⟨x, hx⟩ : ∃ x, (tpart l1 vs j).getD j 0 = x := ⟨_, rfl⟩
            have hxl : x < 4294967296 := by rw [← hx]; exact hus.at j
            have hcell : (tvals (tpart l1 vs j))[j]? = some (.int .u32 (x : Int)) := by
              unfold tvals
              rw [List.getElem?_toArray, List.getElem?_map, List.getElem?_eq_getElem (by omega)]
              rw [List.getD_eq_getElem?_getD, List.getElem?_eq_getElem (by omega)] at hx
              simp only [Option.getD_some] at hx
              rw [hx]
              rfl
            generalize hu : tpart l1 vs j = us at *
            have hxA := Aside0.mk hx
            have hulA := Aside0.mk hul
            clear hx hul
            go_wp2
            have hS3 := hS2.out.drew
            have hc0 : wr.drew.cell? ⟨w.heap.size, j, none⟩ = some (.int .u32 (x : Int)) := (hS3.cell j).trans hcell
            have hfr : wr.drew.frozen? ⟨w.heap.size, j, none⟩ = false := hS3.frozen j
            obtain ⟨i0, hi0, _, hsz, _⟩ := info_parts tinfo8
            have hl4 : ((4 * (j : Int)).toNat) = 4 * j := by omega
            have hcut := cut_from (P := Try.prog) 22 5 .i64 Try.underlying22 hi0 1 hsz A1 l1.length c1 (4 * (j : Int)) (by omega) (by have := h16A.out; omega)
            have hC4 := Kd.C_drop (m := 4 * j) (c := c1) hA.out.1 (by have := h16A.out; omega) hA.out.2.1
            obtain ⟨A4, hA4⟩ : ∃ A4, A4 = (if c1 = 4 * j then A1 else A1.map (·.add (4 * j * 1))) := ⟨_, rfl⟩
            rw [hl4, ← hA4] at hcut
            have hC4 := Aside0.mk (show Kd.C (Kd.int .u8) w A4 (l1.drop (4 * j)).length (l1.drop (4 * j)) by rw [hA4]; exact hC4)
            have hw4 : wrap64 (4 * (j : Int)) = 4 * (j : Int) := w64 (by omega) (by omega)
            have hS3 := Aside0.mk hS3
            clear hA4 hl4
            obtain ⟨y, hy⟩ : ∃ y, leb ((l1.drop (4 * j)).take 4) = y := ⟨_, rfl⟩
            have hyA := Aside0.mk hy
            clear hy
            refine start_ (n := 15) (S := fun w' => w'.cell? ⟨w.heap.size, j, none⟩ = some (.int .u32 (x : Int))) (ds := [14]) #[false, false, false, false, false, false, false, false, false, false, false, false, false, false, false] (by kernel_rfl) rfl rfl (hc0) (fun hHeld => ?_)
            refine pure_ (i := 0) (N := some 33) (v := ?_) (a' := ?_) #[true, false, false, false, false, false, false, false, false, false, false, false, false, false, false] rfl rfl (by kernel_rfl) (fun _ _ _ h => h) (Or.inl ⟨by rfl, ?_⟩) ?_ ?_
            rotate_left
            · intro w'
              go_simp
              with_reducible rfl
            rotate_left
            · simp only [Act.put, List.setIfInBounds_toArray, List.set_cons_zero, List.set_cons_succ, i64_w, i32_w]
              rfl
            refine pure_ (i := 1) (N := some 34) (v := ?_) (a' := ?_) #[true, true, false, false, false, false, false, false, false, false, false, false, false, false, false] rfl rfl (by kernel_rfl) (fun _ _ _ h => h) (Or.inl ⟨by rfl, ?_⟩) ?_ ?_
            rotate_left
            · intro w'
              go_simp
              with_reducible rfl
            rotate_left
            · simp only [Act.put, List.setIfInBounds_toArray, List.set_cons_zero, List.set_cons_succ, i64_w, i32_w]
              rfl
            refine pure_ (i := 2) (N := some 35) (v := ?_) (a' := ?_) #[true, true, true, false, false, false, false, false, false, false, false, false, false, false, false] rfl rfl (by kernel_rfl) (fun _ _ _ h => h) (Or.inl ⟨by rfl, ?_⟩) ?_ ?_
            rotate_left
            · intro w'
              go_simp
              with_reducible rfl
            rotate_left
            · simp only [Act.put, List.setIfInBounds_toArray, List.set_cons_zero, List.set_cons_succ, i64_w, i32_w]
              rfl
            refine pure_ (i := 4) (N := some 37) (v := ?_) (a' := ?_) #[true, true, true, false, true, false, false, false, false, false, false, false, false, false, false] rfl rfl (by kernel_rfl) (fun _ _ _ h => h) (Or.inl ⟨by rfl, ?_⟩) ?_ ?_
            rotate_left
            · intro w'
              go_simp
              with_reducible rfl
            rotate_left
            · simp only [Act.put, List.setIfInBounds_toArray, List.set_cons_zero, List.set_cons_succ, i64_w, i32_w]
              rfl
            refine pure_ (i := 5) (N := some 38) (v := ?_) (a' := ?_) #[true, true, true, false, true, true, false, false, false, false, false, false, false, false, false] rfl rfl (by kernel_rfl) (fun _ _ _ h => h) (Or.inl ⟨by rfl, ?_⟩) ?_ ?_
            rotate_left
            · intro w'
              go_simp
              with_reducible rfl
            rotate_left
            · simp only [Act.put, List.setIfInBounds_toArray, List.set_cons_zero, List.set_cons_succ, i64_w, i32_w]
              rfl
            refine pure_ (i := 6) (N := some 39) (v := ?_) (a' := ?_) #[true, true, true, false, true, true, true, false, false, false, false, false, false, false, false] rfl rfl (by kernel_rfl) (fun _ _ _ h => h) (Or.inl ⟨by rfl, ?_⟩) ?_ ?_
            rotate_left
            · intro w'
              go_simp
              with_reducible rfl
            rotate_left
            · simp only [Act.put, List.setIfInBounds_toArray, List.set_cons_zero, List.set_cons_succ, i64_w, i32_w]
              rfl
            refine pure_ (i := 7) (N := some 40) (v := ?_) (a' := ?_) #[true, true, true, false, true, true, true, true, false, false, false, false, false, false, false] rfl rfl (by kernel_rfl) (fun _ _ _ h => h) (Or.inl ⟨by rfl, ?_⟩) ?_ ?_
            rotate_left
            · intro w'
              go_simp
              with_reducible rfl
            rotate_left
            · simp only [Act.put, List.setIfInBounds_toArray, List.set_cons_zero, List.set_cons_succ, i64_w, i32_w]
              rfl
            refine take_ (i := 3) (N := some 36) (v := ?_) (a' := ?_) #[true, true, true, true, true, true, true, true, false, false, false, false, false, false, false] rfl rfl (by kernel_rfl) (fun _ _ _ h => h) (Or.inl ⟨by rfl, ?_⟩) hHeld ?_ ?_
            rotate_left
            · intro w' s0
              go_simp
              with_reducible rfl
            rotate_left
            · simp only [Act.put, List.setIfInBounds_toArray, List.set_cons_zero, List.set_cons_succ, i64_w, i32_w]
              rfl
            refine one_ (i := 8) (N := some 41) #[true, true, true, true, true, true, true, true, true, false, false, false, false, false, false] rfl rfl (by kernel_rfl) (by decide) (fun K hK => ?_)
            refine goes_ Try.func87 (by kernel_rfl) rfl #[.slice A4 (l1.length - 4 * j) (c1 - 4 * j)] (by rfl) rfl rfl (by (try simp only [List.map_toArray, List.map_cons, List.map_nil]); first | done | rfl) ?_
            have hnum := num4 wr.drew A4 (c1 - 4 * j) (l1.length - 4 * j) (l1.drop (4 * j)) (by rw [List.length_drop]) (Kd.C_below hC4.out hS3.out.1) (by rw [List.length_drop]; have := hA.out.2.1; omega) (hb1.drop _) (by rw [List.length_drop]; have := h16A.out; omega)
            rw [hyA.out] at hnum
            refine hnum.mono ?_
            clear hnum
            rintro e w3 ⟨rfl, ⟨nd, rfl⟩⟩
            refine ⟨_, rfl, ?_⟩
            have hS4 := Aside0.mk (hS3.out.drewN nd)
            have hc4 := (hS4.out.cell j).trans hcell
            refine hK.out _ _ (hc4) (fun hHeld => ?_)
            clear hK K
            refine norm_ (a' := ?_) ?_ ?_
            rotate_left
            · show Act.put _ (some 41) _ = _
              simp only [Act.put, List.setIfInBounds_toArray, List.set_cons_zero, List.set_cons_succ, i64_w, i32_w]
              rfl
            refine pure_ (i := 9) (N := some 42) (v := ?_) (a' := ?_) #[true, true, true, true, true, true, true, true, true, true, false, false, false, false, false] rfl rfl (by kernel_rfl) (fun _ _ _ h => h) (Or.inl ⟨by rfl, ?_⟩) ?_ ?_
            rotate_left
            · intro w'
              go_simp
              with_reducible rfl
            rotate_left
            · simp only [Act.put, List.setIfInBounds_toArray, List.set_cons_zero, List.set_cons_succ, i64_w, i32_w]
              rfl
            refine pure_ (i := 10) (N := some 43) (v := ?_) (a' := ?_) #[true, true, true, true, true, true, true, true, true, true, true, false, false, false, false] rfl rfl (by kernel_rfl) (fun _ _ _ h => h) (Or.inl ⟨by rfl, ?_⟩) ?_ ?_
            rotate_left
            · intro w'
              go_simp
              with_reducible rfl
            rotate_left
            · simp only [Act.put, List.setIfInBounds_toArray, List.set_cons_zero, List.set_cons_succ, i64_w, i32_w]
              rfl
            refine one_ (i := 11) (N := some 44) #[true, true, true, true, true, true, true, true, true, true, true, true, false, false, false] rfl rfl (by kernel_rfl) (by decide) (fun K hK => ?_)
            refine goes_ Try.func86 (by kernel_rfl) rfl #[.int .u32 (IntKind.u32.wrap ((x : Int) + IntKind.u32.wrap ((y : Int) * 2246822519))), .int .i64 13] (by rfl) rfl rfl (by (try simp only [List.map_toArray, List.map_cons, List.map_nil]); first | done | rfl) ?_
            refine (rot32 _ ((x + y * 2246822519) % 4294967296) 13 _ _ (by rw [IntKind.wrap_u32, IntKind.wrap_u32]; omega) rfl (Nat.mod_lt _ (by omega)) (by omega) (by omega)).mono ?_
            rintro e w4 ⟨rfl, ⟨nd2, rfl⟩⟩
            refine ⟨_, rfl, ?_⟩
            have hS5 := Aside0.mk (hS4.out.drewN nd2)
            have hc5 := (hS5.out.cell j).trans hcell
            have hf5 := hS5.out.frozen j
            refine hK.out _ _ (hc5) (fun hHeld => ?_)
            clear hK K
            refine norm_ (a' := ?_) ?_ ?_
            rotate_left
            · show Act.put _ (some 44) _ = _
              simp only [Act.put, List.setIfInBounds_toArray, List.set_cons_zero, List.set_cons_succ, i64_w, i32_w]
              rfl
            refine pure_ (i := 12) (N := some 45) (v := ?_) (a' := ?_) #[true, true, true, true, true, true, true, true, true, true, true, true, true, false, false] rfl rfl (by kernel_rfl) (fun _ _ _ h => h) (Or.inl ⟨by rfl, ?_⟩) ?_ ?_
            rotate_left
            · intro w'
              go_simp
              with_reducible rfl
            rotate_left
            · simp only [Act.put, List.setIfInBounds_toArray, List.set_cons_zero, List.set_cons_succ, i64_w, i32_w]
              rfl
            refine pure_ (i := 13) (N := some 46) (v := ?_) (a' := ?_) #[true, true, true, true, true, true, true, true, true, true, true, true, true, true, false] rfl rfl (by kernel_rfl) (fun _ _ _ h => h) (Or.inl ⟨by rfl, ?_⟩) ?_ ?_
            rotate_left
            · intro w'
              go_simp
              with_reducible rfl
            rotate_left
            · simp only [Act.put, List.setIfInBounds_toArray, List.set_cons_zero, List.set_cons_succ, i64_w, i32_w]
              rfl
            refine last_ (i := 14) (N := none) #[true, true, true, true, true, true, true, true, true, true, true, true, true, true, true] rfl rfl (by kernel_rfl) (by decide) (fun K hK => ?_)
            have hcw : wr.cell? ⟨w.heap.size, j, none⟩ = some (.int .u32 (x : Int)) := (hS2.out.cell j).trans hcell
            have hfw : wr.frozen? ⟨w.heap.size, j, none⟩ = false := hS2.out.frozen j
            refine skip_ (w1 := ?_) (by kernel_rfl) rfl ?_ ?_
            rotate_left
            · go_simp
              rfl
            refine hK.out _ _ ?_
            clear hK K
            refine done_ (by kernel_rfl) ?_
            clear hc0 hfr hcut hC4
            go_wp2
            go_roundg k2
            case measure => omega
            case rel =>
              refine ⟨j + 1, by simp, ⟨by have := hj.out; omega⟩, ⟨?_⟩⟩
              have hq := (hS2.out.drewN (1 + nd + nd2)).set j (.int .u32 ((tin x y : Nat) : Int))
              rw [tvals_set] at hq
              rw [show tpart l1 vs (j + 1) = us.set j (tin x y) by rw [tpart, hu, tstep, hxA.out, hyA.out], show ((rol 32 13 ((x + y * 2246822519) % 4294967296) : Nat) : Int) * 2654435761 % 4294967296 = ((tin x y : Nat) : Int) by unfold tin; omega]
              exact hq
          · have hj4 : j = 4 := by have := hj.out; omega
            subst hj4
            have hd2 : decide (((4 : Nat) : Int) < 4) = false := rfl
            obtain ⟨i0, hi0, _, hsz, _⟩ := info_parts tinfo8
            have hcut := cut_from (P := Try.prog) 22 5 .i64 Try.underlying22 hi0 1 hsz A1 l1.length c1 16 (by omega) (by have := h16A.out; omega)
            have hC4 := Kd.C_drop (m := 16) (c := c1) hA.out.1 h16A.out hA.out.2.1
            obtain ⟨A4, hA4⟩ : ∃ A4, A4 = (if c1 = 16 then A1 else A1.map (·.add (16 * 1))) := ⟨_, rfl⟩
            rw [show ((16 : Int).toNat) = 16 from rfl, ← hA4] at hcut
            have hC4 := Aside0.mk (show Kd.C (Kd.int .u8) w A4 (l1.drop 16).length (l1.drop 16) by rw [hA4]; exact hC4)
            clear hA4
            go_wp2
            go_roundg k1
            case measure => omega
            case rel =>
              have e : l.drop (16 * (i + 1)) = l1.drop 16 := by rw [← hll, List.drop_drop]; congr 1
              refine ⟨i + 1, A4, c1 - 16, ?_, ?_, ?_⟩
              · rw [e, List.length_drop]
              · rw [e]
                exact ⟨hC4.out, by rw [List.length_drop]; have := hA.out.2.1; omega, by have := hA.out; omega⟩
              · rw [tstripes_succ, hll, hvv]
                exact hS2
      · have hie : i = l.length / 16 := by have := hA.out; omega
        have hlen : (l.drop (16 * i)).length = l.length - 16 * i := by rw [List.length_drop]
        have hd : decide (((l.drop (16 * i)).length : Int) ≥ 16) = false := decide_eq_false (by omega)
        have hr : l.drop (16 * i) = trest l := by rw [hie]; rfl
        have hvs : Small (tstripes i (tinit s) l) := tstripes_small _ _ (tinit_small s hs) _
        have hvl : (tstripes i (tinit s) l).length = 4 := tstripes_len _ _ _
        have hstart : tstart s l = tout (tstripes i (tinit s) l) := by unfold tstart; rw [if_neg hshA.out, hie]
        have hlenA := Aside0.mk hlen
        clear hlen
        generalize tstripes i (tinit s) l = vs at *
        obtain ⟨x0, x1, x2, x3, rfl⟩ : ∃ x0 x1 x2 x3, vs = [x0, x1, x2, x3] := by
          rcases vs with _ | ⟨x0, _ | ⟨x1, _ | ⟨x2, _ | ⟨x3, _ | ⟨x4, r⟩⟩⟩⟩⟩ <;> simp at hvl
          exact ⟨_, _, _, _, rfl⟩
        have hx0 : x0 < 4294967296 := hvs x0 (by simp)
        have hx1 : x1 < 4294967296 := hvs x1 (by simp)
        have hx2 : x2 < 4294967296 := hvs x2 (by simp)
        have hx3 : x3 < 4294967296 := hvs x3 (by simp)
        rw [hr] at hA hd ⊢
        have hstartA := Aside0.mk hstart
        clear hr hlenA hstart
        go_wp2
        have hS3 := hS.out.drew
        have hc0 : wr.drew.cell? ⟨w.heap.size, 0, none⟩ = some (.int .u32 (x0 : Int)) := hS3.cell 0
        have hc1 : wr.drew.cell? ⟨w.heap.size, 1, none⟩ = some (.int .u32 (x1 : Int)) := hS3.cell 1
        have hc2 : wr.drew.cell? ⟨w.heap.size, 2, none⟩ = some (.int .u32 (x2 : Int)) := hS3.cell 2
        have hc3 : wr.drew.cell? ⟨w.heap.size, 3, none⟩ = some (.int .u32 (x3 : Int)) := hS3.cell 3
        have hS3 := Aside0.mk hS3
        refine start_ (n := 18) (S := fun w' => w'.cell? ⟨w.heap.size, 0, none⟩ = some (.int .u32 (x0 : Int)) ∧ w'.cell? ⟨w.heap.size, 1, none⟩ = some (.int .u32 (x1 : Int)) ∧ w'.cell? ⟨w.heap.size, 2, none⟩ = some (.int .u32 (x2 : Int)) ∧ w'.cell? ⟨w.heap.size, 3, none⟩ = some (.int .u32 (x3 : Int))) (ds := []) #[false, false, false, false, false, false, false, false, false, false, false, false, false, false, false, false, false, false] (by kernel_rfl) rfl rfl ⟨hc0, hc1, hc2, hc3⟩ (fun hHeld => ?_)
        refine pure_ (i := 0) (N := some 50) (v := ?_) (a' := ?_) #[true, false, false, false, false, false, false, false, false, false, false, false, false, false, false, false, false, false] rfl rfl (by kernel_rfl) (fun _ _ _ h => h) (Or.inl ⟨by rfl, ?_⟩) ?_ ?_
        rotate_left
        · intro w'
          go_simp
          with_reducible rfl
        rotate_left
        · simp only [Act.put, List.setIfInBounds_toArray, List.set_cons_zero, List.set_cons_succ, i64_w, i32_w]
          rfl
        refine pure_ (i := 3) (N := some 53) (v := ?_) (a' := ?_) #[true, false, false, true, false, false, false, false, false, false, false, false, false, false, false, false, false, false] rfl rfl (by kernel_rfl) (fun _ _ _ h => h) (Or.inl ⟨by rfl, ?_⟩) ?_ ?_
        rotate_left
        · intro w'
          go_simp
          with_reducible rfl
        rotate_left
        · simp only [Act.put, List.setIfInBounds_toArray, List.set_cons_zero, List.set_cons_succ, i64_w, i32_w]
          rfl
        refine pure_ (i := 7) (N := some 57) (v := ?_) (a' := ?_) #[true, false, false, true, false, false, false, true, false, false, false, false, false, false, false, false, false, false] rfl rfl (by kernel_rfl) (fun _ _ _ h => h) (Or.inl ⟨by rfl, ?_⟩) ?_ ?_
        rotate_left
        · intro w'
          go_simp
          with_reducible rfl
        rotate_left
        · simp only [Act.put, List.setIfInBounds_toArray, List.set_cons_zero, List.set_cons_succ, i64_w, i32_w]
          rfl
        refine pure_ (i := 11) (N := some 61) (v := ?_) (a' := ?_) #[true, false, false, true, false, false, false, true, false, false, false, true, false, false, false, false, false, false] rfl rfl (by kernel_rfl) (fun _ _ _ h => h) (Or.inl ⟨by rfl, ?_⟩) ?_ ?_
        rotate_left
        · intro w'
          go_simp
          with_reducible rfl
        rotate_left
        · simp only [Act.put, List.setIfInBounds_toArray, List.set_cons_zero, List.set_cons_succ, i64_w, i32_w]
          rfl
        refine pure_ (i := 15) (N := some 65) (v := ?_) (a' := ?_) #[true, false, false, true, false, false, false, true, false, false, false, true, false, false, false, true, false, false] rfl rfl (by kernel_rfl) (fun _ _ _ h => h) (Or.inl ⟨by rfl, ?_⟩) ?_ ?_
        rotate_left
        · intro w'
          go_simp
          with_reducible rfl
        rotate_left
        · simp only [Act.put, List.setIfInBounds_toArray, List.set_cons_zero, List.set_cons_succ, i64_w, i32_w]
          rfl
        refine take_ (i := 1) (N := some 51) (v := ?_) (a' := ?_) #[true, true, false, true, false, false, false, true, false, false, false, true, false, false, false, true, false, false] rfl rfl (by kernel_rfl) (fun _ _ _ h => h) (Or.inl ⟨by rfl, ?_⟩) hHeld ?_ ?_
        rotate_left
        · rintro w' ⟨s0, s1, s2, s3⟩
          go_simp
          with_reducible rfl
        rotate_left
        · simp only [Act.put, List.setIfInBounds_toArray, List.set_cons_zero, List.set_cons_succ, i64_w, i32_w]
          rfl
        refine take_ (i := 4) (N := some 54) (v := ?_) (a' := ?_) #[true, true, false, true, true, false, false, true, false, false, false, true, false, false, false, true, false, false] rfl rfl (by kernel_rfl) (fun _ _ _ h => h) (Or.inl ⟨by rfl, ?_⟩) hHeld ?_ ?_
        rotate_left
        · rintro w' ⟨s0, s1, s2, s3⟩
          go_simp
          with_reducible rfl
        rotate_left
        · simp only [Act.put, List.setIfInBounds_toArray, List.set_cons_zero, List.set_cons_succ, i64_w, i32_w]
          rfl
        refine take_ (i := 8) (N := some 58) (v := ?_) (a' := ?_) #[true, true, false, true, true, false, false, true, true, false, false, true, false, false, false, true, false, false] rfl rfl (by kernel_rfl) (fun _ _ _ h => h) (Or.inl ⟨by rfl, ?_⟩) hHeld ?_ ?_
        rotate_left
        · rintro w' ⟨s0, s1, s2, s3⟩
          go_simp
          with_reducible rfl
        rotate_left
        · simp only [Act.put, List.setIfInBounds_toArray, List.set_cons_zero, List.set_cons_succ, i64_w, i32_w]
          rfl
        refine take_ (i := 12) (N := some 62) (v := ?_) (a' := ?_) #[true, true, false, true, true, false, false, true, true, false, false, true, true, false, false, true, false, false] rfl rfl (by kernel_rfl) (fun _ _ _ h => h) (Or.inl ⟨by rfl, ?_⟩) hHeld ?_ ?_
        rotate_left
        · rintro w' ⟨s0, s1, s2, s3⟩
          go_simp
          with_reducible rfl
        rotate_left
        · simp only [Act.put, List.setIfInBounds_toArray, List.set_cons_zero, List.set_cons_succ, i64_w, i32_w]
          rfl
        refine one_ (i := 2) (N := some 52) #[true, true, true, true, true, false, false, true, true, false, false, true, true, false, false, true, false, false] rfl rfl (by kernel_rfl) (by decide) (fun K hK => ?_)
        refine goes_ Try.func86 (by kernel_rfl) rfl #[.int .u32 (x0 : Int), .int .i64 1] (by rfl) rfl rfl (by (try simp only [List.map_toArray, List.map_cons, List.map_nil]); first | done | rfl) ?_
        refine (rot32 _ x0 1 _ _ rfl rfl hx0 (by omega) (by omega)).mono ?_
        rintro e w4 ⟨rfl, ⟨n1, rfl⟩⟩
        refine ⟨_, rfl, ?_⟩
        have hS4 := Aside0.mk (hS3.out.drewN n1)
        refine hK.out _ _ ⟨hS4.out.cell 0, hS4.out.cell 1, hS4.out.cell 2, hS4.out.cell 3⟩ (fun hHeld => ?_)
        clear hK K
        refine norm_ (a' := ?_) ?_ ?_
        rotate_left
        · show Act.put _ (some 52) _ = _
          simp only [Act.put, List.setIfInBounds_toArray, List.set_cons_zero, List.set_cons_succ, i64_w, i32_w]
          rfl
        refine one_ (i := 5) (N := some 55) #[true, true, true, true, true, true, false, true, true, false, false, true, true, false, false, true, false, false] rfl rfl (by kernel_rfl) (by decide) (fun K hK => ?_)
        refine goes_ Try.func86 (by kernel_rfl) rfl #[.int .u32 (x1 : Int), .int .i64 7] (by rfl) rfl rfl (by (try simp only [List.map_toArray, List.map_cons, List.map_nil]); first | done | rfl) ?_
        refine (rot32 _ x1 7 _ _ rfl rfl hx1 (by omega) (by omega)).mono ?_
        rintro e w4 ⟨rfl, ⟨n2, rfl⟩⟩
        refine ⟨_, rfl, ?_⟩
        have hS5 := Aside0.mk (hS4.out.drewN n2)
        refine hK.out _ _ ⟨hS5.out.cell 0, hS5.out.cell 1, hS5.out.cell 2, hS5.out.cell 3⟩ (fun hHeld => ?_)
        clear hK K
        refine norm_ (a' := ?_) ?_ ?_
        rotate_left
        · show Act.put _ (some 55) _ = _
          simp only [Act.put, List.setIfInBounds_toArray, List.set_cons_zero, List.set_cons_succ, i64_w, i32_w]
          rfl
        refine pure_ (i := 6) (N := some 56) (v := ?_) (a' := ?_) #[true, true, true, true, true, true, true, true, true, false, false, true, true, false, false, true, false, false] rfl rfl (by kernel_rfl) (fun _ _ _ h => h) (Or.inl ⟨by rfl, ?_⟩) ?_ ?_
        rotate_left
        · intro w'
          go_simp
          with_reducible rfl
        rotate_left
        · simp only [Act.put, List.setIfInBounds_toArray, List.set_cons_zero, List.set_cons_succ, i64_w, i32_w]
          rfl
        refine one_ (i := 9) (N := some 59) #[true, true, true, true, true, true, true, true, true, true, false, true, true, false, false, true, false, false] rfl rfl (by kernel_rfl) (by decide) (fun K hK => ?_)
        refine goes_ Try.func86 (by kernel_rfl) rfl #[.int .u32 (x2 : Int), .int .i64 12] (by rfl) rfl rfl (by (try simp only [List.map_toArray, List.map_cons, List.map_nil]); first | done | rfl) ?_
        refine (rot32 _ x2 12 _ _ rfl rfl hx2 (by omega) (by omega)).mono ?_
        rintro e w4 ⟨rfl, ⟨n3, rfl⟩⟩
        refine ⟨_, rfl, ?_⟩
        have hS6 := Aside0.mk (hS5.out.drewN n3)
        refine hK.out _ _ ⟨hS6.out.cell 0, hS6.out.cell 1, hS6.out.cell 2, hS6.out.cell 3⟩ (fun hHeld => ?_)
        clear hK K
        refine norm_ (a' := ?_) ?_ ?_
        rotate_left
        · show Act.put _ (some 59) _ = _
          simp only [Act.put, List.setIfInBounds_toArray, List.set_cons_zero, List.set_cons_succ, i64_w, i32_w]
          rfl
        refine pure_ (i := 10) (N := some 60) (v := ?_) (a' := ?_) #[true, true, true, true, true, true, true, true, true, true, true, true, true, false, false, true, false, false] rfl rfl (by kernel_rfl) (fun _ _ _ h => h) (Or.inl ⟨by rfl, ?_⟩) ?_ ?_
        rotate_left
        · intro w'
          go_simp
          with_reducible rfl
        rotate_left
        · simp only [Act.put, List.setIfInBounds_toArray, List.set_cons_zero, List.set_cons_succ, i64_w, i32_w]
          rfl
        refine one_ (i := 13) (N := some 63) #[true, true, true, true, true, true, true, true, true, true, true, true, true, true, false, true, false, false] rfl rfl (by kernel_rfl) (by decide) (fun K hK => ?_)
        refine goes_ Try.func86 (by kernel_rfl) rfl #[.int .u32 (x3 : Int), .int .i64 18] (by rfl) rfl rfl (by (try simp only [List.map_toArray, List.map_cons, List.map_nil]); first | done | rfl) ?_
        refine (rot32 _ x3 18 _ _ rfl rfl hx3 (by omega) (by omega)).mono ?_
        rintro e w4 ⟨rfl, ⟨n4, rfl⟩⟩
        refine ⟨_, rfl, ?_⟩
        have hS7 := Aside0.mk (hS6.out.drewN n4)
        refine hK.out _ _ ⟨hS7.out.cell 0, hS7.out.cell 1, hS7.out.cell 2, hS7.out.cell 3⟩ (fun hHeld => ?_)
        clear hK K
        refine norm_ (a' := ?_) ?_ ?_
        rotate_left
        · show Act.put _ (some 63) _ = _
          simp only [Act.put, List.setIfInBounds_toArray, List.set_cons_zero, List.set_cons_succ, i64_w, i32_w]
          rfl
        refine pure_ (i := 14) (N := some 64) (v := ?_) (a' := ?_) #[true, true, true, true, true, true, true, true, true, true, true, true, true, true, true, true, false, false] rfl rfl (by kernel_rfl) (fun _ _ _ h => h) (Or.inl ⟨by rfl, ?_⟩) ?_ ?_
        rotate_left
        · intro w'
          go_simp
          with_reducible rfl
        rotate_left
        · simp only [Act.put, List.setIfInBounds_toArray, List.set_cons_zero, List.set_cons_succ, i64_w, i32_w]
          rfl
        refine pure_ (i := 16) (N := some 4) (v := ?_) (a' := ?_) #[true, true, true, true, true, true, true, true, true, true, true, true, true, true, true, true, true, false] rfl rfl (by kernel_rfl) (fun _ _ _ h => h) (Or.inl ⟨by rfl, ?_⟩) ?_ ?_
        rotate_left
        · intro w'
          go_simp
          with_reducible rfl
        rotate_left
        · simp only [Act.put, List.setIfInBounds_toArray, List.set_cons_zero, List.set_cons_succ, i64_w, i32_w]
          rfl
        refine pure_ (i := 17) (N := some 5) (v := ?_) (a' := ?_) #[true, true, true, true, true, true, true, true, true, true, true, true, true, true, true, true, true, true] rfl rfl (by kernel_rfl) (fun _ _ _ h => h) (Or.inl ⟨by rfl, ?_⟩) ?_ ?_
        rotate_left
        · intro w'
          go_simp
          with_reducible rfl
        rotate_left
        · simp only [Act.put, List.setIfInBounds_toArray, List.set_cons_zero, List.set_cons_succ, i64_w, i32_w]
          rfl
        refine done_ (by kernel_rfl) ?_
        clear hc0 hc1 hc2 hc3
        go_wp2
        go_ret2
        refine ⟨A1, c1, ?_, hA.out.1, hA.out.2.1, ?_⟩
        · refine congrArg (fun z => Ending.returned (Value.tuple #[.int .u32 z, .slice A1 (trest l).length c1])) ?_
          rw [hstartA.out]
          show IntKind.u32.wrap (IntKind.u32.wrap (IntKind.u32.wrap (((rol 32 1 x0 : Nat) : Int) + ((rol 32 7 x1 : Nat) : Int)) + ((rol 32 12 x2 : Nat) : Int)) + ((rol 32 18 x3 : Nat) : Int)) = (((rol 32 1 x0 + rol 32 7 x1 + rol 32 12 x2 + rol 32 18 x3) % 4294967296 : Nat) : Int)
          rw [IntKind.wrap_u32, IntKind.wrap_u32, IntKind.wrap_u32]
          omega
        · have := hS7.out.1
          simpa using this

end Go.Proofs.Ytmlodmpkcbncjaa.G

/- thin.Sum. -/
set_option linter.unusedVariables false
set_option linter.unusedSimpArgs false
namespace Go.Proofs.Ytmlodmpkcbncjaa.G
open Go Go.RowKit Go.Proofs.YtmlodmpkcbncjaaW.PrintWords Go.Proofs.YtmlodmpkcbncjaaW.PrintLast Go.Proofs.YtmlodmpkcbncjaaW.PrintMore Go.Proofs.Ytmlodmpkcbncjaa.PureKit Go.Proofs.Ytmlodmpkcbncjaa.Sep Go.Proofs.Ytmlodmpkcbncjaa.Rol

def bytesOK (l : List Int) : Bool := l.all (fun x => decide (0 ≤ x ∧ x ≤ 255))
theorem bytesOK_iff (l : List Int) : bytesOK l = true ↔ Bytes l := by
  unfold bytesOK Bytes
  rw [List.all_eq_true]
  exact ⟨fun h x hx => of_decide_eq_true (h x hx), fun h x hx => decide_eq_true (h x hx)⟩
/-- The sum's document, of a seed and of bytes that are such. -/
def thin_Sum.f (a0 : Int) (l1 : List Int) : Option Int := if 0 ≤ a0 ∧ a0 < 4294967296 ∧ bytesOK l1 = true then some ((tsum a0.toNat l1 : Nat) : Int) else none

theorem xor_step (x n : Nat) (hx : x < 4294967296) : bits .xor .u32 (x : Int) ((x : Int) / ((2 ^ n : Nat) : Int)) = ((tmix n x : Nat) : Int) := by
  rw [← Int.natCast_ediv, bits_xor_u32_nat _ _ hx (Nat.lt_of_le_of_lt (Nat.div_le_self _ _) hx)]
  rfl
theorem tfin_eq (z : Nat) (hz : z < 4294967296) : bits .xor .u32 (bits .xor .u32 (bits .xor .u32 (z : Int) ((z : Int) / 32768) * 2246822519 % 4294967296) (bits .xor .u32 (z : Int) ((z : Int) / 32768) * 2246822519 % 4294967296 / 8192) * 3266489917 % 4294967296) (bits .xor .u32 (bits .xor .u32 (z : Int) ((z : Int) / 32768) * 2246822519 % 4294967296) (bits .xor .u32 (z : Int) ((z : Int) / 32768) * 2246822519 % 4294967296 / 8192) * 3266489917 % 4294967296 / 65536) = ((tfin z : Nat) : Int) := by
  have X1 : bits .xor .u32 (z : Int) ((z : Int) / 32768) = ((tmix 15 z : Nat) : Int) := xor_step z 15 hz
  obtain ⟨q, hq⟩ : ∃ q : Nat, tmix 15 z * 2246822519 % 4294967296 = q := ⟨_, rfl⟩
  have hql : q < 4294967296 := by rw [← hq]; exact Nat.mod_lt _ (by omega)
  have c1 : ((tmix 15 z : Nat) : Int) * 2246822519 % 4294967296 = (q : Int) := by rw [← hq]; omega
  have X2 : bits .xor .u32 (q : Int) ((q : Int) / 8192) = ((tmix 13 q : Nat) : Int) := xor_step q 13 hql
  obtain ⟨q2, hq2⟩ : ∃ q2 : Nat, tmix 13 q * 3266489917 % 4294967296 = q2 := ⟨_, rfl⟩
  have hq2l : q2 < 4294967296 := by rw [← hq2]; exact Nat.mod_lt _ (by omega)
  have c2 : ((tmix 13 q : Nat) : Int) * 3266489917 % 4294967296 = (q2 : Int) := by rw [← hq2]; omega
  have X3 : bits .xor .u32 (q2 : Int) ((q2 : Int) / 65536) = ((tmix 16 q2 : Nat) : Int) := xor_step q2 16 hq2l
  rw [X1, c1, X2, c2, X3]
  unfold tfin
  rw [hq, hq2]

set_option maxHeartbeats 4000000 in
set_option maxRecDepth 100000 in
theorem thin_sum (w : World) (A : Option Addr) (c : Nat) (l : List Int) (s : Nat) (a : Int) (ha : a = (s : Int)) (hC : Kd.C (Kd.int .u8) w A l.length l) (hc : l.length ≤ c) (hb : Bytes l) (hs : s < 4294967296) :
    Calls Try.prog 66 #[.int .u32 a, .slice A l.length c] w fun e w' => e = .returned (.int .u32 ((tsum s l : Nat) : Int)) ∧ Below w.heap.size w w' := by
  subst ha
  have hCA := Aside0.mk hC
  have hcA := Aside0.mk hc
  have hmax : l.length ≤ 9223372036854775807 := Kd.C_max hC
  have hmaxA := Aside0.mk hmax
  clear hC hc hmax
  obtain ⟨ts, hts⟩ : ∃ ts, tstart s l = ts := ⟨_, rfl⟩
  have htsl : ts < 4294967296 := by rw [← hts]; exact tstart_lt s l
  obtain ⟨h0, hh0⟩ : ∃ h0 : Nat, h0 = (tstart s l + l.length) % 4294967296 := ⟨_, rfl⟩
  have hh0l : h0 < 4294967296 := by rw [hh0]; exact Nat.mod_lt _ (by omega)
  have hh0A := Aside0.mk hh0
  have htsA := Aside0.mk hts
  obtain ⟨lw, hlw⟩ : ∃ lw : Int, (l.length : Int) % 4294967296 = lw := ⟨_, rfl⟩
  have hlw2 : ((ts : Int) + lw) % 4294967296 = (h0 : Int) := by rw [← hlw, hh0, hts]; omega
  have hlw3 : IntKind.u32.wrap (l.length : Int) = lw := by rw [IntKind.wrap_u32, hlw]
  have hlw4 : IntKind.u32.wrap ((ts : Int) + lw) = (h0 : Int) := by rw [IntKind.wrap_u32, hlw2]
  clear hh0 hts
  go_enter Try.func66, Try.ntmps66
  go_wp2_with (first | ((with_reducible refine gate_callee (f := 85) rfl ?_); refine goesL_ (some 12) rfl rfl Try.func85 (by kernel_rfl) rfl #[.int .u32 (s : Int), .slice A l.length c] rfl (by (try simp only [List.map_toArray, List.map_cons, List.map_nil]); first | done | rfl) ?_; (with_reducible refine (thin_start _ A c l s _ rfl hCA.out hcA.out hb hs).mono ?_); rw [htsA.out]; rintro e w1 ⟨A1, c1, rfl, h1, h2, h3⟩; refine ⟨_, rfl, ?_⟩; have hC1 := Aside0.mk (Kd.C_below h1 h3); have hc1 := Aside0.mk h2; have hB1 := Aside0.mk h3; clear h1 h2 h3))
  generalize hr : trest l = r at *
  have hrb : Bytes r := by rw [← hr]; exact hb.drop _
  go_loopg [5, 6] (r.length / 4) (fun kq v5 v6 w' => ∃ (i : Nat) (A2 : Option Addr) (c2 : Nat), v5 = .int .u32 ((tfours i h0 r : Nat) : Int) ∧ v6 = .slice A2 (r.drop (4 * i)).length c2 ∧ Aside0 (Kd.C (Kd.int .u8) w1 A2 (r.drop (4 * i)).length (r.drop (4 * i)) ∧ (r.drop (4 * i)).length ≤ c2 ∧ i + kq = r.length / 4) ∧ Drawn0 w1 w')
  case atStart =>
    refine ⟨0, A1, c1, ?_, rfl, ⟨by rw [Nat.mul_zero, List.drop_zero]; exact hC1.out, by rw [Nat.mul_zero, List.drop_zero]; exact hc1.out, by omega⟩, Drawn0.refl _⟩
    rfl
  case round =>
    obtain ⟨i, A2, c2, rfl, rfl, hA, ⟨nd, rfl⟩⟩ := hrel
    by_cases hin : i < r.length / 4
    · have hlen : (r.drop (4 * i)).length = r.length - 4 * i := by rw [List.length_drop]
      have h4 : 4 ≤ (r.drop (4 * i)).length := by omega
      have hd : decide (((r.drop (4 * i)).length : Int) ≥ 4) = true := decide_eq_true (by omega)
      obtain ⟨k1, rfl⟩ : ∃ k1, gk = k1 + 1 := ⟨gk - 1, by have := hA.out; omega⟩
      have hb1 : Bytes (r.drop (4 * i)) := hrb.drop _
      obtain ⟨x, hx⟩ : ∃ x, tfours i h0 r = x := ⟨_, rfl⟩
      have hxl : x < 4294967296 := by rw [← hx]; exact tfours_lt r h0 hh0l i
      rw [hx]
      have hxA := Aside0.mk hx
      clear hx
      generalize hll : r.drop (4 * i) = l1 at *
      obtain ⟨y, hy⟩ : ∃ y, leb (l1.take 4) = y := ⟨_, rfl⟩
      have hyA := Aside0.mk hy
      have h4A := Aside0.mk h4
      obtain ⟨i0, hi0, _, hsz, _⟩ := info_parts tinfo8
      have hcut := cut_from (P := Try.prog) 22 5 .i64 Try.underlying22 hi0 1 hsz A2 l1.length c2 4 (by omega) (by omega)
      have hC4 := Kd.C_drop (m := 4) (c := c2) hA.out.1 h4A.out hA.out.2.1
      obtain ⟨A4, hA4⟩ : ∃ A4, A4 = (if c2 = 4 then A2 else A2.map (·.add (4 * 1))) := ⟨_, rfl⟩
      rw [show ((4 : Int).toNat) = 4 from rfl, ← hA4] at hcut
      have hC4 := Aside0.mk (show Kd.C (Kd.int .u8) w1 A4 (l1.drop 4).length (l1.drop 4) by rw [hA4]; exact hC4)
      clear hA4 hlen h4 hy
      go_wp2_with (first | ((with_reducible refine gate_callee (f := 87) rfl ?_); refine goesL_ (some 25) rfl rfl Try.func87 (by kernel_rfl) rfl #[.slice A2 l1.length c2] rfl (by (try simp only [List.map_toArray, List.map_cons, List.map_nil]); first | done | rfl) ?_; have hnum := num4 (w1.drewN nd) A2 c2 l1.length l1 rfl (Kd.C_drewN hA.out.1 nd) hA.out.2.1 hb1 h4A.out; rw [hyA.out] at hnum; (with_reducible refine hnum.mono ?_); clear hnum; rintro e w4 ⟨rfl, ⟨n2, rfl⟩⟩; refine ⟨_, rfl, ?_⟩))
      refine (rot32 _ ((x + y * 3266489917) % 4294967296) 17 (((x : Int) + (y : Int) * 3266489917) % 4294967296) 17 (by omega) (by omega) (Nat.mod_lt _ (by omega)) (by omega) (by omega)).mono ?_
      rintro e w4 ⟨rfl, ⟨n3, rfl⟩⟩
      go_wp2
      go_roundg k1
      case measure => omega
      case rel =>
        have e : r.drop (4 * (i + 1)) = l1.drop 4 := by rw [← hll, List.drop_drop]; congr 1
        refine ⟨i + 1, A4, c2 - 4, ?_, ?_, ?_, ?_⟩
        · refine congrArg (Value.int .u32) ?_
          rw [tfours_succ, hxA.out, hll]
          unfold tfour
          rw [hyA.out]
          omega
        · rw [e, List.length_drop]
        · rw [e]
          exact ⟨hC4.out, by rw [List.length_drop]; have := hA.out.2.1; omega, by have := hA.out; omega⟩
        · repeat (first | exact Drawn0.refl _ | apply Drawn0.step)
    · have hie : i = r.length / 4 := by have := hA.out; omega
      have hlen : (r.drop (4 * i)).length = r.length - 4 * i := by rw [List.length_drop]
      have hd : decide (((r.drop (4 * i)).length : Int) ≥ 4) = false := decide_eq_false (by omega)
      obtain ⟨x, hx⟩ : ∃ x, tfours i h0 r = x := ⟨_, rfl⟩
      have hxl : x < 4294967296 := by rw [← hx]; exact tfours_lt r h0 hh0l i
      have hsum : tsum s l = tfin (tbytes x (r.drop (4 * i))) := by
        unfold tsum ttail
        rw [hr, ← hh0A.out, ← hie, hx]
      have hsumA := Aside0.mk hsum
      have hb2 : Bytes (r.drop (4 * i)) := hrb.drop _
      rw [hx]
      have hlt2 : (r.drop (4 * i)).length < 4 := by omega
      clear hx hsum hlen
      generalize hll : r.drop (4 * i) = l2 at *
      have hlt2A := Aside0.mk hlt2
      clear hlt2
      go_wp2
      go_loopg [5, 34] l2.length (fun kq v5 v34 w' => ∃ (j : Nat), v5 = .int .u32 ((tbytes x (l2.take j) : Nat) : Int) ∧ v34 = .int .i64 j ∧ Aside0 (j + kq = l2.length) ∧ Drawn0 w1 w')
      case atStart => exact ⟨0, rfl, rfl, ⟨by omega⟩, by repeat (first | exact Drawn0.refl _ | apply Drawn0.step)⟩
      case round =>
        obtain ⟨j, rfl, rfl, hj, ⟨nd, rfl⟩⟩ := hrel
        obtain ⟨z, hz⟩ : ∃ z, tbytes x (l2.take j) = z := ⟨_, rfl⟩
        have hzl : z < 4294967296 := by rw [← hz]; exact tbytes_lt x hxl _
        rw [hz]
        have hzA := Aside0.mk hz
        clear hz
        by_cases hjn : j < l2.length
        · have hd2 : decide ((j : Int) < (l2.length : Int)) = true := decide_eq_true (by omega)
          obtain ⟨k1, rfl⟩ : ∃ k1, gk = k1 + 1 := ⟨gk - 1, by have := hj.out; omega⟩
          obtain ⟨ad, e0, hq⟩ := Kd.at_int (Kd.C_drewN hA.out.1 nd) (j : Int) (by omega) (by omega)
          cases e0
          simp only [Int.toNat_natCast] at hq
          rw [rd_at l2 j hjn] at hq
          have hyb := hb2 l2[j] (List.getElem_mem hjn)
          obtain ⟨y, hy⟩ : ∃ y, l2[j]'hjn = y := ⟨_, rfl⟩
          rw [hy] at hq hyb
          have hyA := Aside0.mk hy
          have p0 : ((0 : Int) ≤ (j : Int)) = True := eq_true (by omega)
          have q0 : ((j : Int) < (l2.length : Int)) = True := eq_true (by omega)
          obtain ⟨yn, rfl⟩ := Int.eq_ofNat_of_zero_le hyb.1
          go_wp2_with (fail)
          refine (rot32 _ ((z + yn * 374761393) % 4294967296) 11 _ 11 ?ha (by omega) (Nat.mod_lt _ (by omega)) (by omega) (by omega)).mono ?_
          case ha => omega
          rintro e w4 ⟨rfl, ⟨n3, rfl⟩⟩
          go_wp2
          go_roundg k1
          case measure => omega
          case rel =>
            refine ⟨j + 1, ?_, by simp; exact w64 (by omega) (by have := hlt2A.out; omega), ⟨by have := hj.out; omega⟩, by repeat (first | exact Drawn0.refl _ | apply Drawn0.step)⟩
            refine congrArg (Value.int .u32) ?_
            rw [tbytes_take l2 x j hjn, hzA.out, hyA.out]
            unfold tbyte
            rw [Int.toNat_natCast]
            omega
        · have hje : j = l2.length := by have := hj.out; omega
          have hd2 : decide ((j : Int) < (l2.length : Int)) = false := decide_eq_false (by omega)
          have hz2 : tbytes x l2 = z := by rw [← hzA.out, List.take_of_length_le (by omega)]
          go_wp2
          go_ret
          refine ⟨?_, hB1.out.trans (by have : Drawn0 w1 (w1.drewN nd) := ⟨nd, rfl⟩; exact pw_below_drewN (Below.refl _ _) nd)⟩
          refine congrArg (fun q => Ending.returned (Value.int .u32 q)) ?_
          rw [hsumA.out, hz2]
          exact tfin_eq z hzl

theorem thin_Sum.calls (a0 : Int) (A1 : Option Addr) (c1 : Nat) (l1 : List Int) (r : Int) (w : World) (hr1 : Kd.C (Kd.int .u8) w A1 l1.length l1) (hc1 : l1.length ≤ c1) (h : thin_Sum.f a0 l1 = some r) :
    Calls Try.prog 66 #[.int .u32 a0, .slice A1 l1.length c1] w fun e w' => e = .returned (.int .u32 r) ∧ Below w.heap.size w w' := by
  unfold thin_Sum.f at h
  split at h
  · rename_i hh
    cases h
    exact thin_sum w A1 c1 l1 a0.toNat a0 (by omega) hr1 hc1 ((bytesOK_iff l1).1 hh.2.2) (by omega)
  · cases h

end Go.Proofs.Ytmlodmpkcbncjaa.G
