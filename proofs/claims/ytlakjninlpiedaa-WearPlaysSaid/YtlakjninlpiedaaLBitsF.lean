/- Bits of 64-bit words: what Key, Of and Abs ask. -/
import Derived.Laws.Bits64
open Go
namespace Go.Proofs.Ytlakjninlpiedaa.Fl
theorem xor_all_nat (n : Nat) (h : n < 18446744073709551616) : 18446744073709551615 ^^^ n = 18446744073709551615 - n := by
  have h1 : (BitVec.allOnes 64 ^^^ BitVec.ofNat 64 n).toNat = (~~~ (BitVec.ofNat 64 n)).toNat := by rw [BitVec.allOnes_xor]
  rw [BitVec.toNat_xor, BitVec.toNat_not, BitVec.toNat_allOnes, BitVec.toNat_ofNat, Nat.mod_eq_of_lt (by omega)] at h1
  exact h1
theorem or_top_nat (r : Nat) (h : r < 9223372036854775808) : r ||| 9223372036854775808 = r + 9223372036854775808 := by
  have := Nat.two_pow_add_eq_or_of_lt (i := 63) (b := r) h 1
  rw [Nat.mul_one] at this
  rw [show (9223372036854775808 : Nat) = 2 ^ 63 from rfl, Nat.add_comm, this, Nat.or_comm]
theorem xor_top_nat (r : Nat) (h : r < 9223372036854775808) : (r + 9223372036854775808) ^^^ 9223372036854775808 = r := by
  have h1 : r + 9223372036854775808 = r ^^^ 9223372036854775808 := by
    rw [← or_top_nat r h, show (9223372036854775808 : Nat) = 2 ^ 63 from rfl]
    apply Nat.eq_of_testBit_eq
    intro i
    rw [Nat.testBit_or, Nat.testBit_xor, Nat.testBit_two_pow]
    by_cases hi : 63 = i
    · subst hi
      rw [Nat.testBit_lt_two_pow h]; rfl
    · rw [decide_eq_false hi]; simp
  rw [h1, Nat.xor_assoc, Nat.xor_self, Nat.xor_zero]
theorem xor_all (n : Nat) (h : n < 18446744073709551616) : bits .xor .u64 IntKind.u64.max (n : Int) = ((18446744073709551615 - n : Nat) : Int) := by
  have := bits_xor_u64_nat 18446744073709551615 n (by decide) h
  rw [xor_all_nat n h] at this
  exact this
theorem xor_top (r : Nat) (h : r < 9223372036854775808) : bits .xor .u64 ((r + 9223372036854775808 : Nat) : Int) 9223372036854775808 = (r : Int) := by
  have := bits_xor_u64_nat (r + 9223372036854775808) 9223372036854775808 (by omega) (by decide)
  rw [xor_top_nat r h] at this
  exact this
theorem bv (a : Nat) (h : a < 18446744073709551616) : (BitVec.ofInt 64 (a : Int)).toNat = a := by
  rw [BitVec.ofInt_natCast, BitVec.toNat_ofNat]; exact Nat.mod_eq_of_lt (by omega)
theorem or_top (r : Nat) (h : r < 9223372036854775808) : bits .or .u64 (r : Int) 9223372036854775808 = ((r + 9223372036854775808 : Nat) : Int) := by
  show IntKind.u64.wrap ((BitVec.ofInt 64 (r : Int) ||| BitVec.ofInt 64 ((9223372036854775808 : Nat) : Int)).toNat : Int) = _
  rw [BitVec.toNat_or, bv _ (by omega), bv _ (by decide), IntKind.wrap_u64, or_top_nat r h]
  omega
theorem andNot_top (n : Nat) (h : n < 18446744073709551616) : bits .andNot .u64 (n : Int) 9223372036854775808 = ((n % 9223372036854775808 : Nat) : Int) := by
  show IntKind.u64.wrap ((BitVec.ofInt 64 (n : Int) &&& ~~~ BitVec.ofInt 64 ((9223372036854775808 : Nat) : Int)).toNat : Int) = _
  rw [BitVec.toNat_and, BitVec.toNat_not, bv _ h, bv _ (by decide), IntKind.wrap_u64]
  have : n &&& (2 ^ 64 - 1 - 9223372036854775808) = n % 2 ^ 63 := Nat.and_two_pow_sub_one_eq_mod n 63
  rw [this]
  omega
end Go.Proofs.Ytlakjninlpiedaa.Fl
