/- What is one to one: a number by exclusive or with itself moved down; a byte by exclusive or with what isn't 0. -/
import Derived.Test.YtfeaalfajcdalaaMThin
set_option linter.unusedVariables false
set_option linter.unusedSimpArgs false
namespace Go.Proofs.Ytfeaalfajcdalaa.Rol
open Go Go.RowKit Go.Proofs.YtfeaalfajcdalaaW.PrintWords Go.Proofs.YtfeaalfajcdalaaW.PrintLast Go.Proofs.YtfeaalfajcdalaaW.PrintMore Go.Proofs.Ytfeaalfajcdalaa.PureKit

theorem xs_inj (B n : Nat) (hn : 0 < n) (x y : Nat) (hx : x < 2 ^ B) (hy : y < 2 ^ B) (h : x ^^^ (x / 2 ^ n) = y ^^^ (y / 2 ^ n)) : x = y := by
  have top : ∀ (z i : Nat), z < 2 ^ B → B ≤ i → z.testBit i = false := fun z i hz hi => Nat.testBit_lt_two_pow (Nat.lt_of_lt_of_le hz (Nat.pow_le_pow_right (by omega) hi))
  have key : ∀ (d i : Nat), B ≤ i + d → x.testBit i = y.testBit i := by
    intro d
    induction d with
    | zero => intro i hi; rw [top x i hx hi, top y i hy hi]
    | succ d ih =>
      intro i hi
      have h1 := congrArg (fun z => z.testBit i) h
      simp only [Nat.testBit_xor, Nat.testBit_div_two_pow] at h1
      have h2 := ih (i + n) (by omega)
      rw [h2] at h1
      revert h1
      cases x.testBit i <;> cases y.testBit i <;> cases y.testBit (i + n) <;> simp
  exact Nat.eq_of_testBit_eq (fun i => key B i (by omega))
theorem xor_cancel (h a b : Nat) (e : h ^^^ a = h ^^^ b) : a = b := by
  have := congrArg (fun z => h ^^^ z) e
  simpa [← Nat.xor_assoc] using this
theorem mul_inj (M p q u v : Nat) (hq : p * q % M = 1) (hu : u < M) (hv : v < M) (e : u * p % M = v * p % M) : u = v := by
  have key : ∀ z, z < M → (z * p % M) * q % M = z := fun z hz => by
    rw [Nat.mul_mod, Nat.mod_mod, ← Nat.mul_mod, Nat.mul_assoc, Nat.mul_mod, hq, Nat.mul_one, Nat.mod_mod, Nat.mod_eq_of_lt hz]
  rw [← key u hu, ← key v hv, e]
theorem bits_xor_u8_nat (a b : Nat) (ha : a < 256) (hb : b < 256) :
    bits .xor .u8 (a : Int) (b : Int) = ((a ^^^ b : Nat) : Int) := by
  have hx : a ^^^ b < 2 ^ 8 := Nat.xor_lt_two_pow (by omega) (by omega)
  have h1 : (BitVec.ofInt 8 (a : Int)).toNat = a := by
    rw [BitVec.ofInt_natCast, BitVec.toNat_ofNat]; exact Nat.mod_eq_of_lt (by omega)
  have h2 : (BitVec.ofInt 8 (b : Int)).toNat = b := by
    rw [BitVec.ofInt_natCast, BitVec.toNat_ofNat]; exact Nat.mod_eq_of_lt (by omega)
  show IntKind.u8.wrap ((BitVec.ofInt 8 (a : Int) ^^^ BitVec.ofInt 8 (b : Int)).toNat : Int) = _
  rw [BitVec.toNat_xor, h1, h2, IntKind.wrap_u8]
  omega
/-- A byte that is turned is another byte. -/
theorem turned (x t : Int) (hx : 0 ≤ x ∧ x ≤ 255) (ht : 0 ≤ t ∧ t ≤ 255) (h0 : t ≠ 0) : ∃ y : Nat, bits .xor .u8 x t = (y : Int) ∧ y < 256 ∧ y ≠ x.toNat := by
  obtain ⟨a, rfl⟩ := Int.eq_ofNat_of_zero_le hx.1
  obtain ⟨b, rfl⟩ := Int.eq_ofNat_of_zero_le ht.1
  refine ⟨a ^^^ b, bits_xor_u8_nat a b (by omega) (by omega), Nat.xor_lt_two_pow (n := 8) (by omega) (by omega), fun e => ?_⟩
  have e2 : a ^^^ b = a ^^^ 0 := by rw [Nat.xor_zero]; exact e
  have := xor_cancel a b 0 e2
  omega
theorem snoc_of (l : List Int) (h : l ≠ []) : ∃ r x, l = r ++ [x] := ⟨l.dropLast, l.getLast h, (List.dropLast_concat_getLast h).symm⟩
theorem set_snoc (r : List Int) (x y : Int) : (r ++ [x]).set r.length y = r ++ [y] := by
  rw [List.set_append_right _ _ (Nat.le_refl _), Nat.sub_self]
  rfl
theorem rd_snoc (r : List Int) (x : Int) : rd (r ++ [x]) (r.length : Int) = x := by
  rw [rd_at _ _ (by simp)]
  simp
theorem drop_snoc (r : List Int) (x : Int) (m : Nat) (h : m ≤ r.length) : (r ++ [x]).drop m = r.drop m ++ [x] := List.drop_append_of_le_length h

end Go.Proofs.Ytfeaalfajcdalaa.Rol
