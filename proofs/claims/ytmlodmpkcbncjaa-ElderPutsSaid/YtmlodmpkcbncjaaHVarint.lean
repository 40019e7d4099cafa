/- varint.Put: a number, written. -/
import Derived.Test.YtmlodmpkcbncjaaHBuf
set_option linter.unusedVariables false
namespace Go.Proofs.Ytmlodmpkcbncjaa.Sep
open Go Go.RowKit Go.Proofs.YtmlodmpkcbncjaaW.PrintWords Go.Proofs.YtmlodmpkcbncjaaW.PrintLast Go.Proofs.YtmlodmpkcbncjaaW.PrintMore Go.Proofs.Ytmlodmpkcbncjaa.PureKit

/-- A number in as few bytes as can be. -/
def venc (x : Nat) : List Int := if x < 128 then [(x : Int)] else ((x % 128 + 128 : Nat) : Int) :: venc (x / 128)
theorem venc_small {x : Nat} (h : x < 128) : venc x = [(x : Int)] := by rw [venc, if_pos h]
theorem venc_big {x : Nat} (h : ¬ x < 128) : venc x = ((x % 128 + 128 : Nat) : Int) :: venc (x / 128) := by rw [venc, if_neg h]
theorem venc_len : ∀ (n x : Nat), x < 128 ^ n → 0 < n → (venc x).length ≤ n := by
  intro n
  induction n with
  | zero => intro x _ h; omega
  | succ n ih =>
    intro x hx _
    by_cases h : x < 128
    · rw [venc_small h]; simp
    · rw [venc_big h]
      have h1 : x / 128 < 128 ^ n := by rw [Nat.div_lt_iff_lt_mul (by omega), ← Nat.pow_succ]; exact hx
      have h2 : 0 < n := by
        rcases Nat.eq_zero_or_pos n with h0 | h0
        · subst h0; simp at hx; omega
        · exact h0
      have := ih (x / 128) h1 h2
      simp; omega

theorem or128_all : ∀ z : Fin 256, bits BinOp.or IntKind.u8 ((z.val : Nat) : Int) 128 = ((z.val % 128 + 128 : Nat) : Int) := by decide +kernel
theorem or128 (y : Nat) : bits BinOp.or IntKind.u8 ((y : Int) % 256) 128 = ((y % 128 + 128 : Nat) : Int) := by
  have h := or128_all ⟨y % 256, by omega⟩
  simp only at h
  rw [show ((y : Int) % 256) = ((y % 256 : Nat) : Int) by omega, h]
  congr 2
  omega

set_option maxHeartbeats 4000000 in
set_option maxRecDepth 100000 in
theorem varint_Put (w0 w : World) (g : Nat) (l : List Int) (ps : List HP) (x : Nat) (m : Int) (hm : m = x) (hs : Sep w0 w (buf g l :: ps)) (hx : x < 18446744073709551616) (hl : l.length ≤ 100000000000) :
    Calls Try.prog 78 #[.pointer (some ⟨g, 0, none⟩), .int .u64 m] w fun e w' => e = .returned (.tuple #[]) ∧ Sep w0 w' (buf g (l ++ venc x) :: ps) := by
  subst hm
  have hS := Aside0.mk hs
  clear hs
  go_enter Try.func78, Try.ntmps78
  go_wp2
  have hvl : (venc x).length ≤ 10 := venc_len 10 x (Nat.lt_of_lt_of_le hx (by decide)) (by decide)
  go_loopg [1] x (fun kq v1 w' => ∃ (y : Nat) (l1 : List Int), v1 = .int .u64 y ∧ Aside0 (y ≤ kq ∧ y < 18446744073709551616 ∧ l1.length ≤ l.length + 10 ∧ l ++ venc x = l1 ++ venc y) ∧ Aside0 (Sep w0 w' (buf g l1 :: ps)))
  case atStart => exact ⟨x, l, rfl, ⟨⟨Nat.le_refl _, hx, by omega, rfl⟩⟩, hS⟩
  case round =>
    obtain ⟨y, l1, rfl, hA, hS⟩ := hrel
    by_cases hy : y < 128
    · have hd : decide ((y : Int) ≥ 128) = false := decide_eq_false (by omega)
      go_wp2_with (first | ((with_reducible refine gate_callee (f := 26) rfl ?_); refine goesL_ (some 16) rfl rfl Try.func26 (by kernel_rfl) rfl #[.pointer (some ⟨g, 0, none⟩), .int .u8 y] rfl (by (try simp only [List.map_toArray, List.map_cons, List.map_nil]); first | done | rfl) ?_; (with_reducible refine (buf_Byte w0 _ g l1 ps y hS.out (by omega) (by omega) (by have := hA.out; omega)).mono ?_); rintro e w1 ⟨rfl, h1⟩; refine ⟨_, rfl, ?_⟩; have hS1 := Aside0.mk h1; clear h1))
      go_end0
      refine ⟨rfl, ?_⟩
      have h4 := hA.out.2.2.2
      rw [venc_small hy] at h4
      rw [h4]; exact hS1.out
    · have hd : decide ((y : Int) ≥ 128) = true := decide_eq_true (by omega)
      go_wp2_with (first | ((with_reducible refine gate_callee (f := 26) rfl ?_); refine goesL_ (some 10) rfl rfl Try.func26 (by kernel_rfl) rfl #[.pointer (some ⟨g, 0, none⟩), .int .u8 (bits BinOp.or IntKind.u8 ((y : Int) % 256) 128)] rfl (by (try simp only [List.map_toArray, List.map_cons, List.map_nil]); first | done | rfl) ?_; (with_reducible refine (buf_Byte w0 _ g l1 ps (bits BinOp.or IntKind.u8 ((y : Int) % 256) 128) hS.out (by rw [or128]; omega) (by rw [or128]; omega) (by have := hA.out; omega)).mono ?_); rintro e w1 ⟨rfl, h1⟩; refine ⟨_, rfl, ?_⟩; have hS1 := Aside0.mk h1; clear h1))
      go_roundg (gk - 1)
      case measure => have := hA.out; omega
      case rel =>
        refine ⟨y / 128, l1 ++ [((y % 128 + 128 : Nat) : Int)], by simp, ⟨?_⟩, ⟨?_⟩⟩
        · obtain ⟨h0, h1, h2, h3⟩ := hA.out
          rw [venc_big hy] at h3
          have h5 : l ++ venc x = (l1 ++ [((y % 128 + 128 : Nat) : Int)]) ++ venc (y / 128) := by rw [h3]; simp
          refine ⟨by omega, by omega, ?_, h5⟩
          have := congrArg List.length h5
          simp only [List.length_append] at this ⊢
          omega
        · have := hS1.out
          rw [or128] at this
          exact this

end Go.Proofs.Ytmlodmpkcbncjaa.Sep
