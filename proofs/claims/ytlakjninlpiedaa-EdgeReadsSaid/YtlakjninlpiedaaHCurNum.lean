/- cursor.Cursor: numbers. -/
import Derived.Test.YtlakjninlpiedaaHCur
import Derived.Laws.Bits64b
set_option linter.unusedVariables false
set_option linter.unusedSimpArgs false
namespace Go.Proofs.Ytlakjninlpiedaa.Sep
open Go Go.RowKit Go.Proofs.YtlakjninlpiedaaW.PrintWords Go.Proofs.YtlakjninlpiedaaW.PrintLast Go.Proofs.YtlakjninlpiedaaW.PrintMore Go.Proofs.Ytlakjninlpiedaa.PureKit

/-- The number of bytes, the least one first. -/
def lev : List Int → Int
  | [] => 0
  | b :: bs => b + 256 * lev bs

theorem lev_append : ∀ (a b : List Int), lev (a ++ b) = lev a + 256 ^ a.length * lev b
  | [], b => by simp [lev]
  | x :: xs, b => by
    simp only [List.cons_append, lev, lev_append xs b, List.length_cons, Int.pow_succ]
    rw [Int.mul_add, Int.add_assoc, ← Int.mul_assoc, Int.mul_comm 256 (256 ^ xs.length)]
theorem lev_take (ys : List Int) (i : Nat) (h : i < ys.length) (hb : Bytes ys) : lev (ys.take (i + 1)) = lev (ys.take i) + ys[i] * 256 ^ i := by
  rw [List.take_succ_eq_append_getElem h, lev_append, List.length_take, Nat.min_eq_left (by omega)]
  simp [lev, Int.mul_comm]
theorem lev_bound : ∀ (a : List Int), Bytes a → 0 ≤ lev a ∧ lev a < 256 ^ a.length
  | [], _ => by simp [lev]
  | x :: xs, h => by
    have := lev_bound xs h.tail
    have hx := h.head
    simp only [lev, List.length_cons, Int.pow_succ]
    omega
theorem or_step (X y : Int) (i : Nat) (hi : i < 8) (h0 : 0 ≤ X) (h1 : X < 256 ^ i) (hy0 : 0 ≤ y) (hy1 : y ≤ 255) : bits BinOp.or IntKind.u64 X (IntKind.u64.wrap (y * 2 ^ (8 * i))) = X + y * 256 ^ i := by
  obtain ⟨a, rfl⟩ := Int.eq_ofNat_of_zero_le h0
  obtain ⟨b, rfl⟩ := Int.eq_ofNat_of_zero_le hy0
  have hp : (256 : Int) ^ i = ((2 ^ (8 * i) : Nat) : Int) := by rw [Nat.pow_mul]; simp
  have hq : (2 : Int) ^ (8 * i) = ((2 ^ (8 * i) : Nat) : Int) := by simp
  have hle : 2 ^ (8 * i) ≤ 2 ^ 56 := Nat.pow_le_pow_right (by omega) (by omega)
  rw [hp] at h1 ⊢
  rw [hq]
  generalize hP : 2 ^ (8 * i) = P at *
  have ha : a < P := by omega
  have hbP : b * P ≤ 255 * 2 ^ 56 := Nat.mul_le_mul (by omega) hle
  have hm : (b : Int) * (P : Int) = ((b * P : Nat) : Int) := by simp
  rw [hm, wu64 (by omega) (by omega), bits_or_u64_nat a (b * P) (by omega) (by omega)]
  have := Nat.two_pow_add_eq_or_of_lt (i := 8 * i) (b := a) (by rw [hP]; exact ha) b
  rw [hP] at this
  rw [Nat.or_comm, Nat.mul_comm b P, ← this]
  omega

set_option maxHeartbeats 4000000 in
set_option maxRecDepth 100000 in
theorem cur_num_short (w0 w : World) (g at_ : Nat) (l : List Int) (ps : List HP) (n : Int) (hs : Sep w0 w (cur g l at_ true :: ps)) (hn : 0 < n) (hat : at_ ≤ l.length) (hl : l.length ≤ 1000000000000) (hsh : n > (l.length : Int) - at_) :
    Calls Try.prog 105 #[.pointer (some ⟨g, 0, none⟩), .int .i64 n] w fun e w' => e = .panicked [fault g 2] ∧ Sep w0 w' (cur g l at_ true :: ps) := by
  have hS := Aside0.mk hs
  clear hs
  go_enter Try.func105, Try.ntmps105
  go_wp2_with (fail)
  refine (cur_Take_short w0 _ g at_ l ps n hS.out hn hat hl hsh).mono ?_
  rintro e w1 ⟨rfl, h1⟩
  exact ⟨rfl, rfl, h1⟩

set_option maxHeartbeats 4000000 in
set_option maxRecDepth 100000 in
theorem cur_num_some (w0 w : World) (g at_ : Nat) (l : List Int) (ps : List HP) (m : Nat) (n : Int) (hm : n = m) (hs : Sep w0 w (cur g l at_ true :: ps)) (hb : Bytes l) (hn : 0 < m) (hm8 : m ≤ 8) (hl : l.length ≤ 1000000000000) (hsh : at_ + m ≤ l.length) :
    Calls Try.prog 105 #[.pointer (some ⟨g, 0, none⟩), .int .i64 n] w fun e w' => e = .returned (.int .u64 (lev ((l.take (at_ + m)).drop at_))) ∧ Sep w0 w' (cur g l (at_ + m) true :: ps) := by
  have hS := Aside0.mk hs
  clear hs
  have hlen : ((l.take (at_ + m)).drop at_).length = m := by rw [List.length_drop, List.length_take]; omega
  have hby : Bytes ((l.take (at_ + m)).drop at_) := (hb.take _).drop _
  generalize hys : (l.take (at_ + m)).drop at_ = ys at *
  go_enter Try.func105, Try.ntmps105
  go_wp2_with (first | ((with_reducible refine gate_callee (f := 114) rfl ?_); refine goesL_ (some 10) rfl rfl Try.func114 (by kernel_rfl) rfl #[.pointer (some ⟨g, 0, none⟩), .int .i64 n] rfl (by (try simp only [List.map_toArray, List.map_cons, List.map_nil]); first | done | rfl) ?_; (with_reducible refine (cur_Take_some w0 _ g at_ l ps m n hm hS.out hn hl hsh).mono ?_); rintro e w1 ⟨v1, rfl, h1⟩; refine ⟨_, rfl, ?_⟩; rw [hys] at h1; obtain ⟨bs1, hR1⟩ := h1.row_R; obtain ⟨A1, c1, e1⟩ := Kd.R_slice hR1; subst e1; have hS1 := Aside0.mk h1; clear h1 hR1))
  go_loopg [5, 12] m (fun kq v5 v12 w' => ∃ (i : Nat), v5 = .int .u64 (lev (ys.take i)) ∧ v12 = .int .i64 i ∧ Aside0 (i + kq = m) ∧ Aside0 (Sep w0 w' (row (Kd.int .u8) 5 (.slice A1 ys.length c1) ys :: cur g l (at_ + m) true :: ps)))
  case atStart => exact ⟨0, by simp [lev], rfl, ⟨by omega⟩, hS1⟩
  case round =>
    obtain ⟨i, rfl, rfl, hA, hS⟩ := hrel
    by_cases hin : i < m
    · have hd : decide ((i : Int) < (ys.length : Int)) = true := decide_eq_true (by omega)
      obtain ⟨k1, rfl⟩ : ∃ k1, gk = k1 + 1 := ⟨gk - 1, by have := hA.out; omega⟩
      obtain ⟨bs, hR⟩ := hS.out.row_R
      have hC := (Kd.R_reads' hR).2.2
      obtain ⟨ad, e0, hx⟩ := Kd.at_int hC (i : Int) (by omega) (by omega)
      cases e0
      simp only [Int.toNat_natCast] at hx
      rw [rd_at ys i (by omega)] at hx
      have hyb := hby ys[i] (List.getElem_mem (by omega))
      obtain ⟨y, hy⟩ : ∃ y, ys[i]'(by omega) = y := ⟨_, rfl⟩
      rw [hy] at hx hyb
      have hy := Aside0.mk hy
      have p0 : ((0 : Int) ≤ (i : Int)) = True := eq_true (by omega)
      have q0 : ((i : Int) < (ys.length : Int)) = True := eq_true (by omega)
      generalize hX : lev (ys.take i) = X
      have hX := Aside0.mk hX
      go_wp2
      go_roundg k1
      case measure => omega
      case rel =>
        have hXX := hX.out
        have hlv := lev_take ys i (by omega) hby
        have hbd := lev_bound (ys.take i) (hby.take _)
        rw [List.length_take, Nat.min_eq_left (by omega)] at hbd
        rw [hXX] at hlv hbd
        rw [hy.out] at hlv
        refine ⟨i + 1, ?_, by simp, ⟨by have := hA.out; omega⟩, hS⟩
        rw [hlv, or_step X y i (by omega) hbd.1 hbd.2 hyb.1 hyb.2]
    · have him : i = m := by have := hA.out; omega
      have hd : decide ((i : Int) < (ys.length : Int)) = false := decide_eq_false (by omega)
      go_wp2
      go_ret
      refine ⟨?_, hS.out.tail⟩
      rw [List.take_of_length_le (by omega)]
      rfl

end Go.Proofs.Ytlakjninlpiedaa.Sep
