/- varint.Get: the next number. -/
import Derived.Test.YtdpghobknhkikaaHCurByte
set_option linter.unusedVariables false
set_option linter.unusedSimpArgs false
namespace Go.Proofs.Ytdpghobknhkikaa.Sep
open Go Go.RowKit Go.Proofs.YtdpghobknhkikaaW.PrintWords Go.Proofs.YtdpghobknhkikaaW.PrintLast Go.Proofs.YtdpghobknhkikaaW.PrintMore Go.Proofs.Ytdpghobknhkikaa.PureKit

/-- What a reading of one thing comes to: the thing, or an error; and how many bytes are read then. -/
inductive Res (α : Type) where
  | ok (x : α) (at2 : Nat)
  | bad (e : Int) (at2 : Nat)

def Res.post {α : Type} (r : Res α) (enc : α → Value) (w0 : World) (g : Nat) (l : List Int) (ps : List HP) (e : Ending) (w' : World) : Prop :=
  match r with
  | .ok x a => e = .returned (enc x) ∧ Sep w0 w' (cur g l a true :: ps)
  | .bad er a => e = .panicked [fault g er] ∧ Sep w0 w' (cur g l a true :: ps)

def vgo : Nat → Nat → List Int → Int → Nat → Res Int
  | 0, _, _, x, a => .ok x a
  | _ + 1, _, [], _, a => .bad 2 a
  | k + 1, i, b :: s, x, a =>
    if i = 9 ∧ 1 < b then .bad 3 (a + 1)
    else if 128 ≤ b then vgo k (i + 1) s (x + (b - 128) * 128 ^ i) (a + 1)
    else if b = 0 ∧ 0 < i then .bad 4 (a + 1)
    else .ok (x + b * 128 ^ i) (a + 1)
/-- The number with which the bytes go on behind at_. -/
def vget (l : List Int) (at_ : Nat) : Res Int := vgo 10 0 (l.drop at_) 0 at_

theorem and7_all : ∀ z : Fin 256, bits BinOp.andNot IntKind.u8 ((z.val : Nat) : Int) 128 = ((z.val % 128 : Nat) : Int) := by decide +kernel
theorem and7 (y : Int) (h0 : 0 ≤ y) (h1 : y ≤ 255) : bits BinOp.andNot IntKind.u8 y 128 = y % 128 := by
  have h := and7_all ⟨y.toNat, by omega⟩
  simp only at h
  rw [show ((y.toNat : Nat) : Int) = y by omega] at h
  rw [h]
  omega
theorem or7_step (X y : Int) (i : Nat) (hi : i < 9 ∨ i = 9 ∧ y ≤ 1) (h0 : 0 ≤ X) (h1 : X < 128 ^ i) (hy0 : 0 ≤ y) (hy1 : y ≤ 127) : bits BinOp.or IntKind.u64 X (IntKind.u64.wrap (y * 2 ^ (7 * i))) = X + y * 128 ^ i := by
  obtain ⟨a, rfl⟩ := Int.eq_ofNat_of_zero_le h0
  obtain ⟨b, rfl⟩ := Int.eq_ofNat_of_zero_le hy0
  have hp : (128 : Int) ^ i = ((2 ^ (7 * i) : Nat) : Int) := by rw [Nat.pow_mul]; simp
  have hq : (2 : Int) ^ (7 * i) = ((2 ^ (7 * i) : Nat) : Int) := by simp
  have hle : b * 2 ^ (7 * i) ≤ 127 * 2 ^ 56 ∨ b * 2 ^ (7 * i) ≤ 2 ^ 63 := by
    rcases hi with hi | ⟨rfl, hi⟩
    · exact .inl (Nat.mul_le_mul (by omega) (Nat.pow_le_pow_right (by omega) (by omega)))
    · refine .inr ?_
      calc b * 2 ^ (7 * 9) ≤ 1 * 2 ^ (7 * 9) := Nat.mul_le_mul (by omega) (Nat.le_refl _)
        _ ≤ 2 ^ 63 := by decide
  have hP9 : 2 ^ (7 * i) ≤ 2 ^ 63 := Nat.pow_le_pow_right (by omega) (by omega)
  rw [hp] at h1 ⊢
  rw [hq]
  generalize hP : 2 ^ (7 * i) = P at *
  have ha : a < P := by omega
  have hm : (b : Int) * (P : Int) = ((b * P : Nat) : Int) := by simp
  rw [hm, wu64 (by omega) (by omega), bits_or_u64_nat a (b * P) (by omega) (by omega)]
  have := Nat.two_pow_add_eq_or_of_lt (i := 7 * i) (b := a) (by rw [hP]; exact ha) b
  rw [hP] at this
  rw [Nat.or_comm, Nat.mul_comm b P, ← this]
  omega
theorem pow128 (i : Nat) : (128 : Int) ^ (i + 1) = 128 * 128 ^ i := by rw [Int.pow_succ, Int.mul_comm]

set_option maxHeartbeats 4000000 in
set_option maxRecDepth 100000 in
theorem varint_Get (w0 w : World) (g at_ : Nat) (l : List Int) (ps : List HP) (hs : Sep w0 w (cur g l at_ true :: ps)) (hb : Bytes l) (hat : at_ ≤ l.length) (hl : l.length ≤ 1000000000000) :
    Calls Try.prog 38 #[.pointer (some ⟨g, 0, none⟩)] w fun e w' => (vget l at_).post (Value.int .u64) w0 g l ps e w' := by
  have hS := Aside0.mk hs
  clear hs
  go_enter Try.func38, Try.ntmps38
  go_wp2
  go_loopg [3, 6] 10 (fun kq v3 v6 w' => ∃ (i : Nat) (x : Int), v3 = .int .u64 x ∧ v6 = .int .i64 i ∧ Aside0 (i + kq = 10 ∧ 0 ≤ x ∧ x < 128 ^ i ∧ at_ + i ≤ l.length ∧ vgo kq i (l.drop (at_ + i)) x (at_ + i) = vget l at_) ∧ Aside0 (Sep w0 w' (cur g l (at_ + i) true :: ps)))
  case atStart => exact ⟨0, 0, rfl, rfl, ⟨by decide, by decide, by decide, hat, rfl⟩, hS⟩
  case round =>
    obtain ⟨i, x, rfl, rfl, hA, hS⟩ := hrel
    have hA' := hA.out
    obtain ⟨hk, h0, h1, hat2, hv⟩ := hA'
    by_cases hi10 : i < 10
    case neg =>
      have hi : i = 10 := by omega
      subst hi
      obtain rfl : gk = 0 := by omega
      have hd : decide (((10 : Nat) : Int) < 10) = false := by decide
      have hv := Aside0.mk hv
      clear h0 h1 hat2 hA hk
      go_wp2
      go_ret
      rw [← hv.out]
      exact ⟨rfl, hS.out⟩
    have hd : decide ((i : Int) < 10) = true := decide_eq_true (by omega)
    obtain ⟨k1, rfl⟩ : ∃ k1, gk = k1 + 1 := ⟨gk - 1, by omega⟩
    by_cases hin : at_ + i < l.length
    case neg =>
      rw [List.drop_eq_nil_of_le (by omega)] at hv
      have hv := Aside0.mk hv
      clear hA h0 h1
      go_wp2_with (fail)
      refine (cur_Byte_short w0 _ g (at_ + i) l ps hS.out hl (by omega)).mono ?_
      rintro e w1 ⟨rfl, h2⟩
      refine ⟨rfl, ?_⟩
      rw [← hv.out]
      exact ⟨rfl, h2⟩
    rw [List.drop_eq_getElem_cons hin] at hv
    have hbb := hb _ (List.getElem_mem hin)
    obtain ⟨b, hbq⟩ : ∃ b, l[at_ + i] = b := ⟨_, rfl⟩
    rw [hbq] at hv hbb
    have hbq := Aside0.mk hbq
    unfold vgo at hv
    have hand := and7 b (by omega) hbb.2
    by_cases c1 : i = 9 ∧ 1 < b
    · rw [if_pos c1] at hv
      have e9 : ((i : Int) == 9) = true := beq_iff_eq.2 (by omega)
      have e1 : decide (b > 1) = true := decide_eq_true c1.2
      have hvA := Aside0.mk hv
      clear hv hA h0 h1 hk hand
      go_wp2_with (first | ((with_reducible refine gate_callee (f := 51) rfl ?_); refine goesL_ (some 10) rfl rfl Try.func51 (by kernel_rfl) rfl #[.pointer (some ⟨g, 0, none⟩)] rfl (by (try simp only [List.map_toArray, List.map_cons, List.map_nil]); first | done | rfl) ?_; (with_reducible refine (cur_Byte_some w0 _ g (at_ + i) l ps hS.out hb hl hin).mono ?_); rintro e w1 ⟨rfl, h1⟩; refine ⟨_, rfl, ?_⟩; rw [hbq.out]; have hS1 := Aside0.mk h1; clear h1))
      refine (cur_Fail w0 _ g (at_ + i + 1) l ps 3 hS1.out (by decide)).mono ?_
      rintro e w2 ⟨rfl, h2⟩
      refine ⟨rfl, ?_⟩
      rw [← hvA.out]
      exact ⟨rfl, h2⟩
    rw [if_neg c1] at hv
    have horA := Aside0.mk (or7_step x (b % 128) i (by omega) h0 h1 (by omega) (by omega))
    have hor := horA.out
    have h0A := Aside0.mk h0
    have h1A := Aside0.mk h1
    have hkA := Aside0.mk hk
    have hbA := Aside0.mk hbb
    clear h0 h1 hk hA
    by_cases c2 : 128 ≤ b
    · rw [if_pos c2] at hv
      have e2 : decide (b ≥ 128) = true := decide_eq_true c2
      have hvA := Aside0.mk hv
      clear hv
      have hrel : ∃ (i' : Nat) (x' : Int), (Value.int .u64 (x + b % 128 * 128 ^ i)) = .int .u64 x' ∧ (Value.int .i64 ((i : Int) + 1)) = .int .i64 i' ∧ Aside0 (i' + k1 = 10 ∧ 0 ≤ x' ∧ x' < 128 ^ i' ∧ at_ + i' ≤ l.length ∧ vgo k1 i' (l.drop (at_ + i')) x' (at_ + i') = vget l at_) := by
        have hp : (0 : Int) ≤ b % 128 * 128 ^ i := Int.mul_nonneg (by omega) (Int.pow_nonneg (by decide))
        have hp2 : b % 128 * 128 ^ i ≤ 127 * 128 ^ i := Int.mul_le_mul_of_nonneg_right (by omega) (Int.pow_nonneg (by decide))
        have hx0 := h0A.out
        have hx1 := h1A.out
        refine ⟨i + 1, _, rfl, by simp, ⟨by have := hkA.out; omega, by omega, by rw [pow128]; omega, by omega, ?_⟩⟩
        have := hvA.out
        rw [show b % 128 = b - 128 by omega]
        exact this
      have hrelA := Aside0.mk hrel
      clear hrel
      by_cases c9 : i = 9
      · have e9 : ((i : Int) == 9) = true := beq_iff_eq.2 (by omega)
        have e1 : decide (b > 1) = false := decide_eq_false (by omega)
        exact absurd c9 (by omega)
      · have e9 : ((i : Int) == 9) = false := beq_eq_false_iff_ne.2 (by omega)
        go_wp2_with (first | ((with_reducible refine gate_callee (f := 51) rfl ?_); refine goesL_ (some 10) rfl rfl Try.func51 (by kernel_rfl) rfl #[.pointer (some ⟨g, 0, none⟩)] rfl (by (try simp only [List.map_toArray, List.map_cons, List.map_nil]); first | done | rfl) ?_; (with_reducible refine (cur_Byte_some w0 _ g (at_ + i) l ps hS.out hb hl hin).mono ?_); rintro e w1 ⟨rfl, h1⟩; refine ⟨_, rfl, ?_⟩; rw [hbq.out]; have hS1 := Aside0.mk h1; clear h1))
        go_roundg k1
        case measure => omega
        case rel =>
          obtain ⟨i', x', hx', hi', hA'⟩ := hrelA.out
          have hi3 : i' = i + 1 := by
            have hi4 : ((i : Int) + 1) = (i' : Int) := by simpa using hi'
            omega
          subst hi3
          exact ⟨_, x', hx', hi', hA', hS1⟩
    rw [if_neg c2] at hv
    have e2 : decide (b ≥ 128) = false := decide_eq_false c2
    by_cases c3 : b = 0 ∧ 0 < i
    · rw [if_pos c3] at hv
      have hvA := Aside0.mk hv
      clear hv
      have e3 : (b == 0) = true := beq_iff_eq.2 c3.1
      have e4 : decide ((i : Int) > 0) = true := decide_eq_true (by omega)
      by_cases c9 : i = 9
      · have e9 : ((i : Int) == 9) = true := beq_iff_eq.2 (by omega)
        have e1 : decide (b > 1) = false := decide_eq_false (by omega)
        go_wp2_with (first | ((with_reducible refine gate_callee (f := 51) rfl ?_); refine goesL_ (some 10) rfl rfl Try.func51 (by kernel_rfl) rfl #[.pointer (some ⟨g, 0, none⟩)] rfl (by (try simp only [List.map_toArray, List.map_cons, List.map_nil]); first | done | rfl) ?_; (with_reducible refine (cur_Byte_some w0 _ g (at_ + i) l ps hS.out hb hl hin).mono ?_); rintro e w1 ⟨rfl, h1⟩; refine ⟨_, rfl, ?_⟩; rw [hbq.out]; have hS1 := Aside0.mk h1; clear h1))
        refine (cur_Fail w0 _ g (at_ + i + 1) l ps 4 hS1.out (by decide)).mono ?_
        rintro e w2 ⟨rfl, h2⟩
        refine ⟨rfl, ?_⟩
        rw [← hvA.out]
        exact ⟨rfl, h2⟩
      · have e9 : ((i : Int) == 9) = false := beq_eq_false_iff_ne.2 (by omega)
        go_wp2_with (first | ((with_reducible refine gate_callee (f := 51) rfl ?_); refine goesL_ (some 10) rfl rfl Try.func51 (by kernel_rfl) rfl #[.pointer (some ⟨g, 0, none⟩)] rfl (by (try simp only [List.map_toArray, List.map_cons, List.map_nil]); first | done | rfl) ?_; (with_reducible refine (cur_Byte_some w0 _ g (at_ + i) l ps hS.out hb hl hin).mono ?_); rintro e w1 ⟨rfl, h1⟩; refine ⟨_, rfl, ?_⟩; rw [hbq.out]; have hS1 := Aside0.mk h1; clear h1))
        refine (cur_Fail w0 _ g (at_ + i + 1) l ps 4 hS1.out (by decide)).mono ?_
        rintro e w2 ⟨rfl, h2⟩
        refine ⟨rfl, ?_⟩
        rw [← hvA.out]
        exact ⟨rfl, h2⟩
    rw [if_neg c3] at hv
    have hvA := Aside0.mk hv
    clear hv
    by_cases c9 : i = 9
    · clear hor
      have e9 : ((i : Int) == 9) = true := beq_iff_eq.2 (by omega)
      have e1 : decide (b > 1) = false := decide_eq_false (by omega)
      by_cases c4 : b = 0
      · exact absurd ⟨c4, by omega⟩ c3
      have e3 : (b == 0) = false := beq_eq_false_iff_ne.2 c4
      go_wp2_with (first | ((with_reducible refine gate_callee (f := 51) rfl ?_); refine goesL_ (some 10) rfl rfl Try.func51 (by kernel_rfl) rfl #[.pointer (some ⟨g, 0, none⟩)] rfl (by (try simp only [List.map_toArray, List.map_cons, List.map_nil]); first | done | rfl) ?_; (with_reducible refine (cur_Byte_some w0 _ g (at_ + i) l ps hS.out hb hl hin).mono ?_); rintro e w1 ⟨rfl, h1⟩; refine ⟨_, rfl, ?_⟩; rw [hbq.out]; have hS1 := Aside0.mk h1; clear h1))
      go_ret
      rw [← hvA.out]
      have hb1 := hbA.out
      have hor9 := horA.out
      subst c9
      rw [show b % 128 = b by omega, show (2 : Int) ^ (7 * 9) = 9223372036854775808 from rfl, wu64 (by omega) (by omega)] at hor9
      refine ⟨?_, hS1.out⟩
      refine congrArg (fun z => Ending.returned (Value.int .u64 z)) ?_
      rw [show b % 128 = b by omega]
      exact hor9
    · have e9 : ((i : Int) == 9) = false := beq_eq_false_iff_ne.2 (by omega)
      by_cases c4 : b = 0
      · have e3 : (b == 0) = true := beq_iff_eq.2 c4
        have e4 : decide ((i : Int) > 0) = false := decide_eq_false (by omega)
        go_wp2_with (first | ((with_reducible refine gate_callee (f := 51) rfl ?_); refine goesL_ (some 10) rfl rfl Try.func51 (by kernel_rfl) rfl #[.pointer (some ⟨g, 0, none⟩)] rfl (by (try simp only [List.map_toArray, List.map_cons, List.map_nil]); first | done | rfl) ?_; (with_reducible refine (cur_Byte_some w0 _ g (at_ + i) l ps hS.out hb hl hin).mono ?_); rintro e w1 ⟨rfl, h1⟩; refine ⟨_, rfl, ?_⟩; rw [hbq.out]; have hS1 := Aside0.mk h1; clear h1))
        go_ret
        rw [← hvA.out]
        subst c4
        have hor0 := horA.out
        have h00 : bits BinOp.andNot IntKind.u8 0 128 = 0 := by decide +kernel
        refine ⟨?_, hS1.out⟩
        refine congrArg (fun z => Ending.returned (Value.int .u64 z)) ?_
        rw [h00, show IntKind.u64.wrap 0 = 0 from rfl]
        exact hor0
      · have e3 : (b == 0) = false := beq_eq_false_iff_ne.2 c4
        go_wp2_with (first | ((with_reducible refine gate_callee (f := 51) rfl ?_); refine goesL_ (some 10) rfl rfl Try.func51 (by kernel_rfl) rfl #[.pointer (some ⟨g, 0, none⟩)] rfl (by (try simp only [List.map_toArray, List.map_cons, List.map_nil]); first | done | rfl) ?_; (with_reducible refine (cur_Byte_some w0 _ g (at_ + i) l ps hS.out hb hl hin).mono ?_); rintro e w1 ⟨rfl, h1⟩; refine ⟨_, rfl, ?_⟩; rw [hbq.out]; have hS1 := Aside0.mk h1; clear h1))
        go_ret
        rw [← hvA.out]
        have := hbA.out
        refine ⟨?_, hS1.out⟩
        refine congrArg (fun z => Ending.returned (Value.int .u64 z)) ?_
        rw [show b % 128 = b by omega]

end Go.Proofs.Ytdpghobknhkikaa.Sep
