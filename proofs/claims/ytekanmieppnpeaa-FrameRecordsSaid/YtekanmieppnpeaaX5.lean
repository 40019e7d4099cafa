/- Texts of a claim, one behind the other (shake.py): what it does not use is left out. -/
import Derived.Test.YtekanmieppnpeaaX4
import Derived.Defers
import Derived.Recover
import Derived.Laws.Pointers
import Derived.LaidEqlPtr
import Derived.Laws.IdiomStrings
import Derived.Lib.IndexLaws
set_option linter.unusedVariables false
set_option linter.unusedSimpArgs false
set_option maxHeartbeats 16000000
set_option maxRecDepth 100000
section
namespace Go.Proofs.Ytekanmieppnpeaa.Sep
open Go Go.RowKit Go.Proofs.YtekanmieppnpeaaW.PrintWords Go.Proofs.YtekanmieppnpeaaW.PrintLast Go.Proofs.YtekanmieppnpeaaW.PrintMore Go.Proofs.Ytekanmieppnpeaa.PureKit
inductive Res (α : Type) where
 | ok (x : α) (at2 : Nat)
 | bad (e : Int) (at2 : Nat)
def Res.post {α : Type} (r : Res α) (enc : α → Value) (w0 : World) (g : Nat) (l : List Int) (ps : List HP) (e : Ending) (w' : World) : Prop :=
 match r with
 | .ok x a => e = .returned (enc x) ∧ Sep w0 w' (cur g l a true :: ps)
 | .bad er a => e = .panicked [fault g er] ∧ Sep w0 w' (cur g l a true :: ps)
def vgo : Nat → Nat → List Int → Int → Nat → Res Int
 | 0, _, _, x, a => .ok x a
 | _ + 1, _, [], _, a => .bad 2 a
 | k + 1, i, b :: s, x, a =>
  if i = 9 ∧ 1 < b then .bad 3 (a + 1)
  else if 128 ≤ b then vgo k (i + 1) s (x + (b - 128) * 128 ^ i) (a + 1)
  else if b = 0 ∧ 0 < i then .bad 4 (a + 1)
  else .ok (x + b * 128 ^ i) (a + 1)
def vget (l : List Int) (at_ : Nat) : Res Int := vgo 10 0 (l.drop at_) 0 at_
theorem and7_all : ∀ z : Fin 256, bits BinOp.andNot IntKind.u8 ((z.val : Nat) : Int) 128 = ((z.val % 128 : Nat) : Int) := by decide +kernel
theorem and7 (y : Int) (h0 : 0 ≤ y) (h1 : y ≤ 255) : bits BinOp.andNot IntKind.u8 y 128 = y % 128 := by
 have h := and7_all ⟨y.toNat, by omega⟩
 simp only at h
 rw [show ((y.toNat : Nat) : Int) = y by omega] at h
 rw [h]
 omega
theorem or7_step (X y : Int) (i : Nat) (hi : i < 9 ∨ i = 9 ∧ y ≤ 1) (h0 : 0 ≤ X) (h1 : X < 128 ^ i) (hy0 : 0 ≤ y) (hy1 : y ≤ 127) : bits BinOp.or IntKind.u64 X (IntKind.u64.wrap (y * 2 ^ (7 * i))) = X + y * 128 ^ i := by
 obtain ⟨a, rfl⟩ := Int.eq_ofNat_of_zero_le h0
 obtain ⟨b, rfl⟩ := Int.eq_ofNat_of_zero_le hy0
 have hp : (128 : Int) ^ i = ((2 ^ (7 * i) : Nat) : Int) := by rw [Nat.pow_mul]; simp
 have hq : (2 : Int) ^ (7 * i) = ((2 ^ (7 * i) : Nat) : Int) := by simp
 have hle : b * 2 ^ (7 * i) ≤ 127 * 2 ^ 56 ∨ b * 2 ^ (7 * i) ≤ 2 ^ 63 := by
  rcases hi with hi | ⟨rfl, hi⟩
  ·
   exact .inl (Nat.mul_le_mul (by omega) (Nat.pow_le_pow_right (by omega) (by omega)))
  ·
   refine .inr ?_
   calc b * 2 ^ (7 * 9) ≤ 1 * 2 ^ (7 * 9) := Nat.mul_le_mul (by omega) (Nat.le_refl _)
    _ ≤ 2 ^ 63 := by decide
 have hP9 : 2 ^ (7 * i) ≤ 2 ^ 63 := Nat.pow_le_pow_right (by omega) (by omega)
 rw [hp] at h1 ⊢
 rw [hq]
 generalize hP : 2 ^ (7 * i) = P at *
 have ha : a < P := by omega
 have hm : (b : Int) * (P : Int) = ((b * P : Nat) : Int) := by simp
 rw [hm, wu64 (by omega) (by omega), bits_or_u64_nat a (b * P) (by omega) (by omega)]
 have := Nat.two_pow_add_eq_or_of_lt (i := 7 * i) (b := a) (by rw [hP]; exact ha) b
 rw [hP] at this
 rw [Nat.or_comm, Nat.mul_comm b P, ← this]
 omega
theorem pow128 (i : Nat) : (128 : Int) ^ (i + 1) = 128 * 128 ^ i := by rw [Int.pow_succ, Int.mul_comm]
theorem varint_Get (w0 w : World) (g at_ : Nat) (l : List Int) (ps : List HP) (hs : Sep w0 w (cur g l at_ true :: ps)) (hb : Bytes l) (hat : at_ ≤ l.length) (hl : l.length ≤ 1000000000000) :
  Calls Try.prog 72 #[.pointer (some ⟨g, 0, none⟩)] w fun e w' => (vget l at_).post (Value.int .u64) w0 g l ps e w' := by
 have hS := Aside0.mk hs
 clear hs
 go_enter Try.func72, Try.ntmps72
 go_wp2
 go_loopg [3, 6] 10 (fun kq v3 v6 w' => ∃ (i : Nat) (x : Int), v3 = .int .u64 x ∧ v6 = .int .i64 i ∧ Aside0 (i + kq = 10 ∧ 0 ≤ x ∧ x < 128 ^ i ∧ at_ + i ≤ l.length ∧ vgo kq i (l.drop (at_ + i)) x (at_ + i) = vget l at_) ∧ Aside0 (Sep w0 w' (cur g l (at_ + i) true :: ps)))
 case atStart => exact ⟨0, 0, rfl, rfl, ⟨by decide, by decide, by decide, hat, rfl⟩, hS⟩
 case round =>
  obtain ⟨i, x, rfl, rfl, hA, hS⟩ := hrel
  have hA' := hA.out
  obtain ⟨hk, h0, h1, hat2, hv⟩ := hA'
  by_cases hi10 : i < 10
  case neg =>
   have hi : i = 10 := by omega
   subst hi
   obtain rfl : gk = 0 := by omega
   have hd : decide (((10 : Nat) : Int) < 10) = false := by decide
   have hv := Aside0.mk hv
   clear h0 h1 hat2 hA hk
   go_wp2
   go_ret
   rw [← hv.out]
   exact ⟨rfl, hS.out⟩
  have hd : decide ((i : Int) < 10) = true := decide_eq_true (by omega)
  obtain ⟨k1, rfl⟩ : ∃ k1, gk = k1 + 1 := ⟨gk - 1, by omega⟩
  by_cases hin : at_ + i < l.length
  case neg =>
   rw [List.drop_eq_nil_of_le (by omega)] at hv
   have hv := Aside0.mk hv
   clear hA h0 h1
   go_wp2_with (fail)
   refine (cur_Byte_short w0 _ g (at_ + i) l ps hS.out hl (by omega)).mono ?_
   rintro e w1 ⟨rfl, h2⟩
   refine ⟨rfl, ?_⟩
   rw [← hv.out]
   exact ⟨rfl, h2⟩
  rw [List.drop_eq_getElem_cons hin] at hv
  have hbb := hb _ (List.getElem_mem hin)
  obtain ⟨b, hbq⟩ : ∃ b, l[at_ + i] = b := ⟨_, rfl⟩
  rw [hbq] at hv hbb
  have hbq := Aside0.mk hbq
  unfold vgo at hv
  have hand := and7 b (by omega) hbb.2
  by_cases c1 : i = 9 ∧ 1 < b
  ·
   rw [if_pos c1] at hv
   have e9 : ((i : Int) == 9) = true := beq_iff_eq.2 (by omega)
   have e1 : decide (b > 1) = true := decide_eq_true c1.2
   have hvA := Aside0.mk hv
   clear hv hA h0 h1 hk hand
   go_wp2_with (first | ((with_reducible refine gate_callee (f := 70) rfl ?_); refine goesL_ (some 10) rfl rfl Try.func70 (by kernel_rfl) rfl #[.pointer (some ⟨g, 0, none⟩)] rfl (by (try simp only [List.map_toArray, List.map_cons, List.map_nil]); first | done | rfl) ?_; (with_reducible refine (cur_Byte_some w0 _ g (at_ + i) l ps hS.out hb hl hin).mono ?_); rintro e w1 ⟨rfl, h1⟩; refine ⟨_, rfl, ?_⟩; rw [hbq.out]; have hS1 := Aside0.mk h1; clear h1))
   refine (cur_Fail w0 _ g (at_ + i + 1) l ps 3 hS1.out (by decide)).mono ?_
   rintro e w2 ⟨rfl, h2⟩
   refine ⟨rfl, ?_⟩
   rw [← hvA.out]
   exact ⟨rfl, h2⟩
  rw [if_neg c1] at hv
  have horA := Aside0.mk (or7_step x (b % 128) i (by omega) h0 h1 (by omega) (by omega))
  have hor := horA.out
  have h0A := Aside0.mk h0
  have h1A := Aside0.mk h1
  have hkA := Aside0.mk hk
  have hbA := Aside0.mk hbb
  clear h0 h1 hk hA
  by_cases c2 : 128 ≤ b
  ·
   rw [if_pos c2] at hv
   have e2 : decide (b ≥ 128) = true := decide_eq_true c2
   have hvA := Aside0.mk hv
   clear hv
   have hrel : ∃ (i' : Nat) (x' : Int), (Value.int .u64 (x + b % 128 * 128 ^ i)) = .int .u64 x' ∧ (Value.int .i64 ((i : Int) + 1)) = .int .i64 i' ∧ Aside0 (i' + k1 = 10 ∧ 0 ≤ x' ∧ x' < 128 ^ i' ∧ at_ + i' ≤ l.length ∧ vgo k1 i' (l.drop (at_ + i')) x' (at_ + i') = vget l at_) := by
    have hp : (0 : Int) ≤ b % 128 * 128 ^ i := Int.mul_nonneg (by omega) (Int.pow_nonneg (by decide))
    have hp2 : b % 128 * 128 ^ i ≤ 127 * 128 ^ i := Int.mul_le_mul_of_nonneg_right (by omega) (Int.pow_nonneg (by decide))
    have hx0 := h0A.out
    have hx1 := h1A.out
    refine ⟨i + 1, _, rfl, by simp, ⟨by have := hkA.out; omega, by omega, by rw [pow128]; omega, by omega, ?_⟩⟩
    have := hvA.out
    rw [show b % 128 = b - 128 by omega]
    exact this
   have hrelA := Aside0.mk hrel
   clear hrel
   by_cases c9 : i = 9
   ·
    have e9 : ((i : Int) == 9) = true := beq_iff_eq.2 (by omega)
    have e1 : decide (b > 1) = false := decide_eq_false (by omega)
    exact absurd c9 (by omega)
   ·
    have e9 : ((i : Int) == 9) = false := beq_eq_false_iff_ne.2 (by omega)
    go_wp2_with (first | ((with_reducible refine gate_callee (f := 70) rfl ?_); refine goesL_ (some 10) rfl rfl Try.func70 (by kernel_rfl) rfl #[.pointer (some ⟨g, 0, none⟩)] rfl (by (try simp only [List.map_toArray, List.map_cons, List.map_nil]); first | done | rfl) ?_; (with_reducible refine (cur_Byte_some w0 _ g (at_ + i) l ps hS.out hb hl hin).mono ?_); rintro e w1 ⟨rfl, h1⟩; refine ⟨_, rfl, ?_⟩; rw [hbq.out]; have hS1 := Aside0.mk h1; clear h1))
    go_roundg k1
    case measure => omega
    case rel =>
     obtain ⟨i', x', hx', hi', hA'⟩ := hrelA.out
     have hi3 : i' = i + 1 := by
      have hi4 : ((i : Int) + 1) = (i' : Int) := by simpa using hi'
      omega
     subst hi3
     exact ⟨_, x', hx', hi', hA', hS1⟩
  rw [if_neg c2] at hv
  have e2 : decide (b ≥ 128) = false := decide_eq_false c2
  by_cases c3 : b = 0 ∧ 0 < i
  ·
   rw [if_pos c3] at hv
   have hvA := Aside0.mk hv
   clear hv
   have e3 : (b == 0) = true := beq_iff_eq.2 c3.1
   have e4 : decide ((i : Int) > 0) = true := decide_eq_true (by omega)
   by_cases c9 : i = 9
   ·
    have e9 : ((i : Int) == 9) = true := beq_iff_eq.2 (by omega)
    have e1 : decide (b > 1) = false := decide_eq_false (by omega)
    go_wp2_with (first | ((with_reducible refine gate_callee (f := 70) rfl ?_); refine goesL_ (some 10) rfl rfl Try.func70 (by kernel_rfl) rfl #[.pointer (some ⟨g, 0, none⟩)] rfl (by (try simp only [List.map_toArray, List.map_cons, List.map_nil]); first | done | rfl) ?_; (with_reducible refine (cur_Byte_some w0 _ g (at_ + i) l ps hS.out hb hl hin).mono ?_); rintro e w1 ⟨rfl, h1⟩; refine ⟨_, rfl, ?_⟩; rw [hbq.out]; have hS1 := Aside0.mk h1; clear h1))
    refine (cur_Fail w0 _ g (at_ + i + 1) l ps 4 hS1.out (by decide)).mono ?_
    rintro e w2 ⟨rfl, h2⟩
    refine ⟨rfl, ?_⟩
    rw [← hvA.out]
    exact ⟨rfl, h2⟩
   ·
    have e9 : ((i : Int) == 9) = false := beq_eq_false_iff_ne.2 (by omega)
    go_wp2_with (first | ((with_reducible refine gate_callee (f := 70) rfl ?_); refine goesL_ (some 10) rfl rfl Try.func70 (by kernel_rfl) rfl #[.pointer (some ⟨g, 0, none⟩)] rfl (by (try simp only [List.map_toArray, List.map_cons, List.map_nil]); first | done | rfl) ?_; (with_reducible refine (cur_Byte_some w0 _ g (at_ + i) l ps hS.out hb hl hin).mono ?_); rintro e w1 ⟨rfl, h1⟩; refine ⟨_, rfl, ?_⟩; rw [hbq.out]; have hS1 := Aside0.mk h1; clear h1))
    refine (cur_Fail w0 _ g (at_ + i + 1) l ps 4 hS1.out (by decide)).mono ?_
    rintro e w2 ⟨rfl, h2⟩
    refine ⟨rfl, ?_⟩
    rw [← hvA.out]
    exact ⟨rfl, h2⟩
  rw [if_neg c3] at hv
  have hvA := Aside0.mk hv
  clear hv
  by_cases c9 : i = 9
  ·
   clear hor
   have e9 : ((i : Int) == 9) = true := beq_iff_eq.2 (by omega)
   have e1 : decide (b > 1) = false := decide_eq_false (by omega)
   by_cases c4 : b = 0
   ·
    exact absurd ⟨c4, by omega⟩ c3
   have e3 : (b == 0) = false := beq_eq_false_iff_ne.2 c4
   go_wp2_with (first | ((with_reducible refine gate_callee (f := 70) rfl ?_); refine goesL_ (some 10) rfl rfl Try.func70 (by kernel_rfl) rfl #[.pointer (some ⟨g, 0, none⟩)] rfl (by (try simp only [List.map_toArray, List.map_cons, List.map_nil]); first | done | rfl) ?_; (with_reducible refine (cur_Byte_some w0 _ g (at_ + i) l ps hS.out hb hl hin).mono ?_); rintro e w1 ⟨rfl, h1⟩; refine ⟨_, rfl, ?_⟩; rw [hbq.out]; have hS1 := Aside0.mk h1; clear h1))
   go_ret
   rw [← hvA.out]
   have hb1 := hbA.out
   have hor9 := horA.out
   subst c9
   rw [show b % 128 = b by omega, show (2 : Int) ^ (7 * 9) = 9223372036854775808 from rfl, wu64 (by omega) (by omega)] at hor9
   refine ⟨?_, hS1.out⟩
   refine congrArg (fun z => Ending.returned (Value.int .u64 z)) ?_
   rw [show b % 128 = b by omega]
   exact hor9
  ·
   have e9 : ((i : Int) == 9) = false := beq_eq_false_iff_ne.2 (by omega)
   by_cases c4 : b = 0
   ·
    have e3 : (b == 0) = true := beq_iff_eq.2 c4
    have e4 : decide ((i : Int) > 0) = false := decide_eq_false (by omega)
    go_wp2_with (first | ((with_reducible refine gate_callee (f := 70) rfl ?_); refine goesL_ (some 10) rfl rfl Try.func70 (by kernel_rfl) rfl #[.pointer (some ⟨g, 0, none⟩)] rfl (by (try simp only [List.map_toArray, List.map_cons, List.map_nil]); first | done | rfl) ?_; (with_reducible refine (cur_Byte_some w0 _ g (at_ + i) l ps hS.out hb hl hin).mono ?_); rintro e w1 ⟨rfl, h1⟩; refine ⟨_, rfl, ?_⟩; rw [hbq.out]; have hS1 := Aside0.mk h1; clear h1))
    go_ret
    rw [← hvA.out]
    subst c4
    have hor0 := horA.out
    have h00 : bits BinOp.andNot IntKind.u8 0 128 = 0 := by decide +kernel
    refine ⟨?_, hS1.out⟩
    refine congrArg (fun z => Ending.returned (Value.int .u64 z)) ?_
    rw [h00, show IntKind.u64.wrap 0 = 0 from rfl]
    exact hor0
   ·
    have e3 : (b == 0) = false := beq_eq_false_iff_ne.2 c4
    go_wp2_with (first | ((with_reducible refine gate_callee (f := 70) rfl ?_); refine goesL_ (some 10) rfl rfl Try.func70 (by kernel_rfl) rfl #[.pointer (some ⟨g, 0, none⟩)] rfl (by (try simp only [List.map_toArray, List.map_cons, List.map_nil]); first | done | rfl) ?_; (with_reducible refine (cur_Byte_some w0 _ g (at_ + i) l ps hS.out hb hl hin).mono ?_); rintro e w1 ⟨rfl, h1⟩; refine ⟨_, rfl, ?_⟩; rw [hbq.out]; have hS1 := Aside0.mk h1; clear h1))
    go_ret
    rw [← hvA.out]
    have := hbA.out
    refine ⟨?_, hS1.out⟩
    refine congrArg (fun z => Ending.returned (Value.int .u64 z)) ?_
    rw [show b % 128 = b by omega]
end Go.Proofs.Ytekanmieppnpeaa.Sep
end
section
namespace Go.Proofs.Ytekanmieppnpeaa.Sep
open Go Go.RowKit Go.Proofs.YtekanmieppnpeaaW.PrintWords Go.Proofs.YtekanmieppnpeaaW.PrintLast Go.Proofs.YtekanmieppnpeaaW.PrintMore Go.Proofs.Ytekanmieppnpeaa.PureKit
theorem vgo_facts : ∀ (k i : Nat) (s : List Int) (x : Int) (a : Nat), i + k = 10 → 0 ≤ x → x < 128 ^ i → Bytes s →
  match vgo k i s x a with
  | .ok y a2 => 0 ≤ y ∧ y < 18446744073709551616 * 64 ∧ a ≤ a2 ∧ a2 ≤ a + s.length
  | .bad e a2 => e ≠ 0 ∧ a ≤ a2 ∧ a2 ≤ a + s.length := by
 intro k
 induction k with
 | zero =>
  intro i s x a hi h0 h1 _
  have : i = 10 := by omega
  subst this
  simp only [vgo]
  refine ⟨h0, ?_, Nat.le_refl _, by omega⟩
  have : (128 : Int) ^ 10 = 18446744073709551616 * 64 := by decide
  omega
 | succ k ih =>
  intro i s x a hi h0 h1 hb
  rcases s with _ | ⟨b, s⟩
  ·
   simp [vgo]
  have hbb := hb.head
  have hp : (0 : Int) ≤ b % 128 * 128 ^ i := Int.mul_nonneg (by omega) (Int.pow_nonneg (by decide))
  have hp2 : b % 128 * 128 ^ i ≤ 127 * 128 ^ i := Int.mul_le_mul_of_nonneg_right (by omega) (Int.pow_nonneg (by decide))
  have hup : (128 : Int) ^ (i + 1) ≤ 128 ^ 10 := by
   have := Nat.pow_le_pow_right (show 0 < 128 by decide) (show i + 1 ≤ 10 by omega)
   exact_mod_cast this
  have h10 : (128 : Int) ^ 10 = 18446744073709551616 * 64 := by decide
  unfold vgo
  by_cases c1 : i = 9 ∧ 1 < b
  ·
   rw [if_pos c1]
   simp
  rw [if_neg c1]
  by_cases c2 : 128 ≤ b
  ·
   rw [if_pos c2]
   rw [show b % 128 = b - 128 by omega] at hp hp2
   have := ih (i + 1) s (x + (b - 128) * 128 ^ i) (a + 1) (by omega) (by omega) (by rw [pow128]; omega) hb.tail
   revert this
   cases vgo k (i + 1) s (x + (b - 128) * 128 ^ i) (a + 1) with
   | ok y a2 => simp only [List.length_cons]; omega
   | bad e a2 => simp only [List.length_cons]; intro h; exact ⟨h.1, by omega, by omega⟩
  rw [if_neg c2]
  by_cases c3 : b = 0 ∧ 0 < i
  ·
   rw [if_pos c3]
   simp
  rw [if_neg c3]
  rw [show b % 128 = b by omega] at hp hp2
  rw [pow128] at hup
  simp only [List.length_cons]
  omega
theorem vgo_small : ∀ (k i : Nat) (s : List Int) (x : Int) (a : Nat) (y : Int) (a2 : Nat), i + k = 10 → 0 ≤ x → x < 128 ^ i → Bytes s → k ≠ 0 → vgo k i s x a = .ok y a2 → y < 18446744073709551616 := by
 intro k
 induction k with
 | zero => intro i s x a y a2 _ _ _ _ h; exact absurd rfl h
 | succ k ih =>
  intro i s x a y a2 hi h0 h1 hb _ h
  rcases s with _ | ⟨b, s⟩
  ·
   simp [vgo] at h
  have hbb := hb.head
  have hp : (0 : Int) ≤ b % 128 * 128 ^ i := Int.mul_nonneg (by omega) (Int.pow_nonneg (by decide))
  have hp2 : b % 128 * 128 ^ i ≤ 127 * 128 ^ i := Int.mul_le_mul_of_nonneg_right (by omega) (Int.pow_nonneg (by decide))
  unfold vgo at h
  by_cases c1 : i = 9 ∧ 1 < b
  ·
   rw [if_pos c1] at h
   cases h
  rw [if_neg c1] at h
  by_cases c2 : 128 ≤ b
  ·
   rw [if_pos c2] at h
   rw [show b % 128 = b - 128 by omega] at hp hp2
   have hk : k ≠ 0 := by omega
   exact ih (i + 1) s _ (a + 1) y a2 (by omega) (by omega) (by rw [pow128]; omega) hb.tail hk h
  rw [if_neg c2] at h
  by_cases c3 : b = 0 ∧ 0 < i
  ·
   rw [if_pos c3] at h
   cases h
  rw [if_neg c3] at h
  rw [show b % 128 = b by omega] at hp hp2
  cases h
  by_cases h9 : i = 9
  ·
   subst h9
   have : b * 128 ^ 9 ≤ 1 * 128 ^ 9 := Int.mul_le_mul_of_nonneg_right (by omega) (by decide)
   have h9 : (128 : Int) ^ 9 = 9223372036854775808 := by decide
   omega
  ·
   have hup : (128 : Int) ^ (i + 1) ≤ 128 ^ 9 := by
    have := Nat.pow_le_pow_right (show 0 < 128 by decide) (show i + 1 ≤ 9 by omega)
    exact_mod_cast this
   have h9 : (128 : Int) ^ 9 = 9223372036854775808 := by decide
   rw [pow128] at hup
   omega
theorem vget_ok {l : List Int} {at_ : Nat} {y : Int} {a2 : Nat} (hb : Bytes l) (hat : at_ ≤ l.length) (h : vget l at_ = .ok y a2) : 0 ≤ y ∧ y < 18446744073709551616 ∧ at_ ≤ a2 ∧ a2 ≤ l.length := by
 have h1 := vgo_facts 10 0 (l.drop at_) 0 at_ (by decide) (by decide) (by decide) (hb.drop _)
 have h2 := vgo_small 10 0 (l.drop at_) 0 at_ y a2 (by decide) (by decide) (by decide) (hb.drop _) (by decide) h
 unfold vget at h
 rw [h] at h1
 simp only [List.length_drop] at h1
 exact ⟨h1.1, h2, h1.2.2.1, by omega⟩
theorem vget_bad {l : List Int} {at_ : Nat} {e : Int} {a2 : Nat} (hb : Bytes l) (hat : at_ ≤ l.length) (h : vget l at_ = .bad e a2) : e ≠ 0 ∧ at_ ≤ a2 ∧ a2 ≤ l.length := by
 have h1 := vgo_facts 10 0 (l.drop at_) 0 at_ (by decide) (by decide) (by decide) (hb.drop _)
 unfold vget at h
 rw [h] at h1
 simp only [List.length_drop] at h1
 exact ⟨h1.1, h1.2.1, by omega⟩
end Go.Proofs.Ytekanmieppnpeaa.Sep
end
section
namespace Go.Proofs.Ytekanmieppnpeaa.Sep
open Go Go.RowKit Go.Proofs.YtekanmieppnpeaaW.PrintWords Go.Proofs.YtekanmieppnpeaaW.PrintLast Go.Proofs.YtekanmieppnpeaaW.PrintMore Go.Proofs.Ytekanmieppnpeaa.PureKit
attribute [local go_sem] max2_int min2_int max_two min_two max_three min_three max_four min_four
def vtext (l : List Int) (at_ least most : Nat) : Res ByteArray :=
 match vget l at_ with
 | .bad e a => .bad e a
 | .ok n a => if n > most then .bad 3 a else if n < least then .bad 4 a else if a + n.toNat ≤ l.length then .ok (strOfNums ((l.take (a + n.toNat)).drop a)) (a + n.toNat) else .bad 2 a
theorem drop_take_nil (l : List Int) (a : Nat) : (l.take a).drop a = [] := List.drop_eq_nil_of_le (by rw [List.length_take]; omega)
theorem varint_GetText (w0 w : World) (g at_ : Nat) (l : List Int) (ps : List HP) (least most : Nat) (lo hi : Int) (hlo : lo = least) (hhi : hi = most) (hs : Sep w0 w (cur g l at_ true :: ps)) (hb : Bytes l) (hat : at_ ≤ l.length) (hl : l.length ≤ 1000000000000) (hle : least ≤ 1000000000) (hmo : most ≤ 1000000000) :
  Calls Try.prog 130 #[.pointer (some ⟨g, 0, none⟩), .int .i64 lo, .int .i64 hi] w fun e w' => ∃ ps1, (∀ w1, Sep w0 w1 (ps1 ++ ps) → Sep w0 w1 ps) ∧ (vtext l at_ least most).post Value.string w0 g l (ps1 ++ ps) e w' := by
 subst hlo hhi
 have hS := Aside0.mk hs
 clear hs
 have mx1 : (if 0 < most then (most : Int) else 0) = (most : Int) := by split <;> omega
 have mx2 : (if 0 < least then (least : Int) else 0) = (least : Int) := by split <;> omega
 have wx1 : IntKind.u64.wrap (most : Int) = (most : Int) := wu64 (by omega) (by omega)
 have wx2 : IntKind.u64.wrap (least : Int) = (least : Int) := wu64 (by omega) (by omega)
 unfold vtext
 have hgo := varint_Get w0 w g at_ l ps hS.out hb hat hl
 cases hv : vget l at_ with
 | bad e a =>
  have hvA := Aside0.mk hv
  rw [hv] at hgo
  clear hv
  go_enter Try.func130, Try.ntmps130
  go_wp2_with (fail)
  refine hgo.mono ?_
  rintro e w1 ⟨rfl, h1⟩
  exact ⟨rfl, [], fun _ h => h, rfl, h1⟩
 | ok n a =>
  have hok := vget_ok hb hat hv
  rw [hv] at hgo
  have hgo := Aside0.mk hgo
  clear hv
  simp only []
  by_cases c1 : n > most
  ·
   rw [if_pos c1]
   have e1 : decide (n > (most : Int)) = true := decide_eq_true c1
   go_enter Try.func130, Try.ntmps130
   go_wp2_with (first | ((with_reducible refine gate_callee (f := 72) rfl ?_); refine goesL_ (some 9) rfl rfl Try.func72 (by kernel_rfl) rfl #[.pointer (some ⟨g, 0, none⟩)] rfl (by (try simp only [List.map_toArray, List.map_cons, List.map_nil]); first | done | rfl) ?_; (with_reducible refine hgo.out.mono ?_); rintro e w1 ⟨rfl, h1⟩; refine ⟨_, rfl, ?_⟩; have hS1 := Aside0.mk h1; clear h1))
   refine (cur_Fail w0 _ g a l ps 3 hS1.out (by decide)).mono ?_
   rintro e w2 ⟨rfl, h2⟩
   exact ⟨rfl, [], fun _ h => h, rfl, h2⟩
  rw [if_neg c1]
  have e1 : decide (n > (most : Int)) = false := decide_eq_false c1
  by_cases c2 : n < least
  ·
   rw [if_pos c2]
   have e2 : decide (n < (least : Int)) = true := decide_eq_true c2
   go_enter Try.func130, Try.ntmps130
   go_wp2_with (first | ((with_reducible refine gate_callee (f := 72) rfl ?_); refine goesL_ (some 9) rfl rfl Try.func72 (by kernel_rfl) rfl #[.pointer (some ⟨g, 0, none⟩)] rfl (by (try simp only [List.map_toArray, List.map_cons, List.map_nil]); first | done | rfl) ?_; (with_reducible refine hgo.out.mono ?_); rintro e w1 ⟨rfl, h1⟩; refine ⟨_, rfl, ?_⟩; have hS1 := Aside0.mk h1; clear h1))
   refine (cur_Fail w0 _ g a l ps 4 hS1.out (by decide)).mono ?_
   rintro e w2 ⟨rfl, h2⟩
   exact ⟨rfl, [], fun _ h => h, rfl, h2⟩
  rw [if_neg c2]
  have e2 : decide (n < (least : Int)) = false := decide_eq_false c2
  have wn : IntKind.i64.wrap n = n := by rw [i64_w, w64 (by omega) (by omega)]
  have wn2 : wrap64 n = n := w64 (by omega) (by omega)
  have hn := Aside0.mk (show n = (n.toNat : Int) by omega)
  by_cases c0 : n = 0
  ·
   subst c0
   have h00 : (0 : Int).toNat = 0 := rfl
   rw [if_pos (by omega), h00, Nat.add_zero, drop_take_nil]
   have hcv := own_string (P := Try.prog) (w := w) (base := 0) (e' := 5) Try.underlying39 Try.underlying5 Try.underlying9 (Kd.own_of_R (Kd.R_nil (Kd.int .u8) 5 w 0 (fun _ => True)))
   have hcv2 := fun (W : World) => own_string (P := Try.prog) (w := W) (base := 0) (e' := 5) Try.underlying39 Try.underlying5 Try.underlying9 (Kd.own_of_R (Kd.R_nil (Kd.int .u8) 5 W 0 (fun _ => True)))
   go_enter Try.func130, Try.ntmps130
   go_wp2_with (first | ((with_reducible refine gate_callee (f := 72) rfl ?_); refine goesL_ (some 9) rfl rfl Try.func72 (by kernel_rfl) rfl #[.pointer (some ⟨g, 0, none⟩)] rfl (by (try simp only [List.map_toArray, List.map_cons, List.map_nil]); first | done | rfl) ?_; (with_reducible refine hgo.out.mono ?_); rintro e w1 ⟨rfl, h1⟩; refine ⟨_, rfl, ?_⟩; have hS1 := Aside0.mk h1; clear h1) | ((with_reducible refine gate_callee (f := 142) rfl ?_); refine goesL_ (some 27) rfl rfl Try.func142 (by kernel_rfl) rfl #[.pointer (some ⟨g, 0, none⟩), .int .i64 0] rfl (by (try simp only [List.map_toArray, List.map_cons, List.map_nil]); first | done | rfl) ?_; (with_reducible refine (cur_Take_none w0 _ g a l ps 0 hS1.out (by decide)).mono ?_); rintro e w2 ⟨rfl, h2⟩; refine ⟨_, rfl, ?_⟩; have hS2 := Aside0.mk h2; clear h2))
   go_ret
   exact ⟨[], fun _ h => h, rfl, hS2.out⟩
  by_cases c3 : a + n.toNat ≤ l.length
  ·
   rw [if_pos c3]
   go_enter Try.func130, Try.ntmps130
   go_wp2_with (first | ((with_reducible refine gate_callee (f := 72) rfl ?_); refine goesL_ (some 9) rfl rfl Try.func72 (by kernel_rfl) rfl #[.pointer (some ⟨g, 0, none⟩)] rfl (by (try simp only [List.map_toArray, List.map_cons, List.map_nil]); first | done | rfl) ?_; (with_reducible refine hgo.out.mono ?_); rintro e w1 ⟨rfl, h1⟩; refine ⟨_, rfl, ?_⟩; have hS1 := Aside0.mk h1; clear h1) | ((with_reducible refine gate_callee (f := 142) rfl ?_); refine goesL_ (some 27) rfl rfl Try.func142 (by kernel_rfl) rfl #[.pointer (some ⟨g, 0, none⟩), .int .i64 n] rfl (by (try simp only [List.map_toArray, List.map_cons, List.map_nil]); first | done | rfl) ?_; (with_reducible refine (cur_Take_some w0 _ g a l ps n.toNat n hn.out hS1.out (by omega) hl c3).mono ?_); rintro e w2 ⟨v2, rfl, h2⟩; refine ⟨_, rfl, ?_⟩; have hS2 := Aside0.mk h2; clear h2; obtain ⟨bs2, hR2⟩ := hS2.out.row_R; have hcv := own_string (P := Try.prog) Try.underlying39 Try.underlying5 Try.underlying9 (Kd.own_of_R hR2)))
   go_ret
   exact ⟨[_], fun _ h => h.tail, rfl, hS2.out.put1⟩
  ·
   rw [if_neg c3]
   go_enter Try.func130, Try.ntmps130
   go_wp2_with (first | ((with_reducible refine gate_callee (f := 72) rfl ?_); refine goesL_ (some 9) rfl rfl Try.func72 (by kernel_rfl) rfl #[.pointer (some ⟨g, 0, none⟩)] rfl (by (try simp only [List.map_toArray, List.map_cons, List.map_nil]); first | done | rfl) ?_; (with_reducible refine hgo.out.mono ?_); rintro e w1 ⟨rfl, h1⟩; refine ⟨_, rfl, ?_⟩; have hS1 := Aside0.mk h1; clear h1))
   refine (cur_Take_short w0 _ g a l ps n hS1.out (by omega) (by omega) hl (by omega)).mono ?_
   rintro e w2 ⟨rfl, h2⟩
   exact ⟨rfl, [], fun _ h => h, rfl, h2⟩
end Go.Proofs.Ytekanmieppnpeaa.Sep
end
section
namespace Go.Proofs.Ytekanmieppnpeaa.Sep
open Go Go.RowKit Go.Proofs.YtekanmieppnpeaaW.PrintWords Go.Proofs.YtekanmieppnpeaaW.PrintLast Go.Proofs.YtekanmieppnpeaaW.PrintMore Go.Proofs.Ytekanmieppnpeaa.PureKit
theorem run_neq_ptr_same {P : Program} (w : World) {tp te : TypeId} {j : TypeInfo} (a : Addr) (hp : P.underlying tp = some (.pointer te)) (hte : P.info? te = some j) :
  (binOp .neq tp (.pointer (some a)) (.pointer (some a))).run P w = .ok (.bool false) w := by
 have h : ∀ d : Nat, (Op.equalIn (d + 1) tp (.pointer (some a)) (.pointer (some a))).run P w = .ok true w := fun d => by
  simp [Op.equalIn, run_underlying hp, sizeOf, typeInfo, hte, run_sameAddr_same]
 simp only [binOp]
 simp [Op.equal, Op.maxDepth, h 9999]
theorem run_catch_idle (w0 w : World) (gc ga ge g at_ : Nat) (a0 e0 : Int) (l : List Int) (ps : List HP)
  (hs : Sep w0 w (cur g l at_ true :: blk gc #[.pointer (some ⟨g, 0, none⟩)] 93 :: blk ga #[.int .i64 a0] 3 :: blk ge #[.int .i64 e0] 36 :: ps)) :
  CallsD Try.prog 112 #[.pointer (some ⟨gc, 0, none⟩), .pointer (some ⟨ga, 0, none⟩), .pointer (some ⟨ge, 0, none⟩)] .returning w fun e u' w' =>
   e = .returned (.tuple #[]) ∧ u' = .returning ∧ Sep w0 w' (cur g l at_ false :: blk gc #[.pointer (some ⟨g, 0, none⟩)] 93 :: blk ga #[.int .i64 at_] 3 :: blk ge #[.int .i64 e0] 36 :: ps) := by
 have hS := Aside0.mk hs
 have h2 := hs.perm (List.Perm.swap _ _ _)
 have hcc : w.cell? ⟨gc, 0, none⟩ = some (.pointer (some ⟨g, 0, none⟩)) := (h2.cell 0).trans rfl
 obtain ⟨A, c, hO⟩ := Sep.cur_open hs
 have hc2 : w.cell? ⟨g, 2, none⟩ = some (.bool true) := (hO.cell 2).trans rfl
 have hz2 := hO.frozen 2
 have hO := Aside0.mk hO
 clear h2 hs
 refine callsD_of_wpS Try.func112 rfl fun c₀ cs hu => ?_
 apply wpS_seq
 refine wpS_of_wp ?_
 rw [show ∀ (x y z : Value), #[x, y, z] ++ Array.replicate (Try.f112.ntmps - #[x, y, z].size) undef = #[x, y, z, undef, undef, undef, undef, undef, undef, undef, undef, undef, undef, undef, undef, undef, undef, undef, undef, undef, undef, undef, undef, undef, undef, undef, undef] from fun x y z => by kernel_rfl]
 go_wp2
 simp only [Exit.thenS]
 have hS1 : Sep w0 (w.setCell ⟨g, 2, none⟩ (.bool false)) (cur g l at_ false :: blk gc #[.pointer (some ⟨g, 0, none⟩)] 93 :: blk ga #[.int .i64 a0] 3 :: blk ge #[.int .i64 e0] 36 :: ps) := by
  refine Sep.cur_close (A := A) (c := c) ?_
  have := hO.out.set 2 (.bool false)
  simpa using this
 clear hcc hc2 hz2 hO
 generalize w.setCell ⟨g, 2, none⟩ (.bool false) = w1 at hS1 ⊢
 have hcc : w1.cell? ⟨gc, 0, none⟩ = some (.pointer (some ⟨g, 0, none⟩)) := ((hS1.perm (List.Perm.swap _ _ _)).cell 0).trans rfl
 obtain ⟨A, c, hO⟩ := Sep.cur_open hS1
 have hc1 : w1.cell? ⟨g, 1, none⟩ = some (.int .i64 at_) := (hO.cell 1).trans rfl
 have hga := hS1.perm ((List.Perm.cons _ (List.Perm.swap _ _ _)).trans (List.Perm.swap _ _ _))
 have hca : w1.cell? ⟨ga, 0, none⟩ = some (.int .i64 a0) := (hga.cell 0).trans rfl
 have hza := hga.frozen 0
 have hga := Aside0.mk hga
 clear hO
 apply wpS_seq
 refine wpS_of_wp ?_
 go_wp2
 simp only [Exit.thenS]
 have hS2 : Sep w0 (w1.setCell ⟨ga, 0, none⟩ (.int .i64 at_)) (cur g l at_ false :: blk gc #[.pointer (some ⟨g, 0, none⟩)] 93 :: blk ga #[.int .i64 at_] 3 :: blk ge #[.int .i64 e0] 36 :: ps) := by
  have := hga.out.set 0 (.int .i64 at_)
  have := this.perm ((List.Perm.swap _ _ _).trans (List.Perm.cons _ (List.Perm.swap _ _ _)))
  simpa using this
 clear hcc hc1 hca hza hga
 generalize w1.setCell ⟨ga, 0, none⟩ (.int .i64 at_) = w2 at hS2 ⊢
 have hS2 := Aside0.mk hS2
 apply wpS_seq
 apply wpS_region
 simp [wpOpsS, go_sem, recoverD, hu, Exit.thenS]
 refine wpS_of_wp ?_
 go_wp2
 have hS3 := hS2.out
 clear hS2 hS
 generalize hps : (cur g l at_ false :: blk gc #[.pointer (some ⟨g, 0, none⟩)] 93 :: blk ga #[.int .i64 at_] 3 :: blk ge #[.int .i64 e0] 36 :: ps) = qs at hS3 ⊢
 clear hps
 cases c₀
 simp_all [bodyPostS, results, Try.results112]
theorem run_catch_fault (w0 w : World) (gc ga ge g at_ : Nat) (a0 e0 x : Int) (older : List PanicEntry) (l : List Int) (ps : List HP)
  (hs : Sep w0 w (cur g l at_ true :: blk gc #[.pointer (some ⟨g, 0, none⟩)] 93 :: blk ga #[.int .i64 a0] 3 :: blk ge #[.int .i64 e0] 36 :: ps)) :
  CallsD Try.prog 112 #[.pointer (some ⟨gc, 0, none⟩), .pointer (some ⟨ga, 0, none⟩), .pointer (some ⟨ge, 0, none⟩)] (.panicking (fault g x :: older)) w fun e u' w' =>
   e = .returned (.tuple #[]) ∧ u' = .panicking ({ v := (fault g x).v, recovered := true } :: older) ∧ Sep w0 w' (cur g l at_ false :: blk gc #[.pointer (some ⟨g, 0, none⟩)] 93 :: blk ga #[.int .i64 at_] 3 :: blk ge #[.int .i64 x] 36 :: ps) := by
 have hS := Aside0.mk hs
 have h2 := hs.perm (List.Perm.swap _ _ _)
 have hcc : w.cell? ⟨gc, 0, none⟩ = some (.pointer (some ⟨g, 0, none⟩)) := (h2.cell 0).trans rfl
 obtain ⟨A, c, hO⟩ := Sep.cur_open hs
 have hc2 : w.cell? ⟨g, 2, none⟩ = some (.bool true) := (hO.cell 2).trans rfl
 have hz2 := hO.frozen 2
 have hO := Aside0.mk hO
 clear h2 hs
 refine callsD_of_wpS Try.func112 rfl fun c₀ cs hu => ?_
 apply wpS_seq
 refine wpS_of_wp ?_
 rw [show ∀ (x y z : Value), #[x, y, z] ++ Array.replicate (Try.f112.ntmps - #[x, y, z].size) undef = #[x, y, z, undef, undef, undef, undef, undef, undef, undef, undef, undef, undef, undef, undef, undef, undef, undef, undef, undef, undef, undef, undef, undef, undef, undef, undef] from fun x y z => by kernel_rfl]
 go_wp2
 simp only [Exit.thenS]
 have hS1 : Sep w0 (w.setCell ⟨g, 2, none⟩ (.bool false)) (cur g l at_ false :: blk gc #[.pointer (some ⟨g, 0, none⟩)] 93 :: blk ga #[.int .i64 a0] 3 :: blk ge #[.int .i64 e0] 36 :: ps) := by
  refine Sep.cur_close (A := A) (c := c) ?_
  have := hO.out.set 2 (.bool false)
  simpa using this
 clear hcc hc2 hz2 hO
 generalize w.setCell ⟨g, 2, none⟩ (.bool false) = w1 at hS1 ⊢
 have hcc : w1.cell? ⟨gc, 0, none⟩ = some (.pointer (some ⟨g, 0, none⟩)) := ((hS1.perm (List.Perm.swap _ _ _)).cell 0).trans rfl
 obtain ⟨A, c, hO⟩ := Sep.cur_open hS1
 have hc1 : w1.cell? ⟨g, 1, none⟩ = some (.int .i64 at_) := (hO.cell 1).trans rfl
 have hga := hS1.perm ((List.Perm.cons _ (List.Perm.swap _ _ _)).trans (List.Perm.swap _ _ _))
 have hca : w1.cell? ⟨ga, 0, none⟩ = some (.int .i64 a0) := (hga.cell 0).trans rfl
 have hza := hga.frozen 0
 have hga := Aside0.mk hga
 clear hO
 apply wpS_seq
 refine wpS_of_wp ?_
 go_wp2
 simp only [Exit.thenS]
 have hS2 : Sep w0 (w1.setCell ⟨ga, 0, none⟩ (.int .i64 at_)) (cur g l at_ false :: blk gc #[.pointer (some ⟨g, 0, none⟩)] 93 :: blk ga #[.int .i64 at_] 3 :: blk ge #[.int .i64 e0] 36 :: ps) := by
  have := hga.out.set 0 (.int .i64 at_)
  have := this.perm ((List.Perm.swap _ _ _).trans (List.Perm.cons _ (List.Perm.swap _ _ _)))
  simpa using this
 clear hcc hc1 hca hza hga
 generalize w1.setCell ⟨ga, 0, none⟩ (.int .i64 at_) = w2 at hS2 ⊢
 have hS2 := Aside0.mk hS2
 apply wpS_seq
 apply wpS_region
 have hcc : w2.cell? ⟨gc, 0, none⟩ = some (.pointer (some ⟨g, 0, none⟩)) := ((hS2.out.perm (List.Perm.swap _ _ _)).cell 0).trans rfl
 simp [wpOpsS, go_sem, recoverD, hu, Exit.thenS, fault]
 have hta : ∀ (v : Value) (W : World), (Instr.typeAssert (.iface 151 v) 20 151 true).run Try.prog W = .ok (.tuple #[v, .bool true]) W := fun v W => by rfl
 have hA := hS2.out.alloc #[.pointer (some ⟨g, 0, none⟩), .int .i64 x] 151
 clear hcc
 have hcc : (w2.alloc (.cells #[.pointer (some ⟨g, 0, none⟩), .int .i64 x] 151 (0, 0))).cell? ⟨gc, 0, none⟩ = some (.pointer (some ⟨g, 0, none⟩)) := ((hA.tail.perm (List.Perm.swap _ _ _)).cell 0).trans rfl
 have hce : (w2.alloc (.cells #[.pointer (some ⟨g, 0, none⟩), .int .i64 x] 151 (0, 0))).cell? ⟨ge, 0, none⟩ = some (.int .i64 e0) := (hA.tail.tail.tail.tail.cell 0).trans rfl
 have hze := hA.tail.tail.tail.tail.frozen 0
 have hE := Aside0.mk ((hA.tail.perm (List.perm_middle (l₁ := [cur g l at_ false, blk gc #[.pointer (some ⟨g, 0, none⟩)] 93, blk ga #[.int .i64 at_] 3]) (a := blk ge #[.int .i64 e0] 36) (l₂ := ps))).set 0 (.int .i64 x))
 clear hA
 obtain ⟨j_, hj_⟩ : ∃ j, Try.prog.info? 149 = some j := Option.isSome_iff_exists.mp (by kernel_rfl)
 have hne := fun W => run_neq_ptr_same (P := Try.prog) W ⟨g, 0, none⟩ Try.underlying93 hj_
 refine wpS_of_wp ?_
 go_wp2
 have hS3 : Sep w0 ((w2.alloc (.cells #[.pointer (some ⟨g, 0, none⟩), .int .i64 x] 151 (0, 0))).setCell ⟨ge, 0, none⟩ (.int .i64 x)) (cur g l at_ false :: blk gc #[.pointer (some ⟨g, 0, none⟩)] 93 :: blk ga #[.int .i64 at_] 3 :: blk ge #[.int .i64 x] 36 :: ps) := by
  have h9 : Sep w0 _ (blk ge #[.int .i64 x] 36 :: ([cur g l at_ false, blk gc #[.pointer (some ⟨g, 0, none⟩)] 93, blk ga #[.int .i64 at_] 3] ++ ps)) := hE.out
  exact h9.perm (List.perm_middle (l₁ := [cur g l at_ false, blk gc #[.pointer (some ⟨g, 0, none⟩)] 93, blk ga #[.int .i64 at_] 3]) (a := blk ge #[.int .i64 x] 36) (l₂ := ps)).symm
 clear hE hS2 hS hcc hce hze hne hta
 generalize (cur g l at_ false :: blk gc #[.pointer (some ⟨g, 0, none⟩)] 93 :: blk ga #[.int .i64 at_] 3 :: blk ge #[.int .i64 x] 36 :: ps) = qs at hS3 ⊢
 generalize (w2.alloc (.cells #[.pointer (some ⟨g, 0, none⟩), .int .i64 x] 151 (0, 0))).setCell ⟨ge, 0, none⟩ (.int .i64 x) = w3 at hS3 ⊢
 cases c₀
 simp_all [bodyPostS, results, Try.results112]
end Go.Proofs.Ytekanmieppnpeaa.Sep
namespace Go.Proofs.Ytekanmieppnpeaa.Sep
open Go Go.RowKit Go.Proofs.YtekanmieppnpeaaW.PrintWords Go.Proofs.YtekanmieppnpeaaW.PrintLast Go.Proofs.YtekanmieppnpeaaW.PrintMore Go.Proofs.Ytekanmieppnpeaa.PureKit
theorem run_calls (w0 w : World) (A : Option Addr) (c : Nat) (l : List Int) (fid : FuncId) (caps : Array Value) (R ps : List HP) (Q : Nat → Int → List HP → Prop)
  (hent : ∀ (args : Array Value) (w : World), (callFunc fid args).run Try.prog w = .ok (.enter fid args) w)
  (hs : Sep w0 w (R ++ ps)) (hr : Kd.C (Kd.int .u8) w A l.length l) (hc : l.length ≤ c) (hl : l.length ≤ 1000000000000)
  (hcl : ∀ (w1 : World) (g : Nat) (ps' : List HP), Sep w0 w1 (cur g l 0 true :: (R ++ ps')) → Calls Try.prog fid (#[.pointer (some ⟨g, 0, none⟩)] ++ caps) w1 fun e w2 =>
   ∃ (at2 : Nat) (x : Int) (qs : List HP), Q at2 x qs ∧ Sep w0 w2 (cur g l at2 true :: (qs ++ ps')) ∧ ((e = .returned (.tuple #[]) ∧ x = 0) ∨ e = .panicked [fault g x])) :
  Calls Try.prog 51 #[.slice A l.length c, .func (.func fid) #[] caps] w fun e w' =>
   ∃ (at2 : Nat) (x : Int) (qs : List HP), Q at2 x qs ∧ e = .returned (.tuple #[.int .i64 at2, .int .i64 x]) ∧ Sep w0 w' (qs ++ ps) := by
 have hmf : ∀ (fn : Fn) (first cap : Array Value) (w : World), (Instr.makeFunc fn first cap).run Try.prog w = .ok (.func fn first cap) w := fun _ _ _ _ => rfl
 have hnf : ∀ (W : World), (binOp .eql 95 (.func (.func fid) #[] caps) .nilFunc).run Try.prog W = .ok (.bool false) W := fun _ => by rfl
 have hS := Aside0.mk hs
 have hR := Aside0.mk hr
 have hCL := Aside0.mk hcl
 have hB := Aside0.mk hs.1
 have hsz : ∀ (W : World) (o : Obj), (W.alloc o).heap.size = W.heap.size + 1 := fun W o => by show (W.heap.push _).size = _; simp
 have hS2 := (hs.alloc #[.int .i64 0] 3).alloc #[.int .i64 0] 36
 rw [hsz] at hS2
 have hS2 := Aside0.mk hS2
 clear hs hr hcl
 go_enter_defers Try.func51, Try.ntmps51
 go_wp2_with (first | ((with_reducible refine gate_callee (f := 111) rfl ?_); refine goesL_ (some 10) rfl rfl Try.func111 (by kernel_rfl) rfl #[.slice A l.length c] rfl (by (try simp only [List.map_toArray, List.map_cons, List.map_nil]); first | done | rfl) ?_; (refine (G.bytes_Clone.calls A c l l _ (Kd.C_alloc (Kd.C_alloc hR.out _) _) hc (by unfold G.bytes_Clone.f; exact if_pos (by omega)) rfl).mono ?_); rintro e w1 ⟨v1, rfl, ho, hb⟩; refine ⟨_, rfl, ?_⟩; have hS3 := Aside0.mk (Sep.row_new hS2.out hb ho); obtain ⟨A1, c1, e1⟩ := Kd.R_slice ho; subst e1; clear ho hb))
 have hS4 := (hS3.out.alloc #[.slice A1 l.length c1, .int .i64 0, .bool true] 149).alloc #[.pointer (some ⟨w1.heap.size, 0, none⟩)] 93
 rw [hsz] at hS4
 have hS5 := Sep.cur_close (at_ := 0) (live := true) hS4.put2
 have hS6 : Sep w0 _ (cur w1.heap.size l 0 true :: (R ++ (blk (w1.heap.size + 1) #[.pointer (some ⟨w1.heap.size, 0, none⟩)] 93 :: blk (w.heap.size + 1) #[.int .i64 0] 36 :: blk w.heap.size #[.int .i64 0] 3 :: ps))) := hS5.perm (List.Perm.cons _ (List.perm_append_comm_assoc [_, _, _] R ps))
 clear hS4 hS5
 refine (hCL.out _ w1.heap.size _ hS6).mono ?_
 clear hS6 hS3
 rintro e w2 ⟨at2, x, qs, hQ, h2, hor⟩
 have h3 : Sep w0 w2 (cur w1.heap.size l at2 true :: blk (w1.heap.size + 1) #[.pointer (some ⟨w1.heap.size, 0, none⟩)] 93 :: blk w.heap.size #[.int .i64 0] 3 :: blk (w.heap.size + 1) #[.int .i64 0] 36 :: (qs ++ ps)) :=
  (h2.perm (List.Perm.cons _ (List.perm_append_comm_assoc qs [_, _, _] ps))).perm (List.Perm.cons _ (List.Perm.cons _ (List.Perm.swap _ _ _)))
 have hQ := Aside0.mk hQ
 clear h2 hS hR hCL hB hS2 hc
 rcases hor with ⟨rfl, rfl⟩ | rfl
 ·
  obtain ⟨A2, c2, hO⟩ := Sep.cur_open h3
  have hcg : w2.cell? ⟨w1.heap.size + 1, 0, none⟩ = some (.pointer (some ⟨w1.heap.size, 0, none⟩)) := ((h3.pick1).cell 0).trans rfl
  have hc1 : w2.cell? ⟨w1.heap.size, 1, none⟩ = some (.int .i64 at2) := (hO.cell 1).trans rfl
  have hca : w2.cell? ⟨w.heap.size, 0, none⟩ = some (.int .i64 0) := ((h3.pick2).cell 0).trans rfl
  have hza := (h3.pick2).frozen 0
  have hce : w2.cell? ⟨w.heap.size + 1, 0, none⟩ = some (.int .i64 0) := ((h3.pick3).cell 0).trans rfl
  have hze := (h3.pick3).frozen 0
  have h3 := Aside0.mk h3
  clear hO
  go_wp2
  have h4 : Sep w0 ((w2.setCell ⟨w.heap.size, 0, none⟩ (.int .i64 at2)).setCell ⟨w.heap.size + 1, 0, none⟩ (.int .i64 0)) (cur w1.heap.size l at2 true :: blk (w1.heap.size + 1) #[.pointer (some ⟨w1.heap.size, 0, none⟩)] 93 :: blk w.heap.size #[.int .i64 at2] 3 :: blk (w.heap.size + 1) #[.int .i64 0] 36 :: (qs ++ ps)) := by
   have h5 := h3.out.pick2.set 0 (.int .i64 at2)
   have h6 := h5.put2.pick3.set 0 (.int .i64 0)
   have h7 := h6.put3
   simpa using h7
  clear h3 hcg hc1 hca hza hce hze
  generalize ((w2.setCell ⟨w.heap.size, 0, none⟩ (.int .i64 at2)).setCell ⟨w.heap.size + 1, 0, none⟩ (.int .i64 0)) = w3 at h4 ⊢
  show Leaves _ _ _ _ _ _ _
  refine leaves_cons (f := 112) (args := _) (by simp) (by rfl) ?_
  refine (run_catch_idle w0 _ (w1.heap.size + 1) w.heap.size (w.heap.size + 1) w1.heap.size at2 at2 0 l _ h4).mono ?_
  rintro e u' w4 ⟨rfl, rfl, h5⟩
  have hca : w4.cell? ⟨w.heap.size, 0, none⟩ = some (.int .i64 at2) := ((h5.pick2).cell 0).trans rfl
  have hce : w4.cell? ⟨w.heap.size + 1, 0, none⟩ = some (.int .i64 0) := ((h5.pick3).cell 0).trans rfl
  have hout : Sep w0 w4 (qs ++ ps) := h5.tail.tail.tail.tail
  show Leaves _ _ _ _ [] .returning w4
  refine ⟨.tuple #[.int .i64 at2, .int .i64 0], ?_, at2, 0, qs, hQ.out, rfl, hout⟩
  simp [results, Try.results51, asAddr, loadVar, isAgg, underlying, Try.underlying3, Try.underlying36, Result.andThen, hca, hce]
 ·
  have h3 := Aside0.mk h3
  show Leaves _ _ _ _ _ _ _
  refine leaves_cons (f := 112) (args := _) (by simp) (by rfl) ?_
  refine (run_catch_fault w0 _ (w1.heap.size + 1) w.heap.size (w.heap.size + 1) w1.heap.size at2 0 0 x [] l _ h3.out).mono ?_
  rintro e u' w4 ⟨rfl, rfl, h5⟩
  have hca : w4.cell? ⟨w.heap.size, 0, none⟩ = some (.int .i64 at2) := ((h5.pick2).cell 0).trans rfl
  have hce : w4.cell? ⟨w.heap.size + 1, 0, none⟩ = some (.int .i64 x) := ((h5.pick3).cell 0).trans rfl
  have hout : Sep w0 w4 (qs ++ ps) := h5.tail.tail.tail.tail
  show Leaves _ _ _ _ [] .returning w4
  refine ⟨.tuple #[.int .i64 at2, .int .i64 x], ?_, at2, x, qs, hQ.out, rfl, hout⟩
  simp [results, Try.results51, asAddr, loadVar, isAgg, underlying, Try.underlying3, Try.underlying36, Result.andThen, hca, hce]
end Go.Proofs.Ytekanmieppnpeaa.Sep
namespace Go.Proofs.Ytekanmieppnpeaa.Sep
open Go Go.RowKit Go.Proofs.YtekanmieppnpeaaW.PrintWords Go.Proofs.YtekanmieppnpeaaW.PrintLast Go.Proofs.YtekanmieppnpeaaW.PrintMore
end Go.Proofs.Ytekanmieppnpeaa.Sep
namespace Go.Proofs.Ytekanmieppnpeaa.Sep
open Go Go.RowKit Go.Proofs.YtekanmieppnpeaaW.PrintWords Go.Proofs.YtekanmieppnpeaaW.PrintLast Go.Proofs.YtekanmieppnpeaaW.PrintMore Go.Proofs.Ytekanmieppnpeaa.PureKit
theorem cur_Eight_some (w0 w : World) (g at_ : Nat) (l : List Int) (ps : List HP) (hs : Sep w0 w (cur g l at_ true :: ps)) (hb : Bytes l) (hl : l.length ≤ 1000000000000) (hsh : at_ + 8 ≤ l.length) :
  Calls Try.prog 53 #[.pointer (some ⟨g, 0, none⟩)] w fun e w' => e = .returned (.int .u64 (lev ((l.take (at_ + 8)).drop at_))) ∧ Sep w0 w' (cur g l (at_ + 8) true :: ps) := by
 have hS := Aside0.mk hs
 clear hs
 go_enter Try.func53, Try.ntmps53
 go_wp2_with (first | ((with_reducible refine gate_callee (f := 113) rfl ?_); refine goesL_ (some 4) rfl rfl Try.func113 (by kernel_rfl) rfl #[.pointer (some ⟨g, 0, none⟩), .int .i64 8] rfl (by (try simp only [List.map_toArray, List.map_cons, List.map_nil]); first | done | rfl) ?_; (with_reducible refine (cur_num_some w0 _ g at_ l ps 8 8 rfl hS.out hb (by decide) (by decide) hl hsh).mono ?_); rintro e w1 ⟨rfl, h2⟩; refine ⟨_, rfl, ?_⟩; have hS1 := Aside0.mk h2; clear h2))
 go_ret
 exact ⟨rfl, hS1.out⟩
end Go.Proofs.Ytekanmieppnpeaa.Sep
end
section
namespace Go.Proofs.Ytekanmieppnpeaa.Sep
open Go Go.RowKit Go.Proofs.YtekanmieppnpeaaW.PrintWords Go.Proofs.YtekanmieppnpeaaW.PrintLast Go.Proofs.YtekanmieppnpeaaW.PrintMore Go.Proofs.Ytekanmieppnpeaa.PureKit
def buf (g : Nat) (l : List Int) : HP where
 p := fun w bs => ∃ v bs', bs = g :: bs' ∧ w.heap[g]? = some (.cells #[v] 100 (0, 0)) ∧ Kd.R (Kd.int .u8) 5 w 0 (fun k => k ∈ bs') v l
 loc := by
  rintro w w' bs ⟨v, bs', e, h1, h2⟩ hm
  exact ⟨v, bs', e, by rw [hm g (by rw [e]; simp)]; exact h1, Kd.R_move h2 (fun k hk => hm k (by rw [e]; exact List.mem_cons_of_mem _ hk))⟩
theorem Sep.buf_open {w0 w : World} {g : Nat} {l : List Int} {ps : List HP} (h : Sep w0 w (buf g l :: ps)) : ∃ v, Sep w0 w (blk g #[v] 100 :: row (Kd.int .u8) 5 v l :: ps) := by
 obtain ⟨hb, bs, ⟨b1, b2, e, ⟨v, bs', e1, h1, h2⟩, hs⟩, hn, hr⟩ := h
 exact ⟨v, hb, bs, ⟨[g], bs' ++ b2, by rw [e, e1]; simp, ⟨rfl, h1⟩, bs', b2, rfl, h2, hs⟩, hn, hr⟩
theorem Sep.buf_close {w0 w : World} {g : Nat} {l : List Int} {v : Value} {ps : List HP} (h : Sep w0 w (blk g #[v] 100 :: row (Kd.int .u8) 5 v l :: ps)) : Sep w0 w (buf g l :: ps) := by
 obtain ⟨hb, bs, ⟨b1, b2, e, ⟨e1, h1⟩, b3, b4, e2, h2, hs⟩, hn, hr⟩ := h
 exact ⟨hb, bs, ⟨g :: b3, b4, by rw [e, e1, e2]; simp, ⟨v, b3, rfl, h1, h2⟩, hs⟩, hn, hr⟩
theorem Sep.buf_new {w0 w : World} {ps : List HP} (h : Sep w0 w ps) : Sep w0 (w.alloc (.cells #[.slice none 0 0] 100 (0, 0))) (buf w.heap.size [] :: ps) :=
 Sep.buf_close (((h.alloc #[.slice none 0 0] 100).row_nil (Kd.int .u8) 5).perm (List.Perm.swap _ _ _))
def nbytes : Nat → Int → List Int
 | 0, _ => []
 | n + 1, x => x % 256 :: nbytes n (x / 256)
theorem nbytes_len : ∀ (n : Nat) (x : Int), (nbytes n x).length = n
 | 0, _ => rfl
 | n + 1, x => by simp [nbytes, nbytes_len n]
theorem buf_num (w0 w : World) (g : Nat) (l : List Int) (ps : List HP) (x m : Int) (n : Nat) (hm : m = n) (hs : Sep w0 w (buf g l :: ps)) (hx : 0 ≤ x) (hx' : x < 18446744073709551616) (hn : n ≤ 8) (hl : l.length ≤ 1000000000000) :
  Calls Try.prog 121 #[.pointer (some ⟨g, 0, none⟩), .int .u64 x, .int .i64 m] w fun e w' => e = .returned (.pointer (some ⟨g, 0, none⟩)) ∧ Sep w0 w' (buf g (l ++ nbytes n x) :: ps) := by
 subst hm
 have hS := Aside0.mk hs
 clear hs
 go_enter Try.func121, Try.ntmps121
 go_wp2
 go_loopg [1, 8] n (fun kq v1 v8 w' => ∃ (i : Nat) (y : Int) (l1 : List Int), v8 = .int .i64 i ∧ v1 = .int .u64 y ∧ Aside0 (0 ≤ y ∧ y < 18446744073709551616 ∧ i + kq = n ∧ l1.length = l.length + i ∧ l ++ nbytes n x = l1 ++ nbytes kq y) ∧ Aside0 (Sep w0 w' (buf g l1 :: ps)))
 case atStart => exact ⟨0, x, l, rfl, rfl, ⟨⟨hx, hx', by omega, by omega, rfl⟩⟩, hS⟩
 case round =>
  obtain ⟨i, y, l1, rfl, rfl, hA, hS⟩ := hrel
  by_cases hin : i < n
  ·
   obtain ⟨k1, rfl⟩ : ∃ k1, gk = k1 + 1 := ⟨gk - 1, by have := hA.out; omega⟩
   have hd : decide ((i : Int) < (n : Int)) = true := decide_eq_true (by omega)
   obtain ⟨v, hO⟩ := Sep.buf_open hS.out
   obtain ⟨bs, hR, hG⟩ := hO.tail.row_open
   obtain ⟨Av, cv, rfl⟩ := Kd.R_slice hR
   have hR := Aside0.mk hR
   have hc : wr.cell? ⟨g, 0, none⟩ = some (.slice Av l1.length cv) := (hO.cell 0).trans rfl
   obtain ⟨bs, hR, hG⟩ := (hO.perm (List.Perm.swap _ _ _)).row_open
   have hR := Aside0.mk hR
   have hG := Aside0.mk hG
   have hO := Aside0.mk hO
   go_wp2_with (first | ((with_reducible refine gate_builtin (b := .append) (xs := #[.tmp 14, .tmp 17]) rfl ?_); at_builtin; refine Kd.R_append (Kd.int .u8) (w0 := wr) 0 rfl (.tmp 14) (.tmp 17) 39 5 (.int .u8 0) 1 rfl Try.underlying39 (by kernel_rfl) rfl (by decide) (by decide) (.slice Av l1.length cv) l1 (y % 256) [.int .u8 (y % 256)] (fun k => k ∈ bs ∨ wr.heap.size ≤ k) (fun _ => False) rfl rfl rfl (fun _ h => h.elim) (fun _ h => .inr h) ?aO ?aB ?aS ?aL ?_; (case aO => exact Kd.R_mono hR.out (fun _ h => .inl h)); (case aB => exact Below.refl _ _); (case aS => exact Nat.zero_le _); (case aL => have := hA.out; omega); intro v1 w1 ho hb hg hat; obtain ⟨A1, c1, e1⟩ := Kd.R_slice ho; subst e1; have hO1 := Aside0.mk ((hG.out w1 _ _ ho hg).perm (List.Perm.swap _ _ _)); clear ho hb hg hat hc; have hc := (hO1.out.cell 0).trans rfl; have hz := hO1.out.frozen 0))
   go_roundg k1
   case measure => omega
   case rel =>
    refine ⟨i + 1, y / 256, l1 ++ [y % 256], by simp, rfl, ⟨?_⟩, ⟨?_⟩⟩
    ·
     obtain ⟨h0, h1, h2, h3, h4⟩ := hA.out
     refine ⟨by omega, by omega, by omega, by simp; omega, ?_⟩
     rw [h4]
     simp [nbytes]
    ·
     refine Sep.buf_close (v := .slice A1 (l1.length + 1) c1) ?_
     have := hO1.out.set 0 (.slice A1 (l1.length + 1) c1)
     simpa using this
  ·
   have hA' := hA.out
   obtain ⟨h0, h1, h2, h3, h4⟩ := hA'
   obtain rfl : gk = 0 := by omega
   have hd : decide ((i : Int) < (n : Int)) = false := decide_eq_false (by omega)
   rw [show nbytes 0 y = [] from rfl, List.append_nil] at h4
   go_wp2
   go_ret
   exact ⟨rfl, by rw [h4]; exact hS.out⟩
theorem buf_Byte (w0 w : World) (g : Nat) (l : List Int) (ps : List HP) (x : Int) (hs : Sep w0 w (buf g l :: ps)) (hx : 0 ≤ x) (hx' : x ≤ 255) (hl : l.length ≤ 1000000000000) :
  Calls Try.prog 66 #[.pointer (some ⟨g, 0, none⟩), .int .u8 x] w fun e w' => e = .returned (.pointer (some ⟨g, 0, none⟩)) ∧ Sep w0 w' (buf g (l ++ [x]) :: ps) := by
 have hS := Aside0.mk hs
 clear hs
 go_enter Try.func66, Try.ntmps66
 go_wp2_with (first | ((with_reducible refine gate_callee (f := 121) rfl ?_); refine goesL_ (some 8) rfl rfl Try.func121 (by kernel_rfl) rfl #[.pointer (some ⟨g, 0, none⟩), .int .u64 x, .int .i64 1] rfl (by (try simp only [List.map_toArray, List.map_cons, List.map_nil]); first | done | rfl) ?_; (with_reducible refine (buf_num w0 _ g l ps x 1 1 rfl hS.out hx (by omega) (by decide) hl).mono ?_); rintro e w1 ⟨rfl, h1⟩; refine ⟨_, rfl, ?_⟩; have hS1 := Aside0.mk h1; clear h1))
 go_ret
 have h2 := hS1.out
 rw [show nbytes 1 x = [x] by simp [nbytes]; omega] at h2
 exact ⟨rfl, h2⟩
theorem buf_Bytes (w0 w : World) (g : Nat) (l : List Int) (ps : List HP) (hs : Sep w0 w (buf g l :: ps)) (hl : l.length ≤ 1000000000000) :
  Calls Try.prog 61 #[.pointer (some ⟨g, 0, none⟩)] w fun e w' => ∃ v, e = .returned v ∧ Sep w0 w' (row (Kd.int .u8) 5 v l :: buf g l :: ps) := by
 obtain ⟨v, hO⟩ := Sep.buf_open hs
 obtain ⟨bs, hR⟩ := hO.tail.row_R
 obtain ⟨Av, cv, rfl⟩ := Kd.R_slice hR
 have hr := Kd.R_reads' hR
 have hS := Aside0.mk hs
 have hc : w.cell? ⟨g, 0, none⟩ = some (.slice Av l.length cv) := (hO.cell 0).trans rfl
 have hr := Aside0.mk hr
 clear hs hO hR
 go_enter Try.func61, Try.ntmps61
 go_wp2_with (first | ((with_reducible refine gate_callee (f := 111) rfl ?_); refine goesL_ (some 7) rfl rfl Try.func111 (by kernel_rfl) rfl #[.slice Av l.length cv] rfl (by (try simp only [List.map_toArray, List.map_cons, List.map_nil]); first | done | rfl) ?_; (with_reducible refine (G.bytes_Clone.calls Av cv l l _ hr.out.2.2 hr.out.2.1 (by unfold G.bytes_Clone.f; exact if_pos (by omega)) rfl).mono ?_); rintro e w1 ⟨v1, rfl, ho, hb⟩; refine ⟨_, rfl, ?_⟩; have hS1 := Aside0.mk (Sep.row_new hS.out hb ho); clear ho hb))
 go_ret
 exact ⟨_, rfl, hS1.out⟩
end Go.Proofs.Ytekanmieppnpeaa.Sep
namespace Go.Proofs.Ytekanmieppnpeaa.G
open Go Go.RowKit Go.Proofs.YtekanmieppnpeaaW.PrintWords Go.Proofs.YtekanmieppnpeaaW.PrintLast Go.Proofs.YtekanmieppnpeaaW.PrintMore Go.Proofs.Ytekanmieppnpeaa.PureKit Go.Proofs.Ytekanmieppnpeaa.Sep
theorem buf_Eight (w0 w : World) (g : Nat) (l : List Int) (ps : List HP) (x : Int) (hs : Sep.Sep w0 w (buf g l :: ps)) (hx : 0 ≤ x) (hx' : x < 18446744073709551616) (hl : l.length ≤ 1000000000000) :
  Calls Try.prog 59 #[.pointer (some ⟨g, 0, none⟩), .int .u64 x] w fun e w' => e = .returned (.pointer (some ⟨g, 0, none⟩)) ∧ Sep.Sep w0 w' (buf g (l ++ nbytes 8 x) :: ps) := by
 have hS := Aside0.mk hs
 clear hs
 go_enter Try.func59, Try.ntmps59
 go_wp2_with (first | ((with_reducible refine gate_callee (f := 121) rfl ?_); refine goesL_ (some 7) rfl rfl Try.func121 (by kernel_rfl) rfl #[.pointer (some ⟨g, 0, none⟩), .int .u64 x, .int .i64 8] rfl (by (try simp only [List.map_toArray, List.map_cons, List.map_nil]); first | done | rfl) ?_; (with_reducible refine (buf_num w0 _ g l ps x 8 8 rfl hS.out hx hx' (by decide) hl).mono ?_); rintro e w1 ⟨rfl, h1⟩; refine ⟨_, rfl, ?_⟩; have hS1 := Aside0.mk h1; clear h1))
 go_ret
 exact ⟨rfl, hS1.out⟩
end Go.Proofs.Ytekanmieppnpeaa.G
namespace Go.Proofs.Ytekanmieppnpeaa.Sep
open Go Go.RowKit Go.Proofs.YtekanmieppnpeaaW.PrintWords Go.Proofs.YtekanmieppnpeaaW.PrintLast Go.Proofs.YtekanmieppnpeaaW.PrintMore Go.Proofs.Ytekanmieppnpeaa.PureKit
def venc (x : Nat) : List Int := if x < 128 then [(x : Int)] else ((x % 128 + 128 : Nat) : Int) :: venc (x / 128)
theorem venc_small {x : Nat} (h : x < 128) : venc x = [(x : Int)] := by rw [venc, if_pos h]
theorem venc_big {x : Nat} (h : ¬ x < 128) : venc x = ((x % 128 + 128 : Nat) : Int) :: venc (x / 128) := by rw [venc, if_neg h]
theorem venc_len : ∀ (n x : Nat), x < 128 ^ n → 0 < n → (venc x).length ≤ n := by
 intro n
 induction n with
 | zero => intro x _ h; omega
 | succ n ih =>
  intro x hx _
  by_cases h : x < 128
  ·
   rw [venc_small h]; simp
  ·
   rw [venc_big h]
   have h1 : x / 128 < 128 ^ n := by rw [Nat.div_lt_iff_lt_mul (by omega), ← Nat.pow_succ]; exact hx
   have h2 : 0 < n := by
    rcases Nat.eq_zero_or_pos n with h0 | h0
    ·
     subst h0; simp at hx; omega
    ·
     exact h0
   have := ih (x / 128) h1 h2
   simp; omega
theorem or128_all : ∀ z : Fin 256, bits BinOp.or IntKind.u8 ((z.val : Nat) : Int) 128 = ((z.val % 128 + 128 : Nat) : Int) := by decide +kernel
theorem or128 (y : Nat) : bits BinOp.or IntKind.u8 ((y : Int) % 256) 128 = ((y % 128 + 128 : Nat) : Int) := by
 have h := or128_all ⟨y % 256, by omega⟩
 simp only at h
 rw [show ((y : Int) % 256) = ((y % 256 : Nat) : Int) by omega, h]
 congr 2
 omega
theorem varint_Put (w0 w : World) (g : Nat) (l : List Int) (ps : List HP) (x : Nat) (m : Int) (hm : m = x) (hs : Sep w0 w (buf g l :: ps)) (hx : x < 18446744073709551616) (hl : l.length ≤ 100000000000) :
  Calls Try.prog 67 #[.pointer (some ⟨g, 0, none⟩), .int .u64 m] w fun e w' => e = .returned (.tuple #[]) ∧ Sep w0 w' (buf g (l ++ venc x) :: ps) := by
 subst hm
 have hS := Aside0.mk hs
 clear hs
 go_enter Try.func67, Try.ntmps67
 go_wp2
 have hvl : (venc x).length ≤ 10 := venc_len 10 x (Nat.lt_of_lt_of_le hx (by decide)) (by decide)
 go_loopg [1] x (fun kq v1 w' => ∃ (y : Nat) (l1 : List Int), v1 = .int .u64 y ∧ Aside0 (y ≤ kq ∧ y < 18446744073709551616 ∧ l1.length ≤ l.length + 10 ∧ l ++ venc x = l1 ++ venc y) ∧ Aside0 (Sep w0 w' (buf g l1 :: ps)))
 case atStart => exact ⟨x, l, rfl, ⟨⟨Nat.le_refl _, hx, by omega, rfl⟩⟩, hS⟩
 case round =>
  obtain ⟨y, l1, rfl, hA, hS⟩ := hrel
  by_cases hy : y < 128
  ·
   have hd : decide ((y : Int) ≥ 128) = false := decide_eq_false (by omega)
   go_wp2_with (first | ((with_reducible refine gate_callee (f := 66) rfl ?_); refine goesL_ (some 16) rfl rfl Try.func66 (by kernel_rfl) rfl #[.pointer (some ⟨g, 0, none⟩), .int .u8 y] rfl (by (try simp only [List.map_toArray, List.map_cons, List.map_nil]); first | done | rfl) ?_; (with_reducible refine (buf_Byte w0 _ g l1 ps y hS.out (by omega) (by omega) (by have := hA.out; omega)).mono ?_); rintro e w1 ⟨rfl, h1⟩; refine ⟨_, rfl, ?_⟩; have hS1 := Aside0.mk h1; clear h1))
   go_end0
   refine ⟨rfl, ?_⟩
   have h4 := hA.out.2.2.2
   rw [venc_small hy] at h4
   rw [h4]; exact hS1.out
  ·
   have hd : decide ((y : Int) ≥ 128) = true := decide_eq_true (by omega)
   go_wp2_with (first | ((with_reducible refine gate_callee (f := 66) rfl ?_); refine goesL_ (some 10) rfl rfl Try.func66 (by kernel_rfl) rfl #[.pointer (some ⟨g, 0, none⟩), .int .u8 (bits BinOp.or IntKind.u8 ((y : Int) % 256) 128)] rfl (by (try simp only [List.map_toArray, List.map_cons, List.map_nil]); first | done | rfl) ?_; (with_reducible refine (buf_Byte w0 _ g l1 ps (bits BinOp.or IntKind.u8 ((y : Int) % 256) 128) hS.out (by rw [or128]; omega) (by rw [or128]; omega) (by have := hA.out; omega)).mono ?_); rintro e w1 ⟨rfl, h1⟩; refine ⟨_, rfl, ?_⟩; have hS1 := Aside0.mk h1; clear h1))
   go_roundg (gk - 1)
   case measure => have := hA.out; omega
   case rel =>
    refine ⟨y / 128, l1 ++ [((y % 128 + 128 : Nat) : Int)], by simp, ⟨?_⟩, ⟨?_⟩⟩
    ·
     obtain ⟨h0, h1, h2, h3⟩ := hA.out
     rw [venc_big hy] at h3
     have h5 : l ++ venc x = (l1 ++ [((y % 128 + 128 : Nat) : Int)]) ++ venc (y / 128) := by rw [h3]; simp
     refine ⟨by omega, by omega, ?_, h5⟩
     have := congrArg List.length h5
     simp only [List.length_append] at this ⊢
     omega
    ·
     have := hS1.out
     rw [or128] at this
     exact this
end Go.Proofs.Ytekanmieppnpeaa.Sep
namespace Go.Proofs.Ytekanmieppnpeaa.Sep
open Go Go.RowKit Go.Proofs.YtekanmieppnpeaaW.PrintWords Go.Proofs.YtekanmieppnpeaaW.PrintLast Go.Proofs.YtekanmieppnpeaaW.PrintMore Go.Proofs.Ytekanmieppnpeaa.PureKit
theorem str_row (w : World) (s : ByteArray) (cap : Nat) (e : TypeId) (n : Nat × Nat) (hs : s.size ≤ 9223372036854775807) :
  Kd.C (Kd.int .u8) (w.drew.alloc (.cells (bytesRow s cap) e n)) (some ⟨w.heap.size, 0, none⟩) (sby s).length (sby s) ∧ Below w.heap.size w (w.drew.alloc (.cells (bytesRow s cap) e n)) := by
 refine ⟨⟨rfl, by rw [sby_len]; exact hs, fun _ => ⟨_, rfl, fun j p hj => ⟨[.int .u8 p], rfl, rfl, fun i u hu => ?_⟩⟩⟩, below_alloc (below_drew (Below.refl _ _)) _⟩
 have hi : i = 0 := by
  rcases i with _ | i
  ·
   rfl
  ·
   simp at hu
 subst hi
 simp only [List.getElem?_cons_zero, Option.some.injEq] at hu
 subst hu
 have hb : (w.drew.alloc (.cells (bytesRow s cap) e n)).heap[w.heap.size]? = some (.cells (bytesRow s cap) e n) := by
  show (w.heap.push _)[w.heap.size]? = _
  simp
 have hl : j < (sby s).length := (List.getElem?_eq_some_iff.1 hj).1
 rw [sby_len] at hl
 have ha : (⟨w.heap.size, 0, none⟩ : Addr).add (j * 1 + 0) = ⟨w.heap.size, j, none⟩ := by unfold Addr.add; split <;> simp_all
 show World.cell? _ ((⟨w.heap.size, 0, none⟩ : Addr).add (j * 1 + 0)) = _
 rw [ha]
 simp only [World.cell?, hb]
 have h2 : (sby s)[j]? = some p := hj
 simp only [sby, List.getElem?_map, Option.map_eq_some_iff] at h2
 obtain ⟨b, hb2, rfl⟩ := h2
 have hb3 : s.data[j]? = some b := by rw [← Array.getElem?_toList]; exact hb2
 obtain ⟨hl3, hb4⟩ := Array.getElem?_eq_some_iff.1 hb3
 have hl2 : j < s.data.size := hl3
 simp [bytesRow, Array.getElem?_append, hl, hb4, hl2]
theorem buf_Raw (w0 w : World) (g : Nat) (l : List Int) (ps : List HP) (A : Option Addr) (n c : Nat) (xs : List Int) (hs : Sep w0 w (buf g l :: ps)) (hr : Kd.C (Kd.int .u8) w A xs.length xs) (hn : n = xs.length) (hl : l.length ≤ 1000000000000) (hx : xs.length ≤ 100000000000) :
  Calls Try.prog 58 #[.pointer (some ⟨g, 0, none⟩), .slice A n c] w fun e w' => e = .returned (.pointer (some ⟨g, 0, none⟩)) ∧ Sep w0 w' (buf g (l ++ xs) :: ps) := by
 subst hn
 have hS := Aside0.mk hs
 obtain ⟨v, hO⟩ := Sep.buf_open hs
 obtain ⟨bs, hR, hG⟩ := hO.tail.row_open
 obtain ⟨Av, cv, rfl⟩ := Kd.R_slice hR
 have hc : w.cell? ⟨g, 0, none⟩ = some (.slice Av l.length cv) := (hO.cell 0).trans rfl
 obtain ⟨bs, hR, hG⟩ := (hO.perm (List.Perm.swap _ _ _)).row_open
 have hR := Aside0.mk hR
 have hG := Aside0.mk hG
 have hO := Aside0.mk hO
 have hX := Aside0.mk hr
 clear hs hr
 go_enter Try.func58, Try.ntmps58
 go_wp2_with (first | ((with_reducible refine gate_builtin (b := .append) (xs := #[.tmp 9, .tmp 10]) rfl ?_); at_builtin; refine Kd.R_append_rows (Kd.int .u8) (w0 := w) 0 rfl (.tmp 9) (.tmp 10) 39 5 (.int .u8 0) 1 rfl Try.underlying39 (by kernel_rfl) rfl (by decide) (by decide) (.slice Av l.length cv) l xs A xs.length c (fun k => k ∈ bs ∨ w.heap.size ≤ k) (fun _ => False) rfl rfl ?aO ?aR (fun _ _ h => h) (fun _ h => h.elim) (fun _ h => .inr h) ?aB ?aS ?aL ?_; (case aO => exact Kd.R_mono hR.out (fun _ h => .inl h)); (case aR => exact hX.out); (case aB => exact Below.refl _ _); (case aS => exact Nat.zero_le _); (case aL => omega); intro v1 w1 ho hb hg hat; obtain ⟨A1, c1, e1⟩ := Kd.R_slice ho; subst e1; have hO1 := Aside0.mk ((hG.out w1 _ _ ho hg).perm (List.Perm.swap _ _ _)); clear ho hb hg hat hc; have hc := (hO1.out.cell 0).trans rfl; have hz := hO1.out.frozen 0))
 go_ret
 refine ⟨rfl, ?_⟩
 refine Sep.buf_close (v := .slice A1 (l ++ xs).length c1) ?_
 have := hO1.out.set 0 (.slice A1 (l ++ xs).length c1)
 simpa using this
end Go.Proofs.Ytekanmieppnpeaa.Sep
end
section
namespace Go.Proofs.Ytekanmieppnpeaa.Sep
open Go Go.RowKit Go.Proofs.YtekanmieppnpeaaW.PrintWords Go.Proofs.YtekanmieppnpeaaW.PrintLast Go.Proofs.YtekanmieppnpeaaW.PrintMore Go.Proofs.Ytekanmieppnpeaa.PureKit
theorem vtext_ok {l : List Int} {at_ lo hi : Nat} {s : ByteArray} {a2 : Nat} (hb : Bytes l) (hat : at_ ≤ l.length) (h : vtext l at_ lo hi = .ok s a2) : at_ ≤ a2 ∧ a2 ≤ l.length := by
 unfold vtext at h
 split at h
 ·
  cases h
 ·
  rename_i n a hv
  have := vget_ok hb hat hv
  split at h
  ·
   cases h
  ·
   split at h
   ·
    cases h
   ·
    split at h
    ·
     cases h; omega
    ·
     cases h
theorem vtext_bad {l : List Int} {at_ lo hi : Nat} {e : Int} {a2 : Nat} (hb : Bytes l) (hat : at_ ≤ l.length) (h : vtext l at_ lo hi = .bad e a2) : e ≠ 0 ∧ at_ ≤ a2 ∧ a2 ≤ l.length := by
 unfold vtext at h
 split at h
 ·
  rename_i e' a' hv
  have := vget_bad hb hat hv
  cases h
  exact this
 ·
  rename_i n a hv
  have := vget_ok hb hat hv
  split at h
  ·
   cases h; exact ⟨by decide, this.2.2.1, this.2.2.2⟩
  ·
   split at h
   ·
    cases h; exact ⟨by decide, this.2.2.1, this.2.2.2⟩
   ·
    split at h
    ·
     cases h
    ·
     cases h; exact ⟨by decide, this.2.2.1, this.2.2.2⟩
def rread2 (l : List Int) (d : Bool) (s : Int) (k v : ByteArray) (a : Nat) : Res (Bool × Int × ByteArray × ByteArray) :=
 if a < l.length then .bad 3 a else .ok (d, s, k, v) a
def rread1 (l : List Int) (d : Bool) (s : Int) (k : ByteArray) (a : Nat) : Res (Bool × Int × ByteArray × ByteArray) :=
 if d = true then rread2 l d s k ⟨#[]⟩ a else match vtext l a 0 1048576 with
  | .bad e a => .bad e a
  | .ok v a => rread2 l d s k v a
def rread (l : List Int) : Res (Bool × Int × ByteArray × ByteArray) :=
 match l with
 | [] => .bad 2 0
 | b :: _ => if b ≠ 2 ∧ b ≠ 3 then .bad 4 1 else match vget l 1 with
  | .bad e a => .bad e a
  | .ok s a => match vtext l a 1 4096 with
   | .bad e a => .bad e a
   | .ok k a => rread1 l (b == 3) s k a
def rpost (w0 : World) (g gr : Nat) (l : List Int) (ps : List HP) (r : Res (Bool × Int × ByteArray × ByteArray)) (e : Ending) (w2 : World) : Prop :=
 ∃ (at2 : Nat) (x : Int) (qs : List HP), (∃ d s k v, qs = [blk gr #[.bool d, .int .u64 s, .string k, .string v] 59] ∧ match r with | .ok y a => x = 0 ∧ at2 = a ∧ (d, s, k, v) = y | .bad er a => x = er ∧ at2 = a) ∧
  Sep w0 w2 (cur g l at2 true :: (qs ++ ps)) ∧ ((e = .returned (.tuple #[]) ∧ x = 0) ∨ e = .panicked [fault g x])
theorem record_Read1 (w0 w : World) (g gr : Nat) (l : List Int) (ps : List HP) (hs : Sep w0 w (cur g l 0 true :: blk gr #[.bool false, .int .u64 0, .string ⟨#[]⟩, .string ⟨#[]⟩] 59 :: ps)) (hb : Bytes l) (hl : l.length ≤ 1000000000000) :
  Calls Try.prog 129 #[.pointer (some ⟨g, 0, none⟩), .pointer (some ⟨gr, 0, none⟩)] w fun e w2 => rpost w0 g gr l ps (rread l) e w2 := by
 have hS := Aside0.mk hs
 clear hs
 have hu44 := Try.underlying59
 by_cases hl0 : l = []
 ·
  subst hl0
  go_enter Try.func129, Try.ntmps129
  go_wp2_with (fail)
  refine (cur_Byte_short w0 _ g 0 [] _ hS.out hl rfl).mono ?_
  rintro e w1 ⟨rfl, h1⟩
  exact ⟨rfl, 0, 2, _, ⟨_, _, _, _, rfl, rfl, rfl⟩, h1, .inr rfl⟩
 obtain ⟨b, l', hll⟩ : ∃ b l', l = b :: l' := by
  rcases l with _ | ⟨b, l'⟩
  ·
   exact absurd rfl hl0
  ·
   exact ⟨b, l', rfl⟩
 have hbb : 0 ≤ b ∧ b ≤ 255 := by rw [hll] at hb; exact hb.head
 have hpos : 0 < l.length := by rw [hll]; simp
 have hget : l[0] = b := by subst hll; rfl
 have hv0 : rread l = if b ≠ 2 ∧ b ≠ 3 then .bad 4 1 else match vget l 1 with
  | .bad e a => .bad e a
  | .ok s a => match vtext l a 1 4096 with
   | .bad e a => .bad e a
   | .ok k a => rread1 l (b == 3) s k a := by rw [hll]; rfl
 clear hll hl0
 by_cases c1 : b ≠ 2 ∧ b ≠ 3
 ·
  rw [if_pos c1] at hv0
  have hv := Aside0.mk hv0
  have hgetA := Aside0.mk hget
  clear hv0 hget
  have e2 : (b != 2) = true := bne_iff_ne.2 c1.1
  have e3 : (b != 3) = true := bne_iff_ne.2 c1.2
  go_enter Try.func129, Try.ntmps129
  go_wp2_with (first | ((with_reducible refine gate_callee (f := 70) rfl ?_); refine goesL_ (some 5) rfl rfl Try.func70 (by kernel_rfl) rfl #[.pointer (some ⟨g, 0, none⟩)] rfl (by (try simp only [List.map_toArray, List.map_cons, List.map_nil]); first | done | rfl) ?_; (with_reducible refine (cur_Byte_some w0 _ g 0 l _ hS.out hb hl hpos).mono ?_); rintro e w1 ⟨rfl, h1⟩; refine ⟨_, rfl, ?_⟩; rw [hgetA.out]; have hS1 := Aside0.mk h1; clear h1))
  refine (cur_Fail w0 _ g 1 l _ 4 hS1.out (by decide)).mono ?_
  rintro e w2 ⟨rfl, h2⟩
  refine ⟨rfl, 1, 4, _, ⟨_, _, _, _, rfl, ?_⟩, h2, .inr rfl⟩
  rw [hv.out]
  exact ⟨rfl, rfl⟩
 rw [if_neg c1] at hv0
 obtain ⟨d, hd⟩ : ∃ d, (b == 3) = d := ⟨_, rfl⟩
 rw [hd] at hv0
 have hv := Aside0.mk hv0
 have hgetA := Aside0.mk hget
 clear hv0 hget
 have e2 : (b != 2) = d := by
  cases d
  ·
   have : b ≠ 3 := by simpa using hd
   have : b = 2 := by omega
   subst this
   rfl
  ·
   have : b = 3 := by simpa using hd
   subst this
   rfl
 have e3 : (b != 3) = !d := by rw [← hd]; rfl
 clear c1
 cases d
 ·
  go_enter Try.func129, Try.ntmps129
  go_wp2_with (fail)
  refine (cur_Byte_some w0 _ g 0 l _ hS.out hb hl hpos).mono ?_
  rintro e w1 ⟨rfl, h1⟩
  rw [hgetA.out]
  clear hS
  have hc1_0 : w1.cell? ⟨gr, 0, none⟩ = some (.bool false) := ((h1.pick1).cell 0).trans rfl; have hc1_1 : w1.cell? ⟨gr, 1, none⟩ = some (.int .u64 0) := ((h1.pick1).cell 1).trans rfl; have hc1_2 : w1.cell? ⟨gr, 2, none⟩ = some (.string ⟨#[]⟩) := ((h1.pick1).cell 2).trans rfl; have hc1_3 : w1.cell? ⟨gr, 3, none⟩ = some (.string ⟨#[]⟩) := ((h1.pick1).cell 3).trans rfl
  have hz1 := h1.pick1.frozen 0
  have hS1 : Sep w0 (w1.setCell ⟨gr, 0, none⟩ (.bool false)) (cur g l 1 true :: blk gr #[.bool false, .int .u64 0, .string ⟨#[]⟩, .string ⟨#[]⟩] 59 :: ps) := by
   have := (h1.pick1.set 0 (.bool false)).put1
   simpa using this
  have hS1A := Aside0.mk hS1
  clear h1 hS1
  go_wp2_with (fail)
  clear hc1_0 hc1_1 hc1_2 hc1_3 hz1
  refine (varint_Get w0 _ g 1 l _ hS1A.out hb (by omega) hl).mono ?_
  clear hS1A
  intro e w2 h2
  cases hg1 : vget l 1 with
  | bad er a =>
   rw [hg1] at h2
   obtain ⟨rfl, h2⟩ := h2
   refine ⟨rfl, a, er, _, ⟨_, _, _, _, rfl, ?_⟩, h2, .inr rfl⟩
   rw [hv.out, hg1]
   exact ⟨rfl, rfl⟩
  | ok s a =>
  have hok := vget_ok hb (by omega) hg1
  rw [hg1] at h2
  obtain ⟨rfl, h2⟩ := h2
  have hg1 := Aside0.mk hg1
  have hc2_0 : w2.cell? ⟨gr, 0, none⟩ = some (.bool false) := ((h2.pick1).cell 0).trans rfl; have hc2_1 : w2.cell? ⟨gr, 1, none⟩ = some (.int .u64 0) := ((h2.pick1).cell 1).trans rfl; have hc2_2 : w2.cell? ⟨gr, 2, none⟩ = some (.string ⟨#[]⟩) := ((h2.pick1).cell 2).trans rfl; have hc2_3 : w2.cell? ⟨gr, 3, none⟩ = some (.string ⟨#[]⟩) := ((h2.pick1).cell 3).trans rfl
  have hz2 := h2.pick1.frozen 1
  have hS2 : Sep w0 (w2.setCell ⟨gr, 1, none⟩ (.int .u64 s)) (cur g l a true :: blk gr #[.bool false, .int .u64 s, .string ⟨#[]⟩, .string ⟨#[]⟩] 59 :: ps) := by
   have := (h2.pick1.set 1 (.int .u64 s)).put1
   simpa using this
  have hS2A := Aside0.mk hS2
  clear h2 hS2
  go_wp2_with (fail)
  clear hc2_0 hc2_1 hc2_2 hc2_3 hz2
  refine (varint_GetText w0 _ g a l _ 1 4096 1 4096 rfl rfl hS2A.out hb hok.2.2.2 hl (by decide) (by decide)).mono ?_
  clear hS2A
  rintro e w3 ⟨ps1, hdrop, h3⟩
  cases hg2 : vtext l a 1 4096 with
  | bad er a2 =>
   rw [hg2] at h3
   obtain ⟨rfl, h3⟩ := h3
   have h3 := (h3.pickR0 ps1)
   refine ⟨rfl, a2, er, _, ⟨_, _, _, _, rfl, ?_⟩, h3, .inr rfl⟩
   rw [hv.out, hg1.out]
   simp [hg2]
  | ok k a2 =>
  have hok2 := vtext_ok hb hok.2.2.2 hg2
  rw [hg2] at h3
  obtain ⟨rfl, h3⟩ := h3
  have h3 := (h3.pickR0 ps1)
  clear hdrop
  have hg2 := Aside0.mk hg2
  have hc3_0 : w3.cell? ⟨gr, 0, none⟩ = some (.bool false) := ((h3.pick1).cell 0).trans rfl; have hc3_1 : w3.cell? ⟨gr, 1, none⟩ = some (.int .u64 s) := ((h3.pick1).cell 1).trans rfl; have hc3_2 : w3.cell? ⟨gr, 2, none⟩ = some (.string ⟨#[]⟩) := ((h3.pick1).cell 2).trans rfl; have hc3_3 : w3.cell? ⟨gr, 3, none⟩ = some (.string ⟨#[]⟩) := ((h3.pick1).cell 3).trans rfl
  have hz3 := h3.pick1.frozen 2
  have hS3 : Sep w0 (w3.setCell ⟨gr, 2, none⟩ (.string k)) (cur g l a2 true :: blk gr #[.bool false, .int .u64 s, .string k, .string ⟨#[]⟩] 59 :: ps) := by
   have := (h3.pick1.set 2 (.string k)).put1
   simpa using this
  have hc4 : (w3.setCell ⟨gr, 2, none⟩ (.string k)).cell? ⟨gr, 0, none⟩ = some (.bool false) := ((hS3.pick1).cell 0).trans rfl
  have hS3A := Aside0.mk hS3
  clear h3 hS3
  go_wp2_with (fail)
  clear hc3_0 hc3_1 hc3_2 hc3_3 hz3 hc4
  have hvr : rread l = rread1 l false s k a2 := by
   rw [hv.out, hg1.out]
   simp only [hg2.out]
  clear hg1 hg2
  generalize w3.setCell ⟨gr, 2, none⟩ (.string k) = w4 at hS3A ⊢
  refine (varint_GetText w0 _ g a2 l _ 0 1048576 0 1048576 rfl rfl hS3A.out hb hok2.2 hl (by decide) (by decide)).mono ?_
  clear hS3A
  rintro e w5 ⟨ps1, hdrop, h5⟩
  cases hg3 : vtext l a2 0 1048576 with
  | bad er a3 =>
   rw [hg3] at h5
   obtain ⟨rfl, h5⟩ := h5
   have h5 := (h5.pickR0 ps1)
   refine ⟨rfl, a3, er, _, ⟨_, _, _, _, rfl, ?_⟩, h5, .inr rfl⟩
   rw [hvr, rread1, if_neg (by decide), hg3]
   exact ⟨rfl, rfl⟩
  | ok v a3 =>
  have hok3 := vtext_ok hb hok2.2 hg3
  rw [hg3] at h5
  obtain ⟨rfl, h5⟩ := h5
  have h5 := (h5.pickR0 ps1)
  clear hdrop
  have hvr2 : rread l = rread2 l false s k v a3 := by
   rw [hvr, rread1, if_neg (by decide), hg3]
  clear hg3 hvr
  have hc5_0 : w5.cell? ⟨gr, 0, none⟩ = some (.bool false) := ((h5.pick1).cell 0).trans rfl; have hc5_1 : w5.cell? ⟨gr, 1, none⟩ = some (.int .u64 s) := ((h5.pick1).cell 1).trans rfl; have hc5_2 : w5.cell? ⟨gr, 2, none⟩ = some (.string k) := ((h5.pick1).cell 2).trans rfl; have hc5_3 : w5.cell? ⟨gr, 3, none⟩ = some (.string ⟨#[]⟩) := ((h5.pick1).cell 3).trans rfl
  have hz5 := h5.pick1.frozen 3
  have hS5 : Sep w0 (w5.setCell ⟨gr, 3, none⟩ (.string v)) (cur g l a3 true :: blk gr #[.bool false, .int .u64 s, .string k, .string v] 59 :: ps) := by
   have := (h5.pick1.set 3 (.string v)).put1
   simpa using this
  have hS5A := Aside0.mk hS5
  clear h5 hS5
  go_wp2_with (fail)
  generalize w5.setCell ⟨gr, 3, none⟩ (.string v) = w6 at hS5A ⊢
  by_cases hend : a3 < l.length
  ·
   refine (cur_End_long w0 _ g a3 l _ hS5A.out hend hl).mono ?_
   rintro e w7 ⟨rfl, h7⟩
   refine ⟨rfl, a3, 3, _, ⟨_, _, _, _, rfl, ?_⟩, h7, .inr rfl⟩
   rw [hvr2, rread2, if_pos hend]
   exact ⟨rfl, rfl⟩
  ·
   refine (cur_End_ok w0 _ g a3 l _ hS5A.out (by omega) hl).mono ?_
   rintro e w7 ⟨rfl, h7⟩
   have h7A := Aside0.mk h7
   clear h7
   go_wp2
   go_end0
   refine ⟨a3, 0, _, ⟨_, _, _, _, rfl, ?_⟩, h7A.out, .inl ⟨rfl, rfl⟩⟩
   rw [hvr2, rread2, if_neg hend]
   exact ⟨rfl, rfl, rfl⟩
 ·
  go_enter Try.func129, Try.ntmps129
  go_wp2_with (fail)
  refine (cur_Byte_some w0 _ g 0 l _ hS.out hb hl hpos).mono ?_
  rintro e w1 ⟨rfl, h1⟩
  rw [hgetA.out]
  clear hS
  have hc1_0 : w1.cell? ⟨gr, 0, none⟩ = some (.bool false) := ((h1.pick1).cell 0).trans rfl; have hc1_1 : w1.cell? ⟨gr, 1, none⟩ = some (.int .u64 0) := ((h1.pick1).cell 1).trans rfl; have hc1_2 : w1.cell? ⟨gr, 2, none⟩ = some (.string ⟨#[]⟩) := ((h1.pick1).cell 2).trans rfl; have hc1_3 : w1.cell? ⟨gr, 3, none⟩ = some (.string ⟨#[]⟩) := ((h1.pick1).cell 3).trans rfl
  have hz1 := h1.pick1.frozen 0
  have hS1 : Sep w0 (w1.setCell ⟨gr, 0, none⟩ (.bool true)) (cur g l 1 true :: blk gr #[.bool true, .int .u64 0, .string ⟨#[]⟩, .string ⟨#[]⟩] 59 :: ps) := by
   have := (h1.pick1.set 0 (.bool true)).put1
   simpa using this
  have hS1A := Aside0.mk hS1
  clear h1 hS1
  go_wp2_with (fail)
  clear hc1_0 hc1_1 hc1_2 hc1_3 hz1
  refine (varint_Get w0 _ g 1 l _ hS1A.out hb (by omega) hl).mono ?_
  clear hS1A
  intro e w2 h2
  cases hg1 : vget l 1 with
  | bad er a =>
   rw [hg1] at h2
   obtain ⟨rfl, h2⟩ := h2
   refine ⟨rfl, a, er, _, ⟨_, _, _, _, rfl, ?_⟩, h2, .inr rfl⟩
   rw [hv.out, hg1]
   exact ⟨rfl, rfl⟩
  | ok s a =>
  have hok := vget_ok hb (by omega) hg1
  rw [hg1] at h2
  obtain ⟨rfl, h2⟩ := h2
  have hg1 := Aside0.mk hg1
  have hc2_0 : w2.cell? ⟨gr, 0, none⟩ = some (.bool true) := ((h2.pick1).cell 0).trans rfl; have hc2_1 : w2.cell? ⟨gr, 1, none⟩ = some (.int .u64 0) := ((h2.pick1).cell 1).trans rfl; have hc2_2 : w2.cell? ⟨gr, 2, none⟩ = some (.string ⟨#[]⟩) := ((h2.pick1).cell 2).trans rfl; have hc2_3 : w2.cell? ⟨gr, 3, none⟩ = some (.string ⟨#[]⟩) := ((h2.pick1).cell 3).trans rfl
  have hz2 := h2.pick1.frozen 1
  have hS2 : Sep w0 (w2.setCell ⟨gr, 1, none⟩ (.int .u64 s)) (cur g l a true :: blk gr #[.bool true, .int .u64 s, .string ⟨#[]⟩, .string ⟨#[]⟩] 59 :: ps) := by
   have := (h2.pick1.set 1 (.int .u64 s)).put1
   simpa using this
  have hS2A := Aside0.mk hS2
  clear h2 hS2
  go_wp2_with (fail)
  clear hc2_0 hc2_1 hc2_2 hc2_3 hz2
  refine (varint_GetText w0 _ g a l _ 1 4096 1 4096 rfl rfl hS2A.out hb hok.2.2.2 hl (by decide) (by decide)).mono ?_
  clear hS2A
  rintro e w3 ⟨ps1, hdrop, h3⟩
  cases hg2 : vtext l a 1 4096 with
  | bad er a2 =>
   rw [hg2] at h3
   obtain ⟨rfl, h3⟩ := h3
   have h3 := (h3.pickR0 ps1)
   refine ⟨rfl, a2, er, _, ⟨_, _, _, _, rfl, ?_⟩, h3, .inr rfl⟩
   rw [hv.out, hg1.out]
   simp [hg2]
  | ok k a2 =>
  have hok2 := vtext_ok hb hok.2.2.2 hg2
  rw [hg2] at h3
  obtain ⟨rfl, h3⟩ := h3
  have h3 := (h3.pickR0 ps1)
  clear hdrop
  have hg2 := Aside0.mk hg2
  have hc3_0 : w3.cell? ⟨gr, 0, none⟩ = some (.bool true) := ((h3.pick1).cell 0).trans rfl; have hc3_1 : w3.cell? ⟨gr, 1, none⟩ = some (.int .u64 s) := ((h3.pick1).cell 1).trans rfl; have hc3_2 : w3.cell? ⟨gr, 2, none⟩ = some (.string ⟨#[]⟩) := ((h3.pick1).cell 2).trans rfl; have hc3_3 : w3.cell? ⟨gr, 3, none⟩ = some (.string ⟨#[]⟩) := ((h3.pick1).cell 3).trans rfl
  have hz3 := h3.pick1.frozen 2
  have hS3 : Sep w0 (w3.setCell ⟨gr, 2, none⟩ (.string k)) (cur g l a2 true :: blk gr #[.bool true, .int .u64 s, .string k, .string ⟨#[]⟩] 59 :: ps) := by
   have := (h3.pick1.set 2 (.string k)).put1
   simpa using this
  have hc4 : (w3.setCell ⟨gr, 2, none⟩ (.string k)).cell? ⟨gr, 0, none⟩ = some (.bool true) := ((hS3.pick1).cell 0).trans rfl
  have hS3A := Aside0.mk hS3
  clear h3 hS3
  go_wp2_with (fail)
  clear hc3_0 hc3_1 hc3_2 hc3_3 hz3 hc4
  have hvr : rread l = rread1 l true s k a2 := by
   rw [hv.out, hg1.out]
   simp only [hg2.out]
  clear hg1 hg2
  generalize w3.setCell ⟨gr, 2, none⟩ (.string k) = w4 at hS3A ⊢
  have hvr2 : rread l = rread2 l true s k ⟨#[]⟩ a2 := by
   rw [hvr, rread1, if_pos rfl]
  clear hvr
  by_cases hend : a2 < l.length
  ·
   refine (cur_End_long w0 _ g a2 l _ hS3A.out hend hl).mono ?_
   rintro e w7 ⟨rfl, h7⟩
   refine ⟨rfl, a2, 3, _, ⟨_, _, _, _, rfl, ?_⟩, h7, .inr rfl⟩
   rw [hvr2, rread2, if_pos hend]
   exact ⟨rfl, rfl⟩
  ·
   refine (cur_End_ok w0 _ g a2 l _ hS3A.out (by omega) hl).mono ?_
   rintro e w7 ⟨rfl, h7⟩
   have h7A := Aside0.mk h7
   clear h7
   go_wp2
   go_end0
   refine ⟨a2, 0, _, ⟨_, _, _, _, rfl, ?_⟩, h7A.out, .inl ⟨rfl, rfl⟩⟩
   rw [hvr2, rread2, if_neg hend]
   exact ⟨rfl, rfl, rfl⟩
end Go.Proofs.Ytekanmieppnpeaa.Sep
namespace Go.Proofs.Ytekanmieppnpeaa.G
open Go Go.RowKit Go.Proofs.YtekanmieppnpeaaW.PrintWords Go.Proofs.YtekanmieppnpeaaW.PrintLast Go.Proofs.YtekanmieppnpeaaW.PrintMore Go.Proofs.Ytekanmieppnpeaa.PureKit Go.Proofs.Ytekanmieppnpeaa.Sep
def bytesb (l : List Int) : Bool := l.all fun x => decide (0 ≤ x ∧ x ≤ 255)
theorem bytesb_iff (l : List Int) : bytesb l = true ↔ Bytes l := by
 unfold bytesb
 rw [List.all_eq_true]
 exact ⟨fun h x hx => of_decide_eq_true (h x hx), fun h x hx => decide_eq_true (h x hx)⟩
def rout (r : Res (Bool × Int × ByteArray × ByteArray)) : Bool × Int × ByteArray × ByteArray × Int :=
 match r with
 | .ok (d, s, k, v) _ => (d, s, k, v, 0)
 | .bad e _ => (false, 0, ⟨#[]⟩, ⟨#[]⟩, e)
def record_Read.f (l0 : List Int) : Option (Bool × Int × ByteArray × ByteArray × Int) := if bytesb l0 = true ∧ l0.length ≤ 1000000000000 then some (rout (rread l0)) else none
theorem rread_bad {l : List Int} {e : Int} {a : Nat} (hb : Bytes l) (h : rread l = .bad e a) : e ≠ 0 := by
 rcases l with _ | ⟨b, l'⟩
 ·
  cases h; decide
 have hpos : 1 ≤ (b :: l').length := by simp
 generalize hll : b :: l' = l at *
 have hv0 : rread l = if b ≠ 2 ∧ b ≠ 3 then .bad 4 1 else match vget l 1 with
  | .bad e a => .bad e a
  | .ok s a => match vtext l a 1 4096 with
   | .bad e a => .bad e a
   | .ok k a => rread1 l (b == 3) s k a := by rw [← hll]; rfl
 rw [hv0] at h
 have h2 : ∀ d s k v a, rread2 l d s k v a = .bad e a → e ≠ 0 := fun d s k v a h => by
  unfold rread2 at h
  split at h
  ·
   cases h; decide
  ·
   cases h
 have h2' : ∀ d s k v a a', rread2 l d s k v a = .bad e a' → e ≠ 0 := fun d s k v a a' h => by
  unfold rread2 at h
  split at h
  ·
   cases h; decide
  ·
   cases h
 split at h
 ·
  cases h; decide
 cases hg1 : vget l 1 with
 | bad er a1 => rw [hg1] at h; cases h; exact (vget_bad hb hpos hg1).1
 | ok s a1 =>
 have hok := vget_ok hb hpos hg1
 rw [hg1] at h
 simp only [] at h
 cases hg2 : vtext l a1 1 4096 with
 | bad er a2 => rw [hg2] at h; cases h; exact (vtext_bad hb hok.2.2.2 hg2).1
 | ok k a2 =>
 have hok2 := vtext_ok hb hok.2.2.2 hg2
 rw [hg2] at h
 simp only [] at h
 unfold rread1 at h
 split at h
 ·
  exact h2' _ _ _ _ _ _ h
 cases hg3 : vtext l a2 0 1048576 with
 | bad er a3 => rw [hg3] at h; cases h; exact (vtext_bad hb hok2.2 hg3).1
 | ok v a3 => rw [hg3] at h; exact h2' _ _ _ _ _ _ h
theorem record_Read.calls (A0 : Option Addr) (c0 : Nat) (l0 : List Int) (r1 : Bool) (r2 : Int) (r3 r4 : ByteArray) (r5 : Int) (w : World) (hr0 : Kd.C (Kd.int .u8) w A0 l0.length l0) (hc0 : l0.length ≤ c0) (h : record_Read.f l0 = some (r1, r2, r3, r4, r5)) :
  Calls Try.prog 79 #[.slice A0 l0.length c0] w fun e w' => e = .returned (.tuple #[.agg #[.bool r1, .int .u64 r2, .string r3, .string r4], .int .i64 r5]) ∧ Below w.heap.size w w' := by
 have hu44 := Try.underlying59
 obtain ⟨hb, hl, hro⟩ : Bytes l0 ∧ l0.length ≤ 1000000000000 ∧ rout (rread l0) = (r1, r2, r3, r4, r5) := by
  unfold record_Read.f at h
  split at h
  ·
   rename_i hh
   exact ⟨(bytesb_iff l0).1 hh.1, hh.2, Option.some.inj h⟩
  ·
   cases h
 clear h
 have hsz : ∀ (W : World) (o : Obj), (W.alloc o).heap.size = W.heap.size + 1 := fun W o => by show (W.heap.push _).size = _; simp
 have hS := ((Sep.start w).alloc #[.bool false, .int .u64 0, .string ⟨#[]⟩, .string ⟨#[]⟩] 59).alloc #[.bool false, .int .u64 0, .string ⟨#[]⟩, .string ⟨#[]⟩] 59
 rw [hsz] at hS
 have hS := Aside0.mk hS
 have hR := Aside0.mk hr0
 clear hr0
 have hmf : ∀ (fn : Fn) (first cap : Array Value) (w : World), (Instr.makeFunc fn first cap).run Try.prog w = .ok (.func fn first cap) w := fun _ _ _ _ => rfl
 go_enter Try.func79, Try.ntmps79
 go_wp2_with (fail)
 refine (run_calls w _ A0 c0 l0 129 #[.pointer (some ⟨w.heap.size + 1, 0, none⟩)] [blk (w.heap.size + 1) #[.bool false, .int .u64 0, .string ⟨#[]⟩, .string ⟨#[]⟩] 59] [blk w.heap.size #[.bool false, .int .u64 0, .string ⟨#[]⟩, .string ⟨#[]⟩] 59]
  (fun at2 x qs => ∃ d s k v, qs = [blk (w.heap.size + 1) #[.bool d, .int .u64 s, .string k, .string v] 59] ∧ match rread l0 with | .ok y a => x = 0 ∧ at2 = a ∧ (d, s, k, v) = y | .bad er a => x = er ∧ at2 = a)
  Try.call129 hS.out (Kd.C_alloc (Kd.C_alloc hR.out _) _) hc0 hl (fun w1 g ps' h1 => record_Read1 w w1 g (w.heap.size + 1) l0 ps' h1 hb hl)).mono ?_
 rintro e w2 ⟨at2, x, qs, ⟨d, s, k, v, rfl, hm⟩, rfl, h2⟩
 have h2A := Aside0.mk h2
 have hc2_0 : w2.cell? ⟨(w.heap.size + 1), 0, none⟩ = some (.bool d) := ((h2).cell 0).trans rfl; have hc2_1 : w2.cell? ⟨(w.heap.size + 1), 1, none⟩ = some (.int .u64 s) := ((h2).cell 1).trans rfl; have hc2_2 : w2.cell? ⟨(w.heap.size + 1), 2, none⟩ = some (.string k) := ((h2).cell 2).trans rfl; have hc2_3 : w2.cell? ⟨(w.heap.size + 1), 3, none⟩ = some (.string v) := ((h2).cell 3).trans rfl
 have hd2_0 : w2.cell? ⟨w.heap.size, 0, none⟩ = some (.bool false) := ((h2.pick1).cell 0).trans rfl; have hd2_1 : w2.cell? ⟨w.heap.size, 1, none⟩ = some (.int .u64 0) := ((h2.pick1).cell 1).trans rfl; have hd2_2 : w2.cell? ⟨w.heap.size, 2, none⟩ = some (.string ⟨#[]⟩) := ((h2.pick1).cell 2).trans rfl; have hd2_3 : w2.cell? ⟨w.heap.size, 3, none⟩ = some (.string ⟨#[]⟩) := ((h2.pick1).cell 3).trans rfl
 have hz0 := h2.pick1.frozen 0
 have hz1 := h2.pick1.frozen 1
 have hz2 := h2.pick1.frozen 2
 have hz3 := h2.pick1.frozen 3
 clear h2 hS hR
 cases hrr : rread l0 with
 | bad er a =>
  rw [hrr] at hm hro
  obtain ⟨rfl, rfl⟩ := hm
  have hx := rread_bad hb hrr
  have e1 : (x != 0) = true := bne_iff_ne.2 hx
  clear hrr
  go_wp2
  have h3 := ((((h2A.out.pick1.set 0 (.bool false)).set 1 (.int .u64 0)).set 2 (.string ⟨#[]⟩)).set 3 (.string ⟨#[]⟩))
  simp only [List.setIfInBounds_toArray, List.set_cons_zero, List.set_cons_succ] at h3
  try simp only [Exit.inBlock, Exit.then]
  refine bodyPost_ret (results_ct (P := Try.prog) Try.results79 _ _ w.heap.size 59 _ (0, 0) _ rfl h3.blk_at.1 hu44 rfl (by kernel_rfl)) rfl ?_
  refine ⟨?_, h3.1⟩
  cases hro
  rfl
 | ok y a =>
  rw [hrr] at hm hro
  obtain ⟨rfl, rfl, rfl⟩ := hm
  clear hrr
  go_wp2
  have h3 := ((((h2A.out.pick1.set 0 (.bool d)).set 1 (.int .u64 s)).set 2 (.string k)).set 3 (.string v))
  simp only [List.setIfInBounds_toArray, List.set_cons_zero, List.set_cons_succ] at h3
  try simp only [Exit.inBlock, Exit.then]
  refine bodyPost_ret (results_ct (P := Try.prog) Try.results79 _ _ w.heap.size 59 _ (0, 0) _ rfl h3.blk_at.1 hu44 rfl (by kernel_rfl)) rfl ?_
  refine ⟨?_, h3.1⟩
  cases hro
  rfl
end Go.Proofs.Ytekanmieppnpeaa.G
end
section
namespace Go.Proofs.Ytekanmieppnpeaa.G
open Go.RowKit Go.Proofs.YtekanmieppnpeaaW.PrintWords Go.Proofs.YtekanmieppnpeaaW.PrintLast Go.Proofs.YtekanmieppnpeaaW.PrintMore
attribute [local go_sem] max2_int min2_int max_two min_two max_three min_three max_four min_four
theorem C_cells {k : IntKind} {w : World} {ad : Addr} {l : List Int} (h : Kd.C (Kd.int k) w (some ad) l.length l) (i : Nat) (hi : i < l.length) : w.cell? (ad.add i) = some (.int k (l.getD i 0)) := by
 obtain ⟨_, _, h3⟩ := h
 obtain ⟨ad', e, h4⟩ := h3 (by omega)
 cases e
 obtain ⟨c, hc1, hc2, hc3⟩ := h4 i _ (List.getElem?_eq_getElem hi)
 have hc2' : c = [Value.int k l[i]] := hc2
 subst hc2'
 have := hc3 0 _ rfl
 rw [show ad.add (i * (Kd.int k).sz + 0) = ad.add i from by simp [Kd.int, Kd.scalar]] at this
 rw [this, List.getD_eq_getElem?_getD, List.getElem?_eq_getElem hi]; rfl
theorem run_indexByteAt {P : Program} {w : World} {ad : Addr} {l : List Int} (c : Nat) (h : Kd.C (Kd.int .u8) w (some ad) l.length l) (cv : Int) :
  (Extern.BytealgIndexByte.indexByte #[.slice (some ad) l.length c, .int .u8 cv]).run P w = .ok (.int .i64 (Lib.indexByte (Lib.bytesOf l) cv.toNat.toUInt8)) w := by
 have hl := Lib.run_loadBytesX (P := P) w l ad .empty (fun j x hj => by
  have hjl : j < l.length := (List.getElem?_eq_some_iff.1 hj).1
  rw [C_cells h j hjl, List.getD_eq_getElem?_getD, hj]; rfl)
 have hs := Lib.run_indexByteString (P := P) ⟨(Lib.bytesOf l).toArray⟩ cv w
 have he : (⟨ByteArray.empty.data ++ (Lib.bytesOf l).toArray⟩ : ByteArray) = ⟨(Lib.bytesOf l).toArray⟩ := by
  apply ByteArray.ext
  show (#[] : Array UInt8) ++ (Lib.bytesOf l).toArray = (Lib.bytesOf l).toArray
  simp
 rw [he] at hl
 change Sem.run P (do
  let b ← Extern.Bytes.bytesOf (.slice (some ad) l.length c)
  let c ← Extern.Bytes.asByte (.int .u8 cv)
  match (List.range b.size).find? fun i => b[i]! == c with
  | some i => pure (goInt i)
  | none => pure (goInt (-1))) w = _
 change Sem.run P (do
  let b ← Extern.Bytes.bytesOf (.string ⟨(Lib.bytesOf l).toArray⟩)
  let c ← Extern.Bytes.asByte (.int .u8 cv)
  match (List.range b.size).find? fun i => b[i]! == c with
  | some i => pure (goInt i)
  | none => pure (goInt (-1))) w = _ at hs
 simp only [Extern.Bytes.bytesOf, Sem.run_bind, Sem.run_pure, hl, Result.andThen] at hs ⊢
 exact hs
def bytes_IndexByte.f (l0 : List Int) (a1 : Int) : Option Int := some (Lib.indexByte (Lib.bytesOf l0) a1.toNat.toUInt8)
theorem bytes_IndexByte.calls {n : Nat} (A0 : Option Addr) (c0 : Nat) (l0 : List Int) (a1 : Int) (r : Int) (w : World) (hr0 : Kd.C (Kd.int .u8) w A0 l0.length l0) (hc0 : l0.length ≤ c0) (h : bytes_IndexByte.f l0 a1 = some r)
  (hn : n = l0.length := by first | rfl | (simp only [List.length_drop, List.length_take]; rfl) | (simp only [List.length_drop, List.length_take]; (try simp only [decide_eq_true_eq, eq_iff_iff, iff_true] at *); omega)) :
  Calls Try.prog 109 #[.slice A0 n c0, .int .u8 a1] w fun e w' => e = .returned (.int .i64 r) ∧ Drawn0 w w' := by
 subst hn
 obtain rfl := Option.some.inj h
 have key : (Extern.BytealgIndexByte.indexByte #[.slice A0 l0.length c0, .int .u8 a1]).run Try.prog w = .ok (.int .i64 (Lib.indexByte (Lib.bytesOf l0) a1.toNat.toUInt8)) w := by
  cases A0 with
  | none =>
   obtain rfl := C_none hr0
   exact Lib.run_indexByteNil (P := Try.prog) w 0 c0 a1
  | some ad => exact run_indexByteAt c0 hr0 a1
 have K := Lib.hid key
 clear key hr0 hc0 h
 go_enter Try.func109, Try.ntmps109
 go_wp2
 rw [run_callFunc_extern Try.func141 (by kernel_rfl) (by kernel_rfl) (by kernel_rfl) (e := Extern.BytealgIndexByte.indexByte) (by kernel_rfl), K.out]
 simp only [Result.andThen]
 rw [Oper.upon_value]
 go_wp2
 go_ret
 exact ⟨rfl, Drawn0.refl _⟩
end Go.Proofs.Ytekanmieppnpeaa.G
end
section
namespace Go.Proofs.Ytekanmieppnpeaa.G
open Go.RowKit Go.Proofs.YtekanmieppnpeaaW.PrintWords Go.Proofs.YtekanmieppnpeaaW.PrintLast Go.Proofs.YtekanmieppnpeaaW.PrintMore
attribute [local go_sem] max2_int min2_int max_two min_two max_three min_three max_four min_four   -- for this text's walks alone
def cobs_Stuff.l0 : Nat → List Int → List Int → Option (List Int)
 | 0, _, _ => none
 | k + 1, x0, x3 => if 0 ≤ (mn (x0.length : Int) 254) then (if (mn (x0.length : Int) 254) ≤ (x0.length : Int) then ((bytes_IndexByte.f (x0.take ((mn (x0.length : Int) 254) : Int).toNat) 0).bind fun t226 => (if t226 ≥ 0 then (if x3.length < 140737488355328 then ((some (x3 ++ [(wrap64 (t226 + 1)) % 256] : List Int)).bind fun y227 => (if 0 ≤ t226 then (if t226 ≤ (x0.length : Int) then ((some (x0.take (t226 : Int).toNat : List Int)).bind fun y230 => (if y227.length + y230.length < 140737488355328 then (if 0 ≤ (wrap64 (t226 + 1)) then (if (wrap64 (t226 + 1)) ≤ (x0.length : Int) then (cobs_Stuff.l0 k (x0.drop ((wrap64 (t226 + 1)) : Int).toNat) (y227 ++ y230)) else (none)) else (none)) else (none))) else (none)) else (none))) else (none)) else (if (x0.length : Int) > 254 then (if x3.length < 140737488355328 then ((some (x3 ++ [255] : List Int)).bind fun y243 => (if 254 ≤ (x0.length : Int) then ((some (x0.take 254 : List Int)).bind fun y246 => (if y243.length + y246.length < 140737488355328 then (cobs_Stuff.l0 k (x0.drop 254) (y243 ++ y246)) else (none))) else (none))) else (none)) else (if x3.length < 140737488355328 then ((some (x3 ++ [(wrap64 ((x0.length : Int) + 1)) % 256] : List Int)).bind fun y259 => (if y259.length + x0.length < 140737488355328 then (some (y259 ++ x0)) else (none))) else (none))))) else (none)) else (none)
def cobs_Stuff.f (k : Nat) (l0 : List Int) : Option (List Int) := (cobs_Most.f (l0.length : Int)).bind fun t217 => (if 0 ≤ t217 then (if (t217 : Int).toNat ≤ 281474976710656 then (cobs_Stuff.l0 k l0 (([] : List Int))) else (none)) else (none))
theorem cobs_Stuff.mono_l : ∀ k, (∀ y0 y1, LeO (cobs_Stuff.l0 k y0 y1) (cobs_Stuff.l0 (k + 1) y0 y1))
 | 0 => fun _ _ r h => by simp [cobs_Stuff.l0] at h
 | k + 1 => by
  have ih0 := cobs_Stuff.mono_l k
  ·
   intro y0 y1
   unfold cobs_Stuff.l0
   repeat' first
   | (with_reducible exact ih0 _ _)
   | (with_reducible exact LeO.refl _)
   | (with_reducible exact LeO.none _)
   | (with_reducible refine LeO.ite ?_ ?_)
   | (with_reducible refine LeO.bind ?_ (fun _ => ?_))
   | exact ih0 _ _
   | exact LeO.none _
   | refine LeO.ite ?_ ?_
   | refine LeO.bind ?_ (fun _ => ?_)
theorem cobs_Stuff.mono : ∀ a0 k, LeO (cobs_Stuff.f k a0) (cobs_Stuff.f (k + 1) a0) := by
 intro a0 k
 have ih0 := cobs_Stuff.mono_l k
 unfold cobs_Stuff.f
 repeat' first
   | (with_reducible exact ih0 _ _)
   | (with_reducible exact LeO.refl _)
   | (with_reducible exact LeO.none _)
   | (with_reducible refine LeO.ite ?_ ?_)
   | (with_reducible refine LeO.bind ?_ (fun _ => ?_))
   | exact ih0 _ _
   | exact LeO.none _
   | refine LeO.ite ?_ ?_
   | refine LeO.bind ?_ (fun _ => ?_)
def cobs_Stuff.T5 : Bool × List (List Nat × List Nat) := (true, [([], []), ([], []), ([1], [1]), ([2], [2]), ([3], [3]), ([0, 4], [0, 4]), ([], []), ([], []), ([6, 7], [6, 7]), ([5, 8, 5], [5, 8]), ([9, 9, 0, 1, 2, 3, 4, 5, 6, 7, 8, 9], [0, 9])])
def cobs_Stuff.B5 : List Nat := [0, 0, 2, 6, 14, 31, 0, 0, 192, 511, 1023]
theorem cobs_Stuff.tab5 : rtab .any (opsOf Try.f60 5) = cobs_Stuff.T5 := by kernel_rfl
theorem cobs_Stuff.bits5 : waitsOk cobs_Stuff.T5.2 cobs_Stuff.B5 = true := by kernel_rfl
theorem cobs_Stuff.calls (k : Nat) (P0_ : Nat → Prop) (A0 : Option Addr) (c0 : Nat) (l0 : List Int) (r : List Int) (w : World) (hs0 : Kd.V (Kd.int .u8) 5 w w.heap.size (fun k_ => P0_ k_) (.slice A0 l0.length c0) l0) (h : cobs_Stuff.f k l0 = some r) :
  Calls Try.prog 60 #[.slice A0 l0.length c0] w fun e w' => ∃ v0_ : Value, e = .returned (v0_) ∧ Kd.R (Kd.int .u8) 5 w' w.heap.size (fun k_ => (w.heap.size ≤ k_)) v0_ r ∧ Below w.heap.size w w' := by
 have HO0 := Aside0.mk (show Kd.V (Kd.int .u8) 5 w w.heap.size (fun k_ => (P0_ k_ ∨ w.heap.size ≤ k_)) (.slice A0 l0.length c0) l0 from Kd.V_mono hs0 (fun k_ hk => .inl hk))
 have HB := Aside0.mk (Below.refl w.heap.size w)
 have H : ((cobs_Most.f (l0.length : Int)).bind fun t217 => (if 0 ≤ t217 then (if (t217 : Int).toNat ≤ 281474976710656 then (cobs_Stuff.l0 k l0 (([] : List Int))) else (none)) else (none))) = some r := h
 clear h
 replace H := Option.bind_eq_some_iff.mp H
 obtain ⟨t217, A20, H⟩ := H
 replace H : (if 0 ≤ t217 then (if (t217 : Int).toNat ≤ 281474976710656 then (cobs_Stuff.l0 k l0 (([] : List Int))) else (none)) else (none)) = some r := H
 have A2 := Aside0.mk A20
 clear A20
 by_cases c3 : 0 ≤ t217
 ·
  rw [if_pos c3] at H
  have c3b0 := eq_true c3
  have c3b1 : decide (0 ≤ t217) = true := decide_eq_true c3
  clear c3
  by_cases c4 : (t217 : Int).toNat ≤ 281474976710656
  ·
   rw [if_pos c4] at H
   have c4b0 := eq_true c4
   have c4b1 : decide ((t217 : Int).toNat ≤ 281474976710656) = true := decide_eq_true c4
   clear c4
   obtain ⟨y218, hy218⟩ : ∃ y_ : List Int, y_ = (([] : List Int)) := ⟨_, rfl⟩
   replace H : (cobs_Stuff.l0 k l0 y218) = some r := by first | (rw [hy218]; with_reducible exact H) | (have H2_ := (Option.bind_some _ _).symm.trans H; rw [hy218]; with_reducible exact H2_) | (have H2_ := (Option.bind_some _ _).symm.trans H; with_reducible exact H2_) | with_reducible exact H | (rw [hy218]; exact H) | exact H
   have Ny218 := Aside0.mk hy218
   clear hy218
   have H' := Aside0.mk H
   clear H
   go_enter Try.func60, Try.ntmps60
   go_wp2_with (first | ((with_reducible refine gate_callee (f := 64) rfl ?_); refine goesL_ (some 7) rfl rfl Try.func64 (by kernel_rfl) rfl #[.int .i64 (l0.length : Int)] rfl (by (try simp only [mA, mB, mC]); first | done | rfl) ?_; (with_reducible refine (cobs_Most.calls (l0.length : Int) t217 _ A2.out).mono ?_); rintro e w' ⟨rfl, ⟨nd, rfl⟩⟩; refine ⟨_, rfl, ?_⟩) | ((with_reducible refine gate_dst (N := 8) rfl ?_); refine R_make0 (Kd.int .u8) _ 5 rfl (N := 8) rfl 39 _ _ rfl t217 rfl rfl Try.underlying39 (.int .u8 0) 1 info5 rfl (by decide) (by omega) (ok := fun _ => True) trivial (of_decide_eq_true (by first | (with_reducible assumption) | assumption)) (Nat.le_trans (Nat.mul_le_mul_right _ (of_decide_eq_true (by first | (with_reducible assumption) | assumption) : (t217 : Int).toNat ≤ 281474976710656)) (by omega)) (Below.refl _ _) (Nat.le_refl _) ?_; intro v219 w5 ho6 hb hg_ hnew_; clear hg_ hnew_; (first | rw [← Ny218.out] at ho6 | (simp only [Int.reduceToNat] at ho6; rw [← Ny218.out] at ho6)); replace HO0 := Aside0.mk (Kd.V_elder' (by (with_reducible repeat (first | apply Kd.V_alloc | apply Kd.V_drewN | apply Kd.V_drew)); exact HO0.out) (Kd.R_base ho6) hb); have HO220 := Aside0.mk (Kd.R_lower (Kd.R_newM (M := fun k_ => (w.heap.size ≤ k_)) ho6 (below_size (by repeat with_reducible first | exact HB.out | apply below_alloc | apply pw_below_drewN | apply below_drew1)) (fun k_ h_ => h_)) (below_size (by repeat with_reducible first | exact HB.out | apply below_alloc | apply pw_below_drewN | apply below_drew1))); replace HB := Aside0.mk (below_step (by repeat with_reducible first | exact HB.out | apply below_alloc | apply pw_below_drewN | apply below_drew1) hb); clear hb ho6))
   go_loopg [0, 3] k (fun kq v0 v3 w' => ∃ (x0_1 : List Int) (x3_1 : List Int), Aside0 (cobs_Stuff.l0 kq x0_1 x3_1 = some r) ∧ Aside0 (kq ≤ k) ∧ Aside0 (Kd.V (Kd.int .u8) 5 w' w.heap.size (fun k_ => (P0_ k_ ∨ w.heap.size ≤ k_) ∧ some k_ ≠ (v3 : Value).ownBlock) v0 x0_1) ∧ Aside0 (Kd.R (Kd.int .u8) 5 w' w.heap.size (fun k_ => (w.heap.size ≤ k_)) v3 x3_1) ∧ Aside0 (Below w.heap.size w w'))
   case atStart => exact ⟨(l0), (y218), H', ⟨Nat.le_refl _⟩, ⟨by (with_reducible repeat (first | apply Kd.V_alloc | apply Kd.V_drewN | apply Kd.V_drew)); exact HO0.out⟩, ⟨by (with_reducible repeat (first | apply Kd.R_alloc | apply Kd.R_drewN | apply Kd.R_drew)); exact Kd.R_mono HO220.out (fun _ hk => hk.1)⟩, ⟨by repeat (first | (with_reducible first | exact HB.out | apply below_alloc | apply pw_below_drewN | apply below_drew1) | exact HB.out)⟩⟩
   case round =>
    clear H'
    try clear p2
    try clear c3
    try clear c3b0
    try clear c3b1
    try clear c4
    try clear c4b0
    try clear c4b1
    try clear c6
    obtain ⟨x0_1, x3_1, HA, HK1, HO_0, HO_3, HB⟩ := hrel
    cases gk with
    | zero => exact absurd HA.out (by simp [cobs_Stuff.l0])
    | succ k1 =>
     have H := HA.out
     clear HA
     simp only [cobs_Stuff.l0] at H
     obtain ⟨ji7, hji7⟩ : ∃ j_ : Int, (mn (x0_1.length : Int) 254) = j_ := ⟨_, rfl⟩
     replace H : (if 0 ≤ (ji7) then (if (ji7) ≤ (x0_1.length : Int) then ((bytes_IndexByte.f (x0_1.take ((ji7) : Int).toNat) 0).bind fun t226 => (if t226 ≥ 0 then (if x3_1.length < 140737488355328 then ((some (x3_1 ++ [(wrap64 (t226 + 1)) % 256] : List Int)).bind fun y227 => (if 0 ≤ t226 then (if t226 ≤ (x0_1.length : Int) then ((some (x0_1.take (t226 : Int).toNat : List Int)).bind fun y230 => (if y227.length + y230.length < 140737488355328 then (if 0 ≤ (wrap64 (t226 + 1)) then (if (wrap64 (t226 + 1)) ≤ (x0_1.length : Int) then (cobs_Stuff.l0 k1 (x0_1.drop ((wrap64 (t226 + 1)) : Int).toNat) (y227 ++ y230)) else (none)) else (none)) else (none))) else (none)) else (none))) else (none)) else (if (x0_1.length : Int) > 254 then (if x3_1.length < 140737488355328 then ((some (x3_1 ++ [255] : List Int)).bind fun y243 => (if 254 ≤ (x0_1.length : Int) then ((some (x0_1.take 254 : List Int)).bind fun y246 => (if y243.length + y246.length < 140737488355328 then (cobs_Stuff.l0 k1 (x0_1.drop 254) (y243 ++ y246)) else (none))) else (none))) else (none)) else (if x3_1.length < 140737488355328 then ((some (x3_1 ++ [(wrap64 ((x0_1.length : Int) + 1)) % 256] : List Int)).bind fun y259 => (if y259.length + x0_1.length < 140737488355328 then (some (y259 ++ x0_1)) else (none))) else (none))))) else (none)) else (none)) = some r := by first | (rw [hji7] at H; exact H) | (simp only [hji7] at H ⊢; exact H)
     have hji7_ : (if 254 < (x0_1.length : Int) then 254 else (x0_1.length : Int)) = ji7 := hji7
     by_cases c8 : 0 ≤ (ji7)
     ·
      rw [if_pos c8] at H
      have c8b0 := eq_true c8
      have c8b1 : decide (0 ≤ (ji7)) = true := decide_eq_true c8
      clear c8
      by_cases c9 : (ji7) ≤ (x0_1.length : Int)
      ·
       rw [if_pos c9] at H
       have c9b0 := eq_true c9
       have c9b1 : decide ((ji7) ≤ (x0_1.length : Int)) = true := decide_eq_true c9
       clear c9
       obtain ⟨y221, hy221⟩ : ∃ y_ : List Int, y_ = (x0_1.take ((ji7) : Int).toNat) := ⟨_, rfl⟩
       replace H : ((bytes_IndexByte.f y221 0).bind fun t226 => (if t226 ≥ 0 then (if x3_1.length < 140737488355328 then ((some (x3_1 ++ [(wrap64 (t226 + 1)) % 256] : List Int)).bind fun y227 => (if 0 ≤ t226 then (if t226 ≤ (x0_1.length : Int) then ((some (x0_1.take (t226 : Int).toNat : List Int)).bind fun y230 => (if y227.length + y230.length < 140737488355328 then (if 0 ≤ (wrap64 (t226 + 1)) then (if (wrap64 (t226 + 1)) ≤ (x0_1.length : Int) then (cobs_Stuff.l0 k1 (x0_1.drop ((wrap64 (t226 + 1)) : Int).toNat) (y227 ++ y230)) else (none)) else (none)) else (none))) else (none)) else (none))) else (none)) else (if (x0_1.length : Int) > 254 then (if x3_1.length < 140737488355328 then ((some (x3_1 ++ [255] : List Int)).bind fun y243 => (if 254 ≤ (x0_1.length : Int) then ((some (x0_1.take 254 : List Int)).bind fun y246 => (if y243.length + y246.length < 140737488355328 then (cobs_Stuff.l0 k1 (x0_1.drop 254) (y243 ++ y246)) else (none))) else (none))) else (none)) else (if x3_1.length < 140737488355328 then ((some (x3_1 ++ [(wrap64 ((x0_1.length : Int) + 1)) % 256] : List Int)).bind fun y259 => (if y259.length + x0_1.length < 140737488355328 then (some (y259 ++ x0_1)) else (none))) else (none))))) = some r := by first | (rw [hy221]; with_reducible exact H) | (have H2_ := (Option.bind_some _ _).symm.trans H; rw [hy221]; with_reducible exact H2_) | (have H2_ := (Option.bind_some _ _).symm.trans H; with_reducible exact H2_) | with_reducible exact H | (rw [hy221]; exact H) | exact H
       have Ny221 := Aside0.mk hy221
       clear hy221
       replace H := Option.bind_eq_some_iff.mp H
       obtain ⟨t226, A100, H⟩ := H
       replace H : (if t226 ≥ 0 then (if x3_1.length < 140737488355328 then ((some (x3_1 ++ [(wrap64 (t226 + 1)) % 256] : List Int)).bind fun y227 => (if 0 ≤ t226 then (if t226 ≤ (x0_1.length : Int) then ((some (x0_1.take (t226 : Int).toNat : List Int)).bind fun y230 => (if y227.length + y230.length < 140737488355328 then (if 0 ≤ (wrap64 (t226 + 1)) then (if (wrap64 (t226 + 1)) ≤ (x0_1.length : Int) then (cobs_Stuff.l0 k1 (x0_1.drop ((wrap64 (t226 + 1)) : Int).toNat) (y227 ++ y230)) else (none)) else (none)) else (none))) else (none)) else (none))) else (none)) else (if (x0_1.length : Int) > 254 then (if x3_1.length < 140737488355328 then ((some (x3_1 ++ [255] : List Int)).bind fun y243 => (if 254 ≤ (x0_1.length : Int) then ((some (x0_1.take 254 : List Int)).bind fun y246 => (if y243.length + y246.length < 140737488355328 then (cobs_Stuff.l0 k1 (x0_1.drop 254) (y243 ++ y246)) else (none))) else (none))) else (none)) else (if x3_1.length < 140737488355328 then ((some (x3_1 ++ [(wrap64 ((x0_1.length : Int) + 1)) % 256] : List Int)).bind fun y259 => (if y259.length + x0_1.length < 140737488355328 then (some (y259 ++ x0_1)) else (none))) else (none)))) = some r := H
       have A10 := Aside0.mk A100
       clear A100
       by_cases c11 : t226 ≥ 0
       ·
        rw [if_pos c11] at H
        have c11b0 : decide (0 ≤ t226) = true := decide_eq_true c11
        clear c11
        by_cases c12 : x3_1.length < 140737488355328
        ·
         rw [if_pos c12] at H
         have LMc12 := Aside0.mk c12
         clear c12
         obtain ⟨y227, hy227⟩ : ∃ y_ : List Int, y_ = (x3_1 ++ [(wrap64 (t226 + 1)) % 256]) := ⟨_, rfl⟩
         replace H : (if 0 ≤ t226 then (if t226 ≤ (x0_1.length : Int) then ((some (x0_1.take (t226 : Int).toNat : List Int)).bind fun y230 => (if y227.length + y230.length < 140737488355328 then (if 0 ≤ (wrap64 (t226 + 1)) then (if (wrap64 (t226 + 1)) ≤ (x0_1.length : Int) then (cobs_Stuff.l0 k1 (x0_1.drop ((wrap64 (t226 + 1)) : Int).toNat) (y227 ++ y230)) else (none)) else (none)) else (none))) else (none)) else (none)) = some r := by first | (rw [hy227]; with_reducible exact H) | (have H2_ := (Option.bind_some _ _).symm.trans H; rw [hy227]; with_reducible exact H2_) | (have H2_ := (Option.bind_some _ _).symm.trans H; with_reducible exact H2_) | with_reducible exact H | (rw [hy227]; exact H) | exact H
         have Ny227 := Aside0.mk hy227
         clear hy227
         by_cases c13 : 0 ≤ t226
         ·
          rw [if_pos c13] at H
          have c13b0 := eq_true c13
          have c13b1 : decide (0 ≤ t226) = true := decide_eq_true c13
          clear c13
          by_cases c14 : t226 ≤ (x0_1.length : Int)
          ·
           rw [if_pos c14] at H
           have c14b0 := eq_true c14
           have c14b1 : decide (t226 ≤ (x0_1.length : Int)) = true := decide_eq_true c14
           clear c14
           obtain ⟨y230, hy230⟩ : ∃ y_ : List Int, y_ = (x0_1.take (t226 : Int).toNat) := ⟨_, rfl⟩
           replace H : (if y227.length + y230.length < 140737488355328 then (if 0 ≤ (wrap64 (t226 + 1)) then (if (wrap64 (t226 + 1)) ≤ (x0_1.length : Int) then (cobs_Stuff.l0 k1 (x0_1.drop ((wrap64 (t226 + 1)) : Int).toNat) (y227 ++ y230)) else (none)) else (none)) else (none)) = some r := by first | (rw [hy230]; with_reducible exact H) | (have H2_ := (Option.bind_some _ _).symm.trans H; rw [hy230]; with_reducible exact H2_) | (have H2_ := (Option.bind_some _ _).symm.trans H; with_reducible exact H2_) | with_reducible exact H | (rw [hy230]; exact H) | exact H
           have Ny230 := Aside0.mk hy230
           clear hy230
           by_cases c15 : y227.length + y230.length < 140737488355328
           ·
            rw [if_pos c15] at H
            have LMc15 := Aside0.mk c15
            clear c15
            obtain ⟨y235, hy235⟩ : ∃ y_ : List Int, y_ = (y227 ++ y230) := ⟨_, rfl⟩
            replace H : (if 0 ≤ (wrap64 (t226 + 1)) then (if (wrap64 (t226 + 1)) ≤ (x0_1.length : Int) then (cobs_Stuff.l0 k1 (x0_1.drop ((wrap64 (t226 + 1)) : Int).toNat) y235) else (none)) else (none)) = some r := by first | (rw [hy235]; with_reducible exact H) | (have H2_ := (Option.bind_some _ _).symm.trans H; rw [hy235]; with_reducible exact H2_) | (have H2_ := (Option.bind_some _ _).symm.trans H; with_reducible exact H2_) | with_reducible exact H | (rw [hy235]; exact H) | exact H
            have Ny235 := Aside0.mk hy235
            clear hy235
            obtain ⟨ji16, hji16⟩ : ∃ j_ : Int, (wrap64 (t226 + 1)) = j_ := ⟨_, rfl⟩
            replace H : (if 0 ≤ (ji16) then (if (ji16) ≤ (x0_1.length : Int) then (cobs_Stuff.l0 k1 (x0_1.drop ((ji16) : Int).toNat) y235) else (none)) else (none)) = some r := by first | (rw [hji16] at H; exact H) | (simp only [hji16] at H ⊢; exact H)
            (try rw [hji16] at A10)
            (try rw [hji16] at Ny227)
            (try rw [hji16] at Ny227)
            have hji16w : (IntKind.i64.wrap (t226 + 1)) = ji16 := (i64_w _).trans hji16
            by_cases c17 : 0 ≤ (ji16)
            ·
             rw [if_pos c17] at H
             have c17b0 := eq_true c17
             have c17b1 : decide (0 ≤ (ji16)) = true := decide_eq_true c17
             clear c17
             by_cases c18 : (ji16) ≤ (x0_1.length : Int)
             ·
              rw [if_pos c18] at H
              have c18b0 := eq_true c18
              have c18b1 : decide ((ji16) ≤ (x0_1.length : Int)) = true := decide_eq_true c18
              clear c18
              obtain ⟨y238, hy238⟩ : ∃ y_ : List Int, y_ = (x0_1.drop ((ji16) : Int).toNat) := ⟨_, rfl⟩
              replace H : (cobs_Stuff.l0 k1 y238 y235) = some r := by first | (rw [hy238]; with_reducible exact H) | (have H2_ := (Option.bind_some _ _).symm.trans H; rw [hy238]; with_reducible exact H2_) | (have H2_ := (Option.bind_some _ _).symm.trans H; with_reducible exact H2_) | with_reducible exact H | (rw [hy238]; exact H) | exact H
              have Ny238 := Aside0.mk hy238
              clear hy238
              have H' := Aside0.mk H
              clear H
              obtain ⟨Ao19, co19, eo19⟩ := Kd.V_slice HO_0.out
              subst eo19
              have q20 : ((ji7) : Int) ≤ ((x0_1.length : Int) : Int) := of_decide_eq_true (by first | (with_reducible assumption) | assumption)
              obtain ⟨i020, hi020, _, hsz20, _⟩ := info_parts info5
              have hroom20 : x0_1.length ≤ co19 := (Kd.V_reads' HO_0.out).2.1
              have hC20 : Kd.F (Kd.int .u8) _ _ Ao19 x0_1.length x0_1 := (Kd.V_at (base := w.heap.size) HO_0.out).2.2
              have hcut20 := cut_to (P := Try.prog) 39 5 .i64 Try.underlying39 hi020 Ao19 x0_1.length co19 (ji7) (of_decide_eq_true (by first | (with_reducible assumption) | assumption)) q20 hroom20
              have hr20 := Kd.F_take (m := ((ji7) : Int).toNat) hC20 (by omega)
              have hy20 : y221.length = ((ji7) : Int).toNat := (by rw [Ny221.out, List.length_take]; omega)
              rw [← Ny221.out] at hr20
              rw [← hy20] at hcut20
              have HO225 := Aside0.mk (show Kd.V (Kd.int .u8) 5 _ w.heap.size _ (.slice Ao19 y221.length co19) y221 from Kd.V_mk (by omega) hr20)
              have HC225 := Aside0.mk (show y221.length ≤ co19 from by omega)
              clear hr20 hC20 hroom20 hi020 hsz20
              have KY20 := Aside0.mk hy20
              clear hy20
              replace q20 := eq_true q20
              try go_wp2_with (first | ((with_reducible refine gate_callee (f := 109) rfl ?_); refine goesL_ (some 14) rfl rfl Try.func109 (by kernel_rfl) rfl #[.slice Ao19 y221.length co19, .int .u8 0] rfl (by (try simp only [mA, mB, mC]); first | done | rfl) ?_; (with_reducible refine (bytes_IndexByte.calls _ _ y221 0 t226 _ ?side1 ?side2 A10.out).mono ?_); (case side1 => repeat (first | exact (Kd.V_reads' HO225.out).2.2 | (with_reducible refine Kd.C_alloc ?_ _) | (with_reducible refine Kd.C_drewN ?_ _) | (with_reducible refine Kd.C_drew ?_))); (case side2 => exact (Kd.V_reads' HO225.out).2.1); rintro e w' ⟨rfl, ⟨nd, rfl⟩⟩; refine ⟨_, rfl, ?_⟩))
              (try (rw [drewN_self wr]; generalize hq_ : World.drewN wr _ = wr; have n0_ : Aside0 (Kd.V (Kd.int .u8) 5 wr w.heap.size (fun k_ => (P0_ k_ ∨ w.heap.size ≤ k_) ∧ some k_ ≠ (u3 : Value).ownBlock) (.slice Ao19 y221.length co19) y221) := ⟨by rw [← hq_]; exact (by (with_reducible repeat (first | apply Kd.V_alloc | apply Kd.V_drewN | apply Kd.V_drew)); exact HO225.out)⟩; have n1_ : Aside0 (Kd.V (Kd.int .u8) 5 wr w.heap.size (fun k_ => (P0_ k_ ∨ w.heap.size ≤ k_) ∧ some k_ ≠ (u3 : Value).ownBlock) (.slice Ao19 x0_1.length co19) x0_1) := ⟨by rw [← hq_]; exact (by (with_reducible repeat (first | apply Kd.V_alloc | apply Kd.V_drewN | apply Kd.V_drew)); exact HO_0.out)⟩; have n2_ : Aside0 (Kd.R (Kd.int .u8) 5 wr w.heap.size (fun k_ => (w.heap.size ≤ k_)) u3 x3_1) := ⟨by rw [← hq_]; exact (by (with_reducible repeat (first | apply Kd.R_alloc | apply Kd.R_drewN | apply Kd.R_drew)); exact HO_3.out)⟩; have n3_ : Aside0 (Below w.heap.size w wr) := ⟨by rw [← hq_]; exact (by repeat with_reducible first | exact HB.out | apply below_alloc | apply pw_below_drewN | apply below_drew1)⟩; clear HO225 HO_0 HO_3 HB hq_; have HO225 := n0_; have HO_0 := n1_; have HO_3 := n2_; have HB := n3_; clear n0_ n1_ n2_ n3_))
              have n0_ := Aside0.mk (Kd.V_drew HO_0.out)
              have n1_ := Aside0.mk (Kd.R_drew HO_3.out)
              have n2_ := Aside0.mk (Kd.V_drew HO225.out)
              have n3_ := Aside0.mk (below_drew1 HB.out)
              clear HO_0
              clear HO_3
              clear HO225
              clear HB
              have HO_0 := n0_
              have HO_3 := n1_
              have HO225 := n2_
              have HB := n3_
              clear n0_ n1_ n2_ n3_
              have q22 : (t226 : Int) ≤ ((x0_1.length : Int) : Int) := of_decide_eq_true (by first | (with_reducible assumption) | assumption)
              obtain ⟨i022, hi022, _, hsz22, _⟩ := info_parts info5
              have hroom22 : x0_1.length ≤ co19 := (Kd.V_reads' HO_0.out).2.1
              have hC22 : Kd.F (Kd.int .u8) _ _ Ao19 x0_1.length x0_1 := (Kd.V_at (base := w.heap.size) HO_0.out).2.2
              have hcut22 := cut_to (P := Try.prog) 39 5 .i64 Try.underlying39 hi022 Ao19 x0_1.length co19 t226 (of_decide_eq_true (by first | (with_reducible assumption) | assumption)) q22 hroom22
              have hr22 := Kd.F_take (m := (t226 : Int).toNat) hC22 (by omega)
              have hy22 : y230.length = (t226 : Int).toNat := (by rw [Ny230.out, List.length_take]; omega)
              rw [← Ny230.out] at hr22
              rw [← hy22] at hcut22
              have HO234 := Aside0.mk (show Kd.V (Kd.int .u8) 5 _ w.heap.size _ (.slice Ao19 y230.length co19) y230 from Kd.V_mk (by omega) hr22)
              have HC234 := Aside0.mk (show y230.length ≤ co19 from by omega)
              clear hr22 hC22 hroom22 hi022 hsz22
              have KY22 := Aside0.mk hy22
              clear hy22
              replace q22 := eq_true q22
              refine start_ (n := 11) (S := fun w' => True) (ds := []) #[false, false, false, false, false, false, false, false, false, false, false] (by kernel_rfl) rfl rfl trivial (fun hHeld => ?_); refine with_tabW cobs_Stuff.tab5 cobs_Stuff.bits5 (fun HT_ HW_ => ?_)
              generalize wr.drew = w21 at HO_0 HO_3 HO225 HB HO234 hHeld ⊢
              refine pure_ (i := 0) (N := some 27) (v := ?_) (a' := ?_) #[true, false, false, false, false, false, false, false, false, false, false] rfl rfl (any_of HT_.out (by kernel_rfl)) (fun _ _ _ h => h) (Or.inl ⟨by rfl, ?_⟩) ?_ ?_
              rotate_left
              · intro w'; go_simp; with_reducible rfl
              rotate_left
              · simp only [Act.put, sA, sB, sC, i64_w, i32_w]; rfl
              refine pure_ (i := 1) (N := some 28) (v := ?_) (a' := ?_) #[true, true, false, false, false, false, false, false, false, false, false] rfl rfl (any_of HT_.out (by kernel_rfl)) (fun _ _ _ h => h) (Or.inl ⟨by rfl, ?_⟩) ?_ ?_
              rotate_left
              · intro w'; go_simp; with_reducible rfl
              rotate_left
              · simp only [Act.put, sA, sB, sC, i64_w, i32_w]; rfl
              refine pure_ (i := 2) (N := some 29) (v := ?_) (a' := ?_) #[true, true, true, false, false, false, false, false, false, false, false] rfl rfl (any_of HT_.out (by kernel_rfl)) (fun _ _ _ h => h) (Or.inl ⟨by rfl, ?_⟩) ?_ ?_
              rotate_left
              · intro w'; go_simp; with_reducible rfl
              rotate_left
              · simp only [Act.put, sA, sB, sC, i64_w, i32_w]; rfl
              refine pure_ (i := 3) (N := some 30) (v := ?_) (a' := ?_) #[true, true, true, true, false, false, false, false, false, false, false] rfl rfl (any_of HT_.out (by kernel_rfl)) (fun _ _ _ h => h) (Or.inl ⟨by rfl, ?_⟩) ?_ ?_
              rotate_left
              · intro w'; go_simp; with_reducible rfl
              rotate_left
              · simp only [Act.put, sA, sB, sC, i64_w, i32_w]; rfl
              refine pure_ (i := 6) (N := some 33) (v := ?_) (a' := ?_) #[true, true, true, true, false, false, true, false, false, false, false] rfl rfl (any_of HT_.out (by kernel_rfl)) (fun _ _ _ h => h) (Or.inl ⟨by rfl, ?_⟩) ?_ ?_
              rotate_left
              · intro w'; go_simp; with_reducible rfl
              rotate_left
              · simp only [Act.put, sA, sB, sC, i64_w, i32_w]; rfl
              refine pure_ (i := 7) (N := some 34) (v := ?_) (a' := ?_) #[true, true, true, true, false, false, true, true, false, false, false] rfl rfl (any_of HT_.out (by kernel_rfl)) (fun _ _ _ h => h) (Or.inl ⟨by rfl, ?_⟩) ?_ ?_
              rotate_left
              · intro w'; go_simp; with_reducible rfl
              rotate_left
              · simp only [Act.put, sA, sB, sC, i64_w, i32_w]; rfl
              refine pure_ (i := 8) (N := some 35) (v := ?_) (a' := ?_) #[true, true, true, true, false, false, true, true, true, false, false] rfl rfl (any_of HT_.out (by kernel_rfl)) (fun _ _ _ h => h) (Or.inl ⟨by rfl, ?_⟩) ?_ ?_
              rotate_left
              · intro w'; go_simp; with_reducible rfl
              rotate_left
              · simp only [Act.put, sA, sB, sC, i64_w, i32_w]; rfl
              refine one_ (i := 4) (N := some 31) #[true, true, true, true, true, false, true, true, true, false, false] rfl rfl (one_of HT_.out (by kernel_rfl)) (by decide) (fun K hK => ?_)
              refine value_ (w1 := ?_) (v := ?_) (by rfl) rfl ?_ ?_
              rotate_left 2
              ·
               go_simp
               constructor
               ·
                rfl
               ·
                rfl
              refine hK.out _ _ trivial (fun hHeld => ?_)
              clear hK K
              refine norm_ (a' := ?_) ?_ ?_
              rotate_left
              · show Act.put _ (some 31) _ = _; simp only [Act.put, sA, sB, sC, i64_w, i32_w]; rfl
              refine one_ (i := 5) (N := some 32) #[true, true, true, true, true, true, true, true, true, false, false] rfl rfl (one_of HT_.out (by kernel_rfl)) (by decide) (fun K hK => ?_)
              refine Kd.R_append_step (Kd.int .u8) (w0 := w) w.heap.size (by rfl) (.tmp 27) (.tmp 31) 39 5 (.int .u8 0) 1 rfl Try.underlying39 info5 rfl (by decide) (by omega) u3 x3_1 ((ji16) % 256) [.int .u8 ((ji16) % 256)] (fun k_ => (w.heap.size ≤ k_)) (fun _ => False) rfl rfl ?aP (fun _ hk => hk.elim) ?aF ?aO ?aB ?aS ?aL ?_
              (case aP => exact rfl)
              (case aB => exact (by repeat with_reducible first | exact HB.out | apply below_alloc | apply pw_below_drewN | apply below_drew1))
              (case aF => exact (fun k_ hk => (Nat.le_trans (below_size (by repeat with_reducible first | exact HB.out | apply below_alloc | apply pw_below_drewN | apply below_drew1)) hk)))
              (case aO => exact (by (with_reducible repeat (first | apply Kd.R_alloc | apply Kd.R_drewN | apply Kd.R_drew)); exact HO_3.out))
              (case aS => exact (below_size (by repeat with_reducible first | exact HB.out | apply below_alloc | apply pw_below_drewN | apply below_drew1)))
              (case aL => have := LMc12.out; omega)
              intro v228 w23 ho hb hg hat
              rw [← Ny227.out] at ho
              have n0_ := Aside0.mk (Kd.V_afterv (ok := (fun k_ => (P0_ k_ ∨ w.heap.size ≤ k_))) (by (with_reducible repeat (first | apply Kd.V_alloc | apply Kd.V_drewN | apply Kd.V_drew)); exact HO_0.out) hg hat)
              have n1_ := Aside0.mk (Kd.V_afterv (ok := (fun k_ => (P0_ k_ ∨ w.heap.size ≤ k_))) (by (with_reducible repeat (first | apply Kd.V_alloc | apply Kd.V_drewN | apply Kd.V_drew)); exact HO225.out) hg hat)
              have n2_ := Aside0.mk (Kd.V_afterv (ok := (fun k_ => (P0_ k_ ∨ w.heap.size ≤ k_))) (by (with_reducible repeat (first | apply Kd.V_alloc | apply Kd.V_drewN | apply Kd.V_drew)); exact HO234.out) hg hat)
              have n3_ := Aside0.mk (hb)
              have n4_ := Aside0.mk (ho)
              clear HO_0
              clear HO225
              clear HO234
              clear HB
              clear HO_3
              have HO_0 := n0_
              have HO225 := n1_
              have HO234 := n2_
              have HB := n3_
              have HO229 := n4_
              clear n0_ n1_ n2_ n3_ n4_
              clear ho hb hg hat
              refine hK.out _ _ trivial (fun hHeld => ?_)
              clear hK K
              refine norm_ (a' := ?_) ?_ ?_
              rotate_left
              · show Act.put _ (some 32) _ = _; simp only [Act.put, sA, sB, sC, i64_w, i32_w]; rfl
              refine one_ (i := 9) (N := some 36) #[true, true, true, true, true, true, true, true, true, true, false] rfl rfl (one_of HT_.out (by kernel_rfl)) (by decide) (fun K hK => ?_)
              refine Kd.R_append_rows_step (Kd.int .u8) (w0 := w) w.heap.size (by rfl) (.tmp 32) (.tmp 35) 39 5 (.int .u8 0) 1 rfl Try.underlying39 info5 rfl (by decide) (by omega) v228 y227 y230 _ _ _ (fun k_ => (w.heap.size ≤ k_)) (fun _ => False) rfl rfl ?aO ?aR (fun _ _ h => h) (fun _ h => h.elim) ?aF ?aB ?aS ?aL ?_
              (case aR => repeat (first | exact (Kd.V_reads' HO234.out).2.2 | (with_reducible refine Kd.C_alloc ?_ _) | (with_reducible refine Kd.C_drewN ?_ _) | (with_reducible refine Kd.C_drew ?_)))
              (case aB => exact (by repeat with_reducible first | exact HB.out | apply below_alloc | apply pw_below_drewN | apply below_drew1))
              (case aF => exact (fun k_ hk => (Nat.le_trans (below_size (by repeat with_reducible first | exact HB.out | apply below_alloc | apply pw_below_drewN | apply below_drew1)) hk)))
              (case aO => exact (by (with_reducible repeat (first | apply Kd.R_alloc | apply Kd.R_drewN | apply Kd.R_drew)); exact HO229.out))
              (case aS => exact (below_size (by repeat with_reducible first | exact HB.out | apply below_alloc | apply pw_below_drewN | apply below_drew1)))
              (case aL => have := LMc15.out; omega)
              intro v236 w24 ho hb hg hat
              rw [← Ny235.out] at ho
              have n0_ := Aside0.mk (Kd.V_afterv (ok := (fun k_ => (P0_ k_ ∨ w.heap.size ≤ k_))) (by (with_reducible repeat (first | apply Kd.V_alloc | apply Kd.V_drewN | apply Kd.V_drew)); exact HO_0.out) hg hat)
              have n1_ := Aside0.mk (Kd.V_afterv (ok := (fun k_ => (P0_ k_ ∨ w.heap.size ≤ k_))) (by (with_reducible repeat (first | apply Kd.V_alloc | apply Kd.V_drewN | apply Kd.V_drew)); exact HO225.out) hg hat)
              have n2_ := Aside0.mk (Kd.V_afterv (ok := (fun k_ => (P0_ k_ ∨ w.heap.size ≤ k_))) (by (with_reducible repeat (first | apply Kd.V_alloc | apply Kd.V_drewN | apply Kd.V_drew)); exact HO234.out) hg hat)
              have n3_ := Aside0.mk (hb)
              have n4_ := Aside0.mk (ho)
              clear HO_0
              clear HO225
              clear HO234
              clear HB
              clear HO229
              have HO_0 := n0_
              have HO225 := n1_
              have HO234 := n2_
              have HB := n3_
              have HO237 := n4_
              clear n0_ n1_ n2_ n3_ n4_
              clear ho hb hg hat
              refine hK.out _ _ trivial (fun hHeld => ?_)
              clear hK K
              refine norm_ (a' := ?_) ?_ ?_
              rotate_left
              · show Act.put _ (some 36) _ = _; simp only [Act.put, sA, sB, sC, i64_w, i32_w]; rfl
              refine pure_ (i := 10) (N := some 3) (v := ?_) (a' := ?_) #[true, true, true, true, true, true, true, true, true, true, true] rfl rfl (any_of HT_.out (by kernel_rfl)) (fun _ _ _ h => h) (Or.inl ⟨by rfl, ?_⟩) ?_ ?_
              rotate_left
              · intro w'; go_simp; with_reducible rfl
              rotate_left
              · simp only [Act.put, sA, sB, sC, i64_w, i32_w]; rfl
              refine done_ (done_of HT_.out (by kernel_rfl)) ?_
              have q25 : ((ji16) : Int) ≤ ((x0_1.length : Int) : Int) := of_decide_eq_true (by first | (with_reducible assumption) | assumption)
              obtain ⟨i025, hi025, _, hsz25, _⟩ := info_parts info5
              have hroom25 : x0_1.length ≤ co19 := (Kd.V_reads' HO_0.out).2.1
              have hC25 : Kd.F (Kd.int .u8) _ _ Ao19 x0_1.length x0_1 := (Kd.V_at (base := w.heap.size) HO_0.out).2.2
              have q025 : (0 : Int) ≤ ((ji16) : Int) := of_decide_eq_true (by first | (with_reducible assumption) | assumption)
              have hcut25 := cut_from (P := Try.prog) 39 5 .i64 Try.underlying39 hi025 1 hsz25 Ao19 x0_1.length co19 (ji16) q025 q25
              have hr25 := Kd.F_cut (m := ((ji16) : Int).toNat) (c := co19) hC25 (by omega) hroom25
              obtain ⟨A25, hA25⟩ : ∃ A1, A1 = (if co19 = ((ji16) : Int).toNat then Ao19 else (Ao19 : Option Addr).map (·.add (((ji16) : Int).toNat * 1))) := ⟨_, rfl⟩
              obtain ⟨c25, hc25⟩ : ∃ c1, c1 = co19 - ((ji16) : Int).toNat := ⟨_, rfl⟩
              have hy25 : y238.length = x0_1.length - ((ji16) : Int).toNat := (by rw [Ny238.out, List.length_drop] <;> omega)
              rw [show (x0_1).drop ((ji16) : Int).toNat = y238 from Ny238.out.symm] at hr25
              replace hr25 : Kd.F (Kd.int .u8) _ _ A25 y238.length y238 := (by rw [hA25]; exact hr25)
              rw [← hy25, ← hA25, ← hc25] at hcut25
              have HO242 := Aside0.mk (show Kd.V (Kd.int .u8) 5 _ w.heap.size _ (.slice A25 y238.length c25) y238 from Kd.V_mk (by rw [hy25, hc25]; exact Nat.sub_le_sub_right hroom25 _) hr25)
              have HC242 := Aside0.mk (show y238.length ≤ c25 from by rw [hy25, hc25]; exact Nat.sub_le_sub_right hroom25 _)
              clear hr25 hC25 hroom25 hi025 hsz25 hc25
              have KY25 := Aside0.mk hy25
              have KA25 := Aside0.mk hA25
              clear hy25 hA25
              replace q25 := eq_true q25
              try go_wp2
              go_roundg k1
              case measure => have := HK1.out; omega
              case rel => exact ⟨(y238), (y235), H', ⟨by have := HK1.out; omega⟩, ⟨by (with_reducible repeat (first | apply Kd.V_alloc | apply Kd.V_drewN | apply Kd.V_drew)); exact HO242.out⟩, ⟨by (with_reducible repeat (first | apply Kd.R_alloc | apply Kd.R_drewN | apply Kd.R_drew)); exact HO237.out⟩, ⟨by repeat (first | (with_reducible first | exact HB.out | apply below_alloc | apply pw_below_drewN | apply below_drew1) | exact HB.out)⟩⟩
             ·
              rw [if_neg c18] at H
              exact absurd H (by simp)
            ·
             rw [if_neg c17] at H
             exact absurd H (by simp)
           ·
            rw [if_neg c15] at H
            exact absurd H (by simp)
          ·
           rw [if_neg c14] at H
           exact absurd H (by simp)
         ·
          rw [if_neg c13] at H
          exact absurd H (by simp)
        ·
         rw [if_neg c12] at H
         exact absurd H (by simp)
       ·
        rw [if_neg c11] at H
        have c11b0 : decide (0 ≤ t226) = false := decide_eq_false c11
        clear c11
        by_cases c26 : (x0_1.length : Int) > 254
        ·
         rw [if_pos c26] at H
         have c26b0 : decide (254 < (x0_1.length : Int)) = true := decide_eq_true c26
         have c26b1 : decide (254 < x0_1.length) = true := decide_eq_true (by omega)
         clear c26
         by_cases c27 : x3_1.length < 140737488355328
         ·
          rw [if_pos c27] at H
          have LMc27 := Aside0.mk c27
          clear c27
          obtain ⟨y243, hy243⟩ : ∃ y_ : List Int, y_ = (x3_1 ++ [255]) := ⟨_, rfl⟩
          replace H : (if 254 ≤ (x0_1.length : Int) then ((some (x0_1.take 254 : List Int)).bind fun y246 => (if y243.length + y246.length < 140737488355328 then (cobs_Stuff.l0 k1 (x0_1.drop 254) (y243 ++ y246)) else (none))) else (none)) = some r := by first | (rw [hy243]; with_reducible exact H) | (have H2_ := (Option.bind_some _ _).symm.trans H; rw [hy243]; with_reducible exact H2_) | (have H2_ := (Option.bind_some _ _).symm.trans H; with_reducible exact H2_) | with_reducible exact H | (rw [hy243]; exact H) | exact H
          have Ny243 := Aside0.mk hy243
          clear hy243
          by_cases c28 : 254 ≤ (x0_1.length : Int)
          ·
           rw [if_pos c28] at H
           have c28b0 := eq_true c28
           have c28b1 : decide (254 ≤ (x0_1.length : Int)) = true := decide_eq_true c28
           clear c28
           obtain ⟨y246, hy246⟩ : ∃ y_ : List Int, y_ = (x0_1.take 254) := ⟨_, rfl⟩
           replace H : (if y243.length + y246.length < 140737488355328 then (cobs_Stuff.l0 k1 (x0_1.drop 254) (y243 ++ y246)) else (none)) = some r := by first | (rw [hy246]; with_reducible exact H) | (have H2_ := (Option.bind_some _ _).symm.trans H; rw [hy246]; with_reducible exact H2_) | (have H2_ := (Option.bind_some _ _).symm.trans H; with_reducible exact H2_) | with_reducible exact H | (rw [hy246]; exact H) | exact H
           have Ny246 := Aside0.mk hy246
           clear hy246
           by_cases c29 : y243.length + y246.length < 140737488355328
           ·
            rw [if_pos c29] at H
            have LMc29 := Aside0.mk c29
            clear c29
            obtain ⟨y251, hy251⟩ : ∃ y_ : List Int, y_ = (y243 ++ y246) := ⟨_, rfl⟩
            replace H : (cobs_Stuff.l0 k1 (x0_1.drop 254) y251) = some r := by first | (rw [hy251]; with_reducible exact H) | (have H2_ := (Option.bind_some _ _).symm.trans H; rw [hy251]; with_reducible exact H2_) | (have H2_ := (Option.bind_some _ _).symm.trans H; with_reducible exact H2_) | with_reducible exact H | (rw [hy251]; exact H) | exact H
            have Ny251 := Aside0.mk hy251
            clear hy251
            have c30b0 := eq_true (of_decide_eq_true (by first | (with_reducible assumption) | assumption) : 254 ≤ (x0_1.length : Int))
            obtain ⟨y254, hy254⟩ : ∃ y_ : List Int, y_ = (x0_1.drop 254) := ⟨_, rfl⟩
            replace H : (cobs_Stuff.l0 k1 y254 y251) = some r := by first | (rw [hy254]; with_reducible exact H) | (have H2_ := (Option.bind_some _ _).symm.trans H; rw [hy254]; with_reducible exact H2_) | (have H2_ := (Option.bind_some _ _).symm.trans H; with_reducible exact H2_) | with_reducible exact H | (rw [hy254]; exact H) | exact H
            have Ny254 := Aside0.mk hy254
            clear hy254
            have H' := Aside0.mk H
            clear H
            obtain ⟨Ao31, co31, eo31⟩ := Kd.V_slice HO_0.out
            subst eo31
            have q32 : ((ji7) : Int) ≤ ((x0_1.length : Int) : Int) := of_decide_eq_true (by first | (with_reducible assumption) | assumption)
            obtain ⟨i032, hi032, _, hsz32, _⟩ := info_parts info5
            have hroom32 : x0_1.length ≤ co31 := (Kd.V_reads' HO_0.out).2.1
            have hC32 : Kd.F (Kd.int .u8) _ _ Ao31 x0_1.length x0_1 := (Kd.V_at (base := w.heap.size) HO_0.out).2.2
            have hcut32 := cut_to (P := Try.prog) 39 5 .i64 Try.underlying39 hi032 Ao31 x0_1.length co31 (ji7) (of_decide_eq_true (by first | (with_reducible assumption) | assumption)) q32 hroom32
            have hr32 := Kd.F_take (m := ((ji7) : Int).toNat) hC32 (by omega)
            have hy32 : y221.length = ((ji7) : Int).toNat := (by rw [Ny221.out, List.length_take]; omega)
            rw [← Ny221.out] at hr32
            rw [← hy32] at hcut32
            have HO225 := Aside0.mk (show Kd.V (Kd.int .u8) 5 _ w.heap.size _ (.slice Ao31 y221.length co31) y221 from Kd.V_mk (by omega) hr32)
            have HC225 := Aside0.mk (show y221.length ≤ co31 from by omega)
            clear hr32 hC32 hroom32 hi032 hsz32
            have KY32 := Aside0.mk hy32
            clear hy32
            replace q32 := eq_true q32
            try go_wp2_with (first | ((with_reducible refine gate_callee (f := 109) rfl ?_); refine goesL_ (some 14) rfl rfl Try.func109 (by kernel_rfl) rfl #[.slice Ao31 y221.length co31, .int .u8 0] rfl (by (try simp only [mA, mB, mC]); first | done | rfl) ?_; (with_reducible refine (bytes_IndexByte.calls _ _ y221 0 t226 _ ?side1 ?side2 A10.out).mono ?_); (case side1 => repeat (first | exact (Kd.V_reads' HO225.out).2.2 | (with_reducible refine Kd.C_alloc ?_ _) | (with_reducible refine Kd.C_drewN ?_ _) | (with_reducible refine Kd.C_drew ?_))); (case side2 => exact (Kd.V_reads' HO225.out).2.1); rintro e w' ⟨rfl, ⟨nd, rfl⟩⟩; refine ⟨_, rfl, ?_⟩))
            (try (rw [drewN_self wr]; generalize hq_ : World.drewN wr _ = wr; have n0_ : Aside0 (Kd.V (Kd.int .u8) 5 wr w.heap.size (fun k_ => (P0_ k_ ∨ w.heap.size ≤ k_) ∧ some k_ ≠ (u3 : Value).ownBlock) (.slice Ao31 y221.length co31) y221) := ⟨by rw [← hq_]; exact (by (with_reducible repeat (first | apply Kd.V_alloc | apply Kd.V_drewN | apply Kd.V_drew)); exact HO225.out)⟩; have n1_ : Aside0 (Kd.V (Kd.int .u8) 5 wr w.heap.size (fun k_ => (P0_ k_ ∨ w.heap.size ≤ k_) ∧ some k_ ≠ (u3 : Value).ownBlock) (.slice Ao31 x0_1.length co31) x0_1) := ⟨by rw [← hq_]; exact (by (with_reducible repeat (first | apply Kd.V_alloc | apply Kd.V_drewN | apply Kd.V_drew)); exact HO_0.out)⟩; have n2_ : Aside0 (Kd.R (Kd.int .u8) 5 wr w.heap.size (fun k_ => (w.heap.size ≤ k_)) u3 x3_1) := ⟨by rw [← hq_]; exact (by (with_reducible repeat (first | apply Kd.R_alloc | apply Kd.R_drewN | apply Kd.R_drew)); exact HO_3.out)⟩; have n3_ : Aside0 (Below w.heap.size w wr) := ⟨by rw [← hq_]; exact (by repeat with_reducible first | exact HB.out | apply below_alloc | apply pw_below_drewN | apply below_drew1)⟩; clear HO225 HO_0 HO_3 HB hq_; have HO225 := n0_; have HO_0 := n1_; have HO_3 := n2_; have HB := n3_; clear n0_ n1_ n2_ n3_))
            have n0_ := Aside0.mk (Kd.V_drew HO_0.out)
            have n1_ := Aside0.mk (Kd.R_drew HO_3.out)
            have n2_ := Aside0.mk (Kd.V_drew HO225.out)
            have n3_ := Aside0.mk (below_drew1 HB.out)
            clear HO_0
            clear HO_3
            clear HO225
            clear HB
            have HO_0 := n0_
            have HO_3 := n1_
            have HO225 := n2_
            have HB := n3_
            clear n0_ n1_ n2_ n3_
            have q34 : (254 : Int) ≤ ((x0_1.length : Int) : Int) := of_decide_eq_true (by first | (with_reducible assumption) | assumption)
            obtain ⟨i034, hi034, _, hsz34, _⟩ := info_parts info5
            have hroom34 : x0_1.length ≤ co31 := (Kd.V_reads' HO_0.out).2.1
            have hC34 : Kd.F (Kd.int .u8) _ _ Ao31 x0_1.length x0_1 := (Kd.V_at (base := w.heap.size) HO_0.out).2.2
            have hcut34 := cut_to (P := Try.prog) 39 5 .i64 Try.underlying39 hi034 Ao31 x0_1.length co31 254 (by omega) q34 hroom34
            have hr34 := Kd.F_take (m := 254) hC34 (by omega)
            have hy34 : y246.length = (254 : Int).toNat := (by rw [Ny246.out, List.length_take]; omega)
            rw [← Ny246.out] at hr34
            rw [← hy34] at hcut34
            have HO250 := Aside0.mk (show Kd.V (Kd.int .u8) 5 _ w.heap.size _ (.slice Ao31 y246.length co31) y246 from Kd.V_mk (by omega) hr34)
            have HC250 := Aside0.mk (show y246.length ≤ co31 from by omega)
            clear hr34 hC34 hroom34 hi034 hsz34
            have KY34 := Aside0.mk hy34
            clear hy34
            replace q34 := eq_true q34
            refine start_ (n := 7) (S := fun w' => True) (ds := []) #[false, false, false, false, false, false, false] (by kernel_rfl) rfl rfl trivial (fun hHeld => ?_)
            generalize wr.drew = w33 at HO_0 HO_3 HO225 HB HO250 hHeld ⊢
            refine pure_ (i := 0) (N := some 45) (v := ?_) (a' := ?_) #[true, false, false, false, false, false, false] rfl rfl (by kernel_rfl) (fun _ _ _ h => h) (Or.inl ⟨by rfl, ?_⟩) ?_ ?_
            rotate_left
            · intro w'; go_simp; with_reducible rfl
            rotate_left
            · simp only [Act.put, sA, sB, sC, i64_w, i32_w]; rfl
            refine pure_ (i := 3) (N := some 48) (v := ?_) (a' := ?_) #[true, false, false, true, false, false, false] rfl rfl (by kernel_rfl) (fun _ _ _ h => h) (Or.inl ⟨by rfl, ?_⟩) ?_ ?_
            rotate_left
            · intro w'; go_simp; with_reducible rfl
            rotate_left
            · simp only [Act.put, sA, sB, sC, i64_w, i32_w]; rfl
            refine pure_ (i := 4) (N := some 49) (v := ?_) (a' := ?_) #[true, false, false, true, true, false, false] rfl rfl (by kernel_rfl) (fun _ _ _ h => h) (Or.inl ⟨by rfl, ?_⟩) ?_ ?_
            rotate_left
            · intro w'; go_simp; with_reducible rfl
            rotate_left
            · simp only [Act.put, sA, sB, sC, i64_w, i32_w]; rfl
            refine one_ (i := 1) (N := some 46) #[true, true, false, true, true, false, false] rfl rfl (by kernel_rfl) (by decide) (fun K hK => ?_)
            refine value_ (w1 := ?_) (v := ?_) (by rfl) rfl ?_ ?_
            rotate_left 2
            ·
             go_simp
             constructor
             ·
              rfl
             ·
              rfl
            refine hK.out _ _ trivial (fun hHeld => ?_)
            clear hK K
            refine norm_ (a' := ?_) ?_ ?_
            rotate_left
            · show Act.put _ (some 46) _ = _; simp only [Act.put, sA, sB, sC, i64_w, i32_w]; rfl
            refine one_ (i := 2) (N := some 47) #[true, true, true, true, true, false, false] rfl rfl (by kernel_rfl) (by decide) (fun K hK => ?_)
            refine Kd.R_append_step (Kd.int .u8) (w0 := w) w.heap.size (by rfl) (.tmp 45) (.tmp 46) 39 5 (.int .u8 0) 1 rfl Try.underlying39 info5 rfl (by decide) (by omega) u3 x3_1 255 [.int .u8 255] (fun k_ => (w.heap.size ≤ k_)) (fun _ => False) rfl rfl ?aP (fun _ hk => hk.elim) ?aF ?aO ?aB ?aS ?aL ?_
            (case aP => exact rfl)
            (case aB => exact (by repeat with_reducible first | exact HB.out | apply below_alloc | apply pw_below_drewN | apply below_drew1))
            (case aF => exact (fun k_ hk => (Nat.le_trans (below_size (by repeat with_reducible first | exact HB.out | apply below_alloc | apply pw_below_drewN | apply below_drew1)) hk)))
            (case aO => exact (by (with_reducible repeat (first | apply Kd.R_alloc | apply Kd.R_drewN | apply Kd.R_drew)); exact HO_3.out))
            (case aS => exact (below_size (by repeat with_reducible first | exact HB.out | apply below_alloc | apply pw_below_drewN | apply below_drew1)))
            (case aL => have := LMc27.out; omega)
            intro v244 w35 ho hb hg hat
            rw [← Ny243.out] at ho
            have n0_ := Aside0.mk (Kd.V_afterv (ok := (fun k_ => (P0_ k_ ∨ w.heap.size ≤ k_))) (by (with_reducible repeat (first | apply Kd.V_alloc | apply Kd.V_drewN | apply Kd.V_drew)); exact HO_0.out) hg hat)
            have n1_ := Aside0.mk (Kd.V_afterv (ok := (fun k_ => (P0_ k_ ∨ w.heap.size ≤ k_))) (by (with_reducible repeat (first | apply Kd.V_alloc | apply Kd.V_drewN | apply Kd.V_drew)); exact HO225.out) hg hat)
            have n2_ := Aside0.mk (Kd.V_afterv (ok := (fun k_ => (P0_ k_ ∨ w.heap.size ≤ k_))) (by (with_reducible repeat (first | apply Kd.V_alloc | apply Kd.V_drewN | apply Kd.V_drew)); exact HO250.out) hg hat)
            have n3_ := Aside0.mk (hb)
            have n4_ := Aside0.mk (ho)
            clear HO_0
            clear HO225
            clear HO250
            clear HB
            clear HO_3
            have HO_0 := n0_
            have HO225 := n1_
            have HO250 := n2_
            have HB := n3_
            have HO245 := n4_
            clear n0_ n1_ n2_ n3_ n4_
            clear ho hb hg hat
            refine hK.out _ _ trivial (fun hHeld => ?_)
            clear hK K
            refine norm_ (a' := ?_) ?_ ?_
            rotate_left
            · show Act.put _ (some 47) _ = _; simp only [Act.put, sA, sB, sC, i64_w, i32_w]; rfl
            refine one_ (i := 5) (N := some 50) #[true, true, true, true, true, true, false] rfl rfl (by kernel_rfl) (by decide) (fun K hK => ?_)
            refine Kd.R_append_rows_step (Kd.int .u8) (w0 := w) w.heap.size (by rfl) (.tmp 47) (.tmp 49) 39 5 (.int .u8 0) 1 rfl Try.underlying39 info5 rfl (by decide) (by omega) v244 y243 y246 _ _ _ (fun k_ => (w.heap.size ≤ k_)) (fun _ => False) rfl rfl ?aO ?aR (fun _ _ h => h) (fun _ h => h.elim) ?aF ?aB ?aS ?aL ?_
            (case aR => repeat (first | exact (Kd.V_reads' HO250.out).2.2 | (with_reducible refine Kd.C_alloc ?_ _) | (with_reducible refine Kd.C_drewN ?_ _) | (with_reducible refine Kd.C_drew ?_)))
            (case aB => exact (by repeat with_reducible first | exact HB.out | apply below_alloc | apply pw_below_drewN | apply below_drew1))
            (case aF => exact (fun k_ hk => (Nat.le_trans (below_size (by repeat with_reducible first | exact HB.out | apply below_alloc | apply pw_below_drewN | apply below_drew1)) hk)))
            (case aO => exact (by (with_reducible repeat (first | apply Kd.R_alloc | apply Kd.R_drewN | apply Kd.R_drew)); exact HO245.out))
            (case aS => exact (below_size (by repeat with_reducible first | exact HB.out | apply below_alloc | apply pw_below_drewN | apply below_drew1)))
            (case aL => have := LMc29.out; omega)
            intro v252 w36 ho hb hg hat
            rw [← Ny251.out] at ho
            have n0_ := Aside0.mk (Kd.V_afterv (ok := (fun k_ => (P0_ k_ ∨ w.heap.size ≤ k_))) (by (with_reducible repeat (first | apply Kd.V_alloc | apply Kd.V_drewN | apply Kd.V_drew)); exact HO_0.out) hg hat)
            have n1_ := Aside0.mk (Kd.V_afterv (ok := (fun k_ => (P0_ k_ ∨ w.heap.size ≤ k_))) (by (with_reducible repeat (first | apply Kd.V_alloc | apply Kd.V_drewN | apply Kd.V_drew)); exact HO225.out) hg hat)
            have n2_ := Aside0.mk (Kd.V_afterv (ok := (fun k_ => (P0_ k_ ∨ w.heap.size ≤ k_))) (by (with_reducible repeat (first | apply Kd.V_alloc | apply Kd.V_drewN | apply Kd.V_drew)); exact HO250.out) hg hat)
            have n3_ := Aside0.mk (hb)
            have n4_ := Aside0.mk (ho)
            clear HO_0
            clear HO225
            clear HO250
            clear HB
            clear HO245
            have HO_0 := n0_
            have HO225 := n1_
            have HO250 := n2_
            have HB := n3_
            have HO253 := n4_
            clear n0_ n1_ n2_ n3_ n4_
            clear ho hb hg hat
            refine hK.out _ _ trivial (fun hHeld => ?_)
            clear hK K
            refine norm_ (a' := ?_) ?_ ?_
            rotate_left
            · show Act.put _ (some 50) _ = _; simp only [Act.put, sA, sB, sC, i64_w, i32_w]; rfl
            refine pure_ (i := 6) (N := some 3) (v := ?_) (a' := ?_) #[true, true, true, true, true, true, true] rfl rfl (by kernel_rfl) (fun _ _ _ h => h) (Or.inl ⟨by rfl, ?_⟩) ?_ ?_
            rotate_left
            · intro w'; go_simp; with_reducible rfl
            rotate_left
            · simp only [Act.put, sA, sB, sC, i64_w, i32_w]; rfl
            refine done_ (by kernel_rfl) ?_
            have q37 : (254 : Int) ≤ ((x0_1.length : Int) : Int) := of_decide_eq_true (by first | (with_reducible assumption) | assumption)
            obtain ⟨i037, hi037, _, hsz37, _⟩ := info_parts info5
            have hroom37 : x0_1.length ≤ co31 := (Kd.V_reads' HO_0.out).2.1
            have hC37 : Kd.F (Kd.int .u8) _ _ Ao31 x0_1.length x0_1 := (Kd.V_at (base := w.heap.size) HO_0.out).2.2
            have hcut37 := cut_from (P := Try.prog) 39 5 .i64 Try.underlying39 hi037 1 hsz37 Ao31 x0_1.length co31 254 (by omega) q37
            have hr37 := Kd.F_cut (m := (254 : Int).toNat) (c := co31) hC37 (by omega) hroom37
            obtain ⟨A37, hA37⟩ : ∃ A1, A1 = (if co31 = (254 : Int).toNat then Ao31 else (Ao31 : Option Addr).map (·.add ((254 : Int).toNat * 1))) := ⟨_, rfl⟩
            obtain ⟨c37, hc37⟩ : ∃ c1, c1 = co31 - (254 : Int).toNat := ⟨_, rfl⟩
            have hy37 : y254.length = x0_1.length - (254 : Int).toNat := (by rw [Ny254.out, List.length_drop] <;> omega)
            rw [show (x0_1).drop (254 : Int).toNat = y254 from Ny254.out.symm] at hr37
            replace hr37 : Kd.F (Kd.int .u8) _ _ A37 y254.length y254 := (by rw [hA37]; exact hr37)
            rw [← hy37, ← hA37, ← hc37] at hcut37
            have HO258 := Aside0.mk (show Kd.V (Kd.int .u8) 5 _ w.heap.size _ (.slice A37 y254.length c37) y254 from Kd.V_mk (by rw [hy37, hc37]; exact Nat.sub_le_sub_right hroom37 _) hr37)
            have HC258 := Aside0.mk (show y254.length ≤ c37 from by rw [hy37, hc37]; exact Nat.sub_le_sub_right hroom37 _)
            clear hr37 hC37 hroom37 hi037 hsz37 hc37
            have KY37 := Aside0.mk hy37
            have KA37 := Aside0.mk hA37
            clear hy37 hA37
            replace q37 := eq_true q37
            try go_wp2
            go_roundg k1
            case measure => have := HK1.out; omega
            case rel => exact ⟨(y254), (y251), H', ⟨by have := HK1.out; omega⟩, ⟨by (with_reducible repeat (first | apply Kd.V_alloc | apply Kd.V_drewN | apply Kd.V_drew)); exact HO258.out⟩, ⟨by (with_reducible repeat (first | apply Kd.R_alloc | apply Kd.R_drewN | apply Kd.R_drew)); exact HO253.out⟩, ⟨by repeat (first | (with_reducible first | exact HB.out | apply below_alloc | apply pw_below_drewN | apply below_drew1) | exact HB.out)⟩⟩
           ·
            rw [if_neg c29] at H
            exact absurd H (by simp)
          ·
           rw [if_neg c28] at H
           exact absurd H (by simp)
         ·
          rw [if_neg c27] at H
          exact absurd H (by simp)
        ·
         rw [if_neg c26] at H
         have c26b0 : decide (254 < (x0_1.length : Int)) = false := decide_eq_false c26
         have c26b1 : decide (254 < x0_1.length) = false := decide_eq_false (by omega)
         clear c26
         by_cases c38 : x3_1.length < 140737488355328
         ·
          rw [if_pos c38] at H
          have LMc38 := Aside0.mk c38
          clear c38
          obtain ⟨y259, hy259⟩ : ∃ y_ : List Int, y_ = (x3_1 ++ [(wrap64 ((x0_1.length : Int) + 1)) % 256]) := ⟨_, rfl⟩
          replace H : (if y259.length + x0_1.length < 140737488355328 then (some (y259 ++ x0_1)) else (none)) = some r := by first | (rw [hy259]; with_reducible exact H) | (have H2_ := (Option.bind_some _ _).symm.trans H; rw [hy259]; with_reducible exact H2_) | (have H2_ := (Option.bind_some _ _).symm.trans H; with_reducible exact H2_) | with_reducible exact H | (rw [hy259]; exact H) | exact H
          have Ny259 := Aside0.mk hy259
          clear hy259
          by_cases c39 : y259.length + x0_1.length < 140737488355328
          ·
           rw [if_pos c39] at H
           have LMc39 := Aside0.mk c39
           clear c39
           obtain ⟨y262, hy262⟩ : ∃ y_ : List Int, y_ = (y259 ++ x0_1) := ⟨_, rfl⟩
           replace H : (some y262) = some r := by first | (rw [hy262]; with_reducible exact H) | (have H2_ := (Option.bind_some _ _).symm.trans H; rw [hy262]; with_reducible exact H2_) | (have H2_ := (Option.bind_some _ _).symm.trans H; with_reducible exact H2_) | with_reducible exact H | (rw [hy262]; exact H) | exact H
           have Ny262 := Aside0.mk hy262
           clear hy262
           obtain rfl := Option.some.inj H
           obtain ⟨Ao40, co40, eo40⟩ := Kd.V_slice HO_0.out
           subst eo40
           have q41 : ((ji7) : Int) ≤ ((x0_1.length : Int) : Int) := of_decide_eq_true (by first | (with_reducible assumption) | assumption)
           obtain ⟨i041, hi041, _, hsz41, _⟩ := info_parts info5
           have hroom41 : x0_1.length ≤ co40 := (Kd.V_reads' HO_0.out).2.1
           have hC41 : Kd.F (Kd.int .u8) _ _ Ao40 x0_1.length x0_1 := (Kd.V_at (base := w.heap.size) HO_0.out).2.2
           have hcut41 := cut_to (P := Try.prog) 39 5 .i64 Try.underlying39 hi041 Ao40 x0_1.length co40 (ji7) (of_decide_eq_true (by first | (with_reducible assumption) | assumption)) q41 hroom41
           have hr41 := Kd.F_take (m := ((ji7) : Int).toNat) hC41 (by omega)
           have hy41 : y221.length = ((ji7) : Int).toNat := (by rw [Ny221.out, List.length_take]; omega)
           rw [← Ny221.out] at hr41
           rw [← hy41] at hcut41
           have HO225 := Aside0.mk (show Kd.V (Kd.int .u8) 5 _ w.heap.size _ (.slice Ao40 y221.length co40) y221 from Kd.V_mk (by omega) hr41)
           have HC225 := Aside0.mk (show y221.length ≤ co40 from by omega)
           clear hr41 hC41 hroom41 hi041 hsz41
           have KY41 := Aside0.mk hy41
           clear hy41
           replace q41 := eq_true q41
           go_wp2_with (first | ((with_reducible refine gate_callee (f := 109) rfl ?_); refine goesL_ (some 14) rfl rfl Try.func109 (by kernel_rfl) rfl #[.slice Ao40 y221.length co40, .int .u8 0] rfl (by (try simp only [mA, mB, mC]); first | done | rfl) ?_; (with_reducible refine (bytes_IndexByte.calls _ _ y221 0 t226 _ ?side1 ?side2 A10.out).mono ?_); (case side1 => repeat (first | exact (Kd.V_reads' HO225.out).2.2 | (with_reducible refine Kd.C_alloc ?_ _) | (with_reducible refine Kd.C_drewN ?_ _) | (with_reducible refine Kd.C_drew ?_))); (case side2 => exact (Kd.V_reads' HO225.out).2.1); rintro e w' ⟨rfl, ⟨nd, rfl⟩⟩; refine ⟨_, rfl, ?_⟩) | ((with_reducible refine gate_builtin (b := .append) (xs := #[.tmp 15, .tmp 20]) rfl ?_); at_builtin; refine Kd.R_append (Kd.int .u8) (w0 := w) w.heap.size rfl (.tmp 15) (.tmp 20) 39 5 (.int .u8 0) 1 rfl Try.underlying39 info5 rfl (by decide) (by omega) u3 x3_1 ((wrap64 ((x0_1.length : Int) + 1)) % 256) [.int .u8 ((wrap64 ((x0_1.length : Int) + 1)) % 256)] (fun k_ => (w.heap.size ≤ k_)) (fun _ => False) rfl rfl ?aP (fun _ hk => hk.elim) ?aF ?aO ?aB ?aS ?aL ?_; (case aP => exact rfl); (case aB => exact (by repeat with_reducible first | exact HB.out | apply below_alloc | apply pw_below_drewN | apply below_drew1)); (case aF => exact (fun k_ hk => (Nat.le_trans (below_size (by repeat with_reducible first | exact HB.out | apply below_alloc | apply pw_below_drewN | apply below_drew1)) hk))); (case aO => exact (by (with_reducible repeat (first | apply Kd.R_alloc | apply Kd.R_drewN | apply Kd.R_drew)); exact HO_3.out)); (case aS => exact (below_size (by repeat with_reducible first | exact HB.out | apply below_alloc | apply pw_below_drewN | apply below_drew1))); (case aL => have := LMc38.out; omega); intro v260 w42 ho hb hg hat; rw [← Ny259.out] at ho; replace HO_0 := Aside0.mk (Kd.V_afterv (ok := (fun k_ => (P0_ k_ ∨ w.heap.size ≤ k_))) (by (with_reducible repeat (first | apply Kd.V_alloc | apply Kd.V_drewN | apply Kd.V_drew)); exact HO_0.out) hg hat); replace HO225 := Aside0.mk (Kd.V_afterv (ok := (fun k_ => (P0_ k_ ∨ w.heap.size ≤ k_))) (by (with_reducible repeat (first | apply Kd.V_alloc | apply Kd.V_drewN | apply Kd.V_drew)); exact HO225.out) hg hat); replace HB := Aside0.mk (hb); have HO261 := Aside0.mk (ho); clear HO_3; clear ho hb hg hat) | ((with_reducible refine gate_builtin (b := .append) (xs := #[.tmp 21, .tmp 22]) rfl ?_); at_builtin; refine Kd.R_append_rows (Kd.int .u8) (w0 := w) w.heap.size rfl (.tmp 21) (.tmp 22) 39 5 (.int .u8 0) 1 rfl Try.underlying39 info5 rfl (by decide) (by omega) v260 y259 x0_1 _ _ _ (fun k_ => (w.heap.size ≤ k_)) (fun _ => False) rfl rfl ?aO ?aR (fun _ _ h => h) (fun _ h => h.elim) ?aF ?aB ?aS ?aL ?_; (case aR => repeat (first | exact (Kd.V_reads' HO_0.out).2.2 | (with_reducible refine Kd.C_alloc ?_ _) | (with_reducible refine Kd.C_drewN ?_ _) | (with_reducible refine Kd.C_drew ?_))); (case aB => exact (by repeat with_reducible first | exact HB.out | apply below_alloc | apply pw_below_drewN | apply below_drew1)); (case aF => exact (fun k_ hk => (Nat.le_trans (below_size (by repeat with_reducible first | exact HB.out | apply below_alloc | apply pw_below_drewN | apply below_drew1)) hk))); (case aO => exact (by (with_reducible repeat (first | apply Kd.R_alloc | apply Kd.R_drewN | apply Kd.R_drew)); exact HO261.out)); (case aS => exact (below_size (by repeat with_reducible first | exact HB.out | apply below_alloc | apply pw_below_drewN | apply below_drew1))); (case aL => have := LMc39.out; omega); intro v263 w43 ho hb hg hat; rw [← Ny262.out] at ho; replace HO_0 := Aside0.mk (Kd.V_afterv (ok := (fun k_ => (P0_ k_ ∨ w.heap.size ≤ k_))) (by (with_reducible repeat (first | apply Kd.V_alloc | apply Kd.V_drewN | apply Kd.V_drew)); exact HO_0.out) hg hat); replace HO225 := Aside0.mk (Kd.V_afterv (ok := (fun k_ => (P0_ k_ ∨ w.heap.size ≤ k_))) (by (with_reducible repeat (first | apply Kd.V_alloc | apply Kd.V_drewN | apply Kd.V_drew)); exact HO225.out) hg hat); replace HB := Aside0.mk (hb); have HO264 := Aside0.mk (ho); clear HO261; clear ho hb hg hat))
           go_ret
           exact ⟨_, by first | rfl | (simp <;> rfl) | (simp only [← hji7]; first | rfl | (simp <;> rfl)) | (simp [*] <;> rfl), by (with_reducible repeat (first | apply Kd.R_alloc | apply Kd.R_drewN | apply Kd.R_drew)); exact HO264.out, by repeat (first | (with_reducible first | exact HB.out | apply below_alloc | apply pw_below_drewN | apply below_drew1) | exact HB.out)⟩
          ·
           rw [if_neg c39] at H
           exact absurd H (by simp)
         ·
          rw [if_neg c38] at H
          exact absurd H (by simp)
      ·
       rw [if_neg c9] at H
       exact absurd H (by simp)
     ·
      rw [if_neg c8] at H
      exact absurd H (by simp)
  ·
   rw [if_neg c4] at H
   exact absurd H (by simp)
 ·
  rw [if_neg c3] at H
  exact absurd H (by simp)
end Go.Proofs.Ytekanmieppnpeaa.G
end
section
namespace Go.Proofs.Ytekanmieppnpeaa.G
open Go.RowKit Go.Proofs.YtekanmieppnpeaaW.PrintWords Go.Proofs.YtekanmieppnpeaaW.PrintLast Go.Proofs.YtekanmieppnpeaaW.PrintMore
attribute [local go_sem] max2_int min2_int max_two min_two max_three min_three max_four min_four   -- for this text's walks alone
def bytes_Equal.f (l0 : List Int) (l1 : List Int) : Option (Bool) := some ((strOfNums l0).toList == (strOfNums l1).toList)
theorem bytes_Equal.calls (A0 : Option Addr) (c0 : Nat) (l0 : List Int) (A1 : Option Addr) (c1 : Nat) (l1 : List Int) (r : Bool) (w : World) (hr0 : Kd.C (Kd.int .u8) w A0 l0.length l0) (hc0 : l0.length ≤ c0) (hr1 : Kd.C (Kd.int .u8) w A1 l1.length l1) (hc1 : l1.length ≤ c1) (h : bytes_Equal.f l0 l1 = some r) :
  Calls Try.prog 110 #[.slice A0 l0.length c0, .slice A1 l1.length c1] w fun e w' => e = .returned (.bool r) ∧ Drawn0 w w' := by
 have HR0 := Aside0.mk hr0
 have HC0 := Aside0.mk hc0
 clear hr0 hc0
 have HR1 := Aside0.mk hr1
 have HC1 := Aside0.mk hc1
 clear hr1 hc1
 have H : (some ((strOfNums l0).toList == (strOfNums l1).toList)) = some r := h
 clear h
 obtain rfl := Option.some.inj H
 have hcv3 := Kd.C_string (P := Try.prog) (A := A0) (c := c0) Try.underlying39 Try.underlying5 Try.underlying9 HR0.out
 have hcv4 := Kd.C_string (P := Try.prog) (A := A1) (c := c1) Try.underlying39 Try.underlying5 Try.underlying9 HR1.out
 go_enter Try.func110, Try.ntmps110
 go_wp2
 go_ret
 exact ⟨by first | rfl | (simp; done) | (simp [*]; done), by repeat (first | exact Drawn0.refl _ | apply Drawn0.step)⟩
def cobs_Unstuff.l0 : Nat → List Int → List Int → List Int → Option (List Int × Int)
 | 0, _, _, _ => none
 | k + 1, x0, x4, x5 => if (x5.length : Int) > 0 then (if 0 < (x5.length : Int) then (if (wrap64 (rd x5 0)) > (x5.length : Int) then (some (([] : List Int), 2)) else (if 1 ≤ (wrap64 (rd x5 0)) then (if (wrap64 (rd x5 0)) ≤ (x5.length : Int) then ((some ((x5.take ((wrap64 (rd x5 0)) : Int).toNat).drop 1 : List Int)).bind fun y275 => (if x4.length + y275.length < 140737488355328 then ((some (x4 ++ y275 : List Int)).bind fun y280 => (if 0 ≤ (wrap64 (rd x5 0)) then ((some (x5.drop ((wrap64 (rd x5 0)) : Int).toNat : List Int)).bind fun y283 => (if (wrap64 (rd x5 0)) ≤ 254 then (if (y283.length : Int) > 0 then (if y280.length < 140737488355328 then (cobs_Unstuff.l0 k x0 (y280 ++ [0]) y283) else (none)) else (cobs_Unstuff.l0 k x0 y280 y283)) else (cobs_Unstuff.l0 k x0 y280 y283))) else (none))) else (none))) else (none)) else (none))) else (none)) else ((cobs_Stuff.f k x4).bind fun t291 => ((bytes_Equal.f t291 x0).bind fun t294 => (if t294 = true then (some (x4, 0)) else (some (([] : List Int), 4)))))
def cobs_Unstuff.f (k : Nat) (l0 : List Int) : Option (List Int × Int) := (bytes_IndexByte.f l0 0).bind fun t273 => (if t273 ≥ 0 then (some (([] : List Int), 4)) else (if (l0.length : Int) = 0 then (some (([] : List Int), 2)) else (cobs_Unstuff.l0 k l0 ([] : List Int) l0)))
theorem cobs_Unstuff.mono_l : ∀ k, (∀ y0 y1 y2, LeO (cobs_Unstuff.l0 k y0 y1 y2) (cobs_Unstuff.l0 (k + 1) y0 y1 y2))
 | 0 => fun _ _ _ r h => by simp [cobs_Unstuff.l0] at h
 | k + 1 => by
  have ih0 := cobs_Unstuff.mono_l k
  ·
   intro y0 y1 y2
   unfold cobs_Unstuff.l0
   repeat' first
   | (with_reducible exact ih0 _ _ _)
   | (with_reducible exact cobs_Stuff.mono _ _)
   | (with_reducible exact LeO.refl _)
   | (with_reducible exact LeO.none _)
   | (with_reducible refine LeO.ite ?_ ?_)
   | (with_reducible refine LeO.bind ?_ (fun _ => ?_))
   | exact ih0 _ _ _
   | exact cobs_Stuff.mono _ _
   | exact LeO.none _
   | refine LeO.ite ?_ ?_
   | refine LeO.bind ?_ (fun _ => ?_)
theorem cobs_Unstuff.mono : ∀ a0 k, LeO (cobs_Unstuff.f k a0) (cobs_Unstuff.f (k + 1) a0) := by
 intro a0 k
 have ih0 := cobs_Unstuff.mono_l k
 unfold cobs_Unstuff.f
 repeat' first
   | (with_reducible exact ih0 _ _ _)
   | (with_reducible exact cobs_Stuff.mono _ _)
   | (with_reducible exact LeO.refl _)
   | (with_reducible exact LeO.none _)
   | (with_reducible refine LeO.ite ?_ ?_)
   | (with_reducible refine LeO.bind ?_ (fun _ => ?_))
   | exact ih0 _ _ _
   | exact cobs_Stuff.mono _ _
   | exact LeO.none _
   | refine LeO.ite ?_ ?_
   | refine LeO.bind ?_ (fun _ => ?_)
theorem cobs_Unstuff.calls (k : Nat) (P0_ : Nat → Prop) (A0 : Option Addr) (c0 : Nat) (l0 : List Int) (r1 : List Int) (r2 : Int) (w : World) (hs0 : Kd.V (Kd.int .u8) 5 w w.heap.size (fun k_ => P0_ k_) (.slice A0 l0.length c0) l0) (h : cobs_Unstuff.f k l0 = some (r1, r2)) :
  Calls Try.prog 50 #[.slice A0 l0.length c0] w fun e w' => ∃ v0_ : Value, e = .returned (.tuple #[v0_, .int .i64 r2]) ∧ Kd.R (Kd.int .u8) 5 w' w.heap.size (fun k_ => (w.heap.size ≤ k_)) v0_ r1 ∧ Below w.heap.size w w' := by
 have HO0 := Aside0.mk (show Kd.V (Kd.int .u8) 5 w w.heap.size (fun k_ => (P0_ k_ ∨ w.heap.size ≤ k_)) (.slice A0 l0.length c0) l0 from Kd.V_mono hs0 (fun k_ hk => .inl hk))
 have HB := Aside0.mk (Below.refl w.heap.size w)
 have H : ((bytes_IndexByte.f l0 0).bind fun t273 => (if t273 ≥ 0 then (some (([] : List Int), 4)) else (if (l0.length : Int) = 0 then (some (([] : List Int), 2)) else (cobs_Unstuff.l0 k l0 ([] : List Int) l0)))) = some (r1, r2) := h
 clear h
 replace H := Option.bind_eq_some_iff.mp H
 obtain ⟨t273, A20, H⟩ := H
 replace H : (if t273 ≥ 0 then (some (([] : List Int), 4)) else (if (l0.length : Int) = 0 then (some (([] : List Int), 2)) else (cobs_Unstuff.l0 k l0 ([] : List Int) l0))) = some (r1, r2) := H
 have A2 := Aside0.mk A20
 clear A20
 by_cases c3 : t273 ≥ 0
 ·
  rw [if_pos c3] at H
  have c3b0 : decide (0 ≤ t273) = true := decide_eq_true c3
  clear c3
  simp only [Option.some.injEq, Prod.mk.injEq] at H
  obtain ⟨rfl, rfl⟩ := H
  go_enter Try.func50, Try.ntmps50
  go_wp2_with (first | ((with_reducible refine gate_callee (f := 109) rfl ?_); refine goesL_ (some 8) rfl rfl Try.func109 (by kernel_rfl) rfl #[.slice A0 l0.length c0, .int .u8 0] rfl (by (try simp only [mA, mB, mC]); first | done | rfl) ?_; (with_reducible refine (bytes_IndexByte.calls _ _ l0 0 t273 _ ?side1 ?side2 A2.out).mono ?_); (case side1 => repeat (first | exact (Kd.V_reads' HO0.out).2.2 | (with_reducible refine Kd.C_alloc ?_ _) | (with_reducible refine Kd.C_drewN ?_ _) | (with_reducible refine Kd.C_drew ?_))); (case side2 => exact (Kd.V_reads' HO0.out).2.1); rintro e w' ⟨rfl, ⟨nd, rfl⟩⟩; refine ⟨_, rfl, ?_⟩))
  go_ret2
  exact ⟨_, by first | rfl | (simp <;> rfl) | (simp [*] <;> rfl), by first | exact Kd.R_nil _ _ _ _ _ | exact Kd.N_nil _ _ _ _ _ | exact Kd.V_nil _ _ _ _ _ | exact Kd.Q_nil _ _ _ _ _ | exact Kd.S_nil _ _ _ _ _, by repeat (first | (with_reducible first | exact HB.out | apply below_alloc | apply pw_below_drewN | apply below_drew1) | exact HB.out)⟩
 ·
  rw [if_neg c3] at H
  have c3b0 : decide (0 ≤ t273) = false := decide_eq_false c3
  clear c3
  by_cases c4 : (l0.length : Int) = 0
  ·
   rw [if_pos c4] at H
   have c4b0 : ((l0.length : Int) == 0) = true := beq_iff_eq.mpr c4
   have c4b1 : ((l0.length : Int) != 0) = false := bne_eq_false_iff_eq.mpr c4
   clear c4
   simp only [Option.some.injEq, Prod.mk.injEq] at H
   obtain ⟨rfl, rfl⟩ := H
   go_enter Try.func50, Try.ntmps50
   go_wp2_with (first | ((with_reducible refine gate_callee (f := 109) rfl ?_); refine goesL_ (some 8) rfl rfl Try.func109 (by kernel_rfl) rfl #[.slice A0 l0.length c0, .int .u8 0] rfl (by (try simp only [mA, mB, mC]); first | done | rfl) ?_; (with_reducible refine (bytes_IndexByte.calls _ _ l0 0 t273 _ ?side1 ?side2 A2.out).mono ?_); (case side1 => repeat (first | exact (Kd.V_reads' HO0.out).2.2 | (with_reducible refine Kd.C_alloc ?_ _) | (with_reducible refine Kd.C_drewN ?_ _) | (with_reducible refine Kd.C_drew ?_))); (case side2 => exact (Kd.V_reads' HO0.out).2.1); rintro e w' ⟨rfl, ⟨nd, rfl⟩⟩; refine ⟨_, rfl, ?_⟩))
   go_ret2
   exact ⟨_, by first | rfl | (simp <;> rfl) | (simp [*] <;> rfl), by first | exact Kd.R_nil _ _ _ _ _ | exact Kd.N_nil _ _ _ _ _ | exact Kd.V_nil _ _ _ _ _ | exact Kd.Q_nil _ _ _ _ _ | exact Kd.S_nil _ _ _ _ _, by repeat (first | (with_reducible first | exact HB.out | apply below_alloc | apply pw_below_drewN | apply below_drew1) | exact HB.out)⟩
  ·
   rw [if_neg c4] at H
   have c4b0 : ((l0.length : Int) == 0) = false := beq_eq_false_iff_ne.mpr c4
   have c4b1 : ((l0.length : Int) != 0) = true := bne_iff_ne.mpr c4
   have c4b2 : ¬ (l0 = []) := fun h_ => c4 (by rw [h_]; rfl)
   have H' := Aside0.mk H
   clear H
   go_enter Try.func50, Try.ntmps50
   go_wp2_with (first | ((with_reducible refine gate_callee (f := 109) rfl ?_); refine goesL_ (some 8) rfl rfl Try.func109 (by kernel_rfl) rfl #[.slice A0 l0.length c0, .int .u8 0] rfl (by (try simp only [mA, mB, mC]); first | done | rfl) ?_; (with_reducible refine (bytes_IndexByte.calls _ _ l0 0 t273 _ ?side1 ?side2 A2.out).mono ?_); (case side1 => repeat (first | exact (Kd.V_reads' HO0.out).2.2 | (with_reducible refine Kd.C_alloc ?_ _) | (with_reducible refine Kd.C_drewN ?_ _) | (with_reducible refine Kd.C_drew ?_))); (case side2 => exact (Kd.V_reads' HO0.out).2.1); rintro e w' ⟨rfl, ⟨nd, rfl⟩⟩; refine ⟨_, rfl, ?_⟩))
   go_loopg [4, 5] k (fun kq v4 v5 w' => ∃ (x4_1 : List Int) (x5_1 : List Int), Aside0 (cobs_Unstuff.l0 kq l0 x4_1 x5_1 = some (r1, r2)) ∧ Aside0 (kq ≤ k) ∧ Aside0 (Kd.V (Kd.int .u8) 5 w' w.heap.size (fun k_ => (P0_ k_ ∨ w.heap.size ≤ k_) ∧ some k_ ≠ (v4 : Value).ownBlock) (.slice A0 l0.length c0) l0) ∧ Aside0 (Kd.R (Kd.int .u8) 5 w' w.heap.size (fun k_ => (w.heap.size ≤ k_)) v4 x4_1) ∧ Aside0 (Kd.V (Kd.int .u8) 5 w' w.heap.size (fun k_ => (P0_ k_ ∨ w.heap.size ≤ k_) ∧ some k_ ≠ (v4 : Value).ownBlock) v5 x5_1) ∧ Aside0 (Below w.heap.size w w'))
   case atStart => exact ⟨(([] : List Int)), (l0), H', ⟨Nat.le_refl _⟩, ⟨by (with_reducible repeat (first | apply Kd.V_alloc | apply Kd.V_drewN | apply Kd.V_drew)); exact Kd.V_mono HO0.out (fun _ hk => ⟨hk, (by simp [Value.ownBlock])⟩)⟩, ⟨by first | exact Kd.R_nil _ _ _ _ _ | exact Kd.N_nil _ _ _ _ _ | exact Kd.V_nil _ _ _ _ _ | exact Kd.Q_nil _ _ _ _ _ | exact Kd.S_nil _ _ _ _ _⟩, ⟨by (with_reducible repeat (first | apply Kd.V_alloc | apply Kd.V_drewN | apply Kd.V_drew)); exact Kd.V_mono HO0.out (fun _ hk => ⟨hk, (by simp [Value.ownBlock])⟩)⟩, ⟨by repeat (first | (with_reducible first | exact HB.out | apply below_alloc | apply pw_below_drewN | apply below_drew1) | exact HB.out)⟩⟩
   case round =>
    clear H'
    try clear c1
    try clear p2
    try clear c3
    try clear c3b0
    try clear c4
    try clear c4b0
    try clear c4b1
    try clear c4b2
    obtain ⟨x4_1, x5_1, HA, HK1, HO_0, HO_4, HO_5, HB⟩ := hrel
    cases gk with
    | zero => exact absurd HA.out (by simp [cobs_Unstuff.l0])
    | succ k1 =>
     have H := HA.out
     clear HA
     simp only [cobs_Unstuff.l0] at H
     by_cases c5 : (x5_1.length : Int) > 0
     ·
      rw [if_pos c5] at H
      have c5b0 : decide (0 < (x5_1.length : Int)) = true := decide_eq_true c5
      have c5b1 : decide (0 < x5_1.length) = true := decide_eq_true (by omega)
      clear c5
      by_cases c6 : 0 < (x5_1.length : Int)
      ·
       rw [if_pos c6] at H
       have c6b0 : decide (0 < (x5_1.length : Int)) = true := decide_eq_true c6
       have c6b1 : decide (0 < x5_1.length) = true := decide_eq_true (by omega)
       clear c6
       by_cases c7 : (wrap64 (rd x5_1 0)) > (x5_1.length : Int)
       ·
        rw [if_pos c7] at H
        have c7b0 : decide ((x5_1.length : Int) < (wrap64 (rd x5_1 0))) = true := decide_eq_true c7
        clear c7
        simp only [Option.some.injEq, Prod.mk.injEq] at H
        obtain ⟨rfl, rfl⟩ := H
        obtain ⟨Ao8, co8, eo8⟩ := Kd.V_slice HO_5.out
        subst eo8
        have p274 : 0 ≤ (0 : Int) := (by omega)
        have q274 : 0 < (x5_1.length : Int) := of_decide_eq_true (by first | (with_reducible assumption) | assumption)
        obtain ⟨ad274, e274, hx274_0⟩ := Kd.at_int (Kd.V_reads' HO_5.out).2.2 0 p274 q274
        cases e274
        have qi274 : (0 < x5_1.length) = True := eq_true (by omega)
        (try rw [show ((0 : Int)).toNat = 0 from rfl] at hx274_0)
        (try rw [Addr.add_zero'] at hx274_0)
        replace p274 := eq_true p274
        replace q274 := eq_true q274
        go_wp2
        go_ret2
        exact ⟨_, by first | rfl | (simp <;> rfl) | (simp [*] <;> rfl), by first | exact Kd.R_nil _ _ _ _ _ | exact Kd.N_nil _ _ _ _ _ | exact Kd.V_nil _ _ _ _ _ | exact Kd.Q_nil _ _ _ _ _ | exact Kd.S_nil _ _ _ _ _, by repeat (first | (with_reducible first | exact HB.out | apply below_alloc | apply pw_below_drewN | apply below_drew1) | exact HB.out)⟩
       ·
        rw [if_neg c7] at H
        have c7b0 : decide ((x5_1.length : Int) < (wrap64 (rd x5_1 0))) = false := decide_eq_false c7
        clear c7
        by_cases c9 : 1 ≤ (wrap64 (rd x5_1 0))
        ·
         rw [if_pos c9] at H
         have c9b0 := eq_true c9
         have c9b1 : decide (1 ≤ (wrap64 (rd x5_1 0))) = true := decide_eq_true c9
         clear c9
         by_cases c10 : (wrap64 (rd x5_1 0)) ≤ (x5_1.length : Int)
         ·
          rw [if_pos c10] at H
          have c10b0 := eq_true c10
          have c10b1 : decide ((wrap64 (rd x5_1 0)) ≤ (x5_1.length : Int)) = true := decide_eq_true c10
          clear c10
          obtain ⟨y275, hy275⟩ : ∃ y_ : List Int, y_ = ((x5_1.take ((wrap64 (rd x5_1 0)) : Int).toNat).drop 1) := ⟨_, rfl⟩
          replace H : (if x4_1.length + y275.length < 140737488355328 then ((some (x4_1 ++ y275 : List Int)).bind fun y280 => (if 0 ≤ (wrap64 (rd x5_1 0)) then ((some (x5_1.drop ((wrap64 (rd x5_1 0)) : Int).toNat : List Int)).bind fun y283 => (if (wrap64 (rd x5_1 0)) ≤ 254 then (if (y283.length : Int) > 0 then (if y280.length < 140737488355328 then (cobs_Unstuff.l0 k1 l0 (y280 ++ [0]) y283) else (none)) else (cobs_Unstuff.l0 k1 l0 y280 y283)) else (cobs_Unstuff.l0 k1 l0 y280 y283))) else (none))) else (none)) = some (r1, r2) := by first | (rw [hy275]; with_reducible exact H) | (have H2_ := (Option.bind_some _ _).symm.trans H; rw [hy275]; with_reducible exact H2_) | (have H2_ := (Option.bind_some _ _).symm.trans H; with_reducible exact H2_) | with_reducible exact H | (rw [hy275]; exact H) | exact H
          have Ny275 := Aside0.mk hy275
          clear hy275
          by_cases c11 : x4_1.length + y275.length < 140737488355328
          ·
           rw [if_pos c11] at H
           have LMc11 := Aside0.mk c11
           clear c11
           obtain ⟨y280, hy280⟩ : ∃ y_ : List Int, y_ = (x4_1 ++ y275) := ⟨_, rfl⟩
           replace H : (if 0 ≤ (wrap64 (rd x5_1 0)) then ((some (x5_1.drop ((wrap64 (rd x5_1 0)) : Int).toNat : List Int)).bind fun y283 => (if (wrap64 (rd x5_1 0)) ≤ 254 then (if (y283.length : Int) > 0 then (if y280.length < 140737488355328 then (cobs_Unstuff.l0 k1 l0 (y280 ++ [0]) y283) else (none)) else (cobs_Unstuff.l0 k1 l0 y280 y283)) else (cobs_Unstuff.l0 k1 l0 y280 y283))) else (none)) = some (r1, r2) := by first | (rw [hy280]; with_reducible exact H) | (have H2_ := (Option.bind_some _ _).symm.trans H; rw [hy280]; with_reducible exact H2_) | (have H2_ := (Option.bind_some _ _).symm.trans H; with_reducible exact H2_) | with_reducible exact H | (rw [hy280]; exact H) | exact H
           have Ny280 := Aside0.mk hy280
           clear hy280
           obtain ⟨ji12, hji12⟩ : ∃ j_ : Int, (wrap64 (rd x5_1 0)) = j_ := ⟨_, rfl⟩
           replace H : (if 0 ≤ (ji12) then ((some (x5_1.drop ((ji12) : Int).toNat : List Int)).bind fun y283 => (if (ji12) ≤ 254 then (if (y283.length : Int) > 0 then (if y280.length < 140737488355328 then (cobs_Unstuff.l0 k1 l0 (y280 ++ [0]) y283) else (none)) else (cobs_Unstuff.l0 k1 l0 y280 y283)) else (cobs_Unstuff.l0 k1 l0 y280 y283))) else (none)) = some (r1, r2) := by first | (rw [hji12] at H; exact H) | (simp only [hji12] at H ⊢; exact H)
           (try rw [hji12] at c7b0)
           (try rw [hji12] at c9b0)
           (try rw [hji12] at c9b1)
           (try rw [hji12] at c10b0)
           (try rw [hji12] at c10b1)
           (try rw [hji12] at Ny275)
           (try rw [hji12] at Ny275)
           have hji12w : (IntKind.i64.wrap (rd x5_1 0)) = ji12 := (i64_w _).trans hji12
           by_cases c13 : 0 ≤ (ji12)
           ·
            rw [if_pos c13] at H
            have c13b0 := eq_true c13
            have c13b1 : decide (0 ≤ (ji12)) = true := decide_eq_true c13
            clear c13
            have c14b0 := eq_true (of_decide_eq_true (by first | (with_reducible assumption) | assumption) : (ji12) ≤ (x5_1.length : Int))
            obtain ⟨y283, hy283⟩ : ∃ y_ : List Int, y_ = (x5_1.drop ((ji12) : Int).toNat) := ⟨_, rfl⟩
            replace H : (if (ji12) ≤ 254 then (if (y283.length : Int) > 0 then (if y280.length < 140737488355328 then (cobs_Unstuff.l0 k1 l0 (y280 ++ [0]) y283) else (none)) else (cobs_Unstuff.l0 k1 l0 y280 y283)) else (cobs_Unstuff.l0 k1 l0 y280 y283)) = some (r1, r2) := by first | (rw [hy283]; with_reducible exact H) | (have H2_ := (Option.bind_some _ _).symm.trans H; rw [hy283]; with_reducible exact H2_) | (have H2_ := (Option.bind_some _ _).symm.trans H; with_reducible exact H2_) | with_reducible exact H | (rw [hy283]; exact H) | exact H
            have Ny283 := Aside0.mk hy283
            clear hy283
            by_cases c15 : (ji12) ≤ 254
            ·
             rw [if_pos c15] at H
             have c15b0 : decide ((ji12) ≤ 254) = true := decide_eq_true c15
             clear c15
             by_cases c16 : (y283.length : Int) > 0
             ·
              rw [if_pos c16] at H
              have c16b0 : decide (0 < (y283.length : Int)) = true := decide_eq_true c16
              have c16b1 : decide (0 < y283.length) = true := decide_eq_true (by omega)
              clear c16
              by_cases c17 : y280.length < 140737488355328
              ·
               rw [if_pos c17] at H
               have LMc17 := Aside0.mk c17
               clear c17
               obtain ⟨y288, hy288⟩ : ∃ y_ : List Int, y_ = (y280 ++ [0]) := ⟨_, rfl⟩
               replace H : (cobs_Unstuff.l0 k1 l0 y288 y283) = some (r1, r2) := by first | (rw [hy288]; with_reducible exact H) | (have H2_ := (Option.bind_some _ _).symm.trans H; rw [hy288]; with_reducible exact H2_) | (have H2_ := (Option.bind_some _ _).symm.trans H; with_reducible exact H2_) | with_reducible exact H | (rw [hy288]; exact H) | exact H
               have Ny288 := Aside0.mk hy288
               clear hy288
               have H' := Aside0.mk H
               clear H
               obtain ⟨Ao18, co18, eo18⟩ := Kd.V_slice HO_5.out
               subst eo18
               have p274 : 0 ≤ (0 : Int) := (by omega)
               have q274 : 0 < (x5_1.length : Int) := of_decide_eq_true (by first | (with_reducible assumption) | assumption)
               obtain ⟨ad274, e274, hx274_0⟩ := Kd.at_int (Kd.V_reads' HO_5.out).2.2 0 p274 q274
               cases e274
               have qi274 : (0 < x5_1.length) = True := eq_true (by omega)
               (try rw [show ((0 : Int)).toNat = 0 from rfl] at hx274_0)
               (try rw [Addr.add_zero'] at hx274_0)
               replace p274 := eq_true p274
               replace q274 := eq_true q274
               have q19 : ((ji12) : Int) ≤ ((x5_1.length : Int) : Int) := of_decide_eq_true (by first | (with_reducible assumption) | assumption)
               obtain ⟨i019, hi019, _, hsz19, _⟩ := info_parts info5
               have hroom19 : x5_1.length ≤ co18 := (Kd.V_reads' HO_5.out).2.1
               have hC19 : Kd.F (Kd.int .u8) _ _ (some ad274) x5_1.length x5_1 := (Kd.V_at (base := w.heap.size) HO_5.out).2.2
               have ql19 : (1 : Int) ≤ ((ji12) : Int) := of_decide_eq_true (by first | (with_reducible assumption) | assumption)
               have hcut19 := cut_mid (P := Try.prog) 39 5 .i64 .i64 Try.underlying39 hi019 1 hsz19 (some ad274) x5_1.length co18 1 (ji12) (by omega) ql19 q19 hroom19
               have hr19 := Kd.F_mid (lo := (1 : Int).toNat) (hi := ((ji12) : Int).toNat) (c := co18) hC19 (by omega) (by omega) hroom19
               obtain ⟨A19, hA19⟩ : ∃ A1, A1 = (if co18 = (1 : Int).toNat then (some ad274) else ((some ad274) : Option Addr).map (·.add ((1 : Int).toNat * 1))) := ⟨_, rfl⟩
               obtain ⟨c19, hc19⟩ : ∃ c1, c1 = co18 - (1 : Int).toNat := ⟨_, rfl⟩
               have hy19 : y275.length = ((ji12) : Int).toNat - (1 : Int).toNat := (by rw [Ny275.out, List.length_drop, List.length_take] <;> omega)
               rw [show ((x5_1).take ((ji12) : Int).toNat).drop (1 : Int).toNat = y275 from Ny275.out.symm] at hr19
               replace hr19 : Kd.F (Kd.int .u8) _ _ A19 y275.length y275 := (by rw [hA19]; exact hr19)
               rw [← hy19, ← hA19, ← hc19] at hcut19
               have HO279 := Aside0.mk (show Kd.V (Kd.int .u8) 5 _ w.heap.size _ (.slice A19 y275.length c19) y275 from Kd.V_mk (by rw [hy19, hc19]; exact Nat.sub_le_sub_right (Nat.le_trans (by omega) hroom19) _) hr19)
               have HC279 := Aside0.mk (show y275.length ≤ c19 from by rw [hy19, hc19]; exact Nat.sub_le_sub_right (Nat.le_trans (by omega) hroom19) _)
               clear hr19 hC19 hroom19 hi019 hsz19 hc19
               have KY19 := Aside0.mk hy19
               have KA19 := Aside0.mk hA19
               clear hy19 hA19
               replace q19 := eq_true q19
               go_wp2_with (first | ((with_reducible refine gate_builtin (b := .append) (xs := #[.tmp 25, .tmp 28]) rfl ?_); (try (refine gate_guard (by rfl) ?_; dsimp only)); at_builtin; refine Kd.R_append_rows (Kd.int .u8) (w0 := w) w.heap.size rfl (.tmp 25) (.tmp 28) 39 5 (.int .u8 0) 1 rfl Try.underlying39 info5 rfl (by decide) (by omega) u4 x4_1 y275 _ _ _ (fun k_ => (w.heap.size ≤ k_)) (fun _ => False) rfl rfl ?aO ?aR (fun _ _ h => h) (fun _ h => h.elim) ?aF ?aB ?aS ?aL ?_; (case aR => repeat (first | exact (Kd.V_reads' HO279.out).2.2 | (with_reducible refine Kd.C_alloc ?_ _) | (with_reducible refine Kd.C_drewN ?_ _) | (with_reducible refine Kd.C_drew ?_))); (case aB => exact (by repeat with_reducible first | exact HB.out | apply below_alloc | apply pw_below_drewN | apply below_drew1)); (case aF => exact (fun k_ hk => (Nat.le_trans (below_size (by repeat with_reducible first | exact HB.out | apply below_alloc | apply pw_below_drewN | apply below_drew1)) hk))); (case aO => exact (by (with_reducible repeat (first | apply Kd.R_alloc | apply Kd.R_drewN | apply Kd.R_drew)); exact HO_4.out)); (case aS => exact (below_size (by repeat with_reducible first | exact HB.out | apply below_alloc | apply pw_below_drewN | apply below_drew1))); (case aL => have := LMc11.out; omega); intro v281 w20 ho hb hg hat; rw [← Ny280.out] at ho; replace HO_0 := Aside0.mk (Kd.V_afterv (ok := (fun k_ => (P0_ k_ ∨ w.heap.size ≤ k_))) (by (with_reducible repeat (first | apply Kd.V_alloc | apply Kd.V_drewN | apply Kd.V_drew)); exact HO_0.out) hg hat); replace HO_5 := Aside0.mk (Kd.V_afterv (ok := (fun k_ => (P0_ k_ ∨ w.heap.size ≤ k_))) (by (with_reducible repeat (first | apply Kd.V_alloc | apply Kd.V_drewN | apply Kd.V_drew)); exact HO_5.out) hg hat); replace HO279 := Aside0.mk (Kd.V_afterv (ok := (fun k_ => (P0_ k_ ∨ w.heap.size ≤ k_))) (by (with_reducible repeat (first | apply Kd.V_alloc | apply Kd.V_drewN | apply Kd.V_drew)); exact HO279.out) hg hat); replace HB := Aside0.mk (hb); have HO282 := Aside0.mk (ho); clear HO_4; clear ho hb hg hat; have q21 : ((ji12) : Int) ≤ ((x5_1.length : Int) : Int) := of_decide_eq_true (by first | (with_reducible assumption) | assumption); obtain ⟨i021, hi021, _, hsz21, _⟩ := info_parts info5; have hroom21 : x5_1.length ≤ co18 := (Kd.V_reads' HO_5.out).2.1; have hC21 : Kd.F (Kd.int .u8) _ _ (some ad274) x5_1.length x5_1 := (Kd.V_at (base := w.heap.size) HO_5.out).2.2; have q021 : (0 : Int) ≤ ((ji12) : Int) := of_decide_eq_true (by first | (with_reducible assumption) | assumption); have hcut21 := cut_from (P := Try.prog) 39 5 .i64 Try.underlying39 hi021 1 hsz21 (some ad274) x5_1.length co18 (ji12) q021 q21; have hr21 := Kd.F_cut (m := ((ji12) : Int).toNat) (c := co18) hC21 (by omega) hroom21; obtain ⟨A21, hA21⟩ : ∃ A1, A1 = (if co18 = ((ji12) : Int).toNat then (some ad274) else ((some ad274) : Option Addr).map (·.add (((ji12) : Int).toNat * 1))) := ⟨_, rfl⟩; obtain ⟨c21, hc21⟩ : ∃ c1, c1 = co18 - ((ji12) : Int).toNat := ⟨_, rfl⟩; have hy21 : y283.length = x5_1.length - ((ji12) : Int).toNat := (by rw [Ny283.out, List.length_drop] <;> omega); rw [show (x5_1).drop ((ji12) : Int).toNat = y283 from Ny283.out.symm] at hr21; replace hr21 : Kd.F (Kd.int .u8) _ _ A21 y283.length y283 := (by rw [hA21]; exact hr21); rw [← hy21, ← hA21, ← hc21] at hcut21; have HO287 := Aside0.mk (show Kd.V (Kd.int .u8) 5 _ w.heap.size _ (.slice A21 y283.length c21) y283 from Kd.V_mk (by rw [hy21, hc21]; exact Nat.sub_le_sub_right hroom21 _) hr21); have HC287 := Aside0.mk (show y283.length ≤ c21 from by rw [hy21, hc21]; exact Nat.sub_le_sub_right hroom21 _); clear hr21 hC21 hroom21 hi021 hsz21 hc21; have KY21 := Aside0.mk hy21; have KA21 := Aside0.mk hA21; clear hy21 hA21; replace q21 := eq_true q21) | ((with_reducible refine gate_builtin (b := .append) (xs := #[.tmp 40, .tmp 41]) rfl ?_); (try (refine gate_guard (by rfl) ?_; dsimp only)); at_builtin; refine Kd.R_append (Kd.int .u8) (w0 := w) w.heap.size rfl (.tmp 40) (.tmp 41) 39 5 (.int .u8 0) 1 rfl Try.underlying39 info5 rfl (by decide) (by omega) v281 y280 0 [.int .u8 0] (fun k_ => (w.heap.size ≤ k_)) (fun _ => False) rfl rfl ?aP (fun _ hk => hk.elim) ?aF ?aO ?aB ?aS ?aL ?_; (case aP => exact rfl); (case aB => exact (by repeat with_reducible first | exact HB.out | apply below_alloc | apply pw_below_drewN | apply below_drew1)); (case aF => exact (fun k_ hk => (Nat.le_trans (below_size (by repeat with_reducible first | exact HB.out | apply below_alloc | apply pw_below_drewN | apply below_drew1)) hk))); (case aO => exact (by (with_reducible repeat (first | apply Kd.R_alloc | apply Kd.R_drewN | apply Kd.R_drew)); exact HO282.out)); (case aS => exact (below_size (by repeat with_reducible first | exact HB.out | apply below_alloc | apply pw_below_drewN | apply below_drew1))); (case aL => have := LMc17.out; omega); intro v289 w22 ho hb hg hat; rw [← Ny288.out] at ho; replace HO_0 := Aside0.mk (Kd.V_afterv (ok := (fun k_ => (P0_ k_ ∨ w.heap.size ≤ k_))) (by (with_reducible repeat (first | apply Kd.V_alloc | apply Kd.V_drewN | apply Kd.V_drew)); exact HO_0.out) hg hat); replace HO_5 := Aside0.mk (Kd.V_afterv (ok := (fun k_ => (P0_ k_ ∨ w.heap.size ≤ k_))) (by (with_reducible repeat (first | apply Kd.V_alloc | apply Kd.V_drewN | apply Kd.V_drew)); exact HO_5.out) hg hat); replace HO279 := Aside0.mk (Kd.V_afterv (ok := (fun k_ => (P0_ k_ ∨ w.heap.size ≤ k_))) (by (with_reducible repeat (first | apply Kd.V_alloc | apply Kd.V_drewN | apply Kd.V_drew)); exact HO279.out) hg hat); replace HO287 := Aside0.mk (Kd.V_afterv (ok := (fun k_ => (P0_ k_ ∨ w.heap.size ≤ k_))) (by (with_reducible repeat (first | apply Kd.V_alloc | apply Kd.V_drewN | apply Kd.V_drew)); exact HO287.out) hg hat); replace HB := Aside0.mk (hb); have HO290 := Aside0.mk (ho); clear HO282; clear ho hb hg hat))
               go_roundg k1
               case measure => have := HK1.out; omega
               case rel => exact ⟨(y288), (y283), H', ⟨by have := HK1.out; omega⟩, ⟨by (with_reducible repeat (first | apply Kd.V_alloc | apply Kd.V_drewN | apply Kd.V_drew)); exact HO_0.out⟩, ⟨by (with_reducible repeat (first | apply Kd.R_alloc | apply Kd.R_drewN | apply Kd.R_drew)); exact HO290.out⟩, ⟨by (with_reducible repeat (first | apply Kd.V_alloc | apply Kd.V_drewN | apply Kd.V_drew)); exact HO287.out⟩, ⟨by repeat (first | (with_reducible first | exact HB.out | apply below_alloc | apply pw_below_drewN | apply below_drew1) | exact HB.out)⟩⟩
              ·
               rw [if_neg c17] at H
               exact absurd H (by simp)
             ·
              rw [if_neg c16] at H
              have c16b0 : decide (0 < (y283.length : Int)) = false := decide_eq_false c16
              have c16b1 : decide (0 < y283.length) = false := decide_eq_false (by omega)
              clear c16
              have H' := Aside0.mk H
              clear H
              obtain ⟨Ao23, co23, eo23⟩ := Kd.V_slice HO_5.out
              subst eo23
              have p274 : 0 ≤ (0 : Int) := (by omega)
              have q274 : 0 < (x5_1.length : Int) := of_decide_eq_true (by first | (with_reducible assumption) | assumption)
              obtain ⟨ad274, e274, hx274_0⟩ := Kd.at_int (Kd.V_reads' HO_5.out).2.2 0 p274 q274
              cases e274
              have qi274 : (0 < x5_1.length) = True := eq_true (by omega)
              (try rw [show ((0 : Int)).toNat = 0 from rfl] at hx274_0)
              (try rw [Addr.add_zero'] at hx274_0)
              replace p274 := eq_true p274
              replace q274 := eq_true q274
              have q24 : ((ji12) : Int) ≤ ((x5_1.length : Int) : Int) := of_decide_eq_true (by first | (with_reducible assumption) | assumption)
              obtain ⟨i024, hi024, _, hsz24, _⟩ := info_parts info5
              have hroom24 : x5_1.length ≤ co23 := (Kd.V_reads' HO_5.out).2.1
              have hC24 : Kd.F (Kd.int .u8) _ _ (some ad274) x5_1.length x5_1 := (Kd.V_at (base := w.heap.size) HO_5.out).2.2
              have ql24 : (1 : Int) ≤ ((ji12) : Int) := of_decide_eq_true (by first | (with_reducible assumption) | assumption)
              have hcut24 := cut_mid (P := Try.prog) 39 5 .i64 .i64 Try.underlying39 hi024 1 hsz24 (some ad274) x5_1.length co23 1 (ji12) (by omega) ql24 q24 hroom24
              have hr24 := Kd.F_mid (lo := (1 : Int).toNat) (hi := ((ji12) : Int).toNat) (c := co23) hC24 (by omega) (by omega) hroom24
              obtain ⟨A24, hA24⟩ : ∃ A1, A1 = (if co23 = (1 : Int).toNat then (some ad274) else ((some ad274) : Option Addr).map (·.add ((1 : Int).toNat * 1))) := ⟨_, rfl⟩
              obtain ⟨c24, hc24⟩ : ∃ c1, c1 = co23 - (1 : Int).toNat := ⟨_, rfl⟩
              have hy24 : y275.length = ((ji12) : Int).toNat - (1 : Int).toNat := (by rw [Ny275.out, List.length_drop, List.length_take] <;> omega)
              rw [show ((x5_1).take ((ji12) : Int).toNat).drop (1 : Int).toNat = y275 from Ny275.out.symm] at hr24
              replace hr24 : Kd.F (Kd.int .u8) _ _ A24 y275.length y275 := (by rw [hA24]; exact hr24)
              rw [← hy24, ← hA24, ← hc24] at hcut24
              have HO279 := Aside0.mk (show Kd.V (Kd.int .u8) 5 _ w.heap.size _ (.slice A24 y275.length c24) y275 from Kd.V_mk (by rw [hy24, hc24]; exact Nat.sub_le_sub_right (Nat.le_trans (by omega) hroom24) _) hr24)
              have HC279 := Aside0.mk (show y275.length ≤ c24 from by rw [hy24, hc24]; exact Nat.sub_le_sub_right (Nat.le_trans (by omega) hroom24) _)
              clear hr24 hC24 hroom24 hi024 hsz24 hc24
              have KY24 := Aside0.mk hy24
              have KA24 := Aside0.mk hA24
              clear hy24 hA24
              replace q24 := eq_true q24
              go_wp2_with (first | ((with_reducible refine gate_builtin (b := .append) (xs := #[.tmp 25, .tmp 28]) rfl ?_); (try (refine gate_guard (by rfl) ?_; dsimp only)); at_builtin; refine Kd.R_append_rows (Kd.int .u8) (w0 := w) w.heap.size rfl (.tmp 25) (.tmp 28) 39 5 (.int .u8 0) 1 rfl Try.underlying39 info5 rfl (by decide) (by omega) u4 x4_1 y275 _ _ _ (fun k_ => (w.heap.size ≤ k_)) (fun _ => False) rfl rfl ?aO ?aR (fun _ _ h => h) (fun _ h => h.elim) ?aF ?aB ?aS ?aL ?_; (case aR => repeat (first | exact (Kd.V_reads' HO279.out).2.2 | (with_reducible refine Kd.C_alloc ?_ _) | (with_reducible refine Kd.C_drewN ?_ _) | (with_reducible refine Kd.C_drew ?_))); (case aB => exact (by repeat with_reducible first | exact HB.out | apply below_alloc | apply pw_below_drewN | apply below_drew1)); (case aF => exact (fun k_ hk => (Nat.le_trans (below_size (by repeat with_reducible first | exact HB.out | apply below_alloc | apply pw_below_drewN | apply below_drew1)) hk))); (case aO => exact (by (with_reducible repeat (first | apply Kd.R_alloc | apply Kd.R_drewN | apply Kd.R_drew)); exact HO_4.out)); (case aS => exact (below_size (by repeat with_reducible first | exact HB.out | apply below_alloc | apply pw_below_drewN | apply below_drew1))); (case aL => have := LMc11.out; omega); intro v281 w25 ho hb hg hat; rw [← Ny280.out] at ho; replace HO_0 := Aside0.mk (Kd.V_afterv (ok := (fun k_ => (P0_ k_ ∨ w.heap.size ≤ k_))) (by (with_reducible repeat (first | apply Kd.V_alloc | apply Kd.V_drewN | apply Kd.V_drew)); exact HO_0.out) hg hat); replace HO_5 := Aside0.mk (Kd.V_afterv (ok := (fun k_ => (P0_ k_ ∨ w.heap.size ≤ k_))) (by (with_reducible repeat (first | apply Kd.V_alloc | apply Kd.V_drewN | apply Kd.V_drew)); exact HO_5.out) hg hat); replace HO279 := Aside0.mk (Kd.V_afterv (ok := (fun k_ => (P0_ k_ ∨ w.heap.size ≤ k_))) (by (with_reducible repeat (first | apply Kd.V_alloc | apply Kd.V_drewN | apply Kd.V_drew)); exact HO279.out) hg hat); replace HB := Aside0.mk (hb); have HO282 := Aside0.mk (ho); clear HO_4; clear ho hb hg hat; have q26 : ((ji12) : Int) ≤ ((x5_1.length : Int) : Int) := of_decide_eq_true (by first | (with_reducible assumption) | assumption); obtain ⟨i026, hi026, _, hsz26, _⟩ := info_parts info5; have hroom26 : x5_1.length ≤ co23 := (Kd.V_reads' HO_5.out).2.1; have hC26 : Kd.F (Kd.int .u8) _ _ (some ad274) x5_1.length x5_1 := (Kd.V_at (base := w.heap.size) HO_5.out).2.2; have q026 : (0 : Int) ≤ ((ji12) : Int) := of_decide_eq_true (by first | (with_reducible assumption) | assumption); have hcut26 := cut_from (P := Try.prog) 39 5 .i64 Try.underlying39 hi026 1 hsz26 (some ad274) x5_1.length co23 (ji12) q026 q26; have hr26 := Kd.F_cut (m := ((ji12) : Int).toNat) (c := co23) hC26 (by omega) hroom26; obtain ⟨A26, hA26⟩ : ∃ A1, A1 = (if co23 = ((ji12) : Int).toNat then (some ad274) else ((some ad274) : Option Addr).map (·.add (((ji12) : Int).toNat * 1))) := ⟨_, rfl⟩; obtain ⟨c26, hc26⟩ : ∃ c1, c1 = co23 - ((ji12) : Int).toNat := ⟨_, rfl⟩; have hy26 : y283.length = x5_1.length - ((ji12) : Int).toNat := (by rw [Ny283.out, List.length_drop] <;> omega); rw [show (x5_1).drop ((ji12) : Int).toNat = y283 from Ny283.out.symm] at hr26; replace hr26 : Kd.F (Kd.int .u8) _ _ A26 y283.length y283 := (by rw [hA26]; exact hr26); rw [← hy26, ← hA26, ← hc26] at hcut26; have HO287 := Aside0.mk (show Kd.V (Kd.int .u8) 5 _ w.heap.size _ (.slice A26 y283.length c26) y283 from Kd.V_mk (by rw [hy26, hc26]; exact Nat.sub_le_sub_right hroom26 _) hr26); have HC287 := Aside0.mk (show y283.length ≤ c26 from by rw [hy26, hc26]; exact Nat.sub_le_sub_right hroom26 _); clear hr26 hC26 hroom26 hi026 hsz26 hc26; have KY26 := Aside0.mk hy26; have KA26 := Aside0.mk hA26; clear hy26 hA26; replace q26 := eq_true q26))
              go_roundg k1
              case measure => have := HK1.out; omega
              case rel => exact ⟨(y280), (y283), H', ⟨by have := HK1.out; omega⟩, ⟨by (with_reducible repeat (first | apply Kd.V_alloc | apply Kd.V_drewN | apply Kd.V_drew)); exact HO_0.out⟩, ⟨by (with_reducible repeat (first | apply Kd.R_alloc | apply Kd.R_drewN | apply Kd.R_drew)); exact HO282.out⟩, ⟨by (with_reducible repeat (first | apply Kd.V_alloc | apply Kd.V_drewN | apply Kd.V_drew)); exact HO287.out⟩, ⟨by repeat (first | (with_reducible first | exact HB.out | apply below_alloc | apply pw_below_drewN | apply below_drew1) | exact HB.out)⟩⟩
            ·
             rw [if_neg c15] at H
             have c15b0 : decide ((ji12) ≤ 254) = false := decide_eq_false c15
             clear c15
             have H' := Aside0.mk H
             clear H
             obtain ⟨Ao27, co27, eo27⟩ := Kd.V_slice HO_5.out
             subst eo27
             have p274 : 0 ≤ (0 : Int) := (by omega)
             have q274 : 0 < (x5_1.length : Int) := of_decide_eq_true (by first | (with_reducible assumption) | assumption)
             obtain ⟨ad274, e274, hx274_0⟩ := Kd.at_int (Kd.V_reads' HO_5.out).2.2 0 p274 q274
             cases e274
             have qi274 : (0 < x5_1.length) = True := eq_true (by omega)
             (try rw [show ((0 : Int)).toNat = 0 from rfl] at hx274_0)
             (try rw [Addr.add_zero'] at hx274_0)
             replace p274 := eq_true p274
             replace q274 := eq_true q274
             have q28 : ((ji12) : Int) ≤ ((x5_1.length : Int) : Int) := of_decide_eq_true (by first | (with_reducible assumption) | assumption)
             obtain ⟨i028, hi028, _, hsz28, _⟩ := info_parts info5
             have hroom28 : x5_1.length ≤ co27 := (Kd.V_reads' HO_5.out).2.1
             have hC28 : Kd.F (Kd.int .u8) _ _ (some ad274) x5_1.length x5_1 := (Kd.V_at (base := w.heap.size) HO_5.out).2.2
             have ql28 : (1 : Int) ≤ ((ji12) : Int) := of_decide_eq_true (by first | (with_reducible assumption) | assumption)
             have hcut28 := cut_mid (P := Try.prog) 39 5 .i64 .i64 Try.underlying39 hi028 1 hsz28 (some ad274) x5_1.length co27 1 (ji12) (by omega) ql28 q28 hroom28
             have hr28 := Kd.F_mid (lo := (1 : Int).toNat) (hi := ((ji12) : Int).toNat) (c := co27) hC28 (by omega) (by omega) hroom28
             obtain ⟨A28, hA28⟩ : ∃ A1, A1 = (if co27 = (1 : Int).toNat then (some ad274) else ((some ad274) : Option Addr).map (·.add ((1 : Int).toNat * 1))) := ⟨_, rfl⟩
             obtain ⟨c28, hc28⟩ : ∃ c1, c1 = co27 - (1 : Int).toNat := ⟨_, rfl⟩
             have hy28 : y275.length = ((ji12) : Int).toNat - (1 : Int).toNat := (by rw [Ny275.out, List.length_drop, List.length_take] <;> omega)
             rw [show ((x5_1).take ((ji12) : Int).toNat).drop (1 : Int).toNat = y275 from Ny275.out.symm] at hr28
             replace hr28 : Kd.F (Kd.int .u8) _ _ A28 y275.length y275 := (by rw [hA28]; exact hr28)
             rw [← hy28, ← hA28, ← hc28] at hcut28
             have HO279 := Aside0.mk (show Kd.V (Kd.int .u8) 5 _ w.heap.size _ (.slice A28 y275.length c28) y275 from Kd.V_mk (by rw [hy28, hc28]; exact Nat.sub_le_sub_right (Nat.le_trans (by omega) hroom28) _) hr28)
             have HC279 := Aside0.mk (show y275.length ≤ c28 from by rw [hy28, hc28]; exact Nat.sub_le_sub_right (Nat.le_trans (by omega) hroom28) _)
             clear hr28 hC28 hroom28 hi028 hsz28 hc28
             have KY28 := Aside0.mk hy28
             have KA28 := Aside0.mk hA28
             clear hy28 hA28
             replace q28 := eq_true q28
             go_wp2_with (first | ((with_reducible refine gate_builtin (b := .append) (xs := #[.tmp 25, .tmp 28]) rfl ?_); (try (refine gate_guard (by rfl) ?_; dsimp only)); at_builtin; refine Kd.R_append_rows (Kd.int .u8) (w0 := w) w.heap.size rfl (.tmp 25) (.tmp 28) 39 5 (.int .u8 0) 1 rfl Try.underlying39 info5 rfl (by decide) (by omega) u4 x4_1 y275 _ _ _ (fun k_ => (w.heap.size ≤ k_)) (fun _ => False) rfl rfl ?aO ?aR (fun _ _ h => h) (fun _ h => h.elim) ?aF ?aB ?aS ?aL ?_; (case aR => repeat (first | exact (Kd.V_reads' HO279.out).2.2 | (with_reducible refine Kd.C_alloc ?_ _) | (with_reducible refine Kd.C_drewN ?_ _) | (with_reducible refine Kd.C_drew ?_))); (case aB => exact (by repeat with_reducible first | exact HB.out | apply below_alloc | apply pw_below_drewN | apply below_drew1)); (case aF => exact (fun k_ hk => (Nat.le_trans (below_size (by repeat with_reducible first | exact HB.out | apply below_alloc | apply pw_below_drewN | apply below_drew1)) hk))); (case aO => exact (by (with_reducible repeat (first | apply Kd.R_alloc | apply Kd.R_drewN | apply Kd.R_drew)); exact HO_4.out)); (case aS => exact (below_size (by repeat with_reducible first | exact HB.out | apply below_alloc | apply pw_below_drewN | apply below_drew1))); (case aL => have := LMc11.out; omega); intro v281 w29 ho hb hg hat; rw [← Ny280.out] at ho; replace HO_0 := Aside0.mk (Kd.V_afterv (ok := (fun k_ => (P0_ k_ ∨ w.heap.size ≤ k_))) (by (with_reducible repeat (first | apply Kd.V_alloc | apply Kd.V_drewN | apply Kd.V_drew)); exact HO_0.out) hg hat); replace HO_5 := Aside0.mk (Kd.V_afterv (ok := (fun k_ => (P0_ k_ ∨ w.heap.size ≤ k_))) (by (with_reducible repeat (first | apply Kd.V_alloc | apply Kd.V_drewN | apply Kd.V_drew)); exact HO_5.out) hg hat); replace HO279 := Aside0.mk (Kd.V_afterv (ok := (fun k_ => (P0_ k_ ∨ w.heap.size ≤ k_))) (by (with_reducible repeat (first | apply Kd.V_alloc | apply Kd.V_drewN | apply Kd.V_drew)); exact HO279.out) hg hat); replace HB := Aside0.mk (hb); have HO282 := Aside0.mk (ho); clear HO_4; clear ho hb hg hat; have q30 : ((ji12) : Int) ≤ ((x5_1.length : Int) : Int) := of_decide_eq_true (by first | (with_reducible assumption) | assumption); obtain ⟨i030, hi030, _, hsz30, _⟩ := info_parts info5; have hroom30 : x5_1.length ≤ co27 := (Kd.V_reads' HO_5.out).2.1; have hC30 : Kd.F (Kd.int .u8) _ _ (some ad274) x5_1.length x5_1 := (Kd.V_at (base := w.heap.size) HO_5.out).2.2; have q030 : (0 : Int) ≤ ((ji12) : Int) := of_decide_eq_true (by first | (with_reducible assumption) | assumption); have hcut30 := cut_from (P := Try.prog) 39 5 .i64 Try.underlying39 hi030 1 hsz30 (some ad274) x5_1.length co27 (ji12) q030 q30; have hr30 := Kd.F_cut (m := ((ji12) : Int).toNat) (c := co27) hC30 (by omega) hroom30; obtain ⟨A30, hA30⟩ : ∃ A1, A1 = (if co27 = ((ji12) : Int).toNat then (some ad274) else ((some ad274) : Option Addr).map (·.add (((ji12) : Int).toNat * 1))) := ⟨_, rfl⟩; obtain ⟨c30, hc30⟩ : ∃ c1, c1 = co27 - ((ji12) : Int).toNat := ⟨_, rfl⟩; have hy30 : y283.length = x5_1.length - ((ji12) : Int).toNat := (by rw [Ny283.out, List.length_drop] <;> omega); rw [show (x5_1).drop ((ji12) : Int).toNat = y283 from Ny283.out.symm] at hr30; replace hr30 : Kd.F (Kd.int .u8) _ _ A30 y283.length y283 := (by rw [hA30]; exact hr30); rw [← hy30, ← hA30, ← hc30] at hcut30; have HO287 := Aside0.mk (show Kd.V (Kd.int .u8) 5 _ w.heap.size _ (.slice A30 y283.length c30) y283 from Kd.V_mk (by rw [hy30, hc30]; exact Nat.sub_le_sub_right hroom30 _) hr30); have HC287 := Aside0.mk (show y283.length ≤ c30 from by rw [hy30, hc30]; exact Nat.sub_le_sub_right hroom30 _); clear hr30 hC30 hroom30 hi030 hsz30 hc30; have KY30 := Aside0.mk hy30; have KA30 := Aside0.mk hA30; clear hy30 hA30; replace q30 := eq_true q30))
             go_roundg k1
             case measure => have := HK1.out; omega
             case rel => exact ⟨(y280), (y283), H', ⟨by have := HK1.out; omega⟩, ⟨by (with_reducible repeat (first | apply Kd.V_alloc | apply Kd.V_drewN | apply Kd.V_drew)); exact HO_0.out⟩, ⟨by (with_reducible repeat (first | apply Kd.R_alloc | apply Kd.R_drewN | apply Kd.R_drew)); exact HO282.out⟩, ⟨by (with_reducible repeat (first | apply Kd.V_alloc | apply Kd.V_drewN | apply Kd.V_drew)); exact HO287.out⟩, ⟨by repeat (first | (with_reducible first | exact HB.out | apply below_alloc | apply pw_below_drewN | apply below_drew1) | exact HB.out)⟩⟩
           ·
            rw [if_neg c13] at H
            exact absurd H (by simp)
          ·
           rw [if_neg c11] at H
           exact absurd H (by simp)
         ·
          rw [if_neg c10] at H
          exact absurd H (by simp)
        ·
         rw [if_neg c9] at H
         exact absurd H (by simp)
      ·
       rw [if_neg c6] at H
       exact absurd H (by simp)
     ·
      rw [if_neg c5] at H
      have c5b0 : decide (0 < (x5_1.length : Int)) = false := decide_eq_false c5
      have c5b1 : decide (0 < x5_1.length) = false := decide_eq_false (by omega)
      clear c5
      replace H := Option.bind_eq_some_iff.mp H
      obtain ⟨t291, A310, H⟩ := H
      replace H : ((bytes_Equal.f t291 l0).bind fun t294 => (if t294 = true then (some (x4_1, 0)) else (some (([] : List Int), 4)))) = some (r1, r2) := H
      have A31 := Aside0.mk A310
      clear A310
      replace H := Option.bind_eq_some_iff.mp H
      obtain ⟨t294, A320, H⟩ := H
      replace H : (if t294 = true then (some (x4_1, 0)) else (some (([] : List Int), 4))) = some (r1, r2) := H
      have A32 := Aside0.mk A320
      clear A320
      by_cases c33 : t294 = true
      ·
       subst c33
       have H1 : (some (x4_1, 0)) = some (r1, r2) := by rw [if_pos rfl] at H; exact H
       clear H
       have H := H1
       clear H1
       simp only [Option.some.injEq, Prod.mk.injEq] at H
       obtain ⟨rfl, rfl⟩ := H
       obtain ⟨Ao34, co34, eo34⟩ := Kd.V_slice HO_5.out
       subst eo34
       obtain ⟨Ao35, co35, eo35⟩ := Kd.R_slice HO_4.out
       subst eo35
       go_wp2_with (first | ((with_reducible refine gate_callee (f := 60) rfl ?_); refine goesL_ (some 44) rfl rfl Try.func60 (by kernel_rfl) rfl #[.slice Ao35 x4_1.length co35] rfl (by (try simp only [mA, mB, mC]); first | done | rfl) ?_; (with_reducible refine (cobs_Stuff.calls k1 (fun k_ => some k_ = (.slice Ao35 x4_1.length co35 : Value).ownBlock) _ _ x4_1 t291 _ ?side1 A31.out).mono ?_); (case side1 => exact Kd.R_V (Kd.R_tight rfl (HO_4.out))); rintro e w36 ⟨v292, rfl, ho0, hb⟩; refine ⟨_, rfl, ?_⟩; have n0_ := Aside0.mk (Kd.V_elder' (by (with_reducible repeat (first | apply Kd.V_alloc | apply Kd.V_drewN | apply Kd.V_drew)); exact HO_0.out) (Kd.R_base ho0) hb); have n1_ := Aside0.mk (Kd.R_elder' (by (with_reducible repeat (first | apply Kd.R_alloc | apply Kd.R_drewN | apply Kd.R_drew)); exact HO_4.out) (Kd.R_base ho0) hb); have n2_ := Aside0.mk (Kd.V_elder' (by (with_reducible repeat (first | apply Kd.V_alloc | apply Kd.V_drewN | apply Kd.V_drew)); exact HO_5.out) (Kd.R_base ho0) hb); have n3_ := Aside0.mk (Kd.R_lower (Kd.R_new' (Kd.R_newM (M := fun k_ => (w.heap.size ≤ k_)) (Kd.R_mono (ok' := fun k_ => True) ho0 (fun _ hk_ => trivial)) (below_size (by repeat with_reducible first | exact HB.out | apply below_alloc | apply pw_below_drewN | apply below_drew1)) (fun k_ h_ => h_)) (Kd.R_lt (by (with_reducible repeat (first | apply Kd.R_alloc | apply Kd.R_drewN | apply Kd.R_drew)); exact HO_4.out))) (below_size (by repeat with_reducible first | exact HB.out | apply below_alloc | apply pw_below_drewN | apply below_drew1))); have n4_ := Aside0.mk (below_step (by repeat with_reducible first | exact HB.out | apply below_alloc | apply pw_below_drewN | apply below_drew1) hb); clear HO_0; clear HO_4; clear HO_5; clear HB; have HO_0 := n0_; have HO_4 := n1_; have HO_5 := n2_; have HO293 := n3_; have HB := n4_; clear n0_ n1_ n2_ n3_ n4_; (try clear hb); (try clear ho0); obtain ⟨Ao37, co37, eo37⟩ := Kd.R_slice HO293.out; subst eo37) | ((with_reducible refine gate_callee (f := 110) rfl ?_); refine goesL_ (some 46) rfl rfl Try.func110 (by kernel_rfl) rfl #[.slice Ao37 t291.length co37, .slice A0 l0.length c0] rfl (by (try simp only [mA, mB, mC]); first | done | rfl) ?_; (with_reducible refine (bytes_Equal.calls _ _ t291 _ _ l0 true _ ?side1 ?side2 ?side3 ?side4 A32.out).mono ?_); (case side1 => repeat (first | exact (Kd.R_reads' HO293.out).2.2 | (with_reducible refine Kd.C_alloc ?_ _) | (with_reducible refine Kd.C_drewN ?_ _) | (with_reducible refine Kd.C_drew ?_))); (case side2 => exact (Kd.R_reads' HO293.out).2.1); (case side3 => repeat (first | exact (Kd.V_reads' HO_0.out).2.2 | (with_reducible refine Kd.C_alloc ?_ _) | (with_reducible refine Kd.C_drewN ?_ _) | (with_reducible refine Kd.C_drew ?_))); (case side4 => exact (Kd.V_reads' HO_0.out).2.1); rintro e w' ⟨rfl, ⟨nd, rfl⟩⟩; refine ⟨_, rfl, ?_⟩))
       go_ret2
       exact ⟨_, by first | rfl | (simp <;> rfl) | (simp [*] <;> rfl), by (with_reducible repeat (first | apply Kd.R_alloc | apply Kd.R_drewN | apply Kd.R_drew)); exact Kd.R_mono HO_4.out (fun _ hk => hk.1), by repeat (first | (with_reducible first | exact HB.out | apply below_alloc | apply pw_below_drewN | apply below_drew1) | exact HB.out)⟩
      ·
       replace c33 := Bool.eq_false_iff.mpr c33
       subst c33
       have H1 : (some (([] : List Int), 4)) = some (r1, r2) := by rw [if_neg (show ¬ (false = true) by decide)] at H; exact H
       clear H
       have H := H1
       clear H1
       simp only [Option.some.injEq, Prod.mk.injEq] at H
       obtain ⟨rfl, rfl⟩ := H
       obtain ⟨Ao38, co38, eo38⟩ := Kd.V_slice HO_5.out
       subst eo38
       obtain ⟨Ao39, co39, eo39⟩ := Kd.R_slice HO_4.out
       subst eo39
       go_wp2_with (first | ((with_reducible refine gate_callee (f := 60) rfl ?_); refine goesL_ (some 44) rfl rfl Try.func60 (by kernel_rfl) rfl #[.slice Ao39 x4_1.length co39] rfl (by (try simp only [mA, mB, mC]); first | done | rfl) ?_; (with_reducible refine (cobs_Stuff.calls k1 (fun k_ => some k_ = (.slice Ao39 x4_1.length co39 : Value).ownBlock) _ _ x4_1 t291 _ ?side1 A31.out).mono ?_); (case side1 => exact Kd.R_V (Kd.R_tight rfl (HO_4.out))); rintro e w40 ⟨v292, rfl, ho0, hb⟩; refine ⟨_, rfl, ?_⟩; have n0_ := Aside0.mk (Kd.V_elder' (by (with_reducible repeat (first | apply Kd.V_alloc | apply Kd.V_drewN | apply Kd.V_drew)); exact HO_0.out) (Kd.R_base ho0) hb); have n1_ := Aside0.mk (Kd.R_elder' (by (with_reducible repeat (first | apply Kd.R_alloc | apply Kd.R_drewN | apply Kd.R_drew)); exact HO_4.out) (Kd.R_base ho0) hb); have n2_ := Aside0.mk (Kd.V_elder' (by (with_reducible repeat (first | apply Kd.V_alloc | apply Kd.V_drewN | apply Kd.V_drew)); exact HO_5.out) (Kd.R_base ho0) hb); have n3_ := Aside0.mk (Kd.R_lower (Kd.R_new' (Kd.R_newM (M := fun k_ => (w.heap.size ≤ k_)) (Kd.R_mono (ok' := fun k_ => True) ho0 (fun _ hk_ => trivial)) (below_size (by repeat with_reducible first | exact HB.out | apply below_alloc | apply pw_below_drewN | apply below_drew1)) (fun k_ h_ => h_)) (Kd.R_lt (by (with_reducible repeat (first | apply Kd.R_alloc | apply Kd.R_drewN | apply Kd.R_drew)); exact HO_4.out))) (below_size (by repeat with_reducible first | exact HB.out | apply below_alloc | apply pw_below_drewN | apply below_drew1))); have n4_ := Aside0.mk (below_step (by repeat with_reducible first | exact HB.out | apply below_alloc | apply pw_below_drewN | apply below_drew1) hb); clear HO_0; clear HO_4; clear HO_5; clear HB; have HO_0 := n0_; have HO_4 := n1_; have HO_5 := n2_; have HO293 := n3_; have HB := n4_; clear n0_ n1_ n2_ n3_ n4_; (try clear hb); (try clear ho0); obtain ⟨Ao41, co41, eo41⟩ := Kd.R_slice HO293.out; subst eo41) | ((with_reducible refine gate_callee (f := 110) rfl ?_); refine goesL_ (some 46) rfl rfl Try.func110 (by kernel_rfl) rfl #[.slice Ao41 t291.length co41, .slice A0 l0.length c0] rfl (by (try simp only [mA, mB, mC]); first | done | rfl) ?_; (with_reducible refine (bytes_Equal.calls _ _ t291 _ _ l0 false _ ?side1 ?side2 ?side3 ?side4 A32.out).mono ?_); (case side1 => repeat (first | exact (Kd.R_reads' HO293.out).2.2 | (with_reducible refine Kd.C_alloc ?_ _) | (with_reducible refine Kd.C_drewN ?_ _) | (with_reducible refine Kd.C_drew ?_))); (case side2 => exact (Kd.R_reads' HO293.out).2.1); (case side3 => repeat (first | exact (Kd.V_reads' HO_0.out).2.2 | (with_reducible refine Kd.C_alloc ?_ _) | (with_reducible refine Kd.C_drewN ?_ _) | (with_reducible refine Kd.C_drew ?_))); (case side4 => exact (Kd.V_reads' HO_0.out).2.1); rintro e w' ⟨rfl, ⟨nd, rfl⟩⟩; refine ⟨_, rfl, ?_⟩))
       go_ret2
       exact ⟨_, by first | rfl | (simp <;> rfl) | (simp [*] <;> rfl), by first | exact Kd.R_nil _ _ _ _ _ | exact Kd.N_nil _ _ _ _ _ | exact Kd.V_nil _ _ _ _ _ | exact Kd.Q_nil _ _ _ _ _ | exact Kd.S_nil _ _ _ _ _, by repeat (first | (with_reducible first | exact HB.out | apply below_alloc | apply pw_below_drewN | apply below_drew1) | exact HB.out)⟩
end Go.Proofs.Ytekanmieppnpeaa.G
end
section
namespace Go.Proofs.Ytekanmieppnpeaa.LCobs
open Go.RowKit Go.Proofs.Ytekanmieppnpeaa.G Go.Proofs.YtekanmieppnpeaaW.PrintWords Go.Proofs.YtekanmieppnpeaaW.PrintLast Go.Proofs.Ytekanmieppnpeaa.PureKit
def stf : List Int → List Int → List Int
 | [], now => ((now.length : Int) + 1) :: now
 | x :: xs, now => if x = 0 then ((now.length : Int) + 1) :: (now ++ stf xs []) else
  if now.length + 1 = 254 then 255 :: (now ++ [x] ++ (if xs = [] then [] else stf xs [])) else stf xs (now ++ [x])
def NoZ (l : List Int) : Prop := ∀ y ∈ l, y ≠ 0
theorem stf_ne (l now : List Int) : stf l now ≠ [] := by
 induction l generalizing now with
 | nil => simp [stf]
 | cons x xs ih =>
  unfold stf
  split
  ·
   simp
  ·
   split
   ·
    simp
   ·
    exact ih _
theorem stf_zero : ∀ (ys now zs : List Int), NoZ ys → now.length + ys.length < 254 → stf (ys ++ 0 :: zs) now = (((now.length + ys.length : Nat) : Int) + 1) :: (now ++ ys ++ stf zs [])
 | [], now, zs, _, _ => by simp [stf]
 | y :: ys, now, zs, h, hl => by
  have hy : y ≠ 0 := h y List.mem_cons_self
  rw [List.length_cons] at hl
  simp only [List.cons_append, stf]
  rw [if_neg hy, if_neg (by omega), stf_zero ys (now ++ [y]) zs (fun z hz => h z (List.mem_cons_of_mem _ hz)) (by simp; omega)]
  simp only [List.length_append, List.length_cons, List.length_nil, List.append_assoc, List.cons_append, List.nil_append]
  congr 1
  omega
theorem stf_end : ∀ (ys now : List Int), NoZ ys → now.length + ys.length < 254 → stf ys now = (((now.length + ys.length : Nat) : Int) + 1) :: (now ++ ys)
 | [], now, _, _ => by simp [stf]
 | y :: ys, now, h, hl => by
  have hy : y ≠ 0 := h y List.mem_cons_self
  rw [List.length_cons] at hl
  simp only [stf]
  rw [if_neg hy, if_neg (by omega), stf_end ys (now ++ [y]) (fun z hz => h z (List.mem_cons_of_mem _ hz)) (by simp; omega)]
  simp only [List.length_append, List.length_cons, List.length_nil, List.append_assoc, List.cons_append, List.nil_append]
  congr 1
  omega
theorem stf_full : ∀ (ys now zs : List Int), NoZ ys → ys ≠ [] → now.length + ys.length = 254 → stf (ys ++ zs) now = 255 :: (now ++ ys ++ (if zs = [] then [] else stf zs []))
 | [], now, zs, _, h, _ => absurd rfl h
 | [y], now, zs, h, _, hl => by
  have hy : y ≠ 0 := h y List.mem_cons_self
  simp only [List.cons_append, List.nil_append, stf]
  rw [if_neg hy, if_pos (by simpa using hl)]
 | y :: y' :: ys, now, zs, h, _, hl => by
  have hy : y ≠ 0 := h y List.mem_cons_self
  simp only [List.length_cons] at hl
  rw [List.cons_append]
  simp only [stf]
  rw [if_neg hy, if_neg (by omega), stf_full (y' :: ys) (now ++ [y]) zs (fun z hz => h z (List.mem_cons_of_mem _ hz)) (by simp) (by simp; omega)]
  simp
theorem stf_len : ∀ (l now : List Int), now.length < 254 → (stf l now).length ≤ now.length + l.length + 1 + (now.length + l.length - 1) / 254
 | [], now, h => by simp [stf]
 | x :: xs, now, h => by
  unfold stf
  by_cases hx : x = 0
  ·
   rw [if_pos hx]
   have := stf_len xs [] (by simp)
   simp only [List.length_cons, List.length_append, List.length_nil] at *
   omega
  ·
   rw [if_neg hx]
   by_cases hn : now.length + 1 = 254
   ·
    rw [if_pos hn]
    by_cases he : xs = []
    ·
     subst he; simp <;> omega
    ·
     rw [if_neg he]
     have := stf_len xs [] (by simp)
     have h0 : 0 < xs.length := List.length_pos_iff.2 he
     simp only [List.length_cons, List.length_append, List.length_nil] at *
     omega
   ·
    rw [if_neg hn]
    have := stf_len xs (now ++ [x]) (by simp; omega)
    simp only [List.length_cons, List.length_append, List.length_nil] at *
    omega
theorem stf_noz : ∀ (l now : List Int), NoZ now → now.length < 254 → NoZ (stf l now) ∧ (Bytes now → Bytes l → Bytes (stf l now))
 | [], now, h, hn => by
  refine ⟨fun y hy => ?_, fun hb _ => Bytes.cons (by omega) hb⟩
  rcases List.mem_cons.1 hy with rfl | hy
  ·
   omega
  ·
   exact h y hy
 | x :: xs, now, h, hn => by
  unfold stf
  by_cases hx : x = 0
  ·
   rw [if_pos hx]
   have ih := stf_noz xs [] (fun _ h => by cases h) (by simp)
   refine ⟨fun y hy => ?_, fun hb hl => Bytes.cons (by omega) (hb.append (ih.2 Bytes.nil hl.tail))⟩
   rcases List.mem_cons.1 hy with rfl | hy
   ·
    omega
   ·
    rcases List.mem_append.1 hy with hy | hy
    ·
     exact h y hy
    ·
     exact ih.1 y hy
  ·
   rw [if_neg hx]
   have hnx : NoZ (now ++ [x]) := fun y hy => by
    rcases List.mem_append.1 hy with hy | hy
    ·
     exact h y hy
    ·
     rw [List.mem_singleton.1 hy]; exact hx
   by_cases hn' : now.length + 1 = 254
   ·
    rw [if_pos hn']
    have ih := stf_noz xs [] (fun _ h => by cases h) (by simp)
    refine ⟨fun y hy => ?_, fun hb hl => Bytes.cons (by omega) ((hb.append (Bytes.cons hl.head Bytes.nil)).append ?_)⟩
    ·
     rcases List.mem_cons.1 hy with rfl | hy
     ·
      decide
     ·
      rcases List.mem_append.1 hy with hy | hy
      ·
       exact hnx y hy
      ·
       split at hy
       ·
        cases hy
       ·
        exact ih.1 y hy
    ·
     split
     ·
      exact Bytes.nil
     ·
      exact ih.2 Bytes.nil hl.tail
   ·
    rw [if_neg hn']
    have ih := stf_noz xs (now ++ [x]) hnx (by simp; omega)
    exact ⟨ih.1, fun hb hl => ih.2 (hb.append (Bytes.cons hl.head Bytes.nil)) hl.tail⟩
theorem idx0 : ∀ (l : List Int), Bytes l → (NoZ l ∧ Lib.indexByte (Lib.bytesOf l) 0 = -1) ∨ (∃ ys zs, l = ys ++ 0 :: zs ∧ NoZ ys ∧ Lib.indexByte (Lib.bytesOf l) 0 = (ys.length : Int))
 | [], _ => Or.inl ⟨(fun _ h => by cases h), rfl⟩
 | x :: xs, hb => by
  have hx := hb.head
  by_cases h0 : x = 0
  ·
   refine Or.inr ⟨[], xs, by rw [h0]; rfl, (fun _ h => by cases h), ?_⟩
   subst h0
   rfl
  ·
   have hne : ¬ (UInt8.ofNat x.toNat = 0) := fun e => by
    have := congrArg UInt8.toNat e
    simp at this
    omega
   rcases idx0 xs hb.tail with ⟨hz, hi⟩ | ⟨ys, zs, rfl, hz, hi⟩
   ·
    refine Or.inl ⟨fun y hy => ?_, ?_⟩
    ·
     rcases List.mem_cons.1 hy with rfl | hy
     ·
      exact h0
     ·
      exact hz y hy
    ·
     simp only [Lib.bytesOf, List.map_cons, Lib.indexByte] at hi ⊢
     simp [hne, hi]
   ·
    refine Or.inr ⟨x :: ys, zs, rfl, fun y hy => ?_, ?_⟩
    ·
     rcases List.mem_cons.1 hy with rfl | hy
     ·
      exact h0
     ·
      exact hz y hy
    ·
     simp only [Lib.bytesOf, List.map_cons, Lib.indexByte] at hi ⊢
     rw [hi, if_neg (by simpa using hne), if_neg (by simp)]
     simp
theorem stuff_l0 : ∀ (N : Nat) (b out : List Int), b.length ≤ N → Bytes b → N + out.length ≤ 1000000 - b.length → b.length ≤ 400000 → Ev (fun k => cobs_Stuff.l0 k b out) (out ++ stf b []) := by
 intro N
 induction N using Nat.strongRecOn with
 | _ N ih =>
 intro b out hN hb ho hbl
 have hmn : ∃ m : Nat, mn (b.length : Int) 254 = (m : Int) ∧ m = min b.length 254 := ⟨min b.length 254, by unfold mn; split <;> omega, rfl⟩
 obtain ⟨m, hm, hm'⟩ := hmn
 rcases idx0 (b.take m) (hb.take m) with ⟨hz, hi⟩ | ⟨ys, zs, he, hz, hi⟩
 ·
  by_cases hbig : (b.length : Int) > 254
  ·
   have hm2 : m = 254 := by omega
   subst hm2
   have hnx := ih (N - 254) (by omega) (b.drop 254) (out ++ [255] ++ b.take 254) (by rw [List.length_drop]; omega) (hb.drop _) (by simp only [List.length_append, List.length_cons, List.length_nil, List.length_take, List.length_drop]; omega) (by rw [List.length_drop]; omega)
   refine Ev.step (fun k => ?_) (Ev.eq hnx ?_)
   ·
    simp only [cobs_Stuff.l0]
    rw [hm, if_pos (by omega), if_pos (by omega), Int.toNat_natCast]
    simp only [bytes_IndexByte.f, Option.bind_some, show (0 : Int).toNat.toUInt8 = 0 from rfl]
    rw [hi, if_neg (by omega), if_pos hbig, if_pos (by omega), if_pos (by omega), if_pos (by simp only [List.length_append, List.length_cons, List.length_nil, List.length_take]; omega)]
   ·
    have hz' : (b.take 254) ≠ [] := by intro h; have := congrArg List.length h; rw [List.length_take] at this; simp only [List.length_nil] at this; omega
    have hf := stf_full (b.take 254) [] (b.drop 254) hz hz' (by rw [List.length_take]; simp; omega)
    rw [List.take_append_drop, if_neg (by intro h; have := congrArg List.length h; rw [List.length_drop] at this; simp at this; omega)] at hf
    rw [hf]
    simp
  ·
   have hm2 : m = b.length := by omega
   subst hm2
   rw [List.take_length] at hz hi
   refine Ev.step (f := fun _ => some (out ++ [(b.length : Int) + 1] ++ b)) (fun k => ?_) (Ev.eq (Ev.now _) ?_)
   ·
    simp only [cobs_Stuff.l0]
    rw [hm, if_pos (by omega), if_pos (by omega), Int.toNat_natCast, List.take_length]
    simp only [bytes_IndexByte.f, Option.bind_some, show (0 : Int).toNat.toUInt8 = 0 from rfl]
    rw [hi, if_neg (by omega), if_neg hbig, if_pos (by omega), if_pos (by simp only [List.length_append, List.length_cons, List.length_nil]; omega), w64 (by omega) (by omega), Int.emod_eq_of_lt (by omega) (by omega)]
   ·
    by_cases hfull : b.length = 254
    ·
     have hf := stf_full b [] [] hz (by intro h; rw [h] at hfull; simp at hfull) (by simpa using hfull)
     rw [List.append_nil, if_pos rfl] at hf
     rw [hf, hfull]
     simp
    ·
     have hf := stf_end b [] hz (by simp; omega)
     rw [hf]
     simp
 ·
  have hlen : (b.take m).length = ys.length + (zs.length + 1) := by rw [he]; simp
  rw [List.length_take] at hlen
  have hsplit : b = ys ++ 0 :: (zs ++ b.drop m) := by
   calc b = b.take m ++ b.drop m := (List.take_append_drop m b).symm
    _ = _ := by rw [he]; simp
  have hd1 : b.drop (ys.length + 1) = zs ++ b.drop m := by
   generalize zs ++ b.drop m = rest at hsplit ⊢
   rw [hsplit, show ys ++ 0 :: rest = (ys ++ [0]) ++ rest by simp, List.drop_left' (by simp)]
  have ht1 : b.take ys.length = ys := by
   generalize zs ++ b.drop m = rest at hsplit ⊢
   rw [hsplit, List.take_left' rfl]
  have hdl : (b.drop (ys.length + 1)).length = b.length - (ys.length + 1) := by rw [List.length_drop]
  have hnx := ih (N - (ys.length + 1)) (by omega) (b.drop (ys.length + 1)) (out ++ [(ys.length : Int) + 1] ++ ys) (by omega) (hb.drop _) (by simp only [List.length_append, List.length_cons, List.length_nil]; omega) (by omega)
  refine Ev.step (fun k => ?_) (Ev.eq hnx ?_)
  ·
   simp only [cobs_Stuff.l0]
   rw [hm, if_pos (by omega), if_pos (by omega), Int.toNat_natCast]
   simp only [bytes_IndexByte.f, Option.bind_some, show (0 : Int).toNat.toUInt8 = 0 from rfl]
   rw [hi, if_pos (by omega), if_pos (by omega), if_pos (by omega), if_pos (by omega), Int.toNat_natCast, ht1, if_pos (by simp only [List.length_append, List.length_cons, List.length_nil]; omega), w64 (by omega) (by omega), if_pos (by omega), if_pos (by omega), Int.emod_eq_of_lt (by omega) (by omega)]
   rfl
  ·
   rw [hd1]
   have hf := stf_zero ys [] (zs ++ b.drop m) hz (by simp; omega)
   rw [← hsplit] at hf
   rw [hf]
   simp
theorem most_f (n : Int) (h0 : 0 ≤ n) (h1 : n ≤ 1000000000000) : cobs_Most.f n = some (n + 1 + ((n.toNat - 1 : Nat) : Int) / 254) := by
 unfold cobs_Most.f
 by_cases h : n ≤ 0
 ·
  rw [if_pos h]
  obtain rfl : n = 0 := by omega
  rfl
 ·
  have : Int.tdiv (n - 1) 254 = ((n.toNat - 1 : Nat) : Int) / 254 := by rw [Int.tdiv_eq_ediv_of_nonneg (by omega)]; congr 1; omega
  rw [if_neg h, w64 (x := n - 1) (by omega) (by omega), this, w64 (x := n + 1) (by omega) (by omega), w64 (x := _ / 254) (by omega) (by omega), w64 (by omega) (by omega)]
theorem stuff_f (b : List Int) (hb : Bytes b) (hl : b.length ≤ 100000) : Ev (fun k => cobs_Stuff.f k b) (stf b []) := by
 unfold cobs_Stuff.f
 rw [most_f _ (by omega) (by omega)]
 simp only [Option.bind_some]
 refine Ev.congr (fun k => ?_) (stuff_l0 b.length b [] (Nat.le_refl _) hb (by simp; omega) (by omega))
 rw [if_pos (by omega), if_pos (by omega)]
end Go.Proofs.Ytekanmieppnpeaa.LCobs
namespace Go.Proofs.Ytekanmieppnpeaa.LCobs
open Go.RowKit Go.Proofs.Ytekanmieppnpeaa.G Go.Proofs.YtekanmieppnpeaaW.PrintWords Go.Proofs.YtekanmieppnpeaaW.PrintLast Go.Proofs.Ytekanmieppnpeaa.PureKit
theorem nums_one255 : (⟨#[255]⟩ : ByteArray) = strOfNums [255] := by decide
theorem nums_one0 : (⟨#[0]⟩ : ByteArray) = strOfNums [0] := by decide
theorem nums_empty : (⟨#[]⟩ : ByteArray) = strOfNums [] := by decide
def tl (b : List Int) (i : Nat) (now : List Int) : List Int := if b.drop i = [] ∧ now = [] ∧ 0 < i ∧ rd b ((i : Int) - 1) ≠ 0 then [] else stf (b.drop i) now
theorem ref_stuff_j1 (b : List Int) (out now : List Int) (i : Nat) (hi : i < 10000000) (hn : now.length < 254) (ho : out.length ≤ 100000000) (r : ByteArray)
  (h : Ev (fun k => fascicleref05_Stuff.l0 k (strOfNums (b ++ [0])) (strOfNums (out ++ ([(now.length : Int) + 1] ++ now))) (strOfNums []) ((i + 1 : Nat) : Int)) r) :
  Ev (fun k => fascicleref05_Stuff.j1 k (strOfNums (b ++ [0])) (strOfNums out) (strOfNums now) (i : Int) false) r := by
 refine Ev.step (fun k => ?_) h
 have hns : (strOfNums now).size = now.length := nums_size now
 simp only [fascicleref05_Stuff.j1]
 rw [if_neg (by decide), Option.bind_some, hns, w64 (by omega) (by omega), Int.emod_eq_of_lt (by omega) (by omega), if_pos (by rw [nums_size, nums_size]; simp; omega), PureKit.nums_append, if_pos (by rw [nums_size]; simp; omega), PureKit.nums_append, nums_empty, List.append_assoc, w64 (by omega) (by omega)]
 rfl
theorem ref_stuff_l0 (b : List Int) (hb : Bytes b) (hbl : b.length ≤ 1000000) : ∀ (d i : Nat) (out now : List Int), i + d = b.length → NoZ now → now.length < 254 → Bytes now → out.length + now.length + 3 * (d + 1) ≤ 10000000 →
  Ev (fun k => fascicleref05_Stuff.l0 k (strOfNums (b ++ [0])) (strOfNums out) (strOfNums now) (i : Int)) (strOfNums (out ++ tl b i now)) := by
 have hball : Bytes (b ++ [0]) := hb.append (Bytes.cons (by omega) Bytes.nil)
 have hsz : ((strOfNums (b ++ [0])).size : Int) = (b.length : Int) + 1 := by rw [nums_size]; simp
 have hw : wrap64 ((b.length : Int) + 1 - 1) = (b.length : Int) := by rw [w64 (by omega) (by omega)]; omega
 intro d
 induction d with
 | zero =>
  intro i out now hi hz hn hbn ho
  have hb0 : bt (strOfNums (b ++ [0])) (i : Int) = 0 := by
   rw [bt_nums _ hball i (by simp; omega)]
   rw [List.getElem_append_right (by omega)]
   simp
  have hdr : b.drop i = [] := List.drop_of_length_le (by omega)
  have hlast : Ev (fun k => fascicleref05_Stuff.l0 k (strOfNums (b ++ [0])) (strOfNums (out ++ ([(now.length : Int) + 1] ++ now))) (strOfNums []) ((i + 1 : Nat) : Int)) (strOfNums (out ++ ([(now.length : Int) + 1] ++ now))) := by
   refine Ev.step (f := fun _ => some _) (fun k => ?_) (Ev.now _)
   simp only [fascicleref05_Stuff.l0]
   rw [hsz, if_neg (by omega)]
  have hj := ref_stuff_j1 b out now i (by omega) hn (by omega) _ hlast
  by_cases hnow : now = []
  ·
   subst hnow
   by_cases hi0 : 0 < i
   ·
    have hprev : bt (strOfNums (b ++ [0])) ((i : Int) - 1) = rd b ((i : Int) - 1) := by
     rw [show (i : Int) - 1 = ((i - 1 : Nat) : Int) by omega, bt_nums _ hball (i - 1) (by simp; omega), rd_at b (i - 1) (by omega), List.getElem_append_left (by omega)]
    refine Ev.step (f := fun k => fascicleref05_Stuff.j1 k (strOfNums (b ++ [0])) (strOfNums out) (strOfNums []) (i : Int) (rd b ((i : Int) - 1) != 0)) (fun k => ?_) ?_
    ·
     simp only [fascicleref05_Stuff.l0]
     rw [hsz, if_pos (by omega), if_pos (by omega), if_pos hb0, hw, if_pos (by omega), if_pos ((nums_nil []).2 rfl), if_pos (by omega), w64 (by omega) (by omega), if_pos (by omega), if_pos (by omega), hprev]
    ·
     by_cases hr : rd b ((i : Int) - 1) = 0
     ·
      rw [hr, bne_self_eq_false]
      refine Ev.eq hj ?_
      unfold tl
      rw [if_neg (by intro h; exact h.2.2.2 hr), hdr]
      rfl
     ·
      rw [show (rd b ((i : Int) - 1) != 0) = true from bne_iff_ne.2 hr]
      refine Ev.step (f := fun _ => some (strOfNums out)) (fun k => ?_) (Ev.eq (Ev.now _) ?_)
      ·
       simp only [fascicleref05_Stuff.j1]; rfl
      ·
       unfold tl
       rw [if_pos ⟨hdr, rfl, hi0, hr⟩, List.append_nil]
   ·
    refine Ev.step (fun k => ?_) (Ev.eq hj ?_)
    ·
     simp only [fascicleref05_Stuff.l0]
     rw [hsz, if_pos (by omega), if_pos (by omega), if_pos hb0, hw, if_pos (by omega), if_pos ((nums_nil []).2 rfl), if_neg (by omega)]
    ·
     unfold tl
     rw [if_neg (by intro h; exact hi0 h.2.2.1), hdr]
     rfl
  ·
   refine Ev.step (fun k => ?_) (Ev.eq hj ?_)
   ·
    simp only [fascicleref05_Stuff.l0]
    rw [hsz, if_pos (by omega), if_pos (by omega), if_pos hb0, hw, if_pos (by omega), if_neg (fun h => hnow ((nums_nil now).1 h))]
   ·
    unfold tl
    rw [if_neg (by intro h; exact hnow h.2.1), hdr]
    rfl
 | succ d ih =>
  intro i out now hi hz hn hbn ho
  have hlt : i < b.length := by omega
  have hb0 : bt (strOfNums (b ++ [0])) (i : Int) = b[i] := by
   rw [bt_nums _ hball i (by simp; omega), List.getElem_append_left hlt]
  have hdr : b.drop i = b[i] :: b.drop (i + 1) := List.drop_eq_getElem_cons hlt
  have hprev : rd b (((i + 1 : Nat) : Int) - 1) = b[i] := by rw [show ((i + 1 : Nat) : Int) - 1 = (i : Int) by omega]; exact rd_at b i hlt
  have hrhs : tl b i now = stf (b.drop i) now := by
   unfold tl
   rw [if_neg (by intro h; rw [hdr] at h; exact List.cons_ne_nil _ _ h.1)]
  rw [hrhs, hdr]
  by_cases hx : b[i] = 0
  ·
   have hnx := ih (i + 1) (out ++ ([(now.length : Int) + 1] ++ now)) [] (by omega) (fun _ h => by cases h) (by simp) Bytes.nil (by simp; omega)
   have hj := ref_stuff_j1 b out now i (by omega) hn (by omega) _ hnx
   refine Ev.step (fun k => ?_) (Ev.eq hj ?_)
   ·
    simp only [fascicleref05_Stuff.l0]
    rw [hsz, if_pos (by omega), if_pos (by omega), hb0, if_pos hx, hw, if_neg (by omega)]
   ·
    unfold tl
    rw [hprev, if_neg (by intro h; exact h.2.2.2 hx)]
    simp [stf, hx]
  ·
   have hex : (strOfNums (b ++ [0])).extract i (i + 1) = strOfNums [b[i]] := by
    rw [nums_extract]
    congr 1
    rw [List.take_append_of_le_length (by omega), List.drop_take, show i + 1 - i = 1 by omega, hdr]
    rfl
   have hnz' : NoZ (now ++ [b[i]]) := fun y hy => by
    rcases List.mem_append.1 hy with hy | hy
    ·
     exact hz y hy
    ·
     rw [List.mem_singleton.1 hy]; exact hx
   by_cases hfull : now.length + 1 = 254
   ·
    have hnx := ih (i + 1) (out ++ [255] ++ (now ++ [b[i]])) [] (by omega) (fun _ h => by cases h) (by simp) Bytes.nil (by simp; omega)
    refine Ev.step (fun k => ?_) (Ev.eq hnx ?_)
    ·
     simp only [fascicleref05_Stuff.l0]
     rw [hsz, if_pos (by omega), if_pos (by omega), hb0, if_neg hx, w64 (by omega) (by omega), if_pos (by omega), if_pos (by omega)]
     rw [show ((i : Int) + 1).toNat = i + 1 by omega, Int.toNat_natCast, hex, PureKit.nums_append, if_pos (by rw [nums_size, nums_size]; simp; omega), if_pos (by rw [nums_size]; simp; omega), if_pos (by rw [nums_size]; omega), nums_one255, PureKit.nums_append, if_pos (by rw [nums_size, nums_size]; simp; omega), PureKit.nums_append, nums_empty]
     rfl
    ·
     congr 1
     unfold tl
     rw [hprev]
     by_cases hd0 : b.drop (i + 1) = []
     ·
      rw [if_pos ⟨hd0, rfl, by omega, hx⟩, hd0]
      simp [stf, hx, hfull]
     ·
      rw [if_neg (by intro h; exact hd0 h.1)]
      simp [stf, hx, hfull, hd0]
   ·
    have hnx := ih (i + 1) out (now ++ [b[i]]) (by omega) hnz' (by simp; omega) (hbn.append (Bytes.cons (hb _ (List.getElem_mem hlt)) Bytes.nil)) (by simp; omega)
    refine Ev.step (fun k => ?_) (Ev.eq hnx ?_)
    ·
     simp only [fascicleref05_Stuff.l0]
     rw [hsz, if_pos (by omega), if_pos (by omega), hb0, if_neg hx, w64 (by omega) (by omega), if_pos (by omega), if_pos (by omega)]
     rw [show ((i : Int) + 1).toNat = i + 1 by omega, Int.toNat_natCast, hex, PureKit.nums_append, if_pos (by rw [nums_size, nums_size]; simp; omega), if_neg (by rw [nums_size]; simp; omega)]
     rfl
    ·
     congr 1
     unfold tl
     rw [if_neg (by intro h; simp at h)]
     simp [stf, hx, hfull]
theorem ref_stuff_f (b : List Int) (hb : Bytes b) (hl : b.length ≤ 1000000) : Ev (fun k => fascicleref05_Stuff.f k (strOfNums b)) (strOfNums (stf b [])) := by
 have h := ref_stuff_l0 b hb hl b.length 0 [] [] (by omega) (fun _ h => by cases h) (by simp) Bytes.nil (by simp; omega)
 unfold fascicleref05_Stuff.f
 rw [nums_one0, PureKit.nums_append, nums_empty]
 refine Ev.congr (fun k => ?_) (Ev.eq h ?_)
 ·
  rw [if_pos (by rw [nums_size]; omega)]; rfl
 ·
  unfold tl
  rw [if_neg (by intro h; omega)]
  rfl
theorem stuffed_bytes (o : List Int) (h : Bytes o) : Bytes (stf o []) := (stf_noz o [] (fun _ h => by cases h) (by simp)).2 Bytes.nil h
theorem stf_nz (a : List Int) : NoZ (stf a []) := (stf_noz a [] (fun _ h => by cases h) (by simp)).1
theorem stuff_len (a : List Int) : (stf a []).length ≤ a.length + 1 + (a.length - 1) / 254 := by
 have := stf_len a [] (by simp)
 simpa using this
end Go.Proofs.Ytekanmieppnpeaa.LCobs
namespace Go.Proofs.Ytekanmieppnpeaa.LCobs
open Go.RowKit Go.Proofs.Ytekanmieppnpeaa.G Go.Proofs.YtekanmieppnpeaaW.PrintWords Go.Proofs.YtekanmieppnpeaaW.PrintLast Go.Proofs.Ytekanmieppnpeaa.PureKit
def unl : Nat → List Int → List Int → Option (List Int)
 | 0, out, _ => some out
 | _ + 1, out, [] => some out
 | d + 1, out, n :: rest => if n > (rest.length : Int) + 1 then none else unl d (out ++ rest.take (n.toNat - 1) ++ (if n < 255 ∧ rest.drop (n.toNat - 1) ≠ [] then [0] else [])) (rest.drop (n.toNat - 1))
def fin (b : List Int) : Option (List Int) → List Int × Int
 | none => ([], 2)
 | some o => if stf o [] = b then (o, 0) else ([], 4)
theorem unstuff_l0 (b : List Int) (hb : Bytes b) : ∀ (d : Nat) (out rest : List Int), rest.length ≤ d → NoZ rest → Bytes rest → Bytes out → out.length + rest.length ≤ 100000 →
  Ev (fun k => cobs_Unstuff.l0 k b out rest) (fin b (unl d out rest)) := by
 have hend : ∀ (out : List Int) (d : Nat), Bytes out → out.length ≤ 100000 → Ev (fun k => cobs_Unstuff.l0 k b out []) (fin b (unl d out [])) := by
  intro out d hbo ho
  have hu : unl d out [] = some out := by cases d <;> rfl
  rw [hu]
  refine Ev.step (f := fun k => (cobs_Stuff.f k out).bind fun t307 => (bytes_Equal.f t307 b).bind fun t310 => if t310 = true then some (out, 0) else some ([], 4)) (fun k => ?_) (Ev.bind (f := fun k t307 => (bytes_Equal.f t307 b).bind fun t310 => if t310 = true then some (out, 0) else some ([], 4)) (stuff_f out hbo ho) ?_)
  ·
   simp only [cobs_Unstuff.l0]; rw [if_neg (by simp)]
  ·
   simp only [bytes_Equal.f, Option.bind_some]
   rw [nums_beq (stuffed_bytes out hbo) hb]
   unfold fin
   by_cases h : stf out [] = b
   ·
    simp only [h, decide_true, if_true]; exact Ev.now _
   ·
    simp only [h, decide_false, if_false, Bool.false_eq_true]; exact Ev.now _
 intro d
 induction d with
 | zero =>
  intro out rest hd hz hbr hbo ho
  obtain rfl : rest = [] := List.eq_nil_of_length_eq_zero (by omega)
  exact hend out 0 hbo (by omega)
 | succ d ih =>
  intro out rest hd hz hbr hbo ho
  cases rest with
  | nil => exact hend out _ hbo (by simpa using ho)
  | cons n rest =>
   have hn := hbr.head
   have hn0 : n ≠ 0 := hz n List.mem_cons_self
   have hrd : rd (n :: rest) 0 = n := rfl
   have hw : wrap64 n = n := w64 (by omega) (by omega)
   simp only [List.length_cons] at hd ho
   by_cases hbig : n > (rest.length : Int) + 1
   ·
    refine Ev.step (f := fun _ => some ([], 2)) (fun k => ?_) (Ev.eq (Ev.now _) ?_)
    ·
     simp only [cobs_Unstuff.l0]
     rw [if_pos (by simp), if_pos (by simp), hrd, hw, if_pos (by simp only [List.length_cons]; omega)]
    ·
     simp [unl, hbig, fin]
   ·
    have hu : unl (d + 1) out (n :: rest) = unl d (out ++ rest.take (n.toNat - 1) ++ (if n < 255 ∧ rest.drop (n.toNat - 1) ≠ [] then [0] else [])) (rest.drop (n.toNat - 1)) := by simp only [unl]; rw [if_neg hbig]
    rw [hu]
    have htk : ((n :: rest).take n.toNat).drop 1 = rest.take (n.toNat - 1) := by
     rw [show n.toNat = (n.toNat - 1) + 1 by omega, List.take_succ_cons]; rfl
    have hdp : (n :: rest).drop n.toNat = rest.drop (n.toNat - 1) := by
     rw [show n.toNat = (n.toNat - 1) + 1 by omega, List.drop_succ_cons]; rfl
    have hl1 : (rest.take (n.toNat - 1)).length = n.toNat - 1 := by rw [List.length_take]; omega
    have hl2 : (rest.drop (n.toNat - 1)).length = rest.length - (n.toNat - 1) := by rw [List.length_drop]
    have hzr : NoZ (rest.drop (n.toNat - 1)) := fun y hy => hz y (List.mem_cons_of_mem _ (List.mem_of_mem_drop hy))
    have hstep : ∀ k, cobs_Unstuff.l0 (k + 1) b out (n :: rest) = cobs_Unstuff.l0 k b (out ++ rest.take (n.toNat - 1) ++ (if n < 255 ∧ rest.drop (n.toNat - 1) ≠ [] then [0] else [])) (rest.drop (n.toNat - 1)) := by
     intro k
     simp only [cobs_Unstuff.l0]
     rw [if_pos (by simp), if_pos (by simp), hrd, hw, if_neg (by simp only [List.length_cons]; omega), if_pos (by omega), if_pos (by simp only [List.length_cons]; omega), Option.bind_some, htk, if_pos (by omega), Option.bind_some, if_pos (by omega), Option.bind_some, hdp]
     by_cases h1 : n ≤ 254
     ·
      rw [if_pos h1]
      by_cases h2 : rest.drop (n.toNat - 1) = []
      ·
       rw [if_neg (by rw [h2]; simp), if_neg (by intro h; exact h.2 h2), List.append_nil]
      ·
       have : 0 < (rest.drop (n.toNat - 1)).length := List.length_pos_iff.2 h2
       rw [if_pos (by omega), if_pos (by rw [List.length_append]; omega), if_pos ⟨by omega, h2⟩]
     ·
      rw [if_neg h1, if_neg (by intro h; omega), List.append_nil]
    refine Ev.step hstep (ih _ _ (by omega) hzr (hbr.tail.drop _) ?_ ?_)
    ·
     refine (hbo.append (hbr.tail.take _)).append ?_
     split
     ·
      exact Bytes.cons (by omega) Bytes.nil
     ·
      exact Bytes.nil
    ·
     simp only [List.length_append]
     split
     ·
      rw [List.length_singleton]; omega
     ·
      rw [List.length_nil]; omega
theorem ref_unstuff_l1 (b : List Int) (hb : Bytes b) : ∀ (d : Nat) (out rest : List Int), rest.length ≤ d → NoZ rest → Bytes rest → Bytes out → out.length + rest.length ≤ 100000 →
  Ev (fun k => fascicleref05_Unstuff.l1 k (strOfNums b) (strOfNums out) (strOfNums rest)) (strOfNums (fin b (unl d out rest)).1, (fin b (unl d out rest)).2) := by
 have hend : ∀ (out : List Int) (d : Nat), Bytes out → out.length ≤ 100000 → Ev (fun k => fascicleref05_Unstuff.l1 k (strOfNums b) (strOfNums out) (strOfNums [])) (strOfNums (fin b (unl d out [])).1, (fin b (unl d out [])).2) := by
  intro out d hbo ho
  have hu : unl d out [] = some out := by cases d <;> rfl
  rw [hu]
  refine Ev.step (f := fun k => (fascicleref05_Stuff.f k (strOfNums out)).bind fun t314 => if t314.toList = (strOfNums b).toList then some (strOfNums out, 0) else some (strOfNums [], 4)) (fun k => ?_) (Ev.bind (f := fun k t314 => if t314.toList = (strOfNums b).toList then some (strOfNums out, 0) else some (strOfNums [], 4)) (ref_stuff_f out hbo (by omega)) ?_)
  ·
   simp only [fascicleref05_Unstuff.l1]; rw [if_pos ((nums_nil []).2 rfl), nums_empty]
  ·
   unfold fin
   by_cases h : stf out [] = b
   ·
    refine Ev.eq (Ev.congr (f := fun _ => some (strOfNums out, 0)) (fun k => ?_) (Ev.now _)) ?_
    ·
     rw [if_pos (by rw [h])]
    ·
     simp [h]
   ·
    refine Ev.eq (Ev.congr (f := fun _ => some (strOfNums [], 4)) (fun k => ?_) (Ev.now _)) ?_
    ·
     rw [if_neg (fun e => h ((nums_eq (stuffed_bytes out hbo) hb).1 e))]
    ·
     simp [h]
 intro d
 induction d with
 | zero =>
  intro out rest hd hz hbr hbo ho
  obtain rfl : rest = [] := List.eq_nil_of_length_eq_zero (by omega)
  exact hend out 0 hbo (by omega)
 | succ d ih =>
  intro out rest hd hz hbr hbo ho
  cases rest with
  | nil => exact hend out _ hbo (by simpa using ho)
  | cons n rest =>
   have hn := hbr.head
   have hn0 : n ≠ 0 := hz n List.mem_cons_self
   have hrd : bt (strOfNums (n :: rest)) 0 = n := bt_nums (n :: rest) hbr 0 (by simp)
   have hw : wrap64 n = n := w64 (by omega) (by omega)
   have hsz : ((strOfNums (n :: rest)).size : Int) = (rest.length : Int) + 1 := by rw [nums_size]; simp
   simp only [List.length_cons] at hd ho
   have hne : ¬ (strOfNums (n :: rest)).toList = ([] : List UInt8) := fun h => by simpa using (nums_nil (n :: rest)).1 h
   by_cases hbig : n > (rest.length : Int) + 1
   ·
    refine Ev.step (f := fun _ => some (strOfNums [], 2)) (fun k => ?_) (Ev.eq (Ev.now _) ?_)
    ·
     simp only [fascicleref05_Unstuff.l1]
     rw [if_neg hne, hsz, if_pos (by omega), hrd, hw, if_pos (by omega), nums_empty]
    ·
     simp [unl, hbig, fin]
   ·
    have hu : unl (d + 1) out (n :: rest) = unl d (out ++ rest.take (n.toNat - 1) ++ (if n < 255 ∧ rest.drop (n.toNat - 1) ≠ [] then [0] else [])) (rest.drop (n.toNat - 1)) := by simp only [unl]; rw [if_neg hbig]
    rw [hu]
    have htk : (strOfNums (n :: rest)).extract 1 n.toNat = strOfNums (rest.take (n.toNat - 1)) := by
     rw [nums_extract]
     congr 1
     rw [show n.toNat = (n.toNat - 1) + 1 by omega, List.take_succ_cons]; rfl
    have hdp : (strOfNums (n :: rest)).extract n.toNat (strOfNums (n :: rest)).size = strOfNums (rest.drop (n.toNat - 1)) := by
     rw [nums_extract, nums_size, List.take_length]
     congr 1
     rw [show n.toNat = (n.toNat - 1) + 1 by omega, List.drop_succ_cons]; rfl
    have hl1 : (rest.take (n.toNat - 1)).length = n.toNat - 1 := by rw [List.length_take]; omega
    have hl2 : (rest.drop (n.toNat - 1)).length = rest.length - (n.toNat - 1) := by rw [List.length_drop]
    have hzr : NoZ (rest.drop (n.toNat - 1)) := fun y hy => hz y (List.mem_cons_of_mem _ (List.mem_of_mem_drop hy))
    have hstep : ∀ k, fascicleref05_Unstuff.l1 (k + 1) (strOfNums b) (strOfNums out) (strOfNums (n :: rest)) = fascicleref05_Unstuff.l1 k (strOfNums b) (strOfNums (out ++ rest.take (n.toNat - 1) ++ (if n < 255 ∧ rest.drop (n.toNat - 1) ≠ [] then [0] else []))) (strOfNums (rest.drop (n.toNat - 1))) := by
     intro k
     simp only [fascicleref05_Unstuff.l1]
     rw [if_neg hne, hrd, hw, htk, hdp, hsz, if_pos (by omega), if_neg (by omega), if_pos (by omega), if_pos (by omega), if_pos (by rw [nums_size, nums_size]; omega), if_pos (by omega), PureKit.nums_append]
     by_cases h1 : n < 255
     ·
      rw [if_pos h1]
      by_cases h2 : rest.drop (n.toNat - 1) = []
      ·
       rw [if_pos ((nums_nil _).2 h2), if_neg (by intro h; exact h.2 h2), List.append_nil]
      ·
       rw [if_neg (fun h => h2 ((nums_nil _).1 h)), if_pos (by rw [nums_size, List.length_append]; omega), if_pos ⟨h1, h2⟩, nums_one0, PureKit.nums_append]
     ·
      rw [if_neg h1, if_neg (by intro h; omega), List.append_nil]
    refine Ev.step hstep (ih _ _ (by omega) hzr (hbr.tail.drop _) ?_ ?_)
    ·
     refine (hbo.append (hbr.tail.take _)).append ?_
     split
     ·
      exact Bytes.cons (by omega) Bytes.nil
     ·
      exact Bytes.nil
    ·
     simp only [List.length_append]
     split
     ·
      rw [List.length_singleton]; omega
     ·
      rw [List.length_nil]; omega
open Classical in
theorem unstuff_f (b : List Int) (hb : Bytes b) (hl : b.length ≤ 100000) : Ev (fun k => cobs_Unstuff.f k b) (if ¬ NoZ b then ([], 4) else if b = [] then ([], 2) else fin b (unl b.length [] b)) := by
 unfold cobs_Unstuff.f
 simp only [bytes_IndexByte.f, Option.bind_some, show (0 : Int).toNat.toUInt8 = 0 from rfl]
 rcases idx0 b hb with ⟨hz, hi⟩ | ⟨ys, zs, he, hz, hi⟩
 ·
  rw [hi, if_neg (by simpa using hz)]
  by_cases h0 : b = []
  ·
   rw [if_pos h0]
   refine Ev.congr (f := fun _ => some ([], 2)) (fun k => ?_) (Ev.now _)
   rw [if_neg (by omega), if_pos (by rw [h0]; rfl)]
  ·
   rw [if_neg h0]
   have : 0 < b.length := List.length_pos_iff.2 h0
   refine Ev.congr (fun k => ?_) (unstuff_l0 b hb b.length [] b (Nat.le_refl _) hz hb Bytes.nil (by simpa using hl))
   rw [if_neg (by omega), if_neg (by omega)]
 ·
  have hnz : ¬ NoZ b := fun h => h 0 (by rw [he]; simp) rfl
  rw [if_pos hnz]
  refine Ev.congr (f := fun _ => some ([], 4)) (fun k => ?_) (Ev.now _)
  rw [hi, if_pos (by omega)]
end Go.Proofs.Ytekanmieppnpeaa.LCobs
namespace Go.Proofs.Ytekanmieppnpeaa.LCobs
open Go.RowKit Go.Proofs.Ytekanmieppnpeaa.G Go.Proofs.YtekanmieppnpeaaW.PrintWords Go.Proofs.YtekanmieppnpeaaW.PrintLast Go.Proofs.Ytekanmieppnpeaa.PureKit
theorem unl_step (d : Nat) (out rest : List Int) (m : Nat) (a c : List Int) (hm : m ≤ 254) (ha : a.length = m) (hr : rest = ((m : Int) + 1) :: (a ++ c)) : unl (d + 1) out rest = unl d (out ++ a ++ (if m < 254 ∧ c ≠ [] then [0] else [])) c := by
 subst hr
 simp only [unl]
 rw [if_neg (by rw [List.length_append]; omega)]
 have h1 : ((m : Int) + 1).toNat - 1 = m := by omega
 rw [h1, List.take_left' ha, List.drop_left' ha]
 by_cases h2 : m < 254 ∧ c ≠ []
 ·
  rw [if_pos h2, if_pos ⟨by omega, h2.2⟩]
 ·
  rw [if_neg h2, if_neg (fun h => h2 ⟨by omega, h.2⟩)]
theorem unl_nil (d : Nat) (out : List Int) : unl d out [] = some out := by cases d <;> rfl
theorem unl_stf : ∀ (l now out : List Int) (d : Nat), now.length < 254 → (stf l now).length ≤ d → unl d out (stf l now) = some (out ++ now ++ l)
 | [], now, out, d, hn, hd => by
  simp only [stf] at hd ⊢
  obtain ⟨d, rfl⟩ : ∃ e, d = e + 1 := ⟨d - 1, by rw [List.length_cons] at hd; omega⟩
  rw [unl_step d out _ now.length now [] (by omega) rfl (by simp), unl_nil]
  simp
 | x :: xs, now, out, d, hn, hd => by
  simp only [stf] at hd ⊢
  by_cases hx : x = 0
  ·
   rw [if_pos hx] at hd ⊢
   obtain ⟨d, rfl⟩ : ∃ e, d = e + 1 := ⟨d - 1, by rw [List.length_cons] at hd; omega⟩
   rw [unl_step d out _ now.length now (stf xs []) (by omega) rfl rfl, if_pos ⟨hn, stf_ne _ _⟩]
   rw [unl_stf xs [] _ d (by simp) (by rw [List.length_cons, List.length_append] at hd; omega)]
   simp [hx]
  ·
   rw [if_neg hx] at hd ⊢
   by_cases hf : now.length + 1 = 254
   ·
    rw [if_pos hf] at hd ⊢
    obtain ⟨d, rfl⟩ : ∃ e, d = e + 1 := ⟨d - 1, by rw [List.length_cons] at hd; omega⟩
    by_cases hxs : xs = []
    ·
     rw [if_pos hxs] at hd ⊢
     rw [unl_step d out _ 254 (now ++ [x]) [] (by omega) (by simp; omega) (by simp), unl_nil]
     simp [hxs]
    ·
     rw [if_neg hxs] at hd ⊢
     rw [unl_step d out _ 254 (now ++ [x]) (stf xs []) (by omega) (by simp; omega) (by simp), if_neg (by omega)]
     rw [unl_stf xs [] _ d (by simp) (by rw [List.length_cons, List.length_append] at hd; omega)]
     simp
   ·
    rw [if_neg hf] at hd ⊢
    rw [unl_stf xs (now ++ [x]) out d (by simp; omega) hd]
    simp
end Go.Proofs.Ytekanmieppnpeaa.LCobs
namespace Go.Proofs.Ytekanmieppnpeaa.LCobs
open Go.RowKit Go.Proofs.Ytekanmieppnpeaa.G Go.Proofs.YtekanmieppnpeaaW.PrintWords Go.Proofs.YtekanmieppnpeaaW.PrintLast Go.Proofs.Ytekanmieppnpeaa.PureKit
theorem ref_unstuff_l0 (b : List Int) (hb : Bytes b) (hl : b.length ≤ 100000) (r : ByteArray × Int) : ∀ (d i : Nat), i + d = b.length →
  (NoZ (b.drop i) → Ev (fun k => fascicleref05_Unstuff.l0 k (strOfNums b) (b.length : Int)) r) → (¬ NoZ (b.drop i) → r = (strOfNums [], 4)) → Ev (fun k => fascicleref05_Unstuff.l0 k (strOfNums b) (i : Int)) r := by
 intro d
 induction d with
 | zero =>
  intro i hi h1 _
  have := h1 (by rw [List.drop_of_length_le (by omega)]; exact fun _ h => by cases h)
  rw [show (b.length : Int) = (i : Int) by omega] at this
  exact this
 | succ d ih =>
  intro i hi h1 h2
  have hlt : i < b.length := by omega
  have hdr : b.drop i = b[i] :: b.drop (i + 1) := List.drop_eq_getElem_cons hlt
  have hb0 : bt (strOfNums b) (i : Int) = b[i] := bt_nums b hb i hlt
  by_cases hx : b[i] = 0
  ·
   refine Ev.step (f := fun _ => some (strOfNums [], 4)) (fun k => ?_) (Ev.eq (Ev.now _) ?_)
   ·
    simp only [fascicleref05_Unstuff.l0]
    rw [if_pos (by rw [nums_size]; omega), if_pos (by omega), if_pos (by rw [hb0]; exact hx), nums_empty]
   ·
    exact (h2 (fun h => h b[i] (by rw [hdr]; exact List.mem_cons_self) hx)).symm
  ·
   refine Ev.step (fun k => ?_) (ih (i + 1) (by omega) (fun h => h1 ?_) (fun h => h2 ?_))
   ·
    simp only [fascicleref05_Unstuff.l0]
    rw [if_pos (by rw [nums_size]; omega), if_pos (by omega), if_neg (by rw [hb0]; exact hx), w64 (by omega) (by omega)]
    rfl
   ·
    intro y hy
    rw [hdr] at hy
    rcases List.mem_cons.1 hy with rfl | hy
    ·
     exact hx
    ·
     exact h y hy
   ·
    intro hn
    exact h (fun y hy => hn y (by rw [hdr]; exact List.mem_cons_of_mem _ hy))
open Classical in
theorem ref_unstuff_f (b : List Int) (hb : Bytes b) (hl : b.length ≤ 100000) : Ev (fun k => fascicleref05_Unstuff.f k (strOfNums b))
  (strOfNums (if ¬ NoZ b then ([], 4) else if b = [] then ([], 2) else fin b (unl b.length [] b)).1, (if ¬ NoZ b then ([], 4) else if b = [] then ([], 2) else fin b (unl b.length [] b)).2) := by
 unfold fascicleref05_Unstuff.f
 refine ref_unstuff_l0 b hb hl _ b.length 0 (by omega) (fun hz => ?_) (fun hz => ?_)
 ·
  rw [List.drop_zero] at hz
  rw [if_neg (by simpa using hz)]
  by_cases h0 : b = []
  ·
   subst h0
   refine Ev.step (f := fun _ => some (strOfNums [], 2)) (fun k => ?_) (Ev.now _)
   simp only [fascicleref05_Unstuff.l0]
   rw [if_neg (by rw [nums_size]; omega), if_pos ((nums_nil []).2 rfl), nums_empty]
  ·
   rw [if_neg h0]
   have h := ref_unstuff_l1 b hb b.length [] b (Nat.le_refl _) hz hb Bytes.nil (by simpa using hl)
   refine Ev.step (fun k => ?_) h
   simp only [fascicleref05_Unstuff.l0]
   rw [if_neg (by rw [nums_size]; omega), if_neg (fun h => h0 ((nums_nil b).1 h)), nums_empty]
 ·
  rw [List.drop_zero] at hz
  rw [if_pos hz]
end Go.Proofs.Ytekanmieppnpeaa.LCobs
end
section
namespace Go.Proofs.Ytekanmieppnpeaa.G
open Go Go.RowKit Go.Proofs.YtekanmieppnpeaaW.PrintWords Go.Proofs.YtekanmieppnpeaaW.PrintLast Go.Proofs.YtekanmieppnpeaaW.PrintMore Go.Proofs.Ytekanmieppnpeaa.PureKit Go.Proofs.Ytekanmieppnpeaa.Sep Go.Proofs.Ytekanmieppnpeaa.Rol Go.Proofs.Ytekanmieppnpeaa.LCobs
def summed (l : List Int) : List Int := l ++ nbytes 8 ((wsum 0 l : Nat) : Int)
theorem summed_len (l : List Int) : (summed l).length = l.length + 8 := by unfold summed; rw [List.length_append, nbytes_len]
theorem nbytes_bytes : ∀ (n : Nat) (x : Int), 0 ≤ x → Bytes (nbytes n x)
 | 0, _, _ => Bytes.nil
 | n + 1, x, h => Bytes.cons (by omega) (nbytes_bytes n (x / 256) (by omega))
theorem summed_bytes (l : List Int) (h : Bytes l) : Bytes (summed l) := fun x hx => by
 rcases List.mem_append.1 hx with h1 | h1
 ·
  exact h x h1
 ·
  exact nbytes_bytes 8 _ (by omega) x h1
def sealed (l : List Int) : List Int := stf (summed l) []
theorem frame_seal (w : World) (A : Option Addr) (c n : Nat) (l : List Int) (hn : n = l.length) (hC : Kd.C (Kd.int .u8) w A l.length l) (hc : l.length ≤ c) (hb : Bytes l) (hl : l.length ≤ 90000) :
  Calls Try.prog 21 #[.slice A n c] w fun e w' => ∃ v : Value, e = .returned v ∧ Kd.R (Kd.int .u8) 5 w' w.heap.size (fun _ => True) v (sealed l ++ [0]) ∧ Below w.heap.size w w' := by
 subst hn
 have hS0 := Aside0.mk (Sep.buf_new (Sep.start w))
 have hCA := Aside0.mk hC
 have hcA := Aside0.mk hc
 have hlA := Aside0.mk hl
 have hsl := wsum_lt 0 l
 obtain ⟨k, hk⟩ := (stuff_f (summed l) (summed_bytes l hb) (by rw [summed_len]; omega)).rounds
 have hkA := Aside0.mk hk
 have hsumlen := summed_len l
 have hslen : (sealed l).length ≤ 200000 := by
  have := stf_len (summed l) [] (by simp)
  rw [List.length_nil, Nat.zero_add, hsumlen] at this
  unfold sealed
  omega
 have hslA := Aside0.mk hslen
 have hsuA := Aside0.mk hsumlen
 clear hC hc hl hk hslen hsumlen
 go_enter Try.func21, Try.ntmps21
 go_wp2_with (fail)
 refine (buf_Raw w _ w.heap.size [] [] A l.length c l hS0.out (Kd.C_alloc hCA.out _) rfl (by simp) (by have := hlA.out; omega)).mono ?_
 rintro e w1 ⟨rfl, hS1⟩
 have hS1 := Aside0.mk hS1
 go_wp2_with (fail)
 refine (wide_Sum_calls _ A c l 0 _ rfl (Kd.C_below hCA.out hS1.out.1) hcA.out hb (by decide) (by have := hlA.out; omega)).mono ?_
 rintro e w2 ⟨rfl, hB2⟩
 have hS2 := Aside0.mk (hS1.out.below hB2)
 clear hB2
 go_wp2_with (fail)
 refine (buf_Eight w _ w.heap.size _ [] _ hS2.out (by omega) (by omega) (by have := hlA.out; simp; omega)).mono ?_
 rintro e w3 ⟨rfl, hS3⟩
 have hS3 := Aside0.mk hS3
 go_wp2_with (fail)
 refine (buf_Bytes w _ w.heap.size _ [] hS3.out (by have := hlA.out; simp [nbytes_len]; omega)).mono ?_
 rintro e w4 ⟨v4, rfl, hS4⟩
 rw [show [] ++ l ++ nbytes 8 ((wsum 0 l : Nat) : Int) = summed l from rfl] at hS4
 obtain ⟨bs4, hR4⟩ := hS4.row_R
 obtain ⟨A4, c4, rfl⟩ := Kd.R_slice hR4
 have hr4 := Aside0.mk (Kd.R_reads' hR4)
 have hS4 := Aside0.mk hS4
 clear hR4
 go_wp2_with (fail)
 refine (cobs_Stuff.calls k (fun k_ => k_ < w4.heap.size) A4 c4 (summed l) _ _ (Kd.V_mk hr4.out.2.1 (Kd.C_F (Kd.heap_int .u8) hr4.out.2.2)) hkA.out).mono ?_
 rintro e w5 ⟨v5, rfl, ho5, hb5⟩
 have hS5 := (Sep.row_new hS4.out hb5 ho5)
 obtain ⟨A5, c5, rfl⟩ := Kd.R_slice ho5
 obtain ⟨bs, hRr, hGr⟩ := hS5.row_open
 have hR := Aside0.mk hRr
 have hG := Aside0.mk hGr
 clear ho5 hb5 hRr hGr hS5
 go_wp2_with (first | ((with_reducible refine gate_builtin (b := .append) (xs := #[.tmp 10, .tmp 11]) rfl ?_); at_builtin; refine Kd.R_append (Kd.int .u8) (w0 := w5) 0 rfl (.tmp 10) (.tmp 11) 39 5 (.int .u8 0) 1 rfl Try.underlying39 (by kernel_rfl) rfl (by decide) (by decide) (.slice A5 (stf (summed l) []).length c5) (stf (summed l) []) 0 [.int .u8 0] (fun k => k ∈ bs ∨ w5.heap.size ≤ k) (fun _ => False) rfl rfl rfl (fun _ h => h.elim) (fun _ h => .inr h) ?aO ?aB ?aS ?aL ?_; (case aO => exact Kd.R_mono hR.out (fun _ h => .inl h)); (case aB => exact Below.refl _ _); (case aS => exact Nat.zero_le _); (case aL => have := hslA.out; unfold sealed at this; omega); intro v6 w6 ho6 hb6 hg6 hat6; have hS6 := Aside0.mk (hG.out w6 _ _ ho6 hg6); clear ho6 hb6 hg6 hat6))
 go_ret
 obtain ⟨h1, h2⟩ := hS6.out.row_out
 exact ⟨_, rfl, h1, h2⟩
def frame_Seal.f (l0 : List Int) : Option (List Int) := if wbytesOK l0 = true ∧ l0.length ≤ 90000 then some (sealed l0 ++ [0]) else none
theorem frame_Seal.calls (A0 : Option Addr) (c0 : Nat) (l0 : List Int) (r : List Int) (w : World) (hr0 : Kd.C (Kd.int .u8) w A0 l0.length l0) (hc0 : l0.length ≤ c0) (h : frame_Seal.f l0 = some r) :
  Calls Try.prog 21 #[.slice A0 l0.length c0] w fun e w' => ∃ v0_ : Value, e = .returned (v0_) ∧ Kd.R (Kd.int .u8) 5 w' w.heap.size (fun _ => True) v0_ r ∧ Below w.heap.size w w' := by
 unfold frame_Seal.f at h
 split at h
 ·
  rename_i hh
  cases h
  exact frame_seal w A0 c0 _ l0 rfl hr0 hc0 ((wbytesOK_iff l0).1 hh.1) hh.2
 ·
  cases h
end Go.Proofs.Ytekanmieppnpeaa.G
end
section
namespace Go.Proofs.Ytekanmieppnpeaa.G
open Go Go.RowKit Go.Proofs.YtekanmieppnpeaaW.PrintWords Go.Proofs.YtekanmieppnpeaaW.PrintLast Go.Proofs.YtekanmieppnpeaaW.PrintMore Go.Proofs.Ytekanmieppnpeaa.PureKit Go.Proofs.Ytekanmieppnpeaa.Sep Go.Proofs.Ytekanmieppnpeaa.Rol Go.Proofs.Ytekanmieppnpeaa.LCobs
theorem cut_full {P : Program} (t e : TypeId) (kh km : IntKind) {i : TypeInfo} (ht : P.underlying t = some (.slice e)) (hi : P.info? e = some i) (A : Option Addr) (n c : Nat) (j : Int) (h0 : 0 ≤ j) (hm : j ≤ n) (hc : n ≤ c) :
  ∀ W : World, (Instr.slice t (.slice A n c) none (some (.int kh j)) (some (.int km j))).run P W = .ok (.slice A j.toNat j.toNat) W := by
 intro W
 have hel : P.elem t = e := by simp [Program.elem, ht]
 have hu : P.underlying t = some (.slice (P.elem t)) := by rw [hel]; exact ht
 have ha : (A.map fun x => x.add 0) = A := by cases A <;> simp [Addr.add]
 rw [run_slice_hm W t A n c hu kh km j j h0 (by omega) (by omega), hel]
 simp [sizeOf, typeInfo, hi, sliced, Result.andThen, ha]
open Classical in
noncomputable def unst (b : List Int) : List Int × Int := if ¬ NoZ b then ([], 4) else if b = [] then ([], 2) else fin b (unl b.length [] b)
theorem unl_bytes : ∀ (d : Nat) (out rest o : List Int), Bytes out → Bytes rest → unl d out rest = some o → Bytes o ∧ o.length ≤ out.length + rest.length
 | 0, out, rest, o, h1, h2, e => by cases e; exact ⟨h1, by omega⟩
 | d + 1, out, [], o, h1, h2, e => by cases e; exact ⟨h1, by simp⟩
 | d + 1, out, n :: rest, o, h1, h2, e => by
  simp only [unl] at e
  split at e
  ·
   cases e
  ·
   have hz : Bytes (if n < 255 ∧ rest.drop (n.toNat - 1) ≠ [] then [0] else []) ∧ (if n < 255 ∧ rest.drop (n.toNat - 1) ≠ [] then [(0 : Int)] else []).length ≤ 1 := by
    split
    ·
     exact ⟨Bytes.cons (by decide) Bytes.nil, by simp⟩
    ·
     exact ⟨Bytes.nil, by simp⟩
   have := unl_bytes d _ _ o (fun x hx => by
    rcases List.mem_append.1 hx with hx | hx
    ·
     rcases List.mem_append.1 hx with hx | hx
     ·
      exact h1 x hx
     ·
      exact h2.tail x (List.mem_of_mem_take hx)
    ·
     exact hz.1 x hx) (h2.tail.drop _) e
   refine ⟨this.1, ?_⟩
   have h3 := this.2
   simp only [List.length_append, List.length_take, List.length_drop, List.length_cons] at h3 ⊢
   have := hz.2
   omega
theorem unst_facts (b : List Int) (hb : Bytes b) : Bytes (unst b).1 ∧ (unst b).1.length ≤ b.length ∧ ((unst b).2 = 0 → stf (unst b).1 [] = b) ∧ ((unst b).2 ≠ 0 → (unst b).1 = []) := by
 unfold unst
 split
 ·
  exact ⟨Bytes.nil, by simp, (fun h => by cases h), fun _ => rfl⟩
 ·
  split
  ·
   exact ⟨Bytes.nil, by simp, (fun h => by cases h), fun _ => rfl⟩
  ·
   rcases hu : unl b.length [] b with _ | o
   ·
    exact ⟨Bytes.nil, by simp [fin], (fun h => by cases h), fun _ => rfl⟩
   ·
    have := unl_bytes _ _ _ _ Bytes.nil hb hu
    unfold fin
    dsimp only
    split
    ·
     rename_i he
     exact ⟨this.1, by simpa using this.2, fun _ => he, fun h => absurd rfl h⟩
    ·
     exact ⟨Bytes.nil, by simp, (fun h => by cases h), fun _ => rfl⟩
theorem unst_stf (a : List Int) : unst (stf a []) = (a, 0) := by
 unfold unst
 rw [if_neg (by simpa using stf_nz a), if_neg (stf_ne _ _), unl_stf a [] [] _ (by simp) (Nat.le_refl _)]
 simp [fin]
noncomputable def opnb (l : List Int) : List Int × Int :=
 if (unst l).2 ≠ 0 then ([], (unst l).2) else if (unst l).1.length < 8 then ([], 2)
 else if lev ((unst l).1.drop ((unst l).1.length - 8)) ≠ ((wsum 0 ((unst l).1.take ((unst l).1.length - 8)) : Nat) : Int) then ([], 5) else ((unst l).1.take ((unst l).1.length - 8), 0)
theorem clos_told (w0 w : World) (g gx : Nat) (l : List Int) (ps : List HP) (hs : Sep.Sep w0 w (cur g l 0 true :: blk gx #[.int .u64 0] 30 :: ps)) (hb : Bytes l) (hl : l.length = 8) :
  Calls Try.prog 52 #[.pointer (some ⟨g, 0, none⟩), .pointer (some ⟨gx, 0, none⟩)] w fun e w2 =>
   ∃ (at2 : Nat) (x : Int) (qs : List HP), (x = 0 ∧ qs = [blk gx #[.int .u64 (lev l)] 30]) ∧ Sep.Sep w0 w2 (cur g l at2 true :: (qs ++ ps)) ∧ ((e = .returned (.tuple #[]) ∧ x = 0) ∨ e = .panicked [fault g x]) := by
 have hS := Aside0.mk hs
 clear hs
 go_enter Try.func52, Try.ntmps52
 go_wp2_with (fail)
 refine (cur_Eight_some w0 _ g 0 l _ hS.out hb (by omega) (by omega)).mono ?_
 rw [show (l.take (0 + 8)).drop 0 = l by rw [List.drop_zero, List.take_of_length_le (by omega)]]
 obtain ⟨z, hz⟩ : ∃ z, lev l = z := ⟨_, rfl⟩
 rw [hz]
 have hzA := Aside0.mk hz
 clear hz
 rintro e w2 ⟨rfl, h2⟩
 have hc2_0 : w2.cell? ⟨gx, 0, none⟩ = some (.int .u64 0) := ((h2.pick1).cell 0).trans rfl
 have hz2 := h2.pick1.frozen 0
 have hS2 : Sep.Sep w0 (w2.setCell ⟨gx, 0, none⟩ (.int .u64 z)) (cur g l (0 + 8) true :: blk gx #[.int .u64 z] 30 :: ps) := by
  have := (h2.pick1.set 0 (.int .u64 z)).put1
  simpa using this
 have hS2A := Aside0.mk hS2
 clear h2 hS2
 go_wp2
 go_end0
 exact ⟨0 + 8, 0, [blk gx #[.int .u64 z] 30], ⟨rfl, by rw [hzA.out]⟩, hS2A.out, .inl ⟨rfl, rfl⟩⟩
theorem finfo8 : (Try.prog.info? 5).map (fun i => (i.zero, i.size, i.bytes)) = some (some (.int .u8 0), 1, 1) := by kernel_rfl
theorem frame_open (w : World) (A : Option Addr) (c n : Nat) (l : List Int) (hn : n = l.length) (hC : Kd.C (Kd.int .u8) w A l.length l) (hc : l.length ≤ c) (hb : Bytes l) (hl : l.length ≤ 90000) :
  Calls Try.prog 19 #[.slice A n c] w fun e w' => ∃ (A2 : Option Addr) (c2 : Nat), e = .returned (.tuple #[.slice A2 (opnb l).1.length c2, .int .i64 (opnb l).2]) ∧ Kd.C (Kd.int .u8) w' A2 (opnb l).1.length (opnb l).1 ∧ (opnb l).1.length ≤ c2 ∧ Below w.heap.size w w' := by
 subst hn
 have hCA := Aside0.mk hC
 have hcA := Aside0.mk hc
 have hlA := Aside0.mk hl
 obtain ⟨k, hk⟩ := (unstuff_f l hb (by omega)).rounds
 have hk : cobs_Unstuff.f k l = some (unst l) := hk
 obtain ⟨hub, hul, hu0, hu1⟩ := unst_facts l hb
 obtain ⟨r1, r2, hu⟩ : ∃ r1 r2, unst l = (r1, r2) := ⟨_, _, rfl⟩
 have ho : opnb l = if r2 ≠ 0 then ([], r2) else if r1.length < 8 then ([], 2) else if lev (r1.drop (r1.length - 8)) ≠ ((wsum 0 (r1.take (r1.length - 8)) : Nat) : Int) then ([], 5) else (r1.take (r1.length - 8), 0) := by unfold opnb; rw [hu]
 rw [hu] at hk hub hul hu0 hu1
 have hkA := Aside0.mk hk
 have hoA := Aside0.mk ho
 have hulA := Aside0.mk hul
 have hmf : ∀ (fn : Fn) (first cap : Array Value) (w : World), (Instr.makeFunc fn first cap).run Try.prog w = .ok (.func fn first cap) w := fun _ _ _ _ => rfl
 clear hC hc hl hk ho hul hu hu0 hu1
 go_enter Try.func19, Try.ntmps19
 go_wp2_with (fail)
 refine (cobs_Unstuff.calls k (fun k_ => k_ < w.heap.size) A c l r1 r2 _ (Kd.V_mk hcA.out (Kd.C_F (Kd.heap_int .u8) hCA.out)) hkA.out).mono ?_
 rintro e w1 ⟨v1, rfl, ho1, hb1⟩
 have hS1 := Aside0.mk (Sep.row_new (Sep.start w) hb1 ho1)
 obtain ⟨A1, c1, rfl⟩ := Kd.R_slice ho1
 have hr1 := Aside0.mk (Kd.R_reads' ho1)
 clear ho1 hb1
 by_cases c0 : r2 = 0
 ·
  subst c0
  by_cases c8 : r1.length < 8
  ·
   have hd8 : decide (wrap64 ((r1.length : Int) - 8) < 0) = true := decide_eq_true (by rw [w64 (by omega) (by omega)]; omega)
   have hd8' : decide ((r1.length : Int) - 8 < 0) = true := decide_eq_true (by omega)
   go_wp2_with (fail)
   go_ret2
   rw [hoA.out, if_neg (by simp), if_pos c8]
   exact ⟨none, 0, rfl, Kd.C_nil _ _, Nat.le_refl _, hS1.out.1⟩
  ·
   have hw8 : wrap64 ((r1.length : Int) - 8) = (r1.length : Int) - 8 := w64 (by omega) (by have := hulA.out; have := hlA.out; omega)
   have hd8 : decide ((r1.length : Int) - 8 < 0) = false := decide_eq_false (by omega)
   obtain ⟨i0, hi0, _, hsz, _⟩ := info_parts finfo8
   obtain ⟨m, hm⟩ : ∃ m : Nat, r1.length = m + 8 := ⟨r1.length - 8, by omega⟩
   have hmi : (r1.length : Int) - 8 = (m : Int) := by omega
   have hcut := cut_from (P := Try.prog) 39 5 .i64 Try.underlying39 hi0 1 hsz A1 r1.length c1 (m : Int) (by omega) (by omega)
   obtain ⟨A4, hA4⟩ : ∃ A4, A4 = (if c1 = m then A1 else A1.map (·.add (m * 1))) := ⟨_, rfl⟩
   rw [Int.toNat_natCast, ← hA4] at hcut
   have hC4 : Aside0 (∀ W, Kd.C (Kd.int .u8) W A1 r1.length r1 → Kd.C (Kd.int .u8) W A4 (r1.drop m).length (r1.drop m)) := ⟨fun W h => by
    rw [hA4]
    exact Kd.C_drop (m := m) (c := c1) h (by omega) hr1.out.2.1⟩
   have hcutT := cut_to (P := Try.prog) 39 5 .i64 Try.underlying39 hi0 A1 r1.length c1 (m : Int) (by omega) (by omega) hr1.out.2.1
   have hcutF := cut_full (P := Try.prog) 39 5 .i64 .i64 Try.underlying39 hi0 A1 r1.length c1 (m : Int) (by omega) (by omega) hr1.out.2.1
   rw [Int.toNat_natCast] at hcutT hcutF
   have hdl : (r1.drop m).length = 8 := by rw [List.length_drop]; omega
   have htl : (r1.take m).length = m := by rw [List.length_take]; omega
   have hm2 : r1.length - 8 = m := by omega
   have hm3 : r1.length - m = 8 := by omega
   have hmA := Aside0.mk hm
   have hdlA := Aside0.mk hdl
   have htlA := Aside0.mk htl
   have ho2 : Aside0 (opnb l = if lev (r1.drop m) ≠ ((wsum 0 (r1.take m) : Nat) : Int) then ([], 5) else (r1.take m, 0)) := ⟨by rw [hoA.out, if_neg (by simp), if_neg c8, hm2]⟩
   have hmle : m ≤ 90000 := by have := hulA.out; have := hlA.out; omega
   have hsl := wsum_lt 0 (r1.take m)
   have hm3A := Aside0.mk hm3
   clear hA4 hdl htl hm hoA hm2 hm3
   go_wp2_with (fail)
   have hrun := run_calls w _ A4 (c1 - m) (r1.drop m) 52 #[.pointer (some ⟨w1.heap.size, 0, none⟩)] [blk w1.heap.size #[.int .u64 0] 30] [row (Kd.int .u8) 5 (.slice A1 r1.length c1) r1] (fun at2 x qs => x = 0 ∧ qs = [blk w1.heap.size #[.int .u64 (lev (r1.drop m))] 30])
    Try.call52 (hS1.out.alloc #[.int .u64 0] 30) (hC4.out _ (Kd.C_alloc hr1.out.2.2 _)) (by rw [hdlA.out]; have := hr1.out.2.1; omega) (by rw [hdlA.out]; decide) (fun wq g ps' h => clos_told w wq g w1.heap.size (r1.drop m) ps' h (hub.drop m) hdlA.out)
   rw [show (r1.drop m).length = r1.length - m from List.length_drop] at hrun
   obtain ⟨z, hz⟩ : ∃ z, lev (r1.drop m) = z := ⟨_, rfl⟩
   rw [hz] at hrun ho2
   obtain ⟨y, hy⟩ : ∃ y, wsum 0 (r1.take m) = y := ⟨_, rfl⟩
   have hyA := Aside0.mk hy
   rw [hy] at ho2 hsl
   clear hz hy
   refine hrun.mono ?_
   clear hrun
   rintro e w2 ⟨at2, x, qs, ⟨rfl, rfl⟩, rfl, h2⟩
   have hS2 := Aside0.mk h2
   clear h2
   go_wp2_with (fail)
   have hc0 : w2.drew.cell? ⟨w1.heap.size, 0, none⟩ = some (.int .u64 z) := (hS2.out.drew.cell 0).trans rfl
   refine start_ (n := 6) (S := fun w' => w'.cell? ⟨w1.heap.size, 0, none⟩ = some (.int .u64 z)) (ds := []) #[false, false, false, false, false, false] (by kernel_rfl) rfl rfl (hc0) (fun hHeld => ?_)
   refine pure_ (i := 1) (N := some 27) (v := ?_) (a' := ?_) #[false, true, false, false, false, false] rfl rfl (by kernel_rfl) (fun _ _ _ h => h) (Or.inl ⟨by rfl, ?_⟩) ?_ ?_
   rotate_left
   ·
    intro w'
    go_simp
    with_reducible rfl
   rotate_left
   ·
    simp only [Act.put, List.setIfInBounds_toArray, List.set_cons_zero, List.set_cons_succ, i64_w, i32_w]
    rfl
   refine pure_ (i := 2) (N := some 28) (v := ?_) (a' := ?_) #[false, true, true, false, false, false] rfl rfl (by kernel_rfl) (fun _ _ _ h => h) (Or.inl ⟨by rfl, ?_⟩) ?_ ?_
   rotate_left
   ·
    intro w'
    go_simp
    with_reducible rfl
   rotate_left
   ·
    simp only [Act.put, List.setIfInBounds_toArray, List.set_cons_zero, List.set_cons_succ, i64_w, i32_w]
    rfl
   refine pure_ (i := 3) (N := some 29) (v := ?_) (a' := ?_) #[false, true, true, true, false, false] rfl rfl (by kernel_rfl) (fun _ _ _ h => h) (Or.inl ⟨by rfl, ?_⟩) ?_ ?_
   rotate_left
   ·
    intro w'
    go_simp
    with_reducible rfl
   rotate_left
   ·
    simp only [Act.put, List.setIfInBounds_toArray, List.set_cons_zero, List.set_cons_succ, i64_w, i32_w]
    rfl
   refine take_ (i := 0) (N := some 26) (v := ?_) (a' := ?_) #[true, true, true, true, false, false] rfl rfl (by kernel_rfl) (fun _ _ _ h => h) (Or.inl ⟨by rfl, ?_⟩) hHeld ?_ ?_
   rotate_left
   ·
    intro w' s0
    go_simp
    with_reducible rfl
   rotate_left
   ·
    simp only [Act.put, List.setIfInBounds_toArray, List.set_cons_zero, List.set_cons_succ, i64_w, i32_w]
    rfl
   refine one_ (i := 4) (N := some 30) #[true, true, true, true, true, false] rfl rfl (by kernel_rfl) (by decide) (fun K hK => ?_)
   refine goes_ Try.func54 (by kernel_rfl) rfl #[.int .u64 0, .slice A1 m c1] (by rfl) rfl rfl (by (try simp only [List.map_toArray, List.map_cons, List.map_nil]); first | done | rfl) ?_
   have hCt := Kd.C_take (m := m) (Kd.R_reads' hS2.out.drew.tail.row_R.choose_spec).2.2 (by have := hmA.out; omega)
   have hws := wide_Sum_calls w2.drew A1 c1 (r1.take m) 0 _ rfl hCt (by rw [htlA.out]; have := hr1.out.2.1; have := hmA.out; omega) (hub.take m) (by decide) (by rw [htlA.out]; omega)
   rw [htlA.out, hyA.out] at hws
   refine hws.mono ?_
   clear hws hCt
   rintro e w3 ⟨rfl, hb3⟩
   refine ⟨_, rfl, ?_⟩
   have hS3 := Aside0.mk (hS2.out.drew.below hb3)
   clear hb3
   refine hK.out _ _ ((hS3.out.cell 0).trans rfl) (fun hHeld => ?_)
   clear hK K
   refine norm_ (a' := ?_) ?_ ?_
   rotate_left
   ·
    show Act.put _ (some 30) _ = _
    simp only [Act.put, List.setIfInBounds_toArray, List.set_cons_zero, List.set_cons_succ, i64_w, i32_w]
    rfl
   refine pure_ (i := 5) (N := some 31) (v := ?_) (a' := ?_) #[true, true, true, true, true, true] rfl rfl (by kernel_rfl) (fun _ _ _ h => h) (Or.inl ⟨by rfl, ?_⟩) ?_ ?_
   rotate_left
   ·
    intro w'
    go_simp
    with_reducible rfl
   rotate_left
   ·
    simp only [Act.put, List.setIfInBounds_toArray, List.set_cons_zero, List.set_cons_succ, i64_w, i32_w]
    rfl
   refine done_ (by kernel_rfl) ?_
   by_cases hzy : z = (y : Int)
   ·
    have hne : (z != (y : Int)) = false := by rw [hzy]; simp
    have hne2 : decide (z ≠ (y : Int)) = false := decide_eq_false (by simpa using hzy)
    go_wp2_with (fail)
    go_ret2
    rw [ho2.out, if_neg (by simpa using hzy)]
    refine ⟨A1, m, by rw [htlA.out]; rfl, ?_, by rw [htlA.out]; exact Nat.le_refl _, hS3.out.1⟩
    exact Kd.C_take (m := m) (Kd.R_reads' hS3.out.tail.row_R.choose_spec).2.2 (by have := hmA.out; omega)
   ·
    have hne : (z != (y : Int)) = true := bne_iff_ne.2 hzy
    have hne2 : decide (z ≠ (y : Int)) = true := decide_eq_true hzy
    go_wp2_with (fail)
    go_ret2
    rw [ho2.out, if_pos hzy]
    exact ⟨none, 0, rfl, Kd.C_nil _ _, Nat.le_refl _, hS3.out.1⟩
 ·
  have hx : (r2 != 0) = true := bne_iff_ne.2 c0
  have hx2 : decide (r2 ≠ 0) = true := decide_eq_true c0
  go_wp2_with (fail)
  go_ret2
  rw [hoA.out, if_pos c0]
  exact ⟨none, 0, rfl, Kd.C_nil _ _, Nat.le_refl _, hS1.out.1⟩
end Go.Proofs.Ytekanmieppnpeaa.G
end
section
namespace Go.Proofs.Ytekanmieppnpeaa.G
open Go Go.RowKit Go.Proofs.YtekanmieppnpeaaW.PrintWords Go.Proofs.YtekanmieppnpeaaW.PrintLast Go.Proofs.YtekanmieppnpeaaW.PrintMore Go.Proofs.Ytekanmieppnpeaa.PureKit Go.Proofs.Ytekanmieppnpeaa.Sep Go.Proofs.Ytekanmieppnpeaa.Rol Go.Proofs.Ytekanmieppnpeaa.LCobs
def unstc (b : List Int) : List Int × Int := if b.any (fun y => y == 0) = true then ([], 4) else if b = [] then ([], 2) else fin b (unl b.length [] b)
theorem unstc_eq (b : List Int) : unstc b = unst b := by
 unfold unstc unst
 by_cases h : NoZ b
 ·
  have h1 : ¬ b.any (fun y => y == 0) = true := by
   rw [List.any_eq_true]
   rintro ⟨y, hy, h2⟩
   exact h y hy (eq_of_beq h2)
  rw [if_neg h1, if_neg (show ¬ ¬ NoZ b from fun h2 => h2 h)]
 ·
  have h1 : b.any (fun y => y == 0) = true := by
   rw [List.any_eq_true]
   apply Classical.byContradiction
   intro h2
   exact h (fun y hy h3 => h2 ⟨y, hy, by rw [h3]; rfl⟩)
  rw [if_pos h1, if_pos h]
def opnbc (l : List Int) : List Int × Int :=
 if (unstc l).2 ≠ 0 then ([], (unstc l).2) else if (unstc l).1.length < 8 then ([], 2)
 else if lev ((unstc l).1.drop ((unstc l).1.length - 8)) ≠ ((wsum 0 ((unstc l).1.take ((unstc l).1.length - 8)) : Nat) : Int) then ([], 5) else ((unstc l).1.take ((unstc l).1.length - 8), 0)
theorem opnbc_eq (l : List Int) : opnbc l = opnb l := by
 unfold opnbc opnb
 rw [unstc_eq]
theorem opnb_small (l : List Int) (hb : Bytes l) : Bytes (opnb l).1 ∧ (opnb l).1.length ≤ l.length := by
 obtain ⟨h1, h2, _, _⟩ := unst_facts l hb
 unfold opnb
 split
 ·
  exact ⟨Bytes.nil, by simp⟩
 ·
  split
  ·
   exact ⟨Bytes.nil, by simp⟩
  ·
   split
   ·
    exact ⟨Bytes.nil, by simp⟩
   ·
    exact ⟨h1.take _, by rw [List.length_take]; omega⟩
end Go.Proofs.Ytekanmieppnpeaa.G
end
section
namespace Go.Proofs.Ytekanmieppnpeaa.G
open Go Go.RowKit Go.Proofs.YtekanmieppnpeaaW.PrintWords Go.Proofs.YtekanmieppnpeaaW.PrintLast Go.Proofs.YtekanmieppnpeaaW.PrintMore Go.Proofs.Ytekanmieppnpeaa.PureKit Go.Proofs.Ytekanmieppnpeaa.Sep Go.Proofs.Ytekanmieppnpeaa.Rol Go.Proofs.Ytekanmieppnpeaa.LCobs
def gotrec (l : List Int) : Bool × Int × ByteArray × ByteArray × Int := if (opnbc l).2 = 0 then rout (rread (opnbc l).1) else (false, 0, ⟨#[]⟩, ⟨#[]⟩, (opnbc l).2)
theorem gotrec_eq (l : List Int) : gotrec l = if (opnb l).2 = 0 then rout (rread (opnb l).1) else (false, 0, ⟨#[]⟩, ⟨#[]⟩, (opnb l).2) := by
 unfold gotrec
 rw [opnbc_eq]
def frame_GetRecord.f (l0 : List Int) : Option (Bool × Int × ByteArray × ByteArray × Int) := if wbytesOK l0 = true ∧ l0.length ≤ 90000 then some (gotrec l0) else none
theorem frame_GetRecord.calls (A0 : Option Addr) (c0 : Nat) (l0 : List Int) (r1 : Bool) (r2 : Int) (r3 r4 : ByteArray) (r5 : Int) (w : World) (hr0 : Kd.C (Kd.int .u8) w A0 l0.length l0) (hc0 : l0.length ≤ c0) (h : frame_GetRecord.f l0 = some (r1, r2, r3, r4, r5)) :
  Calls Try.prog 32 #[.slice A0 l0.length c0] w fun e w' => e = .returned (.tuple #[.agg #[.bool r1, .int .u64 r2, .string r3, .string r4], .int .i64 r5]) ∧ Below w.heap.size w w' := by
 have hu44 := Try.underlying59
 obtain ⟨hb, hl, hro⟩ : Bytes l0 ∧ l0.length ≤ 90000 ∧ gotrec l0 = (r1, r2, r3, r4, r5) := by
  unfold frame_GetRecord.f at h
  split at h
  ·
   rename_i hh
   exact ⟨(wbytesOK_iff l0).1 hh.1, hh.2, Option.some.inj h⟩
  ·
   cases h
 clear h
 obtain ⟨hob, hol⟩ := opnb_small l0 hb
 have hop := fun W (hC : Kd.C (Kd.int .u8) W A0 l0.length l0) => frame_open W A0 c0 l0.length l0 rfl hC hc0 hb hl
 obtain ⟨b7, e7, hq⟩ : ∃ b7 e7, opnb l0 = (b7, e7) := ⟨_, _, rfl⟩
 rw [gotrec_eq] at hro
 rw [hq] at hro hob hol hop
 dsimp only at hro hob hol hop
 have hopA := Aside0.mk hop
 have hobA := Aside0.mk hob
 have holA := Aside0.mk hol
 have hlA := Aside0.mk hl
 have hR := Aside0.mk hr0
 have hS := Aside0.mk ((Sep.start w).alloc #[.bool false, .int .u64 0, .string ⟨#[]⟩, .string ⟨#[]⟩] 59)
 clear hr0 hop hq hob hol hl hb
 by_cases he : e7 = 0
 ·
  rw [if_pos he] at hro
  subst he
  have hrd : record_Read.f b7 = some (r1, r2, r3, r4, r5) := by
   unfold record_Read.f
   rw [if_pos ⟨(bytesb_iff _).2 hobA.out, by have := holA.out; have := hlA.out; omega⟩, hro]
  have hrdA := Aside0.mk hrd
  clear hrd hro
  go_enter Try.func32, Try.ntmps32
  go_wp2_with (fail)
  refine (hopA.out _ (Kd.C_alloc hR.out _)).mono ?_
  rintro e w1 ⟨A2, c2, rfl, hC2, hc2, hB2⟩
  have hS1 := Aside0.mk (hS.out.below hB2)
  have hC2A := Aside0.mk hC2
  have hc2A := Aside0.mk hc2
  clear hC2 hc2 hB2
  go_wp2_with (fail)
  refine (record_Read.calls A2 c2 b7 r1 r2 r3 r4 r5 _ hC2A.out hc2A.out hrdA.out).mono ?_
  rintro e w2 ⟨rfl, hb2⟩
  have h2 := hS1.out.below hb2
  have h2A := Aside0.mk h2
  have hd2_0 : w2.cell? ⟨w.heap.size, 0, none⟩ = some (.bool false) := ((h2).cell 0).trans rfl; have hd2_1 : w2.cell? ⟨w.heap.size, 1, none⟩ = some (.int .u64 0) := ((h2).cell 1).trans rfl; have hd2_2 : w2.cell? ⟨w.heap.size, 2, none⟩ = some (.string ⟨#[]⟩) := ((h2).cell 2).trans rfl; have hd2_3 : w2.cell? ⟨w.heap.size, 3, none⟩ = some (.string ⟨#[]⟩) := ((h2).cell 3).trans rfl
  have hz0 := h2.frozen 0
  have hz1 := h2.frozen 1
  have hz2 := h2.frozen 2
  have hz3 := h2.frozen 3
  clear h2 hb2
  go_wp2
  have h3 := ((((h2A.out.set 0 (.bool r1)).set 1 (.int .u64 r2)).set 2 (.string r3)).set 3 (.string r4))
  simp only [List.setIfInBounds_toArray, List.set_cons_zero, List.set_cons_succ] at h3
  try simp only [Exit.inBlock, Exit.then]
  refine bodyPost_ret (results_ct (P := Try.prog) Try.results32 _ _ w.heap.size 59 _ (0, 0) _ rfl h3.blk_at.1 hu44 rfl (by kernel_rfl)) rfl ?_
  exact ⟨rfl, h3.1⟩
 ·
  rw [if_neg he] at hro
  have e1 : (e7 != 0) = true := bne_iff_ne.2 he
  obtain ⟨rfl, rfl, rfl, rfl, rfl⟩ : false = r1 ∧ (0 : Int) = r2 ∧ (⟨#[]⟩ : ByteArray) = r3 ∧ (⟨#[]⟩ : ByteArray) = r4 ∧ e7 = r5 := by cases hro; exact ⟨rfl, rfl, rfl, rfl, rfl⟩
  clear hro
  go_enter Try.func32, Try.ntmps32
  go_wp2_with (fail)
  refine (hopA.out _ (Kd.C_alloc hR.out _)).mono ?_
  rintro e w1 ⟨A2, c2, rfl, hC2, hc2, hB2⟩
  have h2 := hS.out.below hB2
  have h2A := Aside0.mk h2
  have hd2_0 : w1.cell? ⟨w.heap.size, 0, none⟩ = some (.bool false) := ((h2).cell 0).trans rfl; have hd2_1 : w1.cell? ⟨w.heap.size, 1, none⟩ = some (.int .u64 0) := ((h2).cell 1).trans rfl; have hd2_2 : w1.cell? ⟨w.heap.size, 2, none⟩ = some (.string ⟨#[]⟩) := ((h2).cell 2).trans rfl; have hd2_3 : w1.cell? ⟨w.heap.size, 3, none⟩ = some (.string ⟨#[]⟩) := ((h2).cell 3).trans rfl
  have hz0 := h2.frozen 0
  have hz1 := h2.frozen 1
  have hz2 := h2.frozen 2
  have hz3 := h2.frozen 3
  clear h2 hC2 hc2 hB2
  go_wp2
  have h3 := ((((h2A.out.set 0 (.bool false)).set 1 (.int .u64 0)).set 2 (.string ⟨#[]⟩)).set 3 (.string ⟨#[]⟩))
  simp only [List.setIfInBounds_toArray, List.set_cons_zero, List.set_cons_succ] at h3
  try simp only [Exit.inBlock, Exit.then]
  refine bodyPost_ret (results_ct (P := Try.prog) Try.results32 _ _ w.heap.size 59 _ (0, 0) _ rfl h3.blk_at.1 hu44 rfl (by kernel_rfl)) rfl ?_
  exact ⟨rfl, h3.1⟩
end Go.Proofs.Ytekanmieppnpeaa.G
end
section
namespace Go.Proofs.Ytekanmieppnpeaa.Sep
open Go Go.RowKit Go.Proofs.YtekanmieppnpeaaW.PrintWords Go.Proofs.YtekanmieppnpeaaW.PrintLast Go.Proofs.YtekanmieppnpeaaW.PrintMore
theorem row_blk {k : IntKind} {w0 w : World} {e : Nat} {v : Value} {xs : List Int} {ps : List HP} (h : Sep w0 w (row (Kd.int k) e v xs :: ps)) (hx : xs ≠ []) :
  ∃ (g cap : Nat) (cur : Array Value), v = .slice (some ⟨g, 0, none⟩) xs.length cap ∧ xs.length ≤ cap ∧ Sep w0 w (blk g cur e :: ps) ∧ ∀ (j : Nat) (x : Int), xs[j]? = some x → cur[j]? = some (.int k x) := by
 obtain ⟨hb, bs, ⟨b1, b2, e1, ⟨h0, inner, ho, hrep⟩, hs⟩, hn, hr⟩ := h
 rcases ho.2 with ⟨_, hz⟩ | ⟨g, cap, cur, rfl, hbg, hg, hnc, hcm, hcs, ht⟩
 ·
  exact absurd (List.length_eq_zero_iff.1 hz) hx
 ·
  have hgb : g ∈ b1 := h0 g rfl
  subst e1
  obtain ⟨n1, n2, n3⟩ := List.nodup_append.1 hn
  refine ⟨g, cap, cur, rfl, hnc, ⟨hb, g :: b2, ⟨[g], b2, rfl, ⟨rfl, hg⟩, hs⟩, ?_, ?_⟩, ?_⟩
  ·
   exact List.nodup_cons.2 ⟨fun hm => n3 g hgb g hm rfl, n2⟩
  ·
   intro b hbm
   rcases List.mem_cons.1 hbm with rfl | hbm
   ·
    exact hr _ (List.mem_append_left _ hgb)
   ·
    exact hr b (List.mem_append_right _ hbm)
  ·
   intro j x hj
   have hjl := (List.getElem?_eq_some_iff.1 hj).1
   have hM := hrep.2 j x hj
   have hK : (inner.drop (j * 1)).take 1 = [.int k x] := (Kd.int k).K_of_M hM
   have h1 : inner[j]? = some (.int k x) := by
    have h2 : ((inner.drop (j * 1)).take 1)[0]? = some (.int k x) := by rw [hK]; rfl
    rw [List.getElem?_take, if_pos (by decide), List.getElem?_drop] at h2
    simpa using h2
   rw [← ht, List.getElem?_take] at h1
   split at h1
   ·
    simpa using h1
   ·
    cases h1
end Go.Proofs.Ytekanmieppnpeaa.Sep
end
section
namespace Go.Proofs.Ytekanmieppnpeaa.G
open Go Go.RowKit Go.Proofs.YtekanmieppnpeaaW.PrintWords Go.Proofs.YtekanmieppnpeaaW.PrintLast Go.Proofs.YtekanmieppnpeaaW.PrintMore Go.Proofs.Ytekanmieppnpeaa.PureKit Go.Proofs.Ytekanmieppnpeaa.Sep Go.Proofs.Ytekanmieppnpeaa.Rol Go.Proofs.Ytekanmieppnpeaa.LCobs
theorem wsum_nil : wsum 0 [] = 17241709254077376921 := by decide +kernel
theorem sealed_nil : sealed [] ++ [0] = [9, 153, 233, 216, 81, 55, 219, 70, 239, 0] := by
 have e : nbytes 8 ((17241709254077376921 : Nat) : Int) = [153, 233, 216, 81, 55, 219, 70, 239] := by decide +kernel
 unfold sealed summed
 rw [wsum_nil, e, List.nil_append, stf_end _ [] (by unfold NoZ; decide) (by decide)]
 rfl
def fasciclelaw09_lives.f : Option Bool := some true
theorem fasciclelaw09_lives.calls (r : Bool) (w : World) (h : fasciclelaw09_lives.f = some r) :
  Calls Try.prog 18 #[] w fun e w' => e = .returned (.bool r) ∧ Below w.heap.size w w' := by
 obtain rfl := Option.some.inj h
 go_enter Try.func18, Try.ntmps18
 go_wp2_with (fail)
 have hse := frame_seal w none 0 0 [] rfl (Kd.C_nil _ _) (Nat.le_refl _) Bytes.nil (by decide)
 rw [sealed_nil] at hse
 refine hse.mono ?_
 clear hse
 rintro e w1 ⟨v1, rfl, h1, hB1⟩
 obtain ⟨g, c1, cur, rfl, _, hs, hcur⟩ := row_blk (Sep.row_new (Sep.start w) hB1 h1) (by simp)
 have hq0 := (hs.cell 0).trans (hcur 0 9 rfl)
 have hq9 := (hs.cell 9).trans (hcur 9 0 rfl)
 have hB := Aside0.mk hB1
 rw [show ([9, 153, 233, 216, 81, 55, 219, 70, 239, 0] : List Int).length = 10 from rfl]
 clear h1 hB1 hs hcur
 go_wp2_with (fail)
 go_ret
 exact ⟨rfl, hB.out⟩
end Go.Proofs.Ytekanmieppnpeaa.G
end
section
namespace Go.Proofs.Ytekanmieppnpeaa.Sep
open Go Go.RowKit Go.Proofs.YtekanmieppnpeaaW.PrintWords Go.Proofs.YtekanmieppnpeaaW.PrintLast Go.Proofs.YtekanmieppnpeaaW.PrintMore Go.Proofs.Ytekanmieppnpeaa.PureKit
theorem varint_PutText (w0 w : World) (g : Nat) (l : List Int) (ps : List HP) (s : ByteArray) (hs : Sep w0 w (buf g l :: ps)) (hx : s.size ≤ 10000000000) (hl : l.length ≤ 10000000000) :
  Calls Try.prog 128 #[.pointer (some ⟨g, 0, none⟩), .string s] w fun e w' => e = .returned (.tuple #[]) ∧ Sep w0 w' (buf g (l ++ venc s.size ++ sby s) :: ps) := by
 have hS := Aside0.mk hs
 clear hs
 have hvl : (venc s.size).length ≤ 10 := venc_len 10 s.size (by omega) (by decide)
 have hcv := fun (W : World) => run_bytes_of_string (P := Try.prog) W 9 39 5 s Try.underlying9 Try.underlying39 Try.underlying5
 have hwx : IntKind.u64.wrap (s.size : Int) = (s.size : Int) := wu64 (by omega) (by omega)
 go_enter Try.func128, Try.ntmps128
 go_wp2_with (first | ((with_reducible refine gate_callee (f := 67) rfl ?_); refine goesL_ (some 8) rfl rfl Try.func67 (by kernel_rfl) rfl #[.pointer (some ⟨g, 0, none⟩), .int .u64 (s.size : Int)] rfl (by (try simp only [List.map_toArray, List.map_cons, List.map_nil]); first | done | rfl) ?_; (with_reducible refine (varint_Put w0 _ g l ps s.size s.size rfl hS.out (by omega) (by omega)).mono ?_); rintro e w1 ⟨rfl, h1⟩; refine ⟨_, rfl, ?_⟩; have hS1 := Aside0.mk h1; clear h1) | ((with_reducible refine gate_callee (f := 58) rfl ?_); refine goesL_ (some 12) rfl rfl Try.func58 (by kernel_rfl) rfl #[.pointer (some ⟨g, 0, none⟩), .slice (some ⟨w1.heap.size, 0, none⟩) s.size (grownCap w1 s.size 0 5)] rfl (by (try simp only [List.map_toArray, List.map_cons, List.map_nil]); first | done | rfl) ?_; (refine (buf_Raw w0 _ g (l ++ venc s.size) ps (some ⟨w1.heap.size, 0, none⟩) s.size (grownCap w1 s.size 0 5) (sby s) (hS1.out.below (str_row w1 s _ _ _ (by omega)).2) (str_row w1 s _ _ _ (by omega)).1 (sby_len s).symm (by simp; omega) (by rw [sby_len]; omega)).mono ?_); rintro e w2 ⟨rfl, h2⟩; refine ⟨_, rfl, ?_⟩; have hS2 := Aside0.mk h2; clear h2))
 go_end0
 exact ⟨rfl, hS2.out⟩
end Go.Proofs.Ytekanmieppnpeaa.Sep
end
