/- varint.GetText: the next text. -/
import Derived.Test.YtmlodmpkcbncjaaHGet
set_option linter.unusedVariables false
set_option linter.unusedSimpArgs false
namespace Go.Proofs.Ytmlodmpkcbncjaa.Sep
open Go Go.RowKit Go.Proofs.YtmlodmpkcbncjaaW.PrintWords Go.Proofs.YtmlodmpkcbncjaaW.PrintLast Go.Proofs.YtmlodmpkcbncjaaW.PrintMore Go.Proofs.Ytmlodmpkcbncjaa.PureKit
attribute [local go_sem] max2_int min2_int max_two min_two max_three min_three max_four min_four

theorem vgo_facts : ∀ (k i : Nat) (s : List Int) (x : Int) (a : Nat), i + k = 10 → 0 ≤ x → x < 128 ^ i → Bytes s →
    match vgo k i s x a with
    | .ok y a2 => 0 ≤ y ∧ y < 18446744073709551616 * 64 ∧ a ≤ a2 ∧ a2 ≤ a + s.length
    | .bad e a2 => e ≠ 0 ∧ a ≤ a2 ∧ a2 ≤ a + s.length := by
  intro k
  induction k with
  | zero =>
    intro i s x a hi h0 h1 _
    have : i = 10 := by omega
    subst this
    simp only [vgo]
    refine ⟨h0, ?_, Nat.le_refl _, by omega⟩
    have : (128 : Int) ^ 10 = 18446744073709551616 * 64 := by decide
    omega
  | succ k ih =>
    intro i s x a hi h0 h1 hb
    rcases s with _ | ⟨b, s⟩
    · simp [vgo]
    have hbb := hb.head
    have hp : (0 : Int) ≤ b % 128 * 128 ^ i := Int.mul_nonneg (by omega) (Int.pow_nonneg (by decide))
    have hp2 : b % 128 * 128 ^ i ≤ 127 * 128 ^ i := Int.mul_le_mul_of_nonneg_right (by omega) (Int.pow_nonneg (by decide))
    have hup : (128 : Int) ^ (i + 1) ≤ 128 ^ 10 := by
      have := Nat.pow_le_pow_right (show 0 < 128 by decide) (show i + 1 ≤ 10 by omega)
      exact_mod_cast this
    have h10 : (128 : Int) ^ 10 = 18446744073709551616 * 64 := by decide
    unfold vgo
    by_cases c1 : i = 9 ∧ 1 < b
    · rw [if_pos c1]
      simp
    rw [if_neg c1]
    by_cases c2 : 128 ≤ b
    · rw [if_pos c2]
      rw [show b % 128 = b - 128 by omega] at hp hp2
      have := ih (i + 1) s (x + (b - 128) * 128 ^ i) (a + 1) (by omega) (by omega) (by rw [pow128]; omega) hb.tail
      revert this
      cases vgo k (i + 1) s (x + (b - 128) * 128 ^ i) (a + 1) with
      | ok y a2 => simp only [List.length_cons]; omega
      | bad e a2 => simp only [List.length_cons]; intro h; exact ⟨h.1, by omega, by omega⟩
    rw [if_neg c2]
    by_cases c3 : b = 0 ∧ 0 < i
    · rw [if_pos c3]
      simp
    rw [if_neg c3]
    rw [show b % 128 = b by omega] at hp hp2
    rw [pow128] at hup
    simp only [List.length_cons]
    omega
theorem vgo_small : ∀ (k i : Nat) (s : List Int) (x : Int) (a : Nat) (y : Int) (a2 : Nat), i + k = 10 → 0 ≤ x → x < 128 ^ i → Bytes s → k ≠ 0 → vgo k i s x a = .ok y a2 → y < 18446744073709551616 := by
  intro k
  induction k with
  | zero => intro i s x a y a2 _ _ _ _ h; exact absurd rfl h
  | succ k ih =>
    intro i s x a y a2 hi h0 h1 hb _ h
    rcases s with _ | ⟨b, s⟩
    · simp [vgo] at h
    have hbb := hb.head
    have hp : (0 : Int) ≤ b % 128 * 128 ^ i := Int.mul_nonneg (by omega) (Int.pow_nonneg (by decide))
    have hp2 : b % 128 * 128 ^ i ≤ 127 * 128 ^ i := Int.mul_le_mul_of_nonneg_right (by omega) (Int.pow_nonneg (by decide))
    unfold vgo at h
    by_cases c1 : i = 9 ∧ 1 < b
    · rw [if_pos c1] at h
      cases h
    rw [if_neg c1] at h
    by_cases c2 : 128 ≤ b
    · rw [if_pos c2] at h
      rw [show b % 128 = b - 128 by omega] at hp hp2
      have hk : k ≠ 0 := by omega
      exact ih (i + 1) s _ (a + 1) y a2 (by omega) (by omega) (by rw [pow128]; omega) hb.tail hk h
    rw [if_neg c2] at h
    by_cases c3 : b = 0 ∧ 0 < i
    · rw [if_pos c3] at h
      cases h
    rw [if_neg c3] at h
    rw [show b % 128 = b by omega] at hp hp2
    cases h
    by_cases h9 : i = 9
    · subst h9
      have : b * 128 ^ 9 ≤ 1 * 128 ^ 9 := Int.mul_le_mul_of_nonneg_right (by omega) (by decide)
      have h9 : (128 : Int) ^ 9 = 9223372036854775808 := by decide
      omega
    · have hup : (128 : Int) ^ (i + 1) ≤ 128 ^ 9 := by
        have := Nat.pow_le_pow_right (show 0 < 128 by decide) (show i + 1 ≤ 9 by omega)
        exact_mod_cast this
      have h9 : (128 : Int) ^ 9 = 9223372036854775808 := by decide
      rw [pow128] at hup
      omega
theorem vget_ok {l : List Int} {at_ : Nat} {y : Int} {a2 : Nat} (hb : Bytes l) (hat : at_ ≤ l.length) (h : vget l at_ = .ok y a2) : 0 ≤ y ∧ y < 18446744073709551616 ∧ at_ ≤ a2 ∧ a2 ≤ l.length := by
  have h1 := vgo_facts 10 0 (l.drop at_) 0 at_ (by decide) (by decide) (by decide) (hb.drop _)
  have h2 := vgo_small 10 0 (l.drop at_) 0 at_ y a2 (by decide) (by decide) (by decide) (hb.drop _) (by decide) h
  unfold vget at h
  rw [h] at h1
  simp only [List.length_drop] at h1
  exact ⟨h1.1, h2, h1.2.2.1, by omega⟩
theorem vget_bad {l : List Int} {at_ : Nat} {e : Int} {a2 : Nat} (hb : Bytes l) (hat : at_ ≤ l.length) (h : vget l at_ = .bad e a2) : e ≠ 0 ∧ at_ ≤ a2 ∧ a2 ≤ l.length := by
  have h1 := vgo_facts 10 0 (l.drop at_) 0 at_ (by decide) (by decide) (by decide) (hb.drop _)
  unfold vget at h
  rw [h] at h1
  simp only [List.length_drop] at h1
  exact ⟨h1.1, h1.2.1, by omega⟩

/-- The text with which the bytes go on. -/
def vtext (l : List Int) (at_ least most : Nat) : Res ByteArray :=
  match vget l at_ with
  | .bad e a => .bad e a
  | .ok n a => if n > most then .bad 3 a else if n < least then .bad 4 a else if a + n.toNat ≤ l.length then .ok (strOfNums ((l.take (a + n.toNat)).drop a)) (a + n.toNat) else .bad 2 a
theorem drop_take_nil (l : List Int) (a : Nat) : (l.take a).drop a = [] := List.drop_eq_nil_of_le (by rw [List.length_take]; omega)

set_option maxHeartbeats 4000000 in
set_option maxRecDepth 100000 in
theorem varint_GetText (w0 w : World) (g at_ : Nat) (l : List Int) (ps : List HP) (least most : Nat) (lo hi : Int) (hlo : lo = least) (hhi : hi = most) (hs : Sep w0 w (cur g l at_ true :: ps)) (hb : Bytes l) (hat : at_ ≤ l.length) (hl : l.length ≤ 1000000000000) (hle : least ≤ 1000000000) (hmo : most ≤ 1000000000) :
    Calls Try.prog 74 #[.pointer (some ⟨g, 0, none⟩), .int .i64 lo, .int .i64 hi] w fun e w' => ∃ ps1, (∀ w1, Sep w0 w1 (ps1 ++ ps) → Sep w0 w1 ps) ∧ (vtext l at_ least most).post Value.string w0 g l (ps1 ++ ps) e w' := by
  subst hlo hhi
  have hS := Aside0.mk hs
  clear hs
  have mx1 : (if 0 < most then (most : Int) else 0) = (most : Int) := by split <;> omega
  have mx2 : (if 0 < least then (least : Int) else 0) = (least : Int) := by split <;> omega
  have wx1 : IntKind.u64.wrap (most : Int) = (most : Int) := wu64 (by omega) (by omega)
  have wx2 : IntKind.u64.wrap (least : Int) = (least : Int) := wu64 (by omega) (by omega)
  unfold vtext
  have hgo := varint_Get w0 w g at_ l ps hS.out hb hat hl
  cases hv : vget l at_ with
  | bad e a =>
    have hvA := Aside0.mk hv
    rw [hv] at hgo
    clear hv
    go_enter Try.func74, Try.ntmps74
    go_wp2_with (fail)
    refine hgo.mono ?_
    rintro e w1 ⟨rfl, h1⟩
    exact ⟨rfl, [], fun _ h => h, rfl, h1⟩
  | ok n a =>
    have hok := vget_ok hb hat hv
    rw [hv] at hgo
    have hgo := Aside0.mk hgo
    clear hv
    simp only []
    by_cases c1 : n > most
    · rw [if_pos c1]
      have e1 : decide (n > (most : Int)) = true := decide_eq_true c1
      go_enter Try.func74, Try.ntmps74
      go_wp2_with (first | ((with_reducible refine gate_callee (f := 73) rfl ?_); refine goesL_ (some 9) rfl rfl Try.func73 (by kernel_rfl) rfl #[.pointer (some ⟨g, 0, none⟩)] rfl (by (try simp only [List.map_toArray, List.map_cons, List.map_nil]); first | done | rfl) ?_; (with_reducible refine hgo.out.mono ?_); rintro e w1 ⟨rfl, h1⟩; refine ⟨_, rfl, ?_⟩; have hS1 := Aside0.mk h1; clear h1))
      refine (cur_Fail w0 _ g a l ps 3 hS1.out (by decide)).mono ?_
      rintro e w2 ⟨rfl, h2⟩
      exact ⟨rfl, [], fun _ h => h, rfl, h2⟩
    rw [if_neg c1]
    have e1 : decide (n > (most : Int)) = false := decide_eq_false c1
    by_cases c2 : n < least
    · rw [if_pos c2]
      have e2 : decide (n < (least : Int)) = true := decide_eq_true c2
      go_enter Try.func74, Try.ntmps74
      go_wp2_with (first | ((with_reducible refine gate_callee (f := 73) rfl ?_); refine goesL_ (some 9) rfl rfl Try.func73 (by kernel_rfl) rfl #[.pointer (some ⟨g, 0, none⟩)] rfl (by (try simp only [List.map_toArray, List.map_cons, List.map_nil]); first | done | rfl) ?_; (with_reducible refine hgo.out.mono ?_); rintro e w1 ⟨rfl, h1⟩; refine ⟨_, rfl, ?_⟩; have hS1 := Aside0.mk h1; clear h1))
      refine (cur_Fail w0 _ g a l ps 4 hS1.out (by decide)).mono ?_
      rintro e w2 ⟨rfl, h2⟩
      exact ⟨rfl, [], fun _ h => h, rfl, h2⟩
    rw [if_neg c2]
    have e2 : decide (n < (least : Int)) = false := decide_eq_false c2
    have wn : IntKind.i64.wrap n = n := by rw [i64_w, w64 (by omega) (by omega)]
    have wn2 : wrap64 n = n := w64 (by omega) (by omega)
    have hn := Aside0.mk (show n = (n.toNat : Int) by omega)
    by_cases c0 : n = 0
    · subst c0
      have h00 : (0 : Int).toNat = 0 := rfl
      rw [if_pos (by omega), h00, Nat.add_zero, drop_take_nil]
      have hcv := own_string (P := Try.prog) (w := w) (base := 0) (e' := 5) Try.underlying22 Try.underlying5 Try.underlying9 (Kd.own_of_R (Kd.R_nil (Kd.int .u8) 5 w 0 (fun _ => True)))
      have hcv2 := fun (W : World) => own_string (P := Try.prog) (w := W) (base := 0) (e' := 5) Try.underlying22 Try.underlying5 Try.underlying9 (Kd.own_of_R (Kd.R_nil (Kd.int .u8) 5 W 0 (fun _ => True)))
      go_enter Try.func74, Try.ntmps74
      go_wp2_with (first | ((with_reducible refine gate_callee (f := 73) rfl ?_); refine goesL_ (some 9) rfl rfl Try.func73 (by kernel_rfl) rfl #[.pointer (some ⟨g, 0, none⟩)] rfl (by (try simp only [List.map_toArray, List.map_cons, List.map_nil]); first | done | rfl) ?_; (with_reducible refine hgo.out.mono ?_); rintro e w1 ⟨rfl, h1⟩; refine ⟨_, rfl, ?_⟩; have hS1 := Aside0.mk h1; clear h1) | ((with_reducible refine gate_callee (f := 19) rfl ?_); refine goesL_ (some 27) rfl rfl Try.func19 (by kernel_rfl) rfl #[.pointer (some ⟨g, 0, none⟩), .int .i64 0] rfl (by (try simp only [List.map_toArray, List.map_cons, List.map_nil]); first | done | rfl) ?_; (with_reducible refine (cur_Take_none w0 _ g a l ps 0 hS1.out (by decide)).mono ?_); rintro e w2 ⟨rfl, h2⟩; refine ⟨_, rfl, ?_⟩; have hS2 := Aside0.mk h2; clear h2))
      go_ret
      exact ⟨[], fun _ h => h, rfl, hS2.out⟩
    by_cases c3 : a + n.toNat ≤ l.length
    · rw [if_pos c3]
      go_enter Try.func74, Try.ntmps74
      go_wp2_with (first | ((with_reducible refine gate_callee (f := 73) rfl ?_); refine goesL_ (some 9) rfl rfl Try.func73 (by kernel_rfl) rfl #[.pointer (some ⟨g, 0, none⟩)] rfl (by (try simp only [List.map_toArray, List.map_cons, List.map_nil]); first | done | rfl) ?_; (with_reducible refine hgo.out.mono ?_); rintro e w1 ⟨rfl, h1⟩; refine ⟨_, rfl, ?_⟩; have hS1 := Aside0.mk h1; clear h1) | ((with_reducible refine gate_callee (f := 19) rfl ?_); refine goesL_ (some 27) rfl rfl Try.func19 (by kernel_rfl) rfl #[.pointer (some ⟨g, 0, none⟩), .int .i64 n] rfl (by (try simp only [List.map_toArray, List.map_cons, List.map_nil]); first | done | rfl) ?_; (with_reducible refine (cur_Take_some w0 _ g a l ps n.toNat n hn.out hS1.out (by omega) hl c3).mono ?_); rintro e w2 ⟨v2, rfl, h2⟩; refine ⟨_, rfl, ?_⟩; have hS2 := Aside0.mk h2; clear h2; obtain ⟨bs2, hR2⟩ := hS2.out.row_R; have hcv := own_string (P := Try.prog) Try.underlying22 Try.underlying5 Try.underlying9 (Kd.own_of_R hR2)))
      go_ret
      exact ⟨[_], fun _ h => h.tail, rfl, hS2.out.put1⟩
    · rw [if_neg c3]
      go_enter Try.func74, Try.ntmps74
      go_wp2_with (first | ((with_reducible refine gate_callee (f := 73) rfl ?_); refine goesL_ (some 9) rfl rfl Try.func73 (by kernel_rfl) rfl #[.pointer (some ⟨g, 0, none⟩)] rfl (by (try simp only [List.map_toArray, List.map_cons, List.map_nil]); first | done | rfl) ?_; (with_reducible refine hgo.out.mono ?_); rintro e w1 ⟨rfl, h1⟩; refine ⟨_, rfl, ?_⟩; have hS1 := Aside0.mk h1; clear h1))
      refine (cur_Take_short w0 _ g a l ps n hS1.out (by omega) (by omega) hl (by omega)).mono ?_
      rintro e w2 ⟨rfl, h2⟩
      exact ⟨rfl, [], fun _ h => h, rfl, h2⟩

end Go.Proofs.Ytmlodmpkcbncjaa.Sep
