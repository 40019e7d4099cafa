/- Floats in the program: edge's and the document's small functions, walked. -/
import Derived.Test.YtlakjninlpiedaaProg
import Derived.Below
import Derived.Deep.Draws
import Derived.Deep.AppendLies
import Derived.Maps.AppendAt
import Derived.OwnWalk
import Derived.Laws.BytesArg
import Derived.Laws.MakeOwn
import Derived.Laws.OwnMore
import Derived.Deep.OwnRows
import Derived.Tactics
import Derived.Lib.ConvBytes
import Derived.Laws.Slices
import Derived.WalkKit
import Derived.KernelRfl
import Derived.RowKit3
import Derived.Deep.LoopGhost
import Derived.Deep.QuietTactic
import Derived.BigQuiet
import Derived.WideLaws
import Derived.Deep.DeepCutAuto
import Derived.Deep.CutBlock
import Derived.Deep.RegionHeld3
import Derived.Laws.Rows
import Derived.Lib.AppendStr
import Derived.ArgAppend
import Derived.Laws.IdiomCopy
import Derived.OrdersHeld
import Derived.Laws.BitsLemmas
import Derived.RowKit
import Derived.Test.YtlakjninlpiedaaWWords
import Derived.Test.YtlakjninlpiedaaWLast
import Derived.Test.YtlakjninlpiedaaWTab
import Derived.Test.YtlakjninlpiedaaWFour
import Derived.Test.YtlakjninlpiedaaWQPut
import Derived.Test.YtlakjninlpiedaaWApart
import Derived.Test.YtlakjninlpiedaaWArr
import Derived.Test.YtlakjninlpiedaaWZeros
import Derived.Test.YtlakjninlpiedaaWFoot
import Derived.Test.YtlakjninlpiedaaWKept
import Derived.Test.YtlakjninlpiedaaWShare
import Derived.Test.YtlakjninlpiedaaWN
import Derived.Test.YtlakjninlpiedaaWFootNe
import Derived.Test.YtlakjninlpiedaaWAt
import Derived.Test.YtlakjninlpiedaaWEqStruct
import Derived.Test.YtlakjninlpiedaaWRepsOne
import Derived.Test.YtlakjninlpiedaaWInv
import Derived.Test.YtlakjninlpiedaaWInvWords
import Derived.Test.YtlakjninlpiedaaWGuard
import Derived.Test.YtlakjninlpiedaaWNEv
import Derived.Test.YtlakjninlpiedaaWMore
import Derived.WalkLawsBesides
import Derived.Test.YtlakjninlpiedaaLEdge
import Derived.Test.YtlakjninlpiedaaLBitsF
set_option linter.unusedVariables false
set_option linter.unusedSimpArgs false
namespace Go.Proofs.Ytlakjninlpiedaa.Fw
open Go Go.RowKit Go.Proofs.YtlakjninlpiedaaW.PrintWords Go.Proofs.YtlakjninlpiedaaW.PrintLast Go.Proofs.YtlakjninlpiedaaW.PrintMore Go.Proofs.Ytlakjninlpiedaa.Fl

theorem run_f64bits (b : Nat) (w : World) : (callFunc 74 #[.float .f64 b]).run Try.prog w = .ok (.value (.int .u64 b)) w := by
  rw [run_callFunc_extern Try.func74 (by kernel_rfl) (by kernel_rfl) (by kernel_rfl) (e := Extern.MathFloatBits.float64bits) (by kernel_rfl)]; rfl
theorem run_frombits (n : Int) (w : World) : (callFunc 75 #[.int .u64 n]).run Try.prog w = .ok (.value (.float .f64 n.toNat)) w := by
  rw [run_callFunc_extern Try.func75 (by kernel_rfl) (by kernel_rfl) (by kernel_rfl) (e := Extern.MathFloatBits.float64frombits) (by kernel_rfl)]; rfl
attribute [local go_sem] run_f64bits run_frombits


/-- What a call tells that changes nothing. -/
abbrev Tells (f : FuncId) (args : Array Value) (v : Value) : Prop := ∀ w, Calls Try.prog f args w fun e w' => e = .returned v ∧ w' = w

theorem f64_ne (x : Nat) : (FloatKind.f64.format.order x x != some .eq) = decide (nan x) := o_ne x
theorem f64_lt (x y : Nat) : (FloatKind.f64.format.order x y == some .lt) = decide (¬ nan x ∧ ¬ nan y ∧ rv x < rv y) := o_lt x y
theorem f64_gt (x y : Nat) : (FloatKind.f64.format.order x y == some .gt) = decide (¬ nan x ∧ ¬ nan y ∧ rv y < rv x) := o_gt x y
theorem f64_ge (x y : Nat) : (FloatKind.f64.format.order x y == some .gt || FloatKind.f64.format.order x y == some .eq) = decide (¬ nan x ∧ ¬ nan y ∧ rv y ≤ rv x) := o_ge x y
theorem f64_le (x y : Nat) : (FloatKind.f64.format.order x y == some .lt || FloatKind.f64.format.order x y == some .eq) = decide (¬ nan x ∧ ¬ nan y ∧ rv x ≤ rv y) := o_le x y

set_option maxHeartbeats 2000000
set_option maxRecDepth 100000

theorem edge_text (x : Nat) : Tells 78 #[.float .f64 x] (.int .u64 (bitsv x)) := by
  intro w
  go_enter Try.func78, Try.ntmps78
  unfold bitsv
  by_cases h : nan x
  · have hd : (FloatKind.f64.format.order x x != some .eq) = true := by rw [f64_ne]; exact decide_eq_true h
    rw [if_pos h]; clear h
    go_wp2_with (fail)
    go_ret
    exact ⟨rfl, rfl⟩
  · have hd : (FloatKind.f64.format.order x x != some .eq) = false := by rw [f64_ne]; exact decide_eq_false h
    rw [if_neg h]; clear h
    go_wp2_with (fail)
    go_ret
    exact ⟨rfl, rfl⟩

theorem math_IsNaN (x : Nat) : Tells 26 #[.float .f64 x] (.bool (decide (nan x))) := by
  intro w
  go_enter Try.func26, Try.ntmps26
  go_wp2_with (fail)
  go_ret
  exact ⟨congrArg (fun b => Ending.returned (.bool b)) (f64_ne x), rfl⟩

theorem sig_u64 : IntKind.u64.signed = false := rfl

theorem edge_Key (x : Nat) (hx : x < 18446744073709551616) : Tells 33 #[.float .f64 x] (.int .u64 (keyv x)) := by
  intro w
  have hb := bitsv_lt hx
  unfold keyv
  generalize hn : bitsv x = n at *
  go_enter Try.func33, Try.ntmps33
  have hc := edge_text x
  rw [hn] at hc
  have hsg := sig_u64
  by_cases h : 9223372036854775808 ≤ n
  · have hd : decide ((9223372036854775808 : Int) ≤ (n : Int)) = true := decide_eq_true (by omega)
    rw [if_pos h, ← xor_all n hb]
    go_wp2_with (fail)
    refine (hc _).mono ?_
    intro ef_ wf_ hf_
    obtain ⟨h1f_, h2f_⟩ := hf_
    subst h1f_
    subst h2f_
    go_wp2_with (fail)
    all_goals first | contradiction | (go_ret; exact ⟨rfl, rfl⟩)
  · have hd : decide ((9223372036854775808 : Int) ≤ (n : Int)) = false := decide_eq_false (by omega)
    rw [if_neg h, ← or_top n (by omega)]
    go_wp2_with (fail)
    refine (hc _).mono ?_
    intro ef_ wf_ hf_
    obtain ⟨h1f_, h2f_⟩ := hf_
    subst h1f_
    subst h2f_
    go_wp2_with (fail)
    go_ret
    exact ⟨rfl, rfl⟩

/-- The number of a key. -/
def ofv (k : Nat) : Nat := bitsv (if 9223372036854775808 ≤ k then k - 9223372036854775808 else 18446744073709551615 - k)

theorem of_facts (k : Nat) (hk : k < 18446744073709551616) : ∃ r' : Nat, bits .xor .u64 IntKind.u64.max (k : Int) = (r' : Int) ∧
    ((decide ((9223372036854775808 : Int) ≤ (k : Int)) = true ∧ ∃ r : Nat, bits .xor .u64 (k : Int) 9223372036854775808 = (r : Int) ∧ ofv k = bitsv r) ∨
     (decide ((9223372036854775808 : Int) ≤ (k : Int)) = false ∧ ofv k = bitsv r')) := by
  refine ⟨_, xor_all k hk, ?_⟩
  unfold ofv
  by_cases h : 9223372036854775808 ≤ k
  · refine .inl ⟨decide_eq_true (by omega), k - 9223372036854775808, ?_, by rw [if_pos h]⟩
    have hx := xor_top (k - 9223372036854775808) (by omega)
    rwa [Nat.sub_add_cancel h] at hx
  · exact .inr ⟨decide_eq_false (by omega), by rw [if_neg h]⟩
theorem edge_Of (k : Nat) (hk : k < 18446744073709551616) : Tells 38 #[.int .u64 k] (.float .f64 (ofv k)) := by
  intro w
  have hsg := sig_u64
  obtain ⟨r', hy, ⟨hd, r, hx, he⟩ | ⟨hd, he⟩⟩ := of_facts k hk
  · rw [he]
    clear he hk
    go_enter Try.func38, Try.ntmps38
    go_wp2_with (fail)
    all_goals first | contradiction | skip
    refine (edge_text r _).mono ?_
    intro ef_ wf_ hf_
    obtain ⟨h1f_, h2f_⟩ := hf_
    subst h1f_
    subst h2f_
    go_wp2_with (fail)
    go_ret
    exact ⟨rfl, rfl⟩
  · rw [he]
    clear he hk
    go_enter Try.func38, Try.ntmps38
    go_wp2_with (fail)
    all_goals first | contradiction | skip
    refine (edge_text r' _).mono ?_
    intro ef_ wf_ hf_
    obtain ⟨h1f_, h2f_⟩ := hf_
    subst h1f_
    subst h2f_
    go_wp2_with (fail)
    go_ret
    exact ⟨rfl, rfl⟩

theorem cmp_isNaN (x : Nat) : Tells 102 #[.int .u64 x] (.bool false) := by
  intro w
  go_enter Try.func102, Try.ntmps102
  go_wp2_with (fail)
  go_ret
  exact ⟨by simp, rfl⟩
theorem cmp_Compare (x y : Nat) : Tells 79 #[.int .u64 x, .int .u64 y] (.int .i64 (cmpi x y)) := by
  intro w
  unfold cmpi
  go_enter Try.func79, Try.ntmps79
  by_cases h : x < y
  · have hd : decide ((x : Int) < (y : Int)) = true := decide_eq_true (by omega)
    rw [if_pos h]
    go_wp2_with (fail)
    refine (cmp_isNaN x _).mono ?_
    intro ef_ wf_ hf_
    obtain ⟨h1f_, h2f_⟩ := hf_
    subst h1f_
    subst h2f_
    go_wp2_with (fail)
    refine (cmp_isNaN y _).mono ?_
    intro ef_ wf_ hf_
    obtain ⟨h1f_, h2f_⟩ := hf_
    subst h1f_
    subst h2f_
    go_wp2_with (fail)
    go_ret
    exact ⟨rfl, rfl⟩
  · have hd : decide ((x : Int) < (y : Int)) = false := decide_eq_false (by omega)
    rw [if_neg h]
    by_cases h2 : y < x
    · have hd2 : decide ((y : Int) < (x : Int)) = true := decide_eq_true (by omega)
      rw [if_pos h2]
      go_wp2_with (fail)
      refine (cmp_isNaN x _).mono ?_
      intro ef_ wf_ hf_
      obtain ⟨h1f_, h2f_⟩ := hf_
      subst h1f_
      subst h2f_
      go_wp2_with (fail)
      refine (cmp_isNaN y _).mono ?_
      intro ef_ wf_ hf_
      obtain ⟨h1f_, h2f_⟩ := hf_
      subst h1f_
      subst h2f_
      go_wp2_with (fail)
      go_ret
      exact ⟨rfl, rfl⟩
    · have hd2 : decide ((y : Int) < (x : Int)) = false := decide_eq_false (by omega)
      rw [if_neg h2]
      go_wp2_with (fail)
      refine (cmp_isNaN x _).mono ?_
      intro ef_ wf_ hf_
      obtain ⟨h1f_, h2f_⟩ := hf_
      subst h1f_
      subst h2f_
      go_wp2_with (fail)
      refine (cmp_isNaN y _).mono ?_
      intro ef_ wf_ hf_
      obtain ⟨h1f_, h2f_⟩ := hf_
      subst h1f_
      subst h2f_
      go_wp2_with (fail)
      go_ret
      exact ⟨rfl, rfl⟩
theorem edge_Compare (x y : Nat) (hx : x < 18446744073709551616) (hy : y < 18446744073709551616) : Tells 34 #[.float .f64 x, .float .f64 y] (.int .i64 (cmpi (keyv x) (keyv y))) := by
  intro w
  go_enter Try.func34, Try.ntmps34
  generalize hR : cmpi (keyv x) (keyv y) = R
  have hc := cmp_Compare (keyv x) (keyv y)
  rw [hR] at hc
  go_wp2_with (fail)
  refine (edge_Key x hx _).mono ?_
  intro ef_ wf_ hf_
  obtain ⟨h1f_, h2f_⟩ := hf_
  subst h1f_
  subst h2f_
  go_wp2_with (fail)
  refine (edge_Key y hy _).mono ?_
  intro ef_ wf_ hf_
  obtain ⟨h1f_, h2f_⟩ := hf_
  subst h1f_
  subst h2f_
  go_wp2_with (fail)
  refine (hc _).mono ?_
  intro ef_ wf_ hf_
  obtain ⟨h1f_, h2f_⟩ := hf_
  subst h1f_
  subst h2f_
  go_wp2_with (fail)
  go_ret
  exact ⟨rfl, rfl⟩
theorem math_Abs (x : Nat) (hx : x < 18446744073709551616) : Tells 28 #[.float .f64 x] (.float .f64 (rg x)) := by
  intro w
  have h := andNot_top x hx
  unfold rg
  go_enter Try.func28, Try.ntmps28
  generalize x % 9223372036854775808 = r at *
  go_wp2_with (fail)
  go_ret
  exact ⟨rfl, rfl⟩
theorem math_Signbit (x : Nat) (hx : x < 18446744073709551616) : Tells 29 #[.float .f64 x] (.bool (decide (9223372036854775808 ≤ x))) := by
  intro w
  have hd : decide (wrap64 (x : Int) < 0) = decide (9223372036854775808 ≤ x) := decide_eq_decide.2 (by unfold wrap64; omega)
  generalize decide (9223372036854775808 ≤ x) = b at *
  go_enter Try.func29, Try.ntmps29
  go_wp2_with (fail)
  go_ret
  exact ⟨rfl, rfl⟩
theorem math_IsInf (x : Nat) (s : Int) (hx : x < 18446744073709551616) (hs : 0 < s) : Tells 27 #[.float .f64 x, .int .i64 s] (.bool (decide (x = 9218868437227405312))) := by
  intro w
  have hd : (FloatKind.f64.format.order x 9218868437227405311 == some .gt) = decide (x = 9218868437227405312) := by
    rw [f64_gt]
    refine decide_eq_decide.2 ?_
    rw [nan_iff, nan_iff, rv_eq hx, rv_eq (by decide)]
    constructor
    · rintro ⟨h1, -, h2⟩; split at h2 <;> omega
    · rintro rfl; exact ⟨by decide, by decide, by decide⟩
  have h0 : decide (s = 0) = false := decide_eq_false (by omega)
  have h1 : decide (s < 0) = false := decide_eq_false (by omega)
  generalize decide (x = 9218868437227405312) = b at *
  go_enter Try.func27, Try.ntmps27
  go_wp2_with (fail)
  go_ret
  exact ⟨rfl, rfl⟩
theorem math_IsInf_neg (x : Nat) (hx : x < 18446744073709551616) : Tells 27 #[.float .f64 x, .int .i64 (-1)] (.bool (decide (x = 18442240474082181120))) := by
  intro w
  have hn : ∀ W : World, (Op.unary .neg (.float .f64 x)).run Try.prog W = .ok (.float .f64 (Op.negFloat .f64 x)) W := fun W => rfl
  have hv : (9223372036854775808 ≤ x → Op.negFloat .f64 x = x - 9223372036854775808) ∧ (x < 9223372036854775808 → Op.negFloat .f64 x = x + 9223372036854775808) := by
    unfold Op.negFloat
    rw [show FloatKind.f64.format.exponentBits + FloatKind.f64.format.fractionBits = 63 from rfl, show (2 : Nat) ^ 63 = 9223372036854775808 from rfl]
    constructor
    · intro h
      have := xor_top_nat (x - 9223372036854775808) (by omega)
      rwa [Nat.sub_add_cancel h] at this
    · intro h
      have := xor_top_nat x h
      have h2 := congrArg (· ^^^ 9223372036854775808) this
      simp only [Nat.xor_assoc, Nat.xor_self, Nat.xor_zero] at h2
      exact h2.symm
  have hd : (FloatKind.f64.format.order (Op.negFloat .f64 x) 9218868437227405311 == some .gt) = decide (x = 18442240474082181120) := by
    rw [f64_gt]
    refine decide_eq_decide.2 ?_
    by_cases h : 9223372036854775808 ≤ x
    · rw [hv.1 h, nan_iff, nan_iff, rv_eq (x := x - 9223372036854775808) (by omega), rv_eq (x := 9218868437227405311) (by decide), if_neg (show ¬ 9223372036854775808 ≤ 9218868437227405311 by decide)]
      constructor
      · rintro ⟨h1, -, h2⟩; split at h2 <;> omega
      · rintro rfl; exact ⟨by decide, by decide, by decide⟩
    · rw [hv.2 (by omega), nan_iff, nan_iff, rv_eq (x := x + 9223372036854775808) (by omega), rv_eq (x := 9218868437227405311) (by decide), if_pos (show 9223372036854775808 ≤ x + 9223372036854775808 by omega), if_neg (show ¬ 9223372036854775808 ≤ 9218868437227405311 by decide)]
      constructor
      · rintro ⟨h1, -, h2⟩; omega
      · intro h3; omega
  generalize decide (x = 18442240474082181120) = b at *
  generalize Op.negFloat .f64 x = y at *
  clear hv
  go_enter Try.func27, Try.ntmps27
  go_wp2_with (fail)
  go_ret
  exact ⟨rfl, rfl⟩
end Go.Proofs.Ytlakjninlpiedaa.Fw
