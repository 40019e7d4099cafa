-- Written by flaw.py (a law walked by hand)
import Derived.Test.YtlakjninlpiedaaRows
import Derived.Test.YtlakjninlpiedaaHEdgeCounts2
import Derived.Test.YtlakjninlpiedaaHRowF
import Derived.WalkKit
import Derived.ProofKit
import Derived.OpenShut
import Derived.ShutString
import Derived.ChangeOld
import Derived.Below
import Derived.SizedLaws
import Derived.Laws.Cover2
namespace Go.Proofs.Ytlakjninlpiedaa.edgeCounts
open Go.ChangeShapes Go.WideShapes Go.ChangeAt Go.RowKit Go.Proofs.Ytlakjninlpiedaa.Fw
open Go.ChangeMaps (open_string shut_string)
set_option linter.unusedVariables false
theorem own : ownKnob Try.prog.godebug = none := by kernel_rfl
theorem laidOut : laidOutB Try.prog = true := by kernel_rfl
set_option maxRecDepth 100000 in
theorem lifted (os : Os) (started : os.Started) (H : Type) (enc : TypeId × Value → H) :
    ReturnsInHanded {} Try.checked os 9 .any (Rows.edgeCountsSpec.pre6 enc Try.prog Try.f9 Rows.edgeCountsRow.domain false) (Rows.edgeCountsSpec.post enc Try.prog Try.f9 false true false false) := by
  refine returnsInHanded_of_change_sized (C := Try.checked) own started (by kernel_rfl) Try.func9
    (ChangeSpec.witness6 (enc := enc) (C := Try.checked) false ⟨#[], #[.int .u64 0, .int .u64 0, .int .u64 0, .float .f64 0, .float .f64 0, .float .f64 0, .slice none 0 0], []⟩ 8 (by kernel_rfl) (by kernel_rfl) (by kernel_rfl) (by kernel_rfl)) ?_
  intro W base args ds gs before hval0 hW hcnd hsz0 _
  have hsz : (DataW.weightsEach Try.prog (Try.f9.params.toList ++ Rows.edgeCountsSpec.plain.varTypes Try.prog) (ds ++ gs)).all (· ≤ reachBytes) = true := hsz0
  have hval : ∀ (j : Nat) t v, Try.f9.params[j]? = some t → args[j]? = some v → Value.okWide Try.prog W .any base t v := hval0
  have hW' := hW
  obtain ⟨p, q, hA0, hV, rfl, hfz, hnd⟩ := hW
  have hA : DataW.TrodAll enc Try.prog W 0 (fun _ => true) true Try.f9.params.toList args.toList ds p := hA0
  rw [Try.params9] at hA hval hsz
  obtain ⟨v0, vs0, d0, ds0, p0, q0, hargs, rfl, rfl, h0, r0⟩ := trodAll_cons hA
  obtain ⟨v1, vs1, d1, ds1, p1, q1, rfl, rfl, rfl, h1, r1⟩ := trodAll_cons r0
  obtain ⟨v2, vs2, d2, ds2, p2, q2, rfl, rfl, rfl, h2, r2⟩ := trodAll_cons r1
  obtain ⟨v3, vs3, d3, ds3, p3, q3, rfl, rfl, rfl, h3, r3⟩ := trodAll_cons r2
  obtain ⟨v4, vs4, d4, ds4, p4, q4, rfl, rfl, rfl, h4, r4⟩ := trodAll_cons r3
  obtain ⟨v5, vs5, d5, ds5, p5, q5, rfl, rfl, rfl, h5, r5⟩ := trodAll_cons r4
  obtain ⟨v6, vs6, d6, ds6, p6, q6, rfl, rfl, rfl, h6, r6⟩ := trodAll_cons r5
  obtain ⟨rfl, rfl, rfl⟩ := trodAll_nil r6
  obtain rfl : args = #[v0, v1, v2, v3, v4, v5, v6] := by cases args; simp_all
  obtain ⟨rfl, rfl⟩ := trodVars_none hV
  obtain ⟨a0, rfl, rfl, rfl, w0⟩ := open_int Try.underlying32 (hval 0 32 v0 rfl rfl) h0
  have bb0 := bounds_u64 w0
  obtain ⟨n0, rfl⟩ : ∃ n : Nat, a0 = n := ⟨a0.toNat, by omega⟩
  have b0 : n0 < 18446744073709551616 := by omega
  obtain ⟨a1, rfl, rfl, rfl, w1⟩ := open_int Try.underlying32 (hval 1 32 v1 rfl rfl) h1
  have bb1 := bounds_u64 w1
  obtain ⟨n1, rfl⟩ : ∃ n : Nat, a1 = n := ⟨a1.toNat, by omega⟩
  have b1 : n1 < 18446744073709551616 := by omega
  obtain ⟨a2, rfl, rfl, rfl, w2⟩ := open_int Try.underlying32 (hval 2 32 v2 rfl rfl) h2
  have bb2 := bounds_u64 w2
  obtain ⟨n2, rfl⟩ : ∃ n : Nat, a2 = n := ⟨a2.toNat, by omega⟩
  have b2 : n2 < 18446744073709551616 := by omega
  obtain ⟨a3, rfl, rfl, rfl, w3⟩ := open_float Try.underlying38 (hval 3 38 v3 rfl rfl) h3
  have b3 : a3 < 18446744073709551616 := of_decide_eq_true w3
  obtain ⟨a4, rfl, rfl, rfl, w4⟩ := open_float Try.underlying38 (hval 4 38 v4 rfl rfl) h4
  have b4 : a4 < 18446744073709551616 := of_decide_eq_true w4
  obtain ⟨a5, rfl, rfl, rfl, w5⟩ := open_float Try.underlying38 (hval 5 38 v5 rfl rfl) h5
  have b5 : a5 < 18446744073709551616 := of_decide_eq_true w5
  obtain ⟨b6, len6, cap6, rfl⟩ := okWide_slice Try.underlying52 (hval 6 52 v6 rfl rfl)
  have k6 := h6
  have lt6 : ∀ x ∈ p6, x.block < W.heap.size := by obtain ⟨m, hm⟩ := k6; exact DataW.trod_lt m _ _ _ hm
  obtain ⟨l6, rfl, hc6, hr6, hm6, y6, w6⟩ := Row.open_top (t := 52) (Row.Opn.flt Try.underlying38) Try.underlying52 (by kernel_rfl) (j := 6) hsz rfl rfl (B := 8) (by kernel_rfl) h6
  clear hA0 hval0 hsz0 hsz
  refine (edgeCounts_call n0 n1 n2 a3 a4 a5 b6 cap6 l6 b0 b1 b2 b3 b4 b5 (fun x hx => of_decide_eq_true (w6 x hx)) W hr6).mono fun e W' ⟨he, hd⟩ => ?_
  have bel : Below W.heap.size W W' := by subst hd; exact Below.refl _ _
  subst he
  exact ⟨_, rfl, _, _, _, [], _, [], hW', trodAll_mk1 (shut_bool Try.underlying4 _), (trodAll_cons_mk (shut_int Try.underlying32 w0) (trodAll_cons_mk (shut_int Try.underlying32 w1) (trodAll_cons_mk (shut_int Try.underlying32 w2) (trodAll_cons_mk (shut_float Try.underlying38 w3) (trodAll_cons_mk (shut_float Try.underlying38 w4) (trodAll_cons_mk (shut_float Try.underlying38 w5) (trodAll_cons_mk (Below.trod laidOut (by kernel_rfl) (of_decide_eq_true (by kernel_rfl)) k6 bel lt6) trodAll_mk0))))))), rfl, bel.frame _, fun h => by cases h⟩
theorem over : Rows.edgeCountsRow.holds Try.pinned (OpenSpec.ofChange Rows.edgeCountsSpec) :=
  OpenClaim.holds_of_wide 9 Try.f9 rfl rfl rfl rfl rfl rfl rfl ⟨rfl, rfl, rfl, rfl, rfl⟩ rfl rfl rfl rfl rfl (by kernel_rfl) Try.func9 (by kernel_rfl)
    (of_decide_eq_true (by kernel_rfl)) (by unfold Func.isWrapper; first | (rw [if_pos (by decide +kernel)]; kernel_rfl) | (rw [if_neg (by decide +kernel)]; exact ⟨rfl, rfl⟩))
    (fun os started H enc _ => lifted os started H enc)
theorem proved : Rows.EdgeCountsSaid := over
#print axioms proved
end Go.Proofs.Ytlakjninlpiedaa.edgeCounts
namespace Go.Proofs.Ytlakjninlpiedaa
/-- The row, under a short name, for the claim. -/
theorem edgeCounts_holds : Rows.EdgeCountsSaid := edgeCounts.proved
end Go.Proofs.Ytlakjninlpiedaa
