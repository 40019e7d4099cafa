-- Written by flaw.py (a law walked by hand)
import Derived.Test.YtlakjninlpiedaaRows
import Derived.Test.YtlakjninlpiedaaHPlays5
import Derived.Test.YtlakjninlpiedaaHRowF
import Derived.WalkKit
import Derived.ProofKit
import Derived.OpenShut
import Derived.ShutString
import Derived.ChangeOld
import Derived.Below
import Derived.SizedLaws
import Derived.Laws.Cover2
namespace Go.Proofs.Ytlakjninlpiedaa.wearPlays
open Go.ChangeShapes Go.WideShapes Go.ChangeAt Go.RowKit Go.Proofs.Ytlakjninlpiedaa.Fw
open Go.ChangeMaps (open_string shut_string)
set_option linter.unusedVariables false
theorem own : ownKnob Try.prog.godebug = none := by kernel_rfl
theorem laidOut : laidOutB Try.prog = true := by kernel_rfl
set_option maxRecDepth 100000 in
theorem opn_act : Row.Opn Try.prog 59 KA (fun x => (Lit.int .u8 x.1).wf = true ∧ (Lit.int .u32 x.2.1).wf = true ∧ (Lit.int .u64 x.2.2).wf = true) :=
  ⟨fun {_ _ _ _ _ _ _ cs _} h => by
    obtain ⟨xs, n, rfl, rfl, hlen, hxl, hf⟩ := DataW.trod_struct Try.underlying59 h
    have hl : cs.length = 3 := hlen.trans (by kernel_rfl)
    have hx : xs.length = 3 := hxl.trans (by rfl)
    obtain ⟨c0, c1, c2, rfl⟩ : ∃ c0 c1 c2, cs = [c0, c1, c2] := by
      rcases cs with _ | ⟨c0, _ | ⟨c1, _ | ⟨c2, _ | ⟨_, _⟩⟩⟩⟩
      all_goals first | (simp at hl; done) | exact ⟨_, _, _, rfl⟩
    obtain ⟨y0, e0⟩ := Row.get_lt (i := 0) hx (by omega)
    have h0 := hf 0 _ rfl
    rw [e0] at h0
    obtain ⟨a0, k0, w0⟩ := (Row.Opn.int Try.underlying5).opn h0
    obtain ⟨y1, e1⟩ := Row.get_lt (i := 1) hx (by omega)
    have h1 := hf 1 _ rfl
    rw [e1] at h1
    obtain ⟨a1, k1, w1⟩ := (Row.Opn.int Try.underlying22).opn h1
    obtain ⟨y2, e2⟩ := Row.get_lt (i := 2) hx (by omega)
    have h2 := hf 2 _ rfl
    rw [e2] at h2
    obtain ⟨a2, k2, w2⟩ := (Row.Opn.int Try.underlying32).opn h2
    have k0' : [c0] = [Value.int .u8 a0] := k0
    have k1' : [c1] = [Value.int .u32 a1] := k1
    have k2' : [c2] = [Value.int .u64 a2] := k2
    injection k0' with k0' _
    injection k1' with k1' _
    injection k2' with k2' _
    exact ⟨(a0, a1, a2), (by rw [k0', k1', k2']; rfl), w0, w1, w2⟩⟩
set_option maxRecDepth 100000 in
theorem lifted (os : Os) (started : os.Started) (H : Type) (enc : TypeId × Value → H) :
    ReturnsInHanded {} Try.checked os 11 .any (Rows.wearPlaysSpec.pre6 enc Try.prog Try.f11 Rows.wearPlaysRow.domain false) (Rows.wearPlaysSpec.post enc Try.prog Try.f11 false true false false) := by
  refine returnsInHanded_of_change_sized (C := Try.checked) own started (by kernel_rfl) Try.func11
    (ChangeSpec.witness6 (enc := enc) (C := Try.checked) false ⟨#[], #[.int .u8 0, .slice none 0 0, .float .f64 0], []⟩ 8 (by kernel_rfl) (by kernel_rfl) (by kernel_rfl) (by kernel_rfl)) ?_
  intro W base args ds gs before hval0 hW hcnd hsz0 _
  have hsz : (DataW.weightsEach Try.prog (Try.f11.params.toList ++ Rows.wearPlaysSpec.plain.varTypes Try.prog) (ds ++ gs)).all (· ≤ reachBytes) = true := hsz0
  have hval : ∀ (j : Nat) t v, Try.f11.params[j]? = some t → args[j]? = some v → Value.okWide Try.prog W .any base t v := hval0
  have hW' := hW
  obtain ⟨p, q, hA0, hV, rfl, hfz, hnd⟩ := hW
  have hA : DataW.TrodAll enc Try.prog W 0 (fun _ => true) true Try.f11.params.toList args.toList ds p := hA0
  rw [Try.params11] at hA hval hsz
  obtain ⟨v0, vs0, d0, ds0, p0, q0, hargs, rfl, rfl, h0, r0⟩ := trodAll_cons hA
  obtain ⟨v1, vs1, d1, ds1, p1, q1, rfl, rfl, rfl, h1, r1⟩ := trodAll_cons r0
  obtain ⟨v2, vs2, d2, ds2, p2, q2, rfl, rfl, rfl, h2, r2⟩ := trodAll_cons r1
  obtain ⟨rfl, rfl, rfl⟩ := trodAll_nil r2
  obtain rfl : args = #[v0, v1, v2] := by cases args; simp_all
  obtain ⟨rfl, rfl⟩ := trodVars_none hV
  obtain ⟨a0, rfl, rfl, rfl, w0⟩ := open_int Try.underlying5 (hval 0 5 v0 rfl rfl) h0
  have bb0 := bounds_u8 w0
  obtain ⟨n0, rfl⟩ : ∃ n : Nat, a0 = n := ⟨a0.toNat, by omega⟩
  have b0 : n0 < 256 := by omega
  obtain ⟨b1, len1, cap1, rfl⟩ := okWide_slice Try.underlying57 (hval 1 57 v1 rfl rfl)
  have k1 := h1
  have lt1 : ∀ x ∈ p1, x.block < W.heap.size := by obtain ⟨m, hm⟩ := k1; exact DataW.trod_lt m _ _ _ hm
  obtain ⟨l1, rfl, hc1, hr1, hm1, y1, w1⟩ := Row.open_top (t := 57) opn_act Try.underlying57 (by kernel_rfl) (j := 1) hsz rfl rfl (B := 16) (by kernel_rfl) h1
  obtain ⟨a2, rfl, rfl, rfl, w2⟩ := open_float Try.underlying38 (hval 2 38 v2 rfl rfl) h2
  have b2 : a2 < 18446744073709551616 := of_decide_eq_true w2
  clear hA0 hval0 hsz0 hsz
  refine (wearPlays_call n0 b1 cap1 l1 a2 b0 (fun x hx => ⟨(by have := bounds_u8 (w1 x hx).1; omega), (by have := bounds_u32 (w1 x hx).2.1; omega), (by have := bounds_u64 (w1 x hx).2.2; omega)⟩) b2 W hr1).mono fun e W' ⟨he, hd⟩ => ?_
  have bel : Below W.heap.size W W' := hd
  subst he
  exact ⟨_, rfl, _, _, _, [], _, [], hW', trodAll_mk1 (shut_bool Try.underlying4 _), (trodAll_cons_mk (shut_int Try.underlying5 w0) (trodAll_cons_mk (Below.trod laidOut (by kernel_rfl) (of_decide_eq_true (by kernel_rfl)) k1 bel lt1) (trodAll_cons_mk (shut_float Try.underlying38 w2) trodAll_mk0))), rfl, bel.frame _, fun h => by cases h⟩
theorem over : Rows.wearPlaysRow.holds Try.pinned (OpenSpec.ofChange Rows.wearPlaysSpec) :=
  OpenClaim.holds_of_wide 11 Try.f11 rfl rfl rfl rfl rfl rfl rfl ⟨rfl, rfl, rfl, rfl, rfl⟩ rfl rfl rfl rfl rfl (by kernel_rfl) Try.func11 (by kernel_rfl)
    (of_decide_eq_true (by kernel_rfl)) (by unfold Func.isWrapper; first | (rw [if_pos (by decide +kernel)]; kernel_rfl) | (rw [if_neg (by decide +kernel)]; exact ⟨rfl, rfl⟩))
    (fun os started H enc _ => lifted os started H enc)
theorem proved : Rows.WearPlaysSaid := over
#print axioms proved
end Go.Proofs.Ytlakjninlpiedaa.wearPlays
namespace Go.Proofs.Ytlakjninlpiedaa
/-- The row, under a short name, for the claim. -/
theorem wearPlays_holds : Rows.WearPlaysSaid := wearPlays.proved
end Go.Proofs.Ytlakjninlpiedaa
