-- Written by flaw.py (a law walked by hand)
import Derived.Test.YtlakjninlpiedaaRows
import Derived.Test.YtlakjninlpiedaaHWearLaws
import Derived.Test.YtlakjninlpiedaaHRowF
import Derived.WalkKit
import Derived.ProofKit
import Derived.OpenShut
import Derived.ShutString
import Derived.ChangeOld
import Derived.Below
import Derived.SizedLaws
import Derived.Laws.Cover2
namespace Go.Proofs.Ytlakjninlpiedaa.wearConfigs
open Go.ChangeShapes Go.WideShapes Go.ChangeAt Go.RowKit Go.Proofs.Ytlakjninlpiedaa.Fw
open Go.ChangeMaps (open_string shut_string)
set_option linter.unusedVariables false
theorem own : ownKnob Try.prog.godebug = none := by kernel_rfl
theorem laidOut : laidOutB Try.prog = true := by kernel_rfl
set_option maxRecDepth 100000 in
theorem opn_cfg {H : Type} {enc : TypeId × Value → H} {W : World} {base : Nat} {spare : Nat → Bool} {held : Bool} {fuel : Nat} {cs : List Value} {x : DataW H × List MemPlace}
    (h : DataW.trod enc Try.prog W base spare held fuel 24 cs = some x) : ∃ a0 a1 : Int, cs = [.int .u8 a0, .int .u32 a1] ∧ (Lit.int .u8 a0).wf = true ∧ (Lit.int .u32 a1).wf = true := by
  obtain ⟨xs, n, rfl, rfl, hlen, hxl, hf⟩ := DataW.trod_struct Try.underlying24 h
  have hl : cs.length = 2 := hlen.trans (by kernel_rfl)
  have hx : xs.length = 2 := hxl.trans (by rfl)
  obtain ⟨c0, c1, rfl⟩ : ∃ c0 c1, cs = [c0, c1] := by
    rcases cs with _ | ⟨c0, _ | ⟨c1, _ | ⟨_, _⟩⟩⟩
    all_goals first | (simp at hl; done) | exact ⟨_, _, rfl⟩
  obtain ⟨y0, e0⟩ := Row.get_lt (i := 0) hx (by omega)
  have h0 := hf 0 _ rfl
  rw [e0] at h0
  obtain ⟨a0, k0, w0⟩ := (Row.Opn.int Try.underlying5).opn h0
  obtain ⟨y1, e1⟩ := Row.get_lt (i := 1) hx (by omega)
  have h1 := hf 1 _ rfl
  rw [e1] at h1
  obtain ⟨a1, k1, w1⟩ := (Row.Opn.int Try.underlying22).opn h1
  have k0' : [c0] = [Value.int .u8 a0] := k0
  have k1' : [c1] = [Value.int .u32 a1] := k1
  injection k0' with k0' _
  injection k1' with k1' _
  exact ⟨a0, a1, by rw [k0', k1'], w0, w1⟩
set_option maxRecDepth 100000 in
theorem lifted (os : Os) (started : os.Started) (H : Type) (enc : TypeId × Value → H) :
    ReturnsInHanded {} Try.checked os 3 .any (Rows.wearConfigsSpec.pre6 enc Try.prog Try.f3 Rows.wearConfigsRow.domain false) (Rows.wearConfigsSpec.post enc Try.prog Try.f3 false true false false) := by
  refine returnsInHanded_of_change_sized (C := Try.checked) own started (by kernel_rfl) Try.func3
    (ChangeSpec.witness6 (enc := enc) (C := Try.checked) false ⟨#[], #[.agg #[.int .u8 0, .int .u32 0], .int .u32 0], []⟩ 8 (by kernel_rfl) (by kernel_rfl) (by kernel_rfl) (by kernel_rfl)) ?_
  intro W base args ds gs before hval0 hW hcnd hsz0 _
  have hsz : (DataW.weightsEach Try.prog (Try.f3.params.toList ++ Rows.wearConfigsSpec.plain.varTypes Try.prog) (ds ++ gs)).all (· ≤ reachBytes) = true := hsz0
  have hval : ∀ (j : Nat) t v, Try.f3.params[j]? = some t → args[j]? = some v → Value.okWide Try.prog W .any base t v := hval0
  have hW' := hW
  obtain ⟨p, q, hA0, hV, rfl, hfz, hnd⟩ := hW
  have hA : DataW.TrodAll enc Try.prog W 0 (fun _ => true) true Try.f3.params.toList args.toList ds p := hA0
  rw [Try.params3] at hA hval hsz
  obtain ⟨v0, vs0, d0, ds0, p0, q0, hargs, rfl, rfl, h0, r0⟩ := trodAll_cons hA
  obtain ⟨v1, vs1, d1, ds1, p1, q1, rfl, rfl, rfl, h1, r1⟩ := trodAll_cons r0
  obtain ⟨rfl, rfl, rfl⟩ := trodAll_nil r1
  obtain rfl : args = #[v0, v1] := by cases args; simp_all
  obtain ⟨rfl, rfl⟩ := trodVars_none hV
  obtain ⟨cs0, rfl, hcs0⟩ := okWide_struct Try.underlying24 (hval 0 24 v0 rfl rfl)
  have k0 := h0
  have lt0 : ∀ x ∈ p0, x.block < W.heap.size := by obtain ⟨m, hm⟩ := k0; exact DataW.trod_lt m _ _ _ hm
  obtain ⟨fu0, hf0⟩ := h0
  obtain ⟨a0, d0_1, hk0, w0, x0⟩ := opn_cfg hf0
  have he0 : cs0.toList = [.int .u8 a0, .int .u32 d0_1] := hk0
  obtain rfl : cs0 = #[.int .u8 a0, .int .u32 d0_1] := Array.toList_inj.1 he0
  have bb0 := bounds_u32 x0
  have ba0 := bounds_u8 w0
  obtain ⟨n0, rfl⟩ : ∃ n : Nat, d0_1 = n := ⟨d0_1.toNat, by omega⟩
  have b0 : n0 < 4294967296 := by omega
  obtain ⟨a1, rfl, rfl, rfl, w1⟩ := open_int Try.underlying22 (hval 1 22 v1 rfl rfl) h1
  have bb1 := bounds_u32 w1
  obtain ⟨n1, rfl⟩ : ∃ n : Nat, a1 = n := ⟨a1.toNat, by omega⟩
  have b1 : n1 < 4294967296 := by omega
  clear hA0 hval0 hsz0 hsz
  refine (wearConfigs_call a0 n0 n1 ba0 b0 b1 W).mono fun e W' ⟨he, hd⟩ => ?_
  have bel : Below W.heap.size W W' := hd
  subst he
  exact ⟨_, rfl, _, _, _, [], _, [], hW', trodAll_mk1 (shut_bool Try.underlying4 _), (trodAll_cons_mk (Below.trod laidOut (by kernel_rfl) (of_decide_eq_true (by kernel_rfl)) k0 bel lt0) (trodAll_cons_mk (shut_int Try.underlying22 w1) trodAll_mk0)), rfl, bel.frame _, fun h => by cases h⟩
theorem over : Rows.wearConfigsRow.holds Try.pinned (OpenSpec.ofChange Rows.wearConfigsSpec) :=
  OpenClaim.holds_of_wide 3 Try.f3 rfl rfl rfl rfl rfl rfl rfl ⟨rfl, rfl, rfl, rfl, rfl⟩ rfl rfl rfl rfl rfl (by kernel_rfl) Try.func3 (by kernel_rfl)
    (of_decide_eq_true (by kernel_rfl)) (by unfold Func.isWrapper; first | (rw [if_pos (by decide +kernel)]; kernel_rfl) | (rw [if_neg (by decide +kernel)]; exact ⟨rfl, rfl⟩))
    (fun os started H enc _ => lifted os started H enc)
theorem proved : Rows.WearConfigsSaid := over
#print axioms proved
end Go.Proofs.Ytlakjninlpiedaa.wearConfigs
namespace Go.Proofs.Ytlakjninlpiedaa
/-- The row, under a short name, for the claim. -/
theorem wearConfigs_holds : Rows.WearConfigsSaid := wearConfigs.proved
end Go.Proofs.Ytlakjninlpiedaa
