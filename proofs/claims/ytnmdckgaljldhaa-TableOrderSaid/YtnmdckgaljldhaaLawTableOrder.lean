-- Written by flaw.py (a law walked by hand)
import Derived.Test.YtnmdckgaljldhaaRows
import Derived.Test.YtnmdckgaljldhaaHTable12
import Derived.Test.YtnmdckgaljldhaaHRow
import Derived.WalkKit
import Derived.ProofKit
import Derived.OpenShut
import Derived.ShutString
import Derived.ChangeOld
import Derived.Below
import Derived.SizedLaws
import Derived.Laws.Cover2
namespace Go.Proofs.Ytnmdckgaljldhaa.tableOrder
open Go.ChangeShapes Go.WideShapes Go.ChangeAt Go.RowKit Go.Proofs.Ytnmdckgaljldhaa.Fw
open Go.ChangeMaps (open_string shut_string)
set_option linter.unusedVariables false
theorem own : ownKnob Try.prog.godebug = none := by kernel_rfl
theorem laidOut : laidOutB Try.prog = true := by kernel_rfl
set_option maxRecDepth 100000 in
theorem opn_entS {H : Type} {enc : TypeId × Value → H} {W : World} {base : Nat} {spare : Nat → Bool} {held : Bool} {fuel : Nat} {cs : List Value} {x : DataW H × List MemPlace}
    (h : DataW.trod enc Try.prog W base spare held fuel 81 cs = some x) : ∃ a0 a1 : Int, cs = [.int .u64 a0, .int .u32 a1] ∧ (Lit.int .u64 a0).wf = true ∧ (Lit.int .u32 a1).wf = true := by
  obtain ⟨xs, n, rfl, rfl, hlen, hxl, hf⟩ := DataW.trod_struct Try.underlying81 h
  have hl : cs.length = 2 := hlen.trans (by kernel_rfl)
  have hx : xs.length = 2 := hxl.trans (by rfl)
  obtain ⟨c0, c1, rfl⟩ : ∃ c0 c1, cs = [c0, c1] := by
    rcases cs with _ | ⟨c0, _ | ⟨c1, _ | ⟨_, _⟩⟩⟩
    all_goals first | (simp at hl; done) | exact ⟨_, _, rfl⟩
  obtain ⟨y0, e0⟩ := Row.get_lt (i := 0) hx (by omega)
  have h0 := hf 0 _ rfl
  rw [e0] at h0
  obtain ⟨a0, k0, w0⟩ := (Row.Opn.int Try.underlying39).opn h0
  obtain ⟨y1, e1⟩ := Row.get_lt (i := 1) hx (by omega)
  have h1 := hf 1 _ rfl
  rw [e1] at h1
  obtain ⟨a1, k1, w1⟩ := (Row.Opn.int Try.underlying47).opn h1
  have k0' : [c0] = [Value.int .u64 a0] := k0
  have k1' : [c1] = [Value.int .u32 a1] := k1
  injection k0' with k0' _
  injection k1' with k1' _
  exact ⟨a0, a1, by rw [k0', k1'], w0, w1⟩
set_option maxRecDepth 100000 in
theorem lifted (os : Os) (started : os.Started) (H : Type) (enc : TypeId × Value → H) :
    ReturnsInHanded {} Try.checked os 10 .any (Rows.tableOrderSpec.pre6 enc Try.prog Try.f10 Rows.tableOrderRow.domain false) (Rows.tableOrderSpec.post enc Try.prog Try.f10 false true false false) := by
  refine returnsInHanded_of_change_sized (C := Try.checked) own started (by kernel_rfl) Try.func10
    (ChangeSpec.witness6 (enc := enc) (C := Try.checked) false ⟨#[], #[.agg #[.int .u64 0, .int .u32 0], .agg #[.int .u64 0, .int .u32 0], .agg #[.int .u64 0, .int .u32 0]], []⟩ 8 (by kernel_rfl) (by kernel_rfl) (by kernel_rfl) (by kernel_rfl)) ?_
  intro W base args ds gs before hval0 hW hcnd hsz0 _
  have hsz : (DataW.weightsEach Try.prog (Try.f10.params.toList ++ Rows.tableOrderSpec.plain.varTypes Try.prog) (ds ++ gs)).all (· ≤ reachBytes) = true := hsz0
  have hval : ∀ (j : Nat) t v, Try.f10.params[j]? = some t → args[j]? = some v → Value.okWide Try.prog W .any base t v := hval0
  have hW' := hW
  obtain ⟨p, q, hA0, hV, rfl, hfz, hnd⟩ := hW
  have hA : DataW.TrodAll enc Try.prog W 0 (fun _ => true) true Try.f10.params.toList args.toList ds p := hA0
  rw [Try.params10] at hA hval hsz
  obtain ⟨v0, vs0, d0, ds0, p0, q0, hargs, rfl, rfl, h0, r0⟩ := trodAll_cons hA
  obtain ⟨v1, vs1, d1, ds1, p1, q1, rfl, rfl, rfl, h1, r1⟩ := trodAll_cons r0
  obtain ⟨v2, vs2, d2, ds2, p2, q2, rfl, rfl, rfl, h2, r2⟩ := trodAll_cons r1
  obtain ⟨rfl, rfl, rfl⟩ := trodAll_nil r2
  obtain rfl : args = #[v0, v1, v2] := by cases args; simp_all
  obtain ⟨rfl, rfl⟩ := trodVars_none hV
  obtain ⟨cs0, rfl, hcs0⟩ := okWide_struct Try.underlying81 (hval 0 81 v0 rfl rfl)
  have k0 := h0
  have lt0 : ∀ x ∈ p0, x.block < W.heap.size := by obtain ⟨m, hm⟩ := k0; exact DataW.trod_lt m _ _ _ hm
  obtain ⟨fu0, hf0⟩ := h0
  obtain ⟨a0, d0_1, hk0, w0, x0⟩ := opn_entS hf0
  have he0 : cs0.toList = [.int .u64 a0, .int .u32 d0_1] := hk0
  obtain rfl : cs0 = #[.int .u64 a0, .int .u32 d0_1] := Array.toList_inj.1 he0
  obtain ⟨cs1, rfl, hcs1⟩ := okWide_struct Try.underlying81 (hval 1 81 v1 rfl rfl)
  have k1 := h1
  have lt1 : ∀ x ∈ p1, x.block < W.heap.size := by obtain ⟨m, hm⟩ := k1; exact DataW.trod_lt m _ _ _ hm
  obtain ⟨fu1, hf1⟩ := h1
  obtain ⟨a1, d1_1, hk1, w1, x1⟩ := opn_entS hf1
  have he1 : cs1.toList = [.int .u64 a1, .int .u32 d1_1] := hk1
  obtain rfl : cs1 = #[.int .u64 a1, .int .u32 d1_1] := Array.toList_inj.1 he1
  obtain ⟨cs2, rfl, hcs2⟩ := okWide_struct Try.underlying81 (hval 2 81 v2 rfl rfl)
  have k2 := h2
  have lt2 : ∀ x ∈ p2, x.block < W.heap.size := by obtain ⟨m, hm⟩ := k2; exact DataW.trod_lt m _ _ _ hm
  obtain ⟨fu2, hf2⟩ := h2
  obtain ⟨a2, d2_1, hk2, w2, x2⟩ := opn_entS hf2
  have he2 : cs2.toList = [.int .u64 a2, .int .u32 d2_1] := hk2
  obtain rfl : cs2 = #[.int .u64 a2, .int .u32 d2_1] := Array.toList_inj.1 he2
  clear hA0 hval0 hsz0 hsz
  refine (tableOrder_call a0 d0_1 a1 d1_1 a2 d2_1 W).mono fun e W' ⟨he, hd⟩ => ?_
  have bel : Below W.heap.size W W' := hd
  subst he
  exact ⟨_, rfl, _, _, _, [], _, [], hW', trodAll_mk1 (shut_bool Try.underlying4 _), (trodAll_cons_mk (Below.trod laidOut (by kernel_rfl) (of_decide_eq_true (by kernel_rfl)) k0 bel lt0) (trodAll_cons_mk (Below.trod laidOut (by kernel_rfl) (of_decide_eq_true (by kernel_rfl)) k1 bel lt1) (trodAll_cons_mk (Below.trod laidOut (by kernel_rfl) (of_decide_eq_true (by kernel_rfl)) k2 bel lt2) trodAll_mk0))), rfl, bel.frame _, fun h => by cases h⟩
theorem over : Rows.tableOrderRow.holds Try.pinned (OpenSpec.ofChange Rows.tableOrderSpec) :=
  OpenClaim.holds_of_wide 10 Try.f10 rfl rfl rfl rfl rfl rfl rfl ⟨rfl, rfl, rfl, rfl, rfl⟩ rfl rfl rfl rfl rfl (by kernel_rfl) Try.func10 (by kernel_rfl)
    (of_decide_eq_true (by kernel_rfl)) (by unfold Func.isWrapper; first | (rw [if_pos (by decide +kernel)]; kernel_rfl) | (rw [if_neg (by decide +kernel)]; exact ⟨rfl, rfl⟩))
    (fun os started H enc _ => lifted os started H enc)
theorem proved : Rows.TableOrderSaid := over
#print axioms proved
end Go.Proofs.Ytnmdckgaljldhaa.tableOrder
namespace Go.Proofs.Ytnmdckgaljldhaa
/-- The row, under a short name, for the claim. -/
theorem tableOrder_holds : Rows.TableOrderSaid := tableOrder.proved
end Go.Proofs.Ytnmdckgaljldhaa
