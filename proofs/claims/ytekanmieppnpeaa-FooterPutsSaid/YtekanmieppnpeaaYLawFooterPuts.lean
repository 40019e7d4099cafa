/- Written by gprint.py (the kit's print.py with contracts of my own taken as given) -/
import Derived.Test.YtekanmieppnpeaaY6
import Derived.Test.YtekanmieppnpeaaRows
import Derived.ProofKit
import Derived.ShutString
import Derived.ChangeOld
set_option linter.unusedVariables false
set_option linter.unusedSimpArgs false
namespace Go.Proofs.Ytekanmieppnpeaa.footerPuts
open Go.ChangeShapes Go.WideShapes Go.ChangeAt Go.RowKit Go.Proofs.YtekanmieppnpeaaW.PrintWords Go.Proofs.YtekanmieppnpeaaW.PrintLast Go.Proofs.YtekanmieppnpeaaW.PrintMore Go.Proofs.Ytekanmieppnpeaa.G
open Go.ChangeMaps (open_string shut_string)
theorem own : ownKnob Try.prog.godebug = none := by kernel_rfl
theorem laidOut : laidOutB Try.prog = true := by kernel_rfl
set_option maxRecDepth 100000 in
theorem opn_k33 : Row.Opn Try.prog 33 k33 (fun x => ((Lit.int .u64 x.f0).wf = true) ∧ ((Lit.int .u32 x.f1).wf = true)) := ⟨fun {H enc W base spare held fuel cs x} h => by
  obtain ⟨xs, n, rfl, rfl, hlen, hxl, hf⟩ := DataW.trod_struct Try.underlying33 h
  have hl : cs.length = 2 := hlen.trans (by kernel_rfl)
  have hx : xs.length = 2 := hxl.trans (by rfl)
  obtain ⟨c0, c1, rfl⟩ : ∃ c0 c1, cs = [c0, c1] := by
    rcases cs with _ | ⟨c0, _ | ⟨c1, _ | ⟨_, _⟩⟩⟩
    all_goals first | (simp at hl; done) | exact ⟨_, _, rfl⟩
  obtain ⟨y0, e0⟩ := Row.get_lt (i := 0) hx (by omega)
  have h0 := hf 0 _ rfl
  rw [e0] at h0
  obtain ⟨a0, k0, w0⟩ := ((Row.Opn.int Try.underlying30)).opn h0
  obtain ⟨y1, e1⟩ := Row.get_lt (i := 1) hx (by omega)
  have h1 := hf 1 _ rfl
  rw [e1] at h1
  obtain ⟨a1, k1, w1⟩ := ((Row.Opn.int Try.underlying26)).opn h1
  refine ⟨⟨a0, a1⟩, ?_, w0, w1⟩
  have g0 : (Kd.int .u64).K W a0 [c0] := k0
  have g1 : (Kd.int .u32).K W a1 [c1] := k1
  exact ⟨[c0], [c1], rfl, g0, g1⟩⟩
set_option maxRecDepth 100000 in
theorem opn_k29 : Row.Opn Try.prog 29 k29 (fun x => ((Lit.int .u32 x.f0).wf = true) ∧ (x.f1.length ≤ 9223372036854775807 ∧ ∀ y ∈ x.f1, (((Lit.int .u64 y.f0).wf = true) ∧ ((Lit.int .u32 y.f1).wf = true)))) := ⟨fun {H enc W base spare held fuel cs x} h => by
  obtain ⟨xs, n, rfl, rfl, hlen, hxl, hf⟩ := DataW.trod_struct Try.underlying29 h
  have hl : cs.length = 2 := hlen.trans (by kernel_rfl)
  have hx : xs.length = 2 := hxl.trans (by rfl)
  obtain ⟨c0, c1, rfl⟩ : ∃ c0 c1, cs = [c0, c1] := by
    rcases cs with _ | ⟨c0, _ | ⟨c1, _ | ⟨_, _⟩⟩⟩
    all_goals first | (simp at hl; done) | exact ⟨_, _, rfl⟩
  obtain ⟨y0, e0⟩ := Row.get_lt (i := 0) hx (by omega)
  have h0 := hf 0 _ rfl
  rw [e0] at h0
  obtain ⟨a0, k0, w0⟩ := ((Row.Opn.int Try.underlying26)).opn h0
  obtain ⟨y1, e1⟩ := Row.get_lt (i := 1) hx (by omega)
  have h1 := hf 1 _ rfl
  rw [e1] at h1
  obtain ⟨a1, k1, w1⟩ := ((Row.Opn.slice Try.underlying27 opn_k33 (by kernel_rfl))).opn h1
  refine ⟨⟨a0, a1⟩, ?_, w0, w1⟩
  have g0 : (Kd.int .u32).K W a0 [c0] := k0
  have g1 : (Kd.slice 33 k33).K W a1 [c1] := k1
  exact ⟨[c0], [c1], rfl, g0, g1⟩⟩
set_option maxRecDepth 100000 in
theorem lifted (os : Os) (started : os.Started) (H : Type) (enc : TypeId × Value → H) :
    ReturnsInHanded {} Try.checked os 11 .any (Rows.footerPutsSpec.pre6 enc Try.prog Try.f11 Rows.footerPutsRow.domain false) (Rows.footerPutsSpec.post enc Try.prog Try.f11 false true false false) := by
  refine returnsInHanded_of_change_sized (C := Try.checked) own started (by kernel_rfl) Try.func11
    (ChangeSpec.witness6 (enc := enc) (C := Try.checked) false ⟨#[], #[.agg #[.int .u32 0, .slice none 0 0]], []⟩ 8 (by kernel_rfl) (by kernel_rfl) (by kernel_rfl) (by kernel_rfl)) ?_
  intro W base args ds gs before hval0 hW hcnd hsz0 _
  have hsz : (DataW.weightsEach Try.prog (Try.f11.params.toList ++ Rows.footerPutsSpec.plain.varTypes Try.prog) (ds ++ gs)).all (· ≤ reachBytes) = true := hsz0
  have hval : ∀ (j : Nat) t v, Try.f11.params[j]? = some t → args[j]? = some v → Value.okWide Try.prog W .any base t v := hval0
  have hW' := hW
  obtain ⟨p, q, hA0, hV, rfl, hfz, hnd⟩ := hW
  have hA : DataW.TrodAll enc Try.prog W 0 (fun _ => true) true Try.f11.params.toList args.toList ds p := hA0
  rw [Try.params11] at hA hval hsz
  obtain ⟨v0, vs0, d0, ds0, p0, q0, hargs, rfl, rfl, h0, r0⟩ := trodAll_cons hA
  obtain ⟨rfl, rfl, rfl⟩ := trodAll_nil r0
  obtain rfl : args = #[v0] := by cases args; simp_all
  obtain ⟨rfl, rfl⟩ := trodVars_none hV
  obtain ⟨cs0, rfl, hcs0⟩ := okWide_struct Try.underlying29 (hval 0 29 v0 rfl rfl)
  have k0 := h0
  have lt0 : ∀ x ∈ p0, x.block < W.heap.size := by obtain ⟨m, hm⟩ := k0; exact DataW.trod_lt m _ _ _ hm
  obtain ⟨fu0, hf0⟩ := h0
  obtain ⟨x0, hk0, w0⟩ := opn_k29.opn hf0
  obtain ⟨A0_1, c0_1, he0, hc0_1, hr0_1⟩ := k29_open hk0
  obtain rfl : cs0 = #[.int .u32 x0.f0, .slice A0_1 x0.f1.length c0_1] := Array.toList_inj.1 he0
  obtain ⟨w0_0, w0_1⟩ := w0
  clear hA0 hval0 hsz0 hsz
  obtain ⟨k, hP⟩ := Pure.FooterPuts _ _ w0_0 w0_1.1 w0_1.2
  refine (fasciclelaw13_FooterPuts.calls k _ A0_1 c0_1 _ true W hr0_1 hc0_1 hP).mono fun e W' ⟨he, hd⟩ => ?_
  have bel : Below W.heap.size W W' := hd
  subst he
  exact ⟨_, rfl, _, _, _, [], _, [], hW', trodAll_mk1 (shut_bool Try.underlying4 _), (trodAll_cons_mk (Below.trod laidOut (by kernel_rfl) (of_decide_eq_true (by kernel_rfl)) k0 bel lt0) trodAll_mk0), rfl, bel.frame _, fun h => by cases h⟩
theorem over : Rows.footerPutsRow.holds Try.pinned (OpenSpec.ofChange Rows.footerPutsSpec) :=
  OpenClaim.holds_of_wide 11 Try.f11 rfl rfl rfl rfl rfl rfl rfl ⟨rfl, rfl, rfl, rfl, rfl⟩ rfl rfl rfl rfl rfl (by kernel_rfl) Try.func11 (by kernel_rfl)
    (of_decide_eq_true (by kernel_rfl)) (by unfold Func.isWrapper; first | (rw [if_pos (by decide +kernel)]; kernel_rfl) | (rw [if_neg (by decide +kernel)]; exact ⟨rfl, rfl⟩))
    (fun os started H enc _ => lifted os started H enc)
theorem proved : Rows.FooterPutsSaid := over
end Go.Proofs.Ytekanmieppnpeaa.footerPuts
namespace Go.Proofs.Ytekanmieppnpeaa
theorem footerPuts_holds : Rows.FooterPutsSaid := footerPuts.proved
end Go.Proofs.Ytekanmieppnpeaa
