-- Written by flaw.py (a law walked by hand)
import Derived.Test.YtekanmieppnpeaaRows
import Derived.Test.YtekanmieppnpeaaHFootMade
import Derived.Test.YtekanmieppnpeaaHRow
import Derived.WalkKit
import Derived.ProofKit
import Derived.OpenShut
import Derived.ShutString
import Derived.ChangeOld
import Derived.Below
import Derived.SizedLaws
import Derived.Laws.Cover2
namespace Go.Proofs.Ytekanmieppnpeaa.footerMade
open Go.ChangeShapes Go.WideShapes Go.ChangeAt Go.RowKit Go.Proofs.Ytekanmieppnpeaa.Fw
open Go.Proofs.YtekanmieppnpeaaW.PrintWords Go.Proofs.YtekanmieppnpeaaW.PrintLast Go.Proofs.YtekanmieppnpeaaW.PrintMore Go.Proofs.Ytekanmieppnpeaa.G
open Go.ChangeMaps (open_string shut_string)
set_option linter.unusedVariables false
theorem own : ownKnob Try.prog.godebug = none := by kernel_rfl
theorem laidOut : laidOutB Try.prog = true := by kernel_rfl
set_option maxRecDepth 100000 in
theorem opn_ent : Row.Opn Try.prog 33 k33 (fun x => ((Lit.int .u64 x.f0).wf = true) ∧ ((Lit.int .u32 x.f1).wf = true)) := ⟨fun {H enc W base spare held fuel cs x} h => by
  obtain ⟨xs, n, rfl, rfl, hlen, hxl, hf⟩ := DataW.trod_struct Try.underlying33 h
  have hl : cs.length = 2 := hlen.trans (by kernel_rfl)
  have hx : xs.length = 2 := hxl.trans (by rfl)
  obtain ⟨c0, c1, rfl⟩ : ∃ c0 c1, cs = [c0, c1] := by
    rcases cs with _ | ⟨c0, _ | ⟨c1, _ | ⟨_, _⟩⟩⟩
    all_goals first | (simp at hl; done) | exact ⟨_, _, rfl⟩
  obtain ⟨y0, e0⟩ := Row.get_lt (i := 0) hx (by omega)
  have h0 := hf 0 _ rfl
  rw [e0] at h0
  obtain ⟨a0, k0, w0⟩ := ((Row.Opn.int Try.underlying30)).opn h0
  obtain ⟨y1, e1⟩ := Row.get_lt (i := 1) hx (by omega)
  have h1 := hf 1 _ rfl
  rw [e1] at h1
  obtain ⟨a1, k1, w1⟩ := ((Row.Opn.int Try.underlying26)).opn h1
  refine ⟨⟨a0, a1⟩, ?_, w0, w1⟩
  have g0 : (Kd.int .u64).K W a0 [c0] := k0
  have g1 : (Kd.int .u32).K W a1 [c1] := k1
  exact ⟨[c0], [c1], rfl, g0, g1⟩⟩
set_option maxRecDepth 100000 in
theorem lifted (os : Os) (started : os.Started) (H : Type) (enc : TypeId × Value → H) :
    ReturnsInHanded {} Try.checked os 12 .any (Rows.footerMadeSpec.pre6 enc Try.prog Try.f12 Rows.footerMadeRow.domain false) (Rows.footerMadeSpec.post enc Try.prog Try.f12 false true false false) := by
  refine returnsInHanded_of_change_sized (C := Try.checked) own started (by kernel_rfl) Try.func12
    (ChangeSpec.witness6 (enc := enc) (C := Try.checked) false ⟨#[], #[.slice none 0 0], []⟩ 8 (by kernel_rfl) (by kernel_rfl) (by kernel_rfl) (by kernel_rfl)) ?_
  intro W base args ds gs before hval0 hW hcnd hsz0 _
  have hsz : (DataW.weightsEach Try.prog (Try.f12.params.toList ++ Rows.footerMadeSpec.plain.varTypes Try.prog) (ds ++ gs)).all (· ≤ reachBytes) = true := hsz0
  have hval : ∀ (j : Nat) t v, Try.f12.params[j]? = some t → args[j]? = some v → Value.okWide Try.prog W .any base t v := hval0
  have hW' := hW
  obtain ⟨p, q, hA0, hV, rfl, hfz, hnd⟩ := hW
  have hA : DataW.TrodAll enc Try.prog W 0 (fun _ => true) true Try.f12.params.toList args.toList ds p := hA0
  rw [Try.params12] at hA hval hsz
  obtain ⟨v0, vs0, d0, ds0, p0, q0, hargs, rfl, rfl, h0, r0⟩ := trodAll_cons hA
  obtain ⟨rfl, rfl, rfl⟩ := trodAll_nil r0
  obtain rfl : args = #[v0] := by cases args; simp_all
  obtain ⟨rfl, rfl⟩ := trodVars_none hV
  obtain ⟨b0, len0, cap0, rfl⟩ := okWide_slice Try.underlying27 (hval 0 27 v0 rfl rfl)
  have k0 := h0
  have lt0 : ∀ x ∈ p0, x.block < W.heap.size := by obtain ⟨m, hm⟩ := k0; exact DataW.trod_lt m _ _ _ hm
  obtain ⟨l0, rfl, hc0, hr0, hm0, y0, w0⟩ := Row.open_top (t := 27) opn_ent Try.underlying27 (by kernel_rfl) (j := 0) hsz rfl rfl (B := 16) (by kernel_rfl) h0
  clear hA0 hval0 hsz0 hsz
  refine (footerMade_call b0 cap0 l0 w0 W hr0 hc0).mono fun e W' ⟨he, hd⟩ => ?_
  have bel : Below W.heap.size W W' := hd
  subst he
  exact ⟨_, rfl, _, _, _, [], _, [], hW', trodAll_mk1 (shut_bool Try.underlying4 _), (trodAll_cons_mk (Below.trod laidOut (by kernel_rfl) (of_decide_eq_true (by kernel_rfl)) k0 bel lt0) trodAll_mk0), rfl, bel.frame _, fun h => by cases h⟩
theorem over : Rows.footerMadeRow.holds Try.pinned (OpenSpec.ofChange Rows.footerMadeSpec) :=
  OpenClaim.holds_of_wide 12 Try.f12 rfl rfl rfl rfl rfl rfl rfl ⟨rfl, rfl, rfl, rfl, rfl⟩ rfl rfl rfl rfl rfl (by kernel_rfl) Try.func12 (by kernel_rfl)
    (of_decide_eq_true (by kernel_rfl)) (by unfold Func.isWrapper; first | (rw [if_pos (by decide +kernel)]; kernel_rfl) | (rw [if_neg (by decide +kernel)]; exact ⟨rfl, rfl⟩))
    (fun os started H enc _ => lifted os started H enc)
theorem proved : Rows.FooterMadeSaid := over
#print axioms proved
end Go.Proofs.Ytekanmieppnpeaa.footerMade
namespace Go.Proofs.Ytekanmieppnpeaa
/-- The row, under a short name, for the claim. -/
theorem footerMade_holds : Rows.FooterMadeSaid := footerMade.proved
end Go.Proofs.Ytekanmieppnpeaa
