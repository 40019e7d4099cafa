/- Written by gprint.py (the kit's print.py with contracts of my own taken as given) -/
import Derived.Test.YtekanmieppnpeaaX7
import Derived.Test.YtekanmieppnpeaaRows
import Derived.ProofKit
import Derived.ShutString
import Derived.ChangeOld
set_option linter.unusedVariables false
set_option linter.unusedSimpArgs false
set_option maxHeartbeats 16000000
set_option maxRecDepth 100000
namespace Go.Proofs.Ytekanmieppnpeaa.frameRecords
open Go.ChangeShapes Go.WideShapes Go.ChangeAt Go.RowKit Go.Proofs.YtekanmieppnpeaaW.PrintWords Go.Proofs.YtekanmieppnpeaaW.PrintLast Go.Proofs.YtekanmieppnpeaaW.PrintMore Go.Proofs.Ytekanmieppnpeaa.G
open Go.ChangeMaps (open_string shut_string)
theorem own : ownKnob Try.prog.godebug = none := by kernel_rfl
theorem laidOut : laidOutB Try.prog = true := by kernel_rfl
theorem opn_k59 : Row.Opn Try.prog 59 k59 (fun x => (True) ∧ ((Lit.int .u64 x.f1).wf = true) ∧ (x.f2.size ≤ 9223372036854775807) ∧ (x.f3.size ≤ 9223372036854775807)) := ⟨fun {H enc W base spare held fuel cs x} h => by
  obtain ⟨xs, n, rfl, rfl, hlen, hxl, hf⟩ := DataW.trod_struct Try.underlying59 h
  have hl : cs.length = 4 := hlen.trans (by kernel_rfl)
  have hx : xs.length = 4 := hxl.trans (by rfl)
  obtain ⟨c0, c1, c2, c3, rfl⟩ : ∃ c0 c1 c2 c3, cs = [c0, c1, c2, c3] := by
    rcases cs with _ | ⟨c0, _ | ⟨c1, _ | ⟨c2, _ | ⟨c3, _ | ⟨_, _⟩⟩⟩⟩⟩
    all_goals first | (simp at hl; done) | exact ⟨_, _, _, _, rfl⟩
  obtain ⟨y0, e0⟩ := Row.get_lt (i := 0) hx (by omega)
  have h0 := hf 0 _ rfl
  rw [e0] at h0
  obtain ⟨a0, k0, w0⟩ := ((Row.Opn.bool Try.underlying4)).opn h0
  obtain ⟨y1, e1⟩ := Row.get_lt (i := 1) hx (by omega)
  have h1 := hf 1 _ rfl
  rw [e1] at h1
  obtain ⟨a1, k1, w1⟩ := ((Row.Opn.int Try.underlying30)).opn h1
  obtain ⟨y2, e2⟩ := Row.get_lt (i := 2) hx (by omega)
  have h2 := hf 2 _ rfl
  rw [e2] at h2
  obtain ⟨a2, k2, w2⟩ := ((Row.Opn.string Try.underlying9)).opn h2
  obtain ⟨y3, e3⟩ := Row.get_lt (i := 3) hx (by omega)
  have h3 := hf 3 _ rfl
  rw [e3] at h3
  obtain ⟨a3, k3, w3⟩ := ((Row.Opn.string Try.underlying9)).opn h3
  refine ⟨⟨a0, a1, a2, a3⟩, ?_, w0, w1, w2, w3⟩
  have g0 : Kd.bool.K W a0 [c0] := k0
  have g1 : (Kd.int .u64).K W a1 [c1] := k1
  have g2 : Kd.string.K W a2 [c2] := k2
  have g3 : Kd.string.K W a3 [c3] := k3
  exact ⟨[c0], [c1, c2, c3], rfl, g0, ⟨[c1], [c2, c3], rfl, g1, ⟨[c2], [c3], rfl, g2, g3⟩⟩⟩⟩
theorem lifted (os : Os) (started : os.Started) (H : Type) (enc : TypeId × Value → H) :
    ReturnsInHanded {} Try.checked os 9 .any (Rows.frameRecordsSpec.pre6 enc Try.prog Try.f9 Rows.frameRecordsRow.domain false) (Rows.frameRecordsSpec.post enc Try.prog Try.f9 false true false false) := by
  refine returnsInHanded_of_change_sized (C := Try.checked) own started (by kernel_rfl) Try.func9
    (ChangeSpec.witness6 (enc := enc) (C := Try.checked) false ⟨#[], #[.agg #[.bool false, .int .u64 0, .string ByteArray.empty, .string ByteArray.empty], .slice none 0 0], []⟩ 8 (by kernel_rfl) (by kernel_rfl) (by kernel_rfl) (by kernel_rfl)) ?_
  intro W base args ds gs before hval0 hW hcnd hsz0 _
  have hsz : (DataW.weightsEach Try.prog (Try.f9.params.toList ++ Rows.frameRecordsSpec.plain.varTypes Try.prog) (ds ++ gs)).all (· ≤ reachBytes) = true := hsz0
  have hval : ∀ (j : Nat) t v, Try.f9.params[j]? = some t → args[j]? = some v → Value.okWide Try.prog W .any base t v := hval0
  have hW' := hW
  obtain ⟨p, q, hA0, hV, rfl, hfz, hnd⟩ := hW
  have hA : DataW.TrodAll enc Try.prog W 0 (fun _ => true) true Try.f9.params.toList args.toList ds p := hA0
  rw [Try.params9] at hA hval hsz
  obtain ⟨v0, vs0, d0, ds0, p0, q0, hargs, rfl, rfl, h0, r0⟩ := trodAll_cons hA
  obtain ⟨v1, vs1, d1, ds1, p1, q1, rfl, rfl, rfl, h1, r1⟩ := trodAll_cons r0
  obtain ⟨rfl, rfl, rfl⟩ := trodAll_nil r1
  obtain rfl : args = #[v0, v1] := by cases args; simp_all
  obtain ⟨rfl, rfl⟩ := trodVars_none hV
  obtain ⟨cs0, rfl, hcs0⟩ := okWide_struct Try.underlying59 (hval 0 59 v0 rfl rfl)
  have k0 := h0
  have lt0 : ∀ x ∈ p0, x.block < W.heap.size := by obtain ⟨m, hm⟩ := k0; exact DataW.trod_lt m _ _ _ hm
  obtain ⟨fu0, hf0⟩ := h0
  obtain ⟨x0, hk0, w0⟩ := opn_k59.opn hf0
  have he0 := k59_open hk0
  obtain rfl : cs0 = #[.bool x0.f0, .int .u64 x0.f1, .string x0.f2, .string x0.f3] := Array.toList_inj.1 he0
  obtain ⟨w0_0, w0_1, w0_2, w0_3⟩ := w0
  obtain ⟨b1, len1, cap1, rfl⟩ := okWide_slice Try.underlying39 (hval 1 39 v1 rfl rfl)
  have k1 := h1
  have lt1 : ∀ x ∈ p1, x.block < W.heap.size := by obtain ⟨m, hm⟩ := k1; exact DataW.trod_lt m _ _ _ hm
  obtain ⟨l1, rfl, hc1, hr1, hm1, y1, w1⟩ := Row.open_top (t := 39) (Row.Opn.int Try.underlying5) Try.underlying39 (by kernel_rfl) (j := 1) hsz rfl rfl (B := 1) (by kernel_rfl) h1
  clear hA0 hval0 hsz0 hsz
  obtain ⟨k, hP⟩ := Pure.FrameRecords _ _ _ _ _ w0_1 w0_2 w0_3 hm1 y1 w1
  refine (fasciclelaw09_FrameRecords.calls k _ _ _ _ _ _ l1 true W hr1 hc1 hP).mono fun e W' ⟨he, hd⟩ => ?_
  have bel : Below W.heap.size W W' := hd
  subst he
  exact ⟨_, rfl, _, _, _, [], _, [], hW', trodAll_mk1 (shut_bool Try.underlying4 _), (trodAll_cons_mk (Below.trod laidOut (by kernel_rfl) (of_decide_eq_true (by kernel_rfl)) k0 bel lt0) (trodAll_cons_mk (Below.trod laidOut (by kernel_rfl) (of_decide_eq_true (by kernel_rfl)) k1 bel lt1) trodAll_mk0)), rfl, bel.frame _, fun h => by cases h⟩
theorem over : Rows.frameRecordsRow.holds Try.pinned (OpenSpec.ofChange Rows.frameRecordsSpec) :=
  OpenClaim.holds_of_wide 9 Try.f9 rfl rfl rfl rfl rfl rfl rfl ⟨rfl, rfl, rfl, rfl, rfl⟩ rfl rfl rfl rfl rfl (by kernel_rfl) Try.func9 (by kernel_rfl)
    (of_decide_eq_true (by kernel_rfl)) (by unfold Func.isWrapper; first | (rw [if_pos (by decide +kernel)]; kernel_rfl) | (rw [if_neg (by decide +kernel)]; exact ⟨rfl, rfl⟩))
    (fun os started H enc _ => lifted os started H enc)
theorem proved : Rows.FrameRecordsSaid := over
end Go.Proofs.Ytekanmieppnpeaa.frameRecords
namespace Go.Proofs.Ytekanmieppnpeaa
theorem frameRecords_holds : Rows.FrameRecordsSaid := frameRecords.proved
end Go.Proofs.Ytekanmieppnpeaa
