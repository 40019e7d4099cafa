/- fasciclelaw07.RecordBodies holds: any record that may be has the document's body, and is read from it; another one has none; for every input, no condition. -/
import Derived.Test.YtmlodmpkcbncjaaGx8
import Derived.Test.YtmlodmpkcbncjaaLRecord
import Derived.Test.YtmlodmpkcbncjaaHSize
set_option linter.unusedVariables false
set_option linter.unusedSimpArgs false
namespace Go.Proofs.Ytmlodmpkcbncjaa.Pure
open Go Go.RowKit Go.Proofs.Ytmlodmpkcbncjaa.G Go.Proofs.YtmlodmpkcbncjaaW.PrintWords Go.Proofs.YtmlodmpkcbncjaaW.PrintLast Go.Proofs.Ytmlodmpkcbncjaa.PureKit Go.Proofs.Ytmlodmpkcbncjaa.Sep

theorem few_one (d : Bool) (s : Int) (k v : ByteArray) (m : Int) : Ev (fun n => fasciclelaw07_Few.f n [⟨d, s, k, v⟩] 1 m) (decide ((k.size : Int) ≤ m ∧ (v.size : Int) ≤ m)) := by
  unfold fasciclelaw07_Few.f
  refine Ev.step (f := ?ff1) (fun n => ?hs1) ?ht1
  case hs1 =>
    simp only [fasciclelaw07_Few.l0]
    rw [if_pos (by simp), if_pos (by decide), if_pos (by simp)]
    try exact rfl
  have e2 : (rd_T44 [(⟨d, s, k, v⟩ : S44)] 0).f2 = k := rfl
  have e3 : (rd_T44 [(⟨d, s, k, v⟩ : S44)] 0).f3 = v := rfl
  simp only [e2, e3]
  by_cases h2 : (k.size : Int) > m
  · refine Ev.congr (fun n => ?_) (Ev.now _)
    rw [if_pos h2, decide_eq_false (by omega)]
  by_cases h3 : (v.size : Int) > m
  · refine Ev.congr (fun n => ?_) (Ev.now _)
    rw [if_neg h2, if_pos h3, decide_eq_false (by omega)]
  refine Ev.congr (f := fun n => fasciclelaw07_Few.l0 n [⟨d, s, k, v⟩] 1 m [⟨d, s, k, v⟩] 1 1) (fun n => ?_) ?_
  · rw [if_neg h2, if_neg h3, w64 (by decide) (by decide)]
    rfl
  refine Ev.step (f := fun _ => some true) (fun n => ?_) (Ev.congr (fun _ => ?_) (Ev.now _))
  · simp only [fasciclelaw07_Few.l0]
    rw [if_neg (by decide)]
    rfl
  · rw [decide_eq_true ⟨by omega, by omega⟩]
theorem RecordBodies : fasciclelaw07_RecordBodies.Pure := by
  intro d s kk v hs hk hv
  have hs := bounds_u64 hs
  refine rounds_of ?_
  unfold fasciclelaw07_RecordBodies.f
  refine Ev.congr (f := fun n => (fasciclelaw07_Few.f n [⟨d, s, kk, v⟩] 1 5000).bind fun t => fasciclelaw07_RecordBodies.j0 n (!t) d s kk v) (fun n => rfl) ?_
  refine Ev.bind (few_one d s kk v 5000) ?_
  by_cases hf : (kk.size : Int) ≤ 5000 ∧ (v.size : Int) ≤ 5000
  case neg =>
    rw [decide_eq_false hf]
    exact Ev.step (f := fun _ => some true) (fun k => rfl) (Ev.now _)
  rw [decide_eq_true hf]
  have hbd : record_Body.f d s kk v = if rcheck d kk v = 0 then some (rbody d s kk v, 0) else some ([], rcheck d kk v) := by
    unfold record_Body.f
    rw [if_pos (by omega)]
  have hsz : record_Size.f d s kk v = if rcheck d kk v = 0 then some ((rbody d s kk v).length : Int) else some 0 := by
    unfold record_Size.f
    rw [if_pos (by omega)]
  refine Ev.step (f := ?ff1) (fun n => ?hs1) ?ht1
  case hs1 =>
    simp only [fasciclelaw07_RecordBodies.j0]
    rw [if_neg (by decide), hbd]
    try exact rfl
  by_cases hc : rcheck d kk v = 0
  · simp only [if_pos hc, Option.bind_some]
    refine Ev.bind (refcheck d s kk v) ?_
    refine Ev.congr (f := ?ff2) (fun n => ?hs2) ?ht2
    case hs2 =>
      rw [if_pos hc.symm]
      try exact rfl
    refine Ev.bind (progcheck d s kk v) ?_
    refine Ev.step (f := ?ff3) (fun n => ?hs3) ?ht3
    case hs3 =>
      simp only [fasciclelaw07_RecordBodies.j1]
      rw [if_neg (by simp [hc]), if_pos trivial]
      try exact rfl
    have hlen : (rbody d s kk v).length ≤ 1000000 := by
      unfold rbody
      have h1 := venc_len10' s.toNat (by omega)
      have h2 := venc_len10' kk.size (by omega)
      have h3 := venc_len10' v.size (by omega)
      have h4 := sby_len kk
      have h5 := sby_len v
      split <;> simp <;> omega
    have hrd : record_Read.f (rbody d s kk v) = some (d, s, kk, v, 0) := by
      unfold record_Read.f
      rw [if_pos ⟨(bytesb_iff _).2 (rbody_bytes d s kk v), by omega⟩, rread_rbody d s kk v (by omega) (by omega) hc]
      rfl
    simp only [hrd, Option.bind_some]
    refine Ev.bind (refbody d s kk v (by omega) (by omega) (by omega) (by omega)) ?_
    refine Ev.congr (f := fun _ => some true) (fun n => ?_) (Ev.now _)
    rw [if_pos rfl, hsz, if_pos hc]
    simp
  · simp only [if_neg hc, Option.bind_some]
    refine Ev.bind (refcheck d s kk v) ?_
    refine Ev.congr (f := ?ff4) (fun n => ?hs4) ?ht4
    case hs4 =>
      rw [if_pos rfl]
      try exact rfl
    refine Ev.bind (progcheck d s kk v) ?_
    refine Ev.step (f := fun _ => some true) (fun n => ?_) (Ev.now _)
    simp only [fasciclelaw07_RecordBodies.j1]
    rw [if_neg (by simp), if_neg hc, hsz, if_neg hc]
    rfl

end Go.Proofs.Ytmlodmpkcbncjaa.Pure
