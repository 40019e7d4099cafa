/- fasciclelaw10.ElderRows holds: pairs are put, one behind the other, and got again; for every input, no condition. -/
import Derived.Test.YtmlodmpkcbncjaaGx6
import Derived.Test.YtmlodmpkcbncjaaLElderFew
set_option linter.unusedVariables false
set_option linter.unusedSimpArgs false
namespace Go.Proofs.Ytmlodmpkcbncjaa.Pure
open Go Go.RowKit Go.Proofs.Ytmlodmpkcbncjaa.G Go.Proofs.YtmlodmpkcbncjaaW.PrintWords Go.Proofs.YtmlodmpkcbncjaaW.PrintLast Go.Proofs.Ytmlodmpkcbncjaa.PureKit Go.Proofs.Ytmlodmpkcbncjaa.Sep Go.Proofs.Ytmlodmpkcbncjaa.Rol

theorem refcheckR (K V : ByteArray) : fascicleref10_Check.f K V = some (echeck K V) := by
  have hz : (K.toList = ([] : List UInt8)) ↔ K.size = 0 := by
    rw [Lib.toList_data]
    rw [show K.size = K.data.toList.length from by rw [Array.length_toList]; rfl]
    exact List.length_eq_zero_iff.symm
  unfold fascicleref10_Check.f echeck
  by_cases h0 : K.size = 0
  · rw [if_pos h0]
    first
      | rw [if_pos (hz.2 h0)]
      | (simp [hz.2 h0])
  rw [if_neg h0]
  have h0' : ¬ K.toList = ([] : List UInt8) := fun h => h0 (hz.1 h)
  by_cases h1 : K.size > 4096
  · rw [if_pos h1]
    first
      | rw [if_neg h0', if_pos (by omega)]
      | (simp [h0']; omega)
  rw [if_neg h1]
  by_cases h2 : V.size > 1048576
  · rw [if_pos h2]
    first
      | rw [if_neg h0', if_neg (by omega), if_pos (by omega)]
      | (simp [h0']; omega)
  · rw [if_neg h2]
    first
      | rw [if_neg h0', if_neg (by omega), if_neg (by omega)]
      | (simp [h0']; omega)
def want : List EP → Int
  | [] => 0
  | p :: ps => if echeck p.f0 p.f1 = 0 then want ps else echeck p.f0 p.f1
theorem epa_want : ∀ (ps : List EP) (acc : List Int), (epa ps acc).2 = want ps ∧ (want ps ≠ 0 → (epa ps acc).1 = []) ∧ (want ps = 0 → allok ps)
  | [], acc => ⟨rfl, fun h => absurd rfl h, fun _ p hp => by cases hp⟩
  | p :: ps, acc => by
    unfold epa want
    by_cases hc : echeck p.f0 p.f1 = 0
    · rw [if_pos hc, if_pos hc]
      obtain ⟨h1, h2, h3⟩ := epa_want ps (acc ++ ebytes p.f0 p.f1)
      refine ⟨h1, h2, fun h q hq => ?_⟩
      rcases List.mem_cons.1 hq with rfl | hq
      · exact hc
      · exact h3 h q hq
    · rw [if_neg hc, if_neg hc]
      exact ⟨rfl, fun _ => rfl, fun h => absurd h hc⟩
theorem rows_l2 (ps qs : List EP) (e : Int) (hq : qs <+: ps) (hl : ps.length ≤ 20) (he : e = 0 ∨ e = 2) : ∀ (d i : Nat), i + d = qs.length → Ev (fun k => fasciclelaw10_ElderRows.l2 k ps qs e (qs.length : Int) (i : Int)) true
  | 0, i, h => by
    refine Ev.step (f := fun _ => some true) (fun k => ?_) (Ev.now _)
    simp only [fasciclelaw10_ElderRows.l2]
    rw [if_neg (by omega)]
    rcases he with rfl | rfl
    · rw [if_pos rfl]
    · rw [if_neg (by decide)]; rfl
  | d + 1, i, h => by
    have hin : i < qs.length := by omega
    have hle := hq.length_le
    have hip : i < ps.length := by omega
    have heq : qs[i] = ps[i] := hq.getElem hin
    refine Ev.step (f := fun k => fasciclelaw10_ElderRows.l2 k ps qs e (qs.length : Int) ((i + 1 : Nat) : Int)) (fun k => ?_) (rows_l2 ps qs e hq hl he d (i + 1) (by omega))
    simp only [fasciclelaw10_ElderRows.l2]
    rw [if_pos (by omega), if_pos (by omega), if_pos (by omega), if_pos (by omega), rd_ep qs i hin, rd_ep ps i hip, heq, if_neg (by simp), w64 (by omega) (by omega)]
    rfl
theorem rows_part (ps : List EP) (a1 : Int) (hp : allok ps) (hl : ps.length ≤ 20) (h0 : 0 ≤ a1) (h1 : a1 < 65536) :
    ∃ (m : Nat) (qs : List EP) (n : Nat) (e : Int), Int.tmod (wrap64 a1) (wrap64 (((flat ps).length : Int) + 1)) = (m : Int) ∧ m ≤ (flat ps).length ∧ wrap64 (((flat ps).length : Int) + 1) ≠ 0 ∧
      elder_GetAll.f ((flat ps).take m) = some (qs, (n : Int), e) ∧ qs <+: ps ∧ n ≤ m ∧ (e = 0 ↔ n = m) ∧ (e = 0 ∨ e = 2) := by
  have hf := flat_len ps hp
  obtain ⟨L, hL⟩ : ∃ L, (flat ps).length = L := ⟨_, rfl⟩
  obtain ⟨a, rfl⟩ : ∃ a : Nat, a1 = a := ⟨a1.toNat, by omega⟩
  have hml : a % (L + 1) ≤ L := Nat.le_of_lt_succ (Nat.mod_lt _ (by omega))
  rw [hL] at hf ⊢
  have hlen : ((flat ps).take (a % (L + 1))).length = a % (L + 1) := by rw [List.length_take, hL]; omega
  obtain ⟨qs, n, e, g1, g2, g3, g4, g5⟩ := gall_cut ((flat ps).take (a % (L + 1))) ps (a % (L + 1)) 0 (a % (L + 1)) hp (Nat.zero_le _) (by omega) (by rw [List.drop_zero])
  have hget := getall_f ((flat ps).take (a % (L + 1))) ((flat_bytes ps).take _) (by omega)
  rw [hlen, g1] at hget
  rw [hlen] at g3 g4
  refine ⟨a % (L + 1), qs, n, e, ?_, hml, ?_, hget, g2, g3, g4, g5⟩
  · rw [w64 (by omega) (by omega), w64 (by omega) (by omega), Int.tmod_eq_emod_of_nonneg (by omega)]
    rw [show ((L : Int) + 1) = ((L + 1 : Nat) : Int) by omega, ← Int.natCast_emod]
  · rw [w64 (by omega) (by omega)]
    omega
theorem rows_l1 (ps : List EP) (a1 : Int) (hp : allok ps) (hl : ps.length ≤ 20) (h0 : 0 ≤ a1) (h1 : a1 < 65536) : ∀ (d i : Nat), i + d = ps.length → Ev (fun k => fasciclelaw10_ElderRows.l1 k ps a1 (flat ps) ps (ps.length : Int) (i : Int)) true
  | 0, i, h => by
    obtain ⟨m, qs, n, e, r1, r2, r3, r4, r5, r6, r7, r8⟩ := rows_part ps a1 hp hl h0 h1
    have hle := r5.length_le
    have hb : ((e == 0) != ((n : Int) == (m : Int))) = false := by
      by_cases c : e = 0
      · rw [c, r7.1 c]; simp
      · have c2 : ¬ n = m := fun h => c (r7.2 h)
        rw [beq_eq_false_iff_ne.2 c, beq_eq_false_iff_ne.2 (show ¬ (n : Int) = (m : Int) by omega)]
        rfl
    refine Ev.step (f := fun k => fasciclelaw10_ElderRows.j4 k ps qs e false) (fun k => ?_) (Ev.step (f := fun k => fasciclelaw10_ElderRows.l2 k ps qs e (qs.length : Int) ((0 : Nat) : Int)) (fun k => ?_) (rows_l2 ps qs e r5 hl r8 qs.length 0 (by omega)))
    · simp only [fasciclelaw10_ElderRows.l1]
      rw [if_neg (by omega), r1, if_neg r3, if_pos (by omega), if_pos (by omega), Int.toNat_natCast, r4]
      simp only [Option.bind_some]
      rw [if_neg (by omega), if_neg (by omega), hb]
    · simp only [fasciclelaw10_ElderRows.j4]
      rw [if_neg (by decide)]
      rfl
  | d + 1, i, h => by
    have hin : i < ps.length := by omega
    refine Ev.step (f := fun k => fasciclelaw10_ElderRows.l1 k ps a1 (flat ps) ps (ps.length : Int) ((i + 1 : Nat) : Int)) (fun k => ?_) (rows_l1 ps a1 hp hl h0 h1 d (i + 1) (by omega))
    simp only [fasciclelaw10_ElderRows.l1]
    rw [if_pos (by omega), if_pos (by omega), if_pos (by omega), if_pos (by omega), rd_ep ps i hin, if_neg (by simp), w64 (by omega) (by omega)]
    rfl
theorem rows_l0 (ps : List EP) (a1 : Int) (hok : eok ps = true) (hl : ps.length ≤ 20) (h0 : 0 ≤ a1) (h1 : a1 < 65536) : ∀ (d i : Nat) (x : Int), i + d = ps.length → want ps = (if x = 0 then want (ps.drop i) else x) → Ev (fun k => fasciclelaw10_ElderRows.l0 k ps a1 x ps (ps.length : Int) (i : Int)) true
  | 0, i, x, h, hx => by
    have hwx : want ps = x := by
      rw [hx]
      split
      · rename_i hz
        rw [hz, List.drop_eq_nil_of_le (by omega)]
        rfl
      · rfl
    have e1 : elder_PutAll.f ps = some (epa ps []) := by unfold elder_PutAll.f; rw [if_pos ⟨by omega, hok⟩]
    obtain ⟨w1, w2, w3⟩ := epa_want ps []
    by_cases hw : want ps = 0
    · have ha := w3 hw
      have hx0 : x = 0 := by omega
      subst hx0
      rw [epa_ok ps [] ha, List.nil_append] at e1
      have hfl := flat_len ps ha
      have hget := getall_f (flat ps) (flat_bytes ps) (by omega)
      rw [gall_flat (flat ps) ps _ 0 ha (Nat.zero_le _) (by omega) (by rw [List.drop_zero])] at hget
      dsimp only at hget
      refine Ev.step (f := fun k => fasciclelaw10_ElderRows.j2 k ps a1 (flat ps) ps false) (fun k => ?_) (Ev.step (f := fun k => fasciclelaw10_ElderRows.l1 k ps a1 (flat ps) ps (ps.length : Int) ((0 : Nat) : Int)) (fun k => ?_) (rows_l1 ps a1 ha hl h0 h1 ps.length 0 (by omega)))
      · simp only [fasciclelaw10_ElderRows.l0]
        rw [if_neg (by omega), e1, Option.bind_some, if_pos rfl, if_pos rfl, hget, Option.bind_some, if_pos rfl, if_pos rfl]
        rw [show (((ps.length : Int)) != (ps.length : Int)) = false from bne_self_eq_false _]
      · simp only [fasciclelaw10_ElderRows.j2]
        rw [if_neg (by decide)]
        rfl
    · refine Ev.step (f := fun _ => some true) (fun k => ?_) (Ev.now _)
      simp only [fasciclelaw10_ElderRows.l0]
      rw [if_neg (by omega), e1, Option.bind_some, if_pos (by rw [w1, hwx]), if_neg (by rw [w1]; exact hw), w2 hw]
      rfl
  | d + 1, i, x, h, hx => by
    have hin : i < ps.length := by omega
    have hdr : ps.drop i = ps[i] :: ps.drop (i + 1) := List.drop_eq_getElem_cons hin
    by_cases hz : x = 0
    · subst hz
      rw [if_pos rfl, hdr, want] at hx
      refine Ev.step (f := fun k => fasciclelaw10_ElderRows.l0 k ps a1 (echeck ps[i].f0 ps[i].f1) ps (ps.length : Int) ((i + 1 : Nat) : Int)) (fun k => ?_) (rows_l0 ps a1 hok hl h0 h1 d (i + 1) _ (by omega) hx)
      simp only [fasciclelaw10_ElderRows.l0]
      rw [if_pos (by omega), if_pos (by omega), if_pos (by omega), if_true, rd_ep ps i hin, refcheckR, Option.bind_some, w64 (by omega) (by omega)]
      rfl
    · refine Ev.step (f := fun k => fasciclelaw10_ElderRows.l0 k ps a1 x ps (ps.length : Int) ((i + 1 : Nat) : Int)) (fun k => ?_) (rows_l0 ps a1 hok hl h0 h1 d (i + 1) x (by omega) (by rw [if_neg hz] at hx ⊢; exact hx))
      simp only [fasciclelaw10_ElderRows.l0]
      rw [if_pos (by omega), if_pos (by omega), if_pos (by omega), if_neg hz, w64 (by omega) (by omega)]
      rfl
theorem rows_true (ps : List EP) (a1 : Int) : Ev (fun k => fasciclelaw10_ElderRows.j0 k ps a1 true) true := by
  refine Ev.step (f := fun _ => some true) (fun k => ?_) (Ev.now _)
  simp only [fasciclelaw10_ElderRows.j0, if_true]
  rfl
theorem ElderRows : fasciclelaw10_ElderRows.Pure := by
  intro ps a1 _ _ hps hw
  have hw2 : 0 ≤ a1 ∧ a1 < 65536 := by
    have := hw
    simp [Lit.wf] at this
    rw [show IntKind.u16.min = 0 by decide, show IntKind.u16.max = 65535 by decide] at this
    omega
  refine rounds_of (r := true) ?_
  unfold fasciclelaw10_ElderRows.f
  obtain ⟨b1, f1, g1⟩ := few_ev ps 20 300 (by omega)
  refine Ev.congr (f := fun k => (fasciclelaw10_Few.f k ps 20 300).bind fun t244 => (fasciclelaw10_ElderRows.j0 k ps a1 (!t244))) (fun k => ?_) ?_
  · show (some true).bind _ = _
    rw [Option.bind_some, if_pos rfl]
  refine Ev.bind f1 ?_
  cases b1 with
  | false => exact rows_true ps a1
  | true =>
    refine Ev.step (f := fun k => fasciclelaw10_ElderRows.l0 k ps a1 0 ps (ps.length : Int) ((0 : Nat) : Int)) (fun k => ?_) (rows_l0 ps a1 (eok_of hps) (by have := g1 rfl; omega) hw2.1 hw2.2 ps.length 0 0 (by omega) (by rw [if_pos rfl, List.drop_zero]))
    simp only [fasciclelaw10_ElderRows.j0]
    rw [if_neg (by decide)]
    rfl

end Go.Proofs.Ytmlodmpkcbncjaa.Pure
