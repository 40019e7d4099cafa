/- fasciclelaw10.ElderApart holds: unlike rows of pairs have unlike bytes; for every input, no condition. -/
import Derived.Test.YtmlodmpkcbncjaaGx6
import Derived.Test.YtmlodmpkcbncjaaLElderFew
set_option linter.unusedVariables false
set_option linter.unusedSimpArgs false
namespace Go.Proofs.Ytmlodmpkcbncjaa.Pure
open Go Go.RowKit Go.Proofs.Ytmlodmpkcbncjaa.G Go.Proofs.YtmlodmpkcbncjaaW.PrintWords Go.Proofs.YtmlodmpkcbncjaaW.PrintLast Go.Proofs.Ytmlodmpkcbncjaa.PureKit Go.Proofs.Ytmlodmpkcbncjaa.Sep Go.Proofs.Ytmlodmpkcbncjaa.Rol

noncomputable def same {α : Type} (a b : α) : Bool := @decide (a = b) (Classical.propDecidable _)
theorem same_pos {α : Type} {a b : α} (h : a = b) : same a b = true := @decide_eq_true _ (Classical.propDecidable _) h
theorem same_neg {α : Type} {a b : α} (h : a ≠ b) : same a b = false := @decide_eq_false _ (Classical.propDecidable _) h
theorem of_same {α : Type} {a b : α} (h : same a b = true) : a = b := @of_decide_eq_true _ (Classical.propDecidable _) h
theorem of_nsame {α : Type} {a b : α} (h : same a b = false) : a ≠ b := @of_decide_eq_false _ (Classical.propDecidable _) h
theorem flat_inj {ps qs : List EP} (hp : allok ps) (hq : allok qs) (h : flat ps = flat qs) : ps = qs := by
  have h1 := gall_flat (flat ps) ps (flat ps).length 0 hp (Nat.zero_le _) (by omega) rfl
  have h2 := gall_flat (flat ps) qs (flat ps).length 0 hq (Nat.zero_le _) (by omega) h
  rw [h1] at h2
  exact (Prod.mk.inj h2).1
theorem apart_true (ps qs : List EP) : Ev (fun k => fasciclelaw10_ElderApart.j0 k ps qs true) true := by
  refine Ev.step (f := fun _ => some true) (fun k => ?_) (Ev.now _)
  simp only [fasciclelaw10_ElderApart.j0, if_true]
  rfl
theorem apart_end (ps qs : List EP) (n m : Int) (h : n = m) (h2 : ((((ps ++ qs).length : Nat) : Int) == wrap64 ((ps.length : Int) + (qs.length : Int))) = true) :
    ((some (ps ++ qs, n, (0 : Int))).bind fun bt190 => (if bt190.2.2 = 0 then (if bt190.2.1 = m then (some ((bt190.1.length : Int) == (wrap64 ((ps.length : Int) + (qs.length : Int))))) else (some false)) else (some false))) = some true := by
  subst h
  show (if (0 : Int) = 0 then (if n = n then (some ((((ps ++ qs).length : Nat) : Int) == (wrap64 ((ps.length : Int) + (qs.length : Int))))) else (some false)) else (some false)) = some true
  rw [if_pos rfl, if_pos rfl, h2]
theorem apart_l0 (ps qs : List EP) (hp : allok ps) (hq : allok qs) (hpl : ps.length ≤ 10) (hql : qs.length ≤ 10) : ∀ (d i : Nat) (b : Bool), i + d = ps.length → (b = true → ps.length = qs.length ∧ ps.take i = qs.take i) → (b = false → ps ≠ qs) →
    Ev (fun k => fasciclelaw10_ElderApart.l0 k ps qs (flat ps) (flat qs) b (i : Int)) true := by
  have hA := flat_len ps hp
  have hB := flat_len qs hq
  have hbts : Bytes (flat ps ++ flat qs) := Bytes.append (flat_bytes ps) (flat_bytes qs)
  have hget := getall_f (flat ps ++ flat qs) hbts (by rw [List.length_append]; omega)
  rw [gall_flat (flat ps ++ flat qs) (ps ++ qs) _ 0 (fun p hh => (List.mem_append.1 hh).elim (hp p) (hq p)) (Nat.zero_le _) (by omega) (by rw [List.drop_zero, flat_append])] at hget
  dsimp only at hget
  have hbq : ((strOfNums (flat ps)).toList == (strOfNums (flat qs)).toList) = same ps qs := by
    rw [nums_beq (flat_bytes ps) (flat_bytes qs)]
    by_cases h : ps = qs
    · rw [same_pos h]; exact decide_eq_true (by rw [h])
    · rw [same_neg h, decide_eq_false (fun e => h (flat_inj hp hq e))]
  intro d
  induction d with
  | zero =>
    intro i b h1 h2 h3
    have hb : b = same ps qs := by
      cases b with
      | false => rw [same_neg (h3 rfl)]
      | true =>
        obtain ⟨h4, h5⟩ := h2 rfl
        rw [List.take_of_length_le (by omega), List.take_of_length_le (by omega)] at h5
        rw [same_pos h5]
    have hn : (((strOfNums (flat ps)).toList == (strOfNums (flat qs)).toList) != b) = false := by rw [hbq, hb]; simp
    refine Ev.step (f := fun _ => some true) (fun k => ?_) (Ev.now _)
    simp only [fasciclelaw10_ElderApart.l0]
    have c1 : ¬ (i : Int) < (ps.length : Int) := by omega
    have c2 : 0 + (flat ps).length < 140737488355328 := by omega
    have c3 : (flat ps).length + (flat qs).length < 140737488355328 := by omega
    have c4 : (((flat ps ++ flat qs).length : Nat) : Int) = wrap64 (((flat ps).length : Int) + ((flat qs).length : Int)) := by rw [List.length_append, w64 (by omega) (by omega)]; omega
    have c5 : ((((ps ++ qs).length : Nat) : Int) == wrap64 ((ps.length : Int) + (qs.length : Int))) = true := by rw [List.length_append, w64 (by omega) (by omega)]; simp
    rw [hn]
    simp only [Option.bind_some, List.nil_append, List.length_nil]
    rw [if_neg c1, if_neg (show ¬ (false = true) by decide), if_pos c2, if_pos c3, hget, apart_end _ _ _ _ c4 c5, ite_self]
  | succ d ih =>
    intro i b h1 h2 h3
    cases b with
    | false =>
      have hn : (((strOfNums (flat ps)).toList == (strOfNums (flat qs)).toList) != false) = false := by rw [hbq, same_neg (h3 rfl)]; rfl
      refine Ev.step (f := fun _ => some true) (fun k => ?_) (Ev.now _)
      simp only [fasciclelaw10_ElderApart.l0]
      have c2 : 0 + (flat ps).length < 140737488355328 := by omega
      have c3 : (flat ps).length + (flat qs).length < 140737488355328 := by omega
      have c4 : (((flat ps ++ flat qs).length : Nat) : Int) = wrap64 (((flat ps).length : Int) + ((flat qs).length : Int)) := by rw [List.length_append, w64 (by omega) (by omega)]; omega
      have c5 : ((((ps ++ qs).length : Nat) : Int) == wrap64 ((ps.length : Int) + (qs.length : Int))) = true := by rw [List.length_append, w64 (by omega) (by omega)]; simp
      rw [hn]
      simp only [Option.bind_some, List.nil_append, List.length_nil]
      rw [if_neg (show ¬ (false = true) by decide), if_neg (show ¬ (false = true) by decide), if_pos c2, if_pos c3, hget, apart_end _ _ _ _ c4 c5]
    | true =>
      obtain ⟨h4, h5⟩ := h2 rfl
      have hin : i < ps.length := by omega
      have hinq : i < qs.length := by omega
      have hbb : (((ps[i]).f0.toList == (qs[i]).f0.toList) && ((ps[i]).f1.toList == (qs[i]).f1.toList)) = same ps[i] qs[i] := by
        rw [str_beq, str_beq]
        generalize ps[i] = p
        generalize qs[i] = q
        obtain ⟨p0, p1⟩ := p
        obtain ⟨q0, q1⟩ := q
        by_cases a : p0 = q0
        · by_cases c : p1 = q1
          · rw [same_pos (by rw [a, c]), decide_eq_true a, decide_eq_true c]; rfl
          · rw [same_neg (fun e => c (by injection e)), decide_eq_false c, Bool.and_false]
        · rw [same_neg (fun e => a (by injection e)), decide_eq_false a, Bool.false_and]
      have ih2 := ih (i + 1) (same ps[i] qs[i]) (by omega) (fun h => ⟨h4, by
        rw [List.take_succ_eq_append_getElem hin, List.take_succ_eq_append_getElem hinq, h5, of_same h]⟩) (fun h e => by
        have := of_nsame h
        exact this (by subst e; rfl))
      refine Ev.step (f := fun k => fasciclelaw10_ElderApart.l0 k ps qs (flat ps) (flat qs) (same ps[i] qs[i]) ((i + 1 : Nat) : Int)) (fun k => ?_) ih2
      simp only [fasciclelaw10_ElderApart.l0]
      rw [if_true, if_pos (by omega), if_pos (by omega), if_pos (by omega), rd_ep ps i hin, rd_ep qs i hinq, hbb, w64 (by omega) (by omega)]
      rfl
theorem apart_false (ps qs : List EP) (h1 : eok ps = true) (h2 : eok qs = true) (hp : ps.length ≤ 10) (hq : qs.length ≤ 10) : Ev (fun k => fasciclelaw10_ElderApart.j0 k ps qs false) true := by
  have e1 : elder_PutAll.f ps = some (epa ps []) := by unfold elder_PutAll.f; rw [if_pos ⟨by omega, h1⟩]
  have e2 : elder_PutAll.f qs = some (epa qs []) := by unfold elder_PutAll.f; rw [if_pos ⟨by omega, h2⟩]
  by_cases c1 : (epa ps []).2 = 0
  · have a1 := epa_zero ps [] c1
    by_cases c2 : (epa qs []).2 = 0
    · have a2 := epa_zero qs [] c2
      rw [epa_ok ps [] a1, List.nil_append] at e1
      rw [epa_ok qs [] a2, List.nil_append] at e2
      have hl := apart_l0 ps qs a1 a2 hp hq ps.length 0 (decide (ps.length = qs.length)) (by omega) (fun h => ⟨of_decide_eq_true h, rfl⟩) (fun h e => (of_decide_eq_false h) (by rw [e]))
      refine Ev.step (f := fun k => fasciclelaw10_ElderApart.j1 k ps qs (flat ps) (flat qs) false) (fun k => ?_) ?_
      · simp only [fasciclelaw10_ElderApart.j0]
        rw [if_neg (by decide), e1, e2]
        rfl
      · refine Ev.step (f := fun k => fasciclelaw10_ElderApart.l0 k ps qs (flat ps) (flat qs) (decide (ps.length = qs.length)) ((0 : Nat) : Int)) (fun k => ?_) hl
        simp only [fasciclelaw10_ElderApart.j1]
        rw [if_neg (by decide), show ((ps.length : Int) == (qs.length : Int)) = decide (ps.length = qs.length) by
          by_cases h : ps.length = qs.length
          · rw [h]; simp
          · rw [decide_eq_false h]; exact beq_eq_false_iff_ne.2 (by omega)]
        rfl
    · refine Ev.step (f := fun k => fasciclelaw10_ElderApart.j1 k ps qs (epa ps []).1 (epa qs []).1 true) (fun k => ?_) ?_
      · simp only [fasciclelaw10_ElderApart.j0]
        rw [if_neg (by decide), e1, e2]
        simp only [Option.bind_some]
        rw [if_pos c1, show ((epa qs []).2 != 0) = true from bne_iff_ne.2 c2]
      · refine Ev.step (f := fun _ => some true) (fun k => ?_) (Ev.now _)
        simp only [fasciclelaw10_ElderApart.j1, if_true]
  · refine Ev.step (f := fun k => fasciclelaw10_ElderApart.j1 k ps qs (epa ps []).1 (epa qs []).1 true) (fun k => ?_) ?_
    · simp only [fasciclelaw10_ElderApart.j0]
      rw [if_neg (by decide), e1, e2]
      simp only [Option.bind_some]
      rw [if_neg c1]
    · refine Ev.step (f := fun _ => some true) (fun k => ?_) (Ev.now _)
      simp only [fasciclelaw10_ElderApart.j1, if_true]
theorem ElderApart : fasciclelaw10_ElderApart.Pure := by
  intro ps qs _ _ hps _ _ hqs
  refine rounds_of (r := true) ?_
  unfold fasciclelaw10_ElderApart.f
  obtain ⟨b1, f1, g1⟩ := few_ev ps 10 300 (by omega)
  obtain ⟨b2, f2, g2⟩ := few_ev qs 10 300 (by omega)
  refine Ev.congr (f := fun k => (fasciclelaw10_Few.f k ps 10 300).bind fun t168 => (if t168 = true then ((fasciclelaw10_Few.f k qs 10 300).bind fun t169 => (fasciclelaw10_ElderApart.j0 k ps qs (!t169))) else (fasciclelaw10_ElderApart.j0 k ps qs true))) (fun k => ?_) ?_
  · show (some true).bind _ = _
    rw [Option.bind_some, if_pos rfl]
  refine Ev.bind f1 ?_
  cases b1 with
  | false => exact Ev.congr (f := fun k => fasciclelaw10_ElderApart.j0 k ps qs true) (fun k => by rw [if_neg (by decide)]) (apart_true ps qs)
  | true =>
    refine Ev.congr (f := fun k => (fasciclelaw10_Few.f k qs 10 300).bind fun t169 => (fasciclelaw10_ElderApart.j0 k ps qs (!t169))) (fun k => by rw [if_pos rfl]) ?_
    refine Ev.bind f2 ?_
    cases b2 with
    | false => exact apart_true ps qs
    | true => exact apart_false ps qs (eok_of hps) (eok_of hqs) (by have := g1 rfl; omega) (by have := g2 rfl; omega)

end Go.Proofs.Ytmlodmpkcbncjaa.Pure
