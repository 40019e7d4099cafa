/- fasciclelaw10.ElderAll holds: of any bytes the pairs are the document's, and these bytes theirs; for every input, no condition. -/
import Derived.Test.YtmlodmpkcbncjaaGx8
import Derived.Test.YtmlodmpkcbncjaaLElderRef
set_option linter.unusedVariables false
set_option linter.unusedSimpArgs false
namespace Go.Proofs.Ytmlodmpkcbncjaa.Pure
open Go Go.RowKit Go.Proofs.Ytmlodmpkcbncjaa.G Go.Proofs.YtmlodmpkcbncjaaW.PrintWords Go.Proofs.YtmlodmpkcbncjaaW.PrintLast Go.Proofs.Ytmlodmpkcbncjaa.PureKit Go.Proofs.Ytmlodmpkcbncjaa.Sep Go.Proofs.Ytmlodmpkcbncjaa.Rol

theorem rd_rp (ps : List EP) (i : Nat) (h : i < ps.length) : rd_T68 (ps.map toref) (i : Int) = toref ps[i] := by
  unfold rd_T68
  rw [Int.toNat_natCast, List.getD_eq_getElem?_getD, List.getElem?_eq_getElem (by rw [List.length_map]; exact h), List.getElem_map]
  rfl
theorem same_l0 (ps : List EP) (hl : ps.length ≤ 100000) : ∀ (d i : Nat), i + d = ps.length → Ev (fun k => fasciclelaw10_Same.l0 k ps (ps.map toref) (ps.length : Int) (i : Int)) true
  | 0, i, h => Ev.step (f := fun _ => some true) (fun k => by simp only [fasciclelaw10_Same.l0]; rw [if_neg (by omega)]) (Ev.now _)
  | d + 1, i, h => by
    have hin : i < ps.length := by omega
    refine Ev.step (f := fun k => fasciclelaw10_Same.l0 k ps (ps.map toref) (ps.length : Int) ((i + 1 : Nat) : Int)) (fun k => ?_) (same_l0 ps hl d (i + 1) (by omega))
    simp only [fasciclelaw10_Same.l0]
    rw [if_pos (by omega), if_pos (by omega), if_pos (by omega), if_pos (by rw [List.length_map]; omega), rd_ep ps i hin, rd_rp ps i hin, if_neg (by simp [toref]), w64 (by omega) (by omega)]
    rfl
theorem all_long (l0 : List Int) : Ev (fun k => fasciclelaw10_ElderAll.j0 k l0 true) true := by
  refine Ev.step (f := fun _ => some true) (fun k => ?_) (Ev.now _)
  simp only [fasciclelaw10_ElderAll.j0, if_true]
  rfl
theorem all_short (l : List Int) (hb : Bytes l) (hl : l.length ≤ 1500) : Ev (fun k => fasciclelaw10_ElderAll.j0 k l false) true := by
  obtain ⟨h0, h1, h2, h3, h4, h5⟩ := gall_back l hb l.length 0 (Nat.zero_le _) (by omega)
  have hget := getall_f l hb (by omega)
  have href : Ev (fun k => fascicleref10_GetAll.f k (strOfNums l)) _ := gall_ref l hb (by omega) l.length 0 [] (Nat.zero_le _) (by omega) (Nat.le_refl _)
  obtain ⟨⟨ps, n, e⟩, hR⟩ : ∃ R, gall l l.length 0 [] = R := ⟨_, rfl⟩
  rw [hR] at h0 h1 h2 h3 h4 h5 hget href
  dsimp only at h0 h1 h2 h3 h4 h5 hget href
  clear hR
  have hput := putall_ok ps h3 (by omega)
  have hsame : Ev (fun k => fasciclelaw10_Same.f k ps (ps.map toref)) true := by
    refine Ev.congr (fun k => ?_) (same_l0 ps (by omega) ps.length 0 (by omega))
    unfold fasciclelaw10_Same.f
    rw [if_pos (by rw [List.length_map])]
    rfl
  rw [List.drop_zero] at h2
  obtain ⟨k1, e1⟩ := href
  obtain ⟨k2, e2⟩ := hsame
  refine ⟨k1 + k2 + 1, fun k hk => ?_⟩
  obtain ⟨k, rfl⟩ : ∃ q, k = q + 1 := ⟨k - 1, by omega⟩
  have e1 := e1 k (by omega)
  have e2 := e2 k (by omega)
  dsimp only at e1 e2
  simp only [fasciclelaw10_ElderAll.j0]
  rw [if_neg (by decide)]
  simp only [Option.bind_some, List.nil_append, List.length_nil]
  rw [if_pos (by omega), hget]
  simp only [Option.bind_some]
  rw [e1]
  simp only [Option.bind_some]
  rw [e2]
  simp only [Option.bind_some]
  simp only [if_true, hput, Option.bind_some]
  rw [if_pos (show (0 : Int) ≤ (n : Int) by omega), if_pos (show (n : Int) ≤ (l.length : Int) by omega), Int.toNat_natCast, h2, if_pos rfl]
  by_cases he : e = 0
  · have hn := h4.1 he
    rw [he, hn]
    simp
  · have hn : ¬ n = l.length := fun h => he (h4.2 h)
    have h6 : (e == 0) = false := beq_eq_false_iff_ne.2 he
    have h7 : ((n : Int) == (l.length : Int)) = false := beq_eq_false_iff_ne.2 (by omega)
    rw [h6, h7]
    rfl
theorem ElderAll : fasciclelaw10_ElderAll.Pure := by
  intro l0 _ _ hwf
  have hb := Bytes.of_wf hwf
  refine rounds_of (r := true) ?_
  unfold fasciclelaw10_ElderAll.f
  refine Ev.congr (f := fun k => fasciclelaw10_ElderAll.j0 k l0 (decide ((l0.length : Int) > 1500))) (fun k => ?_) ?_
  · show (some true).bind _ = _
    rw [Option.bind_some, if_pos rfl]
  by_cases h : (l0.length : Int) > 1500
  · rw [decide_eq_true h]
    exact all_long l0
  · rw [decide_eq_false h]
    exact all_short l0 hb (by omega)

end Go.Proofs.Ytmlodmpkcbncjaa.Pure
