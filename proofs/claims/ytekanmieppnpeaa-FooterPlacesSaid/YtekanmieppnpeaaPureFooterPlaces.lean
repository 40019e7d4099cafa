/- fasciclelaw13.FooterPlaces holds; for every input, no condition. -/
import Derived.Test.YtekanmieppnpeaaGx6
import Derived.Test.YtekanmieppnpeaaGx5
import Derived.Test.YtekanmieppnpeaaLFenceE
import Derived.Test.YtekanmieppnpeaaHFootCheck
set_option linter.unusedVariables false
set_option linter.unusedSimpArgs false
namespace Go.Proofs.Ytekanmieppnpeaa.Pure
open Go Go.RowKit Go.Proofs.Ytekanmieppnpeaa.G Go.Proofs.YtekanmieppnpeaaW.PrintWords Go.Proofs.YtekanmieppnpeaaW.PrintLast Go.Proofs.Ytekanmieppnpeaa.PureKit Go.Proofs.Ytekanmieppnpeaa.Fe Go.Proofs.Ytekanmieppnpeaa.Tb

theorem less_trans {p q r : E1} (h1 : lessE p q) (h2 : lessE q r) : lessE p r := by unfold lessE at *; omega
theorem riseN_all (l : List E1) : ∀ d i, riseN l d i = true → ∀ j, i ≤ j → j < i + d → ∀ x y, l[j]? = some x → l[j + 1]? = some y → lessE x y
  | 0, i, _, j, h1, h2, _, _, _, _ => by omega
  | d + 1, i, h, j, h1, h2, x, y, hx, hy => by
    unfold riseN at h
    by_cases hij : i = j
    · subst hij
      rw [hx, hy] at h
      dsimp only at h
      by_cases hl : lessE x y
      · exact hl
      · rw [if_neg hl] at h; cases h
    · have hj : j + 1 < l.length := (List.getElem?_eq_some_iff.1 hy).1
      obtain ⟨a, ha⟩ : ∃ a, l[i]? = some a := ⟨_, List.getElem?_eq_getElem (by omega)⟩
      obtain ⟨b, hb⟩ : ∃ b, l[i + 1]? = some b := ⟨_, List.getElem?_eq_getElem (by omega)⟩
      rw [ha, hb] at h
      dsimp only at h
      by_cases hl : lessE a b
      · rw [if_pos hl] at h
        exact riseN_all l d (i + 1) h j (by omega) (by omega) x y hx hy
      · rw [if_neg hl] at h; cases h
theorem rise_pair {l : List E1} (h : riseE l = true) : l.Pairwise lessE := by
  have hadj : ∀ j (hj : j + 1 < l.length), lessE (l[j]'(by omega)) l[j + 1] := fun j hj =>
    riseN_all l (l.length - 1) 0 h j (by omega) (by omega) _ _ (List.getElem?_eq_getElem (by omega)) (List.getElem?_eq_getElem hj)
  have hall : ∀ d i (hi : i + d + 1 < l.length), lessE (l[i]'(by omega)) (l[i + d + 1]'hi) := by
    intro d
    induction d with
    | zero => intro i hi; exact hadj i hi
    | succ d ih => intro i hi; exact less_trans (ih i (by omega)) (hadj (i + d + 1) (by omega))
  refine List.pairwise_iff_getElem.2 fun i j hi hj hij => ?_
  obtain ⟨d, rfl⟩ : ∃ d, j = i + d + 1 := ⟨j - i - 1, by omega⟩
  exact hall d i hj

theorem places_loop (y : List E1) (hy : y.length ≤ 1000) : ∀ (d j : Nat) (acc : List Int), j + d = y.length → acc.length ≤ j → Ev (fun k => footer_Places.l0 k acc y (y.length : Int) (j : Int)) (acc ++ (y.drop j).map (·.f1))
  | 0, j, acc, h, ha => by
    refine Ev.step (f := fun _ => some acc) (fun k => ?_) (ev_eq (Ev.now _) (by rw [List.drop_of_length_le (by omega)]; exact (List.append_nil _).symm))
    unfold footer_Places.l0
    rw [if_neg (by omega)]
  | d + 1, j, acc, h, ha => by
    obtain ⟨x, hx⟩ : ∃ x, y[j]? = some x := ⟨_, List.getElem?_eq_getElem (by omega)⟩
    refine Ev.step (f := fun k => footer_Places.l0 k (acc ++ [x.f1]) y (y.length : Int) ((j + 1 : Nat) : Int)) (fun k => ?_) (ev_eq (places_loop y hy d (j + 1) (acc ++ [x.f1]) (by omega) (by rw [List.length_append]; exact Nat.succ_le_succ ha)) ?_)
    · simp only [footer_Places.l0]
      rw [if_pos (by omega), if_pos (by omega), if_pos (by omega), if_pos (by omega), rdE y j x hx, inc64 (by omega)]
    · rw [drop_at hx]; simp
/-- What is got. -/
def gotE (used : Int) (l : List E1) (h : Int) : List Int := if checkF used l = 0 then wantE l h else []
theorem check_rise {used : Int} {l : List E1} (h : checkF used l = 0) : l.Pairwise lessE := by
  unfold checkF at h
  split at h
  · cases h
  · split at h
    · cases h
    · rename_i h2
      exact rise_pair (by simpa using h2)
theorem places_ev (used : Int) (l : List E1) (hl : l.length ≤ 100) (h : Int) : Ev (fun k => footer_Places.f k used l h) (gotE used l h) := by
  have hC : footer_Check.f used l = some (checkF used l) := by unfold footer_Check.f; exact if_pos (by omega)
  unfold gotE
  by_cases hc : checkF used l = 0
  · rw [if_pos hc]
    have hp := check_rise hc
    have hF : fence_Of.f l = some (fencesE l) := by unfold fence_Of.f; exact if_pos (by omega)
    obtain ⟨n1, -⟩ := findN_spec hp h
    obtain ⟨a, e, hae, h1, h2, -, h4, h5, -⟩ := range_b l.length (findF l h) (findF l h + findN l h) ((findF l h + findN l h - findF l h + 15) / 16) (by omega) n1 (div_b _).1
    obtain ⟨y, hy⟩ : ∃ y, (l.take e).drop a = y := ⟨_, rfl⟩
    have hyl : y.length ≤ 100 := by rw [← hy, List.length_drop, List.length_take]; omega
    have hyp : y.Pairwise lessE := by rw [← hy]; exact (hp.sublist (List.take_sublist _ _)).sublist (List.drop_sublist _ _)
    have hfil : y.filter (fun x => decide (x.f0 = h)) = l.filter (fun x => decide (x.f0 = h)) := by
      rw [← hy]
      refine seg_filter l _ a e h2 h1 (fun i hi hpi => ?_)
      have hh := (at_hash hp h i hi).1 (of_decide_eq_true hpi)
      have hlt : findF l h < findF l h + findN l h := by omega
      have := h4 hlt
      have := h5 hlt
      omega
    have hfind : table_Find.f y h = some (((findF y h : Nat) : Int), ((findF y h + findN y h : Nat) : Int)) := by unfold table_Find.f; exact if_pos (by omega)
    obtain ⟨m1, -⟩ := findN_spec hyp h
    have hseg := find_seg hyp h
    refine Ev.congr (f := fun k => footer_Places.l0 k [] ((y.take (findF y h + findN y h)).drop (findF y h)) ((((y.take (findF y h + findN y h)).drop (findF y h)).length : Nat) : Int) ((0 : Nat) : Int)) (fun k => ?_) (ev_eq (places_loop _ (by rw [List.length_drop, List.length_take]; omega) _ 0 [] (Nat.zero_add _) (Nat.le_refl _)) ?_)
    · unfold footer_Places.f
      rw [hC, Option.bind_some, if_pos hc, hF, Option.bind_some, range_f hp (by omega), Option.bind_some, hae]
      dsimp only
      rw [if_pos (by omega), if_pos (by omega), if_pos (by omega), Option.bind_some, Int.toNat_natCast, Int.toNat_natCast, hy, hfind, Option.bind_some]
      dsimp only
      rw [if_pos (by omega), if_pos (by omega), if_pos (by omega), Option.bind_some, Int.toNat_natCast, Int.toNat_natCast]
      rfl
    · rw [List.nil_append, List.drop_zero, hseg, hfil]
      rfl
  · rw [if_neg hc]
    refine Ev.congr (f := fun k => some []) (fun k => ?_) (Ev.now _)
    unfold footer_Places.f
    rw [hC, Option.bind_some, if_neg hc]

theorem same_loop (used : Int) (l : List E1) (hs : List Int) (m i : Int) (g : List Int) (hg : g.Pairwise (· < ·)) (hgl : g.length ≤ 1000) (hnext : Ev (fun k => fasciclelaw13_FooterPlaces.l1 k hs m (wrap64 (i + 1)) used l) true) :
    ∀ (d j : Nat), j + d = g.length → Ev (fun k => fasciclelaw13_FooterPlaces.l3 k g g hs m i (g.length : Int) (j : Int) used l) true
  | 0, j, h => by
    refine Ev.step (f := fun k => fasciclelaw13_FooterPlaces.l1 k hs m (wrap64 (i + 1)) used l) (fun k => ?_) hnext
    simp only [fasciclelaw13_FooterPlaces.l3]
    rw [if_neg (by omega)]
  | d + 1, j, h => by
    refine Ev.step (f := fun k => fasciclelaw13_FooterPlaces.l3 k g g hs m i (g.length : Int) ((j + 1 : Nat) : Int) used l) (fun k => ?_) (same_loop used l hs m i g hg hgl hnext d (j + 1) (by omega))
    simp only [fasciclelaw13_FooterPlaces.l3]
    rw [if_pos (by omega), if_pos (by omega), if_pos (by omega), if_pos (by omega), inc64 (by omega)]
    by_cases hj : j = 0
    · subst hj
      rw [if_pos trivial, if_neg (by omega)]
    · obtain ⟨u, rfl⟩ : ∃ u, j = u + 1 := ⟨j - 1, by omega⟩
      have hlt : rd g (u : Int) < rd g ((u + 1 : Nat) : Int) := by
        rw [rd_at g u (by omega), rd_at g (u + 1) (by omega)]
        exact List.pairwise_iff_getElem.1 hg u (u + 1) (by omega) (by omega) (by omega)
      rw [dec64 (by omega), if_pos trivial, if_pos (by omega), if_pos (by omega), if_pos (by omega), if_neg (by omega)]
theorem j4_ev (used : Int) (l : List E1) (hs : List Int) (m i : Int) (g : List Int) (hg : g.Pairwise (· < ·)) (hgl : g.length ≤ 1000) (hnext : Ev (fun k => fasciclelaw13_FooterPlaces.l1 k hs m (wrap64 (i + 1)) used l) true) :
    Ev (fun k => fasciclelaw13_FooterPlaces.j4 k g g hs m i used l) true := by
  refine Ev.step (f := fun k => fasciclelaw13_FooterPlaces.l3 k g g hs m i (g.length : Int) ((0 : Nat) : Int) used l) (fun k => ?_) (same_loop used l hs m i g hg hgl hnext g.length 0 (Nat.zero_add _))
  simp only [fasciclelaw13_FooterPlaces.j4]
  rw [if_pos trivial]
  rfl
theorem want_loop (used : Int) (l : List E1) (hl : l.length ≤ 100) (h : Int) (got : List Int) (hs : List Int) (m i : Int) (hfin : Ev (fun k => fasciclelaw13_FooterPlaces.j4 k got (wantE l h) hs m i used l) true) :
    ∀ (d j : Nat) (acc : List Int), j + d = l.length → acc.length ≤ j → acc ++ wantE (l.drop j) h = wantE l h → Ev (fun k => fasciclelaw13_FooterPlaces.l2 k h got acc hs m i l (l.length : Int) (j : Int) used l) true
  | 0, j, acc, hj, ha, he => by
    have hac : acc = wantE l h := by rw [← he, List.drop_of_length_le (by omega)]; exact (List.append_nil _).symm
    refine Ev.step (f := fun k => fasciclelaw13_FooterPlaces.j4 k got (wantE l h) hs m i used l) (fun k => ?_) hfin
    simp only [fasciclelaw13_FooterPlaces.l2]
    rw [if_neg (by omega), hac]
  | d + 1, j, acc, hj, ha, he => by
    obtain ⟨x, hx⟩ : ∃ x, l[j]? = some x := ⟨_, List.getElem?_eq_getElem (by omega)⟩
    rw [drop_at hx] at he
    have hrd := rdE l j x hx
    by_cases hxh : x.f0 = h
    · refine Ev.step (f := fun k => fasciclelaw13_FooterPlaces.l2 k h got (acc ++ [x.f1]) hs m i l (l.length : Int) ((j + 1 : Nat) : Int) used l) (fun k => ?_) (want_loop used l hl h got hs m i hfin d (j + 1) (acc ++ [x.f1]) (by omega) (by rw [List.length_append]; exact Nat.succ_le_succ ha) ?_)
      · simp only [fasciclelaw13_FooterPlaces.l2]
        rw [if_pos (by omega), if_pos (by omega), if_pos (by omega), hrd, if_pos hxh, if_pos (by omega), inc64 (by omega)]
      · rw [← he, List.append_assoc]
        congr 1
        unfold wantE
        rw [List.filter_cons_of_pos (by rw [decide_eq_true_iff]; exact hxh)]
        rfl
    · refine Ev.step (f := fun k => fasciclelaw13_FooterPlaces.l2 k h got acc hs m i l (l.length : Int) ((j + 1 : Nat) : Int) used l) (fun k => ?_) (want_loop used l hl h got hs m i hfin d (j + 1) acc (by omega) (by omega) ?_)
      · simp only [fasciclelaw13_FooterPlaces.l2]
        rw [if_pos (by omega), if_pos (by omega), if_pos (by omega), hrd, if_neg hxh, inc64 (by omega)]
      · rw [← he]
        congr 1
        unfold wantE
        rw [List.filter_cons_of_neg (by rw [decide_eq_true_iff]; exact hxh)]
theorem want_len (l : List E1) (h : Int) : (wantE l h).length ≤ l.length := by unfold wantE; rw [List.length_map]; exact List.length_filter_le _ _
theorem all_loop (used : Int) (l : List E1) (hl : l.length ≤ 100) (hs : List Int) (hhl : hs.length ≤ 1000) : ∀ (d i : Nat), i + d = hs.length → Ev (fun k => fasciclelaw13_FooterPlaces.l1 k hs (hs.length : Int) (i : Int) used l) true
  | 0, i, h => by
    refine Ev.step (f := fun _ => some true) (fun k => ?_) (Ev.now _)
    simp only [fasciclelaw13_FooterPlaces.l1]
    rw [if_neg (by omega)]
  | d + 1, i, h => by
    have ih := all_loop used l hl hs hhl d (i + 1) (by omega)
    rw [← inc64 (show i < 1000000000 by omega)] at ih
    obtain ⟨x, hx⟩ : ∃ x, rd hs (i : Int) = x := ⟨_, rfl⟩
    have hC : footer_Check.f used l = some (checkF used l) := by unfold footer_Check.f; exact if_pos (by omega)
    refine Ev.step (f := fun k => (footer_Places.f k used l x).bind fun t155 => (if checkF used l = 0 then (fasciclelaw13_FooterPlaces.l2 k x t155 ([] : List Int) hs (hs.length : Int) (i : Int) l (l.length : Int) 0 used l) else (fasciclelaw13_FooterPlaces.j4 k t155 ([] : List Int) hs (hs.length : Int) (i : Int) used l))) (fun k => ?_)
      (Ev.bind (f := fun k t155 => (if checkF used l = 0 then (fasciclelaw13_FooterPlaces.l2 k x t155 ([] : List Int) hs (hs.length : Int) (i : Int) l (l.length : Int) 0 used l) else (fasciclelaw13_FooterPlaces.j4 k t155 ([] : List Int) hs (hs.length : Int) (i : Int) used l))) (places_ev used l hl x) ?_)
    · simp only [fasciclelaw13_FooterPlaces.l1]
      rw [if_pos (by omega), if_pos (by omega), if_pos (by omega), hx, hC]
      simp only [Option.bind_some]
    · unfold gotE
      by_cases hc : checkF used l = 0
      · refine Ev.congr (f := fun k => fasciclelaw13_FooterPlaces.l2 k x (wantE l x) ([] : List Int) hs (hs.length : Int) (i : Int) l (l.length : Int) ((0 : Nat) : Int) used l) (fun k => ?_) ?_
        · rw [if_pos hc, if_pos hc]
          rfl
        · have hw := want_len l x
          exact want_loop used l hl x _ hs _ _ (j4_ev used l hs _ _ _ (want_rise (check_rise hc) x) (by omega) ih) l.length 0 [] (Nat.zero_add _) (Nat.le_refl _) rfl
      · refine Ev.congr (f := fun k => fasciclelaw13_FooterPlaces.j4 k ([] : List Int) ([] : List Int) hs (hs.length : Int) (i : Int) used l) (fun k => ?_) (j4_ev used l hs _ _ [] List.Pairwise.nil (by decide) ih)
        rw [if_neg hc, if_neg hc]
theorem rows_loop (used : Int) (l : List E1) (hl : l.length ≤ 100) : ∀ (d i : Nat) (hs : List Int), i + d = l.length → hs.length ≤ i + 1 → Ev (fun k => fasciclelaw13_FooterPlaces.l0 k hs l (l.length : Int) (i : Int) used l) true
  | 0, i, hs, h, hh => by
    refine Ev.step (f := fun k => fasciclelaw13_FooterPlaces.l1 k hs (hs.length : Int) ((0 : Nat) : Int) used l) (fun k => ?_) (all_loop used l hl hs (by omega) hs.length 0 (Nat.zero_add _))
    simp only [fasciclelaw13_FooterPlaces.l0]
    rw [if_neg (by omega)]
    rfl
  | d + 1, i, hs, h, hh => by
    refine Ev.step (f := fun k => fasciclelaw13_FooterPlaces.l0 k (hs ++ [(rd_T33 l (i : Int)).f0]) l (l.length : Int) ((i + 1 : Nat) : Int) used l) (fun k => ?_) (rows_loop used l hl d (i + 1) _ (by omega) (by rw [List.length_append]; exact Nat.succ_le_succ hh))
    simp only [fasciclelaw13_FooterPlaces.l0]
    rw [if_pos (by omega), if_pos (by omega), if_pos (by omega), if_pos (by omega), inc64 (by omega)]
theorem FooterPlaces : fasciclelaw13_FooterPlaces.Pure := by
  intro used l a _ _ _ _
  have hl : fasciclelaw13_lives.f = some true := by decide +kernel
  refine rounds_of (r := true) ?_
  refine Ev.congr (f := fun k => fasciclelaw13_FooterPlaces.j0 k a (decide ((l.length : Int) > 100)) used l) (fun k => ?_) ?_
  · unfold fasciclelaw13_FooterPlaces.f
    rw [hl, Option.bind_some, if_pos rfl]
  by_cases h : (l.length : Int) > 100
  · rw [decide_eq_true h]
    refine Ev.step (f := fun _ => some true) (fun k => ?_) (Ev.now _)
    simp only [fasciclelaw13_FooterPlaces.j0, if_true]
    rw [hl]
    rfl
  · rw [decide_eq_false h]
    refine Ev.step (f := fun k => fasciclelaw13_FooterPlaces.l0 k [a] l (l.length : Int) ((0 : Nat) : Int) used l) (fun k => ?_) (rows_loop used l (by omega) l.length 0 [a] (Nat.zero_add _) (Nat.le_refl _))
    simp only [fasciclelaw13_FooterPlaces.j0]
    rw [if_neg (by decide)]
    rfl

end Go.Proofs.Ytekanmieppnpeaa.Pure
