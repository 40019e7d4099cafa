/- fasciclelaw12.FenceOf holds; for every input, no condition. -/
import Derived.Test.YtnmdckgaljldhaaGx6
import Derived.Test.YtnmdckgaljldhaaGx3
import Derived.Test.YtnmdckgaljldhaaLFenceR
import Derived.OpenShut
set_option linter.unusedVariables false
set_option linter.unusedSimpArgs false
namespace Go.Proofs.Ytnmdckgaljldhaa.Pure
open Go Go.RowKit Go.Proofs.Ytnmdckgaljldhaa.G Go.Proofs.YtnmdckgaljldhaaW.PrintWords Go.Proofs.YtnmdckgaljldhaaW.PrintLast Go.Proofs.Ytnmdckgaljldhaa.PureKit Go.Proofs.Ytnmdckgaljldhaa.Fe Go.Proofs.Ytnmdckgaljldhaa.Tb

/-- The fences of the first i entries. -/
def fencesN (l : List E1) (i : Nat) : List Int := (List.range (chunks i)).map (fenceAt l)
theorem fencesN_len (l : List E1) (i : Nat) : (fencesN l i).length = chunks i := by unfold fencesN; rw [List.length_map, List.length_range]
theorem fencesN_hit (l : List E1) (i : Nat) (h : i % 16 = 0) (x : E1) (hx : l[i]? = some x) : fencesN l (i + 1) = fencesN l i ++ [x.f0] := by
  have h1 : chunks (i + 1) = chunks i + 1 := by unfold chunks; omega
  have h2 : 16 * chunks i = i := by unfold chunks; omega
  unfold fencesN
  rw [h1, List.range_succ, List.map_append]
  congr 1
  show [fenceAt l (chunks i)] = [x.f0]
  unfold fenceAt
  rw [h2, rdE l i x hx]
theorem fencesN_miss (l : List E1) (i : Nat) (h : i % 16 ≠ 0) : fencesN l (i + 1) = fencesN l i := by
  have h1 : chunks (i + 1) = chunks i := by unfold chunks; omega
  unfold fencesN
  rw [h1]
theorem tmod16 (i : Nat) : (Int.tmod (i : Int) 16 = 0) ↔ i % 16 = 0 := by
  rw [Int.tmod_eq_emod_of_nonneg (by omega)]; omega
theorem refof_loop (l : List E1) (hl : l.length ≤ 1000000) : ∀ (d i : Nat), i + d = l.length → Ev (fun k => fascicleref12_Of.l0 k (fencesN l i) (refsE l) (l.length : Int) (i : Int)) (fencesE l)
  | 0, i, h => by
    refine Ev.step (f := fun _ => some (fencesN l i)) (fun k => ?_) (ev_eqF (Ev.now _) (by rw [show i = l.length by omega]; rfl))
    unfold fascicleref12_Of.l0
    rw [if_neg (by omega)]
  | d + 1, i, h => by
    obtain ⟨x, hx⟩ : ∃ x, l[i]? = some x := ⟨_, List.getElem?_eq_getElem (by omega)⟩
    have hlen : (fencesN l i).length < 17592186044416 := by rw [fencesN_len]; unfold chunks; omega
    refine Ev.step (f := fun k => fascicleref12_Of.l0 k (fencesN l (i + 1)) (refsE l) (l.length : Int) ((i + 1 : Nat) : Int)) (fun k => ?_) (refof_loop l hl d (i + 1) (by omega))
    simp only [fascicleref12_Of.l0]
    rw [if_pos (by omega), if_pos (by omega), if_pos (by rw [refsE_len]; omega), rdR l i x hx, inc64F (by omega)]
    by_cases hm : i % 16 = 0
    · rw [if_pos ((tmod16 i).2 hm), if_pos hlen, fencesN_hit l i hm x hx]
      rfl
    · rw [if_neg (fun hh => hm ((tmod16 i).1 hh)), fencesN_miss l i hm]
theorem refof_ev (l : List E1) (hl : l.length ≤ 1000000) : Ev (fun k => fascicleref12_Of.f k (refsE l)) (fencesE l) := by
  have := refof_loop l hl l.length 0 (by omega)
  unfold fascicleref12_Of.f
  rw [refsE_len]
  exact this
theorem same12_loop (l : List Int) (hl : l.length ≤ 1000000) : ∀ (d i : Nat), i + d = l.length → Ev (fun k => fasciclelaw12_same.l0 k l l (l.length : Int) (i : Int)) true
  | 0, i, h => by
    refine Ev.step (f := fun _ => some true) (fun k => ?_) (Ev.now _)
    unfold fasciclelaw12_same.l0
    rw [if_neg (by omega)]
  | d + 1, i, h => by
    refine Ev.step (f := fun k => fasciclelaw12_same.l0 k l l (l.length : Int) ((i + 1 : Nat) : Int)) (fun k => ?_) (same12_loop l hl d (i + 1) (by omega))
    simp only [fasciclelaw12_same.l0]
    rw [if_pos (by omega), if_pos (by omega), if_pos (by omega), if_pos (by omega), if_pos trivial, inc64F (by omega)]
theorem same12_ev (l : List Int) (hl : l.length ≤ 1000000) : Ev (fun k => fasciclelaw12_same.f k l l) true := by
  refine Ev.congr (f := fun k => fasciclelaw12_same.l0 k l l (l.length : Int) ((0 : Nat) : Int)) (fun k => ?_) (same12_loop l hl l.length 0 (by omega))
  unfold fasciclelaw12_same.f
  rw [if_pos rfl]
  rfl

theorem chunks_mono {a b : Nat} (h : a ≤ b) : chunks a ≤ chunks b := by unfold chunks; omega
/-- The document's count, up to the i-th fence. -/
theorem refrange_loop (l : List E1) (hp : l.Pairwise lessE) (hl : l.length ≤ 100000) (h : Int) : ∀ (d i : Nat), i + d = chunks l.length → Ev (fun k => fascicleref12_Range.l0 k (l.length : Int) h ((min i (chunks (findF l h)) : Nat) : Int) ((min i (chunks (findF l h + findN l h)) : Nat) : Int) (fencesE l) ((chunks l.length : Nat) : Int) (i : Int)) (rangeE l.length (findF l h) (findF l h + findN l h))
  | 0, i, hi => by
    obtain ⟨f1, -⟩ := findF_spec hp h
    obtain ⟨n1, -⟩ := findN_spec hp h
    have hcl := chunks_mono f1
    have hcn := chunks_mono n1
    have hz : chunks (findF l h + findN l h) = 0 ↔ findF l h + findN l h = 0 := by unfold chunks; omega
    have hbig : chunks l.length ≤ 100000 := by unfold chunks; omega
    refine Ev.step (f := fun _ => some (rangeE l.length (findF l h) (findF l h + findN l h))) (fun k => ?_) (Ev.now _)
    simp only [fascicleref12_Range.l0]
    rw [if_neg (by omega), show min i (chunks (findF l h)) = chunks (findF l h) by omega, show min i (chunks (findF l h + findN l h)) = chunks (findF l h + findN l h) by omega]
    unfold rangeE
    generalize chunks (findF l h) = a at *
    generalize hT : findF l h + findN l h = T at *
    generalize chunks T = b at *
    by_cases h0 : T = 0
    · rw [if_pos h0, if_pos (by omega)]
    · rw [if_neg h0, if_neg (by omega)]
      congr 1
      refine Prod.ext ?_ ?_
      · show wrap64 (16 * mx 0 (wrap64 ((a : Int) - 1))) = ((16 * (a - 1) : Nat) : Int)
        rw [w64 (x := (a : Int) - 1) (by omega) (by omega)]
        have : mx 0 ((a : Int) - 1) = ((a - 1 : Nat) : Int) := by unfold mx; split <;> omega
        rw [this, w64 (by omega) (by omega)]
        omega
      · show mn (l.length : Int) (wrap64 (16 * (b : Int))) = ((min l.length (16 * b) : Nat) : Int)
        rw [w64 (by omega) (by omega)]
        unfold mn
        split <;> omega
  | d + 1, i, hi => by
    have ih := refrange_loop l hp hl h d (i + 1) (by omega)
    obtain ⟨f1, f2⟩ := findF_spec hp h
    obtain ⟨n1, n2⟩ := findN_spec hp h
    have h16 : 16 * i < l.length := by unfold chunks at hi; omega
    have hrd := rd_fence l i (by omega)
    have hbig : chunks l.length ≤ 100000 := by unfold chunks; omega
    have hlt := f2 (16 * i) h16
    have hle := n2 (16 * i) h16
    have cF : i < chunks (findF l h) ↔ 16 * i < findF l h := by unfold chunks; omega
    have cT : i < chunks (findF l h + findN l h) ↔ 16 * i < findF l h + findN l h := by unfold chunks; omega
    rw [← cF] at hlt
    rw [← cT] at hle
    have hinc : ∀ c : Nat, c ≤ 100000 → wrap64 ((c : Int) + 1) = ((c + 1 : Nat) : Int) := fun c hc => inc64F (by omega)
    clear f2 n2 cF cT h16
    refine Ev.step (f := fun k => fascicleref12_Range.l0 k (l.length : Int) h ((min (i + 1) (chunks (findF l h)) : Nat) : Int) ((min (i + 1) (chunks (findF l h + findN l h)) : Nat) : Int) (fencesE l) ((chunks l.length : Nat) : Int) ((i + 1 : Nat) : Int)) (fun k => ?_) ih
    generalize chunks (findF l h) = a at *
    generalize chunks (findF l h + findN l h) = b at *
    simp only [fascicleref12_Range.l0]
    rw [if_pos (by omega), if_pos (by omega), if_pos (by rw [fencesE_len]; omega), hrd, hinc _ (by omega), hinc _ (by omega), hinc _ (by omega)]
    by_cases c1 : i < a
    · rw [if_pos (hlt.2 c1), show min i a + 1 = min (i + 1) a by omega]
      by_cases c2 : i < b
      · rw [if_pos (hle.2 c2), show min i b + 1 = min (i + 1) b by omega]
      · rw [if_neg (fun hh => c2 (hle.1 hh)), show min i b = min (i + 1) b by omega]
    · rw [if_neg (fun hh => c1 (hlt.1 hh)), show min i a = min (i + 1) a by omega]
      by_cases c2 : i < b
      · rw [if_pos (hle.2 c2), show min i b + 1 = min (i + 1) b by omega]
      · rw [if_neg (fun hh => c2 (hle.1 hh)), show min i b = min (i + 1) b by omega]
theorem refrange_ev (l : List E1) (hp : l.Pairwise lessE) (hl : l.length ≤ 100000) (h : Int) : Ev (fun k => fascicleref12_Range.f k (fencesE l) (l.length : Int) h) (rangeE l.length (findF l h) (findF l h + findN l h)) := by
  have := refrange_loop l hp hl h (chunks l.length) 0 (by omega)
  rw [Nat.zero_min, Nat.zero_min] at this
  unfold fascicleref12_Range.f
  rw [fencesE_len]
  exact this
theorem hashes_loop (s : List E1) (hp : s.Pairwise lessE) (hsl : s.length ≤ 150) (hs : List Int) (hhl : hs.length ≤ 1000) : ∀ (d i : Nat), i + d = hs.length → Ev (fun k => fasciclelaw12_FenceOf.l0 k s (fencesE s) (fencesE s) hs (hs.length : Int) (i : Int)) true
  | 0, i, h => by
    refine Ev.step (f := fun _ => some true) (fun k => ?_) (Ev.now _)
    simp only [fasciclelaw12_FenceOf.l0]
    rw [if_neg (by omega)]
  | d + 1, i, h => by
    have ih := hashes_loop s hp hsl hs hhl d (i + 1) (by omega)
    obtain ⟨x, hx⟩ : ∃ x, rd hs (i : Int) = x := ⟨_, rfl⟩
    refine Ev.step (f := fun k => (fascicleref12_Range.f k (fencesE s) (s.length : Int) x).bind fun bt183 => (if (rangeE s.length (findF s x) (findF s x + findN s x)).1 = bt183.1 then (if (rangeE s.length (findF s x) (findF s x + findN s x)).2 = bt183.2 then (fasciclelaw12_FenceOf.l0 k s (fencesE s) (fencesE s) hs (hs.length : Int) ((i + 1 : Nat) : Int)) else (some false)) else (some false))) (fun k => ?_)
      (Ev.bind (f := fun k bt183 => (if (rangeE s.length (findF s x) (findF s x + findN s x)).1 = bt183.1 then (if (rangeE s.length (findF s x) (findF s x + findN s x)).2 = bt183.2 then (fasciclelaw12_FenceOf.l0 k s (fencesE s) (fencesE s) hs (hs.length : Int) ((i + 1 : Nat) : Int)) else (some false)) else (some false))) (refrange_ev s hp (by omega) x) ?_)
    · simp only [fasciclelaw12_FenceOf.l0]
      rw [if_pos (by omega), if_pos (by omega), if_pos (by omega), hx, range_f hp (by omega), Option.bind_some, inc64F (by omega)]
    · refine Ev.congr (f := fun k => fasciclelaw12_FenceOf.l0 k s (fencesE s) (fencesE s) hs (hs.length : Int) ((i + 1 : Nat) : Int)) (fun k => ?_) ih
      rw [if_pos rfl, if_pos rfl]
theorem of_short (l : List E1) (a : Int) (hl : l.length ≤ 150) : Ev (fun k => fasciclelaw12_FenceOf.j0 k l a false) true := by
  have hsl := sortE_len l
  have hS : table_Sorted.f l = some (sortE l) := by unfold table_Sorted.f; exact if_pos (by omega)
  have hF : fence_Of.f (sortE l) = some (fencesE (sortE l)) := by unfold fence_Of.f; exact if_pos (by omega)
  have hflen := fencesE_len (sortE l)
  have hch : chunks (sortE l).length ≤ 150 := by unfold chunks; omega
  have hC1 : fence_Count.f ((sortE l).length : Int) = some (((fencesE (sortE l)).length : Nat) : Int) := by rw [hflen]; exact count_f _ (by omega)
  have hC2 := count_neg (sortE l).length (by omega)
  have hp := sortE_rise l
  generalize sortE l = s at *
  generalize hfs : fencesE s = fs at *
  refine Ev.step (f := fun k => (fasciclelaw11_Refs.f k s).bind fun t165 => ((fascicleref12_Of.f k t165).bind fun t168 => ((fasciclelaw12_same.f k fs t168).bind fun t171 => (if t171 = true then ((fence_Count.f (s.length : Int)).bind fun t172 => (if t172 = (t168.length : Int) then ((fence_Count.f (wrap64 ((wrap64 (-(s.length : Int))) - 1))).bind fun t173 => (fasciclelaw12_FenceOf.j1 k a s fs t168 (t173 != 0))) else (fasciclelaw12_FenceOf.j1 k a s fs t168 true))) else (fasciclelaw12_FenceOf.j1 k a s fs t168 true))))) (fun k => ?_) ?_
  · simp only [fasciclelaw12_FenceOf.j0]
    rw [if_neg (by decide), hS, Option.bind_some, hF, Option.bind_some]
  refine Ev.bind (f := fun k t165 => ((fascicleref12_Of.f k t165).bind fun t168 => ((fasciclelaw12_same.f k fs t168).bind fun t171 => (if t171 = true then ((fence_Count.f (s.length : Int)).bind fun t172 => (if t172 = (t168.length : Int) then ((fence_Count.f (wrap64 ((wrap64 (-(s.length : Int))) - 1))).bind fun t173 => (fasciclelaw12_FenceOf.j1 k a s fs t168 (t173 != 0))) else (fasciclelaw12_FenceOf.j1 k a s fs t168 true))) else (fasciclelaw12_FenceOf.j1 k a s fs t168 true))))) (refs_ev s (by omega)) ?_
  refine Ev.bind (a := fs) (f := fun k t168 => ((fasciclelaw12_same.f k fs t168).bind fun t171 => (if t171 = true then ((fence_Count.f (s.length : Int)).bind fun t172 => (if t172 = (t168.length : Int) then ((fence_Count.f (wrap64 ((wrap64 (-(s.length : Int))) - 1))).bind fun t173 => (fasciclelaw12_FenceOf.j1 k a s fs t168 (t173 != 0))) else (fasciclelaw12_FenceOf.j1 k a s fs t168 true))) else (fasciclelaw12_FenceOf.j1 k a s fs t168 true)))) (by have := refof_ev s (by omega); rw [hfs] at this; exact this) ?_
  refine Ev.bind (f := fun k t171 => (if t171 = true then ((fence_Count.f (s.length : Int)).bind fun t172 => (if t172 = (fs.length : Int) then ((fence_Count.f (wrap64 ((wrap64 (-(s.length : Int))) - 1))).bind fun t173 => (fasciclelaw12_FenceOf.j1 k a s fs fs (t173 != 0))) else (fasciclelaw12_FenceOf.j1 k a s fs fs true))) else (fasciclelaw12_FenceOf.j1 k a s fs fs true))) (same12_ev fs (by omega)) ?_
  refine Ev.congr (f := fun k => fasciclelaw12_FenceOf.j1 k a s fs fs false) (fun k => ?_) ?_
  · rw [if_pos rfl, hC1, Option.bind_some, if_pos rfl, hC2, Option.bind_some]
    rfl
  refine Ev.step (f := fun k => fasciclelaw12_FenceOf.l0 k s fs fs ([a, IntKind.u64.wrap (a + 1), 0, 18446744073709551615] ++ fs) ((([a, IntKind.u64.wrap (a + 1), 0, 18446744073709551615] ++ fs).length : Nat) : Int) ((0 : Nat) : Int)) (fun k => ?_) ?_
  · simp only [fasciclelaw12_FenceOf.j1]
    rw [if_neg (by decide), Option.bind_some, if_pos (by simp only [List.length_cons, List.length_nil]; omega), Option.bind_some]
    rfl
  · rw [← hfs]
    exact hashes_loop s hp (by omega) _ (by rw [hfs, List.length_append]; simp only [List.length_cons, List.length_nil]; omega) _ 0 (Nat.zero_add _)
theorem FenceOf : fasciclelaw12_FenceOf.Pure := by
  intro l a _ _ _ _
  refine rounds_of (r := true) ?_
  unfold fasciclelaw12_FenceOf.f
  refine Ev.bind (f := fun k t157 => (if t157 = true then (fasciclelaw12_FenceOf.j0 k l a (decide ((l.length : Int) > 150))) else (fasciclelaw12_FenceOf.j0 k l a true))) lives12 ?_
  refine Ev.congr (f := fun k => fasciclelaw12_FenceOf.j0 k l a (decide ((l.length : Int) > 150))) (fun k => if_pos rfl) ?_
  by_cases h : (l.length : Int) > 150
  · rw [decide_eq_true h]
    refine Ev.step (f := fun k => (fasciclelaw12_lives.f k).bind fun t => some t) (fun k => ?_) (Ev.bind (f := fun _ t => some t) lives12 (Ev.now _))
    simp only [fasciclelaw12_FenceOf.j0, if_true]
  · rw [decide_eq_false h]
    exact of_short l a (by omega)

end Go.Proofs.Ytnmdckgaljldhaa.Pure
