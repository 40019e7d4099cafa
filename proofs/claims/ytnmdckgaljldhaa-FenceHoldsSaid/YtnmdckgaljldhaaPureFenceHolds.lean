/- fasciclelaw12.FenceHolds holds; for every input, no condition. -/
import Derived.Test.YtnmdckgaljldhaaGx7
import Derived.Test.YtnmdckgaljldhaaLFenceR
import Derived.OpenShut
set_option linter.unusedVariables false
set_option linter.unusedSimpArgs false
namespace Go.Proofs.Ytnmdckgaljldhaa.Pure
open Go Go.RowKit Go.Proofs.Ytnmdckgaljldhaa.G Go.Proofs.YtnmdckgaljldhaaW.PrintWords Go.Proofs.YtnmdckgaljldhaaW.PrintLast Go.Proofs.Ytnmdckgaljldhaa.PureKit Go.Proofs.Ytnmdckgaljldhaa.Fe Go.Proofs.Ytnmdckgaljldhaa.Tb

theorem chunks_b (n : Nat) : n ≤ 16 * chunks n ∧ 16 * chunks n ≤ n + 15 := by unfold chunks; omega
theorem div_b (n : Nat) : n ≤ 16 * ((n + 15) / 16) ∧ 16 * ((n + 15) / 16) ≤ n + 15 := by omega
theorem range_b (n F T M : Nat) (hFT : F ≤ T) (hT : T ≤ n) (hM : T - F ≤ 16 * M) : ∃ a e : Nat, rangeE n F T = ((a : Int), (e : Int)) ∧ e ≤ n ∧ a ≤ e ∧ a % 16 = 0 ∧ (F < T → a ≤ F) ∧ (F < T → T ≤ e) ∧ e ≤ a + 16 * (M + 2) := by
  unfold rangeE
  by_cases h0 : T = 0
  · rw [if_pos h0]
    exact ⟨0, 0, rfl, Nat.zero_le _, Nat.le_refl _, rfl, fun h => by omega, fun h => by omega, by omega⟩
  · rw [if_neg h0]
    obtain ⟨c1, c2⟩ := chunks_b F
    obtain ⟨c3, c4⟩ := chunks_b T
    generalize chunks F = cF at *
    generalize chunks T = cT at *
    refine ⟨_, _, rfl, Nat.min_le_left _ _, ?_, Nat.mul_mod_right _ _, fun _ => ?_, fun _ => ?_, ?_⟩
    · omega
    · omega
    · omega
    · omega
theorem tdiv16 (n : Nat) (h : n ≤ 1000) : wrap64 (Int.tdiv (n : Int) 16) = ((n / 16 : Nat) : Int) := by
  rw [Int.tdiv_eq_ediv_of_nonneg (by omega), w64 (by omega) (by omega)]; omega
theorem wsub (a b : Nat) (h : b ≤ a) (h2 : a ≤ 1000) : wrap64 ((a : Int) - (b : Int)) = ((a - b : Nat) : Int) := by rw [w64 (by omega) (by omega)]; omega
theorem wp15 (a : Nat) (h : a ≤ 1000) : wrap64 ((a : Int) + 15) = ((a + 15 : Nat) : Int) := by rw [w64 (by omega) (by omega)]; omega
theorem wp2 (a : Nat) (h : a ≤ 1000) : wrap64 ((a : Int) + 2) = ((a + 2 : Nat) : Int) := by rw [w64 (by omega) (by omega)]; omega
theorem wm16 (a : Nat) (h : a ≤ 1000) : wrap64 (16 * (a : Int)) = ((16 * a : Nat) : Int) := by rw [w64 (by omega) (by omega)]; omega
theorem tail_num (n F T : Nat) (hn : n ≤ 150) (hFT : F ≤ T) (hT : T ≤ n) : ∃ a e q : Nat, rangeE n F T = ((a : Int), (e : Int)) ∧ wrap64 ((e : Int) - (a : Int)) = ((e - a : Nat) : Int) ∧
    wrap64 (16 * wrap64 (wrap64 (Int.tdiv (wrap64 (wrap64 ((T : Int) - (F : Int)) + 15)) 16) + 2)) = (q : Int) ∧ e - a ≤ q := by
  obtain ⟨M, hMe⟩ : ∃ M, (T - F + 15) / 16 = M := ⟨_, rfl⟩
  have hMb := div_b (T - F)
  rw [hMe] at hMb
  obtain ⟨a, e, hae, h1, h2, -, -, -, h3⟩ := range_b n F T M hFT hT hMb.1
  refine ⟨a, e, 16 * (M + 2), hae, wsub e a h2 (by omega), ?_, by omega⟩
  rw [wsub T F hFT (by omega), wp15 _ (by omega), tdiv16 _ (by omega), hMe, wp2 _ (by omega), wm16 _ (by omega)]
theorem holds_tail (s : List E1) (hsl : s.length ≤ 150) (F T : Nat) (hFT : F ≤ T) (hT : T ≤ s.length) (fs hs : List Int) (m i : Int) (k : Nat) :
    fasciclelaw12_FenceHolds.j3 (k + 1) s fs (rangeE s.length F T).1 (rangeE s.length F T).2 (F : Int) (T : Int) hs m i false = fasciclelaw12_FenceHolds.l1 k s fs hs m (wrap64 (i + 1)) := by
  obtain ⟨a, e, q, h1, h2, h3, h4⟩ := tail_num s.length F T hsl hFT hT
  simp only [fasciclelaw12_FenceHolds.j3]
  rw [if_neg (by decide), h1]
  dsimp only
  rw [h2, h3]
  clear h1 h2 h3
  rw [if_neg (by omega)]

theorem holds_loop (s : List E1) (hp : s.Pairwise lessE) (hsl : s.length ≤ 150) (hs : List Int) (hhl : hs.length ≤ 1000) : ∀ (d i : Nat), i + d = hs.length → Ev (fun k => fasciclelaw12_FenceHolds.l1 k s (fencesE s) hs (hs.length : Int) (i : Int)) true
  | 0, i, h => by
    refine Ev.step (f := fun _ => some true) (fun k => ?_) (Ev.now _)
    simp only [fasciclelaw12_FenceHolds.l1]
    rw [if_neg (by omega)]
  | d + 1, i, h => by
    have ih := holds_loop s hp hsl hs hhl d (i + 1) (by omega)
    obtain ⟨x, hx⟩ : ∃ x, rd hs (i : Int) = x := ⟨_, rfl⟩
    obtain ⟨f1, f2⟩ := findF_spec hp x
    obtain ⟨n1, n2⟩ := findN_spec hp x
    have hc : ∀ n, chunks n = (n + 15) / 16 := fun _ => rfl
    have hfind : table_Find.f s x = some (((findF s x : Nat) : Int), ((findF s x + findN s x : Nat) : Int)) := by unfold table_Find.f; exact if_pos (by omega)
    refine Ev.step (f := fun k => fasciclelaw12_FenceHolds.j3 k s (fencesE s) (rangeE s.length (findF s x) (findF s x + findN s x)).1 (rangeE s.length (findF s x) (findF s x + findN s x)).2 ((findF s x : Nat) : Int) ((findF s x + findN s x : Nat) : Int) hs (hs.length : Int) (i : Int) false) (fun k => ?_) ?_
    · simp only [fasciclelaw12_FenceHolds.l1]
      rw [if_pos (by omega), if_pos (by omega), if_pos (by omega), hx, range_f hp (by omega), Option.bind_some, hfind, Option.bind_some]
      generalize findF s x = F at *
      generalize findN s x = N at *
      obtain ⟨a, e, hae, ha1, ha2, ha3, ha4, ha5, -⟩ := range_b s.length F (F + N) ((F + N - F + 15) / 16) (by omega) n1 (div_b _).1
      clear f1 f2 n2 hfind hc hx
      rw [hae]
      dsimp only
      have hm : Int.tmod (a : Int) 16 = 0 := by rw [Int.tmod_eq_emod_of_nonneg (by omega)]; omega
      rw [if_neg (by omega), if_neg (by omega), if_neg (by omega), if_pos hm]
      by_cases hN : 0 < N
      · rw [if_pos (by omega), if_neg (by have := ha4 (by omega); omega), decide_eq_false (by have := ha5 (by omega); omega)]
      · rw [if_neg (by omega)]
    · refine Ev.step (f := fun k => fasciclelaw12_FenceHolds.l1 k s (fencesE s) hs (hs.length : Int) ((i + 1 : Nat) : Int)) (fun k => ?_) ih
      rw [holds_tail s hsl _ _ (by omega) n1 (fencesE s) hs _ _ k, inc64F (by omega)]
theorem holds_rows (s : List E1) (hp : s.Pairwise lessE) (hsl : s.length ≤ 150) : ∀ (d i : Nat) (hs : List Int), i + d = s.length → hs.length ≤ i + 1 → Ev (fun k => fasciclelaw12_FenceHolds.l0 k s (fencesE s) hs s (s.length : Int) (i : Int)) true
  | 0, i, hs, h, hh => by
    refine Ev.step (f := fun k => fasciclelaw12_FenceHolds.l1 k s (fencesE s) hs (hs.length : Int) ((0 : Nat) : Int)) (fun k => ?_) (holds_loop s hp hsl hs (by omega) hs.length 0 (by omega))
    simp only [fasciclelaw12_FenceHolds.l0]
    rw [if_neg (by omega)]
    rfl
  | d + 1, i, hs, h, hh => by
    refine Ev.step (f := fun k => fasciclelaw12_FenceHolds.l0 k s (fencesE s) (hs ++ [(rd_T81 s (i : Int)).f0]) s (s.length : Int) ((i + 1 : Nat) : Int)) (fun k => ?_) (holds_rows s hp hsl d (i + 1) _ (by omega) (by rw [List.length_append]; simp; omega))
    simp only [fasciclelaw12_FenceHolds.l0]
    rw [if_pos (by omega), if_pos (by omega), if_pos (by omega), if_pos (by omega), inc64F (by omega)]
theorem FenceHolds : fasciclelaw12_FenceHolds.Pure := by
  intro l a _ _ _ _
  refine rounds_of (r := true) ?_
  unfold fasciclelaw12_FenceHolds.f
  refine Ev.bind (f := fun k t185 => (if t185 = true then (fasciclelaw12_FenceHolds.j0 k l a (decide ((l.length : Int) > 150))) else (fasciclelaw12_FenceHolds.j0 k l a true))) lives12 ?_
  refine Ev.congr (f := fun k => fasciclelaw12_FenceHolds.j0 k l a (decide ((l.length : Int) > 150))) (fun k => if_pos rfl) ?_
  by_cases h : (l.length : Int) > 150
  · rw [decide_eq_true h]
    refine Ev.step (f := fun k => (fasciclelaw12_lives.f k).bind fun t => some t) (fun k => ?_) (Ev.bind (f := fun _ t => some t) lives12 (Ev.now _))
    simp only [fasciclelaw12_FenceHolds.j0, if_true]
  · rw [decide_eq_false h]
    have hsl := sortE_len l
    have hS : table_Sorted.f l = some (sortE l) := by unfold table_Sorted.f; exact if_pos (by omega)
    have hF : fence_Of.f (sortE l) = some (fencesE (sortE l)) := by unfold fence_Of.f; exact if_pos (by omega)
    refine Ev.step (f := fun k => fasciclelaw12_FenceHolds.l0 k (sortE l) (fencesE (sortE l)) [a] (sortE l) ((sortE l).length : Int) ((0 : Nat) : Int)) (fun k => ?_) (holds_rows (sortE l) (sortE_rise l) (by omega) (sortE l).length 0 [a] (by omega) (by simp))
    simp only [fasciclelaw12_FenceHolds.j0]
    rw [if_neg (by decide), hS, Option.bind_some, hF, Option.bind_some]
    rfl

end Go.Proofs.Ytnmdckgaljldhaa.Pure
