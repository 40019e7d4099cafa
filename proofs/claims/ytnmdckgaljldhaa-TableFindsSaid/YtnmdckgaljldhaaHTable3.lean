/- table: the order of entries; slices.SortFunc, Clone. -/
import Derived.Test.YtnmdckgaljldhaaHTable2
set_option linter.unusedVariables false
set_option linter.unusedSimpArgs false
namespace Go.Proofs.Ytnmdckgaljldhaa.Tb
open Go Go.RowKit Go.Shelf Go.Lib Go.Sort Go.Proofs.YtnmdckgaljldhaaW.PrintWords Go.Proofs.YtnmdckgaljldhaaW.PrintLast Go.Proofs.YtnmdckgaljldhaaW.PrintMore Go.Proofs.Ytnmdckgaljldhaa.Sep Go.Proofs.Ytnmdckgaljldhaa.G
set_option maxHeartbeats 4000000
set_option maxRecDepth 100000

def cfE (x y : E1) : Int := cmpE (x.f0, x.f1) (y.f0, y.f1)
def lessE (x y : E1) : Prop := x.f0 < y.f0 ∨ x.f0 = y.f0 ∧ x.f1 < y.f1
instance (x y : E1) : Decidable (lessE x y) := by unfold lessE; infer_instance
/-- The comparison, in all three cases. -/
theorem cfE_lt {x y : E1} (h : lessE x y) : cfE x y = -1 := by
  unfold cfE cmpE orI compareInt
  rcases h with h | ⟨h1, h2⟩
  · simp [h]
  · simp [h1, h2]
theorem cfE_gt {x y : E1} (h : lessE y x) : cfE x y = 1 := by
  unfold cfE cmpE orI compareInt
  rcases h with h | ⟨h1, h2⟩
  · have : ¬ x.f0 < y.f0 := by omega
    simp [h, this]
  · have : ¬ x.f1 < y.f1 := by omega
    simp [h1, h2, this]
theorem lessE_tri (x y : E1) : lessE x y ∨ x = y ∨ lessE y x := by
  unfold lessE
  by_cases h1 : x.f0 < y.f0
  · exact .inl (.inl h1)
  by_cases h2 : y.f0 < x.f0
  · exact .inr (.inr (.inl h2))
  by_cases h3 : x.f1 < y.f1
  · exact .inl (.inr ⟨by omega, h3⟩)
  by_cases h4 : y.f1 < x.f1
  · exact .inr (.inr (.inr ⟨by omega, h4⟩))
  · refine .inr (.inl ?_)
    cases x; cases y
    simp only at h1 h2 h3 h4
    congr 1 <;> omega
theorem cfE_same (x : E1) : cfE x x = 0 := by
  unfold cfE cmpE orI compareInt
  simp
theorem ltOf_cfE (x y : E1) : ltOf cfE x y = decide (lessE x y) := by
  unfold ltOf
  rcases lessE_tri x y with h | h | h
  · rw [cfE_lt h]; exact (decide_eq_true (by decide)).trans (decide_eq_true h).symm
  · rw [h, cfE_same]; exact (decide_eq_false (by decide)).trans (decide_eq_false (by unfold lessE; omega)).symm
  · rw [cfE_gt h]; exact (decide_eq_false (by decide)).trans (decide_eq_false (by unfold lessE at *; omega)).symm
theorem swoE : SWO (ltOf cfE) where
  irrefl x := by rw [ltOf_cfE]; exact decide_eq_false (by unfold lessE; omega)
  trans x y z h1 h2 := by
    rw [ltOf_cfE] at *
    have a := of_decide_eq_true h1
    have b := of_decide_eq_true h2
    exact decide_eq_true (by unfold lessE at *; omega)
  ntrans x y z h1 h2 := by
    rw [ltOf_cfE] at *
    have a := of_decide_eq_false h1
    have b := of_decide_eq_false h2
    exact decide_eq_false (by unfold lessE at *; omega)

/-- Sorted: no later one is less than an earlier one. -/
def Srt (l : List E1) : Prop := l.Pairwise fun x y => ¬ lessE y x

theorem sort_call (w0 w : World) (g n cap : Nat) (l : List E1) (ps : List HP) (h : Sep.Sep w0 w (row kE 81 (.slice (some ⟨g, 0, none⟩) n cap) l :: ps)) (hl : l.length < 4611686018427387904) :
    Calls Try.prog 86 #[.slice (some ⟨g, 0, none⟩) n cap, .func (.func 47) #[] #[]] w fun r w' => r = .returned (.tuple #[]) ∧
      ∃ l' : List E1, l'.Perm l ∧ Srt l' ∧ Sep.Sep w0 w' (row kE 81 (.slice (some ⟨g, 0, none⟩) n cap) l' :: ps) := by
  obtain ⟨bs, hR, hclose⟩ := h.row_open
  obtain ⟨hH, hg, hn, hS⟩ := sort_R hR
  have eg : ∀ args w, (callFunc 47 args).run Try.prog w = .ok (.enter 47 args) w := enters_of Try.func47 (by kernel_rfl) rfl
  have hcon := AnyQ.slices_SortFunc Try.sortL 2 Try.isAgg81 Try.sizeOf81 encE (fun _ => rfl) (fun x v hv => by simp [encE] at hv; rcases hv with rfl | rfl <;> rfl) cfE swoE 47 #[] g 0 cap l.toArray w eg
    (fun _ _ _ _ x y => table_Compare (x.f0, x.f1) (y.f0, y.f1) _) hH hg (by simpa using hl)
  rw [hn, ← List.size_toArray]
  refine hcon.mono ?_
  rintro e w' ⟨rfl, d', m, os, hp, hs, rfl⟩
  obtain ⟨hp1, -, hp2⟩ := hp
  have hsz : d'.size = l.length := by rw [hp1]; simp
  have hx1 : (d'.extract 0 l.toArray.size).toList = d'.toList := by rw [List.size_toArray, ← hsz]; simp
  have hx2 : (l.toArray.extract 0 l.toArray.size).toList = l := by simp
  rw [hx1, hx2] at hp2
  have hk := hS m os d'.toList (by simpa using hsz)
  rw [Array.toArray_toList] at hk
  refine ⟨rfl, d'.toList, hp2, ?_, ?_⟩
  · refine List.pairwise_iff_getElem.2 fun i j hi hj hij => ?_
    have hi' : i < d'.size := by simpa using hi
    have hj' : j < d'.size := by simpa using hj
    have h1 := hs i j (Nat.zero_le _) hij (by rw [List.size_toArray, ← hsz]; exact hj')
    rw [getElem!_pos d' j hj', getElem!_pos d' i hi', ltOf_cfE] at h1
    simpa using of_decide_eq_false h1
  · have := hclose _ _ _ (Kd.R_mono hk.1 (fun _ hb => .inl hb)) hk.2
    rw [hn] at this
    simpa using this
end Go.Proofs.Ytnmdckgaljldhaa.Tb
