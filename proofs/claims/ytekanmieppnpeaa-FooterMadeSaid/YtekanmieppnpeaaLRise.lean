/- Do entries rise: the printed table.Rising. -/
import Derived.Test.YtekanmieppnpeaaPureKit
import Derived.Test.YtekanmieppnpeaaHTable11
import Derived.Test.YtekanmieppnpeaaGx10
set_option linter.unusedVariables false
set_option linter.unusedSimpArgs false
namespace Go.Proofs.Ytekanmieppnpeaa.Tb
open Go Go.RowKit Go.Proofs.Ytekanmieppnpeaa.G Go.Proofs.YtekanmieppnpeaaW.PrintWords Go.Proofs.YtekanmieppnpeaaW.PrintLast Go.Proofs.YtekanmieppnpeaaW.PrintMore Go.Proofs.Ytekanmieppnpeaa.PureKit

theorem ev_eq {α : Type} {g : Nat → Option α} {a b : α} (h : Ev g a) (e : a = b) : Ev g b := e ▸ h
theorem rdE (l : List E1) (i : Nat) (x : E1) (h : l[i]? = some x) : rd_T33 l (i : Int) = x := by
  unfold rd_T33
  rw [Int.toNat_natCast, List.getD_eq_getElem?_getD, h]; rfl
theorem inc64 {i : Nat} (h : i < 1000000000) : wrap64 ((i : Int) + 1) = ((i + 1 : Nat) : Int) := by rw [w64 (by omega) (by omega)]; omega
theorem dec64 {i : Nat} (h : i < 1000000000) : wrap64 (((i + 1 : Nat) : Int) - 1) = (i : Int) := by rw [w64 (by omega) (by omega)]; omega
theorem drop_at {α : Type} {l : List α} {i : Nat} {x : α} (h : l[i]? = some x) : l.drop i = x :: l.drop (i + 1) := by
  have hl := (List.getElem?_eq_some_iff.1 h).1
  rw [List.drop_eq_getElem_cons hl]
  congr 1
  exact (List.getElem?_eq_some_iff.1 h).2

/-- Do they rise, from here on? -/
def riseN (l : List E1) : Nat → Nat → Bool
  | 0, _ => true
  | d + 1, i => match l[i]?, l[i + 1]? with
    | some x, some y => if lessE x y then riseN l d (i + 1) else false
    | _, _ => true
def riseE (l : List E1) : Bool := riseN l (l.length - 1) 0
theorem riseE_true {l : List E1} (h : l.Pairwise lessE) : riseE l = true := by
  have : ∀ d i, riseN l d i = true := by
    intro d
    induction d with
    | zero => intro i; rfl
    | succ d ih =>
      intro i
      unfold riseN
      split
      · rename_i x y hx hy
        obtain ⟨hi, rfl⟩ := List.getElem?_eq_some_iff.1 hx
        obtain ⟨hj, rfl⟩ := List.getElem?_eq_some_iff.1 hy
        rw [if_pos (List.pairwise_iff_getElem.1 h i (i + 1) hi hj (by omega)), ih]
      · rfl
  exact this _ _
theorem cmp64 (x y : Int) : cmp_Compare_uint64.f x y = some (Go.Lib.compareInt x y) := by
  unfold cmp_Compare_uint64.f cmp_isNaN_uint64.f Go.Lib.compareInt
  simp only [bne_self_eq_false, Option.bind_some, Bool.false_eq_true, if_false]
  split
  · rfl
  · split <;> first | rfl | omega
theorem cmp32 (x y : Int) : cmp_Compare_uint32.f x y = some (Go.Lib.compareInt x y) := by
  unfold cmp_Compare_uint32.f cmp_isNaN_uint32.f Go.Lib.compareInt
  simp only [bne_self_eq_false, Option.bind_some, Bool.false_eq_true, if_false]
  split
  · rfl
  · split <;> first | rfl | omega
theorem or_ev (a b : Int) : Ev (fun k => cmp_Or_int.f k [a, b]) (orI a b) := by
  unfold cmp_Or_int.f orI
  by_cases ha : a = 0
  · subst ha
    refine Ev.step (f := fun k => cmp_Or_int.l0 k 0 [0, b] 2 1) (fun k => by simp only [cmp_Or_int.l0]; rw [if_pos (by simp), if_pos (by decide), if_pos (by simp), if_pos (show rd [0, b] 0 = 0 from rfl), show wrap64 (0 + 1) = 1 from inc64 (i := 0) (by decide)]; rfl) ?_
    by_cases hb : b = 0
    · subst hb
      refine Ev.step (f := fun k => cmp_Or_int.l0 k 0 [0, 0] 2 2) (fun k => by simp only [cmp_Or_int.l0]; rw [if_pos (by decide), if_pos (by decide), if_pos (by simp), if_pos (show rd [0, 0] 1 = 0 from rfl), show wrap64 (1 + 1) = 2 from inc64 (i := 1) (by decide)]) ?_
      refine Ev.step (f := fun k => some 0) (fun k => by simp only [cmp_Or_int.l0]; rfl) (ev_eq (Ev.now _) (by simp))
    · refine Ev.step (f := fun k => some b) (fun k => ?_) (ev_eq (Ev.now _) (by simp))
      simp only [cmp_Or_int.l0]
      rw [if_pos (by decide), if_pos (by decide), if_pos (by simp), show rd [0, b] 1 = b from rfl, if_neg hb]
  · refine Ev.step (f := fun k => some a) (fun k => ?_) (ev_eq (Ev.now _) (by simp [ha]))
    simp only [cmp_Or_int.l0]
    rw [if_pos (by simp), if_pos (by decide), if_pos (by simp), show rd [a, b] 0 = a from rfl, if_neg ha]
theorem compare_ev (x y : E1) : Ev (fun k => table_Compare.f k x.f0 x.f1 y.f0 y.f1) (cfE x y) := by
  refine Ev.congr (f := fun k => (cmp_Or_int.f k [Go.Lib.compareInt x.f0 y.f0, Go.Lib.compareInt x.f1 y.f1]).bind fun t => some t) (fun k => ?_) (Ev.bind (f := fun _ t => some t) (or_ev _ _) (Ev.now _))
  unfold table_Compare.f
  rw [cmp64, Option.bind_some, cmp32, Option.bind_some]
theorem rise_loop (l : List E1) (hl : l.length ≤ 1000000) : ∀ (d i : Nat), i + 1 + d = l.length → Ev (fun k => table_Rising.l0 k l ((i + 1 : Nat) : Int)) (riseN l d i)
  | 0, i, h => by
    refine Ev.step (f := fun _ => some true) (fun k => ?_) (Ev.now _)
    unfold table_Rising.l0
    rw [if_neg (by omega)]
  | d + 1, i, h => by
    obtain ⟨x, hx⟩ : ∃ x, l[i]? = some x := ⟨_, List.getElem?_eq_getElem (by omega)⟩
    obtain ⟨y, hy⟩ : ∃ y, l[i + 1]? = some y := ⟨_, List.getElem?_eq_getElem (by omega)⟩
    refine Ev.step (f := fun k => (table_Compare.f k x.f0 x.f1 y.f0 y.f1).bind fun t => if t ≥ 0 then some false else table_Rising.l0 k l ((i + 1 + 1 : Nat) : Int)) (fun k => ?_) (Ev.bind (f := fun k t => if t ≥ 0 then some false else table_Rising.l0 k l ((i + 1 + 1 : Nat) : Int)) (compare_ev x y) ?_)
    · simp only [table_Rising.l0]
      rw [dec64 (by omega), if_pos (by omega), if_pos (by omega), if_pos (by omega), if_pos (by omega), rdE l i x hx, rdE l (i + 1) y hy, inc64 (by omega)]
    · unfold riseN
      rw [hx, hy]
      dsimp only
      by_cases hxy : lessE x y
      · refine Ev.congr (f := fun k => table_Rising.l0 k l ((i + 1 + 1 : Nat) : Int)) (fun k => ?_) (ev_eq (rise_loop l hl d (i + 1) (by omega)) (if_pos hxy).symm)
        rw [cfE_lt hxy, if_neg (by decide)]
      · refine Ev.congr (f := fun k => some false) (fun k => ?_) (ev_eq (Ev.now _) (if_neg hxy).symm)
        rcases lessE_tri x y with h1 | h1 | h1
        · exact absurd h1 hxy
        · rw [h1, cfE_same, if_pos (by decide)]
        · rw [cfE_gt h1, if_pos (by decide)]
theorem rise_ev (l : List E1) (hl : l.length ≤ 1000000) : Ev (fun k => table_Rising.f k l) (riseE l) := by
  by_cases h : l.length = 0
  · refine Ev.step (f := fun _ => some true) (fun k => ?_) (ev_eq (Ev.now _) (by unfold riseE; rw [h]; rfl))
    unfold table_Rising.f table_Rising.l0
    rw [if_neg (by omega)]
  · exact rise_loop l hl (l.length - 1) 0 (by omega)
end Go.Proofs.Ytekanmieppnpeaa.Tb
