/- table: the chapter's example; rows that lie in the program's own literals. -/
import Derived.Test.YtekanmieppnpeaaMTab
set_option linter.unusedVariables false
set_option linter.unusedSimpArgs false
namespace Go.Proofs.Ytekanmieppnpeaa.Tb
open Go Go.RowKit Go.Proofs.YtekanmieppnpeaaW.PrintWords Go.Proofs.YtekanmieppnpeaaW.PrintLast Go.Proofs.YtekanmieppnpeaaW.PrintMore Go.Proofs.Ytekanmieppnpeaa.Sep Go.Proofs.Ytekanmieppnpeaa.G
set_option maxHeartbeats 4000000
set_option maxRecDepth 100000

/-- A row of entries, read. -/
theorem rowE_C {w0 W : World} {A : Option Addr} {n c : Nat} {l : List E1} {ps : List HP} (h : Sep.Sep w0 W (row kE 33 (.slice A n c) l :: ps)) : n = l.length ∧ l.length ≤ c ∧ kE.C W A l.length l := by
  obtain ⟨bs, hR⟩ := h.row_R
  obtain ⟨A', c', e, h1, h2⟩ := Kd.R_reads hR
  injection e with e1 e2 e3
  subst e1 e3
  exact ⟨e2, h1, h2⟩
/-- The cells of entries. -/
def cellsE (l : List E1) : List Value := l.flatMap fun x => [.int .u64 x.f0, .int .u32 x.f1]
theorem cellsE_len (l : List E1) : (cellsE l).length = l.length * 2 := by
  induction l with
  | nil => rfl
  | cons x l ih => rw [cellsE, List.flatMap_cons, List.length_append, ← cellsE, ih, List.length_cons]; simp; omega
theorem hold_cells (l : List E1) : Hold (cellsE l).toArray l := by
  intro j x hj
  rw [List.getElem?_toArray, List.getElem?_toArray]
  induction l generalizing j with
  | nil => cases hj
  | cons y l ih =>
    cases j with
    | zero =>
      have : y = x := by simpa using hj
      subst this
      exact ⟨rfl, rfl⟩
    | succ j =>
      have h := ih j (by simpa using hj)
      have e1 : 2 * (j + 1) = 2 * j + 1 + 1 := by omega
      have e2 : 2 * (j + 1) + 1 = 2 * j + 1 + 1 + 1 := by omega
      rw [e1]
      exact ⟨h.1, h.2⟩
/-- A literal of entries, laid. -/
theorem litE {w0 w : World} {ps : List HP} (l : List E1) (h : Sep.Sep w0 w ps) (hl : l.length ≤ 1000000) : Sep.Sep w0 (w.alloc (.cells (cellsE l).toArray 33 (0, 0))) (row kE 33 (.slice (some ⟨w.heap.size, 0, none⟩) l.length l.length) l :: ps) :=
  blk_rowE (h.alloc _ _) (Nat.le_refl _) (by unfold maxLen; omega) (by rw [List.size_toArray, cellsE_len]) (hold_cells l)

end Go.Proofs.Ytekanmieppnpeaa.Tb
