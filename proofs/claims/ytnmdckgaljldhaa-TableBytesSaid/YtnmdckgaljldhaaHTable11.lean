/- table: the chapter's example; rows that lie in the program's own literals. -/
import Derived.Test.YtnmdckgaljldhaaMTab
set_option linter.unusedVariables false
set_option linter.unusedSimpArgs false
namespace Go.Proofs.Ytnmdckgaljldhaa.Tb
open Go Go.RowKit Go.Proofs.YtnmdckgaljldhaaW.PrintWords Go.Proofs.YtnmdckgaljldhaaW.PrintLast Go.Proofs.YtnmdckgaljldhaaW.PrintMore Go.Proofs.Ytnmdckgaljldhaa.Sep Go.Proofs.Ytnmdckgaljldhaa.G
set_option maxHeartbeats 4000000
set_option maxRecDepth 100000

/-- A row of entries, read. -/
theorem rowE_C {w0 W : World} {A : Option Addr} {n c : Nat} {l : List E1} {ps : List HP} (h : Sep.Sep w0 W (row kE 81 (.slice A n c) l :: ps)) : n = l.length ∧ l.length ≤ c ∧ kE.C W A l.length l := by
  obtain ⟨bs, hR⟩ := h.row_R
  obtain ⟨A', c', e, h1, h2⟩ := Kd.R_reads hR
  injection e with e1 e2 e3
  subst e1 e3
  exact ⟨e2, h1, h2⟩
/-- The cells of entries. -/
def cellsE (l : List E1) : List Value := l.flatMap fun x => [.int .u64 x.f0, .int .u32 x.f1]
theorem cellsE_len (l : List E1) : (cellsE l).length = l.length * 2 := by
  induction l with
  | nil => rfl
  | cons x l ih => rw [cellsE, List.flatMap_cons, List.length_append, ← cellsE, ih, List.length_cons]; simp; omega
theorem hold_cells (l : List E1) : Hold (cellsE l).toArray l := by
  intro j x hj
  rw [List.getElem?_toArray, List.getElem?_toArray]
  induction l generalizing j with
  | nil => cases hj
  | cons y l ih =>
    cases j with
    | zero =>
      have : y = x := by simpa using hj
      subst this
      exact ⟨rfl, rfl⟩
    | succ j =>
      have h := ih j (by simpa using hj)
      have e1 : 2 * (j + 1) = 2 * j + 1 + 1 := by omega
      have e2 : 2 * (j + 1) + 1 = 2 * j + 1 + 1 + 1 := by omega
      rw [e1]
      exact ⟨h.1, h.2⟩
/-- A literal of entries, laid. -/
theorem litE {w0 w : World} {ps : List HP} (l : List E1) (h : Sep.Sep w0 w ps) (hl : l.length ≤ 1000000) : Sep.Sep w0 (w.alloc (.cells (cellsE l).toArray 81 (0, 0))) (row kE 81 (.slice (some ⟨w.heap.size, 0, none⟩) l.length l.length) l :: ps) :=
  blk_rowE (h.alloc _ _) (Nat.le_refl _) (by unfold maxLen; omega) (by rw [List.size_toArray, cellsE_len]) (hold_cells l)

theorem live_sort : sortE [⟨5, 1⟩, ⟨2, 9⟩, ⟨5, 0⟩, ⟨2, 9⟩] = [⟨2, 9⟩, ⟨5, 0⟩, ⟨5, 1⟩] := by decide
theorem lives11 (w : World) : Calls Try.prog 45 #[] w fun e w' => e = .returned (.bool true) ∧ Below w.heap.size w w' := by
  have hS0 := litE [⟨5, 1⟩, ⟨2, 9⟩, ⟨5, 0⟩, ⟨2, 9⟩] (Sep.start w) (by decide)
  have hcall := Aside0.mk (sorted_call w _ _ 4 [⟨5, 1⟩, ⟨2, 9⟩, ⟨5, 0⟩, ⟨2, 9⟩] _ hS0 (rowE_C hS0).2.2 (by decide))
  rw [live_sort] at hcall
  clear hS0
  go_enter Try.func45, Try.ntmps45
  go_wp2_with (fail)
  refine hcall.out.mono ?_
  rintro r w1 ⟨A', cap, rfl, h1⟩
  obtain ⟨-, hcl, hC⟩ := rowE_C h1
  have hB := Aside0.mk h1.1
  obtain ⟨ad, e0, c00, c01⟩ := at_T81 hC 0 (by decide) (by decide)
  obtain ⟨ad1, e1, c10, c11⟩ := at_T81 hC 1 (by decide) (by decide)
  obtain ⟨ad2, e2, c20, c21⟩ := at_T81 hC 2 (by decide) (by decide)
  subst e0
  cases e1
  cases e2
  have d00 : w1.cell? ad = some (.int .u64 2) := c00
  have d01 : w1.cell? ⟨ad.block, ad.off + 1, none⟩ = some (.int .u32 9) := c01
  have d10 : w1.cell? ⟨ad.block, ad.off + 2, none⟩ = some (.int .u64 5) := c10
  have d11 : w1.cell? ⟨ad.block, ad.off + 2 + 1, none⟩ = some (.int .u32 0) := c11
  have d20 : w1.cell? ⟨ad.block, ad.off + 4, none⟩ = some (.int .u64 5) := c20
  have d21 : w1.cell? ⟨ad.block, ad.off + 4 + 1, none⟩ = some (.int .u32 1) := c21
  have d11' : w1.cell? ⟨ad.block, ad.off + 3, none⟩ = some (.int .u32 0) := c11
  have d21' : w1.cell? ⟨ad.block, ad.off + 5, none⟩ = some (.int .u32 1) := c21
  simp only [List.length_cons, List.length_nil, Nat.zero_add, Nat.reduceAdd]
  clear h1 hC hcl c00 c01 c10 c11 c20 c21
  go_wp2_with (fail)
  go_ret
  exact ⟨rfl, hB.out⟩
end Go.Proofs.Ytnmdckgaljldhaa.Tb
