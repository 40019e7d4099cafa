/- A block of numbers, read as a row. -/
import Derived.Test.YtmlodmpkcbncjaaHSep
import Derived.Test.YtmlodmpkcbncjaaHBytes
set_option linter.unusedVariables false
set_option linter.unusedSimpArgs false
namespace Go.Proofs.Ytmlodmpkcbncjaa.Sep
open Go Go.RowKit Go.Proofs.YtmlodmpkcbncjaaW.PrintWords Go.Proofs.YtmlodmpkcbncjaaW.PrintLast Go.Proofs.YtmlodmpkcbncjaaW.PrintMore

theorem blk_C {k : IntKind} {w0 W : World} {g : Nat} {cs : Array Value} {T : TypeId} {ps : List HP} (l : List Int) (h : Sep w0 W (blk g cs T :: ps)) (hc : cs = (l.map (Value.int k)).toArray) (hl : l.length ≤ 9223372036854775807) :
    Kd.C (Kd.int k) W (some ⟨g, 0, none⟩) l.length l := by
  refine ⟨rfl, hl, fun _ => ⟨_, rfl, fun j p hj => ⟨[.int k p], rfl, rfl, fun i u hu => ?_⟩⟩⟩
  have hi : i = 0 := by
    rcases i with _ | i
    · rfl
    · simp at hu
  subst hi
  simp only [List.getElem?_cons_zero, Option.some.injEq] at hu
  subst hu
  have ha : (⟨g, 0, none⟩ : Addr).add (j * 1 + 0) = ⟨g, j, none⟩ := by unfold Addr.add; split <;> simp_all
  show World.cell? _ ((⟨g, 0, none⟩ : Addr).add (j * 1 + 0)) = _
  rw [ha, h.cell j, hc]
  simp [hj]

end Go.Proofs.Ytmlodmpkcbncjaa.Sep
