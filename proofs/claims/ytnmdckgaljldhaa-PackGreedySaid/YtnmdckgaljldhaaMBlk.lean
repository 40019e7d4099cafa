/- HBlk HRowBlk, in one text (merge.py). -/
import Derived.Test.YtnmdckgaljldhaaHSep
import Derived.Test.YtnmdckgaljldhaaHBytes
/- A block of numbers, read as a row. -/
set_option linter.unusedVariables false
set_option linter.unusedSimpArgs false
namespace Go.Proofs.Ytnmdckgaljldhaa.Sep
open Go Go.RowKit Go.Proofs.YtnmdckgaljldhaaW.PrintWords Go.Proofs.YtnmdckgaljldhaaW.PrintLast Go.Proofs.YtnmdckgaljldhaaW.PrintMore

theorem blk_C {k : IntKind} {w0 W : World} {g : Nat} {cs : Array Value} {T : TypeId} {ps : List HP} (l : List Int) (h : Sep w0 W (blk g cs T :: ps)) (hc : cs = (l.map (Value.int k)).toArray) (hl : l.length ≤ 9223372036854775807) :
    Kd.C (Kd.int k) W (some ⟨g, 0, none⟩) l.length l := by
  refine ⟨rfl, hl, fun _ => ⟨_, rfl, fun j p hj => ⟨[.int k p], rfl, rfl, fun i u hu => ?_⟩⟩⟩
  have hi : i = 0 := by
    rcases i with _ | i
    · rfl
    · simp at hu
  subst hi
  simp only [List.getElem?_cons_zero, Option.some.injEq] at hu
  subst hu
  have ha : (⟨g, 0, none⟩ : Addr).add (j * 1 + 0) = ⟨g, j, none⟩ := by unfold Addr.add; split <;> simp_all
  show World.cell? _ ((⟨g, 0, none⟩ : Addr).add (j * 1 + 0)) = _
  rw [ha, h.cell j, hc]
  simp [hj]

end Go.Proofs.Ytnmdckgaljldhaa.Sep

/- A row of bytes, and the block in which it lies. -/
set_option linter.unusedVariables false
namespace Go.Proofs.Ytnmdckgaljldhaa.Sep
open Go Go.RowKit Go.Proofs.YtnmdckgaljldhaaW.PrintWords Go.Proofs.YtnmdckgaljldhaaW.PrintLast Go.Proofs.YtnmdckgaljldhaaW.PrintMore

/-- A row of bytes that isn't empty, as the block that it lies in. -/
theorem row_blk {k : IntKind} {w0 w : World} {e : Nat} {v : Value} {xs : List Int} {ps : List HP} (h : Sep w0 w (row (Kd.int k) e v xs :: ps)) (hx : xs ≠ []) :
    ∃ (g cap : Nat) (cur : Array Value), v = .slice (some ⟨g, 0, none⟩) xs.length cap ∧ xs.length ≤ cap ∧ Sep w0 w (blk g cur e :: ps) ∧ ∀ (j : Nat) (x : Int), xs[j]? = some x → cur[j]? = some (.int k x) := by
  obtain ⟨hb, bs, ⟨b1, b2, e1, ⟨h0, inner, ho, hrep⟩, hs⟩, hn, hr⟩ := h
  rcases ho.2 with ⟨_, hz⟩ | ⟨g, cap, cur, rfl, hbg, hg, hnc, hcm, hcs, ht⟩
  · exact absurd (List.length_eq_zero_iff.1 hz) hx
  · have hgb : g ∈ b1 := h0 g rfl
    subst e1
    obtain ⟨n1, n2, n3⟩ := List.nodup_append.1 hn
    refine ⟨g, cap, cur, rfl, hnc, ⟨hb, g :: b2, ⟨[g], b2, rfl, ⟨rfl, hg⟩, hs⟩, ?_, ?_⟩, ?_⟩
    · exact List.nodup_cons.2 ⟨fun hm => n3 g hgb g hm rfl, n2⟩
    · intro b hbm
      rcases List.mem_cons.1 hbm with rfl | hbm
      · exact hr _ (List.mem_append_left _ hgb)
      · exact hr b (List.mem_append_right _ hbm)
    · intro j x hj
      have hjl := (List.getElem?_eq_some_iff.1 hj).1
      have hM := hrep.2 j x hj
      have hK : (inner.drop (j * 1)).take 1 = [.int k x] := (Kd.int k).K_of_M hM
      have h1 : inner[j]? = some (.int k x) := by
        have h2 : ((inner.drop (j * 1)).take 1)[0]? = some (.int k x) := by rw [hK]; rfl
        rw [List.getElem?_take, if_pos (by decide), List.getElem?_drop] at h2
        simpa using h2
      rw [← ht, List.getElem?_take] at h1
      split at h1
      · simpa using h1
      · cases h1
/-- Such a block, read as a row. -/
theorem blk_row {w0 w : World} {g : Nat} {cur : Array Value} {T : TypeId} {ps : List HP} (l : List Int) (h : Sep w0 w (blk g cur T :: ps)) (hc : ∀ (j : Nat) (x : Int), l[j]? = some x → cur[j]? = some (.int .u8 x)) (hl : l.length ≤ 9223372036854775807) :
    Kd.C (Kd.int .u8) w (some ⟨g, 0, none⟩) l.length l := by
  refine ⟨rfl, hl, fun _ => ⟨_, rfl, fun j p hj => ⟨[.int .u8 p], rfl, rfl, fun i u hu => ?_⟩⟩⟩
  have hi : i = 0 := by
    rcases i with _ | i
    · rfl
    · simp at hu
  subst hi
  simp only [List.getElem?_cons_zero, Option.some.injEq] at hu
  subst hu
  have ha : (⟨g, 0, none⟩ : Addr).add (j * 1 + 0) = ⟨g, j, none⟩ := by unfold Addr.add; split <;> simp_all
  show World.cell? _ ((⟨g, 0, none⟩ : Addr).add (j * 1 + 0)) = _
  rw [ha, h.cell j]
  exact hc j p hj

end Go.Proofs.Ytnmdckgaljldhaa.Sep
