/- A row of bytes, and the block in which it lies. -/
import Derived.Test.YtfeaalfajcdalaaHSep
set_option linter.unusedVariables false
namespace Go.Proofs.Ytfeaalfajcdalaa.Sep
open Go Go.RowKit Go.Proofs.YtfeaalfajcdalaaW.PrintWords Go.Proofs.YtfeaalfajcdalaaW.PrintLast Go.Proofs.YtfeaalfajcdalaaW.PrintMore

/-- A row of bytes that isn't empty, as the block that it lies in. -/
theorem row_blk {w0 w : World} {e : Nat} {v : Value} {xs : List Int} {ps : List HP} (h : Sep w0 w (row (Kd.int .u8) e v xs :: ps)) (hx : xs ≠ []) :
    ∃ (g cap : Nat) (cur : Array Value), v = .slice (some ⟨g, 0, none⟩) xs.length cap ∧ xs.length ≤ cap ∧ Sep w0 w (blk g cur e :: ps) ∧ ∀ (j : Nat) (x : Int), xs[j]? = some x → cur[j]? = some (.int .u8 x) := by
  obtain ⟨hb, bs, ⟨b1, b2, e1, ⟨h0, inner, ho, hrep⟩, hs⟩, hn, hr⟩ := h
  rcases ho.2 with ⟨_, hz⟩ | ⟨g, cap, cur, rfl, hbg, hg, hnc, hcm, hcs, ht⟩
  · exact absurd (List.length_eq_zero_iff.1 hz) hx
  · have hgb : g ∈ b1 := h0 g rfl
    subst e1
    obtain ⟨n1, n2, n3⟩ := List.nodup_append.1 hn
    refine ⟨g, cap, cur, rfl, hnc, ⟨hb, g :: b2, ⟨[g], b2, rfl, ⟨rfl, hg⟩, hs⟩, ?_, ?_⟩, ?_⟩
    · exact List.nodup_cons.2 ⟨fun hm => n3 g hgb g hm rfl, n2⟩
    · intro b hbm
      rcases List.mem_cons.1 hbm with rfl | hbm
      · exact hr _ (List.mem_append_left _ hgb)
      · exact hr b (List.mem_append_right _ hbm)
    · intro j x hj
      have hjl := (List.getElem?_eq_some_iff.1 hj).1
      have hM := hrep.2 j x hj
      have hK : (inner.drop (j * 1)).take 1 = [.int .u8 x] := (Kd.int .u8).K_of_M hM
      have h1 : inner[j]? = some (.int .u8 x) := by
        have h2 : ((inner.drop (j * 1)).take 1)[0]? = some (.int .u8 x) := by rw [hK]; rfl
        rw [List.getElem?_take, if_pos (by decide), List.getElem?_drop] at h2
        simpa using h2
      rw [← ht, List.getElem?_take] at h1
      split at h1
      · simpa using h1
      · cases h1
/-- Such a block, read as a row. -/
theorem blk_row {w0 w : World} {g : Nat} {cur : Array Value} {T : TypeId} {ps : List HP} (l : List Int) (h : Sep w0 w (blk g cur T :: ps)) (hc : ∀ (j : Nat) (x : Int), l[j]? = some x → cur[j]? = some (.int .u8 x)) (hl : l.length ≤ 9223372036854775807) :
    Kd.C (Kd.int .u8) w (some ⟨g, 0, none⟩) l.length l := by
  refine ⟨rfl, hl, fun _ => ⟨_, rfl, fun j p hj => ⟨[.int .u8 p], rfl, rfl, fun i u hu => ?_⟩⟩⟩
  have hi : i = 0 := by
    rcases i with _ | i
    · rfl
    · simp at hu
  subst hi
  simp only [List.getElem?_cons_zero, Option.some.injEq] at hu
  subst hu
  have ha : (⟨g, 0, none⟩ : Addr).add (j * 1 + 0) = ⟨g, j, none⟩ := by unfold Addr.add; split <;> simp_all
  show World.cell? _ ((⟨g, 0, none⟩ : Addr).add (j * 1 + 0)) = _
  rw [ha, h.cell j]
  exact hc j p hj

end Go.Proofs.Ytfeaalfajcdalaa.Sep
