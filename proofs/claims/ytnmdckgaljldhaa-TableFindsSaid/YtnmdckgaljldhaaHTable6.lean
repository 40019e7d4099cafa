/- table: a row of entries as a block, and back; clear over entries. -/
import Derived.Test.YtnmdckgaljldhaaHTable5
import Derived.Test.YtnmdckgaljldhaaLTable
set_option linter.unusedVariables false
set_option linter.unusedSimpArgs false
namespace Go.Proofs.Ytnmdckgaljldhaa.Tb
open Go Go.RowKit Go.Proofs.YtnmdckgaljldhaaW.PrintWords Go.Proofs.YtnmdckgaljldhaaW.PrintLast Go.Proofs.YtnmdckgaljldhaaW.PrintMore Go.Proofs.Ytnmdckgaljldhaa.Sep Go.Proofs.Ytnmdckgaljldhaa.G
set_option maxHeartbeats 4000000
set_option maxRecDepth 100000

/-- The first cells are these entries. -/
def Hold (cur : Array Value) (l : List E1) : Prop := ∀ (j : Nat) (x : E1), l[j]? = some x → cur[2 * j]? = some (.int .u64 x.f0) ∧ cur[2 * j + 1]? = some (.int .u32 x.f1)
theorem rowE_blk {w0 w : World} {v : Value} {l : List E1} {ps : List HP} (h : Sep.Sep w0 w (row kE 81 v l :: ps)) (hx : l ≠ []) :
    ∃ (g cap : Nat) (cur : Array Value), v = .slice (some ⟨g, 0, none⟩) l.length cap ∧ l.length ≤ cap ∧ cap ≤ maxLen ∧ cur.size = cap * 2 ∧ Sep.Sep w0 w (blk g cur 81 :: ps) ∧ Hold cur l := by
  obtain ⟨hb, bs, ⟨b1, b2, e1, ⟨h0, inner, ho, hrep⟩, hs⟩, hn, hr⟩ := h
  rcases ho.2 with ⟨_, hz⟩ | ⟨g, cap, cur, rfl, hbg, hg, hnc, hcm, hcs, ht⟩
  · exact absurd (List.length_eq_zero_iff.1 hz) hx
  · have hgb : g ∈ b1 := h0 g rfl
    subst e1
    obtain ⟨n1, n2, n3⟩ := List.nodup_append.1 hn
    refine ⟨g, cap, cur, rfl, hnc, hcm, hcs, ⟨hb, g :: b2, ⟨[g], b2, rfl, ⟨rfl, hg⟩, hs⟩, ?_, ?_⟩, ?_⟩
    · exact List.nodup_cons.2 ⟨fun hm => n3 g hgb g hm rfl, n2⟩
    · intro b hbm
      rcases List.mem_cons.1 hbm with rfl | hbm
      · exact hr _ (List.mem_append_left _ hgb)
      · exact hr b (List.mem_append_right _ hbm)
    · intro j x hj
      have ht : cur.toList.take (l.length * 2) = inner := ht
      have hjl := (List.getElem?_eq_some_iff.1 hj).1
      have hM := hrep.2 j x hj
      have hK : (inner.drop (j * 2)).take 2 = [.int .u64 x.f0, .int .u32 x.f1] := k81_openM hM
      have hin : ∀ t, t < 2 → inner[j * 2 + t]? = [Value.int .u64 x.f0, .int .u32 x.f1][t]? := by
        intro t htt
        rw [← hK, List.getElem?_take, if_pos htt, List.getElem?_drop]
      have hcur : ∀ t, t < 2 → cur[2 * j + t]? = [Value.int .u64 x.f0, .int .u32 x.f1][t]? := by
        intro t htt
        rw [← hin t htt, ← ht, List.getElem?_take, if_pos (show j * 2 + t < l.length * 2 by omega), Array.getElem?_toList, Nat.mul_comm]
      exact ⟨hcur 0 (by decide), hcur 1 (by decide)⟩
/-- And back. -/
theorem blk_rowE {w0 w : World} {g cap : Nat} {cur : Array Value} {l : List E1} {ps : List HP} (h : Sep.Sep w0 w (blk g cur 81 :: ps)) (hl : l.length ≤ cap) (hcm : cap ≤ maxLen) (hcs : cur.size = cap * 2) (hH : Hold cur l) :
    Sep.Sep w0 w (row kE 81 (.slice (some ⟨g, 0, none⟩) l.length cap) l :: ps) := by
  obtain ⟨hb, bs, ⟨b1, b2, e1, ⟨eb, hg⟩, hs⟩, hn, hr⟩ := h
  subst eb e1
  have hcl : cur.toList.length = cap * 2 := by rw [← hcs]; exact Array.length_toList
  refine ⟨hb, _, ⟨[g], b2, rfl, ⟨fun k hk => ?_, cur.toList.take (l.length * 2), ⟨?_, .inr ⟨g, cap, cur, rfl, Nat.zero_le _, hg, hl, hcm, hcs, rfl⟩⟩, ?_, ?_⟩, hs⟩, hn, hr⟩
  · have : g = k := by simpa [Value.ownBlock] using hk
    subst this
    exact List.mem_singleton.2 rfl
  · show (cur.toList.take (l.length * 2)).length = l.length * 2
    rw [List.length_take, hcl]; omega
  · show (cur.toList.take (l.length * 2)).length = l.length * 2
    rw [List.length_take, hcl]; omega
  · intro j x hj
    have hjl := (List.getElem?_eq_some_iff.1 hj).1
    obtain ⟨c0, c1⟩ := hH j x hj
    have : ((cur.toList.take (l.length * 2)).drop (j * 2)).take 2 = [.int .u64 x.f0, .int .u32 x.f1] := by
      apply List.ext_getElem?
      intro t
      rw [List.getElem?_take]
      by_cases ht : t < 2
      · rw [if_pos ht, List.getElem?_drop, List.getElem?_take, if_pos (by omega), Array.getElem?_toList]
        match t, ht with
        | 0, _ => rw [show j * 2 + 0 = 2 * j by omega, c0]; rfl
        | 1, _ => rw [show j * 2 + 1 = 2 * j + 1 by omega, c1]; rfl
      · rw [if_neg ht, List.getElem?_eq_none (by simp; omega)]
    show kE.M _ _ _ x _
    rw [show ((cur.toList.take (l.length * 2)).drop (j * kE.sz)).take kE.sz = [.int .u64 x.f0, .int .u32 x.f1] from this]
    exact k81_mkM _ _ _ x

theorem setCells_blk {w0 : World} {g : Nat} {T : TypeId} {ps : List HP} : ∀ (vs : List Value) (o : Nat) (w : World) (cs : Array Value), Sep.Sep w0 w (blk g cs T :: ps) →
    ∃ cs' : Array Value, Sep.Sep w0 (w.setCells g o vs) (blk g cs' T :: ps) ∧ cs'.size = cs.size ∧ ∀ i, i < o → cs'[i]? = cs[i]?
  | [], o, w, cs, h => ⟨cs, h, rfl, fun _ _ => rfl⟩
  | v :: vs, o, w, cs, h => by
    obtain ⟨cs', h1, h2, h3⟩ := setCells_blk vs (o + 1) _ _ (h.set o v)
    refine ⟨cs', h1, by rw [h2, Array.size_setIfInBounds], fun i hi => ?_⟩
    rw [h3 i (by omega), Array.getElem?_setIfInBounds, if_neg (by omega)]

/-- clear over entries. -/
theorem run_clearE (w : World) (ty : TypeId) (g o n c : Nat) (cur : Array Value) (hg : w.heap[g]? = some (.cells cur 81 (0, 0))) (hn : 0 < n) (hs : o + n * 2 ≤ cur.size) :
    (Builtin.clear_ #[77] ty #[.slice (some ⟨g, o, none⟩) n c]).run Try.prog w = .ok (.tuple #[]) (w.setCells g o (Builtin.zeroCells #[.int .u64 0, .int .u32 0] n).toList) := by
  have hsz : (Builtin.zeroCells #[.int .u64 0, .int .u32 0] n).toList.length = n * 2 := by simp [Builtin.zeroCells]
  have hone : ∀ v ∈ (Builtin.zeroCells #[.int .u64 0, .int .u32 0] n).toList, v.oneCell' = true := by
    intro v hv
    simp only [Builtin.zeroCells, Array.toList_map, List.mem_map] at hv
    obtain ⟨i, _, rfl⟩ := hv
    rcases Nat.mod_two_eq_zero_or_one i with h | h
    · rw [show (#[Value.int .u64 0, Value.int .u32 0] : Array Value).size = 2 from rfl, h]; rfl
    · rw [show (#[Value.int .u64 0, Value.int .u32 0] : Array Value).size = 2 from rfl, h]; rfl
  have hst := run_storeCells_cells (P := Try.prog) g o (Builtin.zeroCells #[.int .u64 0, .int .u32 0] n).toList 0 w
    (fun j hj => by rw [hsz] at hj; rw [blk_cell hg, Array.getElem?_eq_getElem (by omega)]; rfl) (fun j hj => blk_frozen hg _) hone
  simp only [Nat.add_zero] at hst
  have hz := Try.zeroValue81 w
  obtain ⟨m, rfl⟩ : ∃ m, n = m + 1 := ⟨n - 1, by omega⟩
  simp [Builtin.clear_, run_underlying Try.underlying77, hz, Value.cells, hst]
end Go.Proofs.Ytnmdckgaljldhaa.Tb
