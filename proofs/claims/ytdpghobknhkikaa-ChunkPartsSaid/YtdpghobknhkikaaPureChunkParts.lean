/- fasciclelaw22.ChunkParts holds: however bytes are cut, the chunks are the document's; for every input, no condition. -/
import Derived.Test.YtdpghobknhkikaaGx5
import Derived.Test.YtdpghobknhkikaaLChunk
set_option linter.unusedVariables false
namespace Go.Proofs.Ytdpghobknhkikaa.LChunk
open Go.RowKit Go.Proofs.Ytdpghobknhkikaa.G Go.Proofs.YtdpghobknhkikaaW.PrintWords Go.Proofs.YtdpghobknhkikaaW.PrintLast Go.Proofs.Ytdpghobknhkikaa.PureKit

theorem cout_append (size : Int) : ∀ (a b : List Int) (s t f : Int), cout size (a ++ b) s t f = cout size a s t f ++ cout size b (cst size a s t f).1 (cst size a s t f).2.1 (cst size a s t f).2.2
  | [], b, s, t, f => by simp [cout, cst]
  | x :: xs, b, s, t, f => by
    by_cases hx : x = 0
    · by_cases he : t + 1 = size <;> simp [cout, cst, hx, he, cout_append size xs]
    · by_cases he : t + 1 = size <;> simp [cout, cst, hx, he, cout_append size xs]
theorem cst_append (size : Int) : ∀ (a b : List Int) (s t f : Int), cst size (a ++ b) s t f = cst size b (cst size a s t f).1 (cst size a s t f).2.1 (cst size a s t f).2.2
  | [], b, s, t, f => by simp [cst]
  | x :: xs, b, s, t, f => by
    by_cases he : t + 1 = size <;> simp [cst, he, cst_append size xs]

/-- Where it is, by the bytes so far. -/
theorem cst_at (size : Int) (h1 : 1 ≤ size) : ∀ (l : List Int) (s a f : Int), 0 ≤ a → a < size →
    (cst size l s a f).1 * size + (cst size l s a f).2.1 = s * size + a + l.length ∧ 0 ≤ (cst size l s a f).2.1 ∧ (cst size l s a f).2.1 < size
  | [], s, a, f, h0, h2 => by simp [cst, h0, h2]
  | x :: xs, s, a, f, h0, h2 => by
    by_cases he : a + 1 = size
    · simp only [cst, if_pos he]
      have := cst_at size h1 xs (s + 1) 0 0 (by omega) (by omega)
      refine ⟨?_, this.2⟩
      rw [this.1, List.length_cons, Int.add_mul]
      omega
    · simp only [cst, if_neg he]
      have := cst_at size h1 xs s (a + 1) (if x = 0 then a + 1 else f) (by omega) (by omega)
      refine ⟨?_, this.2⟩
      rw [this.1, List.length_cons]
      omega

/-- What is open: behind the last chunk of the segment, or all of it. -/
def Open (o : List (Int × Int × Int)) (s f : Int) : Prop := (∀ t, o.getLast? = some t → t.1 ≤ s ∧ (t.1 = s → f = t.2.2 + 1) ∧ (t.1 ≠ s → f = 0)) ∧ (o = [] → f = 0)
theorem open_cst (size : Int) : ∀ (l : List Int) (o : List (Int × Int × Int)) (s a f : Int), Open o s f → Open (o ++ cout size l s a f) (cst size l s a f).1 (cst size l s a f).2.2
  | [], o, s, a, f, h => by simpa [cout, cst] using h
  | x :: xs, o, s, a, f, h => by
    by_cases hx : x = 0
    · by_cases he : a + 1 = size
      · have := open_cst size xs (o ++ [(s, f, a)]) (s + 1) 0 0 ⟨fun t ht => by
          simp at ht; subst ht; exact ⟨by simp; omega, fun e => by simp at e; omega, fun _ => rfl⟩, fun e => by simp at e⟩
        simpa [cout, cst, hx, he] using this
      · have := open_cst size xs (o ++ [(s, f, a)]) s (a + 1) (a + 1) ⟨fun t ht => by
          simp at ht; subst ht; exact ⟨by simp, fun _ => rfl, fun e => absurd rfl e⟩, fun e => by simp at e⟩
        simpa [cout, cst, hx, he] using this
    · by_cases he : a + 1 = size
      · have := open_cst size xs o (s + 1) 0 0 ⟨fun t ht => ⟨by have := (h.1 t ht).1; omega, fun e => by have := (h.1 t ht).1; omega, fun _ => rfl⟩, fun _ => rfl⟩
        simpa [cout, cst, hx, he] using this
      · have := open_cst size xs o s (a + 1) f h
        simpa [cout, cst, hx, he] using this
theorem cst_from (size : Int) : ∀ (l : List Int) (s a f : Int), 0 ≤ a → 0 ≤ f → f ≤ a → 0 ≤ (cst size l s a f).2.2 ∧ (cst size l s a f).2.2 ≤ (cst size l s a f).2.1
  | [], s, a, f, _, h0, h2 => by simp [cst, h0, h2]
  | x :: xs, s, a, f, ha, h0, h2 => by
    by_cases he : a + 1 = size
    · simp only [cst, if_pos he]; exact cst_from size xs (s + 1) 0 0 (by omega) (by omega) (by omega)
    · simp only [cst, if_neg he]
      exact cst_from size xs s (a + 1) _ (by omega) (by split <;> omega) (by split <;> omega)

theorem parts_l0 (n : Int) (hn : n ≤ 9223372036854775807) (parts : List (List Int)) (hb : ∀ y ∈ parts, Bytes y) (hl : parts.length ≤ 20) : ∀ (d i : Nat) (p : List Int), i + d = parts.length → Bytes p → p.length ≤ 200 * i →
    Ev (fun k => fasciclelaw22_ChunkParts.l0 k n ((cout (max 1 n) p 0 0 0).map mkC) (strOfNums p) parts (parts.length : Int) (i : Int) (max 1 n) (cst (max 1 n) p 0 0 0).1 (cst (max 1 n) p 0 0 0).2.1 (cst (max 1 n) p 0 0 0).2.2) true := by
  intro d
  induction d with
  | zero =>
    intro i p hi hbp hpl
    refine Ev.step (f := fun _ => some true) (fun k => ?_) (Ev.now _)
    simp only [fasciclelaw22_ChunkParts.l0]; rw [if_neg (by omega)]
  | succ d ih =>
    intro i p hi hbp hpl
    have hlt : i < parts.length := by omega
    have hrd : rd_L5 parts (i : Int) = parts[i] := by simp [rd_L5, List.getD_eq_getElem?_getD, hlt]
    have hbi : Bytes parts[i] := hb _ (List.getElem_mem hlt)
    have hm : mx 1 n = max 1 n := by
      unfold mx
      by_cases h : 1 < n
      · rw [if_pos h, Int.max_eq_right (by omega)]
      · rw [if_neg h, Int.max_eq_left (by omega)]
    by_cases hbig : (parts[i].length : Int) > 200
    · refine Ev.step (f := fun _ => some true) (fun k => ?_) (Ev.now _)
      simp only [fasciclelaw22_ChunkParts.l0]; rw [if_pos (by omega), if_pos (by omega), if_pos (by omega), hrd, if_pos hbig]
    · have h1 : 1 ≤ max 1 n := by omega
      have hsz : max 1 n ≤ 9223372036854775807 := by omega
      have hnx := ih (i + 1) (p ++ parts[i]) (by omega) (hbp.append hbi) (by rw [List.length_append]; omega)
      have hat := cst_at (max 1 n) h1 p 0 0 0 (by omega) (by omega)
      have hat' := cst_at (max 1 n) h1 (p ++ parts[i]) 0 0 0 (by omega) (by omega)
      have hco := cout_len (max 1 n) p 0 0 0
      have hco' := cout_len (max 1 n) (p ++ parts[i]) 0 0 0
      have hcl : List.countP (fun x => decide (x = 0)) p ≤ p.length := List.countP_le_length
      have hcl' : List.countP (fun x => decide (x = 0)) (p ++ parts[i]) ≤ (p ++ parts[i]).length := List.countP_le_length
      have hfr := cst_from (max 1 n) (p ++ parts[i]) 0 0 0 (by omega) (by omega) (by omega)
      have hop := open_cst (max 1 n) (p ++ parts[i]) [] 0 0 0 ⟨fun t ht => by simp at ht, fun _ => rfl⟩
      have hw := write_l0 parts[i] (max 1 n) hsz (by omega) parts[i].length 0 [] (cst (max 1 n) p 0 0 0).1 (cst (max 1 n) p 0 0 0).2.1 (cst (max 1 n) p 0 0 0).2.2 (by omega) hat.2.1 hat.2.2 (by
        have := hat.1
        rcases Int.lt_or_le (cst (max 1 n) p 0 0 0).1 0 with h | h
        · have h3 : (cst (max 1 n) p 0 0 0).1 * max 1 n ≤ (-1) * max 1 n := Int.mul_le_mul_of_nonneg_right (by omega) (by omega)
          omega
        · exact h) (by
        have := hat.1
        rcases Int.lt_or_le (p.length : Int) (cst (max 1 n) p 0 0 0).1 with h | h
        · have h3 : (cst (max 1 n) p 0 0 0).1 * 1 ≤ (cst (max 1 n) p 0 0 0).1 * max 1 n := Int.mul_le_mul_of_nonneg_left (by omega) (by omega)
          omega
        · omega) (by simp; omega)
      rw [List.drop_zero, List.nil_append] at hw
      rw [cst_append] at hnx hat' hfr hop
      rw [cout_append] at hnx hco' hop
      rw [List.nil_append] at hop
      rw [List.length_append] at hat' hcl'
      generalize hst : cst (max 1 n) p 0 0 0 = st at *
      obtain ⟨s, a, f⟩ := st
      simp only [] at *
      generalize hst' : cst (max 1 n) parts[i] s a f = st' at *
      obtain ⟨s', a', f'⟩ := st'
      simp only [] at *
      have hcount := cout_append (max 1 n) p parts[i] 0 0 0
      rw [hst] at hcount
      simp only [] at hcount
      have hrf := ref_f n hn (p ++ parts[i]) (hbp.append hbi) (by rw [List.length_append]; omega)
      rw [hcount] at hrf
      have hlen2 : (cout (max 1 n) p 0 0 0 ++ cout (max 1 n) parts[i] s a f).length ≤ 8000 := by omega
      have hsm := same_f (cout (max 1 n) p 0 0 0 ++ cout (max 1 n) parts[i] s a f) (by omega)
      have hmulc : s' * max 1 n + a' = ((p.length + parts[i].length : Nat) : Int) := by have := hat'.1; omega
      have hmpos : (0 : Int) < max 1 n := by omega
      have hdiv : ((p.length + parts[i].length : Nat) : Int) / max 1 n = s' := by
        rw [← hmulc, Int.add_comm, Int.add_mul_ediv_right _ _ (by omega), Int.ediv_eq_zero_of_lt hat'.2.1 hat'.2.2]; omega
      have hmod : ((p.length + parts[i].length : Nat) : Int) % max 1 n = a' := by
        rw [← hmulc, Int.add_comm, Int.add_mul_emod_self_right, Int.emod_eq_of_lt hat'.2.1 hat'.2.2]
      have hs0 : 0 ≤ s' := by rw [← hdiv]; exact Int.ediv_nonneg (by omega) (by omega)
      have hs1 : s' ≤ ((p.length + parts[i].length : Nat) : Int) := by rw [← hdiv]; exact Int.ediv_le_self _ (by omega)
      have hsize : (strOfNums p ++ strOfNums parts[i]).size = p.length + parts[i].length := by rw [PureKit.nums_append, nums_size, List.length_append]
      refine Ev.step (f := ?ff1) (fun k => ?hs1) ?ht1
      case hs1 =>
        simp only [fasciclelaw22_ChunkParts.l0]
        rw [if_pos (by omega), if_pos (by omega), if_pos (by omega), hrd, if_neg hbig, hm]
        try exact rfl
      refine Ev.bind (a := ?aa2) ?hs2 ?ht2
      case hs2 =>
        unfold chunk_Cutter_Write.f; exact hw
      simp only []
      refine Ev.congr (f := ?ff3) (fun k => ?hs3) ?ht3
      case hs3 =>
        rw [if_pos (by simp only [List.length_map]; rw [List.length_append] at hlen2; omega), Option.bind_some, if_pos (by rw [nums_size, nums_size]; omega), ← List.map_append, PureKit.nums_append]
        try exact rfl
      refine Ev.bind hrf ?_
      simp only [chunk_Cutter_At.f, Option.bind_some]
      refine Ev.bind hsm ?_
      have hsz2 : ((strOfNums (p ++ parts[i])).size : Int) = ((p.length + parts[i].length : Nat) : Int) := by rw [nums_size, List.length_append]
      refine Ev.congr (f := ?ff4) (fun k => ?hs4) ?ht4
      case hs4 =>
        rw [if_pos rfl, if_neg (by omega), hsz2, hdiv, hmod, w64 (by omega) (by omega), wu64 (by omega) (by omega), if_pos rfl, show (a' != a') = false from bne_self_eq_false a']
        try exact rfl
      generalize hL : cout (max 1 n) p 0 0 0 ++ cout (max 1 n) parts[i] s a f = L at *
      have hopen : Ev (fun k => fasciclelaw22_ChunkParts.l0 k n (L.map mkC) (strOfNums (p ++ parts[i])) parts (parts.length : Int) (wrap64 ((i : Int) + 1)) (max 1 n) s' a' f') true := by
        rw [w64 (by omega) (by omega)]; exact hnx
      have hop1 : wrap64 (a' - f') = a' - f' := w64 (by omega) (by omega)
      have hfin : ∀ o : Int, a' - f' = o → Ev (fun k => fasciclelaw22_ChunkParts.j3 k n (L.map mkC) (strOfNums (p ++ parts[i])) (L.map mkD) a' o parts (parts.length : Int) (i : Int) false (max 1 n) s' a' f') true := by
        intro o ho
        refine Ev.step (fun k => ?_) hopen
        simp only [fasciclelaw22_ChunkParts.j3, chunk_Cutter_Open.f, Option.bind_some]
        rw [if_neg (by decide), if_pos (by omega)]
      refine Ev.step (f := ?ff5) (fun k => ?hs5) ?ht5
      case hs5 =>
        simp only [fasciclelaw22_ChunkParts.j2]
        rw [if_neg (by decide)]
        try exact rfl
      simp only [List.length_map]
      by_cases hz : L.length = 0
      · have hL0 : L = [] := List.eq_nil_of_length_eq_zero hz
        refine Ev.congr (fun k => ?_) (hfin a' (by have := hop.2 hL0; omega))
        rw [if_neg (by omega)]
      · obtain ⟨t, hla⟩ : ∃ t, L.getLast? = some t := by
          cases hc : L.getLast? with
          | none => exact absurd (by rw [List.getLast?_eq_none_iff.1 hc]; rfl) hz
          | some t => exact ⟨t, rfl⟩
        have ho2 := hop.1 _ hla
        rw [List.getLast?_eq_getElem?] at hla
        have hrdl : rd_T38 (L.map mkD) (wrap64 ((L.length : Int) - 1)) = mkD t := by
          rw [w64 (by omega) (by omega), show (L.length : Int) - 1 = ((L.length - 1 : Nat) : Int) by omega]
          simp only [rd_T38, Int.toNat_natCast, List.getD_eq_getElem?_getD, List.getElem?_map]
          rw [hla]; rfl
        have hwl : wrap64 ((L.length : Int) - 1) = (L.length : Int) - 1 := w64 (by omega) (by omega)
        refine Ev.congr (f := ?ff6) (fun k => ?hs6) ?ht6
        case hs6 =>
          rw [if_pos (by omega), if_pos (by omega), if_pos (by omega), hrdl]
          try exact rfl
        by_cases hts : t.1 = s'
        · have hff := ho2.2.1 hts
          refine Ev.step (fun k => ?_) hopen
          simp only [fasciclelaw22_ChunkParts.j3, chunk_Cutter_Open.f, Option.bind_some, List.length_map]
          rw [if_pos (by simp [mkD, hts]), if_pos (by omega), if_pos (by omega), hrdl, hop1]
          have h3 : wrap64 (a' - (mkD t).f2) = a' - t.2.2 := w64 (by simp only [mkD]; omega) (by simp only [mkD]; omega)
          rw [h3, w64 (by omega) (by omega), if_pos (by omega)]
        · have hff := ho2.2.2 hts
          refine Ev.congr (fun k => ?_) (hfin a' (by omega))
          rw [show ((mkD t).f0 == s') = false from beq_eq_false_iff_ne.2 hts]

theorem parts_law (n : Int) (hn : n ≤ 9223372036854775807) (parts : List (List Int)) (hb : ∀ y ∈ parts, Bytes y) : Ev (fun k => fasciclelaw22_ChunkParts.f k n parts) true := by
  unfold fasciclelaw22_ChunkParts.f
  refine Ev.bind (f := fun k t => if t = true then fasciclelaw22_ChunkParts.j0 k n parts (decide ((parts.length : Int) > 20)) else fasciclelaw22_ChunkParts.j0 k n parts true) lives_f ?_
  simp only [if_true]
  by_cases hbig : (parts.length : Int) > 20
  · rw [decide_eq_true hbig]
    refine Ev.step (f := fun k => (fasciclelaw22_lives.f k).bind fun t => some t) (fun k => ?_) (Ev.bind (f := fun _ t => some t) lives_f (Ev.now _))
    simp only [fasciclelaw22_ChunkParts.j0]; rfl
  · rw [decide_eq_false hbig]
    refine Ev.step (fun k => ?_) (parts_l0 n hn parts hb (by omega) parts.length 0 [] (by omega) Bytes.nil (by simp))
    simp only [fasciclelaw22_ChunkParts.j0, new_f, Option.bind_some]
    rw [if_neg (by decide)]
    rfl

end Go.Proofs.Ytdpghobknhkikaa.LChunk
namespace Go.Proofs.Ytdpghobknhkikaa.Pure
open Go.RowKit Go.Proofs.Ytdpghobknhkikaa.G Go.Proofs.YtdpghobknhkikaaW.PrintWords Go.Proofs.YtdpghobknhkikaaW.PrintLast

theorem ChunkParts : fasciclelaw22_ChunkParts.Pure := by
  intro a0 l1 h0 _ _ hb
  exact (LChunk.parts_law a0 (bounds_i64 h0).2 l1 (fun y hy => PureKit.Bytes.of_wf (hb y hy).2)).rounds

end Go.Proofs.Ytdpghobknhkikaa.Pure
