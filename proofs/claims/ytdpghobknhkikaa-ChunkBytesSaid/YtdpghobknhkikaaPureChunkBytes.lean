/- fasciclelaw22.ChunkBytes holds: what a chunk's bytes are; for every input, no condition. -/
import Derived.Test.YtdpghobknhkikaaGx7
import Derived.Test.YtdpghobknhkikaaLChunk
set_option linter.unusedVariables false
namespace Go.Proofs.Ytdpghobknhkikaa.LChunk
open Go.RowKit Go.Proofs.Ytdpghobknhkikaa.G Go.Proofs.YtdpghobknhkikaaW.PrintWords Go.Proofs.YtdpghobknhkikaaW.PrintLast Go.Proofs.Ytdpghobknhkikaa.PureKit

/-- What a chunk is, by the bytes. -/
def OKc (xs : List Int) (size : Int) (t : Int × Int × Int) : Prop :=
  0 ≤ t.1 * size ∧ 0 ≤ t.1 ∧ 0 ≤ t.2.1 ∧ t.2.1 ≤ t.2.2 ∧ t.2.2 < size ∧ t.1 * size + t.2.2 < xs.length ∧ rd xs (t.1 * size + t.2.2) = 0 ∧
  (∀ j : Nat, t.1 * size + t.2.1 ≤ j → (j : Int) < t.1 * size + t.2.2 → rd xs (j : Int) ≠ 0) ∧ (0 < t.2.1 → rd xs (t.1 * size + t.2.1 - 1) = 0)

theorem cout_ok (xs : List Int) (size : Int) (h1 : 1 ≤ size) : ∀ (l p : List Int) (s a f : Int), xs = p ++ l → 0 ≤ s → s * size + a = p.length → 0 ≤ f → f ≤ a → a < size →
    (∀ j : Nat, s * size + f ≤ j → j < p.length → rd xs (j : Int) ≠ 0) → (0 < f → rd xs (s * size + f - 1) = 0) → ∀ t ∈ cout size l s a f, OKc xs size t
  | [], p, s, a, f, _, _, _, _, _, _, _, _ => fun t ht => by simp [cout] at ht
  | x :: l, p, s, a, f, hxs, hs, hsa, hf, hfa, ha, hne, hfz => by
    have hlen : xs.length = p.length + (l.length + 1) := by rw [hxs]; simp
    have hx : rd xs (p.length : Int) = x := by rw [hxs]; simp [rd]
    have hsm : 0 ≤ s * size := Int.mul_nonneg hs (by omega)
    have hm1 : (s + 1) * size = s * size + size := by rw [Int.add_mul]; omega
    have hpl : ((p ++ [x]).length : Int) = p.length + 1 := by simp
    have hcat : xs = (p ++ [x]) ++ l := by rw [hxs]; simp
    have hfirst : x = 0 → OKc xs size (s, f, a) := by
      intro hx0
      refine ⟨hsm, hs, hf, hfa, ha, ?_, ?_, ?_, hfz⟩
      · simp only []; omega
      · simp only []; rw [hsa, hx, hx0]
      · intro j h2 h3; simp only [] at h2 h3; exact hne j h2 (by omega)
    have hnext : a + 1 = size → ∀ t ∈ cout size l (s + 1) 0 0, OKc xs size t := fun he =>
      cout_ok xs size h1 l (p ++ [x]) (s + 1) 0 0 hcat (by omega) (by omega) (by omega) (by omega) (by omega) (fun j h2 h3 => by omega) (fun h => by omega)
    intro t ht
    unfold cout at ht
    by_cases hx0 : x = 0
    · rw [if_pos hx0] at ht
      rcases List.mem_cons.1 ht with rfl | ht
      · exact hfirst hx0
      · by_cases he : a + 1 = size
        · rw [if_pos he] at ht; exact hnext he t ht
        · rw [if_neg he] at ht
          refine cout_ok xs size h1 l (p ++ [x]) s (a + 1) (a + 1) hcat hs (by omega) (by omega) (by omega) (by omega) (fun j h2 h3 => by omega) (fun _ => ?_) t ht
          rw [show s * size + (a + 1) - 1 = (p.length : Int) by omega, hx, hx0]
    · rw [if_neg hx0] at ht
      by_cases he : a + 1 = size
      · rw [if_pos he] at ht; exact hnext he t ht
      · rw [if_neg he] at ht
        refine cout_ok xs size h1 l (p ++ [x]) s (a + 1) f hcat hs (by omega) hf (by omega) (by omega) (fun j h2 h3 => ?_) hfz t ht
        by_cases hj : j < p.length
        · exact hne j h2 hj
        · rw [show (j : Int) = (p.length : Int) by omega, hx]; exact hx0

theorem bytes_f (n : Int) (hn : n ≤ 9223372036854775807) (xs : List Int) (hlen : xs.length ≤ 2000) (t : Int × Int × Int) (h : OKc xs (max 1 n) t) :
    chunk_Bytes.f n xs t.1 t.2.1 t.2.2 = some ((xs.take (t.1 * max 1 n + t.2.2).toNat).drop (t.1 * max 1 n + t.2.1).toNat) := by
  have hm : mx 1 n = max 1 n := by
    unfold mx
    by_cases h : 1 < n
    · rw [if_pos h, Int.max_eq_right (by omega)]
    · rw [if_neg h, Int.max_eq_left (by omega)]
  obtain ⟨h0, hs, hf, hft, hts, hl, _, _, _⟩ := h
  obtain ⟨s, f, a⟩ := t
  simp only [] at *
  generalize hz : max 1 n = size at *
  have h1 : 1 ≤ size := by omega
  have hle : s ≤ (xs.length : Int) / size := by rw [Int.le_ediv_iff_mul_le (by omega)]; omega
  have hle2 : (xs.length : Int) / size ≤ xs.length := Int.ediv_le_self _ (by omega)
  unfold chunk_Bytes.f
  rw [hm, if_neg (by omega)]
  by_cases he : f ≥ a
  · rw [if_pos he]
    have : f = a := by omega
    subst this
    rw [List.drop_of_length_le (by rw [List.length_take]; omega)]
  · rw [if_neg he, if_neg (by omega), if_neg (by omega), w64 (x := (xs.length : Int) / size) (by omega) (by omega), wu64 (by omega) (by omega), if_neg (by omega), w64 (x := s) (by omega) (by omega), w64 (x := s * size) (by omega) (by omega), w64 (x := s * size + f) (by omega) (by omega), w64 (x := s * size + a) (by omega) (by omega)]
    have h3 : mn (s * size + f) (xs.length : Int) = s * size + f := by unfold mn; split <;> omega
    have h4 : mn (s * size + a) (xs.length : Int) = s * size + a := by unfold mn; split <;> omega
    rw [h3, h4, if_pos (by omega), if_pos (by omega), if_pos (by omega)]
    unfold bytes_Clone.f
    rw [if_pos (by rw [List.length_drop, List.length_take]; omega)]
    rfl

theorem bytes_l1 (n : Int) (xs : List Int) (size : Int) (cs : List C) (i : Int) (hi : 0 ≤ i) (hi' : i < 9223372036854775807) (ys : List Int) (hy : ∀ y ∈ ys, y ≠ 0) (hl : ys.length ≤ 100000) (r : Bool)
    (h : Ev (fun k => fasciclelaw22_ChunkBytes.l0 k n xs size cs (cs.length : Int) (i + 1)) r) : ∀ (d j : Nat), j + d = ys.length →
    Ev (fun k => fasciclelaw22_ChunkBytes.l1 k n xs size cs (cs.length : Int) i ys (ys.length : Int) (j : Int)) r := by
  intro d
  induction d with
  | zero =>
    intro j hj
    refine Ev.step (fun k => ?_) h
    simp only [fasciclelaw22_ChunkBytes.l1]; rw [if_neg (by omega), w64 (by omega) (by omega)]
  | succ d ih =>
    intro j hj
    have hlt : j < ys.length := by omega
    refine Ev.step (fun k => ?_) (ih (j + 1) (by omega))
    simp only [fasciclelaw22_ChunkBytes.l1]
    rw [if_pos (by omega), if_pos (by omega), if_pos (by omega), rd_at ys j hlt, if_neg (hy _ (List.getElem_mem hlt)), w64 (by omega) (by omega)]
    rfl

theorem bytes_l0 (n : Int) (hn : n ≤ 9223372036854775807) (xs : List Int) (hlen : xs.length ≤ 2000) (l : List (Int × Int × Int)) (hl : l.length ≤ 2000) (hok : ∀ t ∈ l, OKc xs (max 1 n) t) : ∀ (d i : Nat), i + d = l.length →
    Ev (fun k => fasciclelaw22_ChunkBytes.l0 k n xs (max 1 n) (l.map mkC) ((l.map mkC).length : Int) (i : Int)) true := by
  intro d
  induction d with
  | zero =>
    intro i hi
    refine Ev.step (f := fun _ => some true) (fun k => ?_) (Ev.now _)
    simp only [fasciclelaw22_ChunkBytes.l0, List.length_map]; rw [if_neg (by omega)]
  | succ d ih =>
    intro i hi
    have hlt : i < l.length := by omega
    have ht := hok l[i] (List.getElem_mem hlt)
    have hb := bytes_f n hn xs hlen l[i] ht
    have hc : rd_T55 (l.map mkC) (i : Int) = mkC l[i] := by simp [rd_T55, List.getD_eq_getElem?_getD, hlt]
    have hnx := ih (i + 1) (by omega)
    obtain ⟨h0, hs, hf, hft, hts, hlx, hz, hnz, hfz⟩ := ht
    generalize l[i] = t at *
    obtain ⟨s, f, a⟩ := t
    simp only [] at *
    generalize hsz : max 1 n = size at *
    have hsm : s ≤ s * size := by
      have := Int.mul_le_mul_of_nonneg_left (c := s) (show (1 : Int) ≤ size by omega) hs
      omega
    generalize hM : s * size = M at *
    have hylen : ((xs.take (M + a).toNat).drop (M + f).toNat).length = (a - f).toNat := by rw [List.length_drop, List.length_take]; omega
    have hys : ∀ y ∈ (xs.take (M + a).toNat).drop (M + f).toNat, y ≠ 0 := by
      intro y hy
      obtain ⟨j, hj, rfl⟩ := List.mem_iff_getElem.1 hy
      rw [hylen] at hj
      rw [List.getElem_drop, List.getElem_take]
      have := hnz ((M + f).toNat + j) (by omega) (by omega)
      rwa [rd_at xs _ (by omega)] at this
    generalize hy' : (xs.take (M + a).toNat).drop (M + f).toNat = ys at *
    have hfin := bytes_l1 n xs size (l.map mkC) (i : Int) (by omega) (by omega) ys hys (by omega) true (by simpa using hnx) ys.length 0 (by omega)
    have hw1 : wrap64 (mkC (s, f, a)).f0 = s := w64 (x := s) (by omega) (by omega)
    have hw2 : wrap64 (s * size) = M := by rw [hM]; exact w64 (by omega) (by omega)
    have hw3 : wrap64 (M + (mkC (s, f, a)).f1) = M + f := w64 (x := M + f) (by omega) (by omega)
    have hw4 : wrap64 (M + f + (ys.length : Int)) = M + a := by rw [hylen, w64 (by omega) (by omega)]; omega
    have hw5 : wrap64 ((mkC (s, f, a)).f2 - (mkC (s, f, a)).f1) = a - f := w64 (x := a - f) (by omega) (by omega)
    refine Ev.step (f := ?ff1) (fun k => ?hs1) ?ht1
    case hs1 =>
      simp only [fasciclelaw22_ChunkBytes.l0]
      rw [if_pos (by rw [List.length_map]; omega), if_pos (by omega), if_pos (by rw [List.length_map]; omega), hc, show chunk_Bytes.f n xs (mkC (s, f, a)).f0 (mkC (s, f, a)).f1 (mkC (s, f, a)).f2 = some ys from hb, Option.bind_some, hw5, if_pos (by omega), hw1, hw2, hw3, hw4, if_pos (by omega), if_pos (by omega), if_pos hz, if_pos (by omega), if_pos (by omega), if_pos (by omega), hy', bne_self_eq_false]
      try exact rfl
    refine Ev.step (f := fun k => fasciclelaw22_ChunkBytes.j3 k n xs size ys (l.map mkC) ((l.map mkC).length : Int) (i : Int) false) (fun k => ?_) ?_
    · simp only [fasciclelaw22_ChunkBytes.j2]
      rw [if_neg (by decide)]
      by_cases hf0 : (mkC (s, f, a)).f1 > 0
      · have : (0 : Int) < f := hf0
        rw [if_pos hf0, w64 (x := M + f - 1) (by omega) (by omega), if_pos (by omega), if_pos (by omega), hfz this, bne_self_eq_false]
      · rw [if_neg hf0]
    · refine Ev.step (fun k => ?_) hfin
      simp only [fasciclelaw22_ChunkBytes.j3]
      rw [if_neg (by decide)]
      rfl

theorem bytes_law (n : Int) (hn : n ≤ 9223372036854775807) (xs : List Int) : Ev (fun k => fasciclelaw22_ChunkBytes.f k n xs) true := by
  unfold fasciclelaw22_ChunkBytes.f
  refine Ev.bind (f := fun k t => if t = true then fasciclelaw22_ChunkBytes.j0 k n xs (decide ((xs.length : Int) > 2000)) else fasciclelaw22_ChunkBytes.j0 k n xs true) lives_f ?_
  simp only [if_true]
  by_cases hbig : (xs.length : Int) > 2000
  · rw [decide_eq_true hbig]
    refine Ev.step (f := fun k => (fasciclelaw22_lives.f k).bind fun t => some t) (fun k => ?_) (Ev.bind (f := fun _ t => some t) lives_f (Ev.now _))
    simp only [fasciclelaw22_ChunkBytes.j0]; rfl
  · rw [decide_eq_false hbig]
    have hlen : xs.length ≤ 2000 := by omega
    have hm : mx 1 n = max 1 n := by
      unfold mx
      by_cases h : 1 < n
      · rw [if_pos h, Int.max_eq_right (by omega)]
      · rw [if_neg h, Int.max_eq_left (by omega)]
    have hcl := cout_len (max 1 n) xs 0 0 0
    have hle : (cout (max 1 n) xs 0 0 0).length ≤ 2000 := by rw [hcl]; exact Nat.le_trans List.countP_le_length hlen
    have hok := cout_ok xs (max 1 n) (by omega) xs [] 0 0 0 (by simp) (by omega) (by simp) (by omega) (by omega) (by omega) (fun j h2 h3 => by simp at h3) (fun h => by omega)
    refine Ev.step (f := fun k => (chunk_All.f k n xs).bind fun t => fasciclelaw22_ChunkBytes.l0 k n xs (max 1 n) t (t.length : Int) 0) (fun k => ?_) ?_
    · simp only [fasciclelaw22_ChunkBytes.j0, hm]; rfl
    · exact Ev.bind (f := fun k t => fasciclelaw22_ChunkBytes.l0 k n xs (max 1 n) t (t.length : Int) 0) (all_f n hn xs (by omega)) (bytes_l0 n hn xs hlen _ hle hok _ 0 (by rw [Nat.zero_add]))

end Go.Proofs.Ytdpghobknhkikaa.LChunk
namespace Go.Proofs.Ytdpghobknhkikaa.Pure
open Go.RowKit Go.Proofs.Ytdpghobknhkikaa.G Go.Proofs.YtdpghobknhkikaaW.PrintWords Go.Proofs.YtdpghobknhkikaaW.PrintLast

theorem ChunkBytes : fasciclelaw22_ChunkBytes.Pure := by
  intro a0 l1 h0 _ _ hb
  exact (LChunk.bytes_law a0 (bounds_i64 h0).2 l1).rounds

end Go.Proofs.Ytdpghobknhkikaa.Pure
