/- fasciclelaw05.CobsApart holds: unlike bytes are unlike, stuffed, and each is found again by the nought between; for every input, no condition. -/
import Derived.Test.YtdpghobknhkikaaGx13
import Derived.Test.YtdpghobknhkikaaLCobs3
set_option linter.unusedVariables false
namespace Go.Proofs.Ytdpghobknhkikaa.LCobs
open Go.RowKit Go.Proofs.Ytdpghobknhkikaa.G Go.Proofs.YtdpghobknhkikaaW.PrintWords Go.Proofs.YtdpghobknhkikaaW.PrintLast Go.Proofs.Ytdpghobknhkikaa.PureKit

theorem rd_ne (l : List Int) (h : NoZ l) (i : Nat) (hi : i < l.length) : rd l (i : Int) ≠ 0 := by
  rw [rd_at l i hi]; exact h _ (List.getElem_mem hi)

theorem rd_append_left (a b : List Int) (i : Nat) (h : i < a.length) : rd (a ++ b) (i : Int) = rd a (i : Int) := by
  simp [rd, List.getD_eq_getElem?_getD, List.getElem?_append_left h]
theorem rd_append_right (a b : List Int) (i : Nat) : rd (a ++ b) ((a.length + i : Nat) : Int) = rd b (i : Int) := by
  simp only [rd, List.getD_eq_getElem?_getD, Int.toNat_natCast]
  rw [List.getElem?_append_right (by omega)]
  congr 2
  omega

theorem apart_l0 (a b s t : List Int) (hs : NoZ s) (ht : NoZ t) (hsl : s.length ≤ 100000) (htl : t.length ≤ 100000) (r : Bool)
    (h : Ev (fun k => fasciclelaw05_CobsApart.l0 k a b s (s ++ [0] ++ t) (s.length : Int) (s ++ [0] ++ t) ((s ++ [0] ++ t).length : Int) ((s ++ [0] ++ t).length : Int)) r) :
    ∀ (d i : Nat), i + d = (s ++ [0] ++ t).length → Ev (fun k => fasciclelaw05_CobsApart.l0 k a b s (s ++ [0] ++ t) (if i ≤ s.length then -1 else (s.length : Int)) (s ++ [0] ++ t) ((s ++ [0] ++ t).length : Int) (i : Int)) r := by
  have hall : (s ++ [0] ++ t).length = s.length + 1 + t.length := by simp; omega
  intro d
  induction d with
  | zero =>
    intro i hi
    rw [if_neg (by omega), show (i : Int) = ((s ++ [0] ++ t).length : Int) by omega]
    exact h
  | succ d ih =>
    intro i hi
    have hlt : i < (s ++ [0] ++ t).length := by omega
    refine Ev.step (fun k => ?_) (ih (i + 1) (by omega))
    simp only [fasciclelaw05_CobsApart.l0]
    rw [if_pos (by omega), if_pos (by omega), if_pos (by omega), w64 (by omega) (by omega)]
    by_cases h1 : i < s.length
    · have hne : rd (s ++ [0] ++ t) (i : Int) ≠ 0 := by
        rw [rd_append_left _ _ _ (by simp; omega), rd_append_left _ _ _ h1]; exact rd_ne s hs i h1
      rw [if_neg hne, if_pos (by omega), if_pos (by omega)]; rfl
    · by_cases h2 : i = s.length
      · have hz : rd (s ++ [0] ++ t) (i : Int) = 0 := by
          rw [rd_append_left _ _ _ (by simp; omega), h2]
          simp [rd]
        rw [if_pos hz, show (if i ≤ s.length then (-1 : Int) else (s.length : Int)) = -1 from if_pos (by omega), if_neg (by omega), if_neg (by omega), h2]; rfl
      · have hne : rd (s ++ [0] ++ t) (i : Int) ≠ 0 := by
          have : (i : Int) = (((s ++ [0]).length + (i - (s.length + 1)) : Nat) : Int) := by simp only [List.length_append, List.length_singleton]; omega
          rw [this, rd_append_right]; exact rd_ne t ht _ (by omega)
        rw [if_neg hne, if_neg (by omega), if_neg (by omega)]; rfl

theorem apart_law (a b : List Int) (ha : Bytes a) (hb : Bytes b) : Ev (fun k => fasciclelaw05_CobsApart.f k a b) true := by
  unfold fasciclelaw05_CobsApart.f
  refine Ev.bind (f := fun k t => if t = true then (if (a.length : Int) > 400 then fasciclelaw05_CobsApart.j0 k a b true else fasciclelaw05_CobsApart.j0 k a b (decide ((b.length : Int) > 400))) else fasciclelaw05_CobsApart.j0 k a b true) lives_f ?_
  simp only [if_true]
  have hliv : Ev (fun k => fasciclelaw05_CobsApart.j0 k a b true) true := by
    refine Ev.step (f := fun k => (fasciclelaw05_lives.f k).bind fun t => some t) (fun k => ?_) (Ev.bind (f := fun _ t => some t) lives_f (Ev.now _))
    simp only [fasciclelaw05_CobsApart.j0]; rfl
  by_cases hbig : (a.length : Int) > 400
  · refine Ev.congr (fun k => ?_) hliv
    rw [if_pos hbig]
  · by_cases hbig2 : (b.length : Int) > 400
    · refine Ev.congr (fun k => ?_) hliv
      rw [if_neg hbig, decide_eq_true hbig2]
    · have hsl := stuff_len a
      have htl := stuff_len b
      have hbs := stuffed_bytes a ha
      have hbt := stuffed_bytes b hb
      have hsnz := stf_nz a
      have htnz := stf_nz b
      have hst : stf a [] = stf b [] ↔ a = b := ⟨stf_inj, fun h => by rw [h]⟩
      have bka := back_f a ha (by omega)
      have bkb := back_f b hb (by omega)
      have fa := stuff_f a ha (by omega)
      have fb := stuff_f b hb (by omega)
      generalize stf a [] = s at *
      generalize stf b [] = t at *
      refine Ev.congr (f := fun k => fasciclelaw05_CobsApart.j0 k a b false) (fun k => ?_) ?_
      · rw [if_neg hbig, decide_eq_false hbig2]
      refine Ev.step (f := ?ff1) (fun k => ?hs1) ?ht1
      case hs1 =>
        simp only [fasciclelaw05_CobsApart.j0]
        rw [if_neg (by decide)]
        try exact rfl
      refine Ev.bind fa ?_
      refine Ev.bind fb ?_
      have hcmp : (((strOfNums s).toList == (strOfNums t).toList) != ((strOfNums a).toList == (strOfNums b).toList)) = false := by
        rw [nums_beq hbs hbt, nums_beq ha hb]
        by_cases h : a = b
        · rw [decide_eq_true h, decide_eq_true (hst.2 h)]; rfl
        · rw [decide_eq_false h, decide_eq_false (fun e => h (hst.1 e))]; rfl
      have hall : (s ++ [0] ++ t).length = s.length + 1 + t.length := by simp; omega
      have hfin : Ev (fun k => fasciclelaw05_CobsApart.l0 k a b s (s ++ [0] ++ t) (s.length : Int) (s ++ [0] ++ t) ((s ++ [0] ++ t).length : Int) ((s ++ [0] ++ t).length : Int)) true := by
        have htk : (s ++ [0] ++ t).take s.length = s := by rw [List.append_assoc, List.take_left' rfl]
        have hdp : (s ++ [0] ++ t).drop (s.length + 1) = t := List.drop_left' (by simp)
        refine Ev.step (f := ?ff2) (fun k => ?hs2) ?ht2
        case hs2 =>
          simp only [fasciclelaw05_CobsApart.l0]
          rw [if_neg (by omega), if_pos (by omega), if_pos (by omega), Int.toNat_natCast, htk]
          try exact rfl
        refine Ev.bind bka ?_
        refine Ev.congr (f := ?ff3) (fun k => ?hs3) ?ht3
        case hs3 =>
          rw [w64 (by omega) (by omega), if_pos (by omega), if_pos (by omega), show ((s.length : Int) + 1).toNat = s.length + 1 by omega, hdp]
          try exact rfl
        refine Ev.bind bkb ?_
        refine Ev.eq (Ev.congr (f := fun _ => some true) (fun k => ?_) (Ev.now _)) rfl
        simp
      have hl := apart_l0 a b s t hsnz htnz (by omega) (by omega) true hfin (s ++ [0] ++ t).length 0 (by omega)
      rw [if_pos (by omega)] at hl
      refine Ev.congr (fun k => ?_) hl
      simp only [hcmp, Option.bind_some, List.nil_append, List.length_nil]
      rw [if_neg (by decide), if_pos (by omega), if_pos (by omega), if_pos (by simp; omega)]
      rfl

end Go.Proofs.Ytdpghobknhkikaa.LCobs
namespace Go.Proofs.Ytdpghobknhkikaa.Pure
open Go.RowKit Go.Proofs.Ytdpghobknhkikaa.G Go.Proofs.YtdpghobknhkikaaW.PrintWords Go.Proofs.YtdpghobknhkikaaW.PrintLast

theorem CobsApart : fasciclelaw05_CobsApart.Pure := by
  intro l0 l1 _ _ h0 _ _ h1
  exact (LCobs.apart_law l0 l1 (PureKit.Bytes.of_wf h0) (PureKit.Bytes.of_wf h1)).rounds

end Go.Proofs.Ytdpghobknhkikaa.Pure
