/- Frames: the document's answers are those of the program; sealed and opened again; plain laws. -/
import Derived.Test.YtekanmieppnpeaaHFrameOpen
import Derived.Test.YtekanmieppnpeaaLRef04
import Derived.Test.YtekanmieppnpeaaMCobs
import Derived.Test.YtekanmieppnpeaaLNb
import Derived.Test.YtekanmieppnpeaaGx8
import Derived.Test.YtekanmieppnpeaaGx9
set_option linter.unusedVariables false
set_option linter.unusedSimpArgs false
namespace Go.Proofs.Ytekanmieppnpeaa.G
open Go Go.RowKit Go.Proofs.YtekanmieppnpeaaW.PrintWords Go.Proofs.YtekanmieppnpeaaW.PrintLast Go.Proofs.YtekanmieppnpeaaW.PrintMore Go.Proofs.Ytekanmieppnpeaa.PureKit Go.Proofs.Ytekanmieppnpeaa.Sep Go.Proofs.Ytekanmieppnpeaa.Rol Go.Proofs.Ytekanmieppnpeaa.LCobs

theorem sealed_bytes (l : List Int) (hb : Bytes l) : Bytes (sealed l) := stuffed_bytes _ (summed_bytes l hb)
theorem sealed_noz (l : List Int) : NoZ (sealed l) := stf_nz _
theorem sealed_len (l : List Int) : (sealed l).length ≤ l.length + 8 + 1 + (l.length + 7) / 254 := by
  have := stuff_len (summed l)
  rw [summed_len] at this
  unfold sealed
  omega
theorem ref_seal (l : List Int) (hb : Bytes l) (hl : l.length ≤ 90000) : Ev (fun k => fascicleref09_Seal.f k (strOfNums l)) (strOfNums (sealed l ++ [0])) := by
  unfold fascicleref09_Seal.f
  have h1 := ref4_ev 0 l (by decide) (by decide) hb (by omega)
  have h2 := refn 8 ((wsum 0 l : Nat) : Int) (by decide) (by omega) (by have := wsum_lt 0 l; omega)
  have h3 := ref_stuff_f (summed l) (summed_bytes l hb) (by rw [summed_len]; omega)
  have hsl := sealed_len l
  refine Ev.bind h1 ?_
  refine Ev.bind h2 ?_
  have c1 : l.length + 8 ≤ 9223372036854775807 := by omega
  rw [nums_size, nums_size, nbytes_len]
  simp only [if_pos c1]
  rw [PureKit.nums_append]
  refine Ev.bind h3 ?_
  rw [nums_size, show stf (summed l) [] = sealed l from rfl, if_pos (by omega), nums_one0, PureKit.nums_append]
  exact Ev.now _
theorem ref_open (l : List Int) (hb : Bytes l) (hl : l.length ≤ 90000) : Ev (fun k => fascicleref09_Open.f k (strOfNums l)) (strOfNums (opnb l).1, (opnb l).2) := by
  unfold fascicleref09_Open.f
  have h1 : Ev (fun k => fascicleref05_Unstuff.f k (strOfNums l)) (strOfNums (unst l).1, (unst l).2) := ref_unstuff_f l hb (by omega)
  obtain ⟨hub, hul, _, hu1⟩ := unst_facts l hb
  refine Ev.bind h1 ?_
  unfold opnb
  generalize unst l = u at *
  obtain ⟨b, e⟩ := u
  dsimp only at hub hul hu1 ⊢
  by_cases he : e = 0
  · subst he
    have z0 : ¬ ((0 : Int) ≠ 0) := by simp
    rw [nums_size, if_neg z0]
    simp only [if_true]
    by_cases h8 : b.length < 8
    · have c1 : wrap64 ((b.length : Int) - 8) < 0 := by rw [w64 (by omega) (by omega)]; omega
      simp only [if_pos c1, if_pos h8]
      rw [nums_empty]
      exact Ev.now _
    · obtain ⟨m, hm⟩ : ∃ m : Nat, b.length = m + 8 := ⟨b.length - 8, by omega⟩
      have hw : wrap64 ((b.length : Int) - 8) = (m : Int) := by rw [w64 (by omega) (by omega)]; omega
      have d1 : ¬ ((m : Int) < 0) := by omega
      have d2 : (0 : Int) ≤ (m : Int) := by omega
      have d3 : (m : Int) ≤ (b.length : Int) := by omega
      rw [hw]
      simp only [if_neg d1, if_pos d2, if_pos d3, if_neg h8]
      rw [Int.toNat_natCast, show b.length - 8 = m by omega]
      have hx1 : (strOfNums b).extract m b.length = strOfNums (b.drop m) := by rw [nums_extract, List.take_of_length_le (by omega)]
      have hx2 : (strOfNums b).extract 0 m = strOfNums (b.take m) := by rw [nums_extract, List.drop_zero]
      rw [hx1, hx2]
      have hv := value_ev (b.drop m) (hub.drop m) (by rw [List.length_drop]; omega)
      have hs := ref4_ev 0 (b.take m) (by decide) (by decide) (hub.take m) (by rw [List.length_take]; omega)
      rw [lev_leb _ (hub.drop m)]
      refine Ev.bind hv ?_
      refine Ev.bind hs ?_
      rw [show (0 : Int).toNat = 0 from rfl]
      by_cases hq : ((leb (b.drop m) : Nat) : Int) = ((wsum 0 (b.take m) : Nat) : Int)
      · rw [if_pos hq, if_neg (by simpa using hq)]
        exact Ev.now _
      · rw [if_neg hq, if_pos hq, nums_empty]
        exact Ev.now _
  · have he2 : e ≠ 0 := he
    simp only [if_neg he]
    rw [if_pos he2, nums_empty]
    exact Ev.now _
theorem lev_sum (x : Nat) (h : x < 18446744073709551616) : lev (nbytes 8 (x : Int)) = (x : Int) := by
  rw [lev_nbytes 8 (x : Int) (by omega)]
  omega
theorem opnb_sealed (l : List Int) : opnb (sealed l) = (l, 0) := by
  unfold opnb sealed
  rw [unst_stf]
  dsimp only
  have hl := summed_len l
  have e1 : (summed l).take ((summed l).length - 8) = l := by rw [hl, Nat.add_sub_cancel]; unfold summed; exact List.take_left
  have e2 : (summed l).drop ((summed l).length - 8) = nbytes 8 ((wsum 0 l : Nat) : Int) := by rw [hl, Nat.add_sub_cancel]; unfold summed; exact List.drop_left
  rw [e1, e2, lev_sum _ (wsum_lt 0 l), if_neg (by simp), if_neg (by omega), if_neg (by simp)]
theorem sealed_opnb (l : List Int) (hb : Bytes l) (h : (opnb l).2 = 0) : sealed (opnb l).1 = l := by
  obtain ⟨hub, _, hu0, _⟩ := unst_facts l hb
  unfold opnb at h ⊢
  generalize unst l = u at *
  obtain ⟨b, e⟩ := u
  dsimp only at hub hu0 h ⊢
  by_cases he : e = 0
  · subst he
    rw [if_neg (by simp)] at h ⊢
    by_cases h8 : b.length < 8
    · rw [if_pos h8] at h
      cases h
    · rw [if_neg h8] at h ⊢
      by_cases hq : lev (b.drop (b.length - 8)) ≠ ((wsum 0 (b.take (b.length - 8)) : Nat) : Int)
      · rw [if_pos hq] at h
        cases h
      · rw [if_neg hq]
        have hq2 : lev (b.drop (b.length - 8)) = ((wsum 0 (b.take (b.length - 8)) : Nat) : Int) := by simpa using hq
        have e2 := nbytes_lev (b.drop (b.length - 8)) (hub.drop _)
        rw [List.length_drop, show b.length - (b.length - 8) = 8 by omega, hq2] at e2
        unfold sealed summed
        dsimp only
        rw [e2, List.take_append_drop]
        exact hu0 rfl
  · rw [if_pos he] at h
    exact absurd h he
theorem opnb_facts (l : List Int) (hb : Bytes l) : Bytes (opnb l).1 ∧ (opnb l).1.length ≤ l.length := by
  obtain ⟨hub, hul, _, _⟩ := unst_facts l hb
  unfold opnb
  generalize unst l = u at *
  obtain ⟨b, e⟩ := u
  dsimp only at hub hul ⊢
  split
  · exact ⟨Bytes.nil, by simp⟩
  · split
    · exact ⟨Bytes.nil, by simp⟩
    · split
      · exact ⟨Bytes.nil, by simp⟩
      · exact ⟨hub.take _, by rw [List.length_take]; omega⟩

end Go.Proofs.Ytekanmieppnpeaa.G
