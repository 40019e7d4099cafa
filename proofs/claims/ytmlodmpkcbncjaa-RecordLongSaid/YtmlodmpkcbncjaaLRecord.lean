/- Plain laws of records: bodies are written and read as the document says. -/
import Derived.Test.YtmlodmpkcbncjaaLText
import Derived.Test.YtmlodmpkcbncjaaHRead
import Derived.Test.YtmlodmpkcbncjaaHBody
import Derived.Test.YtmlodmpkcbncjaaGx7
import Derived.Test.YtmlodmpkcbncjaaGx4
import Derived.OpenShut
set_option linter.unusedVariables false
set_option linter.unusedSimpArgs false
namespace Go.Proofs.Ytmlodmpkcbncjaa.Sep
open Go Go.RowKit Go.Proofs.Ytmlodmpkcbncjaa.G Go.Proofs.YtmlodmpkcbncjaaW.PrintWords Go.Proofs.YtmlodmpkcbncjaaW.PrintLast Go.Proofs.YtmlodmpkcbncjaaW.PrintMore Go.Proofs.Ytmlodmpkcbncjaa.PureKit

theorem refcheck (d : Bool) (s : Int) (k v : ByteArray) : Ev (fun n => fascicleref07_Check.f n d s k v) (rcheck d k v) := by
  refine Ev.step (f := fun _ => some (rcheck d k v)) (fun n => ?_) (Ev.now _)
  unfold fascicleref07_Check.f rcheck
  simp only [fascicleref07_Check.j0]
  by_cases hk : k.size = 0
  · rw [if_pos (by omega), if_pos hk]
  rw [if_neg (by omega), if_neg hk]
  by_cases hl : k.size > 4096
  · rw [if_pos (by omega), if_pos hl]
  rw [if_neg (by omega), if_neg hl]
  cases d
  · simp only [Bool.false_eq_true, if_false, false_and]
    by_cases hv : v.size > 1048576
    · rw [if_pos (by omega), if_pos hv]
    · rw [if_neg (by omega), if_neg hv]
  · simp only [if_true, true_and]
    by_cases hv : v.size = 0
    · rw [if_neg (by rw [decide_eq_true_eq]; omega), if_neg (by omega), if_neg (by omega), if_neg (by omega)]
    · rw [if_pos (by rw [decide_eq_true_eq]; omega), if_pos hv]
theorem progcheck (d : Bool) (s : Int) (k v : ByteArray) : Ev (fun n => record_Check.f n d s k v) (rcheck d k v) := Ev.of (fun n => record_Check.mono _ _ _ _ n) (record_Check_ev d s k v)
theorem rcheck_ok {d : Bool} {k v : ByteArray} (h : rcheck d k v = 0) : 1 ≤ k.size ∧ k.size ≤ 4096 ∧ (d = true → v.size = 0) ∧ v.size ≤ 1048576 := by
  unfold rcheck at h
  split at h
  · omega
  split at h
  · omega
  split at h
  · omega
  rename_i h3
  split at h
  · omega
  refine ⟨by omega, by omega, fun hd => ?_, by omega⟩
  by_cases hv : v.size = 0
  · exact hv
  · exact absurd ⟨hd, hv⟩ h3
theorem size0 {v : ByteArray} (h : v.size = 0) : v = ⟨#[]⟩ := by
  apply ByteArray.ext
  exact Array.eq_empty_of_size_eq_zero h
theorem refbody (d : Bool) (s : Int) (k v : ByteArray) (h0 : 0 ≤ s) (h1 : s < 18446744073709551616) (hk : k.size ≤ 1000000000) (hv : v.size ≤ 1000000000) : Ev (fun n => fascicleref07_Body.f n d s k v) (strOfNums (rbody d s k v)) := by
  have hn := refnum s.toNat (by omega)
  rw [show ((s.toNat : Nat) : Int) = s by omega] at hn
  have hsl := venc_len10' s.toNat (by omega)
  have hkl := venc_len10' k.size (by omega)
  have hvl := venc_len10' v.size (by omega)
  have hsk := sby_len k
  have hsv := sby_len v
  have e3 : (⟨#[3]⟩ : ByteArray) = strOfNums [3] := rfl
  have e2 : (⟨#[2]⟩ : ByteArray) = strOfNums [2] := rfl
  unfold fascicleref07_Body.f rbody
  cases d
  · simp only [Bool.false_eq_true, if_false]
    refine Ev.bind hn ?_
    refine Ev.congr (f := ?ff1) (fun n => ?hs1) ?ht1
    case hs1 =>
      rw [if_pos (by rw [nums_size]; omega)]
      try exact rfl
    refine Ev.bind (reftext k (by omega)) ?_
    refine Ev.congr (f := ?ff2) (fun n => ?hs2) ?ht2
    case hs2 =>
      rw [e2, PureKit.nums_append, nums_size, nums_size, if_pos (by simp; omega)]
      try exact rfl
    refine Ev.bind (reftext v (by omega)) ?_
    refine Ev.congr (fun n => ?_) (Ev.now _)
    rw [PureKit.nums_append, nums_size, nums_size, if_pos (by simp; omega), PureKit.nums_append]
    congr 2
    simp
  · simp only [if_true]
    refine Ev.bind hn ?_
    refine Ev.congr (f := ?ff3) (fun n => ?hs3) ?ht3
    case hs3 =>
      rw [if_pos (by rw [nums_size]; omega)]
      try exact rfl
    refine Ev.bind (reftext k (by omega)) ?_
    refine Ev.congr (fun n => ?_) (Ev.now _)
    rw [e3, PureKit.nums_append, nums_size, nums_size, if_pos (by simp; omega), PureKit.nums_append]
    congr 2
    simp

theorem rbody_bytes (d : Bool) (s : Int) (k v : ByteArray) : Bytes (rbody d s k v) := by
  have hv : ∀ x, Bytes (venc x) := fun x => by
    induction x using Nat.strongRecOn with
    | _ x ih =>
    by_cases h : x < 128
    · rw [venc_small h]; exact Bytes.cons (by omega) Bytes.nil
    · rw [venc_big h]; exact Bytes.cons (by omega) (ih (x / 128) (by omega))
  unfold rbody
  refine Bytes.cons (by split <;> omega) ((hv _).append ((hv _).append ((sby_bytes _).append ?_)))
  split
  · exact Bytes.nil
  · exact (hv _).append (sby_bytes _)
theorem rread_rbody (d : Bool) (s : Int) (k v : ByteArray) (h0 : 0 ≤ s) (h1 : s < 18446744073709551616) (hc : rcheck d k v = 0) : rread (rbody d s k v) = .ok (d, s, k, v) (rbody d s k v).length := by
  obtain ⟨hk1, hk2, hd, hv⟩ := rcheck_ok hc
  have hsk := sby_len k
  have hsv := sby_len v
  generalize hl : rbody d s k v = l
  have hl' := hl
  unfold rbody at hl
  have hd1 : l.drop 1 = venc s.toNat ++ (venc k.size ++ (sby k ++ (if d = true then [] else venc v.size ++ sby v))) := by rw [← hl]; rfl
  have hlen := congrArg List.length hl
  simp only [List.length_cons, List.length_append, hsk] at hlen
  have hg1 := vget_at (a := 1) hd1 (by omega)
  rw [show ((s.toNat : Nat) : Int) = s by omega] at hg1
  have hd2 : l.drop (1 + (venc s.toNat).length) = venc k.size ++ (sby k ++ (if d = true then [] else venc v.size ++ sby v)) := by
    rw [← List.drop_drop, hd1, List.drop_left]
  have hg2 := vtext_at (lo := 1) (hi := 4096) hd2 hk1 hk2 (by omega)
  have hd3 : l.drop (1 + (venc s.toNat).length + (venc k.size).length + k.size) = if d = true then [] else venc v.size ++ sby v := by
    rw [← List.drop_drop, ← List.drop_drop, hd2, List.drop_left, ← hsk, List.drop_left]
  rw [← hl]
  simp only [rread]
  rw [hl, if_neg (by split <;> omega), hg1]
  simp only []
  rw [hg2]
  simp only []
  cases d
  · simp only [Bool.false_eq_true, if_false, List.length_append, hsv] at hlen hd3 ⊢
    rw [show ((2 : Int) == 3) = false from rfl, rread1, if_neg (by decide)]
    have hg3 := vtext_at (lo := 0) (hi := 1048576) (post := []) (by rw [List.append_nil]; exact hd3) (Nat.zero_le _) hv (by omega)
    rw [hg3]
    simp only []
    rw [rread2, if_neg (by omega)]
    congr 1
    omega
  · simp only [if_true, List.length_nil] at hlen ⊢
    have hv0 := size0 (hd rfl)
    subst hv0
    rw [show ((3 : Int) == 3) = true from rfl, rread1, if_pos rfl, rread2, if_neg (by omega)]
    congr 1
    omega
theorem rread_inv {l : List Int} {d : Bool} {s : Int} {k v : ByteArray} {a : Nat} (hb : Bytes l) (h : rread l = .ok (d, s, k, v) a) : rcheck d k v = 0 ∧ rbody d s k v = l ∧ 0 ≤ s ∧ s < 18446744073709551616 := by
  rcases l with _ | ⟨b, t⟩
  · cases h
  have hpos : 1 ≤ (b :: t).length := by simp
  have hd1 : (b :: t).drop 1 = t := rfl
  have hl2 : (b :: t) = b :: (b :: t).drop 1 := rfl
  have hbb := hb.head
  generalize hll : b :: t = l at *
  have hv0 : rread l = if b ≠ 2 ∧ b ≠ 3 then .bad 4 1 else match vget l 1 with
    | .bad e a => .bad e a
    | .ok s a => match vtext l a 1 4096 with
      | .bad e a => .bad e a
      | .ok k a => rread1 l (b == 3) s k a := by rw [← hll]; rfl
  rw [hv0] at h
  clear hv0
  split at h
  · cases h
  rename_i hkind
  cases hg1 : vget l 1 with
  | bad er a1 => rw [hg1] at h; cases h
  | ok s1 a1 =>
  have hok := vget_ok hb hpos hg1
  obtain ⟨i1, i2⟩ := vget_inv hb hg1
  rw [hg1] at h
  simp only [] at h
  cases hg2 : vtext l a1 1 4096 with
  | bad er a2 => rw [hg2] at h; cases h
  | ok k1 a2 =>
  have hok2 := vtext_ok hb hok.2.2.2 hg2
  obtain ⟨j1, j2, j3, j4⟩ := vtext_inv hb hok.2.2.2 hg2
  rw [hg2] at h
  simp only [] at h
  unfold rread1 at h
  have fin : ∀ (v1 : ByteArray) (a3 : Nat), rread2 l (b == 3) s1 k1 v1 a3 = .ok (d, s, k, v) a → l.length ≤ a3 ∧ (b == 3) = d ∧ s1 = s ∧ k1 = k ∧ v1 = v := fun v1 a3 hh => by
    unfold rread2 at hh
    split at hh
    · cases hh
    · cases hh
      exact ⟨by omega, rfl, rfl, rfl, rfl⟩
  split at h
  · rename_i hd
    obtain ⟨f1, f2, f3, f4, f5⟩ := fin _ _ h
    subst f3 f4
    have hdt : d = true := by rw [← f2]; exact hd
    subst hdt
    have hb3 : b = 3 := by simpa using hd
    subst f5
    refine ⟨?_, ?_, hok.1, hok.2.1⟩
    · unfold rcheck
      rw [if_neg (by omega), if_neg (by omega), if_neg (by rintro ⟨_, h⟩; exact h rfl), if_neg (by decide)]
    · unfold rbody
      rw [hl2, i2, j4, List.drop_eq_nil_of_le f1, hb3]
      simp
  · rename_i hd
    cases hg3 : vtext l a2 0 1048576 with
    | bad er a3 => rw [hg3] at h; cases h
    | ok v1 a3 =>
    obtain ⟨q1, q2, q3, q4⟩ := vtext_inv hb hok2.2 hg3
    rw [hg3] at h
    obtain ⟨f1, f2, f3, f4, f5⟩ := fin _ _ h
    subst f3 f4 f5
    have hdf : d = false := by rw [← f2]; exact Bool.eq_false_iff.2 hd
    subst hdf
    have hb2 : b = 2 := by
      have : b ≠ 3 := by simpa using f2
      omega
    refine ⟨?_, ?_, hok.1, hok.2.1⟩
    · unfold rcheck
      rw [if_neg (by omega), if_neg (by omega), if_neg (by simp), if_neg (by omega)]
    · unfold rbody
      rw [hl2, i2, j4, q4, List.drop_eq_nil_of_le f1, hb2]
      simp

end Go.Proofs.Ytmlodmpkcbncjaa.Sep
