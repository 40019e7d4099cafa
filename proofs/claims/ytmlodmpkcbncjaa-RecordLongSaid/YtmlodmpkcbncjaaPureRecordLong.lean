/- fasciclelaw07.RecordLong holds: a key and a value may have as many bytes as is said, and no more; for every input, no condition. -/
import Derived.Test.YtmlodmpkcbncjaaGx12
import Derived.Test.YtmlodmpkcbncjaaLRecord
import Derived.Test.YtmlodmpkcbncjaaHSize
set_option linter.unusedVariables false
set_option linter.unusedSimpArgs false
namespace Go.Proofs.Ytmlodmpkcbncjaa.Pure
open Go Go.RowKit Go.Proofs.Ytmlodmpkcbncjaa.G Go.Proofs.YtmlodmpkcbncjaaW.PrintWords Go.Proofs.YtmlodmpkcbncjaaW.PrintLast Go.Proofs.Ytmlodmpkcbncjaa.PureKit Go.Proofs.Ytmlodmpkcbncjaa.Sep

theorem long_j0 (g : Bool) (K V : Nat) (s t : ByteArray) (hK : 1 ≤ K) (hK2 : K ≤ 5000) (hV : V ≤ 2000000) (hs : s.size = K) (ht : t.size = if g = true then 0 else V) :
    Ev (fun n => fasciclelaw07_RecordLong.j0 n g (K : Int) (V : Int) g 18446744073709551615 s t) true := by
  have hrc : rcheck g s t = if K > 4096 ∨ (g = false ∧ V > 1048576) then 3 else 0 := by
    unfold rcheck
    rw [hs, if_neg (by omega)]
    cases g
    · simp only [Bool.false_eq_true, if_false] at ht
      rw [ht]
      by_cases h1 : K > 4096
      · rw [if_pos h1, if_pos (.inl h1)]
      · rw [if_neg h1, if_neg (by simp)]
        by_cases h2 : V > 1048576
        · rw [if_pos h2, if_pos (.inr ⟨rfl, h2⟩)]
        · rw [if_neg h2, if_neg (by simp; omega)]
    · simp only [if_true] at ht
      rw [ht]
      by_cases h1 : K > 4096
      · rw [if_pos h1, if_pos (.inl h1)]
      · rw [if_neg h1, if_neg (by simp), if_neg (by omega), if_neg (by simp; omega)]
  have hbd : record_Body.f g 18446744073709551615 s t = if rcheck g s t = 0 then some (rbody g 18446744073709551615 s t, 0) else some ([], rcheck g s t) := by
    unfold record_Body.f
    rw [if_pos (by decide)]
  have hsz : record_Size.f g 18446744073709551615 s t = if rcheck g s t = 0 then some ((rbody g 18446744073709551615 s t).length : Int) else some 0 := by
    unfold record_Size.f
    rw [if_pos (by decide)]
  by_cases hbig : K > 4096 ∨ (g = false ∧ V > 1048576)
  · rw [if_pos hbig] at hrc
    rw [hrc, if_neg (by decide)] at hbd
    refine Ev.step (f := fun n => fasciclelaw07_RecordLong.j1 n [] 3 true g 18446744073709551615 s t) (fun n => ?_) ?_
    · simp only [fasciclelaw07_RecordLong.j0]
      rw [hbd]
      simp only [Option.bind_some]
      by_cases h1 : (K : Int) > 4096
      · rw [if_pos h1]
      · rw [if_neg h1]
        have h2 : g = false ∧ V > 1048576 := by
          rcases hbig with h | h
          · omega
          · exact h
        rw [if_neg (by rw [h2.1]; decide), decide_eq_true (by omega)]
    · refine Ev.step (f := fun _ => some true) (fun n => ?_) (Ev.now _)
      simp only [fasciclelaw07_RecordLong.j1]
      rfl
  · rw [if_neg hbig] at hrc
    rw [if_pos hrc] at hbd hsz
    have hlen : (rbody g 18446744073709551615 s t).length ≤ 10000000 := by
      unfold rbody
      have h1 := venc_len10' (18446744073709551615 : Int).toNat (by decide)
      have h2 := venc_len10' s.size (by omega)
      have h3 := venc_len10' t.size (by rw [ht]; split <;> omega)
      have h4 := sby_len s
      have h5 := sby_len t
      have h6 : t.size ≤ 2000000 := by rw [ht]; split <;> omega
      split <;> simp only [List.length_cons, List.length_append, List.length_nil] <;> omega
    have hrd : record_Read.f (rbody g 18446744073709551615 s t) = some (g, 18446744073709551615, s, t, 0) := by
      unfold record_Read.f
      rw [if_pos ⟨(bytesb_iff _).2 (rbody_bytes g _ s t), by omega⟩, rread_rbody g _ s t (by decide) (by decide) hrc]
      rfl
    refine Ev.step (f := fun n => fasciclelaw07_RecordLong.j1 n (rbody g 18446744073709551615 s t) 0 false g 18446744073709551615 s t) (fun n => ?_) ?_
    · simp only [fasciclelaw07_RecordLong.j0]
      rw [hbd]
      simp only [Option.bind_some]
      rw [if_neg (by omega)]
      cases g
      · rw [if_neg (by decide), decide_eq_false (by simp at hbig; omega)]
      · rw [if_pos rfl]
    · refine Ev.step (f := fun _ => some true) (fun n => ?_) (Ev.now _)
      simp only [fasciclelaw07_RecordLong.j1]
      rw [if_neg (by decide), hrd]
      simp only [Option.bind_some]
      rw [if_pos trivial, if_pos trivial, if_pos (by simp), hsz]
      simp
theorem tmod12 (a : Int) (h0 : 0 ≤ a) : 0 ≤ Int.tmod a 12 ∧ Int.tmod a 12 < 12 := by
  rw [Int.tmod_eq_emod_of_nonneg h0]
  omega
theorem RecordLong : fasciclelaw07_RecordLong.Pure := by
  intro a0 a1 g h0 h1
  have h0 := bounds_u8 h0
  have h1 := bounds_u8 h1
  have t0 := tmod12 a0 (by omega)
  have t1 := tmod12 a1 (by omega)
  refine rounds_of ?_
  unfold fasciclelaw07_RecordLong.f
  generalize Int.tmod a0 12 = x at *
  generalize Int.tmod a1 12 = y at *
  have w1 : wrap64 (4090 + wrap64 x) = ((4090 + x.toNat : Nat) : Int) := by rw [w64 (x := x) (by omega) (by omega), w64 (by omega) (by omega)]; omega
  have w2 : wrap64 (1048570 + wrap64 y) = ((1048570 + y.toNat : Nat) : Int) := by rw [w64 (x := y) (by omega) (by omega), w64 (by omega) (by omega)]; omega
  rw [w1, w2]
  have hx : x.toNat < 12 := by omega
  have hy : y.toNat < 12 := by omega
  generalize x.toNat = X at *
  generalize y.toNat = Y at *
  refine Ev.congr (f := fun n => fasciclelaw07_RecordLong.j0 n g ((4090 + X : Nat) : Int) ((1048570 + Y : Nat) : Int) g 18446744073709551615 (strOfNums (List.replicate (4090 + X) 0)) (if g = true then ⟨#[]⟩ else strOfNums (List.replicate (1048570 + Y) 0))) (fun n => ?_) (long_j0 g (4090 + X) (1048570 + Y) _ _ (by omega) (by omega) (by omega) (by rw [nums_size, List.length_replicate]) ?_)
  · have hlv : fasciclelaw07_lives.f = some true := rfl
    rw [hlv]
    simp only [Option.bind_some, if_true]
    rw [if_pos (by omega), if_pos (by omega)]
    simp only [Option.bind_some, Int.toNat_natCast]
    cases g
    · rw [if_neg (by decide), if_pos (by omega), if_pos (by omega), if_neg (by decide)]
    · rw [if_pos rfl, if_pos rfl]
  · cases g
    · simp only [Bool.false_eq_true, if_false]
      rw [nums_size, List.length_replicate]
    · rfl

end Go.Proofs.Ytmlodmpkcbncjaa.Pure
