/- Stuffed and back again. -/
import Derived.Test.YtdpghobknhkikaaLCobs2
set_option linter.unusedVariables false
namespace Go.Proofs.Ytdpghobknhkikaa.LCobs
open Go.RowKit Go.Proofs.Ytdpghobknhkikaa.G Go.Proofs.YtdpghobknhkikaaW.PrintWords Go.Proofs.YtdpghobknhkikaaW.PrintLast Go.Proofs.Ytdpghobknhkikaa.PureKit

theorem unl_step (d : Nat) (out rest : List Int) (m : Nat) (a c : List Int) (hm : m ≤ 254) (ha : a.length = m) (hr : rest = ((m : Int) + 1) :: (a ++ c)) : unl (d + 1) out rest = unl d (out ++ a ++ (if m < 254 ∧ c ≠ [] then [0] else [])) c := by
  subst hr
  simp only [unl]
  rw [if_neg (by rw [List.length_append]; omega)]
  have h1 : ((m : Int) + 1).toNat - 1 = m := by omega
  rw [h1, List.take_left' ha, List.drop_left' ha]
  by_cases h2 : m < 254 ∧ c ≠ []
  · rw [if_pos h2, if_pos ⟨by omega, h2.2⟩]
  · rw [if_neg h2, if_neg (fun h => h2 ⟨by omega, h.2⟩)]

theorem unl_nil (d : Nat) (out : List Int) : unl d out [] = some out := by cases d <;> rfl

theorem unl_stf : ∀ (l now out : List Int) (d : Nat), now.length < 254 → (stf l now).length ≤ d → unl d out (stf l now) = some (out ++ now ++ l)
  | [], now, out, d, hn, hd => by
    simp only [stf] at hd ⊢
    obtain ⟨d, rfl⟩ : ∃ e, d = e + 1 := ⟨d - 1, by rw [List.length_cons] at hd; omega⟩
    rw [unl_step d out _ now.length now [] (by omega) rfl (by simp), unl_nil]
    simp
  | x :: xs, now, out, d, hn, hd => by
    simp only [stf] at hd ⊢
    by_cases hx : x = 0
    · rw [if_pos hx] at hd ⊢
      obtain ⟨d, rfl⟩ : ∃ e, d = e + 1 := ⟨d - 1, by rw [List.length_cons] at hd; omega⟩
      rw [unl_step d out _ now.length now (stf xs []) (by omega) rfl rfl, if_pos ⟨hn, stf_ne _ _⟩]
      rw [unl_stf xs [] _ d (by simp) (by rw [List.length_cons, List.length_append] at hd; omega)]
      simp [hx]
    · rw [if_neg hx] at hd ⊢
      by_cases hf : now.length + 1 = 254
      · rw [if_pos hf] at hd ⊢
        obtain ⟨d, rfl⟩ : ∃ e, d = e + 1 := ⟨d - 1, by rw [List.length_cons] at hd; omega⟩
        by_cases hxs : xs = []
        · rw [if_pos hxs] at hd ⊢
          rw [unl_step d out _ 254 (now ++ [x]) [] (by omega) (by simp; omega) (by simp), unl_nil]
          simp [hxs]
        · rw [if_neg hxs] at hd ⊢
          rw [unl_step d out _ 254 (now ++ [x]) (stf xs []) (by omega) (by simp; omega) (by simp), if_neg (by omega)]
          rw [unl_stf xs [] _ d (by simp) (by rw [List.length_cons, List.length_append] at hd; omega)]
          simp
      · rw [if_neg hf] at hd ⊢
        rw [unl_stf xs (now ++ [x]) out d (by simp; omega) hd]
        simp

theorem stf_inj {a b : List Int} (h : stf a [] = stf b []) : a = b := by
  have h1 := unl_stf a [] [] (stf a []).length (by simp) (Nat.le_refl _)
  have h2 := unl_stf b [] [] (stf b []).length (by simp) (Nat.le_refl _)
  rw [h, h2] at h1
  simpa using h1.symm

theorem stf_nz (a : List Int) : NoZ (stf a []) := (stf_noz a [] (fun _ h => by cases h) (by simp)).1

theorem stuff_len (a : List Int) : (stf a []).length ≤ a.length + 1 + (a.length - 1) / 254 := by
  have := stf_len a [] (by simp)
  simpa using this

theorem back_f (a : List Int) (hb : Bytes a) (hl : a.length ≤ 90000) : Ev (fun k => cobs_Unstuff.f k (stf a [])) (a, 0) := by
  have hlen := stuff_len a
  have h := unstuff_f (stf a []) (stuffed_bytes a hb) (by omega)
  refine Ev.eq h ?_
  rw [if_neg (by simpa using stf_nz a), if_neg (stf_ne _ _), unl_stf a [] [] _ (by simp) (Nat.le_refl _)]
  simp [fin]

end Go.Proofs.Ytdpghobknhkikaa.LCobs
