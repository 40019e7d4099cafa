/- WearLevels, walked. -/
import Derived.Test.YtlakjninlpiedaaHWearLaws
set_option linter.unusedVariables false
set_option linter.unusedSimpArgs false
namespace Go.Proofs.Ytlakjninlpiedaa.Fw
open Go Go.RowKit Go.Proofs.YtlakjninlpiedaaW.PrintWords Go.Proofs.YtlakjninlpiedaaW.PrintLast Go.Proofs.YtlakjninlpiedaaW.PrintMore Go.Proofs.Ytlakjninlpiedaa.Fl Go.Proofs.Ytlakjninlpiedaa.Sep Go.Proofs.Ytlakjninlpiedaa.G
set_option maxHeartbeats 4000000
set_option maxRecDepth 100000
attribute [local go_sem] run_f64bits run_frombits max2_int min2_int

/-- No two of the first ones differ by more than one. -/
def Lev (f : Nat → Nat) (s c : Nat) : Prop := ∀ j, j < s → c ≤ f j ∧ f j ≤ c + 1
theorem Lev.step {f : Nat → Nat} {s c k : Nat} (h : Lev f s c) (hk : Ls f s k) : ∃ c', Lev (upd f k (f k + 1)) s c' ∧ f k + 1 ≤ c' + 1 ∧ c' ≤ c + 1 := by
  have h0 := h k hk.1
  by_cases hc : f k = c
  · by_cases hall : ∃ j, j < s ∧ j ≠ k ∧ f j = c
    · obtain ⟨j0, _, _, _⟩ := hall
      refine ⟨c, fun j hj => ?_, by omega, by omega⟩
      by_cases hjk : j = k
      · rw [hjk, upd_same]; omega
      · rw [upd_other hjk]; exact h j hj
    · refine ⟨c, fun j hj => ?_, by omega, by omega⟩
      by_cases hjk : j = k
      · rw [hjk, upd_same]; omega
      · rw [upd_other hjk]; exact h j hj
  · refine ⟨c + 1, fun j hj => ?_, by omega, by omega⟩
    have h1 := hk.2.1 j hj
    have h2 := h j hj
    by_cases hjk : j = k
    · rw [hjk, upd_same]; omega
    · rw [upd_other hjk]; omega

theorem wearLevels_call (n times : Nat) (hn : n < 256) (ht : times < 256) (w : World) :
    Calls Try.prog 4 #[.int .u8 (n : Int), .int .u8 (times : Int)] w fun r w' => r = .returned (.bool true) ∧ Below w.heap.size w w' := by
  have hu2 := Try.underlying24
  have hS0 := Aside0.mk (Sep.start w)
  obtain ⟨s, hs⟩ : ∃ s, 1 + n % 20 = s := ⟨_, rfl⟩
  have q1 : Int.tmod (n : Int) 20 = ((n % 20 : Nat) : Int) := by rw [Int.tmod_eq_emod_of_nonneg (by omega)]; omega
  have q2 : IntKind.u8.wrap ((n % 20 : Nat) : Int) = ((n % 20 : Nat) : Int) := by rw [IntKind.wrap_u8]; omega
  have q3 : IntKind.u32.wrap ((n % 20 : Nat) : Int) = ((n % 20 : Nat) : Int) := by rw [IntKind.wrap_u32]; omega
  have q4 : IntKind.u32.wrap (1 + ((n % 20 : Nat) : Int)) = (s : Int) := by rw [IntKind.wrap_u32]; omega
  have hsb : 1 ≤ s ∧ s ≤ 20 := by omega
  generalize n % 20 = n20 at *
  have hsA := Aside0.mk hsb
  have htA := Aside0.mk ht
  clear hs hn ht hsb
  go_enter Try.func4, Try.ntmps4
  go_wp2_with (fail)
  refine (lives29 w _ _ hS0.out).mono ?_
  rintro r w1 ⟨rfl, h1⟩
  have hS1 := Aside0.mk h1
  clear h1 hS0
  go_wp2_with (fail)
  refine (wear_New w _ 12 s _ hS1.out (by decide) (by decide) hsA.out.1 (by have := hsA.out; omega)).mono ?_
  rintro r w2 ⟨g, b, rfl, h2⟩
  have hS2 := Aside0.mk h2
  clear h2 hS1
  go_wp2_with (fail)
  go_loopg [30] times (fun kq v30 w' => ∃ (i c : Nat) (f : Nat → Nat), v30 = .int .u8 (i : Int) ∧ Aside0 (i + kq = times) ∧ Aside0 (Sep.Sep w w' (gg g 12 s b i i f ++ [])) ∧ Aside0 (Lev f s c ∧ c ≤ i))
  case atStart => exact ⟨0, 0, _, rfl, ⟨by omega⟩, hS2, ⟨fun j _ => ⟨Nat.le_refl _, Nat.zero_le _⟩, Nat.le_refl _⟩⟩
  case round =>
    clear hS2
    obtain ⟨i, c, f, rfl, hA, hS, hL⟩ := hrel
    by_cases hit : i < times
    · obtain ⟨k1, rfl⟩ : ∃ k1, gk = k1 + 1 := ⟨gk - 1, by have := hA.out; omega⟩
      have hd : decide ((i : Int) < (times : Int)) = true := decide_eq_true (by omega)
      have hd2 : decide (i < times) = true := decide_eq_true hit
      have hib : i < 255 := by have := htA.out; omega
      have hibA := Aside0.mk hib
      have hw1 : IntKind.u8.wrap ((i : Int) + 1) = ((i + 1 : Nat) : Int) := by rw [IntKind.wrap_u8]; omega
      have hA' : Aside0 (i + 1 + k1 = times) := ⟨by have := hA.out; omega⟩
      clear hit hib
      go_wp2_with (fail)
      refine (wear_Least w _ g 12 s b i i f [] hS.out hsA.out.1 (by have := hsA.out; omega)).mono ?_
      rintro r w3 ⟨⟨k, rfl, hk⟩, hb3⟩
      have hS3 := Aside0.mk (hS.out.below hb3)
      obtain ⟨c', hL', -, hc'⟩ := hL.out.1.step hk
      have hfk := (hL.out.1 k hk.1).2
      have hci := hL.out.2
      have hks := hk.1
      have hLA := Aside0.mk hL'
      have hcA := Aside0.mk (show c' ≤ i + 1 by omega)
      clear hb3 hk hc'
      go_wp2_with (fail)
      refine (wear_Note_ok w _ g 12 s b i i f [] k 1 hS3.out hks (by have := hsA.out; omega) (by have := hibA.out; omega) (by have := hibA.out; omega) (by have := hibA.out; omega)).mono ?_
      rintro r w4 ⟨rfl, h4⟩
      have hS4 := Aside0.mk h4
      clear h4 hfk hci hks hL' hS3
      generalize upd f k (f k + 1) = f' at *
      go_wp2_with (fail)
      refine (wear_Of w _ g 12 s b (i + 1) (i + 1) f' [] 0 hS4.out (by decide)).mono ?_
      rintro r w5 ⟨rfl, hw5⟩
      have hS5 := Aside0.mk (hw5 ▸ hS4.out)
      clear hw5 hS4
      go_wp2_with (fail)
      refine (wear_Of w _ g 12 s b (i + 1) (i + 1) f' [] 0 hS5.out (by decide)).mono ?_
      rintro r w6 ⟨rfl, hw6⟩
      have hS6 := Aside0.mk (hw6 ▸ hS5.out)
      clear hw6 hS5
      go_wp2_with (fail)
      go_loopg [8, 9, 42] s (fun kq v8 v9 v42 w' => ∃ (j lo hi : Nat), v8 = .int .u64 (lo : Int) ∧ v9 = .int .u64 (hi : Int) ∧ v42 = .int .u32 (j : Int) ∧ Aside0 (j + kq = s) ∧ Aside0 (c' ≤ lo ∧ lo ≤ hi ∧ hi ≤ c' + 1) ∧ Aside0 (Sep.Sep w w' (gg g 12 s b (i + 1) (i + 1) f' ++ [])))
      case atStart => exact ⟨0, f' 0, f' 0, rfl, rfl, rfl, ⟨by omega⟩, ⟨by have := hLA.out 0 hsA.out.1; omega⟩, hS6⟩
      case round =>
        clear hS6
        obtain ⟨j, lo, hi, rfl, rfl, rfl, hB, hR, hS7⟩ := hrel
        by_cases hjs : j < s
        · obtain ⟨k2, rfl⟩ : ∃ k2, gk = k2 + 1 := ⟨gk - 1, by have := hB.out; omega⟩
          have he : decide ((j : Int) < (s : Int)) = true := decide_eq_true (by omega)
          have he2 : decide (j < s) = true := decide_eq_true hjs
          have hw2 : IntKind.u32.wrap ((j : Int) + 1) = ((j + 1 : Nat) : Int) := by rw [IntKind.wrap_u32]; have := hsA.out; omega
          have hB' : Aside0 (j + 1 + k2 = s) := ⟨by have := hB.out; omega⟩
          have hfj := hLA.out j hjs
          have hOf := Aside0.mk (fun W hW => wear_Of w W g 12 s b (i + 1) (i + 1) f' [] j hW (by have := hsA.out; omega))
          obtain ⟨y, hy⟩ : ∃ y, f' j = y := ⟨_, rfl⟩
          rw [hy] at hfj hOf
          have hr := hR.out
          have hcs : ∃ lo2 hi2 : Nat, ((y < lo ∧ lo2 = y) ∨ (¬ y < lo ∧ lo2 = lo)) ∧ ((hi < y ∧ hi2 = y) ∨ (¬ hi < y ∧ hi2 = hi)) ∧ c' ≤ lo2 ∧ lo2 ≤ hi2 ∧ hi2 ≤ c' + 1 := by
            by_cases h1 : y < lo <;> by_cases h2 : hi < y
            · exact ⟨y, y, .inl ⟨h1, rfl⟩, .inl ⟨h2, rfl⟩, by omega, by omega, by omega⟩
            · exact ⟨y, hi, .inl ⟨h1, rfl⟩, .inr ⟨h2, rfl⟩, by omega, by omega, by omega⟩
            · exact ⟨lo, y, .inr ⟨h1, rfl⟩, .inl ⟨h2, rfl⟩, by omega, by omega, by omega⟩
            · exact ⟨lo, hi, .inr ⟨h1, rfl⟩, .inr ⟨h2, rfl⟩, by omega, by omega, by omega⟩
          obtain ⟨lo2, hi2, hlo, hhi, hR'⟩ := hcs
          have hR'A := Aside0.mk hR'
          clear hy hfj hr hR' hjs
          go_wp2_with (fail)
          refine (hOf.out _ hS7.out).mono ?_
          rintro r w8 ⟨rfl, hw8⟩
          have hS8 := Aside0.mk (hw8 ▸ hS7.out)
          clear hw8 hS7
          rcases hlo with ⟨h1, rfl⟩ | ⟨h1, rfl⟩ <;> rcases hhi with ⟨h2, rfl⟩ | ⟨h2, rfl⟩
          all_goals
            go_wp2_with (fail)
            refine (hOf.out _ hS8.out).mono ?_
            rintro r w9 ⟨rfl, hw9⟩
            have hS9 := Aside0.mk (hw9 ▸ hS8.out)
            clear hw9 hS8
            go_wp2_with (fail)
            all_goals first | contradiction | skip
            go_roundg k2
            case measure => omega
            case rel => exact ⟨j + 1, _, _, rfl, rfl, by first | rfl | simp | rw [hw2], hB', hR'A, hS9⟩
        · have he : decide ((j : Int) < (s : Int)) = false := decide_eq_false (by omega)
          have he2 : decide (j < s) = false := decide_eq_false hjs
          have hw3 : IntKind.u64.wrap ((hi : Int) - (lo : Int)) = (hi : Int) - (lo : Int) := by rw [IntKind.wrap_u64]; have := hR.out; have := hcA.out; have := hibA.out; omega
          have hq : decide ((hi : Int) - (lo : Int) > 1) = false := decide_eq_false (by have := hR.out; omega)
          have hq2 : decide (1 < (hi : Int) - (lo : Int)) = false := decide_eq_false (by have := hR.out; omega)
          clear hjs
          go_wp2_with (fail)
          go_roundg k1
          case measure => omega
          case rel => exact ⟨i + 1, c', f', by first | rfl | simp | rw [hw1], hA', hS7, ⟨hLA.out, hcA.out⟩⟩
    · have hd : decide ((i : Int) < (times : Int)) = false := decide_eq_false (by omega)
      have hd2 : decide (i < times) = false := decide_eq_false hit
      have hi : i = times := by have := hA.out; omega
      subst hi
      have hq5 : IntKind.u64.wrap (i : Int) = (i : Int) := by rw [IntKind.wrap_u64]; have := htA.out; omega
      clear hit
      go_wp2_with (fail)
      refine (wear_Total w _ g 12 s b i i f [] hS.out).mono ?_
      rintro r w3 ⟨rfl, hw3⟩
      have hS3 := Aside0.mk (hw3 ▸ hS.out)
      clear hw3 hS
      go_wp2_with (fail)
      go_ret
      exact ⟨by first | rfl | simp, hS3.out.1⟩
end Go.Proofs.Ytlakjninlpiedaa.Fw
