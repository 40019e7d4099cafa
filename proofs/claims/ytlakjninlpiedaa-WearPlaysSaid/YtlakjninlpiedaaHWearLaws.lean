/- WearConfigs, WearLevels, walked. -/
import Derived.Test.YtlakjninlpiedaaHWear3
set_option linter.unusedVariables false
set_option linter.unusedSimpArgs false
namespace Go.Proofs.Ytlakjninlpiedaa.Fw
open Go Go.RowKit Go.Proofs.YtlakjninlpiedaaW.PrintWords Go.Proofs.YtlakjninlpiedaaW.PrintLast Go.Proofs.YtlakjninlpiedaaW.PrintMore Go.Proofs.Ytlakjninlpiedaa.Fl Go.Proofs.Ytlakjninlpiedaa.Sep Go.Proofs.Ytlakjninlpiedaa.G
set_option maxHeartbeats 4000000
set_option maxRecDepth 100000
attribute [local go_sem] run_f64bits run_frombits max2_int min2_int

theorem fnat3 : fnat 3 = 4613937818241073152 := by rw [← floatOf 3]; exact conv3
theorem fnat2 : fnat 2 = 4611686018427387904 := by rw [← floatOf 2]; exact conv2
theorem ratio32 : ratiov 3 2 = 4609434218613702656 := by
  have h := ratio_div (p := 3) (a := 2) (by decide) (by decide) (by decide)
  rw [fnat3, fnat2, show Ieee.double.div 4613937818241073152 4611686018427387904 = some 4609434218613702656 by kernel_rfl] at h
  exact (Option.some.inj h).symm
theorem skew332 : skewv 3 3 2 = 4611686018427387904 := by
  have h := skew_div (m := 3) (t := 3) (s := 2) (by decide) (by decide) (by decide) (by decide) (by decide)
  rw [fnat3, ratio32, show Ieee.double.div 4613937818241073152 4609434218613702656 = some 4611686018427387904 by kernel_rfl] at h
  exact (Option.some.inj h).symm
theorem eq_lit (x : Nat) (h : ¬ nan x) : (FloatKind.f64.format.order x x == some .eq) = true := by
  rw [show (FloatKind.f64.format.order x x == some .eq) = decide (¬ nan x ∧ ¬ nan x ∧ rv x = rv x) from o_eq _ _]
  exact decide_eq_true ⟨h, h, rfl⟩

theorem lives29 (w0 w : World) (ps : List HP) (hs : Sep.Sep w0 w ps) : Calls Try.prog 16 #[] w fun e w' => e = .returned (.bool true) ∧ Sep.Sep w0 w' ps := by
  have hu2 := Try.underlying24
  have hS := Aside0.mk hs
  have e1 := eq_lit 4609434218613702656 (by decide)
  have e2 := eq_lit 4611686018427387904 (by decide)
  have hupd : ∀ k, k < 4294967296 → upd (fun _ => 0) 0 (0 + 3) k < 18446744073709551616 := fun k _ => by unfold upd; dsimp only; split <;> omega
  clear hs
  go_enter Try.func16, Try.ntmps16
  go_wp2_with (fail)
  refine (wear_New w0 _ 12 2 ps hS.out (by decide) (by decide) (by decide) (by decide)).mono ?_
  rintro r w1 ⟨g, b, rfl, h1⟩
  have hS1 := Aside0.mk h1
  clear h1
  go_wp2_with (fail)
  refine (wear_Note_ok w0 _ g 12 2 b 0 0 (fun _ => 0) ps 0 3 hS1.out (by decide) (by decide) (by decide) (by decide) (by decide)).mono ?_
  rintro r w2 ⟨rfl, h2⟩
  have hS2 := Aside0.mk h2
  clear h2
  go_wp2_with (fail)
  refine (wear_Mean w0 _ g 12 2 b (0 + 1) (0 + 3) (upd (fun _ => 0) 0 (0 + 3)) ps hS2.out (by decide) (by decide)).mono ?_
  rintro r w3 ⟨rfl, hb3⟩
  have hS3 := Aside0.mk (hS2.out.below hb3)
  clear hb3
  rw [show ratiov (0 + 3) 2 = 4609434218613702656 from ratio32]
  go_wp2_with (fail)
  refine (wear_Skew w0 _ g 12 2 b (0 + 1) (0 + 3) (upd (fun _ => 0) 0 (0 + 3)) ps hS3.out hupd (by decide) (by decide) (by decide)).mono ?_
  rintro r w4 ⟨⟨m, rfl, hM⟩, hb4⟩
  have hm : m = 3 := by
    have h0 := hM.1 0 (by decide)
    rw [upd_same] at h0
    rcases hM.2 with h | ⟨k, -, h⟩
    · omega
    · unfold upd at h; dsimp only at h; split at h <;> omega
  subst hm
  have hS4 := Aside0.mk (hS3.out.below hb4)
  clear hb4 hM
  rw [show skewv 3 (0 + 3) 2 = 4611686018427387904 from skew332]
  go_wp2_with (fail)
  refine (wear_Least w0 _ g 12 2 b (0 + 1) (0 + 3) (upd (fun _ => 0) 0 (0 + 3)) ps hS4.out (by decide) (by decide)).mono ?_
  rintro r w5 ⟨⟨k, rfl, hL⟩, hb5⟩
  have hk : k = 1 := by
    obtain ⟨h0, h1, h2⟩ := hL
    have h3 := h1 1 (by decide)
    rw [upd_other (show 1 ≠ 0 by decide)] at h3
    have : k ≠ 0 := fun h => by rw [h, upd_same] at h3; omega
    omega
  subst hk
  have hS5 := Aside0.mk (hS4.out.below hb5)
  clear hb5 hL
  go_wp2_with (fail)
  go_ret
  exact ⟨rfl, hS5.out.tail.tail⟩

theorem wearConfigs_call (e : Int) (s k : Nat) (he : 0 ≤ e ∧ e ≤ 255) (hs : s < 4294967296) (hk : k < 4294967296) (w : World) :
    Calls Try.prog 3 #[.agg #[.int .u8 e, .int .u32 (s : Int)], .int .u32 (k : Int)] w fun r w' => r = .returned (.bool true) ∧ Below w.heap.size w w' := by
  have hu2 := Try.underlying24
  have hS0 := Aside0.mk ((Sep.start w).alloc #[.int .u8 e, .int .u32 (s : Int)] 24)
  by_cases hmay : 12 ≤ e ∧ e ≤ 24 ∧ 1 ≤ (s : Int) ∧ (s : Int) ≤ 65536
  · have hck := check_ok hmay.1 hmay.2.1 hmay.2.2.1 hmay.2.2.2
    have hm := Aside0.mk hmay
    clear hmay he hs
    go_enter Try.func3, Try.ntmps3
    go_wp2_with (fail)
    refine (lives29 w _ _ hS0.out).mono ?_
    rintro r w1 ⟨rfl, h1⟩
    generalize hgc : w.heap.size = gc at h1 ⊢
    have hc_0 : w1.cell? ⟨gc, 0, none⟩ = some (.int .u8 e) := ((h1).cell 0).trans rfl; have hc_1 : w1.cell? ⟨gc, 1, none⟩ = some (.int .u32 (s : Int)) := ((h1).cell 1).trans rfl
    have hS1 := Aside0.mk h1
    clear h1 hS0
    go_wp2_with (fail)
    refine (wear_New w _ e s _ hS1.out hm.out.1 hm.out.2.1 (by have := hm.out; omega) (by have := hm.out; omega)).mono ?_
    rintro r w2 ⟨g, b, rfl, h2⟩
    clear hc_0 hc_1
    have hc_0 : w2.cell? ⟨gc, 0, none⟩ = some (.int .u8 e) := ((h2.pick2).cell 0).trans rfl; have hc_1 : w2.cell? ⟨gc, 1, none⟩ = some (.int .u32 (s : Int)) := ((h2.pick2).cell 1).trans rfl
    have hS2 := Aside0.mk h2
    clear h2 hS1
    go_wp2_with (fail)
    refine (config_Check.calls e (s : Int) 0 _ hck).mono ?_
    rintro r w3 ⟨rfl, hb3⟩
    have hS3 := Aside0.mk (hS2.out.below hb3)
    clear hb3 hc_0 hc_1 hS2
    by_cases hks : k < s
    · go_wp2_with (fail)
      refine (wear_Note_full w _ g e s b 0 0 (fun _ => 0) _ k 9007199254740993 hS3.out hks (by decide) (by decide)).mono ?_
      rintro r w4 ⟨rfl, hw4⟩
      have hS4 := Aside0.mk (hw4 ▸ hS3.out)
      clear hw4 hS3
      go_wp2_with (fail)
      refine (wear_Note_ok w _ g e s b 0 0 (fun _ => 0) _ k 9007199254740992 hS4.out hks (by have := hm.out; omega) (by decide) (by decide) (by decide)).mono ?_
      rintro r w5 ⟨rfl, h5⟩
      rw [Nat.zero_add, Nat.zero_add] at h5
      have hc_0 : w5.cell? ⟨gc, 0, none⟩ = some (.int .u8 e) := ((h5.pick2).cell 0).trans rfl; have hc_1 : w5.cell? ⟨gc, 1, none⟩ = some (.int .u32 (s : Int)) := ((h5.pick2).cell 1).trans rfl
      have hS5 := Aside0.mk h5
      have hq : decide ((k : Int) < (s : Int)) = true := decide_eq_true (by omega)
      have hq2 : decide (k < s) = true := decide_eq_true hks
      clear h5 hS4
      go_wp2_with (fail)
      refine (wear_Note_full w _ g e s b 1 9007199254740992 (upd (fun _ => 0) k 9007199254740992) _ k 1 hS5.out hks (by decide) (by decide)).mono ?_
      rintro r w6 ⟨rfl, hw6⟩
      have hS6 := Aside0.mk (hw6 ▸ hS5.out)
      clear hw6 hS5
      go_wp2_with (fail)
      refine (wear_Note_ok w _ g e s b 1 9007199254740992 (upd (fun _ => 0) k 9007199254740992) _ k 0 hS6.out hks (by have := hm.out; omega) (by decide) (by rw [upd_same]; decide) (by decide)).mono ?_
      rintro r w7 ⟨rfl, h7⟩
      have hS7 := Aside0.mk h7
      clear h7
      go_wp2_with (fail)
      go_ret
      exact ⟨by first | rfl | simp, hS7.out.1⟩
    · go_wp2_with (fail)
      refine (wear_Note_arg w _ g e s b 0 0 (fun _ => 0) _ k 9007199254740993 hS3.out (by omega)).mono ?_
      rintro r w4 ⟨rfl, hw4⟩
      have hS4 := Aside0.mk (hw4 ▸ hS3.out)
      clear hw4 hS3
      go_wp2_with (fail)
      refine (wear_Note_arg w _ g e s b 0 0 (fun _ => 0) _ k 9007199254740992 hS4.out (by omega)).mono ?_
      rintro r w5 ⟨rfl, hw5⟩
      have h5 := hw5 ▸ hS4.out
      have hc_0 : w5.cell? ⟨gc, 0, none⟩ = some (.int .u8 e) := ((h5.pick2).cell 0).trans rfl; have hc_1 : w5.cell? ⟨gc, 1, none⟩ = some (.int .u32 (s : Int)) := ((h5.pick2).cell 1).trans rfl
      have hS5 := Aside0.mk h5
      have hq : decide ((k : Int) < (s : Int)) = false := decide_eq_false (by omega)
      have hq2 : decide (k < s) = false := decide_eq_false hks
      clear hw5 hS4 h5
      go_wp2_with (fail)
      go_ret
      exact ⟨by first | rfl | simp, hS5.out.1⟩
  · have hck := check_no hmay
    have hm := Aside0.mk hmay
    clear hmay he hs
    go_enter Try.func3, Try.ntmps3
    go_wp2_with (fail)
    refine (lives29 w _ _ hS0.out).mono ?_
    rintro r w1 ⟨rfl, h1⟩
    generalize hgc : w.heap.size = gc at h1 ⊢
    have hc_0 : w1.cell? ⟨gc, 0, none⟩ = some (.int .u8 e) := ((h1).cell 0).trans rfl; have hc_1 : w1.cell? ⟨gc, 1, none⟩ = some (.int .u32 (s : Int)) := ((h1).cell 1).trans rfl
    have hS1 := Aside0.mk h1
    clear h1 hS0
    go_wp2_with (fail)
    refine (wear_New_no _ e (s : Int) hm.out).mono ?_
    rintro r w2 ⟨rfl, hb2⟩
    have h2 := hS1.out.below hb2
    clear hb2 hc_0 hc_1
    have hc_0 : w2.cell? ⟨gc, 0, none⟩ = some (.int .u8 e) := ((h2).cell 0).trans rfl; have hc_1 : w2.cell? ⟨gc, 1, none⟩ = some (.int .u32 (s : Int)) := ((h2).cell 1).trans rfl
    have hS2 := Aside0.mk h2
    clear h2 hS1
    go_wp2_with (fail)
    refine (config_Check.calls e (s : Int) 1 _ hck).mono ?_
    rintro r w3 ⟨rfl, hb3⟩
    have hS3 := Aside0.mk (hS2.out.below hb3)
    clear hb3 hc_0 hc_1 hS2
    go_wp2_with (fail)
    go_ret
    exact ⟨by first | rfl | simp, hS3.out.1⟩
end Go.Proofs.Ytlakjninlpiedaa.Fw
