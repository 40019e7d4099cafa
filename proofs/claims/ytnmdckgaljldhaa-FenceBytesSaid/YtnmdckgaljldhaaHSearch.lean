/- sort.Search: over any closure that only tells. -/
import Derived.Test.YtnmdckgaljldhaaHSep
import Derived.Test.YtnmdckgaljldhaaPureKit
set_option linter.unusedVariables false
set_option linter.unusedSimpArgs false
namespace Go.Proofs.Ytnmdckgaljldhaa.Sep
open Go Go.RowKit Go.Proofs.YtnmdckgaljldhaaW.PrintWords Go.Proofs.YtnmdckgaljldhaaW.PrintLast Go.Proofs.YtnmdckgaljldhaaW.PrintMore Go.Proofs.Ytnmdckgaljldhaa.PureKit

/-- Where a search by halves ends. -/
def bsr (q : Nat → Bool) : Nat → Nat → Nat → Nat
  | 0, i, _ => i
  | d + 1, i, j => if i < j then (if q ((i + j) / 2) = true then bsr q d i ((i + j) / 2) else bsr q d ((i + j) / 2 + 1) j) else i

set_option maxHeartbeats 4000000 in
set_option maxRecDepth 100000 in
theorem search_calls (w0 w : World) (fid : FuncId) (caps : Array Value) (ps : List HP) (n : Nat) (q : Nat → Bool)
    (hent : ∀ (args : Array Value) (w : World), (callFunc fid args).run Try.prog w = .ok (.enter fid args) w)
    (hs : Sep w0 w ps) (hn : n ≤ 1000000000)
    (hcl : ∀ (W : World) (i : Nat), Sep w0 W ps → i < n → Calls Try.prog fid (#[.int .i64 (i : Int)] ++ caps) W fun e W' => e = .returned (.bool (q i)) ∧ Sep w0 W' ps) :
    Calls Try.prog 94 #[.int .i64 (n : Int), .func (.func fid) #[] caps] w fun e w' => e = .returned (.int .i64 ((bsr q n 0 n : Nat) : Int)) ∧ Sep w0 w' ps := by
  have hS := Aside0.mk hs
  have hCL := Aside0.mk hcl
  obtain ⟨RR, hRR⟩ : ∃ RR, bsr q n 0 n = RR := ⟨_, rfl⟩
  rw [hRR]
  have hRA := Aside0.mk hRR
  have hnA := Aside0.mk hn
  clear hs hcl hRR hn
  go_enter Try.func94, Try.ntmps94
  go_wp2_with (fail)
  go_loopg [5, 6] n (fun kq v5 v6 w' => ∃ (i j : Nat), v5 = .int .i64 i ∧ v6 = .int .i64 j ∧ Aside0 (i ≤ j ∧ j ≤ n ∧ j ≤ i + kq ∧ bsr q kq i j = RR) ∧ Aside0 (Sep w0 w' ps))
  case atStart => exact ⟨0, n, rfl, rfl, ⟨by omega, by omega, by omega, hRA.out⟩, hS⟩
  case round =>
    obtain ⟨i, j, rfl, rfl, hA, hS⟩ := hrel
    by_cases hij : i < j
    · obtain ⟨k1, rfl⟩ : ∃ k1, gk = k1 + 1 := ⟨gk - 1, by have := hA.out.2.2.1; omega⟩
      have hd : decide ((i : Int) < (j : Int)) = true := decide_eq_true (by omega)
      have hd2 : decide (i < j) = true := decide_eq_true hij
      obtain ⟨a1, a2, a3, a4⟩ := hA.out
      have hnn := hnA.out
      rw [bsr, if_pos hij] at a4
      obtain ⟨h, hh⟩ : ∃ h, (i + j) / 2 = h := ⟨_, rfl⟩
      rw [hh] at a4
      have hih : i ≤ h ∧ h < j := by omega
      have hcall := Aside0.mk (fun W (hW : Sep w0 W ps) => hCL.out W h hW (by omega))
      have b1 : Aside0 (q h = true → i ≤ h ∧ h ≤ n ∧ h ≤ i + k1 ∧ bsr q k1 i h = RR) := ⟨fun hq => ⟨by omega, by omega, by omega, by rw [if_pos hq] at a4; exact a4⟩⟩
      have b2 : Aside0 (q h = false → h + 1 ≤ j ∧ j ≤ n ∧ j ≤ h + 1 + k1 ∧ bsr q k1 (h + 1) j = RR) := ⟨fun hq => ⟨by omega, by omega, by omega, by rw [hq, if_neg (by decide)] at a4; exact a4⟩⟩
      have e1 : wrap64 ((i : Int) + (j : Int)) = ((i + j : Nat) : Int) := by rw [w64 (by omega) (by omega)]; omega
      have hbig : i + j ≤ 2000000000 := by omega
      have hmid : ((i : Int) + (j : Int)) / 2 = (h : Int) := by omega
      have hmA := Aside0.mk hmid
      clear a1 a2 a3 a4 hnn hih hij hmid
      go_wp2_with (fail)
      rw [hmA.out]
      refine (hcall.out _ hS.out).mono ?_
      rintro e w1 ⟨rfl, h1⟩
      have hS1 := Aside0.mk h1
      clear h1
      cases hq : q h with
      | true =>
        go_wp2_with (fail)
        go_roundg k1
        case measure => omega
        case rel => exact ⟨i, h, rfl, rfl, ⟨b1.out hq⟩, hS1⟩
      | false =>
        go_wp2_with (fail)
        go_roundg k1
        case measure => omega
        case rel => exact ⟨h + 1, j, by first | rfl | simp | trace_state, rfl, ⟨b2.out hq⟩, hS1⟩
    · have hd : decide ((i : Int) < (j : Int)) = false := decide_eq_false (by omega)
      have hd2 : decide (i < j) = false := decide_eq_false hij
      have hre : i = RR := by
        have := hA.out.2.2.2
        cases gk with
        | zero => exact this
        | succ k => rw [bsr, if_neg hij] at this; exact this
      have hreA := Aside0.mk hre
      clear hij hre
      go_wp2_with (fail)
      go_ret
      refine ⟨?_, hS.out⟩
      rw [← hreA.out]
      rfl

end Go.Proofs.Ytnmdckgaljldhaa.Sep
