/- fence.Of: slices.Chunk over entries, and its closure. -/
import Derived.Test.YtnmdckgaljldhaaProg
import Derived.Below
import Derived.Deep.Draws
import Derived.Deep.AppendLies
import Derived.Maps.AppendAt
import Derived.OwnWalk
import Derived.Laws.BytesArg
import Derived.Laws.MakeOwn
import Derived.Laws.OwnMore
import Derived.Deep.OwnRows
import Derived.Tactics
import Derived.Lib.ConvBytes
import Derived.Laws.Slices
import Derived.WalkKit
import Derived.KernelRfl
import Derived.RowKit3
import Derived.Deep.LoopGhost
import Derived.Deep.QuietTactic
import Derived.BigQuiet
import Derived.WideLaws
import Derived.Deep.DeepCutAuto
import Derived.Deep.CutBlock
import Derived.Deep.RegionHeld3
import Derived.Laws.Rows
import Derived.Lib.AppendStr
import Derived.ArgAppend
import Derived.Laws.IdiomCopy
import Derived.OrdersHeld
import Derived.Laws.BitsLemmas
import Derived.RowKit
import Derived.Test.YtnmdckgaljldhaaWWords
import Derived.Test.YtnmdckgaljldhaaWLast
import Derived.Test.YtnmdckgaljldhaaWTab
import Derived.Test.YtnmdckgaljldhaaWFour
import Derived.Test.YtnmdckgaljldhaaWQPut
import Derived.Test.YtnmdckgaljldhaaWApart
import Derived.Test.YtnmdckgaljldhaaWArr
import Derived.Test.YtnmdckgaljldhaaWZeros
import Derived.Test.YtnmdckgaljldhaaWFoot
import Derived.Test.YtnmdckgaljldhaaWKept
import Derived.Test.YtnmdckgaljldhaaWShare
import Derived.Test.YtnmdckgaljldhaaWN
import Derived.Test.YtnmdckgaljldhaaWFootNe
import Derived.Test.YtnmdckgaljldhaaWAt
import Derived.Test.YtnmdckgaljldhaaWEqStruct
import Derived.Test.YtnmdckgaljldhaaWRepsOne
import Derived.Test.YtnmdckgaljldhaaWInv
import Derived.Test.YtnmdckgaljldhaaWInvWords
import Derived.Test.YtnmdckgaljldhaaWGuard
import Derived.Test.YtnmdckgaljldhaaWNEv
import Derived.Test.YtnmdckgaljldhaaWMore
import Derived.Test.YtnmdckgaljldhaaHSep
import Derived.RangeFuncBox
import Derived.RangeFuncNested
import Derived.RangeFuncLeaves
import Derived.Shelf.Abstract
import Derived.OwnWalkIn
import Derived.TacticsInMore
import Derived.LoopNIn
import Derived.LoopIn
set_option linter.unusedVariables false
set_option linter.unusedSimpArgs false
namespace Go.Proofs.Ytnmdckgaljldhaa.Fe
open Go Go.RowKit Go.Proofs.YtnmdckgaljldhaaW.PrintWords Go.Proofs.YtnmdckgaljldhaaW.PrintLast Go.Proofs.YtnmdckgaljldhaaW.PrintMore Go.Proofs.Ytnmdckgaljldhaa.Sep
set_option maxHeartbeats 4000000
set_option maxRecDepth 100000
attribute [local go_sem] Oper.semAt_some
attribute [local go_sem] max2_int min2_int max_two min_two

/-- slices.Chunk boxes the row and the size. -/
theorem chunk_in (F : Fence) (n : Nat) (hf : F.fn 93) (hro : F.round = none) (A : Option Addr) (len cap : Nat) (w : World) :
    CallsIn F n Try.prog 93 #[.slice A len cap, .int .i64 16] w fun e w' => e = .returned (.func (.func 122) #[] #[.pointer (some ⟨w.heap.size, 0, none⟩), .pointer (some ⟨w.heap.size + 1, 0, none⟩)]) ∧ w' = (w.alloc (.cells #[.slice A len cap] 77)).alloc (.cells #[.int .i64 16] 3) := by
  have hmf : ∀ (fn : Fn) (first cap : Array Value) (w : World), (Instr.makeFunc fn first cap).run Try.prog w = .ok (.func fn first cap) w := fun _ _ _ _ => rfl
  refine callsIn_of_wp Try.func93 rfl hf ?_ hro
  simp only [Try.ntmps93, List.size_toArray, List.length_cons, List.length_nil, Nat.reduceAdd, Nat.reduceSub, Array.replicate_succ, Array.replicate_zero, List.push_toArray, List.append_toArray, List.nil_append, List.cons_append]
  gi_wp2
  go_ret
  exact ⟨rfl, rfl⟩

/-- The k-th chunk. -/
def chunkV (ad : Addr) (n k : Nat) : Value := .slice (some (ad.add (16 * k * 2))) (min 16 (n - 16 * k) : Nat) (min 16 (n - 16 * k) : Nat)
/-- So many chunks. -/
def chunks (n : Nat) : Nat := (n + 15) / 16
/-- The chunks' numbers. -/
abbrev CI (len : Nat) := {k : Nat // 16 * k < len}
/-- What is kept between rounds: what lay below, and the two boxes. -/
def KpC (n₀ B1 B2 : Nat) (sv : Value) (W W' : World) : Prop := Below n₀ W W' ∧ (Boxed W B1 77 sv → Boxed W' B1 77 sv) ∧ (Boxed W B2 3 (.int .i64 16) → Boxed W' B2 3 (.int .i64 16))
theorem KpC.trans {n₀ B1 B2 : Nat} {sv : Value} {A B C : World} (h : KpC n₀ B1 B2 sv A B) (k : KpC n₀ B1 B2 sv B C) : KpC n₀ B1 B2 sv A C := ⟨h.1.trans k.1, fun x => k.2.1 (h.2.1 x), fun x => k.2.2 (h.2.2 x)⟩

theorem chunk1_in (F : Fence) (n : Nat) (hf : F.fn 122) (hro : F.round = none) (hn : 1 ≤ n) (l B1 B2 n₀ len cap : Nat) (ad : Addr) (A : Option Addr) (hA : 0 < len → A = some ad) (hlen : len ≤ 1000000) (hcap : len ≤ cap) (J Jx : List (CI len) → World → Prop) (hJd : ∀ pre W, J pre W → J pre W.drew)
    (hY : ∀ pre x W, J pre W → pre.length < chunks len → YieldAt F (n - 1) Try.prog l #[chunkV ad len x.1] W fun e W' =>
      (e = .returned (.bool true) ∧ J (pre ++ [x]) W' ∧ KpC n₀ B1 B2 (.slice A len cap) W W') ∨ (e = .returned (.bool false) ∧ Jx (pre ++ [x]) W'))
    (W : World) (hB1 : Boxed W B1 77 (.slice A len cap)) (hB2 : Boxed W B2 3 (.int .i64 16)) (h0 : J [] W) :
    CallsIn F n Try.prog 122 #[.func (.yield l) #[] #[], .pointer (some ⟨B1, 0, none⟩), .pointer (some ⟨B2, 0, none⟩)] W fun e W' => (∃ v, e = .returned v) ∧
      ((∃ ys : List (CI len), ys.map (·.1) = List.range (chunks len) ∧ J ys W') ∨ (∃ pre, True ∧ Jx pre W')) := by
  refine callsIn_of_wp Try.func122 rfl hf ?_ hro
  simp only [Try.ntmps122, List.size_toArray, List.length_cons, List.length_nil, Nat.reduceAdd, Nat.reduceSub, Array.replicate_succ, Array.replicate_zero, List.push_toArray, List.append_toArray, List.nil_append, List.cons_append]
  gi_wp2
  gi_loopw [4, 5] (fun i _ wr => ∃ (k : Nat) (pre : List (CI len)), i = .int .i64 ((16 * k : Nat) : Int) ∧ k ≤ chunks len ∧ pre.map (·.1) = List.range k ∧ J pre wr ∧ Boxed wr B1 77 (.slice A len cap) ∧ Boxed wr B2 3 (.int .i64 16))
    (fun i _ _ => 16 + len - (intOf i).toNat)
  case atStart => exact ⟨0, [], rfl, Nat.zero_le _, rfl, h0, hB1, hB2⟩
  case round =>
    obtain ⟨k, pre, rfl, hk, hpre, hJs, hb1, hb2⟩ := hrel
    have hplen : pre.length = k := by have := congrArg List.length hpre; simpa using this
    have hc1 := hb1.cell
    have hc2 := hb2.cell
    by_cases hlt : 16 * k < len
    · obtain rfl := hA (by omega)
      obtain ⟨fn, tmps, assign, body, hy, hR⟩ := hY pre ⟨k, hlt⟩ wr.drew (hJd _ _ hJs) (by rw [hplen]; unfold chunks; omega)
      obtain ⟨q, hq⟩ : ∃ q : Nat, min 16 (len - 16 * k) = q := ⟨_, rfl⟩
      have hq1 : 16 * k + q ≤ len := by omega
      have hq2 : 16 * k + q - 16 * k = q := by omega
      have hd : decide (((16 * k : Nat) : Int) < (len : Int)) = true := decide_eq_true (by omega)
      have hm : (if ((len - 16 * k : Nat) : Int) < 16 then ((len - 16 * k : Nat) : Int) else 16) = ((min 16 (len - 16 * k) : Nat) : Int) := by split <;> omega
      have hqv : chunkV ad len k = .slice (some (ad.add (16 * k * 2))) (q : Nat) (q : Nat) := by unfold chunkV; rw [hq]
      dsimp only at hy
      rw [hqv] at hy
      rw [hq] at hm
      gi_wp2
      gi_region
      all_goals (
        gi_wp2
        refine hR.mono ?_
        rintro e W3 (⟨rfl, hJ3, hk3⟩ | ⟨rfl, hJx3⟩)
        · have hb1' := hk3.2.1 hb1
          have hb2' := hk3.2.2 hb2
          have hc2' := hb2'.cell
          have hw : wrap64 (((16 * k : Nat) : Int) + 16) = ((16 * (k + 1) : Nat) : Int) := by unfold wrap64; omega
          gi_wp2
          go_roundw
          case rel => exact ⟨k + 1, pre ++ [⟨k, hlt⟩], by first | rfl | (simp; omega), by unfold chunks at *; omega, by rw [List.range_succ, List.map_append, hpre]; rfl, hJ3, hb1', hb2'⟩
          case measure => simp [intOf]; omega
        · gi_wp2
          refine bodyPost_ret (results_none rfl _ _ _) rfl ?_
          exact ⟨⟨_, rfl⟩, .inr ⟨_, trivial, hJx3⟩⟩)
    · have hk2 : k = chunks len := by unfold chunks at *; omega
      have hd : decide (((16 * k : Nat) : Int) < (len : Int)) = false := decide_eq_false (by omega)
      gi_wp2
      go_end0
      exact ⟨⟨_, rfl⟩, .inl ⟨_, by rw [hpre, hk2], hJs⟩⟩
end Go.Proofs.Ytnmdckgaljldhaa.Fe
