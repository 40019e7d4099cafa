/- A map of counts (map[uint32]uint64) as a piece. -/
import Derived.Test.YtlakjninlpiedaaProg
import Derived.Below
import Derived.Deep.Draws
import Derived.Deep.AppendLies
import Derived.Maps.AppendAt
import Derived.OwnWalk
import Derived.Laws.BytesArg
import Derived.Laws.MakeOwn
import Derived.Laws.OwnMore
import Derived.Deep.OwnRows
import Derived.Tactics
import Derived.Lib.ConvBytes
import Derived.Laws.Slices
import Derived.WalkKit
import Derived.KernelRfl
import Derived.RowKit3
import Derived.Deep.LoopGhost
import Derived.Deep.QuietTactic
import Derived.BigQuiet
import Derived.WideLaws
import Derived.Deep.DeepCutAuto
import Derived.Deep.CutBlock
import Derived.Deep.RegionHeld3
import Derived.Laws.Rows
import Derived.Lib.AppendStr
import Derived.ArgAppend
import Derived.Laws.IdiomCopy
import Derived.OrdersHeld
import Derived.Laws.BitsLemmas
import Derived.RowKit
import Derived.Test.YtlakjninlpiedaaWWords
import Derived.Test.YtlakjninlpiedaaWLast
import Derived.Test.YtlakjninlpiedaaWTab
import Derived.Test.YtlakjninlpiedaaWFour
import Derived.Test.YtlakjninlpiedaaWQPut
import Derived.Test.YtlakjninlpiedaaWApart
import Derived.Test.YtlakjninlpiedaaWArr
import Derived.Test.YtlakjninlpiedaaWZeros
import Derived.Test.YtlakjninlpiedaaWFoot
import Derived.Test.YtlakjninlpiedaaWKept
import Derived.Test.YtlakjninlpiedaaWShare
import Derived.Test.YtlakjninlpiedaaWN
import Derived.Test.YtlakjninlpiedaaWFootNe
import Derived.Test.YtlakjninlpiedaaWAt
import Derived.Test.YtlakjninlpiedaaWEqStruct
import Derived.Test.YtlakjninlpiedaaWRepsOne
import Derived.Test.YtlakjninlpiedaaWInv
import Derived.Test.YtlakjninlpiedaaWInvWords
import Derived.Test.YtlakjninlpiedaaWGuard
import Derived.Test.YtlakjninlpiedaaWNEv
import Derived.Test.YtlakjninlpiedaaWMore
import Derived.Test.YtlakjninlpiedaaHSep
import Derived.Maps.RangeWalk
import Derived.Maps.Own
import Derived.Maps.OwnOps
import Derived.Maps.Views
import Derived.Carry
set_option linter.unusedVariables false
namespace Go.Proofs.Ytlakjninlpiedaa.Sep
open Go Go.RowKit Go.Proofs.YtlakjninlpiedaaW.PrintWords Go.Proofs.YtlakjninlpiedaaW.PrintLast Go.Proofs.YtlakjninlpiedaaW.PrintMore

noncomputable abbrev mpR : Value → Option (DataW Unit × List MemPlace) := plainElem Try.prog 32
abbrev mK (k : Nat) : Lit := .int .u32 (k : Int)
def upd (f : Nat → Nat) (k v : Nat) : Nat → Nat := fun j => if j = k then v else f j
theorem upd_same (f : Nat → Nat) (k v : Nat) : upd f k v k = v := if_pos rfl
theorem upd_other {f : Nat → Nat} {k v j : Nat} (h : j ≠ k) : upd f k v j = f j := if_neg h
/-- What a map reads as: at each key a count. -/
def Cnt (D : DataW Unit) (f : Nat → Nat) : Prop := ∀ k : Nat, k < 4294967296 → D.atKey (mK k) (.lit (.int .u64 0)) = .lit (.int .u64 (f k : Int))
theorem mKeyed : Maps.Keyed Try.prog 22 := Maps.int_keyed Try.underlying22
theorem mkeyOf {k : Nat} (h : k < 4294967296) : keyOf Try.prog 22 (.int .u32 (k : Int)) = some (mK k) :=
  Maps.keyOf_int_mk Try.underlying22 (by simp [Lit.wf, IntKind.min, IntKind.max, IntKind.bits, IntKind.signed]; omega)

def mpp (b n : Nat) (f : Nat → Nat) : HP where
  p := fun w bs => bs = [b] ∧ ∃ D : DataW Unit, w.ownsMap Try.prog 22 mpR b n D ∧ Cnt D f
  loc := fun {w w' bs} h hm => by
    obtain ⟨e, D, ⟨es, clock, hb, r⟩, hf⟩ := h
    exact ⟨e, D, ⟨es, clock, (hm b (by rw [e]; exact List.mem_singleton.2 rfl)).trans hb, r⟩, hf⟩

theorem Sep.mp_at {w0 w : World} {b n : Nat} {f : Nat → Nat} {ps : List HP} (h : Sep w0 w (mpp b n f :: ps)) : (∃ D : DataW Unit, w.ownsMap Try.prog 22 mpR b n D ∧ Cnt D f) ∧ w0.heap.size ≤ b ∧ b < w.heap.size := by
  obtain ⟨hb, bs, ⟨b1, b2, e, ⟨e1, hp⟩, hs⟩, hn, hr⟩ := h
  exact ⟨hp, hr b (by rw [e, e1]; simp)⟩

theorem Sep.mp_new {w0 w : World} {ps : List HP} (h : Sep w0 w ps) : Sep w0 (w.alloc (.map #[] 0)) (mpp w.heap.size 0 (fun _ => 0) :: ps) := by
  have hb := below_alloc (Below.refl w.heap.size w) (.map #[] 0)
  have := Sep.step (ps := []) (qs := [mpp w.heap.size 0 (fun _ => 0)]) (rs := ps) h ⟨hb.os, hb.tape, hb.output, hb.size, fun j hj => absurd hj (Nat.not_lt_zero j)⟩
    (fun b1 h1 _ _ => ⟨[w.heap.size], ⟨[w.heap.size], [], rfl, ⟨rfl, _, World.ownsMap_made w _ _ _, fun k _ => rfl⟩, rfl⟩, by simp, fun b hb => by
      rw [List.mem_singleton.1 hb]; exact ⟨.inr (Nat.le_refl _), (show w.heap.size < (w.heap.push _).size from by simp)⟩, fun j hj _ => hb.block j hj⟩)
  exact this

/-- What is looked up. -/
theorem Sep.mp_look {w0 w : World} {b n k : Nat} {f : Nat → Nat} {ps : List HP} (h : Sep w0 w (mpp b n f :: ps)) (hk : k < 4294967296) :
    (Instr.lookup 105 (.map (some b)) (.int .u32 (k : Int)) false).run Try.prog w = .ok (.int .u64 (f k : Int)) w := by
  obtain ⟨⟨D, hD, hf⟩, -, -⟩ := h.mp_at
  obtain ⟨c, hrun, hat, hw⟩ := hD.lookup_int mKeyed Try.underlying105 Try.underlying32 (Try.zeroValue32 w) (mkeyOf hk)
  rw [hf k hk] at hat
  have : c = (f k : Int) := by
    have h1 := hat
    simp only [DataW.lit.injEq, Lit.int.injEq] at h1
    exact h1.2.symm
  rw [← this]; exact hrun

theorem Sep.mp_set {w0 w : World} {b n k v : Nat} {f : Nat → Nat} {ps : List HP} (h : Sep w0 w (mpp b n f :: ps)) (hk : k < 4294967296) (hv : v < 18446744073709551616) (hn : n < 1000000000000) :
    ∃ w', (Instr.mapUpdate 105 (.map (some b)) (.int .u32 (k : Int)) (.int .u64 (v : Int))).run Try.prog w = .ok () w' ∧ Sep w0 w' (mpp b (n + 1) (upd f k v) :: ps) := by
  obtain ⟨⟨D, hD, hf⟩, hb0, hlt⟩ := h.mp_at
  have hwf : (Lit.int .u64 (v : Int)).wf = true := by simp [Lit.wf, IntKind.min, IntKind.max, IntKind.bits, IntKind.signed]; omega
  obtain ⟨w', hrun, hD', hg⟩ := hD.update mKeyed Try.underlying105 (Nat.lt_of_lt_of_le hn (by decide)) (mkeyOf hk) (plainElem_int Try.underlying32 hwf)
  refine ⟨w', hrun, ?_⟩
  have hC : Cnt (D.put (mK k) (.lit (.int .u64 (v : Int)))) (upd f k v) := by
    intro j hj
    have hm : Maps.IsMap D := by obtain ⟨es, clock, _, _, _, rfl⟩ := hD; exact ⟨_, rfl⟩
    by_cases hjk : j = k
    · subst hjk
      rw [Maps.atKey_put_same hm (mKeyed.key (mkeyOf hj)), upd_same]
    · rw [Maps.atKey_put_other (by intro e; simp only [mK, Lit.int.injEq] at e; omega), hf j hj, upd_other hjk]
  have := Sep.step (ps := [mpp b n f]) (qs := [mpp b (n + 1) (upd f k v)]) (rs := ps) h ⟨hg.os, hg.tape, hg.output, hg.size, fun j hj => absurd hj (Nat.not_lt_zero j)⟩ (fun b1 h1 _ _ => by
    obtain ⟨c1, c2, e, ⟨e1, _⟩, e2⟩ := h1
    cases e2
    subst e1
    rw [e]
    refine ⟨[b], ⟨[b], [], rfl, ⟨rfl, _, hD', hC⟩, rfl⟩, by simp, fun j hj => ⟨.inl (by simpa using hj), by rw [List.mem_singleton.1 hj]; exact Nat.lt_of_lt_of_le hlt hg.size⟩, fun j hj hne => ?_⟩
    exact hg.block j hj (fun e => hne (by simp at e; simp [e])))
  exact this
end Go.Proofs.Ytlakjninlpiedaa.Sep
