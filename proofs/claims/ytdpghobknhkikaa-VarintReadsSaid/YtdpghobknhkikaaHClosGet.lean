/- Readings of one number: the closures around varint.Get; varint.Read. -/
import Derived.Test.YtdpghobknhkikaaHGetFacts
import Derived.Test.YtdpghobknhkikaaHRun2
set_option linter.unusedVariables false
set_option linter.unusedSimpArgs false
namespace Go.Proofs.Ytdpghobknhkikaa.Sep
open Go Go.RowKit Go.Proofs.YtdpghobknhkikaaW.PrintWords Go.Proofs.YtdpghobknhkikaaW.PrintLast Go.Proofs.YtdpghobknhkikaaW.PrintMore Go.Proofs.Ytdpghobknhkikaa.PureKit

def gq (l : List Int) (gx : Nat) (at2 : Nat) (x : Int) (qs : List HP) : Prop :=
  ∃ y, qs = [blk gx #[.int .u64 y] 34] ∧ match vget l 0 with | .ok z a => x = 0 ∧ at2 = a ∧ y = z | .bad er a => x = er ∧ at2 = a ∧ y = 0

set_option maxHeartbeats 4000000 in
theorem clos_reads (w0 w : World) (g gx : Nat) (l : List Int) (ps : List HP) (hs : Sep w0 w (cur g l 0 true :: blk gx #[.int .u64 0] 34 :: ps)) (hb : Bytes l) (hl : l.length ≤ 1000000000000) :
    Calls Try.prog 37 #[.pointer (some ⟨g, 0, none⟩), .pointer (some ⟨gx, 0, none⟩)] w fun e w2 =>
      ∃ (at2 : Nat) (x : Int) (qs : List HP), gq l gx at2 x qs ∧ Sep w0 w2 (cur g l at2 true :: (qs ++ ps)) ∧ ((e = .returned (.tuple #[]) ∧ x = 0) ∨ e = .panicked [fault g x]) := by
  have hS := Aside0.mk hs
  clear hs
  go_enter Try.func37, Try.ntmps37
  go_wp2_with (fail)
  refine (varint_Get w0 _ g 0 l _ hS.out hb (Nat.zero_le _) hl).mono ?_
  intro e w2 h2
  cases hv : vget l 0 with
  | bad er a =>
    rw [hv] at h2
    obtain ⟨rfl, h2⟩ := h2
    exact ⟨rfl, a, er, _, ⟨0, rfl, by rw [hv]; exact ⟨rfl, rfl, rfl⟩⟩, h2, .inr rfl⟩
  | ok z a =>
    rw [hv] at h2
    obtain ⟨rfl, h2⟩ := h2
    have hc2_0 : w2.cell? ⟨gx, 0, none⟩ = some (.int .u64 0) := ((h2.pick1).cell 0).trans rfl
    have hz2 := h2.pick1.frozen 0
    have hS2 : Sep w0 (w2.setCell ⟨gx, 0, none⟩ (.int .u64 z)) (cur g l a true :: blk gx #[.int .u64 z] 34 :: ps) := by
      have := (h2.pick1.set 0 (.int .u64 z)).put1
      simpa using this
    have hS2A := Aside0.mk hS2
    clear h2 hS2
    go_wp2
    go_end0
    exact ⟨a, 0, _, ⟨z, rfl, by rw [hv]; exact ⟨rfl, rfl, rfl⟩⟩, hS2A.out, .inl ⟨rfl, rfl⟩⟩

set_option maxHeartbeats 4000000 in
theorem clos_read (w0 w : World) (g gx : Nat) (l : List Int) (ps : List HP) (hs : Sep w0 w (cur g l 0 true :: blk gx #[.int .u64 0] 34 :: ps)) (hb : Bytes l) (hl : l.length ≤ 1000000000000) :
    Calls Try.prog 53 #[.pointer (some ⟨g, 0, none⟩), .pointer (some ⟨gx, 0, none⟩)] w fun e w2 =>
      ∃ (at2 : Nat) (x : Int) (qs : List HP), gq l gx at2 x qs ∧ Sep w0 w2 (cur g l at2 true :: (qs ++ ps)) ∧ ((e = .returned (.tuple #[]) ∧ x = 0) ∨ e = .panicked [fault g x]) := by
  have hS := Aside0.mk hs
  clear hs
  go_enter Try.func53, Try.ntmps53
  go_wp2_with (fail)
  refine (varint_Get w0 _ g 0 l _ hS.out hb (Nat.zero_le _) hl).mono ?_
  intro e w2 h2
  cases hv : vget l 0 with
  | bad er a =>
    rw [hv] at h2
    obtain ⟨rfl, h2⟩ := h2
    exact ⟨rfl, a, er, _, ⟨0, rfl, by rw [hv]; exact ⟨rfl, rfl, rfl⟩⟩, h2, .inr rfl⟩
  | ok z a =>
    rw [hv] at h2
    obtain ⟨rfl, h2⟩ := h2
    have hc2_0 : w2.cell? ⟨gx, 0, none⟩ = some (.int .u64 0) := ((h2.pick1).cell 0).trans rfl
    have hz2 := h2.pick1.frozen 0
    have hS2 : Sep w0 (w2.setCell ⟨gx, 0, none⟩ (.int .u64 z)) (cur g l a true :: blk gx #[.int .u64 z] 34 :: ps) := by
      have := (h2.pick1.set 0 (.int .u64 z)).put1
      simpa using this
    have hS2A := Aside0.mk hS2
    clear h2 hS2
    go_wp2
    go_end0
    exact ⟨a, 0, _, ⟨z, rfl, by rw [hv]; exact ⟨rfl, rfl, rfl⟩⟩, hS2A.out, .inl ⟨rfl, rfl⟩⟩

def rdv (r : Res Int) : Value := match r with | .ok z a => .tuple #[.int .u64 z, .int .i64 a, .int .i64 0] | .bad er _ => .tuple #[.int .u64 0, .int .i64 0, .int .i64 er]

set_option maxHeartbeats 4000000 in
set_option maxRecDepth 100000 in
theorem varint_Read (w0 w : World) (A : Option Addr) (c : Nat) (l : List Int) (ps : List HP) (hs : Sep w0 w ps) (hr : Kd.C (Kd.int .u8) w A l.length l) (hc : l.length ≤ c) (hb : Bytes l) (hl : l.length ≤ 1000000000000) :
    Calls Try.prog 39 #[.slice A l.length c] w fun e w2 =>
      e = .returned (rdv (vget l 0)) ∧ Sep w0 w2 ps := by
  have hS := Aside0.mk (hs.alloc #[.int .u64 0] 34)
  have hR := Aside0.mk hr
  clear hr hs
  have hmf : ∀ (fn : Fn) (first cap : Array Value) (w : World), (Instr.makeFunc fn first cap).run Try.prog w = .ok (.func fn first cap) w := fun _ _ _ _ => rfl
  go_enter Try.func39, Try.ntmps39
  go_wp2_with (fail)
  refine (run_calls w0 _ A c l 53 #[.pointer (some ⟨w.heap.size, 0, none⟩)] [blk w.heap.size #[.int .u64 0] 34] ps (gq l w.heap.size)
    Try.call53 hS.out (Kd.C_alloc hR.out _) hc hl (fun w1 g ps' h1 => clos_read w0 w1 g w.heap.size l ps' h1 hb hl)).mono ?_
  rintro e w2 ⟨at2, x, qs, ⟨y, rfl, hm⟩, rfl, h2⟩
  have h2A := Aside0.mk h2
  have hc2_0 : w2.cell? ⟨w.heap.size, 0, none⟩ = some (.int .u64 y) := ((h2).cell 0).trans rfl
  have hz2 := h2.frozen 0
  clear h2 hS hR
  cases hv : vget l 0 with
  | bad er a =>
    rw [hv] at hm
    obtain ⟨rfl, rfl, rfl⟩ := hm
    have hx := (vget_bad hb (Nat.zero_le _) hv).1
    have e1 : (x != 0) = true := bne_iff_ne.2 hx
    have hv := Aside0.mk hv
    go_wp2
    have h3 := h2A.out.set 0 (.int .u64 0)
    simp only [List.setIfInBounds_toArray, List.set_cons_zero, List.singleton_append] at h3
    have hcr : (w2.setCell ⟨w.heap.size, 0, none⟩ (.int .u64 0)).cell? ⟨w.heap.size, 0, none⟩ = some (.int .u64 0) := (h3.cell 0).trans rfl
    try simp only [Exit.inBlock, Exit.then]
    refine bodyPost_ret (v := .tuple #[.int .u64 0, .int .i64 0, .int .i64 x]) ?_ rfl ?_
    · simp [results, Try.results39, asAddr, loadVar, isAgg, underlying, Try.underlying34, Result.andThen, hcr]
    · exact ⟨by rw [hv.out]; rfl, h3.tail⟩
  | ok z a =>
    rw [hv] at hm
    obtain ⟨rfl, rfl, rfl⟩ := hm
    have hv := Aside0.mk hv
    go_wp2
    have h3 := h2A.out.set 0 (.int .u64 y)
    simp only [List.setIfInBounds_toArray, List.set_cons_zero, List.singleton_append] at h3
    have hcr : (w2.setCell ⟨w.heap.size, 0, none⟩ (.int .u64 y)).cell? ⟨w.heap.size, 0, none⟩ = some (.int .u64 y) := (h3.cell 0).trans rfl
    try simp only [Exit.inBlock, Exit.then]
    refine bodyPost_ret (v := .tuple #[.int .u64 y, .int .i64 at2, .int .i64 0]) ?_ rfl ?_
    · simp [results, Try.results39, asAddr, loadVar, isAgg, underlying, Try.underlying34, Result.andThen, hcr]
    · exact ⟨by rw [hv.out]; rfl, h3.tail⟩

end Go.Proofs.Ytdpghobknhkikaa.Sep
