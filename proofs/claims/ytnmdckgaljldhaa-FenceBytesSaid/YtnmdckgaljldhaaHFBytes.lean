/- FenceBytes: the closures that read fences. -/
import Derived.Test.YtnmdckgaljldhaaHFGet
import Derived.Test.YtnmdckgaljldhaaLFTGet
import Derived.Test.YtnmdckgaljldhaaMRun
set_option linter.unusedVariables false
set_option linter.unusedSimpArgs false
namespace Go.Proofs.Ytnmdckgaljldhaa.Fw
open Go Go.RowKit Go.Proofs.YtnmdckgaljldhaaW.PrintWords Go.Proofs.YtnmdckgaljldhaaW.PrintLast Go.Proofs.YtnmdckgaljldhaaW.PrintMore Go.Proofs.Ytnmdckgaljldhaa.PureKit Go.Proofs.Ytnmdckgaljldhaa.Sep Go.Proofs.Ytnmdckgaljldhaa.G Go.Proofs.Ytnmdckgaljldhaa.Tb
set_option maxHeartbeats 4000000
set_option maxRecDepth 100000

/-- What is got back of entries that were written: the error, the entries. -/
def backF (l : List Int) : Int × List Int := if risesF l = true then (0, l) else (8, [])
theorem backF_t {l : List Int} (h : risesF l = true) : backF l = (0, l) := if_pos h
theorem backF_f {l : List Int} (h : risesF l = false) : backF l = (8, []) := if_neg (by rw [h]; decide)
abbrev capBF (gl gb : Nat) (A : Option Addr) (n c : Nat) (B : Option Addr) (m d : Nat) : List HP := [blk gl #[.slice A n c] 26, blk gb #[.slice B m d] 26]

theorem clos_backF (w0 w : World) (g gl gb : Nat) (A : Option Addr) (c : Nat) (l : List Int) (ps : List HP) (hs : Sep.Sep w0 w (cur g (fbytesL l) 0 true :: (capBF gl gb A l.length c none 0 0 ++ ps))) (hok : ∀ x ∈ l, 0 ≤ x ∧ x < 18446744073709551616) (hl : l.length ≤ 1000) :
    Calls Try.prog 21 #[.pointer (some ⟨g, 0, none⟩), .pointer (some ⟨gl, 0, none⟩), .pointer (some ⟨gb, 0, none⟩)] w fun e w2 =>
      ∃ (at2 : Nat) (x : Int) (qs : List HP), (x = (backF l).1 ∧ ∃ (A' : Option Addr) (m c' : Nat), qs = capBF gl gb A l.length c A' m c' ++ [row (Kd.int .u64) 39 (.slice A' m c') (backF l).2]) ∧ Sep.Sep w0 w2 (cur g (fbytesL l) at2 true :: (qs ++ ps)) ∧ ((e = .returned (.tuple #[]) ∧ x = 0) ∨ e = .panicked [fault g x]) := by
  have hS := Aside0.mk hs
  have htl := fbytesL_len l
  have hG := Aside0.mk (fun W hW => fence_Get_some w0 W g 0 (fbytesL l) (capBF gl gb A l.length c none 0 0 ++ ps) (l.length : Int) l.length (by split <;> omega) hW (fbytesL_bytes l) (by omega) (by omega))
  rw [fens_fbytesL l hok, ← htl, Nat.zero_add] at hG
  have hlA := Aside0.mk (show (fbytesL l).length ≤ 1000000000000 by omega)
  have hcl_0 : w.cell? ⟨gl, 0, none⟩ = some (.slice A l.length c) := ((hs.pick1).cell 0).trans rfl
  clear hs hok hl htl
  go_enter Try.func21, Try.ntmps21
  go_wp2_with (fail)
  refine (hG.out _ hS.out).mono ?_
  rintro e w1 (⟨hr, A', c', rfl, h1⟩ | ⟨hr, rfl, h1⟩)
  · have hrA := Aside0.mk hr
    have hcb_0 : w1.cell? ⟨gb, 0, none⟩ = some (.slice none 0 0) := ((h1.pick3).cell 0).trans rfl
    have hz := h1.pick3.frozen 0
    have hS2 : Sep.Sep w0 (w1.setCell ⟨gb, 0, none⟩ (.slice A' l.length c')) (cur g (fbytesL l) (fbytesL l).length true :: ((capBF gl gb A l.length c A' l.length c' ++ [row (Kd.int .u64) 39 (.slice A' l.length c') l]) ++ ps)) := by
      exact (h1.pick3.set 0 (.slice A' l.length c')).pick3.pick3
    have hS2 := Aside0.mk hS2
    clear h1 hr
    go_wp2_with (fail)
    refine (cur_End_ok w0 _ g _ (fbytesL l) _ hS2.out rfl hlA.out).mono ?_
    rintro e w3 ⟨rfl, h3⟩
    have hS3 := Aside0.mk h3
    clear h3
    go_wp2_with (fail)
    go_end0
    exact ⟨_, 0, capBF gl gb A l.length c A' l.length c' ++ [row (Kd.int .u64) 39 (.slice A' l.length c') l], ⟨(by rw [backF_t hrA.out]), A', l.length, c', (by rw [backF_t hrA.out]; rfl)⟩, hS3.out, .inl ⟨rfl, rfl⟩⟩
  · have h2 : Sep.Sep w0 w1 (cur g (fbytesL l) (fbytesL l).length true :: ((capBF gl gb A l.length c none 0 0 ++ [row (Kd.int .u64) 39 (.slice none 0 0) []]) ++ ps)) := (Sep.row_nil (Kd.int .u64) 39 h1).put3
    exact ⟨rfl, _, 8, _, ⟨(by rw [backF_f hr]), none, 0, 0, (by rw [backF_f hr]; rfl)⟩, h2, .inr rfl⟩

abbrev capNF (gn gg : Nat) (n : Int) (B : Option Addr) (m d : Nat) : List HP := [blk gn #[.int .i64 n] 3, blk gg #[.slice B m d] 26]
theorem clos_gotF (w0 w : World) (g gn gg : Nat) (n : Int) (b : List Int) (ps : List HP) (hs : Sep.Sep w0 w (cur g b 0 true :: (capNF gn gg n none 0 0 ++ ps))) (hb : Bytes b) (hl : b.length ≤ 1000000) :
    Calls Try.prog 26 #[.pointer (some ⟨g, 0, none⟩), .pointer (some ⟨gn, 0, none⟩), .pointer (some ⟨gg, 0, none⟩)] w fun e w2 =>
      ∃ (at2 : Nat) (x : Int) (qs : List HP), (at2 = (fget b n).1 ∧ x = (fget b n).2.1 ∧ ∃ (A' : Option Addr) (m c' : Nat), qs = capNF gn gg n A' m c' ++ [row (Kd.int .u64) 39 (.slice A' m c') (fget b n).2.2]) ∧ Sep.Sep w0 w2 (cur g b at2 true :: (qs ++ ps)) ∧ ((e = .returned (.tuple #[]) ∧ x = 0) ∨ e = .panicked [fault g x]) := by
  by_cases hsh : 0 < n ∧ n > ((b.length / 8 : Nat) : Int)
  · have ht : fget b n = (0, 2, []) := by unfold fget; rw [if_neg (by omega), if_pos hsh.2]
    have htA := Aside0.mk ht
    have hS := Aside0.mk hs
    have hA := Aside0.mk hsh
    have hlA := Aside0.mk hl
    have hcn_0 : w.cell? ⟨gn, 0, none⟩ = some (.int .i64 n) := ((hs.pick1).cell 0).trans rfl
    clear hs hsh ht hl
    go_enter Try.func26, Try.ntmps26
    go_wp2_with (fail)
    refine (fence_Get_short w0 _ g 0 b _ n hS.out (Nat.zero_le _) hlA.out hA.out.1 (by have := hA.out; omega)).mono ?_
    rintro e w1 ⟨rfl, h1⟩
    have h2 : Sep.Sep w0 w1 (cur g b 0 true :: ((capNF gn gg n none 0 0 ++ [row (Kd.int .u64) 39 (.slice none 0 0) []]) ++ ps)) := (Sep.row_nil (Kd.int .u64) 39 h1).put3
    exact ⟨rfl, _, 2, _, ⟨(by rw [htA.out]), (by rw [htA.out]), none, 0, 0, (by rw [htA.out]; rfl)⟩, h2, .inr rfl⟩
  · obtain ⟨m, hm⟩ : ∃ m : Nat, (if 0 < n then n else 0) = (m : Int) := ⟨(if 0 < n then n else 0).toNat, by split <;> omega⟩
    have hmb : 8 * m ≤ b.length := by split at hm <;> omega
    have ht : fget b n = if risesF (fensAt b 0 m) = true then (8 * m, 0, fensAt b 0 m) else (8 * m, 8, []) := by
      unfold fget
      by_cases h0 : n ≤ 0
      · rw [if_neg (by omega)] at hm
        obtain rfl : m = 0 := by omega
        rw [if_pos h0]
        rfl
      · rw [if_pos (by omega)] at hm
        rw [if_neg h0, if_neg (by omega), hm, Int.toNat_natCast]
    have ht1 : Aside0 (risesF (fensAt b 0 m) = true → fget b n = (8 * m, 0, fensAt b 0 m)) := ⟨fun h => by rw [ht, if_pos h]⟩
    have ht2 : Aside0 (risesF (fensAt b 0 m) = false → fget b n = (8 * m, 8, [])) := ⟨fun h => by rw [ht, if_neg (by rw [h]; decide)]⟩
    have hG := Aside0.mk (fun W hW => fence_Get_some w0 W g 0 b (capNF gn gg n none 0 0 ++ ps) n m hm hW hb hl (by omega))
    have hS := Aside0.mk hs
    rw [Nat.zero_add] at hG
    have hcn_0 : w.cell? ⟨gn, 0, none⟩ = some (.int .i64 n) := ((hs.pick1).cell 0).trans rfl
    clear hs hsh ht hl hm hmb hb
    go_enter Try.func26, Try.ntmps26
    go_wp2_with (fail)
    refine (hG.out _ hS.out).mono ?_
    rintro e w1 (⟨hr, A', c', rfl, h1⟩ | ⟨hr, rfl, h1⟩)
    · have hrA := Aside0.mk hr
      have hcb_0 : w1.cell? ⟨gg, 0, none⟩ = some (.slice none 0 0) := ((h1.pick3).cell 0).trans rfl
      have hz := h1.pick3.frozen 0
      have hS2 : Sep.Sep w0 (w1.setCell ⟨gg, 0, none⟩ (.slice A' m c')) (cur g b (8 * m) true :: ((capNF gn gg n A' m c' ++ [row (Kd.int .u64) 39 (.slice A' m c') (fensAt b 0 m)]) ++ ps)) := by
        exact (h1.pick3.set 0 (.slice A' m c')).pick3.pick3
      have hS2 := Aside0.mk hS2
      clear h1 hr
      go_wp2_with (fail)
      go_end0
      exact ⟨8 * m, 0, capNF gn gg n A' m c' ++ [row (Kd.int .u64) 39 (.slice A' m c') (fensAt b 0 m)], ⟨(by rw [ht1.out hrA.out]), (by rw [ht1.out hrA.out]), A', m, c', (by rw [ht1.out hrA.out]; rfl)⟩, hS2.out, .inl ⟨rfl, rfl⟩⟩
    · have h2 : Sep.Sep w0 w1 (cur g b (8 * m) true :: ((capNF gn gg n none 0 0 ++ [row (Kd.int .u64) 39 (.slice none 0 0) []]) ++ ps)) := (Sep.row_nil (Kd.int .u64) 39 h1).put3
      exact ⟨rfl, 8 * m, 8, _, ⟨(by rw [ht2.out hr]), (by rw [ht2.out hr]), none, 0, 0, (by rw [ht2.out hr]; rfl)⟩, h2, .inr rfl⟩
end Go.Proofs.Ytnmdckgaljldhaa.Fw
