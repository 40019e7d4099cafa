/- TableBytes: the closures that read entries. -/
import Derived.Test.YtnmdckgaljldhaaLTGet
import Derived.Test.YtnmdckgaljldhaaMRun
set_option linter.unusedVariables false
set_option linter.unusedSimpArgs false
namespace Go.Proofs.Ytnmdckgaljldhaa.Fw
open Go Go.RowKit Go.Proofs.YtnmdckgaljldhaaW.PrintWords Go.Proofs.YtnmdckgaljldhaaW.PrintLast Go.Proofs.YtnmdckgaljldhaaW.PrintMore Go.Proofs.Ytnmdckgaljldhaa.PureKit Go.Proofs.Ytnmdckgaljldhaa.Sep Go.Proofs.Ytnmdckgaljldhaa.G Go.Proofs.Ytnmdckgaljldhaa.Tb
set_option maxHeartbeats 4000000
set_option maxRecDepth 100000

/-- What is got back of entries that were written: the error, the entries. -/
def backE (l : List E1) : Int × List E1 := if riseE l = true then (0, l) else (8, [])
theorem backE_t {l : List E1} (h : riseE l = true) : backE l = (0, l) := if_pos h
theorem backE_f {l : List E1} (h : riseE l = false) : backE l = (8, []) := if_neg (by rw [h]; decide)
abbrev capB (gl gb : Nat) (A : Option Addr) (n c : Nat) (B : Option Addr) (m d : Nat) : List HP := [blk gl #[.slice A n c] 77, blk gb #[.slice B m d] 77]

theorem clos_back (w0 w : World) (g gl gb : Nat) (A : Option Addr) (c : Nat) (l : List E1) (ps : List HP) (hs : Sep.Sep w0 w (cur g (tbytes l) 0 true :: (capB gl gb A l.length c none 0 0 ++ ps))) (hok : ∀ x ∈ l, OkE x) (hl : l.length ≤ 1000) :
    Calls Try.prog 63 #[.pointer (some ⟨g, 0, none⟩), .pointer (some ⟨gl, 0, none⟩), .pointer (some ⟨gb, 0, none⟩)] w fun e w2 =>
      ∃ (at2 : Nat) (x : Int) (qs : List HP), (x = (backE l).1 ∧ ∃ (A' : Option Addr) (m c' : Nat), qs = capB gl gb A l.length c A' m c' ++ [row kE 81 (.slice A' m c') (backE l).2]) ∧ Sep.Sep w0 w2 (cur g (tbytes l) at2 true :: (qs ++ ps)) ∧ ((e = .returned (.tuple #[]) ∧ x = 0) ∨ e = .panicked [fault g x]) := by
  have hS := Aside0.mk hs
  have htl := tbytes_len l
  have hG := Aside0.mk (fun W hW => table_Get_some w0 W g 0 (tbytes l) (capB gl gb A l.length c none 0 0 ++ ps) (l.length : Int) l.length (by split <;> omega) hW (tbytes_bytes l) (by omega) (by omega))
  rw [ents_tbytes l hok, ← htl, Nat.zero_add] at hG
  have hlA := Aside0.mk (show (tbytes l).length ≤ 1000000000000 by omega)
  have hcl_0 : w.cell? ⟨gl, 0, none⟩ = some (.slice A l.length c) := ((hs.pick1).cell 0).trans rfl
  clear hs hok hl htl
  go_enter Try.func63, Try.ntmps63
  go_wp2_with (fail)
  refine (hG.out _ hS.out).mono ?_
  rintro e w1 (⟨hr, A', c', rfl, h1⟩ | ⟨hr, rfl, h1⟩)
  · have hrA := Aside0.mk hr
    have hcb_0 : w1.cell? ⟨gb, 0, none⟩ = some (.slice none 0 0) := ((h1.pick3).cell 0).trans rfl
    have hz := h1.pick3.frozen 0
    have hS2 : Sep.Sep w0 (w1.setCell ⟨gb, 0, none⟩ (.slice A' l.length c')) (cur g (tbytes l) (tbytes l).length true :: ((capB gl gb A l.length c A' l.length c' ++ [row kE 81 (.slice A' l.length c') l]) ++ ps)) := by
      exact (h1.pick3.set 0 (.slice A' l.length c')).pick3.pick3
    have hS2 := Aside0.mk hS2
    clear h1 hr
    go_wp2_with (fail)
    refine (cur_End_ok w0 _ g _ (tbytes l) _ hS2.out rfl hlA.out).mono ?_
    rintro e w3 ⟨rfl, h3⟩
    have hS3 := Aside0.mk h3
    clear h3
    go_wp2_with (fail)
    go_end0
    exact ⟨_, 0, capB gl gb A l.length c A' l.length c' ++ [row kE 81 (.slice A' l.length c') l], ⟨(by rw [backE_t hrA.out]), A', l.length, c', (by rw [backE_t hrA.out]; rfl)⟩, hS3.out, .inl ⟨rfl, rfl⟩⟩
  · have h2 : Sep.Sep w0 w1 (cur g (tbytes l) (tbytes l).length true :: ((capB gl gb A l.length c none 0 0 ++ [row kE 81 (.slice none 0 0) []]) ++ ps)) := (Sep.row_nil kE 81 h1).put3
    exact ⟨rfl, _, 8, _, ⟨(by rw [backE_f hr]), none, 0, 0, (by rw [backE_f hr]; rfl)⟩, h2, .inr rfl⟩

abbrev capN (gn gg : Nat) (n : Int) (B : Option Addr) (m d : Nat) : List HP := [blk gn #[.int .i64 n] 3, blk gg #[.slice B m d] 77]
theorem clos_got (w0 w : World) (g gn gg : Nat) (n : Int) (b : List Int) (ps : List HP) (hs : Sep.Sep w0 w (cur g b 0 true :: (capN gn gg n none 0 0 ++ ps))) (hb : Bytes b) (hl : b.length ≤ 1000000) :
    Calls Try.prog 66 #[.pointer (some ⟨g, 0, none⟩), .pointer (some ⟨gn, 0, none⟩), .pointer (some ⟨gg, 0, none⟩)] w fun e w2 =>
      ∃ (at2 : Nat) (x : Int) (qs : List HP), (at2 = (tget b n).1 ∧ x = (tget b n).2.1 ∧ ∃ (A' : Option Addr) (m c' : Nat), qs = capN gn gg n A' m c' ++ [row kE 81 (.slice A' m c') (tget b n).2.2]) ∧ Sep.Sep w0 w2 (cur g b at2 true :: (qs ++ ps)) ∧ ((e = .returned (.tuple #[]) ∧ x = 0) ∨ e = .panicked [fault g x]) := by
  by_cases hsh : 0 < n ∧ n > ((b.length / 12 : Nat) : Int)
  · have ht : tget b n = (0, 2, []) := by unfold tget; rw [if_neg (by omega), if_pos hsh.2]
    have htA := Aside0.mk ht
    have hS := Aside0.mk hs
    have hA := Aside0.mk hsh
    have hlA := Aside0.mk hl
    have hcn_0 : w.cell? ⟨gn, 0, none⟩ = some (.int .i64 n) := ((hs.pick1).cell 0).trans rfl
    clear hs hsh ht hl
    go_enter Try.func66, Try.ntmps66
    go_wp2_with (fail)
    refine (table_Get_short w0 _ g 0 b _ n hS.out (Nat.zero_le _) hlA.out hA.out.1 (by have := hA.out; omega)).mono ?_
    rintro e w1 ⟨rfl, h1⟩
    have h2 : Sep.Sep w0 w1 (cur g b 0 true :: ((capN gn gg n none 0 0 ++ [row kE 81 (.slice none 0 0) []]) ++ ps)) := (Sep.row_nil kE 81 h1).put3
    exact ⟨rfl, _, 2, _, ⟨(by rw [htA.out]), (by rw [htA.out]), none, 0, 0, (by rw [htA.out]; rfl)⟩, h2, .inr rfl⟩
  · obtain ⟨m, hm⟩ : ∃ m : Nat, (if 0 < n then n else 0) = (m : Int) := ⟨(if 0 < n then n else 0).toNat, by split <;> omega⟩
    have hmb : 12 * m ≤ b.length := by split at hm <;> omega
    have ht : tget b n = if riseE (entsAt b 0 m) = true then (12 * m, 0, entsAt b 0 m) else (12 * m, 8, []) := by
      unfold tget
      by_cases h0 : n ≤ 0
      · rw [if_neg (by omega)] at hm
        obtain rfl : m = 0 := by omega
        rw [if_pos h0]
        rfl
      · rw [if_pos (by omega)] at hm
        rw [if_neg h0, if_neg (by omega), hm, Int.toNat_natCast]
    have ht1 : Aside0 (riseE (entsAt b 0 m) = true → tget b n = (12 * m, 0, entsAt b 0 m)) := ⟨fun h => by rw [ht, if_pos h]⟩
    have ht2 : Aside0 (riseE (entsAt b 0 m) = false → tget b n = (12 * m, 8, [])) := ⟨fun h => by rw [ht, if_neg (by rw [h]; decide)]⟩
    have hG := Aside0.mk (fun W hW => table_Get_some w0 W g 0 b (capN gn gg n none 0 0 ++ ps) n m hm hW hb hl (by omega))
    have hS := Aside0.mk hs
    rw [Nat.zero_add] at hG
    have hcn_0 : w.cell? ⟨gn, 0, none⟩ = some (.int .i64 n) := ((hs.pick1).cell 0).trans rfl
    clear hs hsh ht hl hm hmb hb
    go_enter Try.func66, Try.ntmps66
    go_wp2_with (fail)
    refine (hG.out _ hS.out).mono ?_
    rintro e w1 (⟨hr, A', c', rfl, h1⟩ | ⟨hr, rfl, h1⟩)
    · have hrA := Aside0.mk hr
      have hcb_0 : w1.cell? ⟨gg, 0, none⟩ = some (.slice none 0 0) := ((h1.pick3).cell 0).trans rfl
      have hz := h1.pick3.frozen 0
      have hS2 : Sep.Sep w0 (w1.setCell ⟨gg, 0, none⟩ (.slice A' m c')) (cur g b (12 * m) true :: ((capN gn gg n A' m c' ++ [row kE 81 (.slice A' m c') (entsAt b 0 m)]) ++ ps)) := by
        exact (h1.pick3.set 0 (.slice A' m c')).pick3.pick3
      have hS2 := Aside0.mk hS2
      clear h1 hr
      go_wp2_with (fail)
      go_end0
      exact ⟨12 * m, 0, capN gn gg n A' m c' ++ [row kE 81 (.slice A' m c') (entsAt b 0 m)], ⟨(by rw [ht1.out hrA.out]), (by rw [ht1.out hrA.out]), A', m, c', (by rw [ht1.out hrA.out]; rfl)⟩, hS2.out, .inl ⟨rfl, rfl⟩⟩
    · have h2 : Sep.Sep w0 w1 (cur g b (12 * m) true :: ((capN gn gg n none 0 0 ++ [row kE 81 (.slice none 0 0) []]) ++ ps)) := (Sep.row_nil kE 81 h1).put3
      exact ⟨rfl, 12 * m, 8, _, ⟨(by rw [ht2.out hr]), (by rw [ht2.out hr]), none, 0, 0, (by rw [ht2.out hr]; rfl)⟩, h2, .inr rfl⟩
end Go.Proofs.Ytnmdckgaljldhaa.Fw
