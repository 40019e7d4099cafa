/- edge: numbers written and read; the document's reading; the closures of EdgeReads. -/
import Derived.Test.YtlakjninlpiedaaHEdge3
import Derived.Test.YtlakjninlpiedaaHEdgeCounts2
import Derived.Test.YtlakjninlpiedaaHEight
import Derived.Test.YtlakjninlpiedaaLGetn
import Derived.Test.YtlakjninlpiedaaGx1
set_option linter.unusedVariables false
set_option linter.unusedSimpArgs false
namespace Go.Proofs.Ytlakjninlpiedaa.Fw
open Go Go.RowKit Go.Proofs.YtlakjninlpiedaaW.PrintWords Go.Proofs.YtlakjninlpiedaaW.PrintLast Go.Proofs.YtlakjninlpiedaaW.PrintMore Go.Proofs.Ytlakjninlpiedaa.PureKit Go.Proofs.Ytlakjninlpiedaa.Fl Go.Proofs.Ytlakjninlpiedaa.Sep Go.Proofs.Ytlakjninlpiedaa.G
set_option maxHeartbeats 4000000
set_option maxRecDepth 100000
theorem run_store_float (P : Program) (w : World) (a : Addr) (m : Mode) (k : FloatKind) (b : Nat) : (store a (.float k b) m).run P w = stored P w a (.float k b) m := run_store P w a _ m rfl
attribute [local go_sem] run_f64bits run_frombits run_store_float

theorem edge_Put (w0 w : World) (g x : Nat) (l : List Int) (ps : List HP) (hs : Sep.Sep w0 w (buf g l :: ps)) (hx : x < 18446744073709551616) (hl : l.length ≤ 1000000000000) :
    Calls Try.prog 56 #[.pointer (some ⟨g, 0, none⟩), .float .f64 x] w fun e w' => e = .returned (.tuple #[]) ∧ Sep.Sep w0 w' (buf g (l ++ nbytes 8 (bitsv x : Int)) :: ps) := by
  have hb := bitsv_lt hx
  have hS := Aside0.mk hs
  clear hs hx
  go_enter Try.func56, Try.ntmps56
  go_wp2_with (fail)
  refine (edge_text x _).mono ?_
  intro ef_ wf_ hf_
  obtain ⟨h1f_, h2f_⟩ := hf_
  subst h1f_
  subst h2f_
  go_wp2_with (fail)
  refine (buf_Eight w0 _ g l ps (bitsv x) hS.out (by omega) (by omega) hl).mono ?_
  rintro e w2 ⟨rfl, h2⟩
  have hS2 := Aside0.mk h2
  clear h2
  go_wp2_with (fail)
  go_end0
  exact ⟨rfl, hS2.out⟩

theorem cur_Eight_short (w0 w : World) (g at_ : Nat) (l : List Int) (ps : List HP) (hs : Sep.Sep w0 w (cur g l at_ true :: ps)) (hat : at_ ≤ l.length) (hl : l.length ≤ 1000000000000) (hsh : (8 : Int) > (l.length : Int) - at_) :
    Calls Try.prog 88 #[.pointer (some ⟨g, 0, none⟩)] w fun e w' => e = .panicked [fault g 2] ∧ Sep.Sep w0 w' (cur g l at_ true :: ps) := by
  have hS := Aside0.mk hs
  clear hs
  go_enter Try.func88, Try.ntmps88
  go_wp2_with (fail)
  refine (cur_num_short w0 _ g at_ l ps 8 hS.out (by decide) hat hl hsh).mono ?_
  rintro e w1 ⟨rfl, h1⟩
  exact ⟨rfl, rfl, h1⟩

theorem edge_Get_short (w0 w : World) (g at_ : Nat) (l : List Int) (ps : List HP) (hs : Sep.Sep w0 w (cur g l at_ true :: ps)) (hat : at_ ≤ l.length) (hl : l.length ≤ 1000000000000) (hsh : (8 : Int) > (l.length : Int) - at_) :
    Calls Try.prog 61 #[.pointer (some ⟨g, 0, none⟩)] w fun e w' => e = .panicked [fault g 2] ∧ Sep.Sep w0 w' (cur g l at_ true :: ps) := by
  have hS := Aside0.mk hs
  clear hs
  go_enter Try.func61, Try.ntmps61
  go_wp2_with (fail)
  refine (cur_Eight_short w0 _ g at_ l ps hS.out hat hl hsh).mono ?_
  rintro e w1 ⟨rfl, h1⟩
  exact ⟨rfl, rfl, h1⟩
theorem edge_Get_ok (w0 w : World) (g at_ n : Nat) (l : List Int) (ps : List HP) (hs : Sep.Sep w0 w (cur g l at_ true :: ps)) (hb : Bytes l) (hl : l.length ≤ 1000000000000) (hsh : at_ + 8 ≤ l.length) (hn : lev ((l.take (at_ + 8)).drop at_) = (n : Int)) (hc : bitsv n = n) :
    Calls Try.prog 61 #[.pointer (some ⟨g, 0, none⟩)] w fun e w' => e = .returned (.float .f64 n) ∧ Sep.Sep w0 w' (cur g l (at_ + 8) true :: ps) := by
  have hS := Aside0.mk hs
  have hnA := Aside0.mk hn
  have ct := edge_text n
  rw [hc] at ct
  clear hs hn hc
  go_enter Try.func61, Try.ntmps61
  go_wp2_with (fail)
  refine (cur_Eight_some w0 _ g at_ l ps hS.out hb hl hsh).mono ?_
  rintro e w1 ⟨rfl, h1⟩
  rw [hnA.out]
  have hS1 := Aside0.mk h1
  clear h1
  go_wp2_with (fail)
  refine (ct _).mono ?_
  intro ef_ wf_ hf_
  obtain ⟨h1f_, h2f_⟩ := hf_
  subst h1f_
  subst h2f_
  go_wp2_with (fail)
  go_ret
  exact ⟨rfl, hS1.out⟩
theorem edge_Get_bad (w0 w : World) (g at_ n : Nat) (l : List Int) (ps : List HP) (hs : Sep.Sep w0 w (cur g l at_ true :: ps)) (hb : Bytes l) (hl : l.length ≤ 1000000000000) (hsh : at_ + 8 ≤ l.length) (hn : lev ((l.take (at_ + 8)).drop at_) = (n : Int)) (hc : bitsv n ≠ n) :
    Calls Try.prog 61 #[.pointer (some ⟨g, 0, none⟩)] w fun e w' => e = .panicked [fault g 4] ∧ Sep.Sep w0 w' (cur g l (at_ + 8) true :: ps) := by
  have hS := Aside0.mk hs
  have hnA := Aside0.mk hn
  have ct := edge_text n
  have hne : (((bitsv n : Nat) : Int) != (n : Int)) = true := bne_iff_ne.2 (by omega)
  generalize bitsv n = m at *
  clear hs hn hc
  go_enter Try.func61, Try.ntmps61
  go_wp2_with (fail)
  refine (cur_Eight_some w0 _ g at_ l ps hS.out hb hl hsh).mono ?_
  rintro e w1 ⟨rfl, h1⟩
  rw [hnA.out]
  have hS1 := Aside0.mk h1
  clear h1
  go_wp2_with (fail)
  refine (ct _).mono ?_
  rintro e w2 ⟨rfl, hw2⟩
  have hS2 := Aside0.mk (hw2 ▸ hS1.out)
  clear hw2
  go_wp2_with (fail)
  refine (cur_Fail w0 _ g _ l ps 4 hS2.out (by decide)).mono ?_
  rintro e w3 ⟨rfl, h3⟩
  exact ⟨rfl, rfl, h3⟩

/-- What is read first: how far, the error, the number. -/
def eread (l : List Int) : Nat × Int × Nat := if 8 ≤ l.length then (if bitsv (lev (l.take 8)).toNat = (lev (l.take 8)).toNat then (8, 0, (lev (l.take 8)).toNat) else (8, 4, 0)) else (0, 2, 0)
theorem lev8 {l : List Int} (hb : Bytes l) (h : 8 ≤ l.length) : ∃ n : Nat, lev (l.take 8) = (n : Int) ∧ (lev (l.take 8)).toNat = n ∧ n < 18446744073709551616 := by
  have := lev_lt l 0 8 hb (by omega)
  rw [Nat.zero_add, List.drop_zero] at this
  have h8 : (256 : Int) ^ 8 = 18446744073709551616 := by decide
  rw [h8] at this
  exact ⟨(lev (l.take 8)).toNat, by omega, rfl, by omega⟩

theorem clos_one (w0 w : World) (g gx : Nat) (l : List Int) (ps : List HP) (hs : Sep.Sep w0 w (cur g l 0 true :: blk gx #[.float .f64 0] 38 :: ps)) (hb : Bytes l) (hl : l.length ≤ 1000000000000) :
    Calls Try.prog 63 #[.pointer (some ⟨g, 0, none⟩), .pointer (some ⟨gx, 0, none⟩)] w fun e w2 =>
      ∃ (at2 : Nat) (x : Int) (qs : List HP), (at2 = (eread l).1 ∧ x = (eread l).2.1 ∧ qs = [blk gx #[.float .f64 (eread l).2.2] 38]) ∧ Sep.Sep w0 w2 (cur g l at2 true :: (qs ++ ps)) ∧ ((e = .returned (.tuple #[]) ∧ x = 0) ∨ e = .panicked [fault g x]) := by
  have hS := Aside0.mk hs
  clear hs
  unfold eread
  by_cases h8 : 8 ≤ l.length
  · rw [if_pos h8]
    obtain ⟨n, h1, h2, h3⟩ := lev8 hb h8
    rw [h2]
    have h1' : lev ((l.take (0 + 8)).drop 0) = (n : Int) := by rw [Nat.zero_add, List.drop_zero]; exact h1
    by_cases hc : bitsv n = n
    · rw [if_pos hc]
      have hG := Aside0.mk (fun W hW => edge_Get_ok w0 W g 0 n l (blk gx #[.float .f64 0] 38 :: ps) hW hb hl (by omega) h1' hc)
      clear h1 h2 h3 h1' hc
      go_enter Try.func63, Try.ntmps63
      go_wp2_with (fail)
      refine (hG.out _ hS.out).mono ?_
      rintro e w2 ⟨rfl, h2⟩
      rw [Nat.zero_add] at h2
      have hc2_0 : w2.cell? ⟨gx, 0, none⟩ = some (.float .f64 0) := ((h2.pick1).cell 0).trans rfl
      have hz2 := h2.pick1.frozen 0
      have hS2 : Sep.Sep w0 (w2.setCell ⟨gx, 0, none⟩ (.float .f64 n)) (cur g l 8 true :: blk gx #[.float .f64 n] 38 :: ps) := by
        have := (h2.pick1.set 0 (.float .f64 n)).put1
        simpa using this
      have hS2A := Aside0.mk hS2
      clear h2 hS2
      go_wp2_with (fail)
      go_end0
      exact ⟨8, 0, _, ⟨rfl, rfl, rfl⟩, hS2A.out, .inl ⟨rfl, rfl⟩⟩
    · rw [if_neg hc]
      have hG := Aside0.mk (fun W hW => edge_Get_bad w0 W g 0 n l (blk gx #[.float .f64 0] 38 :: ps) hW hb hl (by omega) h1' hc)
      clear h1 h2 h3 h1' hc
      go_enter Try.func63, Try.ntmps63
      go_wp2_with (fail)
      refine (hG.out _ hS.out).mono ?_
      rintro e w2 ⟨rfl, h2⟩
      rw [Nat.zero_add] at h2
      exact ⟨rfl, 8, 4, _, ⟨rfl, rfl, rfl⟩, h2, .inr rfl⟩
  · rw [if_neg h8]
    go_enter Try.func63, Try.ntmps63
    go_wp2_with (fail)
    refine (edge_Get_short w0 _ g 0 l _ hS.out (Nat.zero_le _) hl (by omega)).mono ?_
    rintro e w2 ⟨rfl, h2⟩
    exact ⟨rfl, 0, 2, _, ⟨rfl, rfl, rfl⟩, h2, .inr rfl⟩
end Go.Proofs.Ytlakjninlpiedaa.Fw
