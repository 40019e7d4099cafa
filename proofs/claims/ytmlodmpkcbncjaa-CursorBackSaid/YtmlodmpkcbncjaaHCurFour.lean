/- cursor.Cursor: Four, Eight. -/
import Derived.Test.YtmlodmpkcbncjaaHCurByte
set_option linter.unusedVariables false
set_option linter.unusedSimpArgs false
namespace Go.Proofs.Ytmlodmpkcbncjaa.Sep
open Go Go.RowKit Go.Proofs.YtmlodmpkcbncjaaW.PrintWords Go.Proofs.YtmlodmpkcbncjaaW.PrintLast Go.Proofs.YtmlodmpkcbncjaaW.PrintMore Go.Proofs.Ytmlodmpkcbncjaa.PureKit

set_option maxHeartbeats 4000000 in
theorem cur_Four_short (w0 w : World) (g at_ : Nat) (l : List Int) (ps : List HP) (hs : Sep w0 w (cur g l at_ true :: ps)) (hat : at_ ≤ l.length) (hl : l.length ≤ 1000000000000) (hsh : (4 : Int) > (l.length : Int) - at_) :
    Calls Try.prog 34 #[.pointer (some ⟨g, 0, none⟩)] w fun e w' => e = .panicked [fault g 2] ∧ Sep w0 w' (cur g l at_ true :: ps) := by
  have hS := Aside0.mk hs
  clear hs
  go_enter Try.func34, Try.ntmps34
  go_wp2_with (fail)
  refine (cur_num_short w0 _ g at_ l ps 4 hS.out (by decide) hat hl hsh).mono ?_
  rintro e w1 ⟨rfl, h1⟩
  exact ⟨rfl, rfl, h1⟩
theorem lev_lt (l : List Int) (a n : Nat) (hb : Bytes l) (h : a + n ≤ l.length) : 0 ≤ lev ((l.take (a + n)).drop a) ∧ lev ((l.take (a + n)).drop a) < 256 ^ n := by
  have := lev_bound _ ((hb.take (a + n)).drop a)
  rw [List.length_drop, List.length_take, show min (a + n) l.length - a = n by omega] at this
  exact this
set_option maxHeartbeats 4000000 in
theorem cur_Four_some (w0 w : World) (g at_ : Nat) (l : List Int) (ps : List HP) (hs : Sep w0 w (cur g l at_ true :: ps)) (hb : Bytes l) (hl : l.length ≤ 1000000000000) (hsh : at_ + 4 ≤ l.length) :
    Calls Try.prog 34 #[.pointer (some ⟨g, 0, none⟩)] w fun e w' => e = .returned (.int .u32 (lev ((l.take (at_ + 4)).drop at_))) ∧ Sep w0 w' (cur g l (at_ + 4) true :: ps) := by
  have hS := Aside0.mk hs
  clear hs
  have hbd := lev_lt l at_ 4 hb hsh
  have h4 : (256 : Int) ^ 4 = 4294967296 := by decide
  rw [h4] at hbd
  obtain ⟨y, hy⟩ : ∃ y, lev ((l.take (at_ + 4)).drop at_) = y := ⟨_, rfl⟩
  rw [hy] at hbd ⊢
  have hyA := Aside0.mk hy
  have hw : IntKind.u32.wrap y = y := by rw [IntKind.wrap_u32]; omega
  clear hy h4
  go_enter Try.func34, Try.ntmps34
  go_wp2_with (first | ((with_reducible refine gate_callee (f := 65) rfl ?_); refine goesL_ (some 4) rfl rfl Try.func65 (by kernel_rfl) rfl #[.pointer (some ⟨g, 0, none⟩), .int .i64 4] rfl (by (try simp only [List.map_toArray, List.map_cons, List.map_nil]); first | done | rfl) ?_; (with_reducible refine (cur_num_some w0 _ g at_ l ps 4 4 rfl hS.out hb (by decide) (by decide) hl hsh).mono ?_); rintro e w1 ⟨rfl, h2⟩; refine ⟨_, rfl, ?_⟩; rw [hyA.out]; have hS1 := Aside0.mk h2; clear h2))
  go_ret
  exact ⟨by first | rfl | (simp [hw]), hS1.out⟩
set_option maxHeartbeats 4000000 in
theorem cur_Eight_some (w0 w : World) (g at_ : Nat) (l : List Int) (ps : List HP) (hs : Sep w0 w (cur g l at_ true :: ps)) (hb : Bytes l) (hl : l.length ≤ 1000000000000) (hsh : at_ + 8 ≤ l.length) :
    Calls Try.prog 35 #[.pointer (some ⟨g, 0, none⟩)] w fun e w' => e = .returned (.int .u64 (lev ((l.take (at_ + 8)).drop at_))) ∧ Sep w0 w' (cur g l (at_ + 8) true :: ps) := by
  have hS := Aside0.mk hs
  clear hs
  go_enter Try.func35, Try.ntmps35
  go_wp2_with (first | ((with_reducible refine gate_callee (f := 65) rfl ?_); refine goesL_ (some 4) rfl rfl Try.func65 (by kernel_rfl) rfl #[.pointer (some ⟨g, 0, none⟩), .int .i64 8] rfl (by (try simp only [List.map_toArray, List.map_cons, List.map_nil]); first | done | rfl) ?_; (with_reducible refine (cur_num_some w0 _ g at_ l ps 8 8 rfl hS.out hb (by decide) (by decide) hl hsh).mono ?_); rintro e w1 ⟨rfl, h2⟩; refine ⟨_, rfl, ?_⟩; have hS1 := Aside0.mk h2; clear h2))
  go_ret
  exact ⟨rfl, hS1.out⟩

end Go.Proofs.Ytmlodmpkcbncjaa.Sep
