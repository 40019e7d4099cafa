/- cursor.Cursor: Four, Eight. -/
import Derived.Test.YtlakjninlpiedaaHCurByte
set_option linter.unusedVariables false
set_option linter.unusedSimpArgs false
namespace Go.Proofs.Ytlakjninlpiedaa.Sep
open Go Go.RowKit Go.Proofs.YtlakjninlpiedaaW.PrintWords Go.Proofs.YtlakjninlpiedaaW.PrintLast Go.Proofs.YtlakjninlpiedaaW.PrintMore Go.Proofs.Ytlakjninlpiedaa.PureKit

set_option maxHeartbeats 4000000 in
theorem lev_lt (l : List Int) (a n : Nat) (hb : Bytes l) (h : a + n ≤ l.length) : 0 ≤ lev ((l.take (a + n)).drop a) ∧ lev ((l.take (a + n)).drop a) < 256 ^ n := by
  have := lev_bound _ ((hb.take (a + n)).drop a)
  rw [List.length_drop, List.length_take, show min (a + n) l.length - a = n by omega] at this
  exact this
set_option maxHeartbeats 4000000 in
set_option maxHeartbeats 4000000 in
theorem cur_Eight_some (w0 w : World) (g at_ : Nat) (l : List Int) (ps : List HP) (hs : Sep w0 w (cur g l at_ true :: ps)) (hb : Bytes l) (hl : l.length ≤ 1000000000000) (hsh : at_ + 8 ≤ l.length) :
    Calls Try.prog 88 #[.pointer (some ⟨g, 0, none⟩)] w fun e w' => e = .returned (.int .u64 (lev ((l.take (at_ + 8)).drop at_))) ∧ Sep w0 w' (cur g l (at_ + 8) true :: ps) := by
  have hS := Aside0.mk hs
  clear hs
  go_enter Try.func88, Try.ntmps88
  go_wp2_with (first | ((with_reducible refine gate_callee (f := 105) rfl ?_); refine goesL_ (some 4) rfl rfl Try.func105 (by kernel_rfl) rfl #[.pointer (some ⟨g, 0, none⟩), .int .i64 8] rfl (by (try simp only [List.map_toArray, List.map_cons, List.map_nil]); first | done | rfl) ?_; (with_reducible refine (cur_num_some w0 _ g at_ l ps 8 8 rfl hS.out hb (by decide) (by decide) hl hsh).mono ?_); rintro e w1 ⟨rfl, h2⟩; refine ⟨_, rfl, ?_⟩; have hS1 := Aside0.mk h2; clear h2))
  go_ret
  exact ⟨rfl, hS1.out⟩

end Go.Proofs.Ytlakjninlpiedaa.Sep
