/- fasciclelaw07.lives: the chapter's example holds. -/
import Derived.Test.YtmlodmpkcbncjaaHBody
set_option linter.unusedVariables false
namespace Go.Proofs.Ytmlodmpkcbncjaa.G
open Go Go.RowKit Go.Proofs.YtmlodmpkcbncjaaW.PrintWords Go.Proofs.YtmlodmpkcbncjaaW.PrintLast Go.Proofs.YtmlodmpkcbncjaaW.PrintMore Go.Proofs.Ytmlodmpkcbncjaa.PureKit Go.Proofs.Ytmlodmpkcbncjaa.Sep

def fasciclelaw07_lives.f : Option Bool := some true
theorem body_ab : record_Body.f false 1 ⟨#[97]⟩ ⟨#[98]⟩ = some ([2, 1, 1, 97, 1, 98], 0) := by
  have h1 : venc 1 = [1] := venc_small (by decide)
  unfold record_Body.f rcheck rbody
  rw [if_pos (by decide), if_pos (by decide)]
  rw [show ((1 : Int).toNat) = 1 from rfl, show (⟨#[97]⟩ : ByteArray).size = 1 from rfl, show (⟨#[98]⟩ : ByteArray).size = 1 from rfl, h1]
  rfl
set_option maxHeartbeats 4000000 in
set_option maxRecDepth 100000 in
theorem fasciclelaw07_lives.calls (r : Bool) (w : World) (h : fasciclelaw07_lives.f = some r) :
    Calls Try.prog 22 #[] w fun e w' => e = .returned (.bool r) ∧ Below w.heap.size w w' := by
  obtain rfl := Option.some.inj h
  have hq : ((strOfNums [2, 1, 1, 97, 1, 98]).toList == ([2, 1, 1, 97, 1, 98] : List UInt8)) = true := by rw [Lib.toList_data, nums_bytes]; rfl
  go_enter Try.func22, Try.ntmps22
  go_wp2_with (first | ((with_reducible refine gate_callee (f := 48) rfl ?_); refine goesL_ (some 5) rfl rfl Try.func48 (by kernel_rfl) rfl #[.agg #[.bool false, .int .u64 1, .string ⟨#[97]⟩, .string ⟨#[98]⟩]] rfl (by (try simp only [List.map_toArray, List.map_cons, List.map_nil]); first | done | rfl) ?_; (with_reducible refine (record_Body.calls _ _ _ _ _ _ _ body_ab).mono ?_); rintro e w1 ⟨v1, rfl, h1, hb⟩; refine ⟨_, rfl, ?_⟩; have hR1 := Aside0.mk h1; have hB1 := Aside0.mk hb; have hcv := own_string (P := Try.prog) Try.underlying22 Try.underlying5 Try.underlying9 (Kd.own_of_R h1); clear h1 hb))
  go_ret
  exact ⟨rfl, hB1.out⟩

end Go.Proofs.Ytmlodmpkcbncjaa.G
