/- fasciclelaw02.lives: the chapter's example holds. -/
import Derived.Test.YtdpghobknhkikaaHVarint
set_option linter.unusedVariables false
namespace Go.Proofs.Ytdpghobknhkikaa.G
open Go Go.RowKit Go.Proofs.YtdpghobknhkikaaW.PrintWords Go.Proofs.YtdpghobknhkikaaW.PrintLast Go.Proofs.YtdpghobknhkikaaW.PrintMore Go.Proofs.Ytdpghobknhkikaa.PureKit Go.Proofs.Ytdpghobknhkikaa.Sep

def fasciclelaw02_lives.f : Option Bool := some true
set_option maxHeartbeats 4000000 in
set_option maxRecDepth 100000 in
theorem fasciclelaw02_lives.calls (r : Bool) (w : World) (h : fasciclelaw02_lives.f = some r) :
    Calls Try.prog 22 #[] w fun e w' => e = .returned (.bool r) ∧ Below w.heap.size w w' := by
  obtain rfl := Option.some.inj h
  have hS := Aside0.mk (Sep.start w).buf_new
  have h300 : venc 300 = [172, 2] := by rw [venc_big (by decide), venc_small (by decide)]; rfl
  have hl : ([] ++ venc 300 : List Int).length ≤ 1000000000000 := by rw [h300]; decide
  go_enter Try.func22, Try.ntmps22
  go_wp2_with (first | ((with_reducible refine gate_callee (f := 23) rfl ?_); refine goesL_ (some 2) rfl rfl Try.func23 (by kernel_rfl) rfl #[.pointer (some ⟨w.heap.size, 0, none⟩), .int .u64 300] rfl (by (try simp only [List.map_toArray, List.map_cons, List.map_nil]); first | done | rfl) ?_; (with_reducible refine (varint_Put w _ w.heap.size [] [] 300 300 rfl hS.out (by decide) (by decide)).mono ?_); rintro e w1 ⟨rfl, h1⟩; refine ⟨_, rfl, ?_⟩; have hS1 := Aside0.mk h1; clear h1) | ((with_reducible refine gate_callee (f := 24) rfl ?_); refine goesL_ (some 3) rfl rfl Try.func24 (by kernel_rfl) rfl #[.pointer (some ⟨w.heap.size, 0, none⟩)] rfl (by (try simp only [List.map_toArray, List.map_cons, List.map_nil]); first | done | rfl) ?_; (with_reducible refine (buf_Bytes w _ w.heap.size _ [] hS1.out hl).mono ?_); rintro e w2 ⟨v2, rfl, h2⟩; refine ⟨_, rfl, ?_⟩; have hS2 := Aside0.mk h2; clear h2; obtain ⟨bs2, hR2⟩ := hS2.out.row_R; have hcv := own_string (P := Try.prog) Try.underlying22 Try.underlying5 Try.underlying9 (Kd.own_of_R hR2)))
  go_ret
  refine ⟨?_, hS2.out.1⟩
  have hq : ((strOfNums [172, 2]).toList == ([172, 2] : List UInt8)) = true := by rw [Lib.toList_data, nums_bytes]; rfl
  rw [hq]
  rfl

end Go.Proofs.Ytdpghobknhkikaa.G
