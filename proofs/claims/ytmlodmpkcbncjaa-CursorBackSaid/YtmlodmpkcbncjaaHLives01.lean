/- fasciclelaw01.lives: the chapter's example holds. -/
import Derived.Test.YtmlodmpkcbncjaaHCurFour
import Derived.Test.YtmlodmpkcbncjaaHRun2
import Derived.Test.YtmlodmpkcbncjaaHBlk
set_option linter.unusedVariables false
set_option linter.unusedSimpArgs false
namespace Go.Proofs.Ytmlodmpkcbncjaa.G
open Go Go.RowKit Go.Proofs.YtmlodmpkcbncjaaW.PrintWords Go.Proofs.YtmlodmpkcbncjaaW.PrintLast Go.Proofs.YtmlodmpkcbncjaaW.PrintMore Go.Proofs.Ytmlodmpkcbncjaa.PureKit Go.Proofs.Ytmlodmpkcbncjaa.Sep

set_option maxHeartbeats 4000000 in
theorem clos_lives01 (w0 w : World) (g gd : Nat) (ps : List HP) (hs : Sep.Sep w0 w (cur g [1, 2, 3] 0 true :: blk gd #[.bool false] 4 :: ps)) :
    Calls Try.prog 57 #[.pointer (some ⟨g, 0, none⟩), .pointer (some ⟨gd, 0, none⟩)] w fun e w2 =>
      e = .panicked [fault g 2] ∧ Sep.Sep w0 w2 (cur g [1, 2, 3] 1 true :: blk gd #[.bool false] 4 :: ps) := by
  have hS := Aside0.mk hs
  clear hs
  have hb : Bytes [1, 2, 3] := by intro x hx; simp at hx; omega
  go_enter Try.func57, Try.ntmps57
  go_wp2_with (first | ((with_reducible refine gate_callee (f := 33) rfl ?_); refine goesL_ (some 4) rfl rfl Try.func33 (by kernel_rfl) rfl #[.pointer (some ⟨g, 0, none⟩)] rfl (by (try simp only [List.map_toArray, List.map_cons, List.map_nil]); first | done | rfl) ?_; (with_reducible refine (cur_Byte_some w0 _ g 0 [1, 2, 3] _ hS.out hb (by decide) (by decide)).mono ?_); rintro e w1 ⟨rfl, h1⟩; refine ⟨_, rfl, ?_⟩; have hS1 := Aside0.mk h1; clear h1))
  refine (cur_Four_short w0 _ g 1 [1, 2, 3] _ hS1.out (by decide) (by decide) (by decide)).mono ?_
  rintro e w2 ⟨rfl, h2⟩
  exact ⟨rfl, rfl, h2⟩

def fasciclelaw01_lives.f : Option Bool := some true
set_option maxHeartbeats 4000000 in
set_option maxRecDepth 100000 in
theorem fasciclelaw01_lives.calls (r : Bool) (w : World) (h : fasciclelaw01_lives.f = some r) :
    Calls Try.prog 15 #[] w fun e w' => e = .returned (.bool r) ∧ Below w.heap.size w w' := by
  obtain rfl := Option.some.inj h
  have hS := Aside0.mk (Sep.start w)
  have hmf : ∀ (fn : Fn) (first cap : Array Value) (w : World), (Instr.makeFunc fn first cap).run Try.prog w = .ok (.func fn first cap) w := fun _ _ _ _ => rfl
  go_enter Try.func15, Try.ntmps15
  go_wp2_with (fail)
  have hsz : ∀ (W : World) (o : Obj), (W.alloc o).heap.size = W.heap.size + 1 := fun W o => by show (W.heap.push _).size = _; simp
  have hS1 := (hS.out.alloc #[.bool false] 4).alloc #[.int .u8 1, .int .u8 2, .int .u8 3] 5
  rw [hsz] at hS1
  have hC := blk_C (k := .u8) [1, 2, 3] hS1 rfl (by decide)
  refine (run_calls w _ (some ⟨w.heap.size + 1, 0, none⟩) 3 [1, 2, 3] 57 #[.pointer (some ⟨w.heap.size, 0, none⟩)] [blk w.heap.size #[.bool false] 4] [blk (w.heap.size + 1) #[.int .u8 1, .int .u8 2, .int .u8 3] 5] (fun at2 x qs => at2 = 1 ∧ x = 2 ∧ qs = [blk w.heap.size #[.bool false] 4])
    Try.call57 hS1.pick1 hC (by decide) (by decide) (fun w1 g ps' h1 => (clos_lives01 w w1 g w.heap.size ps' h1).mono ?_)).mono ?_
  · rintro e w2 ⟨rfl, h2⟩
    exact ⟨1, 2, _, ⟨rfl, rfl, rfl⟩, h2, .inr rfl⟩
  rintro e w2 ⟨at2, x, qs, ⟨rfl, rfl, rfl⟩, rfl, h2⟩
  have hS2 := Aside0.mk h2
  have hc2_0 : w2.cell? ⟨w.heap.size, 0, none⟩ = some (.bool false) := ((h2).cell 0).trans rfl
  clear h2 hS1 hC
  go_wp2
  go_ret
  exact ⟨rfl, hS2.out.1⟩

end Go.Proofs.Ytmlodmpkcbncjaa.G
