/- cursor.Cursor outside of its reading, and nil: nothing happens. -/
import Derived.Test.YtmlodmpkcbncjaaHCurByte
set_option linter.unusedVariables false
set_option linter.unusedSimpArgs false
namespace Go.Proofs.Ytmlodmpkcbncjaa.Sep
open Go Go.RowKit Go.Proofs.YtmlodmpkcbncjaaW.PrintWords Go.Proofs.YtmlodmpkcbncjaaW.PrintLast Go.Proofs.YtmlodmpkcbncjaaW.PrintMore Go.Proofs.Ytmlodmpkcbncjaa.PureKit

/-- A cursor that is dead, whatever world of these pieces. -/
abbrev Dead (w0 : World) (v : Value) (ps : List HP) : Prop :=
  ∀ w, Sep w0 w ps → Calls Try.prog 60 #[v] w fun e w' => e = .returned (.bool true) ∧ Sep w0 w' ps
theorem dead_cur (w0 : World) (g at_ : Nat) (l : List Int) (ps : List HP) : Dead w0 (.pointer (some ⟨g, 0, none⟩)) (cur g l at_ false :: ps) := fun w hs => cur_dead w0 w g at_ l false ps hs
set_option maxHeartbeats 4000000 in
theorem dead_nil (w0 : World) (ps : List HP) : Dead w0 (.pointer none) ps := fun w hs => by
  have hS := Aside0.mk hs
  clear hs
  go_enter Try.func60, Try.ntmps60
  go_wp2
  go_ret
  exact ⟨rfl, hS.out⟩
section
variable (w0 w : World) (v : Value) (ps : List HP) (hd : Dead w0 v ps) (hs : Sep w0 w ps)
include hd hs
set_option maxHeartbeats 4000000 in
theorem dead_Take (n : Int) : Calls Try.prog 19 #[v, .int .i64 n] w fun e w' => e = .returned (.slice none 0 0) ∧ Sep w0 w' ps := by
  have hS := Aside0.mk hs
  have hD := Aside0.mk hd
  clear hs hd
  go_enter Try.func19, Try.ntmps19
  go_wp2_with (first | ((with_reducible refine gate_callee (f := 60) rfl ?_); refine goesL_ (some 6) rfl rfl Try.func60 (by kernel_rfl) rfl #[v] rfl (by (try simp only [List.map_toArray, List.map_cons, List.map_nil]); first | done | rfl) ?_; (with_reducible refine (hD.out _ hS.out).mono ?_); rintro e w1 ⟨rfl, h1⟩; refine ⟨_, rfl, ?_⟩; have hS1 := Aside0.mk h1; clear h1))
  go_ret
  exact ⟨rfl, hS1.out⟩
set_option maxHeartbeats 4000000 in
theorem dead_Fail (x : Int) : Calls Try.prog 61 #[v, .int .i64 x] w fun e w' => e = .returned (.tuple #[]) ∧ Sep w0 w' ps := by
  have hS := Aside0.mk hs
  have hD := Aside0.mk hd
  clear hs hd
  go_enter Try.func61, Try.ntmps61
  go_wp2_with (first | ((with_reducible refine gate_callee (f := 60) rfl ?_); refine goesL_ (some 5) rfl rfl Try.func60 (by kernel_rfl) rfl #[v] rfl (by (try simp only [List.map_toArray, List.map_cons, List.map_nil]); first | done | rfl) ?_; (with_reducible refine (hD.out _ hS.out).mono ?_); rintro e w1 ⟨rfl, h1⟩; refine ⟨_, rfl, ?_⟩; have hS1 := Aside0.mk h1; clear h1))
  go_end0
  exact ⟨rfl, hS1.out⟩
set_option maxHeartbeats 4000000 in
theorem dead_Left : Calls Try.prog 62 #[v] w fun e w' => e = .returned (.int .i64 0) ∧ Sep w0 w' ps := by
  have hS := Aside0.mk hs
  have hD := Aside0.mk hd
  clear hs hd
  go_enter Try.func62, Try.ntmps62
  go_wp2_with (first | ((with_reducible refine gate_callee (f := 60) rfl ?_); refine goesL_ (some 4) rfl rfl Try.func60 (by kernel_rfl) rfl #[v] rfl (by (try simp only [List.map_toArray, List.map_cons, List.map_nil]); first | done | rfl) ?_; (with_reducible refine (hD.out _ hS.out).mono ?_); rintro e w1 ⟨rfl, h1⟩; refine ⟨_, rfl, ?_⟩; have hS1 := Aside0.mk h1; clear h1))
  go_ret
  exact ⟨rfl, hS1.out⟩
set_option maxHeartbeats 4000000 in
theorem dead_At : Calls Try.prog 63 #[v] w fun e w' => e = .returned (.int .i64 0) ∧ Sep w0 w' ps := by
  have hS := Aside0.mk hs
  have hD := Aside0.mk hd
  clear hs hd
  go_enter Try.func63, Try.ntmps63
  go_wp2_with (first | ((with_reducible refine gate_callee (f := 60) rfl ?_); refine goesL_ (some 4) rfl rfl Try.func60 (by kernel_rfl) rfl #[v] rfl (by (try simp only [List.map_toArray, List.map_cons, List.map_nil]); first | done | rfl) ?_; (with_reducible refine (hD.out _ hS.out).mono ?_); rintro e w1 ⟨rfl, h1⟩; refine ⟨_, rfl, ?_⟩; have hS1 := Aside0.mk h1; clear h1))
  go_ret
  exact ⟨rfl, hS1.out⟩
set_option maxHeartbeats 4000000 in
theorem dead_End : Calls Try.prog 36 #[v] w fun e w' => e = .returned (.tuple #[]) ∧ Sep w0 w' ps := by
  have hS := Aside0.mk hs
  have hD := Aside0.mk hd
  clear hs hd
  go_enter Try.func36, Try.ntmps36
  go_wp2_with (first | ((with_reducible refine gate_callee (f := 62) rfl ?_); refine goesL_ (some 3) rfl rfl Try.func62 (by kernel_rfl) rfl #[v] rfl (by (try simp only [List.map_toArray, List.map_cons, List.map_nil]); first | done | rfl) ?_; (with_reducible refine (dead_Left w0 _ v ps hD.out hS.out).mono ?_); rintro e w1 ⟨rfl, h1⟩; refine ⟨_, rfl, ?_⟩; have hS1 := Aside0.mk h1; clear h1))
  go_end0
  exact ⟨rfl, hS1.out⟩
set_option maxHeartbeats 4000000 in
set_option maxRecDepth 100000 in
theorem dead_num (n : Int) : Calls Try.prog 65 #[v, .int .i64 n] w fun e w' => e = .returned (.int .u64 0) ∧ Sep w0 w' ps := by
  have hS := Aside0.mk hs
  have hD := Aside0.mk hd
  clear hs hd
  go_enter Try.func65, Try.ntmps65
  go_wp2_with (first | ((with_reducible refine gate_callee (f := 19) rfl ?_); refine goesL_ (some 10) rfl rfl Try.func19 (by kernel_rfl) rfl #[v, .int .i64 n] rfl (by (try simp only [List.map_toArray, List.map_cons, List.map_nil]); first | done | rfl) ?_; (with_reducible refine (dead_Take w0 _ v ps hD.out hS.out n).mono ?_); rintro e w1 ⟨rfl, h1⟩; refine ⟨_, rfl, ?_⟩; have hS1 := Aside0.mk h1; clear h1))
  go_loopg [5, 12] 0 (fun kq v5 v12 w' => v5 = .int .u64 0 ∧ v12 = .int .i64 0 ∧ Aside0 (Sep w0 w' ps))
  case atStart => exact ⟨rfl, rfl, hS1⟩
  case round =>
    obtain ⟨rfl, rfl, hS⟩ := hrel
    go_wp2
    go_ret
    exact ⟨rfl, hS.out⟩
set_option maxHeartbeats 4000000 in
theorem dead_Byte : Calls Try.prog 33 #[v] w fun e w' => e = .returned (.int .u8 0) ∧ Sep w0 w' ps := by
  have hS := Aside0.mk hs
  have hD := Aside0.mk hd
  clear hs hd
  go_enter Try.func33, Try.ntmps33
  go_wp2_with (first | ((with_reducible refine gate_callee (f := 65) rfl ?_); refine goesL_ (some 4) rfl rfl Try.func65 (by kernel_rfl) rfl #[v, .int .i64 1] rfl (by (try simp only [List.map_toArray, List.map_cons, List.map_nil]); first | done | rfl) ?_; (with_reducible refine (dead_num w0 _ v ps hD.out hS.out 1).mono ?_); rintro e w1 ⟨rfl, h1⟩; refine ⟨_, rfl, ?_⟩; have hS1 := Aside0.mk h1; clear h1))
  go_ret
  exact ⟨rfl, hS1.out⟩
set_option maxHeartbeats 4000000 in
theorem dead_Four : Calls Try.prog 34 #[v] w fun e w' => e = .returned (.int .u32 0) ∧ Sep w0 w' ps := by
  have hS := Aside0.mk hs
  have hD := Aside0.mk hd
  clear hs hd
  go_enter Try.func34, Try.ntmps34
  go_wp2_with (first | ((with_reducible refine gate_callee (f := 65) rfl ?_); refine goesL_ (some 4) rfl rfl Try.func65 (by kernel_rfl) rfl #[v, .int .i64 4] rfl (by (try simp only [List.map_toArray, List.map_cons, List.map_nil]); first | done | rfl) ?_; (with_reducible refine (dead_num w0 _ v ps hD.out hS.out 4).mono ?_); rintro e w1 ⟨rfl, h1⟩; refine ⟨_, rfl, ?_⟩; have hS1 := Aside0.mk h1; clear h1))
  go_ret
  exact ⟨rfl, hS1.out⟩
set_option maxHeartbeats 4000000 in
theorem dead_Eight : Calls Try.prog 35 #[v] w fun e w' => e = .returned (.int .u64 0) ∧ Sep w0 w' ps := by
  have hS := Aside0.mk hs
  have hD := Aside0.mk hd
  clear hs hd
  go_enter Try.func35, Try.ntmps35
  go_wp2_with (first | ((with_reducible refine gate_callee (f := 65) rfl ?_); refine goesL_ (some 4) rfl rfl Try.func65 (by kernel_rfl) rfl #[v, .int .i64 8] rfl (by (try simp only [List.map_toArray, List.map_cons, List.map_nil]); first | done | rfl) ?_; (with_reducible refine (dead_num w0 _ v ps hD.out hS.out 8).mono ?_); rintro e w1 ⟨rfl, h1⟩; refine ⟨_, rfl, ?_⟩; have hS1 := Aside0.mk h1; clear h1))
  go_ret
  exact ⟨rfl, hS1.out⟩
end

end Go.Proofs.Ytmlodmpkcbncjaa.Sep
