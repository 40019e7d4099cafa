/- wear: gauges. -/
import Derived.Test.YtlakjninlpiedaaHMapp
import Derived.Test.YtlakjninlpiedaaHEdgeCounts2
import Derived.Test.YtlakjninlpiedaaHScoreD
import Derived.Test.YtlakjninlpiedaaGx1
set_option linter.unusedVariables false
set_option linter.unusedSimpArgs false
namespace Go.Proofs.Ytlakjninlpiedaa.Fw
open Go Go.RowKit Go.Proofs.YtlakjninlpiedaaW.PrintWords Go.Proofs.YtlakjninlpiedaaW.PrintLast Go.Proofs.YtlakjninlpiedaaW.PrintMore Go.Proofs.Ytlakjninlpiedaa.Fl Go.Proofs.Ytlakjninlpiedaa.Sep Go.Proofs.Ytlakjninlpiedaa.G
set_option maxHeartbeats 4000000
set_option maxRecDepth 100000
attribute [local go_sem] run_f64bits run_frombits max2_int min2_int

/-- The pieces of a gauge. -/
abbrev gg (g : Nat) (e : Int) (s b n t : Nat) (f : Nat → Nat) : List HP := [blk g #[.int .u8 e, .int .u32 (s : Int), .map (some b), .int .u64 (t : Int)] 107, mpp b n f]

theorem wear_Of (w0 w : World) (g : Nat) (e : Int) (s b n t : Nat) (f : Nat → Nat) (ps : List HP) (k : Nat) (hs : Sep.Sep w0 w (gg g e s b n t f ++ ps)) (hk : k < 4294967296) :
    Calls Try.prog 21 #[.pointer (some ⟨g, 0, none⟩), .int .u32 (k : Int)] w fun e w' => e = .returned (.int .u64 (f k : Int)) ∧ w' = w := by
  have hu := Try.underlying107
  have hlk := (hs.pick1).mp_look hk
  have hc_0 : w.cell? ⟨g, 0, none⟩ = some (.int .u8 e) := ((hs).cell 0).trans rfl; have hc_1 : w.cell? ⟨g, 1, none⟩ = some (.int .u32 (s : Int)) := ((hs).cell 1).trans rfl; have hc_2 : w.cell? ⟨g, 2, none⟩ = some (.map (some b)) := ((hs).cell 2).trans rfl; have hc_3 : w.cell? ⟨g, 3, none⟩ = some (.int .u64 (t : Int)) := ((hs).cell 3).trans rfl
  clear hs hk
  go_enter Try.func21, Try.ntmps21
  go_wp2_with (fail)
  go_ret
  exact ⟨rfl, rfl⟩

theorem wear_Total (w0 w : World) (g : Nat) (e : Int) (s b n t : Nat) (f : Nat → Nat) (ps : List HP) (hs : Sep.Sep w0 w (gg g e s b n t f ++ ps)) :
    Calls Try.prog 22 #[.pointer (some ⟨g, 0, none⟩)] w fun e w' => e = .returned (.int .u64 (t : Int)) ∧ w' = w := by
  have hu := Try.underlying107
  have hc_0 : w.cell? ⟨g, 0, none⟩ = some (.int .u8 e) := ((hs).cell 0).trans rfl; have hc_1 : w.cell? ⟨g, 1, none⟩ = some (.int .u32 (s : Int)) := ((hs).cell 1).trans rfl; have hc_2 : w.cell? ⟨g, 2, none⟩ = some (.map (some b)) := ((hs).cell 2).trans rfl; have hc_3 : w.cell? ⟨g, 3, none⟩ = some (.int .u64 (t : Int)) := ((hs).cell 3).trans rfl
  clear hs
  go_enter Try.func22, Try.ntmps22
  go_wp2_with (fail)
  go_ret
  exact ⟨rfl, rfl⟩

theorem wear_Note_arg (w0 w : World) (g : Nat) (e : Int) (s b n t : Nat) (f : Nat → Nat) (ps : List HP) (k x : Nat) (hs : Sep.Sep w0 w (gg g e s b n t f ++ ps)) (hk : s ≤ k) :
    Calls Try.prog 19 #[.pointer (some ⟨g, 0, none⟩), .int .u32 (k : Int), .int .u64 (x : Int)] w fun e w' => e = .returned (.int .i64 1) ∧ w' = w := by
  have hu := Try.underlying107
  have hu2 := Try.underlying24
  have hc_0 : w.cell? ⟨g, 0, none⟩ = some (.int .u8 e) := ((hs).cell 0).trans rfl; have hc_1 : w.cell? ⟨g, 1, none⟩ = some (.int .u32 (s : Int)) := ((hs).cell 1).trans rfl; have hc_2 : w.cell? ⟨g, 2, none⟩ = some (.map (some b)) := ((hs).cell 2).trans rfl; have hc_3 : w.cell? ⟨g, 3, none⟩ = some (.int .u64 (t : Int)) := ((hs).cell 3).trans rfl
  have hd : decide ((s : Int) ≤ (k : Int)) = true := decide_eq_true (by omega)
  have hd2 : decide (s ≤ k) = true := decide_eq_true hk
  clear hs hk
  go_enter Try.func19, Try.ntmps19
  go_wp2_with (fail)
  go_ret
  exact ⟨rfl, rfl⟩
theorem wear_Note_full (w0 w : World) (g : Nat) (e : Int) (s b n t : Nat) (f : Nat → Nat) (ps : List HP) (k x : Nat) (hs : Sep.Sep w0 w (gg g e s b n t f ++ ps)) (hk : k < s) (ht : t ≤ 9007199254740992) (hx : 9007199254740992 < t + x) :
    Calls Try.prog 19 #[.pointer (some ⟨g, 0, none⟩), .int .u32 (k : Int), .int .u64 (x : Int)] w fun e w' => e = .returned (.int .i64 7) ∧ w' = w := by
  have hu := Try.underlying107
  have hu2 := Try.underlying24
  have hc_0 : w.cell? ⟨g, 0, none⟩ = some (.int .u8 e) := ((hs).cell 0).trans rfl; have hc_1 : w.cell? ⟨g, 1, none⟩ = some (.int .u32 (s : Int)) := ((hs).cell 1).trans rfl; have hc_2 : w.cell? ⟨g, 2, none⟩ = some (.map (some b)) := ((hs).cell 2).trans rfl; have hc_3 : w.cell? ⟨g, 3, none⟩ = some (.int .u64 (t : Int)) := ((hs).cell 3).trans rfl
  have hd : decide ((s : Int) ≤ (k : Int)) = false := decide_eq_false (by omega)
  have hd2 : decide (s ≤ k) = false := decide_eq_false (by omega)
  have hw : IntKind.u64.wrap (9007199254740992 - (t : Int)) = 9007199254740992 - (t : Int) := by rw [IntKind.wrap_u64]; omega
  have hd3 : decide ((x : Int) > 9007199254740992 - (t : Int)) = true := decide_eq_true (by omega)
  have hd4 : decide (9007199254740992 - (t : Int) < (x : Int)) = true := decide_eq_true (by omega)
  clear hs hk ht hx
  go_enter Try.func19, Try.ntmps19
  go_wp2_with (fail)
  go_ret
  exact ⟨rfl, rfl⟩
theorem wear_Note_ok (w0 w : World) (g : Nat) (e : Int) (s b n t : Nat) (f : Nat → Nat) (ps : List HP) (k x : Nat) (hs : Sep.Sep w0 w (gg g e s b n t f ++ ps)) (hk : k < s) (hs32 : s < 4294967296) (hx : t + x ≤ 9007199254740992) (hf : f k + x ≤ 9007199254740992) (hn : n < 1000000000000) :
    Calls Try.prog 19 #[.pointer (some ⟨g, 0, none⟩), .int .u32 (k : Int), .int .u64 (x : Int)] w fun r w' => r = .returned (.int .i64 0) ∧ Sep.Sep w0 w' (gg g e s b (n + 1) (t + x) (upd f k (f k + x)) ++ ps) := by
  have hu := Try.underlying107
  have hu2 := Try.underlying24
  have hc_0 : w.cell? ⟨g, 0, none⟩ = some (.int .u8 e) := ((hs).cell 0).trans rfl; have hc_1 : w.cell? ⟨g, 1, none⟩ = some (.int .u32 (s : Int)) := ((hs).cell 1).trans rfl; have hc_2 : w.cell? ⟨g, 2, none⟩ = some (.map (some b)) := ((hs).cell 2).trans rfl; have hc_3 : w.cell? ⟨g, 3, none⟩ = some (.int .u64 (t : Int)) := ((hs).cell 3).trans rfl
  have hlk := (hs.pick1).mp_look (k := k) (by omega)
  obtain ⟨w1, hrun, h1⟩ := (hs.pick1).mp_set (k := k) (v := f k + x) (by omega) (by omega) hn
  have h1 := h1.put1
  have hd_0 : w1.cell? ⟨g, 0, none⟩ = some (.int .u8 e) := ((h1).cell 0).trans rfl; have hd_1 : w1.cell? ⟨g, 1, none⟩ = some (.int .u32 (s : Int)) := ((h1).cell 1).trans rfl; have hd_2 : w1.cell? ⟨g, 2, none⟩ = some (.map (some b)) := ((h1).cell 2).trans rfl; have hd_3 : w1.cell? ⟨g, 3, none⟩ = some (.int .u64 (t : Int)) := ((h1).cell 3).trans rfl
  have hf3 := h1.frozen 3
  have h2 : Sep.Sep w0 (w1.setCell ⟨g, 3, none⟩ (.int .u64 ((t + x : Nat) : Int))) (gg g e s b (n + 1) (t + x) (upd f k (f k + x)) ++ ps) := by
    have := h1.set 3 (.int .u64 ((t + x : Nat) : Int))
    simpa using this
  have hS2 := Aside0.mk h2
  have hq : decide ((s : Int) ≤ (k : Int)) = false := decide_eq_false (by omega)
  have hq2 : decide (s ≤ k) = false := decide_eq_false (by omega)
  have hw : IntKind.u64.wrap (9007199254740992 - (t : Int)) = 9007199254740992 - (t : Int) := by rw [IntKind.wrap_u64]; omega
  have hd3 : decide ((x : Int) > 9007199254740992 - (t : Int)) = false := decide_eq_false (by omega)
  have hd4 : decide (9007199254740992 - (t : Int) < (x : Int)) = false := decide_eq_false (by omega)
  have hw2 : IntKind.u64.wrap ((f k : Int) + (x : Int)) = ((f k + x : Nat) : Int) := by rw [IntKind.wrap_u64]; omega
  have hw3 : IntKind.u64.wrap ((t : Int) + (x : Int)) = ((t + x : Nat) : Int) := by rw [IntKind.wrap_u64]; omega
  generalize f k + x = y at *
  generalize t + x = t2 at *
  generalize f k = fk at *
  clear hs h1 h2 hk hx hf hn hs32
  go_enter Try.func19, Try.ntmps19
  go_wp2_with (fail)
  go_ret
  exact ⟨rfl, hS2.out⟩
end Go.Proofs.Ytlakjninlpiedaa.Fw
