/- fasciclelaw01.CursorDead, walked. -/
import Derived.Test.YtmlodmpkcbncjaaHOne
import Derived.Test.YtmlodmpkcbncjaaHLives01
import Derived.Test.YtmlodmpkcbncjaaHRun3
set_option linter.unusedVariables false
set_option linter.unusedSimpArgs false
namespace Go.Proofs.Ytmlodmpkcbncjaa.G
open Go Go.RowKit Go.Proofs.YtmlodmpkcbncjaaW.PrintWords Go.Proofs.YtmlodmpkcbncjaaW.PrintLast Go.Proofs.YtmlodmpkcbncjaaW.PrintMore Go.Proofs.Ytmlodmpkcbncjaa.PureKit Go.Proofs.Ytmlodmpkcbncjaa.Sep
attribute [local go_sem] max2_int min2_int max_two min_two max_three min_three max_four min_four

set_option maxHeartbeats 4000000 in
theorem clos_dead (w0 w : World) (g gk : Nat) (l : List Int) (ps : List HP) (hs : Sep.Sep w0 w (cur g l 0 true :: blk gk #[.pointer none] 27 :: ps)) (hl : l.length ≤ 1000000000000) :
    Calls Try.prog 20 #[.pointer (some ⟨g, 0, none⟩), .pointer (some ⟨gk, 0, none⟩)] w fun e w2 =>
      Sep.Sep w0 w2 (cur g l (if l.length = 0 then 0 else 1) true :: blk gk #[.pointer (some ⟨g, 0, none⟩)] 27 :: ps) ∧ (l.length ≠ 0 ∧ e = .returned (.tuple #[]) ∨ l.length = 0 ∧ e = .panicked [fault g 2]) := by
  have hS := Aside0.mk hs
  have hc_0 : w.cell? ⟨gk, 0, none⟩ = some (.pointer none) := ((hs.pick1).cell 0).trans rfl
  have hz := hs.pick1.frozen 0
  have hS1 : Sep.Sep w0 (w.setCell ⟨gk, 0, none⟩ (.pointer (some ⟨g, 0, none⟩))) (cur g l 0 true :: blk gk #[.pointer (some ⟨g, 0, none⟩)] 27 :: ps) := by
    have := (hs.pick1.set 0 (.pointer (some ⟨g, 0, none⟩))).put1
    simpa using this
  have hS1 := Aside0.mk hS1
  clear hs
  go_enter Try.func20, Try.ntmps20
  go_wp2_with (fail)
  by_cases h0 : l.length = 0
  · refine (cur_Take_short w0 _ g 0 l _ 1 hS1.out (by decide) (Nat.zero_le _) hl (by omega)).mono ?_
    rintro e w1 ⟨rfl, h1⟩
    refine ⟨rfl, ?_, .inr ⟨h0, rfl⟩⟩
    rw [if_pos h0]
    exact h1
  · refine (cur_Take_some w0 _ g 0 l _ 1 1 rfl hS1.out (by decide) hl (by omega)).mono ?_
    rintro e w1 ⟨v1, rfl, h1⟩
    have h1A := Aside0.mk h1.tail
    clear h1 hS1 hS
    go_wp2
    go_end0
    exact ⟨h1A.out, rfl⟩

set_option maxHeartbeats 4000000 in
set_option maxRecDepth 100000 in
theorem run_nil (w0 w : World) (A : Option Addr) (n c : Nat) (ps : List HP) (hs : Sep.Sep w0 w ps) :
    Calls Try.prog 16 #[.slice A n c, .nilFunc] w fun e w' => e = .returned (.tuple #[.int .i64 0, .int .i64 0]) ∧ Sep.Sep w0 w' ps := by
  have hnf : ∀ (W : World), (binOp .eql 29 .nilFunc .nilFunc).run Try.prog W = .ok (.bool true) W := fun _ => by rfl
  have hsz : ∀ (W : World) (o : Obj), (W.alloc o).heap.size = W.heap.size + 1 := fun W o => by show (W.heap.push _).size = _; simp
  have hS2 := (hs.alloc #[.int .i64 0] 3).alloc #[.int .i64 0] 24
  rw [hsz] at hS2
  have hS2 := Aside0.mk hS2
  clear hs
  go_enter_defers Try.func16, Try.ntmps16
  go_wp2
  have hca : ((w.alloc (.cells #[.int .i64 0] 3 (0, 0))).alloc (.cells #[.int .i64 0] 24 (0, 0))).cell? ⟨w.heap.size, 0, none⟩ = some (.int .i64 0) := ((hS2.out.pick1).cell 0).trans rfl
  have hce : ((w.alloc (.cells #[.int .i64 0] 3 (0, 0))).alloc (.cells #[.int .i64 0] 24 (0, 0))).cell? ⟨w.heap.size + 1, 0, none⟩ = some (.int .i64 0) := ((hS2.out).cell 0).trans rfl
  have hout := hS2.out.tail.tail
  generalize ((w.alloc (.cells #[.int .i64 0] 3 (0, 0))).alloc (.cells #[.int .i64 0] 24 (0, 0))) = W at hca hce hout ⊢
  show Leaves _ _ _ _ _ _ _
  show Leaves _ _ _ _ [] .returning W
  refine ⟨.tuple #[.int .i64 0, .int .i64 0], ?_, rfl, hout⟩
  simp [results, Try.results16, asAddr, loadVar, isAgg, underlying, Try.underlying3, Try.underlying24, Result.andThen, hca, hce]

def bytesb (l : List Int) : Bool := l.all fun x => decide (0 ≤ x ∧ x ≤ 255)
theorem bytesb_iff (l : List Int) : bytesb l = true ↔ Bytes l := by
  unfold bytesb
  rw [List.all_eq_true]
  exact ⟨fun h x hx => of_decide_eq_true (h x hx), fun h x hx => decide_eq_true (h x hx)⟩
abbrev Ask := S33
def askb (l : List Ask) : Bool := l.all fun y => decide ((0 ≤ y.f0 ∧ y.f0 ≤ 255) ∧ (0 ≤ y.f2 ∧ y.f2 ≤ 255))
theorem askb_iff (l : List Ask) : askb l = true ↔ ∀ y ∈ l, (0 ≤ y.f0 ∧ y.f0 ≤ 255) ∧ (0 ≤ y.f2 ∧ y.f2 ≤ 255) := by
  unfold askb
  rw [List.all_eq_true]
  exact ⟨fun h x hx => of_decide_eq_true (h x hx), fun h x hx => decide_eq_true (h x hx)⟩
def fasciclelaw01_CursorDead.f (l0 : List Int) (l1 : List Ask) : Option Bool := if bytesb l0 = true ∧ askb l1 = true then some true else none
def fasciclelaw01_CursorDead.Pure : Prop := ∀ (l0 : List Int) (l1 : List Ask), l0.length ≤ maxLen → l0.length * 1 ≤ 140737488351232 → (∀ y ∈ l0, ((Lit.int .u8 y).wf = true)) → l1.length ≤ maxLen → l1.length * 24 ≤ 140737488351232 → (∀ y ∈ l1, (((Lit.int .u8 y.f0).wf = true) ∧ ((Lit.int .i64 y.f1).wf = true) ∧ ((Lit.int .u8 y.f2).wf = true))) → fasciclelaw01_CursorDead.f l0 l1 = some true

set_option maxHeartbeats 4000000 in
set_option maxRecDepth 100000 in
theorem fasciclelaw01_CursorDead.calls (A0 : Option Addr) (c0 : Nat) (l0 : List Int) (A1 : Option Addr) (c1 : Nat) (l1 : List Ask) (r : Bool) (w : World) (hr0 : Kd.C (Kd.int .u8) w A0 l0.length l0) (hc0 : l0.length ≤ c0) (hr1 : Kd.C k33 w A1 l1.length l1) (hc1 : l1.length ≤ c1) (h : fasciclelaw01_CursorDead.f l0 l1 = some r) :
    Calls Try.prog 4 #[.slice A0 l0.length c0, .slice A1 l1.length c1] w fun e w' => e = .returned (.bool r) ∧ Below w.heap.size w w' := by
  have hu := Try.underlying33
  obtain ⟨hb, ha, rfl⟩ : Bytes l0 ∧ (∀ y ∈ l1, (0 ≤ y.f0 ∧ y.f0 ≤ 255) ∧ (0 ≤ y.f2 ∧ y.f2 ≤ 255)) ∧ r = true := by
    unfold fasciclelaw01_CursorDead.f at h
    split at h
    · rename_i hh
      exact ⟨(bytesb_iff l0).1 hh.1, (askb_iff l1).1 hh.2, (Option.some.inj h).symm⟩
    · cases h
  clear h
  have HR0 := Aside0.mk hr0
  have HR1 := Aside0.mk hr1
  clear hr0 hr1
  have HB := Aside0.mk (Below.refl w.heap.size w)
  by_cases hbig : ¬ (l1.length ≤ 40 ∧ l0.length ≤ 500)
  · by_cases h1 : (l1.length : Int) > 40
    · have h1b : decide ((l1.length : Int) > 40) = true := decide_eq_true h1
      go_enter Try.func4, Try.ntmps4
      go_wp2_with (first | ((with_reducible refine gate_callee (f := 15) rfl ?_); refine goesL_ (some 14) rfl rfl Try.func15 (by kernel_rfl) rfl #[] rfl (by (try simp only [List.map_toArray, List.map_cons, List.map_nil]); first | done | rfl) ?_; (with_reducible refine (fasciclelaw01_lives.calls true _ rfl).mono ?_); rintro e w1 ⟨rfl, h1⟩; refine ⟨_, rfl, ?_⟩; have hB1 := Aside0.mk (below_step HB.out h1); clear h1) | ((with_reducible refine gate_callee (f := 15) rfl ?_); refine goesL_ (some 26) rfl rfl Try.func15 (by kernel_rfl) rfl #[] rfl (by (try simp only [List.map_toArray, List.map_cons, List.map_nil]); first | done | rfl) ?_; (with_reducible refine (fasciclelaw01_lives.calls true _ rfl).mono ?_); rintro e w2 ⟨rfl, h1⟩; refine ⟨_, rfl, ?_⟩; have hB2 := Aside0.mk (below_step hB1.out h1); clear h1))
      go_ret
      exact ⟨rfl, hB2.out⟩
    · have h1b : decide ((l1.length : Int) > 40) = false := decide_eq_false h1
      have h0b : decide ((l0.length : Int) > 500) = true := decide_eq_true (by omega)
      go_enter Try.func4, Try.ntmps4
      go_wp2_with (first | ((with_reducible refine gate_callee (f := 15) rfl ?_); refine goesL_ (some 14) rfl rfl Try.func15 (by kernel_rfl) rfl #[] rfl (by (try simp only [List.map_toArray, List.map_cons, List.map_nil]); first | done | rfl) ?_; (with_reducible refine (fasciclelaw01_lives.calls true _ rfl).mono ?_); rintro e w1 ⟨rfl, h1⟩; refine ⟨_, rfl, ?_⟩; have hB1 := Aside0.mk (below_step HB.out h1); clear h1) | ((with_reducible refine gate_callee (f := 15) rfl ?_); refine goesL_ (some 26) rfl rfl Try.func15 (by kernel_rfl) rfl #[] rfl (by (try simp only [List.map_toArray, List.map_cons, List.map_nil]); first | done | rfl) ?_; (with_reducible refine (fasciclelaw01_lives.calls true _ rfl).mono ?_); rintro e w2 ⟨rfl, h1⟩; refine ⟨_, rfl, ?_⟩; have hB2 := Aside0.mk (below_step hB1.out h1); clear h1))
      go_ret
      exact ⟨rfl, hB2.out⟩
  have h1b : decide ((l1.length : Int) > 40) = false := decide_eq_false (by omega)
  have h0b : decide ((l0.length : Int) > 500) = false := decide_eq_false (by omega)
  have hmf : ∀ (fn : Fn) (first cap : Array Value) (w : World), (Instr.makeFunc fn first cap).run Try.prog w = .ok (.func fn first cap) w := fun _ _ _ _ => rfl
  go_enter Try.func4, Try.ntmps4
  go_wp2_with (first | ((with_reducible refine gate_callee (f := 15) rfl ?_); refine goesL_ (some 14) rfl rfl Try.func15 (by kernel_rfl) rfl #[] rfl (by (try simp only [List.map_toArray, List.map_cons, List.map_nil]); first | done | rfl) ?_; (with_reducible refine (fasciclelaw01_lives.calls true _ rfl).mono ?_); rintro e w1 ⟨rfl, h1⟩; refine ⟨_, rfl, ?_⟩; have hS1 := Aside0.mk (((Sep.start w).below (below_step HB.out h1)).alloc #[.pointer none] 27); clear h1))
  refine (run_calls3 w _ A0 c0 l0 20 #[.pointer (some ⟨w1.heap.size, 0, none⟩)] [blk w1.heap.size #[.pointer none] 27] []
    (fun g at2 x qs => qs = [blk w1.heap.size #[.pointer (some ⟨g, 0, none⟩)] 27] ∧ at2 = (if l0.length = 0 then 0 else 1) ∧ x = (if l0.length = 0 then 2 else 0))
    Try.call20 hS1.out (Kd.C_below HR0.out hS1.out.1) hc0 (by omega) (fun w2 g ps' h2 => (clos_dead w w2 g w1.heap.size l0 ps' h2 (by omega)).mono ?_)).mono ?_
  · rintro e w3 ⟨h3, (⟨hne, rfl⟩ | ⟨heq, rfl⟩)⟩
    · exact ⟨_, 0, _, ⟨rfl, rfl, by rw [if_neg hne]⟩, h3, .inl ⟨rfl, rfl⟩⟩
    · exact ⟨_, 2, _, ⟨rfl, rfl, by rw [if_pos heq]⟩, h3, .inr ⟨[], rfl, rfl⟩⟩
  rintro e w3 ⟨g, at2, x, qs, ⟨rfl, hat2, hx⟩, rfl, h3⟩
  have hS3 := Aside0.mk h3
  have hc3_0 : w3.cell? ⟨w1.heap.size, 0, none⟩ = some (.pointer (some ⟨g, 0, none⟩)) := ((h3.pick1).cell 0).trans rfl
  clear h3 hS1
  have hmn : (if 1 < l0.length then (1 : Int) else (l0.length : Int)) = (at2 : Int) := by
    rw [hat2]
    by_cases h0 : l0.length = 0
    · rw [if_pos h0, if_neg (by omega), h0]
    · rw [if_neg h0]
      split <;> omega
  have hmnI : (if (1 : Int) < (l0.length : Int) then (1 : Int) else (l0.length : Int)) = (at2 : Int) := by
    rw [hat2]
    by_cases h0 : l0.length = 0
    · rw [if_pos h0, if_neg (by omega), h0]
    · rw [if_neg h0]
      split <;> omega
  have hmn2 : ∀ b : Bool, b = decide (0 < l0.length) → (x == 0) = b := by
    intro b hbq
    subst hbq
    rw [hx]
    by_cases h0 : l0.length = 0
    · rw [if_pos h0, decide_eq_false (by omega)]; rfl
    · rw [if_neg h0, decide_eq_true (by omega)]; rfl
  have hmn2 := hmn2 _ rfl
  have hat2A := Aside0.mk hat2
  have hxA := Aside0.mk hx
  clear hat2 hx
  have hle : l1.length ≤ 40 ∧ l0.length ≤ 500 := by omega
  clear hbig
  go_wp2_with (fail)
  go_loopg [52] l1.length (fun kq v52 w' => ∃ (i : Nat), v52 = .int .i64 i ∧ Aside0 (i + kq = l1.length) ∧ Aside0 (Sep.Sep w w' [cur g l0 at2 false, blk w1.heap.size #[.pointer (some ⟨g, 0, none⟩)] 27]))
  case atStart => exact ⟨0, rfl, ⟨Nat.zero_add _⟩, hS3⟩
  case round =>
    obtain ⟨i, rfl, hA, hS⟩ := hrel
    by_cases hin : i < l1.length
    · have hd : decide ((i : Int) < (l1.length : Int)) = true := decide_eq_true (by omega)
      obtain ⟨k1, rfl⟩ : ∃ k1, gk = k1 + 1 := ⟨gk - 1, by have := hA.out; omega⟩
      obtain ⟨ad, e0, hx0, hx1, hx2⟩ := at_T33 (Kd.C_below HR1.out hS.out.1) (i : Int) (by omega) (by omega)
      cases e0
      simp only [Int.toNat_natCast] at hx0 hx1 hx2
      have hask := ha (rd_T33 l1 (i : Int)) (by
        have : rd_T33 l1 (i : Int) = l1[i] := by simp [rd_T33, List.getD_eq_getElem?_getD, hin]
        rw [this]
        exact List.getElem_mem hin)
      generalize rd_T33 l1 (i : Int) = q at *
      obtain ⟨qk, qn, qe⟩ := q
      simp only at hx0 hx1 hx2 hask
      have hq := hS.out
      have hcr_0 : wr.cell? ⟨w1.heap.size, 0, none⟩ = some (.pointer (some ⟨g, 0, none⟩)) := ((hq.pick1).cell 0).trans rfl
      have hSa := hq.alloc #[.int .u8 qk, .int .i64 qn, .int .u8 qe] 33
      have hca := hSa.pick2.cell 0
      have hSa := Aside0.mk hSa
      clear hq
      have p0 : ((0 : Int) ≤ (i : Int)) = True := eq_true (by omega)
      have q0 : ((i : Int) < (l1.length : Int)) = True := eq_true (by omega)
      go_wp2_with (first | ((with_reducible refine gate_callee (f := 21) rfl ?_); refine goesL_ (some 59) rfl rfl Try.func21 (by kernel_rfl) rfl #[.pointer (some ⟨g, 0, none⟩), .agg #[.int .u8 qk, .int .i64 qn, .int .u8 qe]] rfl (by (try simp only [List.map_toArray, List.map_cons, List.map_nil]); first | done | rfl) ?_; (refine (one_dead w _ (.pointer (some ⟨g, 0, none⟩)) _ qk qn qe (fun x => dead_perm (dead_cur w g at2 l0 _) (List.perm_middle (l₁ := [x, _]) (l₂ := [_])).symm) hSa.out hask.1 hask.2).mono ?_); rintro e w4 ⟨rfl, h4⟩; refine ⟨_, rfl, ?_⟩; have hS4 := Aside0.mk h4; have hc4_0 : w4.cell? ⟨wr.heap.size, 0, none⟩ = some (.int .u8 qk) := ((h4).cell 0).trans rfl; have hc4_1 : w4.cell? ⟨wr.heap.size, 1, none⟩ = some (.int .i64 qn) := ((h4).cell 1).trans rfl; have hc4_2 : w4.cell? ⟨wr.heap.size, 2, none⟩ = some (.int .u8 qe) := ((h4).cell 2).trans rfl; clear h4) | ((with_reducible refine gate_callee (f := 21) rfl ?_); refine goesL_ (some 64) rfl rfl Try.func21 (by kernel_rfl) rfl #[.pointer none, .agg #[.int .u8 qk, .int .i64 qn, .int .u8 qe]] rfl (by (try simp only [List.map_toArray, List.map_cons, List.map_nil]); first | done | rfl) ?_; (refine (one_dead w _ (.pointer none) _ qk qn qe (fun x => dead_nil w _) hS4.out hask.1 hask.2).mono ?_); rintro e w5 ⟨rfl, h5⟩; refine ⟨_, rfl, ?_⟩; have hS5 := Aside0.mk h5; clear h5))
      go_roundg k1
      case measure => omega
      case rel => exact ⟨i + 1, by simp, ⟨by have := hA.out; omega⟩, ⟨hS5.out.tail⟩⟩
    · have hd : decide ((i : Int) < (l1.length : Int)) = false := decide_eq_false (by omega)
      go_wp2_with (first | ((with_reducible refine gate_callee (f := 16) rfl ?_); refine goesL_ (some 84) rfl rfl Try.func16 (by kernel_rfl) rfl #[.slice A0 l0.length c0, .nilFunc] rfl (by (try simp only [List.map_toArray, List.map_cons, List.map_nil]); first | done | rfl) ?_; (refine (run_nil w _ A0 l0.length c0 _ hS.out).mono ?_); rintro e w6 ⟨rfl, h6⟩; refine ⟨_, rfl, ?_⟩; have hS6 := Aside0.mk h6; clear h6))
      go_ret
      exact ⟨rfl, hS6.out.1⟩

end Go.Proofs.Ytmlodmpkcbncjaa.G
