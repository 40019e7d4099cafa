/- fasciclelaw01.CursorNests, walked. (Printed by mknests.py.) -/
import Derived.Test.YtmlodmpkcbncjaaHNests
import Derived.Test.YtmlodmpkcbncjaaHLives01
set_option linter.unusedVariables false
set_option linter.unusedSimpArgs false
namespace Go.Proofs.Ytmlodmpkcbncjaa.G
open Go Go.RowKit Go.Proofs.YtmlodmpkcbncjaaW.PrintWords Go.Proofs.YtmlodmpkcbncjaaW.PrintLast Go.Proofs.YtmlodmpkcbncjaaW.PrintMore Go.Proofs.Ytmlodmpkcbncjaa.PureKit Go.Proofs.Ytmlodmpkcbncjaa.Sep
attribute [local go_sem] max2_int min2_int max_two min_two max_three min_three max_four min_four

def bytesb (l : List Int) : Bool := l.all fun x => decide (0 ≤ x ∧ x ≤ 255)
theorem bytesb_iff (l : List Int) : bytesb l = true ↔ Bytes l := by
  unfold bytesb
  rw [List.all_eq_true]
  exact ⟨fun h x hx => of_decide_eq_true (h x hx), fun h x hx => decide_eq_true (h x hx)⟩
def fasciclelaw01_CursorNests.f (l0 : List Int) (l1 : List Int) (a2 : Int) (a3 : Bool) : Option Bool := if bytesb l0 = true ∧ bytesb l1 = true then some true else none
def fasciclelaw01_CursorNests.Pure : Prop := ∀ (l0 : List Int) (l1 : List Int) (a2 : Int) (a3 : Bool), l0.length ≤ maxLen → l0.length * 1 ≤ 140737488351232 → (∀ y ∈ l0, ((Lit.int .u8 y).wf = true)) → l1.length ≤ maxLen → l1.length * 1 ≤ 140737488351232 → (∀ y ∈ l1, ((Lit.int .u8 y).wf = true)) → (Lit.int .i64 a2).wf = true → fasciclelaw01_CursorNests.f l0 l1 a2 a3 = some true

set_option maxHeartbeats 8000000 in
set_option maxRecDepth 100000 in
theorem fasciclelaw01_CursorNests.calls (A0 : Option Addr) (c0 : Nat) (l0 : List Int) (A1 : Option Addr) (c1 : Nat) (l1 : List Int) (a2 : Int) (a3 : Bool) (r : Bool) (w : World) (hr0 : Kd.C (Kd.int .u8) w A0 l0.length l0) (hc0 : l0.length ≤ c0) (hr1 : Kd.C (Kd.int .u8) w A1 l1.length l1) (hc1 : l1.length ≤ c1) (h : fasciclelaw01_CursorNests.f l0 l1 a2 a3 = some r) :
    Calls Try.prog 3 #[.slice A0 l0.length c0, .slice A1 l1.length c1, .int .i64 a2, .bool a3] w fun e w' => e = .returned (.bool r) ∧ Below w.heap.size w w' := by
  obtain rfl : r = true := by
    unfold fasciclelaw01_CursorNests.f at h
    split at h
    · exact (Option.some.inj h).symm
    · cases h
  clear h
  have HR0 := Aside0.mk hr0
  have HR1 := Aside0.mk hr1
  clear hr0 hr1
  have hS := Aside0.mk (Sep.start w)
  by_cases hbig : ¬ (l0.length ≤ 500 ∧ l1.length ≤ 500)
  · by_cases h1 : (l0.length : Int) > 500
    · have h0b : decide ((l0.length : Int) > 500) = true := decide_eq_true h1
      go_enter Try.func3, Try.ntmps3
      go_wp2_with (first | ((with_reducible refine gate_dst (N := 5) rfl ?_); refine Sep.box_event ?hg (N := 5) ?hd (cs := #[.slice A1 l1.length c1]) (t := 22) hS.out ?hr ?_; (case hd => rfl); (case hg => rfl); (case hr => first | (go_simp; done) | (go_simp; rfl)); intro g5 wb5 hsb5; have hcb5_0 : wb5.cell? ⟨g5, 0, none⟩ = some (.slice A1 l1.length c1) := ((hsb5).cell 0).trans rfl; have hSb5 := Aside0.mk hsb5; clear hsb5) | ((with_reducible refine gate_dst (N := 6) rfl ?_); refine Sep.box_event ?hg (N := 6) ?hd (cs := #[.int .i64 a2]) (t := 3) hSb5.out ?hr ?_; (case hd => rfl); (case hg => rfl); (case hr => first | (go_simp; done) | (go_simp; rfl)); intro g6 wb6 hsb6; have hcb6_0 : wb6.cell? ⟨g6, 0, none⟩ = some (.int .i64 a2) := ((hsb6).cell 0).trans rfl; have hSb6 := Aside0.mk hsb6; clear hsb6) | ((with_reducible refine gate_dst (N := 7) rfl ?_); refine Sep.box_event ?hg (N := 7) ?hd (cs := #[.bool a3]) (t := 4) hSb6.out ?hr ?_; (case hd => rfl); (case hg => rfl); (case hr => first | (go_simp; done) | (go_simp; rfl)); intro g7 wb7 hsb7; have hcb7_0 : wb7.cell? ⟨g7, 0, none⟩ = some (.bool a3) := ((hsb7).cell 0).trans rfl; have hSb7 := Aside0.mk hsb7; clear hsb7) | ((with_reducible refine gate_callee (f := 15) rfl ?_); refine goesL_ (some 14) rfl rfl Try.func15 (by kernel_rfl) rfl #[] rfl (by (try simp only [List.map_toArray, List.map_cons, List.map_nil]); first | done | rfl) ?_; (with_reducible refine (fasciclelaw01_lives.calls true _ rfl).mono ?_); rintro e w1 ⟨rfl, h1⟩; refine ⟨_, rfl, ?_⟩; have hS1 := Aside0.mk (hSb7.out.below h1); have hq := hS1.out; have hc5_0 : w1.cell? ⟨g5, 0, none⟩ = some (.slice A1 l1.length c1) := ((hq.pick2).cell 0).trans rfl; clear h1 hq) | ((with_reducible refine gate_callee (f := 15) rfl ?_); refine goesL_ (some 26) rfl rfl Try.func15 (by kernel_rfl) rfl #[] rfl (by (try simp only [List.map_toArray, List.map_cons, List.map_nil]); first | done | rfl) ?_; (with_reducible refine (fasciclelaw01_lives.calls true _ rfl).mono ?_); rintro e w2 ⟨rfl, h1⟩; refine ⟨_, rfl, ?_⟩; have hS2 := Aside0.mk (hS1.out.below h1); clear h1))
      go_ret
      exact ⟨rfl, hS2.out.1⟩
    · have h0b : decide ((l0.length : Int) > 500) = false := decide_eq_false h1
      have h1b : decide ((l1.length : Int) > 500) = true := decide_eq_true (by omega)
      go_enter Try.func3, Try.ntmps3
      go_wp2_with (first | ((with_reducible refine gate_dst (N := 5) rfl ?_); refine Sep.box_event ?hg (N := 5) ?hd (cs := #[.slice A1 l1.length c1]) (t := 22) hS.out ?hr ?_; (case hd => rfl); (case hg => rfl); (case hr => first | (go_simp; done) | (go_simp; rfl)); intro g5 wb5 hsb5; have hcb5_0 : wb5.cell? ⟨g5, 0, none⟩ = some (.slice A1 l1.length c1) := ((hsb5).cell 0).trans rfl; have hSb5 := Aside0.mk hsb5; clear hsb5) | ((with_reducible refine gate_dst (N := 6) rfl ?_); refine Sep.box_event ?hg (N := 6) ?hd (cs := #[.int .i64 a2]) (t := 3) hSb5.out ?hr ?_; (case hd => rfl); (case hg => rfl); (case hr => first | (go_simp; done) | (go_simp; rfl)); intro g6 wb6 hsb6; have hcb6_0 : wb6.cell? ⟨g6, 0, none⟩ = some (.int .i64 a2) := ((hsb6).cell 0).trans rfl; have hSb6 := Aside0.mk hsb6; clear hsb6) | ((with_reducible refine gate_dst (N := 7) rfl ?_); refine Sep.box_event ?hg (N := 7) ?hd (cs := #[.bool a3]) (t := 4) hSb6.out ?hr ?_; (case hd => rfl); (case hg => rfl); (case hr => first | (go_simp; done) | (go_simp; rfl)); intro g7 wb7 hsb7; have hcb7_0 : wb7.cell? ⟨g7, 0, none⟩ = some (.bool a3) := ((hsb7).cell 0).trans rfl; have hSb7 := Aside0.mk hsb7; clear hsb7) | ((with_reducible refine gate_callee (f := 15) rfl ?_); refine goesL_ (some 14) rfl rfl Try.func15 (by kernel_rfl) rfl #[] rfl (by (try simp only [List.map_toArray, List.map_cons, List.map_nil]); first | done | rfl) ?_; (with_reducible refine (fasciclelaw01_lives.calls true _ rfl).mono ?_); rintro e w1 ⟨rfl, h1⟩; refine ⟨_, rfl, ?_⟩; have hS1 := Aside0.mk (hSb7.out.below h1); have hq := hS1.out; have hc5_0 : w1.cell? ⟨g5, 0, none⟩ = some (.slice A1 l1.length c1) := ((hq.pick2).cell 0).trans rfl; clear h1 hq) | ((with_reducible refine gate_callee (f := 15) rfl ?_); refine goesL_ (some 26) rfl rfl Try.func15 (by kernel_rfl) rfl #[] rfl (by (try simp only [List.map_toArray, List.map_cons, List.map_nil]); first | done | rfl) ?_; (with_reducible refine (fasciclelaw01_lives.calls true _ rfl).mono ?_); rintro e w2 ⟨rfl, h1⟩; refine ⟨_, rfl, ?_⟩; have hS2 := Aside0.mk (hS1.out.below h1); clear h1))
      go_ret
      exact ⟨rfl, hS2.out.1⟩
  have h0b : decide ((l0.length : Int) > 500) = false := decide_eq_false (by omega)
  have h1b : decide ((l1.length : Int) > 500) = false := decide_eq_false (by omega)
  have hle : l0.length ≤ 500 ∧ l1.length ≤ 500 := by omega
  clear hbig
  have hmf : ∀ (fn : Fn) (first cap : Array Value) (w : World), (Instr.makeFunc fn first cap).run Try.prog w = .ok (.func fn first cap) w := fun _ _ _ _ => rfl
  have hsz : ∀ (W : World) (o : Obj), (W.alloc o).heap.size = W.heap.size + 1 := fun W o => by show (W.heap.push _).size = _; simp
  have hent := Try.call17
  cases a3
  · rcases tk_cases l0 a2 with ⟨hn, ht⟩ | ⟨hn, hn2, ht⟩ | ⟨hn, ht⟩
    · have hd : decide (a2 > (l0.length : Int)) = false := decide_eq_false (by omega)
      have hz : (0 < a2) = False := eq_false (by omega)
      have htA := Aside0.mk ht
      clear ht
      go_enter Try.func3, Try.ntmps3
      go_wp2_with (first | ((with_reducible refine gate_dst (N := 5) rfl ?_); refine Sep.box_event ?hg (N := 5) ?hd (cs := #[.slice A1 l1.length c1]) (t := 22) hS.out ?hr ?_; (case hd => rfl); (case hg => rfl); (case hr => first | (go_simp; done) | (go_simp; rfl)); intro g5 wb5 hsb5; have hcb5_0 : wb5.cell? ⟨g5, 0, none⟩ = some (.slice A1 l1.length c1) := ((hsb5).cell 0).trans rfl; have hSb5 := Aside0.mk hsb5; clear hsb5) | ((with_reducible refine gate_dst (N := 6) rfl ?_); refine Sep.box_event ?hg (N := 6) ?hd (cs := #[.int .i64 a2]) (t := 3) hSb5.out ?hr ?_; (case hd => rfl); (case hg => rfl); (case hr => first | (go_simp; done) | (go_simp; rfl)); intro g6 wb6 hsb6; have hcb6_0 : wb6.cell? ⟨g6, 0, none⟩ = some (.int .i64 a2) := ((hsb6).cell 0).trans rfl; have hSb6 := Aside0.mk hsb6; clear hsb6) | ((with_reducible refine gate_dst (N := 7) rfl ?_); refine Sep.box_event ?hg (N := 7) ?hd (cs := #[.bool false]) (t := 4) hSb6.out ?hr ?_; (case hd => rfl); (case hg => rfl); (case hr => first | (go_simp; done) | (go_simp; rfl)); intro g7 wb7 hsb7; have hcb7_0 : wb7.cell? ⟨g7, 0, none⟩ = some (.bool false) := ((hsb7).cell 0).trans rfl; have hSb7 := Aside0.mk hsb7; clear hsb7) | ((with_reducible refine gate_callee (f := 15) rfl ?_); refine goesL_ (some 14) rfl rfl Try.func15 (by kernel_rfl) rfl #[] rfl (by (try simp only [List.map_toArray, List.map_cons, List.map_nil]); first | done | rfl) ?_; (with_reducible refine (fasciclelaw01_lives.calls true _ rfl).mono ?_); rintro e w1 ⟨rfl, h1⟩; refine ⟨_, rfl, ?_⟩; have hS1 := Aside0.mk (hSb7.out.below h1); have hq := hS1.out; have hc5_0 : w1.cell? ⟨g5, 0, none⟩ = some (.slice A1 l1.length c1) := ((hq.pick2).cell 0).trans rfl; clear h1 hq))
      have hS3 := (hS1.out.alloc #[.bool false] 4).alloc #[.int .i64 0] 24
      rw [hsz] at hS3
      have hS4 : Sep.Sep w _ (np g5 g7 g6 (w1.heap.size + 1) w1.heap.size A1 c1 l1 false a2 0 false ++ []) := hS3.pick4.perm (List.Perm.cons _ (List.perm_append_comm (l₁ := [_, _]) (l₂ := [_, _])))
      refine (run_calls3 w _ A0 c0 l0 17 #[.pointer (some ⟨g5, 0, none⟩), .pointer (some ⟨g7, 0, none⟩), .pointer (some ⟨g6, 0, none⟩), .pointer (some ⟨w1.heap.size + 1, 0, none⟩), .pointer (some ⟨w1.heap.size, 0, none⟩)] _ []
        (fun g at2 x qs => at2 = 0 ∧ x = 0 ∧ qs = np g5 g7 g6 (w1.heap.size + 1) w1.heap.size A1 c1 l1 false a2 0 true)
        hent hS4 (Kd.C_below HR0.out hS4.1) hc0 (by omega) (fun w2 g ps' h2 => (clos_nests w w2 g g5 g7 g6 (w1.heap.size + 1) w1.heap.size l0 l1 A1 c1 false a2 ps' h2 HR1.out hc1 (by omega) (by omega)).mono ?_)).mono ?_
      · intro e w3 h3
        unfold nestpost at h3
        rw [if_neg (by decide), htA.out, if_pos rfl] at h3
        exact ⟨0, 0, _, ⟨rfl, rfl, rfl⟩, h3.2, .inl ⟨h3.1, rfl⟩⟩
      rintro e w3 ⟨g, at2, x, qs, ⟨hat, rfl, rfl⟩, rfl, h3⟩
      replace hat := hat.symm
      subst hat
      have h3 := h3.tail
      have hf5_0 : w3.cell? ⟨g5, 0, none⟩ = some (.slice A1 l1.length c1) := ((h3).cell 0).trans rfl
      have hf7_0 : w3.cell? ⟨g7, 0, none⟩ = some (.bool false) := ((h3.pick1).cell 0).trans rfl
      have hf6_0 : w3.cell? ⟨g6, 0, none⟩ = some (.int .i64 a2) := ((h3.pick2).cell 0).trans rfl
      have hfi_0 : w3.cell? ⟨(w1.heap.size + 1), 0, none⟩ = some (.int .i64 0) := ((h3.pick3).cell 0).trans rfl
      have hfb_0 : w3.cell? ⟨w1.heap.size, 0, none⟩ = some (.bool true) := ((h3.pick4).cell 0).trans rfl
      have h3A := Aside0.mk h3
      clear h3 hS3 hS4
      go_wp2
      go_ret
      exact ⟨by first | rfl | simp, h3A.out.1⟩
    · obtain ⟨m, rfl⟩ : ∃ m : Nat, a2 = (m : Int) := ⟨a2.toNat, by omega⟩
      rw [Int.toNat_natCast] at ht
      have hd : decide ((m : Int) > (l0.length : Int)) = false := decide_eq_false (by omega)
      have hz : (0 < m) = True := eq_true (by omega)
      have hd2 : (l0.length < m) = False := eq_false (by omega)
      have htA := Aside0.mk ht
      clear ht
      go_enter Try.func3, Try.ntmps3
      go_wp2_with (first | ((with_reducible refine gate_dst (N := 5) rfl ?_); refine Sep.box_event ?hg (N := 5) ?hd (cs := #[.slice A1 l1.length c1]) (t := 22) hS.out ?hr ?_; (case hd => rfl); (case hg => rfl); (case hr => first | (go_simp; done) | (go_simp; rfl)); intro g5 wb5 hsb5; have hcb5_0 : wb5.cell? ⟨g5, 0, none⟩ = some (.slice A1 l1.length c1) := ((hsb5).cell 0).trans rfl; have hSb5 := Aside0.mk hsb5; clear hsb5) | ((with_reducible refine gate_dst (N := 6) rfl ?_); refine Sep.box_event ?hg (N := 6) ?hd (cs := #[.int .i64 (m : Int)]) (t := 3) hSb5.out ?hr ?_; (case hd => rfl); (case hg => rfl); (case hr => first | (go_simp; done) | (go_simp; rfl)); intro g6 wb6 hsb6; have hcb6_0 : wb6.cell? ⟨g6, 0, none⟩ = some (.int .i64 (m : Int)) := ((hsb6).cell 0).trans rfl; have hSb6 := Aside0.mk hsb6; clear hsb6) | ((with_reducible refine gate_dst (N := 7) rfl ?_); refine Sep.box_event ?hg (N := 7) ?hd (cs := #[.bool false]) (t := 4) hSb6.out ?hr ?_; (case hd => rfl); (case hg => rfl); (case hr => first | (go_simp; done) | (go_simp; rfl)); intro g7 wb7 hsb7; have hcb7_0 : wb7.cell? ⟨g7, 0, none⟩ = some (.bool false) := ((hsb7).cell 0).trans rfl; have hSb7 := Aside0.mk hsb7; clear hsb7) | ((with_reducible refine gate_callee (f := 15) rfl ?_); refine goesL_ (some 14) rfl rfl Try.func15 (by kernel_rfl) rfl #[] rfl (by (try simp only [List.map_toArray, List.map_cons, List.map_nil]); first | done | rfl) ?_; (with_reducible refine (fasciclelaw01_lives.calls true _ rfl).mono ?_); rintro e w1 ⟨rfl, h1⟩; refine ⟨_, rfl, ?_⟩; have hS1 := Aside0.mk (hSb7.out.below h1); have hq := hS1.out; have hc5_0 : w1.cell? ⟨g5, 0, none⟩ = some (.slice A1 l1.length c1) := ((hq.pick2).cell 0).trans rfl; clear h1 hq))
      have hS3 := (hS1.out.alloc #[.bool false] 4).alloc #[.int .i64 0] 24
      rw [hsz] at hS3
      have hS4 : Sep.Sep w _ (np g5 g7 g6 (w1.heap.size + 1) w1.heap.size A1 c1 l1 false (m : Int) 0 false ++ []) := hS3.pick4.perm (List.Perm.cons _ (List.perm_append_comm (l₁ := [_, _]) (l₂ := [_, _])))
      refine (run_calls3 w _ A0 c0 l0 17 #[.pointer (some ⟨g5, 0, none⟩), .pointer (some ⟨g7, 0, none⟩), .pointer (some ⟨g6, 0, none⟩), .pointer (some ⟨w1.heap.size + 1, 0, none⟩), .pointer (some ⟨w1.heap.size, 0, none⟩)] _ []
        (fun g at2 x qs => at2 = m ∧ x = 0 ∧ qs = np g5 g7 g6 (w1.heap.size + 1) w1.heap.size A1 c1 l1 false (m : Int) 0 true)
        hent hS4 (Kd.C_below HR0.out hS4.1) hc0 (by omega) (fun w2 g ps' h2 => (clos_nests w w2 g g5 g7 g6 (w1.heap.size + 1) w1.heap.size l0 l1 A1 c1 false (m : Int) ps' h2 HR1.out hc1 (by omega) (by omega)).mono ?_)).mono ?_
      · intro e w3 h3
        unfold nestpost at h3
        rw [if_neg (by decide), htA.out, if_pos rfl] at h3
        exact ⟨m, 0, _, ⟨rfl, rfl, rfl⟩, h3.2, .inl ⟨h3.1, rfl⟩⟩
      rintro e w3 ⟨g, at2, x, qs, ⟨hat, rfl, rfl⟩, rfl, h3⟩
      replace hat := hat.symm
      subst hat
      have h3 := h3.tail
      have hf5_0 : w3.cell? ⟨g5, 0, none⟩ = some (.slice A1 l1.length c1) := ((h3).cell 0).trans rfl
      have hf7_0 : w3.cell? ⟨g7, 0, none⟩ = some (.bool false) := ((h3.pick1).cell 0).trans rfl
      have hf6_0 : w3.cell? ⟨g6, 0, none⟩ = some (.int .i64 (m : Int)) := ((h3.pick2).cell 0).trans rfl
      have hfi_0 : w3.cell? ⟨(w1.heap.size + 1), 0, none⟩ = some (.int .i64 0) := ((h3.pick3).cell 0).trans rfl
      have hfb_0 : w3.cell? ⟨w1.heap.size, 0, none⟩ = some (.bool true) := ((h3.pick4).cell 0).trans rfl
      have h3A := Aside0.mk h3
      clear h3 hS3 hS4
      go_wp2
      go_ret
      exact ⟨by first | rfl | simp, h3A.out.1⟩
    · have hd : decide (a2 > (l0.length : Int)) = true := decide_eq_true (by omega)
      have hz : (0 < a2) = True := eq_true (by omega)
      have htA := Aside0.mk ht
      clear ht
      go_enter Try.func3, Try.ntmps3
      go_wp2_with (first | ((with_reducible refine gate_dst (N := 5) rfl ?_); refine Sep.box_event ?hg (N := 5) ?hd (cs := #[.slice A1 l1.length c1]) (t := 22) hS.out ?hr ?_; (case hd => rfl); (case hg => rfl); (case hr => first | (go_simp; done) | (go_simp; rfl)); intro g5 wb5 hsb5; have hcb5_0 : wb5.cell? ⟨g5, 0, none⟩ = some (.slice A1 l1.length c1) := ((hsb5).cell 0).trans rfl; have hSb5 := Aside0.mk hsb5; clear hsb5) | ((with_reducible refine gate_dst (N := 6) rfl ?_); refine Sep.box_event ?hg (N := 6) ?hd (cs := #[.int .i64 a2]) (t := 3) hSb5.out ?hr ?_; (case hd => rfl); (case hg => rfl); (case hr => first | (go_simp; done) | (go_simp; rfl)); intro g6 wb6 hsb6; have hcb6_0 : wb6.cell? ⟨g6, 0, none⟩ = some (.int .i64 a2) := ((hsb6).cell 0).trans rfl; have hSb6 := Aside0.mk hsb6; clear hsb6) | ((with_reducible refine gate_dst (N := 7) rfl ?_); refine Sep.box_event ?hg (N := 7) ?hd (cs := #[.bool false]) (t := 4) hSb6.out ?hr ?_; (case hd => rfl); (case hg => rfl); (case hr => first | (go_simp; done) | (go_simp; rfl)); intro g7 wb7 hsb7; have hcb7_0 : wb7.cell? ⟨g7, 0, none⟩ = some (.bool false) := ((hsb7).cell 0).trans rfl; have hSb7 := Aside0.mk hsb7; clear hsb7) | ((with_reducible refine gate_callee (f := 15) rfl ?_); refine goesL_ (some 14) rfl rfl Try.func15 (by kernel_rfl) rfl #[] rfl (by (try simp only [List.map_toArray, List.map_cons, List.map_nil]); first | done | rfl) ?_; (with_reducible refine (fasciclelaw01_lives.calls true _ rfl).mono ?_); rintro e w1 ⟨rfl, h1⟩; refine ⟨_, rfl, ?_⟩; have hS1 := Aside0.mk (hSb7.out.below h1); have hq := hS1.out; have hc5_0 : w1.cell? ⟨g5, 0, none⟩ = some (.slice A1 l1.length c1) := ((hq.pick2).cell 0).trans rfl; clear h1 hq))
      have hS3 := (hS1.out.alloc #[.bool false] 4).alloc #[.int .i64 0] 24
      rw [hsz] at hS3
      have hS4 : Sep.Sep w _ (np g5 g7 g6 (w1.heap.size + 1) w1.heap.size A1 c1 l1 false a2 0 false ++ []) := hS3.pick4.perm (List.Perm.cons _ (List.perm_append_comm (l₁ := [_, _]) (l₂ := [_, _])))
      refine (run_calls3 w _ A0 c0 l0 17 #[.pointer (some ⟨g5, 0, none⟩), .pointer (some ⟨g7, 0, none⟩), .pointer (some ⟨g6, 0, none⟩), .pointer (some ⟨w1.heap.size + 1, 0, none⟩), .pointer (some ⟨w1.heap.size, 0, none⟩)] _ []
        (fun g at2 x qs => at2 = 0 ∧ x = 2 ∧ qs = np g5 g7 g6 (w1.heap.size + 1) w1.heap.size A1 c1 l1 false a2 0 false)
        hent hS4 (Kd.C_below HR0.out hS4.1) hc0 (by omega) (fun w2 g ps' h2 => (clos_nests w w2 g g5 g7 g6 (w1.heap.size + 1) w1.heap.size l0 l1 A1 c1 false a2 ps' h2 HR1.out hc1 (by omega) (by omega)).mono ?_)).mono ?_
      · intro e w3 h3
        unfold nestpost at h3
        rw [if_neg (by decide), htA.out, if_neg (by decide)] at h3
        exact ⟨0, 2, _, ⟨rfl, rfl, rfl⟩, h3.2, .inr ⟨_, h3.1, rfl⟩⟩
      rintro e w3 ⟨g, at2, x, qs, ⟨hat, rfl, rfl⟩, rfl, h3⟩
      replace hat := hat.symm
      subst hat
      have h3 := h3.tail
      have hf5_0 : w3.cell? ⟨g5, 0, none⟩ = some (.slice A1 l1.length c1) := ((h3).cell 0).trans rfl
      have hf7_0 : w3.cell? ⟨g7, 0, none⟩ = some (.bool false) := ((h3.pick1).cell 0).trans rfl
      have hf6_0 : w3.cell? ⟨g6, 0, none⟩ = some (.int .i64 a2) := ((h3.pick2).cell 0).trans rfl
      have hfi_0 : w3.cell? ⟨(w1.heap.size + 1), 0, none⟩ = some (.int .i64 0) := ((h3.pick3).cell 0).trans rfl
      have hfb_0 : w3.cell? ⟨w1.heap.size, 0, none⟩ = some (.bool false) := ((h3.pick4).cell 0).trans rfl
      have h3A := Aside0.mk h3
      clear h3 hS3 hS4
      go_wp2
      go_ret
      exact ⟨by first | rfl | simp, h3A.out.1⟩
  · rcases tk_cases l1 a2 with ⟨hn, ht⟩ | ⟨hn, hn2, ht⟩ | ⟨hn, ht⟩
    · have hd : decide (a2 > (l1.length : Int)) = false := decide_eq_false (by omega)
      have hz : (0 < a2) = False := eq_false (by omega)
      have htA := Aside0.mk ht
      clear ht
      go_enter Try.func3, Try.ntmps3
      go_wp2_with (first | ((with_reducible refine gate_dst (N := 5) rfl ?_); refine Sep.box_event ?hg (N := 5) ?hd (cs := #[.slice A1 l1.length c1]) (t := 22) hS.out ?hr ?_; (case hd => rfl); (case hg => rfl); (case hr => first | (go_simp; done) | (go_simp; rfl)); intro g5 wb5 hsb5; have hcb5_0 : wb5.cell? ⟨g5, 0, none⟩ = some (.slice A1 l1.length c1) := ((hsb5).cell 0).trans rfl; have hSb5 := Aside0.mk hsb5; clear hsb5) | ((with_reducible refine gate_dst (N := 6) rfl ?_); refine Sep.box_event ?hg (N := 6) ?hd (cs := #[.int .i64 a2]) (t := 3) hSb5.out ?hr ?_; (case hd => rfl); (case hg => rfl); (case hr => first | (go_simp; done) | (go_simp; rfl)); intro g6 wb6 hsb6; have hcb6_0 : wb6.cell? ⟨g6, 0, none⟩ = some (.int .i64 a2) := ((hsb6).cell 0).trans rfl; have hSb6 := Aside0.mk hsb6; clear hsb6) | ((with_reducible refine gate_dst (N := 7) rfl ?_); refine Sep.box_event ?hg (N := 7) ?hd (cs := #[.bool true]) (t := 4) hSb6.out ?hr ?_; (case hd => rfl); (case hg => rfl); (case hr => first | (go_simp; done) | (go_simp; rfl)); intro g7 wb7 hsb7; have hcb7_0 : wb7.cell? ⟨g7, 0, none⟩ = some (.bool true) := ((hsb7).cell 0).trans rfl; have hSb7 := Aside0.mk hsb7; clear hsb7) | ((with_reducible refine gate_callee (f := 15) rfl ?_); refine goesL_ (some 14) rfl rfl Try.func15 (by kernel_rfl) rfl #[] rfl (by (try simp only [List.map_toArray, List.map_cons, List.map_nil]); first | done | rfl) ?_; (with_reducible refine (fasciclelaw01_lives.calls true _ rfl).mono ?_); rintro e w1 ⟨rfl, h1⟩; refine ⟨_, rfl, ?_⟩; have hS1 := Aside0.mk (hSb7.out.below h1); have hq := hS1.out; have hc5_0 : w1.cell? ⟨g5, 0, none⟩ = some (.slice A1 l1.length c1) := ((hq.pick2).cell 0).trans rfl; clear h1 hq))
      have hS3 := (hS1.out.alloc #[.bool false] 4).alloc #[.int .i64 0] 24
      rw [hsz] at hS3
      have hS4 : Sep.Sep w _ (np g5 g7 g6 (w1.heap.size + 1) w1.heap.size A1 c1 l1 true a2 0 false ++ []) := hS3.pick4.perm (List.Perm.cons _ (List.perm_append_comm (l₁ := [_, _]) (l₂ := [_, _])))
      refine (run_calls3 w _ A0 c0 l0 17 #[.pointer (some ⟨g5, 0, none⟩), .pointer (some ⟨g7, 0, none⟩), .pointer (some ⟨g6, 0, none⟩), .pointer (some ⟨w1.heap.size + 1, 0, none⟩), .pointer (some ⟨w1.heap.size, 0, none⟩)] _ []
        (fun g at2 x qs => at2 = 0 ∧ x = 0 ∧ qs = np g5 g7 g6 (w1.heap.size + 1) w1.heap.size A1 c1 l1 true a2 0 true)
        hent hS4 (Kd.C_below HR0.out hS4.1) hc0 (by omega) (fun w2 g ps' h2 => (clos_nests w w2 g g5 g7 g6 (w1.heap.size + 1) w1.heap.size l0 l1 A1 c1 true a2 ps' h2 HR1.out hc1 (by omega) (by omega)).mono ?_)).mono ?_
      · intro e w3 h3
        unfold nestpost at h3
        rw [if_pos rfl, htA.out] at h3
        exact ⟨0, 0, _, ⟨rfl, rfl, rfl⟩, h3.2, .inl ⟨h3.1, rfl⟩⟩
      rintro e w3 ⟨g, at2, x, qs, ⟨hat, rfl, rfl⟩, rfl, h3⟩
      replace hat := hat.symm
      subst hat
      have h3 := h3.tail
      have hf5_0 : w3.cell? ⟨g5, 0, none⟩ = some (.slice A1 l1.length c1) := ((h3).cell 0).trans rfl
      have hf7_0 : w3.cell? ⟨g7, 0, none⟩ = some (.bool true) := ((h3.pick1).cell 0).trans rfl
      have hf6_0 : w3.cell? ⟨g6, 0, none⟩ = some (.int .i64 a2) := ((h3.pick2).cell 0).trans rfl
      have hfi_0 : w3.cell? ⟨(w1.heap.size + 1), 0, none⟩ = some (.int .i64 0) := ((h3.pick3).cell 0).trans rfl
      have hfb_0 : w3.cell? ⟨w1.heap.size, 0, none⟩ = some (.bool true) := ((h3.pick4).cell 0).trans rfl
      have h3A := Aside0.mk h3
      clear h3 hS3 hS4
      go_wp2
      go_ret
      exact ⟨by first | rfl | simp, h3A.out.1⟩
    · obtain ⟨m, rfl⟩ : ∃ m : Nat, a2 = (m : Int) := ⟨a2.toNat, by omega⟩
      rw [Int.toNat_natCast] at ht
      have hd : decide ((m : Int) > (l1.length : Int)) = false := decide_eq_false (by omega)
      have hz : (0 < m) = True := eq_true (by omega)
      have hd2 : (l1.length < m) = False := eq_false (by omega)
      have htA := Aside0.mk ht
      clear ht
      go_enter Try.func3, Try.ntmps3
      go_wp2_with (first | ((with_reducible refine gate_dst (N := 5) rfl ?_); refine Sep.box_event ?hg (N := 5) ?hd (cs := #[.slice A1 l1.length c1]) (t := 22) hS.out ?hr ?_; (case hd => rfl); (case hg => rfl); (case hr => first | (go_simp; done) | (go_simp; rfl)); intro g5 wb5 hsb5; have hcb5_0 : wb5.cell? ⟨g5, 0, none⟩ = some (.slice A1 l1.length c1) := ((hsb5).cell 0).trans rfl; have hSb5 := Aside0.mk hsb5; clear hsb5) | ((with_reducible refine gate_dst (N := 6) rfl ?_); refine Sep.box_event ?hg (N := 6) ?hd (cs := #[.int .i64 (m : Int)]) (t := 3) hSb5.out ?hr ?_; (case hd => rfl); (case hg => rfl); (case hr => first | (go_simp; done) | (go_simp; rfl)); intro g6 wb6 hsb6; have hcb6_0 : wb6.cell? ⟨g6, 0, none⟩ = some (.int .i64 (m : Int)) := ((hsb6).cell 0).trans rfl; have hSb6 := Aside0.mk hsb6; clear hsb6) | ((with_reducible refine gate_dst (N := 7) rfl ?_); refine Sep.box_event ?hg (N := 7) ?hd (cs := #[.bool true]) (t := 4) hSb6.out ?hr ?_; (case hd => rfl); (case hg => rfl); (case hr => first | (go_simp; done) | (go_simp; rfl)); intro g7 wb7 hsb7; have hcb7_0 : wb7.cell? ⟨g7, 0, none⟩ = some (.bool true) := ((hsb7).cell 0).trans rfl; have hSb7 := Aside0.mk hsb7; clear hsb7) | ((with_reducible refine gate_callee (f := 15) rfl ?_); refine goesL_ (some 14) rfl rfl Try.func15 (by kernel_rfl) rfl #[] rfl (by (try simp only [List.map_toArray, List.map_cons, List.map_nil]); first | done | rfl) ?_; (with_reducible refine (fasciclelaw01_lives.calls true _ rfl).mono ?_); rintro e w1 ⟨rfl, h1⟩; refine ⟨_, rfl, ?_⟩; have hS1 := Aside0.mk (hSb7.out.below h1); have hq := hS1.out; have hc5_0 : w1.cell? ⟨g5, 0, none⟩ = some (.slice A1 l1.length c1) := ((hq.pick2).cell 0).trans rfl; clear h1 hq))
      have hS3 := (hS1.out.alloc #[.bool false] 4).alloc #[.int .i64 0] 24
      rw [hsz] at hS3
      have hS4 : Sep.Sep w _ (np g5 g7 g6 (w1.heap.size + 1) w1.heap.size A1 c1 l1 true (m : Int) 0 false ++ []) := hS3.pick4.perm (List.Perm.cons _ (List.perm_append_comm (l₁ := [_, _]) (l₂ := [_, _])))
      refine (run_calls3 w _ A0 c0 l0 17 #[.pointer (some ⟨g5, 0, none⟩), .pointer (some ⟨g7, 0, none⟩), .pointer (some ⟨g6, 0, none⟩), .pointer (some ⟨w1.heap.size + 1, 0, none⟩), .pointer (some ⟨w1.heap.size, 0, none⟩)] _ []
        (fun g at2 x qs => at2 = 0 ∧ x = 0 ∧ qs = np g5 g7 g6 (w1.heap.size + 1) w1.heap.size A1 c1 l1 true (m : Int) 0 true)
        hent hS4 (Kd.C_below HR0.out hS4.1) hc0 (by omega) (fun w2 g ps' h2 => (clos_nests w w2 g g5 g7 g6 (w1.heap.size + 1) w1.heap.size l0 l1 A1 c1 true (m : Int) ps' h2 HR1.out hc1 (by omega) (by omega)).mono ?_)).mono ?_
      · intro e w3 h3
        unfold nestpost at h3
        rw [if_pos rfl, htA.out] at h3
        exact ⟨0, 0, _, ⟨rfl, rfl, rfl⟩, h3.2, .inl ⟨h3.1, rfl⟩⟩
      rintro e w3 ⟨g, at2, x, qs, ⟨hat, rfl, rfl⟩, rfl, h3⟩
      replace hat := hat.symm
      subst hat
      have h3 := h3.tail
      have hf5_0 : w3.cell? ⟨g5, 0, none⟩ = some (.slice A1 l1.length c1) := ((h3).cell 0).trans rfl
      have hf7_0 : w3.cell? ⟨g7, 0, none⟩ = some (.bool true) := ((h3.pick1).cell 0).trans rfl
      have hf6_0 : w3.cell? ⟨g6, 0, none⟩ = some (.int .i64 (m : Int)) := ((h3.pick2).cell 0).trans rfl
      have hfi_0 : w3.cell? ⟨(w1.heap.size + 1), 0, none⟩ = some (.int .i64 0) := ((h3.pick3).cell 0).trans rfl
      have hfb_0 : w3.cell? ⟨w1.heap.size, 0, none⟩ = some (.bool true) := ((h3.pick4).cell 0).trans rfl
      have h3A := Aside0.mk h3
      clear h3 hS3 hS4
      go_wp2
      go_ret
      exact ⟨by first | rfl | simp, h3A.out.1⟩
    · have hd : decide (a2 > (l1.length : Int)) = true := decide_eq_true (by omega)
      have hz : (0 < a2) = True := eq_true (by omega)
      have htA := Aside0.mk ht
      clear ht
      go_enter Try.func3, Try.ntmps3
      go_wp2_with (first | ((with_reducible refine gate_dst (N := 5) rfl ?_); refine Sep.box_event ?hg (N := 5) ?hd (cs := #[.slice A1 l1.length c1]) (t := 22) hS.out ?hr ?_; (case hd => rfl); (case hg => rfl); (case hr => first | (go_simp; done) | (go_simp; rfl)); intro g5 wb5 hsb5; have hcb5_0 : wb5.cell? ⟨g5, 0, none⟩ = some (.slice A1 l1.length c1) := ((hsb5).cell 0).trans rfl; have hSb5 := Aside0.mk hsb5; clear hsb5) | ((with_reducible refine gate_dst (N := 6) rfl ?_); refine Sep.box_event ?hg (N := 6) ?hd (cs := #[.int .i64 a2]) (t := 3) hSb5.out ?hr ?_; (case hd => rfl); (case hg => rfl); (case hr => first | (go_simp; done) | (go_simp; rfl)); intro g6 wb6 hsb6; have hcb6_0 : wb6.cell? ⟨g6, 0, none⟩ = some (.int .i64 a2) := ((hsb6).cell 0).trans rfl; have hSb6 := Aside0.mk hsb6; clear hsb6) | ((with_reducible refine gate_dst (N := 7) rfl ?_); refine Sep.box_event ?hg (N := 7) ?hd (cs := #[.bool true]) (t := 4) hSb6.out ?hr ?_; (case hd => rfl); (case hg => rfl); (case hr => first | (go_simp; done) | (go_simp; rfl)); intro g7 wb7 hsb7; have hcb7_0 : wb7.cell? ⟨g7, 0, none⟩ = some (.bool true) := ((hsb7).cell 0).trans rfl; have hSb7 := Aside0.mk hsb7; clear hsb7) | ((with_reducible refine gate_callee (f := 15) rfl ?_); refine goesL_ (some 14) rfl rfl Try.func15 (by kernel_rfl) rfl #[] rfl (by (try simp only [List.map_toArray, List.map_cons, List.map_nil]); first | done | rfl) ?_; (with_reducible refine (fasciclelaw01_lives.calls true _ rfl).mono ?_); rintro e w1 ⟨rfl, h1⟩; refine ⟨_, rfl, ?_⟩; have hS1 := Aside0.mk (hSb7.out.below h1); have hq := hS1.out; have hc5_0 : w1.cell? ⟨g5, 0, none⟩ = some (.slice A1 l1.length c1) := ((hq.pick2).cell 0).trans rfl; clear h1 hq))
      have hS3 := (hS1.out.alloc #[.bool false] 4).alloc #[.int .i64 0] 24
      rw [hsz] at hS3
      have hS4 : Sep.Sep w _ (np g5 g7 g6 (w1.heap.size + 1) w1.heap.size A1 c1 l1 true a2 0 false ++ []) := hS3.pick4.perm (List.Perm.cons _ (List.perm_append_comm (l₁ := [_, _]) (l₂ := [_, _])))
      refine (run_calls3 w _ A0 c0 l0 17 #[.pointer (some ⟨g5, 0, none⟩), .pointer (some ⟨g7, 0, none⟩), .pointer (some ⟨g6, 0, none⟩), .pointer (some ⟨w1.heap.size + 1, 0, none⟩), .pointer (some ⟨w1.heap.size, 0, none⟩)] _ []
        (fun g at2 x qs => at2 = 0 ∧ x = 0 ∧ qs = np g5 g7 g6 (w1.heap.size + 1) w1.heap.size A1 c1 l1 true a2 2 true)
        hent hS4 (Kd.C_below HR0.out hS4.1) hc0 (by omega) (fun w2 g ps' h2 => (clos_nests w w2 g g5 g7 g6 (w1.heap.size + 1) w1.heap.size l0 l1 A1 c1 true a2 ps' h2 HR1.out hc1 (by omega) (by omega)).mono ?_)).mono ?_
      · intro e w3 h3
        unfold nestpost at h3
        rw [if_pos rfl, htA.out] at h3
        exact ⟨0, 0, _, ⟨rfl, rfl, rfl⟩, h3.2, .inl ⟨h3.1, rfl⟩⟩
      rintro e w3 ⟨g, at2, x, qs, ⟨hat, rfl, rfl⟩, rfl, h3⟩
      replace hat := hat.symm
      subst hat
      have h3 := h3.tail
      have hf5_0 : w3.cell? ⟨g5, 0, none⟩ = some (.slice A1 l1.length c1) := ((h3).cell 0).trans rfl
      have hf7_0 : w3.cell? ⟨g7, 0, none⟩ = some (.bool true) := ((h3.pick1).cell 0).trans rfl
      have hf6_0 : w3.cell? ⟨g6, 0, none⟩ = some (.int .i64 a2) := ((h3.pick2).cell 0).trans rfl
      have hfi_0 : w3.cell? ⟨(w1.heap.size + 1), 0, none⟩ = some (.int .i64 2) := ((h3.pick3).cell 0).trans rfl
      have hfb_0 : w3.cell? ⟨w1.heap.size, 0, none⟩ = some (.bool true) := ((h3.pick4).cell 0).trans rfl
      have h3A := Aside0.mk h3
      clear h3 hS3 hS4
      go_wp2
      go_ret
      exact ⟨by first | rfl | simp, h3A.out.1⟩

end Go.Proofs.Ytmlodmpkcbncjaa.G
