/- cursor.Run: the reading itself. -/
import Derived.Test.YtlakjninlpiedaaHRun
set_option linter.unusedVariables false
set_option linter.unusedSimpArgs false
namespace Go.Proofs.Ytlakjninlpiedaa.Sep
open Go Go.RowKit Go.Proofs.YtlakjninlpiedaaW.PrintWords Go.Proofs.YtlakjninlpiedaaW.PrintLast Go.Proofs.YtlakjninlpiedaaW.PrintMore Go.Proofs.Ytlakjninlpiedaa.PureKit

set_option maxHeartbeats 400000 in
set_option maxRecDepth 100000 in
theorem run_calls (w0 w : World) (A : Option Addr) (c : Nat) (l : List Int) (fid : FuncId) (caps : Array Value) (R ps : List HP) (Q : Nat → Int → List HP → Prop)
    (hent : ∀ (args : Array Value) (w : World), (callFunc fid args).run Try.prog w = .ok (.enter fid args) w)
    (hs : Sep w0 w (R ++ ps)) (hr : Kd.C (Kd.int .u8) w A l.length l) (hc : l.length ≤ c) (hl : l.length ≤ 1000000000000)
    (hcl : ∀ (w1 : World) (g : Nat) (ps' : List HP), Sep w0 w1 (cur g l 0 true :: (R ++ ps')) → Calls Try.prog fid (#[.pointer (some ⟨g, 0, none⟩)] ++ caps) w1 fun e w2 =>
      ∃ (at2 : Nat) (x : Int) (qs : List HP), Q at2 x qs ∧ Sep w0 w2 (cur g l at2 true :: (qs ++ ps')) ∧ ((e = .returned (.tuple #[]) ∧ x = 0) ∨ e = .panicked [fault g x])) :
    Calls Try.prog 58 #[.slice A l.length c, .func (.func fid) #[] caps] w fun e w' =>
      ∃ (at2 : Nat) (x : Int) (qs : List HP), Q at2 x qs ∧ e = .returned (.tuple #[.int .i64 at2, .int .i64 x]) ∧ Sep w0 w' (qs ++ ps) := by
  have hmf : ∀ (fn : Fn) (first cap : Array Value) (w : World), (Instr.makeFunc fn first cap).run Try.prog w = .ok (.func fn first cap) w := fun _ _ _ _ => rfl
  have hnf : ∀ (W : World), (binOp .eql 81 (.func (.func fid) #[] caps) .nilFunc).run Try.prog W = .ok (.bool false) W := fun _ => by rfl
  have hS := Aside0.mk hs
  have hR := Aside0.mk hr
  have hCL := Aside0.mk hcl
  have hB := Aside0.mk hs.1
  have hsz : ∀ (W : World) (o : Obj), (W.alloc o).heap.size = W.heap.size + 1 := fun W o => by show (W.heap.push _).size = _; simp
  have hS2 := (hs.alloc #[.int .i64 0] 3).alloc #[.int .i64 0] 27
  rw [hsz] at hS2
  have hS2 := Aside0.mk hS2
  clear hs hr hcl
  go_enter_defers Try.func58, Try.ntmps58
  go_wp2_with (first | ((with_reducible refine gate_callee (f := 86) rfl ?_); refine goesL_ (some 10) rfl rfl Try.func86 (by kernel_rfl) rfl #[.slice A l.length c] rfl (by (try simp only [List.map_toArray, List.map_cons, List.map_nil]); first | done | rfl) ?_; (refine (G.bytes_Clone.calls A c l l _ (Kd.C_alloc (Kd.C_alloc hR.out _) _) hc (by unfold G.bytes_Clone.f; exact if_pos (by omega)) rfl).mono ?_); rintro e w1 ⟨v1, rfl, ho, hb⟩; refine ⟨_, rfl, ?_⟩; have hS3 := Aside0.mk (Sep.row_new hS2.out hb ho); obtain ⟨A1, c1, e1⟩ := Kd.R_slice ho; subst e1; clear ho hb))
  have hS4 := (hS3.out.alloc #[.slice A1 l.length c1, .int .i64 0, .bool true] 116).alloc #[.pointer (some ⟨w1.heap.size, 0, none⟩)] 79
  rw [hsz] at hS4
  have hS5 := Sep.cur_close (at_ := 0) (live := true) hS4.put2
  have hS6 : Sep w0 _ (cur w1.heap.size l 0 true :: (R ++ (blk (w1.heap.size + 1) #[.pointer (some ⟨w1.heap.size, 0, none⟩)] 79 :: blk (w.heap.size + 1) #[.int .i64 0] 27 :: blk w.heap.size #[.int .i64 0] 3 :: ps))) := hS5.perm (List.Perm.cons _ (List.perm_append_comm_assoc [_, _, _] R ps))
  clear hS4 hS5
  refine (hCL.out _ w1.heap.size _ hS6).mono ?_
  clear hS6 hS3
  rintro e w2 ⟨at2, x, qs, hQ, h2, hor⟩
  have h3 : Sep w0 w2 (cur w1.heap.size l at2 true :: blk (w1.heap.size + 1) #[.pointer (some ⟨w1.heap.size, 0, none⟩)] 79 :: blk w.heap.size #[.int .i64 0] 3 :: blk (w.heap.size + 1) #[.int .i64 0] 27 :: (qs ++ ps)) :=
    (h2.perm (List.Perm.cons _ (List.perm_append_comm_assoc qs [_, _, _] ps))).perm (List.Perm.cons _ (List.Perm.cons _ (List.Perm.swap _ _ _)))
  have hQ := Aside0.mk hQ
  clear h2 hS hR hCL hB hS2 hc
  rcases hor with ⟨rfl, rfl⟩ | rfl
  · obtain ⟨A2, c2, hO⟩ := Sep.cur_open h3
    have hcg : w2.cell? ⟨w1.heap.size + 1, 0, none⟩ = some (.pointer (some ⟨w1.heap.size, 0, none⟩)) := ((h3.pick1).cell 0).trans rfl
    have hc1 : w2.cell? ⟨w1.heap.size, 1, none⟩ = some (.int .i64 at2) := (hO.cell 1).trans rfl
    have hca : w2.cell? ⟨w.heap.size, 0, none⟩ = some (.int .i64 0) := ((h3.pick2).cell 0).trans rfl
    have hza := (h3.pick2).frozen 0
    have hce : w2.cell? ⟨w.heap.size + 1, 0, none⟩ = some (.int .i64 0) := ((h3.pick3).cell 0).trans rfl
    have hze := (h3.pick3).frozen 0
    have h3 := Aside0.mk h3
    clear hO
    go_wp2
    have h4 : Sep w0 ((w2.setCell ⟨w.heap.size, 0, none⟩ (.int .i64 at2)).setCell ⟨w.heap.size + 1, 0, none⟩ (.int .i64 0)) (cur w1.heap.size l at2 true :: blk (w1.heap.size + 1) #[.pointer (some ⟨w1.heap.size, 0, none⟩)] 79 :: blk w.heap.size #[.int .i64 at2] 3 :: blk (w.heap.size + 1) #[.int .i64 0] 27 :: (qs ++ ps)) := by
      have h5 := h3.out.pick2.set 0 (.int .i64 at2)
      have h6 := h5.put2.pick3.set 0 (.int .i64 0)
      have h7 := h6.put3
      simpa using h7
    clear h3 hcg hc1 hca hza hce hze
    generalize ((w2.setCell ⟨w.heap.size, 0, none⟩ (.int .i64 at2)).setCell ⟨w.heap.size + 1, 0, none⟩ (.int .i64 0)) = w3 at h4 ⊢
    show Leaves _ _ _ _ _ _ _
    refine leaves_cons (f := 87) (args := _) (by simp) (by rfl) ?_
    refine (run_catch_idle w0 _ (w1.heap.size + 1) w.heap.size (w.heap.size + 1) w1.heap.size at2 at2 0 l _ h4).mono ?_
    rintro e u' w4 ⟨rfl, rfl, h5⟩
    have hca : w4.cell? ⟨w.heap.size, 0, none⟩ = some (.int .i64 at2) := ((h5.pick2).cell 0).trans rfl
    have hce : w4.cell? ⟨w.heap.size + 1, 0, none⟩ = some (.int .i64 0) := ((h5.pick3).cell 0).trans rfl
    have hout : Sep w0 w4 (qs ++ ps) := h5.tail.tail.tail.tail
    show Leaves _ _ _ _ [] .returning w4
    refine ⟨.tuple #[.int .i64 at2, .int .i64 0], ?_, at2, 0, qs, hQ.out, rfl, hout⟩
    simp [results, Try.results58, asAddr, loadVar, isAgg, underlying, Try.underlying3, Try.underlying27, Result.andThen, hca, hce]
  · have h3 := Aside0.mk h3
    show Leaves _ _ _ _ _ _ _
    refine leaves_cons (f := 87) (args := _) (by simp) (by rfl) ?_
    refine (run_catch_fault w0 _ (w1.heap.size + 1) w.heap.size (w.heap.size + 1) w1.heap.size at2 0 0 x [] l _ h3.out).mono ?_
    rintro e u' w4 ⟨rfl, rfl, h5⟩
    have hca : w4.cell? ⟨w.heap.size, 0, none⟩ = some (.int .i64 at2) := ((h5.pick2).cell 0).trans rfl
    have hce : w4.cell? ⟨w.heap.size + 1, 0, none⟩ = some (.int .i64 x) := ((h5.pick3).cell 0).trans rfl
    have hout : Sep w0 w4 (qs ++ ps) := h5.tail.tail.tail.tail
    show Leaves _ _ _ _ [] .returning w4
    refine ⟨.tuple #[.int .i64 at2, .int .i64 x], ?_, at2, x, qs, hQ.out, rfl, hout⟩
    simp [results, Try.results58, asAddr, loadVar, isAgg, underlying, Try.underlying3, Try.underlying27, Result.andThen, hca, hce]

end Go.Proofs.Ytlakjninlpiedaa.Sep
