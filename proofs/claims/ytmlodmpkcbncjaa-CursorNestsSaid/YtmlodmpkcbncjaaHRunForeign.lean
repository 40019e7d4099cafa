/- cursor.Run: a reading within a reading that the outer one's fault stops. -/
import Derived.Test.YtmlodmpkcbncjaaHRunOther
set_option linter.unusedVariables false
set_option linter.unusedSimpArgs false
namespace Go.Proofs.Ytmlodmpkcbncjaa.Sep
open Go Go.RowKit Go.Proofs.YtmlodmpkcbncjaaW.PrintWords Go.Proofs.YtmlodmpkcbncjaaW.PrintLast Go.Proofs.YtmlodmpkcbncjaaW.PrintMore Go.Proofs.Ytmlodmpkcbncjaa.PureKit

theorem Sep.blk_ne {w0 w : World} {g g2 : Nat} {p q : Array Value} {T U : TypeId} {ps : List HP} (h : Sep w0 w (blk g p T :: blk g2 q U :: ps)) : g2 ≠ g ∧ g ≠ g2 := by
  obtain ⟨hb, bs, ⟨b1, b2, e, ⟨e1, hp⟩, b3, b4, e2, ⟨e3, hq⟩, hs⟩, hn, hr⟩ := h
  subst e e1 e2 e3
  simp at hn
  exact ⟨fun e => hn.1.1 e.symm, fun e => hn.1.1 e⟩

set_option maxHeartbeats 400000 in
set_option maxRecDepth 100000 in
theorem run_foreign (w0 w : World) (A : Option Addr) (c : Nat) (l : List Int) (fid : FuncId) (caps : Array Value) (R ps : List HP) 
    (hent : ∀ (args : Array Value) (w : World), (callFunc fid args).run Try.prog w = .ok (.enter fid args) w)
    (g2 a2 a3 : Nat) (l2 : List Int) (x : Int)
    (hs : Sep w0 w (cur g2 l2 a2 true :: (R ++ ps))) (hr : Kd.C (Kd.int .u8) w A l.length l) (hc : l.length ≤ c) (hl : l.length ≤ 1000000000000)
    (hcl : ∀ (w1 : World) (g : Nat) (ps' : List HP), Sep w0 w1 (cur g l 0 true :: cur g2 l2 a2 true :: (R ++ ps')) → Calls Try.prog fid (#[.pointer (some ⟨g, 0, none⟩)] ++ caps) w1 fun e w2 =>
      e = .panicked [fault g2 x] ∧ Sep w0 w2 (cur g l 0 true :: cur g2 l2 a3 true :: (R ++ ps'))) :
    Calls Try.prog 16 #[.slice A l.length c, .func (.func fid) #[] caps] w fun e w' =>
      e = .panicked [fault g2 x, { v := (fault g2 x).v, recovered := true }] ∧ Sep w0 w' (cur g2 l2 a3 true :: (R ++ ps)) := by
  have hmf : ∀ (fn : Fn) (first cap : Array Value) (w : World), (Instr.makeFunc fn first cap).run Try.prog w = .ok (.func fn first cap) w := fun _ _ _ _ => rfl
  have hnf : ∀ (W : World), (binOp .eql 29 (.func (.func fid) #[] caps) .nilFunc).run Try.prog W = .ok (.bool false) W := fun _ => by rfl
  have hS := Aside0.mk hs
  have hR := Aside0.mk hr
  have hCL := Aside0.mk hcl
  have hB := Aside0.mk hs.1
  have hsz : ∀ (W : World) (o : Obj), (W.alloc o).heap.size = W.heap.size + 1 := fun W o => by show (W.heap.push _).size = _; simp
  have hS2 := (hs.alloc #[.int .i64 0] 3).alloc #[.int .i64 0] 24
  rw [hsz] at hS2
  have hS2 := Aside0.mk hS2
  clear hs hr hcl
  go_enter_defers Try.func16, Try.ntmps16
  go_wp2_with (first | ((with_reducible refine gate_callee (f := 58) rfl ?_); refine goesL_ (some 10) rfl rfl Try.func58 (by kernel_rfl) rfl #[.slice A l.length c] rfl (by (try simp only [List.map_toArray, List.map_cons, List.map_nil]); first | done | rfl) ?_; (refine (G.bytes_Clone.calls A c l l _ (Kd.C_alloc (Kd.C_alloc hR.out _) _) hc (by unfold G.bytes_Clone.f; exact if_pos (by omega)) rfl).mono ?_); rintro e w1 ⟨v1, rfl, ho, hb⟩; refine ⟨_, rfl, ?_⟩; have hS3 := Aside0.mk (Sep.row_new hS2.out hb ho); obtain ⟨A1, c1, e1⟩ := Kd.R_slice ho; subst e1; clear ho hb))
  have hS4 := (hS3.out.alloc #[.slice A1 l.length c1, .int .i64 0, .bool true] 99).alloc #[.pointer (some ⟨w1.heap.size, 0, none⟩)] 27
  rw [hsz] at hS4
  have hS5 := Sep.cur_close (at_ := 0) (live := true) hS4.put2
  have hS6 : Sep w0 _ (cur w1.heap.size l 0 true :: cur g2 l2 a2 true :: (R ++ (blk (w1.heap.size + 1) #[.pointer (some ⟨w1.heap.size, 0, none⟩)] 27 :: blk (w.heap.size + 1) #[.int .i64 0] 24 :: blk w.heap.size #[.int .i64 0] 3 :: ps))) := hS5.perm (List.Perm.cons _ (List.perm_append_comm_assoc [_, _, _] (cur g2 l2 a2 true :: R) ps))
  clear hS4 hS5
  refine (hCL.out _ w1.heap.size _ hS6).mono ?_
  clear hS6 hS3
  rintro e w2 ⟨rfl, h2⟩
  have h3 : Sep w0 w2 (cur w1.heap.size l 0 true :: blk (w1.heap.size + 1) #[.pointer (some ⟨w1.heap.size, 0, none⟩)] 27 :: blk w.heap.size #[.int .i64 0] 3 :: blk (w.heap.size + 1) #[.int .i64 0] 24 :: cur g2 l2 a3 true :: (R ++ ps)) :=
    (h2.perm (List.Perm.cons _ (List.perm_append_comm_assoc (cur g2 l2 a3 true :: R) [_, _, _] ps))).perm (List.Perm.cons _ (List.Perm.cons _ (List.Perm.swap _ _ _)))
  clear h2 hS hR hCL hB hS2 hc
  have hgne : g2 ≠ w1.heap.size := by
    obtain ⟨A4, c4, hN1⟩ := Sep.cur_open h3
    have hN2 := hN1.pick5
    obtain ⟨A5, c5, hN3⟩ := Sep.cur_open hN2
    exact (Sep.blk_ne (hN3.pick2)).1
  have h3 := Aside0.mk h3
  show Leaves _ _ _ _ _ _ _
  refine leaves_cons (f := 59) (args := _) (by simp) (by rfl) ?_
  refine (run_catch_other w0 _ (w1.heap.size + 1) w.heap.size (w.heap.size + 1) w1.heap.size 0 0 0 x [] l g2 a3 l2 true _ hgne h3.out).mono ?_
  rintro e u' w4 ⟨rfl, rfl, h5⟩
  show Leaves _ _ _ _ [] (.panicking [fault g2 x, { v := (fault g2 x).v, recovered := true }]) w4
  exact ⟨rfl, h5.tail.tail.tail.tail⟩

end Go.Proofs.Ytmlodmpkcbncjaa.Sep
