/- cursor.Run: a reading that an elder reading's fault passes through. -/
import Derived.Test.YtmlodmpkcbncjaaHRun3
set_option linter.unusedVariables false
set_option linter.unusedSimpArgs false
namespace Go.Proofs.Ytmlodmpkcbncjaa.Sep
open Go Go.RowKit Go.Proofs.YtmlodmpkcbncjaaW.PrintWords Go.Proofs.YtmlodmpkcbncjaaW.PrintLast Go.Proofs.YtmlodmpkcbncjaaW.PrintMore Go.Proofs.Ytmlodmpkcbncjaa.PureKit

theorem run_neq_ptr_other {P : Program} {w : World} {tp te : TypeId} {j : TypeInfo} {a b : Addr} {ca cb : Array Value} {ta tb : TypeId} (hp : P.underlying tp = some (.pointer te)) (hte : P.info? te = some j) (hjs : j.size ≠ 0) (hne : a ≠ b) (ha : w.heap[a.block]? = some (.cells ca ta (0, 0))) (hb : w.heap[b.block]? = some (.cells cb tb (0, 0))) :
    (binOp .neq tp (.pointer (some a)) (.pointer (some b))).run P w = .ok (.bool true) w := by
  have h : ∀ d : Nat, (Op.equalIn (d + 1) tp (.pointer (some a)) (.pointer (some b))).run P w = .ok false w := fun d => by
    simp [Op.equalIn, run_underlying hp, sizeOf, typeInfo, hte, hjs]
    exact run_sameAddr_other w hne ha hb
  simp only [binOp]
  simp [Op.equal, Op.maxDepth, h 9999]

set_option maxHeartbeats 400000 in
set_option maxRecDepth 100000 in
theorem run_catch_other (w0 w : World) (gc ga ge g at_ : Nat) (a0 e0 x : Int) (older : List PanicEntry) (l : List Int) (g2 a2 : Nat) (l2 : List Int) (live2 : Bool) (ps : List HP) (hne : g2 ≠ g)
    (hs : Sep w0 w (cur g l at_ true :: blk gc #[.pointer (some ⟨g, 0, none⟩)] 27 :: blk ga #[.int .i64 a0] 3 :: blk ge #[.int .i64 e0] 24 :: cur g2 l2 a2 live2 :: ps)) :
    CallsD Try.prog 59 #[.pointer (some ⟨gc, 0, none⟩), .pointer (some ⟨ga, 0, none⟩), .pointer (some ⟨ge, 0, none⟩)] (.panicking (fault g2 x :: older)) w fun e u' w' =>
      e = .panicked [fault g2 x] ∧ u' = .panicking ({ v := (fault g2 x).v, recovered := true } :: older) ∧ Sep w0 w' (cur g l at_ false :: blk gc #[.pointer (some ⟨g, 0, none⟩)] 27 :: blk ga #[.int .i64 at_] 3 :: blk ge #[.int .i64 e0] 24 :: cur g2 l2 a2 live2 :: ps) := by
  have hS := Aside0.mk hs
  have h2 := hs.perm (List.Perm.swap _ _ _)
  have hcc : w.cell? ⟨gc, 0, none⟩ = some (.pointer (some ⟨g, 0, none⟩)) := (h2.cell 0).trans rfl
  obtain ⟨A, c, hO⟩ := Sep.cur_open hs
  have hc2 : w.cell? ⟨g, 2, none⟩ = some (.bool true) := (hO.cell 2).trans rfl
  have hz2 := hO.frozen 2
  have hO := Aside0.mk hO
  clear h2 hs
  refine callsD_of_wpS Try.func59 rfl fun c₀ cs hu => ?_
  apply wpS_seq
  refine wpS_of_wp ?_
  rw [show ∀ (x y z : Value), #[x, y, z] ++ Array.replicate (Try.f59.ntmps - #[x, y, z].size) undef = #[x, y, z, undef, undef, undef, undef, undef, undef, undef, undef, undef, undef, undef, undef, undef, undef, undef, undef, undef, undef, undef, undef, undef, undef, undef, undef] from fun x y z => by kernel_rfl]
  go_wp2
  simp only [Exit.thenS]
  have hS1 : Sep w0 (w.setCell ⟨g, 2, none⟩ (.bool false)) (cur g l at_ false :: blk gc #[.pointer (some ⟨g, 0, none⟩)] 27 :: blk ga #[.int .i64 a0] 3 :: blk ge #[.int .i64 e0] 24 :: cur g2 l2 a2 live2 :: ps) := by
    refine Sep.cur_close (A := A) (c := c) ?_
    have := hO.out.set 2 (.bool false)
    simpa using this
  clear hcc hc2 hz2 hO
  generalize w.setCell ⟨g, 2, none⟩ (.bool false) = w1 at hS1 ⊢
  have hcc : w1.cell? ⟨gc, 0, none⟩ = some (.pointer (some ⟨g, 0, none⟩)) := ((hS1.perm (List.Perm.swap _ _ _)).cell 0).trans rfl
  obtain ⟨A, c, hO⟩ := Sep.cur_open hS1
  have hc1 : w1.cell? ⟨g, 1, none⟩ = some (.int .i64 at_) := (hO.cell 1).trans rfl
  have hga := hS1.perm ((List.Perm.cons _ (List.Perm.swap _ _ _)).trans (List.Perm.swap _ _ _))
  have hca : w1.cell? ⟨ga, 0, none⟩ = some (.int .i64 a0) := (hga.cell 0).trans rfl
  have hza := hga.frozen 0
  have hga := Aside0.mk hga
  clear hO
  apply wpS_seq
  refine wpS_of_wp ?_
  go_wp2
  simp only [Exit.thenS]
  have hS2 : Sep w0 (w1.setCell ⟨ga, 0, none⟩ (.int .i64 at_)) (cur g l at_ false :: blk gc #[.pointer (some ⟨g, 0, none⟩)] 27 :: blk ga #[.int .i64 at_] 3 :: blk ge #[.int .i64 e0] 24 :: cur g2 l2 a2 live2 :: ps) := by
    have := hga.out.set 0 (.int .i64 at_)
    have := this.perm ((List.Perm.swap _ _ _).trans (List.Perm.cons _ (List.Perm.swap _ _ _)))
    simpa using this
  clear hcc hc1 hca hza hga
  generalize w1.setCell ⟨ga, 0, none⟩ (.int .i64 at_) = w2 at hS2 ⊢
  have hS2 := Aside0.mk hS2
  apply wpS_seq
  apply wpS_region
  have hcc : w2.cell? ⟨gc, 0, none⟩ = some (.pointer (some ⟨g, 0, none⟩)) := ((hS2.out.perm (List.Perm.swap _ _ _)).cell 0).trans rfl
  simp [wpOpsS, go_sem, recoverD, hu, Exit.thenS, fault]
  have hta : ∀ (v : Value) (W : World), (Instr.typeAssert (.iface 101 v) 20 101 true).run Try.prog W = .ok (.tuple #[v, .bool true]) W := fun v W => by rfl
  have hA := hS2.out.alloc #[.pointer (some ⟨g2, 0, none⟩), .int .i64 x] 101
  clear hcc
  have hcc : (w2.alloc (.cells #[.pointer (some ⟨g2, 0, none⟩), .int .i64 x] 101 (0, 0))).cell? ⟨gc, 0, none⟩ = some (.pointer (some ⟨g, 0, none⟩)) := ((hA.tail.perm (List.Perm.swap _ _ _)).cell 0).trans rfl
  have hce : (w2.alloc (.cells #[.pointer (some ⟨g2, 0, none⟩), .int .i64 x] 101 (0, 0))).cell? ⟨ge, 0, none⟩ = some (.int .i64 e0) := (hA.tail.tail.tail.tail.cell 0).trans rfl
  have hze := hA.tail.tail.tail.tail.frozen 0
  have hN := hA.tail
  obtain ⟨A4, c4, hN1⟩ := Sep.cur_open hN
  have hg1 := hN1.blk_at.1
  obtain ⟨A5, c5, hN2⟩ := Sep.cur_open hN.pick4
  have hg2 := hN2.blk_at.1
  obtain ⟨j_, hj_, hjs⟩ := Option.map_eq_some_iff.1 (show (Try.prog.info? 99).map (fun i => i.size) = some 3 by kernel_rfl)
  have hneq := run_neq_ptr_other (P := Try.prog) (a := ⟨g2, 0, none⟩) (b := ⟨g, 0, none⟩) Try.underlying27 hj_ (by rw [hjs]; decide) (by simp [hne]) hg2 hg1
  have hN := Aside0.mk hN
  clear hA hg1 hg2 hN1 hN2
  refine wpS_of_wp ?_
  go_wp2
  clear hneq hS hS2
  cases c₀
  simp only at hu
  subst hu
  exact ⟨rfl, _, rfl, rfl, rfl, hN.out⟩

end Go.Proofs.Ytmlodmpkcbncjaa.Sep
