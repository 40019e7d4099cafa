/- cursor.Run: a reading. -/
import Derived.Test.YtlakjninlpiedaaHCurByte
import Derived.Defers
import Derived.Recover
import Derived.Laws.Pointers
import Derived.LaidEqlPtr
set_option linter.unusedVariables false
set_option linter.unusedSimpArgs false
namespace Go.Proofs.Ytlakjninlpiedaa.Sep
open Go Go.RowKit Go.Proofs.YtlakjninlpiedaaW.PrintWords Go.Proofs.YtlakjninlpiedaaW.PrintLast Go.Proofs.YtlakjninlpiedaaW.PrintMore Go.Proofs.Ytlakjninlpiedaa.PureKit

theorem run_neq_ptr_same {P : Program} (w : World) {tp te : TypeId} {j : TypeInfo} (a : Addr) (hp : P.underlying tp = some (.pointer te)) (hte : P.info? te = some j) :
    (binOp .neq tp (.pointer (some a)) (.pointer (some a))).run P w = .ok (.bool false) w := by
  have h : ∀ d : Nat, (Op.equalIn (d + 1) tp (.pointer (some a)) (.pointer (some a))).run P w = .ok true w := fun d => by
    simp [Op.equalIn, run_underlying hp, sizeOf, typeInfo, hte, run_sameAddr_same]
  simp only [binOp]
  simp [Op.equal, Op.maxDepth, h 9999]

set_option maxHeartbeats 400000 in
set_option maxRecDepth 100000 in
theorem run_catch_idle (w0 w : World) (gc ga ge g at_ : Nat) (a0 e0 : Int) (l : List Int) (ps : List HP)
    (hs : Sep w0 w (cur g l at_ true :: blk gc #[.pointer (some ⟨g, 0, none⟩)] 79 :: blk ga #[.int .i64 a0] 3 :: blk ge #[.int .i64 e0] 27 :: ps)) :
    CallsD Try.prog 87 #[.pointer (some ⟨gc, 0, none⟩), .pointer (some ⟨ga, 0, none⟩), .pointer (some ⟨ge, 0, none⟩)] .returning w fun e u' w' =>
      e = .returned (.tuple #[]) ∧ u' = .returning ∧ Sep w0 w' (cur g l at_ false :: blk gc #[.pointer (some ⟨g, 0, none⟩)] 79 :: blk ga #[.int .i64 at_] 3 :: blk ge #[.int .i64 e0] 27 :: ps) := by
  have hS := Aside0.mk hs
  have h2 := hs.perm (List.Perm.swap _ _ _)
  have hcc : w.cell? ⟨gc, 0, none⟩ = some (.pointer (some ⟨g, 0, none⟩)) := (h2.cell 0).trans rfl
  obtain ⟨A, c, hO⟩ := Sep.cur_open hs
  have hc2 : w.cell? ⟨g, 2, none⟩ = some (.bool true) := (hO.cell 2).trans rfl
  have hz2 := hO.frozen 2
  have hO := Aside0.mk hO
  clear h2 hs
  refine callsD_of_wpS Try.func87 rfl fun c₀ cs hu => ?_
  apply wpS_seq
  refine wpS_of_wp ?_
  rw [show ∀ (x y z : Value), #[x, y, z] ++ Array.replicate (Try.f87.ntmps - #[x, y, z].size) undef = #[x, y, z, undef, undef, undef, undef, undef, undef, undef, undef, undef, undef, undef, undef, undef, undef, undef, undef, undef, undef, undef, undef, undef, undef, undef, undef] from fun x y z => by kernel_rfl]
  go_wp2
  simp only [Exit.thenS]
  have hS1 : Sep w0 (w.setCell ⟨g, 2, none⟩ (.bool false)) (cur g l at_ false :: blk gc #[.pointer (some ⟨g, 0, none⟩)] 79 :: blk ga #[.int .i64 a0] 3 :: blk ge #[.int .i64 e0] 27 :: ps) := by
    refine Sep.cur_close (A := A) (c := c) ?_
    have := hO.out.set 2 (.bool false)
    simpa using this
  clear hcc hc2 hz2 hO
  generalize w.setCell ⟨g, 2, none⟩ (.bool false) = w1 at hS1 ⊢
  have hcc : w1.cell? ⟨gc, 0, none⟩ = some (.pointer (some ⟨g, 0, none⟩)) := ((hS1.perm (List.Perm.swap _ _ _)).cell 0).trans rfl
  obtain ⟨A, c, hO⟩ := Sep.cur_open hS1
  have hc1 : w1.cell? ⟨g, 1, none⟩ = some (.int .i64 at_) := (hO.cell 1).trans rfl
  have hga := hS1.perm ((List.Perm.cons _ (List.Perm.swap _ _ _)).trans (List.Perm.swap _ _ _))
  have hca : w1.cell? ⟨ga, 0, none⟩ = some (.int .i64 a0) := (hga.cell 0).trans rfl
  have hza := hga.frozen 0
  have hga := Aside0.mk hga
  clear hO
  apply wpS_seq
  refine wpS_of_wp ?_
  go_wp2
  simp only [Exit.thenS]
  have hS2 : Sep w0 (w1.setCell ⟨ga, 0, none⟩ (.int .i64 at_)) (cur g l at_ false :: blk gc #[.pointer (some ⟨g, 0, none⟩)] 79 :: blk ga #[.int .i64 at_] 3 :: blk ge #[.int .i64 e0] 27 :: ps) := by
    have := hga.out.set 0 (.int .i64 at_)
    have := this.perm ((List.Perm.swap _ _ _).trans (List.Perm.cons _ (List.Perm.swap _ _ _)))
    simpa using this
  clear hcc hc1 hca hza hga
  generalize w1.setCell ⟨ga, 0, none⟩ (.int .i64 at_) = w2 at hS2 ⊢
  have hS2 := Aside0.mk hS2
  apply wpS_seq
  apply wpS_region
  simp [wpOpsS, go_sem, recoverD, hu, Exit.thenS]
  refine wpS_of_wp ?_
  go_wp2
  have hS3 := hS2.out
  clear hS2 hS
  generalize hps : (cur g l at_ false :: blk gc #[.pointer (some ⟨g, 0, none⟩)] 79 :: blk ga #[.int .i64 at_] 3 :: blk ge #[.int .i64 e0] 27 :: ps) = qs at hS3 ⊢
  clear hps
  cases c₀
  simp_all [bodyPostS, results, Try.results87]

set_option maxHeartbeats 400000 in
set_option maxRecDepth 100000 in
theorem run_catch_fault (w0 w : World) (gc ga ge g at_ : Nat) (a0 e0 x : Int) (older : List PanicEntry) (l : List Int) (ps : List HP)
    (hs : Sep w0 w (cur g l at_ true :: blk gc #[.pointer (some ⟨g, 0, none⟩)] 79 :: blk ga #[.int .i64 a0] 3 :: blk ge #[.int .i64 e0] 27 :: ps)) :
    CallsD Try.prog 87 #[.pointer (some ⟨gc, 0, none⟩), .pointer (some ⟨ga, 0, none⟩), .pointer (some ⟨ge, 0, none⟩)] (.panicking (fault g x :: older)) w fun e u' w' =>
      e = .returned (.tuple #[]) ∧ u' = .panicking ({ v := (fault g x).v, recovered := true } :: older) ∧ Sep w0 w' (cur g l at_ false :: blk gc #[.pointer (some ⟨g, 0, none⟩)] 79 :: blk ga #[.int .i64 at_] 3 :: blk ge #[.int .i64 x] 27 :: ps) := by
  have hS := Aside0.mk hs
  have h2 := hs.perm (List.Perm.swap _ _ _)
  have hcc : w.cell? ⟨gc, 0, none⟩ = some (.pointer (some ⟨g, 0, none⟩)) := (h2.cell 0).trans rfl
  obtain ⟨A, c, hO⟩ := Sep.cur_open hs
  have hc2 : w.cell? ⟨g, 2, none⟩ = some (.bool true) := (hO.cell 2).trans rfl
  have hz2 := hO.frozen 2
  have hO := Aside0.mk hO
  clear h2 hs
  refine callsD_of_wpS Try.func87 rfl fun c₀ cs hu => ?_
  apply wpS_seq
  refine wpS_of_wp ?_
  rw [show ∀ (x y z : Value), #[x, y, z] ++ Array.replicate (Try.f87.ntmps - #[x, y, z].size) undef = #[x, y, z, undef, undef, undef, undef, undef, undef, undef, undef, undef, undef, undef, undef, undef, undef, undef, undef, undef, undef, undef, undef, undef, undef, undef, undef] from fun x y z => by kernel_rfl]
  go_wp2
  simp only [Exit.thenS]
  have hS1 : Sep w0 (w.setCell ⟨g, 2, none⟩ (.bool false)) (cur g l at_ false :: blk gc #[.pointer (some ⟨g, 0, none⟩)] 79 :: blk ga #[.int .i64 a0] 3 :: blk ge #[.int .i64 e0] 27 :: ps) := by
    refine Sep.cur_close (A := A) (c := c) ?_
    have := hO.out.set 2 (.bool false)
    simpa using this
  clear hcc hc2 hz2 hO
  generalize w.setCell ⟨g, 2, none⟩ (.bool false) = w1 at hS1 ⊢
  have hcc : w1.cell? ⟨gc, 0, none⟩ = some (.pointer (some ⟨g, 0, none⟩)) := ((hS1.perm (List.Perm.swap _ _ _)).cell 0).trans rfl
  obtain ⟨A, c, hO⟩ := Sep.cur_open hS1
  have hc1 : w1.cell? ⟨g, 1, none⟩ = some (.int .i64 at_) := (hO.cell 1).trans rfl
  have hga := hS1.perm ((List.Perm.cons _ (List.Perm.swap _ _ _)).trans (List.Perm.swap _ _ _))
  have hca : w1.cell? ⟨ga, 0, none⟩ = some (.int .i64 a0) := (hga.cell 0).trans rfl
  have hza := hga.frozen 0
  have hga := Aside0.mk hga
  clear hO
  apply wpS_seq
  refine wpS_of_wp ?_
  go_wp2
  simp only [Exit.thenS]
  have hS2 : Sep w0 (w1.setCell ⟨ga, 0, none⟩ (.int .i64 at_)) (cur g l at_ false :: blk gc #[.pointer (some ⟨g, 0, none⟩)] 79 :: blk ga #[.int .i64 at_] 3 :: blk ge #[.int .i64 e0] 27 :: ps) := by
    have := hga.out.set 0 (.int .i64 at_)
    have := this.perm ((List.Perm.swap _ _ _).trans (List.Perm.cons _ (List.Perm.swap _ _ _)))
    simpa using this
  clear hcc hc1 hca hza hga
  generalize w1.setCell ⟨ga, 0, none⟩ (.int .i64 at_) = w2 at hS2 ⊢
  have hS2 := Aside0.mk hS2
  apply wpS_seq
  apply wpS_region
  have hcc : w2.cell? ⟨gc, 0, none⟩ = some (.pointer (some ⟨g, 0, none⟩)) := ((hS2.out.perm (List.Perm.swap _ _ _)).cell 0).trans rfl
  simp [wpOpsS, go_sem, recoverD, hu, Exit.thenS, fault]
  have hta : ∀ (v : Value) (W : World), (Instr.typeAssert (.iface 118 v) 20 118 true).run Try.prog W = .ok (.tuple #[v, .bool true]) W := fun v W => by rfl
  have hA := hS2.out.alloc #[.pointer (some ⟨g, 0, none⟩), .int .i64 x] 118
  clear hcc
  have hcc : (w2.alloc (.cells #[.pointer (some ⟨g, 0, none⟩), .int .i64 x] 118 (0, 0))).cell? ⟨gc, 0, none⟩ = some (.pointer (some ⟨g, 0, none⟩)) := ((hA.tail.perm (List.Perm.swap _ _ _)).cell 0).trans rfl
  have hce : (w2.alloc (.cells #[.pointer (some ⟨g, 0, none⟩), .int .i64 x] 118 (0, 0))).cell? ⟨ge, 0, none⟩ = some (.int .i64 e0) := (hA.tail.tail.tail.tail.cell 0).trans rfl
  have hze := hA.tail.tail.tail.tail.frozen 0
  have hE := Aside0.mk ((hA.tail.perm (List.perm_middle (l₁ := [cur g l at_ false, blk gc #[.pointer (some ⟨g, 0, none⟩)] 79, blk ga #[.int .i64 at_] 3]) (a := blk ge #[.int .i64 e0] 27) (l₂ := ps))).set 0 (.int .i64 x))
  clear hA
  obtain ⟨j_, hj_⟩ : ∃ j, Try.prog.info? 116 = some j := Option.isSome_iff_exists.mp (by kernel_rfl)
  have hne := fun W => run_neq_ptr_same (P := Try.prog) W ⟨g, 0, none⟩ Try.underlying79 hj_
  refine wpS_of_wp ?_
  go_wp2
  have hS3 : Sep w0 ((w2.alloc (.cells #[.pointer (some ⟨g, 0, none⟩), .int .i64 x] 118 (0, 0))).setCell ⟨ge, 0, none⟩ (.int .i64 x)) (cur g l at_ false :: blk gc #[.pointer (some ⟨g, 0, none⟩)] 79 :: blk ga #[.int .i64 at_] 3 :: blk ge #[.int .i64 x] 27 :: ps) := by
    have h9 : Sep w0 _ (blk ge #[.int .i64 x] 27 :: ([cur g l at_ false, blk gc #[.pointer (some ⟨g, 0, none⟩)] 79, blk ga #[.int .i64 at_] 3] ++ ps)) := hE.out
    exact h9.perm (List.perm_middle (l₁ := [cur g l at_ false, blk gc #[.pointer (some ⟨g, 0, none⟩)] 79, blk ga #[.int .i64 at_] 3]) (a := blk ge #[.int .i64 x] 27) (l₂ := ps)).symm
  clear hE hS2 hS hcc hce hze hne hta
  generalize (cur g l at_ false :: blk gc #[.pointer (some ⟨g, 0, none⟩)] 79 :: blk ga #[.int .i64 at_] 3 :: blk ge #[.int .i64 x] 27 :: ps) = qs at hS3 ⊢
  generalize (w2.alloc (.cells #[.pointer (some ⟨g, 0, none⟩), .int .i64 x] 118 (0, 0))).setCell ⟨ge, 0, none⟩ (.int .i64 x) = w3 at hS3 ⊢
  cases c₀
  simp_all [bodyPostS, results, Try.results87]

end Go.Proofs.Ytlakjninlpiedaa.Sep
