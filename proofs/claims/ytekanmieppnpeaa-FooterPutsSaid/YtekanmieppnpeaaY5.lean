/- Texts of a claim, one behind the other (shake.py): what it does not use is left out. -/
import Derived.Test.YtekanmieppnpeaaY4
import Derived.Defers
import Derived.Recover
import Derived.Laws.Pointers
import Derived.LaidEqlPtr
import Derived.RangeFuncBox
import Derived.RangeFuncNested
import Derived.RangeFuncLeaves
import Derived.Shelf.Abstract
import Derived.OwnWalkIn
import Derived.TacticsInMore
import Derived.LoopNIn
import Derived.LoopIn
import Derived.Shelf.RegionOpen
import Derived.Lib.IndexLaws
set_option linter.unusedVariables false
set_option linter.unusedSimpArgs false
section
namespace Go.Proofs.Ytekanmieppnpeaa.Sep
open Go Go.RowKit Go.Proofs.YtekanmieppnpeaaW.PrintWords Go.Proofs.YtekanmieppnpeaaW.PrintLast Go.Proofs.YtekanmieppnpeaaW.PrintMore Go.Proofs.Ytekanmieppnpeaa.PureKit
theorem run_neq_ptr_same {P : Program} (w : World) {tp te : TypeId} {j : TypeInfo} (a : Addr) (hp : P.underlying tp = some (.pointer te)) (hte : P.info? te = some j) :
  (binOp .neq tp (.pointer (some a)) (.pointer (some a))).run P w = .ok (.bool false) w := by
 have h : ∀ d : Nat, (Op.equalIn (d + 1) tp (.pointer (some a)) (.pointer (some a))).run P w = .ok true w := fun d => by
  simp [Op.equalIn, run_underlying hp, sizeOf, typeInfo, hte, run_sameAddr_same]
 simp only [binOp]
 simp [Op.equal, Op.maxDepth, h 9999]
set_option maxHeartbeats 400000 in
set_option maxRecDepth 100000 in
theorem run_catch_idle (w0 w : World) (gc ga ge g at_ : Nat) (a0 e0 : Int) (l : List Int) (ps : List HP)
  (hs : Sep w0 w (cur g l at_ true :: blk gc #[.pointer (some ⟨g, 0, none⟩)] 93 :: blk ga #[.int .i64 a0] 3 :: blk ge #[.int .i64 e0] 36 :: ps)) :
  CallsD Try.prog 112 #[.pointer (some ⟨gc, 0, none⟩), .pointer (some ⟨ga, 0, none⟩), .pointer (some ⟨ge, 0, none⟩)] .returning w fun e u' w' =>
   e = .returned (.tuple #[]) ∧ u' = .returning ∧ Sep w0 w' (cur g l at_ false :: blk gc #[.pointer (some ⟨g, 0, none⟩)] 93 :: blk ga #[.int .i64 at_] 3 :: blk ge #[.int .i64 e0] 36 :: ps) := by
 have hS := Aside0.mk hs
 have h2 := hs.perm (List.Perm.swap _ _ _)
 have hcc : w.cell? ⟨gc, 0, none⟩ = some (.pointer (some ⟨g, 0, none⟩)) := (h2.cell 0).trans rfl
 obtain ⟨A, c, hO⟩ := Sep.cur_open hs
 have hc2 : w.cell? ⟨g, 2, none⟩ = some (.bool true) := (hO.cell 2).trans rfl
 have hz2 := hO.frozen 2
 have hO := Aside0.mk hO
 clear h2 hs
 refine callsD_of_wpS Try.func112 rfl fun c₀ cs hu => ?_
 apply wpS_seq
 refine wpS_of_wp ?_
 rw [show ∀ (x y z : Value), #[x, y, z] ++ Array.replicate (Try.f112.ntmps - #[x, y, z].size) undef = #[x, y, z, undef, undef, undef, undef, undef, undef, undef, undef, undef, undef, undef, undef, undef, undef, undef, undef, undef, undef, undef, undef, undef, undef, undef, undef] from fun x y z => by kernel_rfl]
 go_wp2
 simp only [Exit.thenS]
 have hS1 : Sep w0 (w.setCell ⟨g, 2, none⟩ (.bool false)) (cur g l at_ false :: blk gc #[.pointer (some ⟨g, 0, none⟩)] 93 :: blk ga #[.int .i64 a0] 3 :: blk ge #[.int .i64 e0] 36 :: ps) := by
  refine Sep.cur_close (A := A) (c := c) ?_
  have := hO.out.set 2 (.bool false)
  simpa using this
 clear hcc hc2 hz2 hO
 generalize w.setCell ⟨g, 2, none⟩ (.bool false) = w1 at hS1 ⊢
 have hcc : w1.cell? ⟨gc, 0, none⟩ = some (.pointer (some ⟨g, 0, none⟩)) := ((hS1.perm (List.Perm.swap _ _ _)).cell 0).trans rfl
 obtain ⟨A, c, hO⟩ := Sep.cur_open hS1
 have hc1 : w1.cell? ⟨g, 1, none⟩ = some (.int .i64 at_) := (hO.cell 1).trans rfl
 have hga := hS1.perm ((List.Perm.cons _ (List.Perm.swap _ _ _)).trans (List.Perm.swap _ _ _))
 have hca : w1.cell? ⟨ga, 0, none⟩ = some (.int .i64 a0) := (hga.cell 0).trans rfl
 have hza := hga.frozen 0
 have hga := Aside0.mk hga
 clear hO
 apply wpS_seq
 refine wpS_of_wp ?_
 go_wp2
 simp only [Exit.thenS]
 have hS2 : Sep w0 (w1.setCell ⟨ga, 0, none⟩ (.int .i64 at_)) (cur g l at_ false :: blk gc #[.pointer (some ⟨g, 0, none⟩)] 93 :: blk ga #[.int .i64 at_] 3 :: blk ge #[.int .i64 e0] 36 :: ps) := by
  have := hga.out.set 0 (.int .i64 at_)
  have := this.perm ((List.Perm.swap _ _ _).trans (List.Perm.cons _ (List.Perm.swap _ _ _)))
  simpa using this
 clear hcc hc1 hca hza hga
 generalize w1.setCell ⟨ga, 0, none⟩ (.int .i64 at_) = w2 at hS2 ⊢
 have hS2 := Aside0.mk hS2
 apply wpS_seq
 apply wpS_region
 simp [wpOpsS, go_sem, recoverD, hu, Exit.thenS]
 refine wpS_of_wp ?_
 go_wp2
 have hS3 := hS2.out
 clear hS2 hS
 generalize hps : (cur g l at_ false :: blk gc #[.pointer (some ⟨g, 0, none⟩)] 93 :: blk ga #[.int .i64 at_] 3 :: blk ge #[.int .i64 e0] 36 :: ps) = qs at hS3 ⊢
 clear hps
 cases c₀
 simp_all [bodyPostS, results, Try.results112]
set_option maxHeartbeats 400000 in
set_option maxRecDepth 100000 in
theorem run_catch_fault (w0 w : World) (gc ga ge g at_ : Nat) (a0 e0 x : Int) (older : List PanicEntry) (l : List Int) (ps : List HP)
  (hs : Sep w0 w (cur g l at_ true :: blk gc #[.pointer (some ⟨g, 0, none⟩)] 93 :: blk ga #[.int .i64 a0] 3 :: blk ge #[.int .i64 e0] 36 :: ps)) :
  CallsD Try.prog 112 #[.pointer (some ⟨gc, 0, none⟩), .pointer (some ⟨ga, 0, none⟩), .pointer (some ⟨ge, 0, none⟩)] (.panicking (fault g x :: older)) w fun e u' w' =>
   e = .returned (.tuple #[]) ∧ u' = .panicking ({ v := (fault g x).v, recovered := true } :: older) ∧ Sep w0 w' (cur g l at_ false :: blk gc #[.pointer (some ⟨g, 0, none⟩)] 93 :: blk ga #[.int .i64 at_] 3 :: blk ge #[.int .i64 x] 36 :: ps) := by
 have hS := Aside0.mk hs
 have h2 := hs.perm (List.Perm.swap _ _ _)
 have hcc : w.cell? ⟨gc, 0, none⟩ = some (.pointer (some ⟨g, 0, none⟩)) := (h2.cell 0).trans rfl
 obtain ⟨A, c, hO⟩ := Sep.cur_open hs
 have hc2 : w.cell? ⟨g, 2, none⟩ = some (.bool true) := (hO.cell 2).trans rfl
 have hz2 := hO.frozen 2
 have hO := Aside0.mk hO
 clear h2 hs
 refine callsD_of_wpS Try.func112 rfl fun c₀ cs hu => ?_
 apply wpS_seq
 refine wpS_of_wp ?_
 rw [show ∀ (x y z : Value), #[x, y, z] ++ Array.replicate (Try.f112.ntmps - #[x, y, z].size) undef = #[x, y, z, undef, undef, undef, undef, undef, undef, undef, undef, undef, undef, undef, undef, undef, undef, undef, undef, undef, undef, undef, undef, undef, undef, undef, undef] from fun x y z => by kernel_rfl]
 go_wp2
 simp only [Exit.thenS]
 have hS1 : Sep w0 (w.setCell ⟨g, 2, none⟩ (.bool false)) (cur g l at_ false :: blk gc #[.pointer (some ⟨g, 0, none⟩)] 93 :: blk ga #[.int .i64 a0] 3 :: blk ge #[.int .i64 e0] 36 :: ps) := by
  refine Sep.cur_close (A := A) (c := c) ?_
  have := hO.out.set 2 (.bool false)
  simpa using this
 clear hcc hc2 hz2 hO
 generalize w.setCell ⟨g, 2, none⟩ (.bool false) = w1 at hS1 ⊢
 have hcc : w1.cell? ⟨gc, 0, none⟩ = some (.pointer (some ⟨g, 0, none⟩)) := ((hS1.perm (List.Perm.swap _ _ _)).cell 0).trans rfl
 obtain ⟨A, c, hO⟩ := Sep.cur_open hS1
 have hc1 : w1.cell? ⟨g, 1, none⟩ = some (.int .i64 at_) := (hO.cell 1).trans rfl
 have hga := hS1.perm ((List.Perm.cons _ (List.Perm.swap _ _ _)).trans (List.Perm.swap _ _ _))
 have hca : w1.cell? ⟨ga, 0, none⟩ = some (.int .i64 a0) := (hga.cell 0).trans rfl
 have hza := hga.frozen 0
 have hga := Aside0.mk hga
 clear hO
 apply wpS_seq
 refine wpS_of_wp ?_
 go_wp2
 simp only [Exit.thenS]
 have hS2 : Sep w0 (w1.setCell ⟨ga, 0, none⟩ (.int .i64 at_)) (cur g l at_ false :: blk gc #[.pointer (some ⟨g, 0, none⟩)] 93 :: blk ga #[.int .i64 at_] 3 :: blk ge #[.int .i64 e0] 36 :: ps) := by
  have := hga.out.set 0 (.int .i64 at_)
  have := this.perm ((List.Perm.swap _ _ _).trans (List.Perm.cons _ (List.Perm.swap _ _ _)))
  simpa using this
 clear hcc hc1 hca hza hga
 generalize w1.setCell ⟨ga, 0, none⟩ (.int .i64 at_) = w2 at hS2 ⊢
 have hS2 := Aside0.mk hS2
 apply wpS_seq
 apply wpS_region
 have hcc : w2.cell? ⟨gc, 0, none⟩ = some (.pointer (some ⟨g, 0, none⟩)) := ((hS2.out.perm (List.Perm.swap _ _ _)).cell 0).trans rfl
 simp [wpOpsS, go_sem, recoverD, hu, Exit.thenS, fault]
 have hta : ∀ (v : Value) (W : World), (Instr.typeAssert (.iface 151 v) 20 151 true).run Try.prog W = .ok (.tuple #[v, .bool true]) W := fun v W => by rfl
 have hA := hS2.out.alloc #[.pointer (some ⟨g, 0, none⟩), .int .i64 x] 151
 clear hcc
 have hcc : (w2.alloc (.cells #[.pointer (some ⟨g, 0, none⟩), .int .i64 x] 151 (0, 0))).cell? ⟨gc, 0, none⟩ = some (.pointer (some ⟨g, 0, none⟩)) := ((hA.tail.perm (List.Perm.swap _ _ _)).cell 0).trans rfl
 have hce : (w2.alloc (.cells #[.pointer (some ⟨g, 0, none⟩), .int .i64 x] 151 (0, 0))).cell? ⟨ge, 0, none⟩ = some (.int .i64 e0) := (hA.tail.tail.tail.tail.cell 0).trans rfl
 have hze := hA.tail.tail.tail.tail.frozen 0
 have hE := Aside0.mk ((hA.tail.perm (List.perm_middle (l₁ := [cur g l at_ false, blk gc #[.pointer (some ⟨g, 0, none⟩)] 93, blk ga #[.int .i64 at_] 3]) (a := blk ge #[.int .i64 e0] 36) (l₂ := ps))).set 0 (.int .i64 x))
 clear hA
 obtain ⟨j_, hj_⟩ : ∃ j, Try.prog.info? 149 = some j := Option.isSome_iff_exists.mp (by kernel_rfl)
 have hne := fun W => run_neq_ptr_same (P := Try.prog) W ⟨g, 0, none⟩ Try.underlying93 hj_
 refine wpS_of_wp ?_
 go_wp2
 have hS3 : Sep w0 ((w2.alloc (.cells #[.pointer (some ⟨g, 0, none⟩), .int .i64 x] 151 (0, 0))).setCell ⟨ge, 0, none⟩ (.int .i64 x)) (cur g l at_ false :: blk gc #[.pointer (some ⟨g, 0, none⟩)] 93 :: blk ga #[.int .i64 at_] 3 :: blk ge #[.int .i64 x] 36 :: ps) := by
  have h9 : Sep w0 _ (blk ge #[.int .i64 x] 36 :: ([cur g l at_ false, blk gc #[.pointer (some ⟨g, 0, none⟩)] 93, blk ga #[.int .i64 at_] 3] ++ ps)) := hE.out
  exact h9.perm (List.perm_middle (l₁ := [cur g l at_ false, blk gc #[.pointer (some ⟨g, 0, none⟩)] 93, blk ga #[.int .i64 at_] 3]) (a := blk ge #[.int .i64 x] 36) (l₂ := ps)).symm
 clear hE hS2 hS hcc hce hze hne hta
 generalize (cur g l at_ false :: blk gc #[.pointer (some ⟨g, 0, none⟩)] 93 :: blk ga #[.int .i64 at_] 3 :: blk ge #[.int .i64 x] 36 :: ps) = qs at hS3 ⊢
 generalize (w2.alloc (.cells #[.pointer (some ⟨g, 0, none⟩), .int .i64 x] 151 (0, 0))).setCell ⟨ge, 0, none⟩ (.int .i64 x) = w3 at hS3 ⊢
 cases c₀
 simp_all [bodyPostS, results, Try.results112]
end Go.Proofs.Ytekanmieppnpeaa.Sep
namespace Go.Proofs.Ytekanmieppnpeaa.Sep
open Go Go.RowKit Go.Proofs.YtekanmieppnpeaaW.PrintWords Go.Proofs.YtekanmieppnpeaaW.PrintLast Go.Proofs.YtekanmieppnpeaaW.PrintMore Go.Proofs.Ytekanmieppnpeaa.PureKit
set_option maxHeartbeats 400000 in
set_option maxRecDepth 100000 in
theorem run_calls (w0 w : World) (A : Option Addr) (c : Nat) (l : List Int) (fid : FuncId) (caps : Array Value) (R ps : List HP) (Q : Nat → Int → List HP → Prop)
  (hent : ∀ (args : Array Value) (w : World), (callFunc fid args).run Try.prog w = .ok (.enter fid args) w)
  (hs : Sep w0 w (R ++ ps)) (hr : Kd.C (Kd.int .u8) w A l.length l) (hc : l.length ≤ c) (hl : l.length ≤ 1000000000000)
  (hcl : ∀ (w1 : World) (g : Nat) (ps' : List HP), Sep w0 w1 (cur g l 0 true :: (R ++ ps')) → Calls Try.prog fid (#[.pointer (some ⟨g, 0, none⟩)] ++ caps) w1 fun e w2 =>
   ∃ (at2 : Nat) (x : Int) (qs : List HP), Q at2 x qs ∧ Sep w0 w2 (cur g l at2 true :: (qs ++ ps')) ∧ ((e = .returned (.tuple #[]) ∧ x = 0) ∨ e = .panicked [fault g x])) :
  Calls Try.prog 51 #[.slice A l.length c, .func (.func fid) #[] caps] w fun e w' =>
   ∃ (at2 : Nat) (x : Int) (qs : List HP), Q at2 x qs ∧ e = .returned (.tuple #[.int .i64 at2, .int .i64 x]) ∧ Sep w0 w' (qs ++ ps) := by
 have hmf : ∀ (fn : Fn) (first cap : Array Value) (w : World), (Instr.makeFunc fn first cap).run Try.prog w = .ok (.func fn first cap) w := fun _ _ _ _ => rfl
 have hnf : ∀ (W : World), (binOp .eql 95 (.func (.func fid) #[] caps) .nilFunc).run Try.prog W = .ok (.bool false) W := fun _ => by rfl
 have hS := Aside0.mk hs
 have hR := Aside0.mk hr
 have hCL := Aside0.mk hcl
 have hB := Aside0.mk hs.1
 have hsz : ∀ (W : World) (o : Obj), (W.alloc o).heap.size = W.heap.size + 1 := fun W o => by show (W.heap.push _).size = _; simp
 have hS2 := (hs.alloc #[.int .i64 0] 3).alloc #[.int .i64 0] 36
 rw [hsz] at hS2
 have hS2 := Aside0.mk hS2
 clear hs hr hcl
 go_enter_defers Try.func51, Try.ntmps51
 go_wp2_with (first | ((with_reducible refine gate_callee (f := 111) rfl ?_); refine goesL_ (some 10) rfl rfl Try.func111 (by kernel_rfl) rfl #[.slice A l.length c] rfl (by (try simp only [List.map_toArray, List.map_cons, List.map_nil]); first | done | rfl) ?_; (refine (G.bytes_Clone.calls A c l l _ (Kd.C_alloc (Kd.C_alloc hR.out _) _) hc (by unfold G.bytes_Clone.f; exact if_pos (by omega)) rfl).mono ?_); rintro e w1 ⟨v1, rfl, ho, hb⟩; refine ⟨_, rfl, ?_⟩; have hS3 := Aside0.mk (Sep.row_new hS2.out hb ho); obtain ⟨A1, c1, e1⟩ := Kd.R_slice ho; subst e1; clear ho hb))
 have hS4 := (hS3.out.alloc #[.slice A1 l.length c1, .int .i64 0, .bool true] 149).alloc #[.pointer (some ⟨w1.heap.size, 0, none⟩)] 93
 rw [hsz] at hS4
 have hS5 := Sep.cur_close (at_ := 0) (live := true) hS4.put2
 have hS6 : Sep w0 _ (cur w1.heap.size l 0 true :: (R ++ (blk (w1.heap.size + 1) #[.pointer (some ⟨w1.heap.size, 0, none⟩)] 93 :: blk (w.heap.size + 1) #[.int .i64 0] 36 :: blk w.heap.size #[.int .i64 0] 3 :: ps))) := hS5.perm (List.Perm.cons _ (List.perm_append_comm_assoc [_, _, _] R ps))
 clear hS4 hS5
 refine (hCL.out _ w1.heap.size _ hS6).mono ?_
 clear hS6 hS3
 rintro e w2 ⟨at2, x, qs, hQ, h2, hor⟩
 have h3 : Sep w0 w2 (cur w1.heap.size l at2 true :: blk (w1.heap.size + 1) #[.pointer (some ⟨w1.heap.size, 0, none⟩)] 93 :: blk w.heap.size #[.int .i64 0] 3 :: blk (w.heap.size + 1) #[.int .i64 0] 36 :: (qs ++ ps)) :=
  (h2.perm (List.Perm.cons _ (List.perm_append_comm_assoc qs [_, _, _] ps))).perm (List.Perm.cons _ (List.Perm.cons _ (List.Perm.swap _ _ _)))
 have hQ := Aside0.mk hQ
 clear h2 hS hR hCL hB hS2 hc
 rcases hor with ⟨rfl, rfl⟩ | rfl
 ·
  obtain ⟨A2, c2, hO⟩ := Sep.cur_open h3
  have hcg : w2.cell? ⟨w1.heap.size + 1, 0, none⟩ = some (.pointer (some ⟨w1.heap.size, 0, none⟩)) := ((h3.pick1).cell 0).trans rfl
  have hc1 : w2.cell? ⟨w1.heap.size, 1, none⟩ = some (.int .i64 at2) := (hO.cell 1).trans rfl
  have hca : w2.cell? ⟨w.heap.size, 0, none⟩ = some (.int .i64 0) := ((h3.pick2).cell 0).trans rfl
  have hza := (h3.pick2).frozen 0
  have hce : w2.cell? ⟨w.heap.size + 1, 0, none⟩ = some (.int .i64 0) := ((h3.pick3).cell 0).trans rfl
  have hze := (h3.pick3).frozen 0
  have h3 := Aside0.mk h3
  clear hO
  go_wp2
  have h4 : Sep w0 ((w2.setCell ⟨w.heap.size, 0, none⟩ (.int .i64 at2)).setCell ⟨w.heap.size + 1, 0, none⟩ (.int .i64 0)) (cur w1.heap.size l at2 true :: blk (w1.heap.size + 1) #[.pointer (some ⟨w1.heap.size, 0, none⟩)] 93 :: blk w.heap.size #[.int .i64 at2] 3 :: blk (w.heap.size + 1) #[.int .i64 0] 36 :: (qs ++ ps)) := by
   have h5 := h3.out.pick2.set 0 (.int .i64 at2)
   have h6 := h5.put2.pick3.set 0 (.int .i64 0)
   have h7 := h6.put3
   simpa using h7
  clear h3 hcg hc1 hca hza hce hze
  generalize ((w2.setCell ⟨w.heap.size, 0, none⟩ (.int .i64 at2)).setCell ⟨w.heap.size + 1, 0, none⟩ (.int .i64 0)) = w3 at h4 ⊢
  show Leaves _ _ _ _ _ _ _
  refine leaves_cons (f := 112) (args := _) (by simp) (by rfl) ?_
  refine (run_catch_idle w0 _ (w1.heap.size + 1) w.heap.size (w.heap.size + 1) w1.heap.size at2 at2 0 l _ h4).mono ?_
  rintro e u' w4 ⟨rfl, rfl, h5⟩
  have hca : w4.cell? ⟨w.heap.size, 0, none⟩ = some (.int .i64 at2) := ((h5.pick2).cell 0).trans rfl
  have hce : w4.cell? ⟨w.heap.size + 1, 0, none⟩ = some (.int .i64 0) := ((h5.pick3).cell 0).trans rfl
  have hout : Sep w0 w4 (qs ++ ps) := h5.tail.tail.tail.tail
  show Leaves _ _ _ _ [] .returning w4
  refine ⟨.tuple #[.int .i64 at2, .int .i64 0], ?_, at2, 0, qs, hQ.out, rfl, hout⟩
  simp [results, Try.results51, asAddr, loadVar, isAgg, underlying, Try.underlying3, Try.underlying36, Result.andThen, hca, hce]
 ·
  have h3 := Aside0.mk h3
  show Leaves _ _ _ _ _ _ _
  refine leaves_cons (f := 112) (args := _) (by simp) (by rfl) ?_
  refine (run_catch_fault w0 _ (w1.heap.size + 1) w.heap.size (w.heap.size + 1) w1.heap.size at2 0 0 x [] l _ h3.out).mono ?_
  rintro e u' w4 ⟨rfl, rfl, h5⟩
  have hca : w4.cell? ⟨w.heap.size, 0, none⟩ = some (.int .i64 at2) := ((h5.pick2).cell 0).trans rfl
  have hce : w4.cell? ⟨w.heap.size + 1, 0, none⟩ = some (.int .i64 x) := ((h5.pick3).cell 0).trans rfl
  have hout : Sep w0 w4 (qs ++ ps) := h5.tail.tail.tail.tail
  show Leaves _ _ _ _ [] .returning w4
  refine ⟨.tuple #[.int .i64 at2, .int .i64 x], ?_, at2, x, qs, hQ.out, rfl, hout⟩
  simp [results, Try.results51, asAddr, loadVar, isAgg, underlying, Try.underlying3, Try.underlying36, Result.andThen, hca, hce]
end Go.Proofs.Ytekanmieppnpeaa.Sep
namespace Go.Proofs.Ytekanmieppnpeaa.Sep
open Go Go.RowKit Go.Proofs.YtekanmieppnpeaaW.PrintWords Go.Proofs.YtekanmieppnpeaaW.PrintLast Go.Proofs.YtekanmieppnpeaaW.PrintMore
end Go.Proofs.Ytekanmieppnpeaa.Sep
namespace Go.Proofs.Ytekanmieppnpeaa.Sep
open Go Go.RowKit Go.Proofs.YtekanmieppnpeaaW.PrintWords Go.Proofs.YtekanmieppnpeaaW.PrintLast Go.Proofs.YtekanmieppnpeaaW.PrintMore Go.Proofs.Ytekanmieppnpeaa.PureKit
set_option maxHeartbeats 4000000 in
theorem cur_Four_short (w0 w : World) (g at_ : Nat) (l : List Int) (ps : List HP) (hs : Sep w0 w (cur g l at_ true :: ps)) (hat : at_ ≤ l.length) (hl : l.length ≤ 1000000000000) (hsh : (4 : Int) > (l.length : Int) - at_) :
  Calls Try.prog 83 #[.pointer (some ⟨g, 0, none⟩)] w fun e w' => e = .panicked [fault g 2] ∧ Sep w0 w' (cur g l at_ true :: ps) := by
 have hS := Aside0.mk hs
 clear hs
 go_enter Try.func83, Try.ntmps83
 go_wp2_with (fail)
 refine (cur_num_short w0 _ g at_ l ps 4 hS.out (by decide) hat hl hsh).mono ?_
 rintro e w1 ⟨rfl, h1⟩
 exact ⟨rfl, rfl, h1⟩
theorem lev_lt (l : List Int) (a n : Nat) (hb : Bytes l) (h : a + n ≤ l.length) : 0 ≤ lev ((l.take (a + n)).drop a) ∧ lev ((l.take (a + n)).drop a) < 256 ^ n := by
 have := lev_bound _ ((hb.take (a + n)).drop a)
 rw [List.length_drop, List.length_take, show min (a + n) l.length - a = n by omega] at this
 exact this
set_option maxHeartbeats 4000000 in
theorem cur_Four_some (w0 w : World) (g at_ : Nat) (l : List Int) (ps : List HP) (hs : Sep w0 w (cur g l at_ true :: ps)) (hb : Bytes l) (hl : l.length ≤ 1000000000000) (hsh : at_ + 4 ≤ l.length) :
  Calls Try.prog 83 #[.pointer (some ⟨g, 0, none⟩)] w fun e w' => e = .returned (.int .u32 (lev ((l.take (at_ + 4)).drop at_))) ∧ Sep w0 w' (cur g l (at_ + 4) true :: ps) := by
 have hS := Aside0.mk hs
 clear hs
 have hbd := lev_lt l at_ 4 hb hsh
 have h4 : (256 : Int) ^ 4 = 4294967296 := by decide
 rw [h4] at hbd
 obtain ⟨y, hy⟩ : ∃ y, lev ((l.take (at_ + 4)).drop at_) = y := ⟨_, rfl⟩
 rw [hy] at hbd ⊢
 have hyA := Aside0.mk hy
 have hw : IntKind.u32.wrap y = y := by rw [IntKind.wrap_u32]; omega
 clear hy h4
 go_enter Try.func83, Try.ntmps83
 go_wp2_with (first | ((with_reducible refine gate_callee (f := 113) rfl ?_); refine goesL_ (some 4) rfl rfl Try.func113 (by kernel_rfl) rfl #[.pointer (some ⟨g, 0, none⟩), .int .i64 4] rfl (by (try simp only [List.map_toArray, List.map_cons, List.map_nil]); first | done | rfl) ?_; (with_reducible refine (cur_num_some w0 _ g at_ l ps 4 4 rfl hS.out hb (by decide) (by decide) hl hsh).mono ?_); rintro e w1 ⟨rfl, h2⟩; refine ⟨_, rfl, ?_⟩; rw [hyA.out]; have hS1 := Aside0.mk h2; clear h2))
 go_ret
 exact ⟨by first | rfl | (simp [hw]), hS1.out⟩
set_option maxHeartbeats 4000000 in
theorem cur_Eight_some (w0 w : World) (g at_ : Nat) (l : List Int) (ps : List HP) (hs : Sep w0 w (cur g l at_ true :: ps)) (hb : Bytes l) (hl : l.length ≤ 1000000000000) (hsh : at_ + 8 ≤ l.length) :
  Calls Try.prog 53 #[.pointer (some ⟨g, 0, none⟩)] w fun e w' => e = .returned (.int .u64 (lev ((l.take (at_ + 8)).drop at_))) ∧ Sep w0 w' (cur g l (at_ + 8) true :: ps) := by
 have hS := Aside0.mk hs
 clear hs
 go_enter Try.func53, Try.ntmps53
 go_wp2_with (first | ((with_reducible refine gate_callee (f := 113) rfl ?_); refine goesL_ (some 4) rfl rfl Try.func113 (by kernel_rfl) rfl #[.pointer (some ⟨g, 0, none⟩), .int .i64 8] rfl (by (try simp only [List.map_toArray, List.map_cons, List.map_nil]); first | done | rfl) ?_; (with_reducible refine (cur_num_some w0 _ g at_ l ps 8 8 rfl hS.out hb (by decide) (by decide) hl hsh).mono ?_); rintro e w1 ⟨rfl, h2⟩; refine ⟨_, rfl, ?_⟩; have hS1 := Aside0.mk h2; clear h2))
 go_ret
 exact ⟨rfl, hS1.out⟩
end Go.Proofs.Ytekanmieppnpeaa.Sep
end
section
namespace Go.Proofs.Ytekanmieppnpeaa.Tb
open Go Go.RowKit Go.Proofs.YtekanmieppnpeaaW.PrintWords Go.Proofs.YtekanmieppnpeaaW.PrintLast Go.Proofs.YtekanmieppnpeaaW.PrintMore Go.Proofs.Ytekanmieppnpeaa.PureKit Go.Proofs.Ytekanmieppnpeaa.Sep Go.Proofs.Ytekanmieppnpeaa.G
set_option maxRecDepth 100000
def fenAt (l : List Int) (p : Nat) : Int := lev ((l.take (p + 8)).drop p)
def fensAt (l : List Int) (p n : Nat) : List Int := (List.range n).map fun k => fenAt l (p + 8 * k)
theorem fensAt_len (l : List Int) (p n : Nat) : (fensAt l p n).length = n := by unfold fensAt; rw [List.length_map, List.length_range]
theorem fensAt_succ (l : List Int) (p n : Nat) : fensAt l p (n + 1) = fensAt l p n ++ [fenAt l (p + 8 * n)] := by unfold fensAt; rw [List.range_succ, List.map_append]; rfl
def risesF (l : List Int) : Bool := decide (∀ i, i < l.length - 1 → l.getD i 0 ≤ l.getD (i + 1) 0)
theorem risesF_iff (l : List Int) : risesF l = true ↔ ∀ i, i < l.length - 1 → l.getD i 0 ≤ l.getD (i + 1) 0 := by unfold risesF; exact decide_eq_true_iff
theorem risesF_nil : risesF [] = true := (risesF_iff []).2 fun i h => absurd h (Nat.not_lt_zero i)
theorem rd_getD (l : List Int) (i : Nat) : rd l (i : Int) = l.getD i 0 := by unfold rd; rw [Int.toNat_natCast]
theorem less64 (x y : Int) : cmp_Less_uint64.f x y = some (decide (x < y)) := by
 unfold cmp_Less_uint64.f cmp_isNaN_uint64.f
 simp
theorem isSorted_loop (l : List Int) (hl : l.length ≤ 1000000) : ∀ (j : Nat), j < l.length → (∀ i, j ≤ i → i < l.length - 1 → l.getD i 0 ≤ l.getD (i + 1) 0) → Ev (fun k => slices_IsSorted_uint64_uint64.l0 k l (j : Int)) (risesF l)
 | 0, hj, hh => by
  rw [(risesF_iff l).2 fun i hi => hh i (Nat.zero_le _) hi]
  refine Ev.step (f := fun _ => some true) (fun k => ?_) (Ev.now _)
  unfold slices_IsSorted_uint64_uint64.l0
  rw [if_neg (by omega)]
 | j + 1, hj, hh => by
  have hw : wrap64 (((j + 1 : Nat) : Int) - 1) = (j : Int) := by rw [w64 (by omega) (by omega)]; omega
  by_cases hlt : l.getD (j + 1) 0 < l.getD j 0
  ·
   have hr : risesF l = false := by
    cases h : risesF l with
    | false => rfl
    | true => have := (risesF_iff l).1 h j (by omega); omega
   rw [hr]
   refine Ev.step (f := fun _ => some false) (fun k => ?_) (Ev.now _)
   unfold slices_IsSorted_uint64_uint64.l0
   rw [if_pos (by omega), if_pos (by omega), if_pos (by omega), hw, if_pos (by omega), if_pos (by omega), less64, Option.bind_some, rd_getD, rd_getD, decide_eq_true hlt, if_pos rfl]
  ·
   refine Ev.step (f := fun k => slices_IsSorted_uint64_uint64.l0 k l (j : Int)) (fun k => ?_) (isSorted_loop l hl j (by omega) fun i hi hi2 => ?_)
   ·
    conv => lhs; unfold slices_IsSorted_uint64_uint64.l0
    rw [if_pos (by omega), if_pos (by omega), if_pos (by omega), hw, if_pos (by omega), if_pos (by omega), less64, Option.bind_some, rd_getD, rd_getD, decide_eq_false hlt, if_neg (by decide)]
   ·
    by_cases he : i = j
    ·
     subst he; omega
    ·
     exact hh i (by omega) hi2
theorem isSorted_ev (l : List Int) (hl : l.length ≤ 1000000) : Ev (fun k => slices_IsSorted_uint64_uint64.f k l) (risesF l) := by
 unfold slices_IsSorted_uint64_uint64.f
 by_cases h : 0 < l.length
 ·
  rw [show wrap64 ((l.length : Int) - 1) = ((l.length - 1 : Nat) : Int) by rw [w64 (by omega) (by omega)]; omega]
  exact isSorted_loop l hl (l.length - 1) (by omega) fun i h1 h2 => absurd h2 (by omega)
 ·
  have h0 : l = [] := List.eq_nil_of_length_eq_zero (by omega)
  subst h0
  rw [risesF_nil]
  refine Ev.step (f := fun _ => some true) (fun k => ?_) (Ev.now _)
  unfold slices_IsSorted_uint64_uint64.l0
  rw [if_neg (by simp only [List.length_nil]; unfold wrap64; decide)]
theorem row_C {α : Type} {d : Kd α} {w0 W : World} {e : TypeId} {A : Option Addr} {n c : Nat} {l : List α} {ps : List HP} (h : Sep.Sep w0 W (row d e (.slice A n c) l :: ps)) : n = l.length ∧ l.length ≤ c ∧ d.C W A l.length l := by
 obtain ⟨bs, hR⟩ := h.row_R
 have h := Kd.R_reads' hR
 exact ⟨h.1, h.1 ▸ h.2.1, h.2.2⟩
end Go.Proofs.Ytekanmieppnpeaa.Tb
end
section
namespace Go.Proofs.Ytekanmieppnpeaa.Tb
open Go Go.RowKit Go.Proofs.YtekanmieppnpeaaW.PrintWords Go.Proofs.YtekanmieppnpeaaW.PrintLast Go.Proofs.YtekanmieppnpeaaW.PrintMore Go.Proofs.Ytekanmieppnpeaa.PureKit Go.Proofs.Ytekanmieppnpeaa.Sep Go.Proofs.Ytekanmieppnpeaa.G
set_option maxHeartbeats 4000000
set_option maxRecDepth 100000
attribute [local go_sem] max2_int min2_int max_two min_two
def entAt (l : List Int) (p : Nat) : E1 := ⟨lev ((l.take (p + 8)).drop p), lev ((l.take (p + 8 + 4)).drop (p + 8))⟩
def entsAt (l : List Int) (p n : Nat) : List E1 := (List.range n).map fun k => entAt l (p + 12 * k)
theorem entsAt_len (l : List Int) (p n : Nat) : (entsAt l p n).length = n := by unfold entsAt; rw [List.length_map, List.length_range]
theorem entsAt_succ (l : List Int) (p n : Nat) : entsAt l p (n + 1) = entsAt l p n ++ [entAt l (p + 12 * n)] := by unfold entsAt; rw [List.range_succ, List.map_append]; rfl
theorem table_Get_short (w0 w : World) (g at_ : Nat) (l : List Int) (ps : List HP) (n : Int) (hs : Sep.Sep w0 w (cur g l at_ true :: ps)) (hat : at_ ≤ l.length) (hl : l.length ≤ 1000000) (hn : 0 < n) (hsh : n > ((l.length : Int) - at_) / 12) :
  Calls Try.prog 84 #[.pointer (some ⟨g, 0, none⟩), .int .i64 n] w fun e w' => e = .panicked [fault g 2] ∧ Sep.Sep w0 w' (cur g l at_ true :: ps) := by
 have hS := Aside0.mk hs
 have hA := Aside0.mk (And.intro hat hl)
 have hm : (if 0 < n then n else 0) = n := if_pos hn
 have hd0 : decide (0 < n) = true := decide_eq_true hn
 obtain ⟨q, hq⟩ : ∃ q, Int.tdiv ((l.length : Int) - at_) 12 = q := ⟨_, rfl⟩
 have hqe : q = ((l.length : Int) - at_) / 12 := by rw [← hq, Int.tdiv_eq_ediv_of_nonneg (by omega)]
 have hd : decide (n > q) = true := decide_eq_true (by omega)
 have hd2 : decide (q < n) = true := decide_eq_true (by omega)
 have hwq : wrap64 q = q := w64 (by omega) (by omega)
 clear hs hat hl hsh hqe
 go_enter Try.func84, Try.ntmps84
 go_wp2_with (fail)
 refine (cur_Left w0 _ g at_ l _ hS.out hA.out.1 (by have := hA.out.2; omega)).mono ?_
 rintro e w1 ⟨rfl, h1⟩
 have hS1 := Aside0.mk h1
 clear h1
 go_wp2_with (fail)
 refine (cur_Fail w0 _ g at_ l _ 2 hS1.out (by decide)).mono ?_
 rintro e w2 ⟨rfl, h2⟩
 exact ⟨rfl, rfl, h2⟩
theorem table_Get_some (w0 w : World) (g at_ : Nat) (l : List Int) (ps : List HP) (n : Int) (m : Nat) (hm : (if 0 < n then n else 0) = (m : Int)) (hs : Sep.Sep w0 w (cur g l at_ true :: ps)) (hb : Bytes l) (hl : l.length ≤ 1000000) (hsh : at_ + 12 * m ≤ l.length) :
  Calls Try.prog 84 #[.pointer (some ⟨g, 0, none⟩), .int .i64 n] w fun e w' =>
   (riseE (entsAt l at_ m) = true ∧ ∃ (A : Option Addr) (c : Nat), e = .returned (.slice A m c) ∧ Sep.Sep w0 w' (row kE 33 (.slice A m c) (entsAt l at_ m) :: cur g l (at_ + 12 * m) true :: ps)) ∨
   (riseE (entsAt l at_ m) = false ∧ e = .panicked [fault g 8] ∧ Sep.Sep w0 w' (cur g l (at_ + 12 * m) true :: ps)) := by
 have hS := Aside0.mk hs
 have hbA := Aside0.mk hb
 have hA := Aside0.mk (And.intro hsh hl)
 obtain ⟨q, hq⟩ : ∃ q, Int.tdiv ((l.length : Int) - at_) 12 = q := ⟨_, rfl⟩
 have hqe : q = ((l.length : Int) - at_) / 12 := by rw [← hq, Int.tdiv_eq_ediv_of_nonneg (by omega)]
 have hwq : wrap64 q = q := w64 (by omega) (by omega)
 have hqm : (m : Int) ≤ q := by omega
 have hd : decide ((m : Int) > q) = false := decide_eq_false (by omega)
 have hd2 : decide (q < (m : Int)) = false := decide_eq_false (by omega)
 have hmn : (if q < (m : Int) then q else (m : Int)) = (m : Int) := if_neg (by omega)
 have hqA := Aside0.mk hqm
 clear hs hb hl hsh hqe hqm
 go_enter Try.func84, Try.ntmps84
 go_wp2_with (fail)
 refine (cur_Left w0 _ g at_ l _ hS.out (by have := hA.out; omega) (by have := hA.out.2; omega)).mono ?_
 rintro e w1 ⟨rfl, h1⟩
 have hS1 := Aside0.mk h1
 clear h1
 go_wp2_with (fail)
 refine (cur_Left w0 _ g at_ l _ hS1.out (by have := hA.out; omega) (by have := hA.out.2; omega)).mono ?_
 rintro e w2 ⟨rfl, h2⟩
 have hS2 := Aside0.mk h2
 clear h2
 have hmb : Aside0 ((m : Int).toNat * 16 ≤ 281474976710656) := ⟨by have := hA.out; omega⟩
 go_wp2_with (first | ((with_reducible refine gate_dst (N := 20) rfl ?_); refine R_make0 kE (w0 := w2) w2.heap.size 33 rfl (N := 20) rfl 27 _ _ rfl (m : Int) rfl rfl Try.underlying27 (.agg #[.int .u64 0, .int .u32 0]) 16 info33 rfl (by decide) (by omega) (ok := fun _ => True) trivial (by omega) hmb.out (Below.refl _ _) (Nat.le_refl _) ?_; intro v3 w3 ho3 hb3 hg3 hat3; have hS3 := Aside0.mk (Sep.row_new hS2.out hb3 ho3); obtain ⟨A3, c3, rfl⟩ := Kd.R_slice ho3; clear ho3 hb3 hg3 hat3))
 go_loopg [5, 22] m (fun kq v5 v22 w' => ∃ (i c5 : Nat) (A5 : Option Addr), v5 = .slice A5 i c5 ∧ v22 = .int .i64 i ∧ Aside0 (i + kq = m) ∧ Aside0 (Sep.Sep w0 w' (row kE 33 (.slice A5 i c5) (entsAt l at_ i) :: cur g l (at_ + 12 * i) true :: ps)))
 case atStart => exact ⟨0, c3, A3, rfl, rfl, ⟨by omega⟩, hS3⟩
 case round =>
  clear hS hS1 hS2 hS3
  obtain ⟨i, c5, A5, rfl, rfl, hI, hS⟩ := hrel
  by_cases him : i < m
  ·
   obtain ⟨k1, rfl⟩ : ∃ k1, gk = k1 + 1 := ⟨gk - 1, by have := hI.out; omega⟩
   have e1 : decide ((i : Int) < (m : Int)) = true := decide_eq_true (by omega)
   have e2 : decide (i < m) = true := decide_eq_true him
   have hq1 : wrap64 ((i : Int) + 1) = ((i + 1 : Nat) : Int) := by rw [w64 (by omega) (by have := hA.out; omega)]; omega
   have hI' : Aside0 (i + 1 + k1 = m) := ⟨by have := hI.out; omega⟩
   have hp := Aside0.mk (show at_ + 12 * i + 12 ≤ l.length by have := hA.out; omega)
   have hll := Aside0.mk (show l.length ≤ 1000000000000 by have := hA.out; omega)
   have hil := Aside0.mk (show (entsAt l at_ i).length + 1 ≤ 1000000 by rw [entsAt_len]; have := hA.out; omega)
   have hsucc := Aside0.mk (entsAt_succ l at_ i)
   obtain ⟨f0, hf0⟩ : ∃ f0, lev ((l.take (at_ + 12 * i + 8)).drop (at_ + 12 * i)) = f0 := ⟨_, rfl⟩
   obtain ⟨f1, hf1⟩ : ∃ f1, lev ((l.take (at_ + 12 * i + 8 + 4)).drop (at_ + 12 * i + 8)) = f1 := ⟨_, rfl⟩
   have hent : Aside0 (entAt l (at_ + 12 * i) = ⟨f0, f1⟩) := ⟨by unfold entAt; rw [hf0, hf1]⟩
   have hE8 := Aside0.mk (fun W (h : Sep.Sep w0 W (cur g l (at_ + 12 * i) true :: row kE 33 (.slice A5 i c5) (entsAt l at_ i) :: ps)) => cur_Eight_some w0 W g (at_ + 12 * i) l _ h hbA.out hll.out (by have := hp.out; omega))
   have hE4 := Aside0.mk (fun W (h : Sep.Sep w0 W (cur g l (at_ + 12 * i + 8) true :: row kE 33 (.slice A5 i c5) (entsAt l at_ i) :: ps)) => cur_Four_some w0 W g (at_ + 12 * i + 8) l _ h hbA.out hll.out (by have := hp.out; omega))
   rw [hf0] at hE8
   rw [hf1] at hE4
   clear him hf0 hf1
   go_wp2_with (fail)
   refine (hE8.out _ hS.out.pick1).mono ?_
   rintro e w5 ⟨rfl, h5⟩
   have hS5 := Aside0.mk h5
   clear h5
   go_wp2_with (fail)
   refine (hE4.out _ hS5.out).mono ?_
   rintro e w6 ⟨rfl, h6⟩
   obtain ⟨bs, hRr, hGr⟩ := h6.pick1.row_open
   have hR := Aside0.mk hRr
   have hG := Aside0.mk hGr
   clear h6 hRr hGr
   go_wp2_with (first | ((with_reducible refine gate_builtin (b := .append) (xs := #[.tmp 24, .tmp 30]) rfl ?_); at_builtin; refine Kd.R_append kE (w0 := w6) 0 rfl (.tmp 24) (.tmp 30) 27 33 (.agg #[(.int .u64 0), (.int .u32 0)]) 16 rfl Try.underlying27 info33 rfl (by decide) (by omega) (.slice A5 i c5) (entsAt l at_ i) (⟨f0, f1⟩ : E1) [.int .u64 f0, .int .u32 f1] (fun k => k ∈ bs ∨ w6.heap.size ≤ k) (fun _ => False) rfl (by first | (go_simp; done) | (go_simp; rfl)) ?aP (fun _ hk => hk.elim) ?aF ?aO ?aB ?aS ?aL ?_; (case aP => exact k33_mkM _ _ _ (⟨f0, f1⟩ : E1)); (case aF => exact fun _ h => .inr h); (case aO => exact Kd.R_mono hR.out (fun _ h => .inl h)); (case aB => exact Below.refl _ _); (case aS => exact Nat.zero_le _); (case aL => have := hil.out; omega); intro v7 w7 ho7 hb7 hg7 hat7; obtain ⟨A7, c7, rfl⟩ := Kd.R_slice ho7; have hS7 := Aside0.mk (hG.out w7 _ _ ho7 hg7); clear ho7 hb7 hg7 hat7))
   have hS8 : Aside0 (Sep.Sep w0 w7 (row kE 33 (.slice A7 (i + 1) c7) (entsAt l at_ (i + 1)) :: cur g l (at_ + 12 * (i + 1)) true :: ps)) := ⟨by
    have h := hS7.out
    rw [show entsAt l at_ i ++ [(⟨f0, f1⟩ : E1)] = entsAt l at_ (i + 1) by rw [hsucc.out, hent.out], entsAt_len] at h
    rw [show at_ + 12 * (i + 1) = at_ + 12 * i + 8 + 4 by omega]
    exact h⟩
   have hlen7 : Aside0 ((entsAt l at_ i).length + 1 = i + 1) := ⟨by rw [entsAt_len]⟩
   clear hS hS5 hS7 hR hG hE8 hE4
   go_roundg k1
   case measure => omega
   case rel => exact ⟨i + 1, c7, A7, by first | rfl | (rw [← hlen7.out]; rfl) | (simp [entsAt_len]), by first | rw [hq1] | rfl, hI', hS8⟩
  ·
   have e1 : decide ((i : Int) < (m : Int)) = false := decide_eq_false (by omega)
   have e2 : decide (i < m) = false := decide_eq_false him
   have hie : i = m := by have := hI.out; omega
   subst hie
   have hel := entsAt_len l at_ i
   obtain ⟨kr, hkr⟩ := (rise_ev (entsAt l at_ i) (by rw [hel]; have := hA.out; omega)).rounds
   obtain ⟨-, hc5, hC5⟩ := row_C hS.out
   have hcall := Aside0.mk (table_Rising.calls kr A5 c5 (entsAt l at_ i) _ wr hC5 hc5 hkr)
   rw [hel] at hcall
   obtain ⟨R, hRe⟩ : ∃ R, riseE (entsAt l at_ i) = R := ⟨_, rfl⟩
   rw [hRe] at hcall
   have hReA := Aside0.mk hRe
   clear him hel hkr hc5 hC5 hRe
   go_wp2_with (fail)
   refine hcall.out.mono ?_
   rintro e w8 ⟨rfl, hb8⟩
   have hS8 := Aside0.mk (hS.out.below hb8)
   clear hb8
   cases R with
   | true =>
    go_wp2_with (fail)
    go_ret
    exact .inl ⟨hReA.out, A5, c5, rfl, hS8.out⟩
   | false =>
    go_wp2_with (fail)
    refine (cur_Fail w0 _ g _ l _ 8 hS8.out.tail (by decide)).mono ?_
    rintro e w9 ⟨rfl, h9⟩
    exact ⟨rfl, .inr ⟨hReA.out, rfl, h9⟩⟩
end Go.Proofs.Ytekanmieppnpeaa.Tb
end
section
namespace Go.Proofs.Ytekanmieppnpeaa.Tb
open Go Go.RowKit Go.Proofs.YtekanmieppnpeaaW.PrintWords Go.Proofs.YtekanmieppnpeaaW.PrintLast Go.Proofs.YtekanmieppnpeaaW.PrintMore Go.Proofs.Ytekanmieppnpeaa.PureKit Go.Proofs.Ytekanmieppnpeaa.Sep Go.Proofs.Ytekanmieppnpeaa.G
set_option maxHeartbeats 4000000
set_option maxRecDepth 100000
attribute [local go_sem] max2_int min2_int max_two min_two
theorem fence_Get_short (w0 w : World) (g at_ : Nat) (l : List Int) (ps : List HP) (n : Int) (hs : Sep.Sep w0 w (cur g l at_ true :: ps)) (hat : at_ ≤ l.length) (hl : l.length ≤ 1000000) (hn : 0 < n) (hsh : n > ((l.length : Int) - at_) / 8) :
  Calls Try.prog 85 #[.pointer (some ⟨g, 0, none⟩), .int .i64 n] w fun e w' => e = .panicked [fault g 2] ∧ Sep.Sep w0 w' (cur g l at_ true :: ps) := by
 have hS := Aside0.mk hs
 have hA := Aside0.mk (And.intro hat hl)
 have hm : (if 0 < n then n else 0) = n := if_pos hn
 have hd0 : decide (0 < n) = true := decide_eq_true hn
 obtain ⟨q, hq⟩ : ∃ q, Int.tdiv ((l.length : Int) - at_) 8 = q := ⟨_, rfl⟩
 have hqe : q = ((l.length : Int) - at_) / 8 := by rw [← hq, Int.tdiv_eq_ediv_of_nonneg (by omega)]
 have hd : decide (n > q) = true := decide_eq_true (by omega)
 have hd2 : decide (q < n) = true := decide_eq_true (by omega)
 have hwq : wrap64 q = q := w64 (by omega) (by omega)
 clear hs hat hl hsh hqe
 go_enter Try.func85, Try.ntmps85
 go_wp2_with (fail)
 refine (cur_Left w0 _ g at_ l _ hS.out hA.out.1 (by have := hA.out.2; omega)).mono ?_
 rintro e w1 ⟨rfl, h1⟩
 have hS1 := Aside0.mk h1
 clear h1
 go_wp2_with (fail)
 refine (cur_Fail w0 _ g at_ l _ 2 hS1.out (by decide)).mono ?_
 rintro e w2 ⟨rfl, h2⟩
 exact ⟨rfl, rfl, h2⟩
theorem fence_Get_some (w0 w : World) (g at_ : Nat) (l : List Int) (ps : List HP) (n : Int) (m : Nat) (hm : (if 0 < n then n else 0) = (m : Int)) (hs : Sep.Sep w0 w (cur g l at_ true :: ps)) (hb : Bytes l) (hl : l.length ≤ 1000000) (hsh : at_ + 8 * m ≤ l.length) :
  Calls Try.prog 85 #[.pointer (some ⟨g, 0, none⟩), .int .i64 n] w fun e w' =>
   (risesF (fensAt l at_ m) = true ∧ ∃ (A : Option Addr) (c : Nat), e = .returned (.slice A m c) ∧ Sep.Sep w0 w' (row (Kd.int .u64) 30 (.slice A m c) (fensAt l at_ m) :: cur g l (at_ + 8 * m) true :: ps)) ∨
   (risesF (fensAt l at_ m) = false ∧ e = .panicked [fault g 8] ∧ Sep.Sep w0 w' (cur g l (at_ + 8 * m) true :: ps)) := by
 have hS := Aside0.mk hs
 have hbA := Aside0.mk hb
 have hA := Aside0.mk (And.intro hsh hl)
 obtain ⟨q, hq⟩ : ∃ q, Int.tdiv ((l.length : Int) - at_) 8 = q := ⟨_, rfl⟩
 have hqe : q = ((l.length : Int) - at_) / 8 := by rw [← hq, Int.tdiv_eq_ediv_of_nonneg (by omega)]
 have hwq : wrap64 q = q := w64 (by omega) (by omega)
 have hqm : (m : Int) ≤ q := by omega
 have hd : decide ((m : Int) > q) = false := decide_eq_false (by omega)
 have hd2 : decide (q < (m : Int)) = false := decide_eq_false (by omega)
 have hqA := Aside0.mk hqm
 clear hs hb hl hsh hqe hqm
 go_enter Try.func85, Try.ntmps85
 go_wp2_with (fail)
 refine (cur_Left w0 _ g at_ l _ hS.out (by have := hA.out; omega) (by have := hA.out.2; omega)).mono ?_
 rintro e w1 ⟨rfl, h1⟩
 have hS1 := Aside0.mk (Sep.row_nil (Kd.int .u64) 30 h1)
 clear h1
 go_wp2_with (fail)
 go_loopg [5, 16] m (fun kq v5 v16 w' => ∃ (i c5 : Nat) (A5 : Option Addr), v5 = .slice A5 i c5 ∧ v16 = .int .i64 i ∧ Aside0 (i + kq = m) ∧ Aside0 (Sep.Sep w0 w' (row (Kd.int .u64) 30 (.slice A5 i c5) (fensAt l at_ i) :: cur g l (at_ + 8 * i) true :: ps)))
 case atStart => exact ⟨0, 0, none, rfl, rfl, ⟨by omega⟩, hS1⟩
 case round =>
  clear hS hS1 hwq
  obtain ⟨i, c5, A5, rfl, rfl, hI, hS⟩ := hrel
  by_cases him : i < m
  ·
   obtain ⟨k1, rfl⟩ : ∃ k1, gk = k1 + 1 := ⟨gk - 1, by have := hI.out; omega⟩
   have e1 : decide ((i : Int) < (m : Int)) = true := decide_eq_true (by omega)
   have e2 : decide (i < m) = true := decide_eq_true him
   have hq1 : wrap64 ((i : Int) + 1) = ((i + 1 : Nat) : Int) := by rw [w64 (by omega) (by have := hA.out; omega)]; omega
   have hI' : Aside0 (i + 1 + k1 = m) := ⟨by have := hI.out; omega⟩
   have hp := Aside0.mk (show at_ + 8 * i + 8 ≤ l.length by have := hA.out; omega)
   have hll := Aside0.mk (show l.length ≤ 1000000000000 by have := hA.out; omega)
   have hil := Aside0.mk (show ((fensAt l at_ i).length + 1) * 8 ≤ 140737488355328 by rw [fensAt_len]; have := hA.out; omega)
   have hsucc := Aside0.mk (fensAt_succ l at_ i)
   obtain ⟨f0, hf0⟩ : ∃ f0, lev ((l.take (at_ + 8 * i + 8)).drop (at_ + 8 * i)) = f0 := ⟨_, rfl⟩
   have hent : Aside0 (fenAt l (at_ + 8 * i) = f0) := ⟨by unfold fenAt; rw [hf0]⟩
   have hE8 := Aside0.mk (fun W (h : Sep.Sep w0 W (cur g l (at_ + 8 * i) true :: row (Kd.int .u64) 30 (.slice A5 i c5) (fensAt l at_ i) :: ps)) => cur_Eight_some w0 W g (at_ + 8 * i) l _ h hbA.out hll.out (by have := hp.out; omega))
   rw [hf0] at hE8
   have hAl : Aside0 (i = (fensAt l at_ i).length) := ⟨(fensAt_len l at_ i).symm⟩
   clear him hf0
   go_wp2_with (fail)
   refine (hE8.out _ hS.out.pick1).mono ?_
   rintro e w6 ⟨rfl, h6⟩
   obtain ⟨bs, hRr, hGr⟩ := h6.pick1.row_open
   have hR := Aside0.mk hRr
   have hG := Aside0.mk hGr
   clear h6 hRr hGr
   go_wp2_with (first | ((with_reducible refine gate_builtin (b := .append) (xs := #[.tmp 18, .tmp 21]) rfl ?_); at_builtin; refine Kd.R_append (Kd.int .u64) (w0 := w6) 0 rfl (.tmp 18) (.tmp 21) 31 30 (.int .u64 0) 8 rfl Try.underlying31 (by kernel_rfl) rfl (by decide) (by decide) (.slice A5 i c5) (fensAt l at_ i) f0 [.int .u64 f0] (fun k => k ∈ bs ∨ w6.heap.size ≤ k) (fun _ => False) rfl rfl rfl (fun _ h => h.elim) (fun _ h => .inr h) ?aO ?aB ?aS ?aL ?_; (case aO => exact Kd.R_mono hR.out (fun _ h => .inl h)); (case aB => exact Below.refl _ _); (case aS => exact Nat.zero_le _); (case aL => exact hil.out); intro v7 w7 ho7 hb7 hg7 hat7; obtain ⟨A7, c7, rfl⟩ := Kd.R_slice ho7; have hS7 := Aside0.mk (hG.out w7 _ _ ho7 hg7); clear ho7 hb7 hg7 hat7))
   have hS8 : Aside0 (Sep.Sep w0 w7 (row (Kd.int .u64) 30 (.slice A7 (i + 1) c7) (fensAt l at_ (i + 1)) :: cur g l (at_ + 8 * (i + 1)) true :: ps)) := ⟨by
    have h := hS7.out
    rw [show fensAt l at_ i ++ [f0] = fensAt l at_ (i + 1) by rw [hsucc.out, hent.out], fensAt_len] at h
    rw [show at_ + 8 * (i + 1) = at_ + 8 * i + 8 by omega]
    exact h⟩
   have hlen7 : Aside0 ((fensAt l at_ i).length + 1 = i + 1) := ⟨by rw [fensAt_len]⟩
   clear hS hS7 hR hG hE8
   go_roundg k1
   case measure => omega
   case rel => exact ⟨i + 1, c7, A7, by first | rfl | (rw [← hlen7.out]; rfl) | (simp [fensAt_len]), by first | rw [hq1] | rfl, hI', hS8⟩
  ·
   have e1 : decide ((i : Int) < (m : Int)) = false := decide_eq_false (by omega)
   have e2 : decide (i < m) = false := decide_eq_false him
   have hie : i = m := by have := hI.out; omega
   subst hie
   have hel := fensAt_len l at_ i
   obtain ⟨kr, hkr⟩ := (isSorted_ev (fensAt l at_ i) (by rw [hel]; have := hA.out; omega)).rounds
   obtain ⟨-, hc5, hC5⟩ := row_C hS.out
   have hcall := Aside0.mk (slices_IsSorted_uint64_uint64.calls kr A5 c5 (fensAt l at_ i) _ wr hC5 hc5 hkr)
   rw [hel] at hcall
   obtain ⟨R, hRe⟩ : ∃ R, risesF (fensAt l at_ i) = R := ⟨_, rfl⟩
   rw [hRe] at hcall
   have hReA := Aside0.mk hRe
   clear him hel hkr hc5 hC5 hRe
   go_wp2_with (fail)
   refine hcall.out.mono ?_
   rintro e w8 ⟨rfl, hb8⟩
   have hS8 := Aside0.mk (hS.out.below hb8.below)
   clear hb8
   cases R with
   | true =>
    go_wp2_with (fail)
    go_ret
    exact .inl ⟨hReA.out, A5, c5, rfl, hS8.out⟩
   | false =>
    go_wp2_with (fail)
    refine (cur_Fail w0 _ g _ l _ 8 hS8.out.tail (by decide)).mono ?_
    rintro e w9 ⟨rfl, h9⟩
    exact ⟨rfl, .inr ⟨hReA.out, rfl, h9⟩⟩
end Go.Proofs.Ytekanmieppnpeaa.Tb
end
section
namespace Go.Proofs.Ytekanmieppnpeaa.Fe
open Go Go.RowKit Go.Proofs.YtekanmieppnpeaaW.PrintWords Go.Proofs.YtekanmieppnpeaaW.PrintLast Go.Proofs.YtekanmieppnpeaaW.PrintMore Go.Proofs.Ytekanmieppnpeaa.Sep
set_option maxHeartbeats 4000000
set_option maxRecDepth 100000
attribute [local go_sem] Oper.semAt_some
attribute [local go_sem] max2_int min2_int max_two min_two
theorem chunk_in (F : Fence) (n : Nat) (hf : F.fn 105) (hro : F.round = none) (A : Option Addr) (len cap : Nat) (w : World) :
  CallsIn F n Try.prog 105 #[.slice A len cap, .int .i64 16] w fun e w' => e = .returned (.func (.func 140) #[] #[.pointer (some ⟨w.heap.size, 0, none⟩), .pointer (some ⟨w.heap.size + 1, 0, none⟩)]) ∧ w' = (w.alloc (.cells #[.slice A len cap] 27)).alloc (.cells #[.int .i64 16] 3) := by
 have hmf : ∀ (fn : Fn) (first cap : Array Value) (w : World), (Instr.makeFunc fn first cap).run Try.prog w = .ok (.func fn first cap) w := fun _ _ _ _ => rfl
 refine callsIn_of_wp Try.func105 rfl hf ?_ hro
 simp only [Try.ntmps105, List.size_toArray, List.length_cons, List.length_nil, Nat.reduceAdd, Nat.reduceSub, Array.replicate_succ, Array.replicate_zero, List.push_toArray, List.append_toArray, List.nil_append, List.cons_append]
 gi_wp2
 go_ret
 exact ⟨rfl, rfl⟩
def chunkV (ad : Addr) (n k : Nat) : Value := .slice (some (ad.add (16 * k * 2))) (min 16 (n - 16 * k) : Nat) (min 16 (n - 16 * k) : Nat)
def chunks (n : Nat) : Nat := (n + 15) / 16
abbrev CI (len : Nat) := {k : Nat // 16 * k < len}
def KpC (n₀ B1 B2 : Nat) (sv : Value) (W W' : World) : Prop := Below n₀ W W' ∧ (Boxed W B1 27 sv → Boxed W' B1 27 sv) ∧ (Boxed W B2 3 (.int .i64 16) → Boxed W' B2 3 (.int .i64 16))
theorem KpC.trans {n₀ B1 B2 : Nat} {sv : Value} {A B C : World} (h : KpC n₀ B1 B2 sv A B) (k : KpC n₀ B1 B2 sv B C) : KpC n₀ B1 B2 sv A C := ⟨h.1.trans k.1, fun x => k.2.1 (h.2.1 x), fun x => k.2.2 (h.2.2 x)⟩
theorem chunk1_in (F : Fence) (n : Nat) (hf : F.fn 140) (hro : F.round = none) (hn : 1 ≤ n) (l B1 B2 n₀ len cap : Nat) (ad : Addr) (A : Option Addr) (hA : 0 < len → A = some ad) (hlen : len ≤ 1000000) (hcap : len ≤ cap) (J Jx : List (CI len) → World → Prop) (hJd : ∀ pre W, J pre W → J pre W.drew)
  (hY : ∀ pre x W, J pre W → pre.length < chunks len → YieldAt F (n - 1) Try.prog l #[chunkV ad len x.1] W fun e W' =>
   (e = .returned (.bool true) ∧ J (pre ++ [x]) W' ∧ KpC n₀ B1 B2 (.slice A len cap) W W') ∨ (e = .returned (.bool false) ∧ Jx (pre ++ [x]) W'))
  (W : World) (hB1 : Boxed W B1 27 (.slice A len cap)) (hB2 : Boxed W B2 3 (.int .i64 16)) (h0 : J [] W) :
  CallsIn F n Try.prog 140 #[.func (.yield l) #[] #[], .pointer (some ⟨B1, 0, none⟩), .pointer (some ⟨B2, 0, none⟩)] W fun e W' => (∃ v, e = .returned v) ∧
   ((∃ ys : List (CI len), ys.map (·.1) = List.range (chunks len) ∧ J ys W') ∨ (∃ pre, True ∧ Jx pre W')) := by
 refine callsIn_of_wp Try.func140 rfl hf ?_ hro
 simp only [Try.ntmps140, List.size_toArray, List.length_cons, List.length_nil, Nat.reduceAdd, Nat.reduceSub, Array.replicate_succ, Array.replicate_zero, List.push_toArray, List.append_toArray, List.nil_append, List.cons_append]
 gi_wp2
 gi_loopw [4, 5] (fun i _ wr => ∃ (k : Nat) (pre : List (CI len)), i = .int .i64 ((16 * k : Nat) : Int) ∧ k ≤ chunks len ∧ pre.map (·.1) = List.range k ∧ J pre wr ∧ Boxed wr B1 27 (.slice A len cap) ∧ Boxed wr B2 3 (.int .i64 16))
  (fun i _ _ => 16 + len - (intOf i).toNat)
 case atStart => exact ⟨0, [], rfl, Nat.zero_le _, rfl, h0, hB1, hB2⟩
 case round =>
  obtain ⟨k, pre, rfl, hk, hpre, hJs, hb1, hb2⟩ := hrel
  have hplen : pre.length = k := by have := congrArg List.length hpre; simpa using this
  have hc1 := hb1.cell
  have hc2 := hb2.cell
  by_cases hlt : 16 * k < len
  ·
   obtain rfl := hA (by omega)
   obtain ⟨fn, tmps, assign, body, hy, hR⟩ := hY pre ⟨k, hlt⟩ wr.drew (hJd _ _ hJs) (by rw [hplen]; unfold chunks; omega)
   obtain ⟨q, hq⟩ : ∃ q : Nat, min 16 (len - 16 * k) = q := ⟨_, rfl⟩
   have hq1 : 16 * k + q ≤ len := by omega
   have hq2 : 16 * k + q - 16 * k = q := by omega
   have hd : decide (((16 * k : Nat) : Int) < (len : Int)) = true := decide_eq_true (by omega)
   have hm : (if ((len - 16 * k : Nat) : Int) < 16 then ((len - 16 * k : Nat) : Int) else 16) = ((min 16 (len - 16 * k) : Nat) : Int) := by split <;> omega
   have hqv : chunkV ad len k = .slice (some (ad.add (16 * k * 2))) (q : Nat) (q : Nat) := by unfold chunkV; rw [hq]
   dsimp only at hy
   rw [hqv] at hy
   rw [hq] at hm
   gi_wp2
   gi_region
   all_goals (
    gi_wp2
    refine hR.mono ?_
    rintro e W3 (⟨rfl, hJ3, hk3⟩ | ⟨rfl, hJx3⟩)
    ·
     have hb1' := hk3.2.1 hb1
     have hb2' := hk3.2.2 hb2
     have hc2' := hb2'.cell
     have hw : wrap64 (((16 * k : Nat) : Int) + 16) = ((16 * (k + 1) : Nat) : Int) := by unfold wrap64; omega
     gi_wp2
     go_roundw
     case rel => exact ⟨k + 1, pre ++ [⟨k, hlt⟩], by first | rfl | (simp; omega), by unfold chunks at *; omega, by rw [List.range_succ, List.map_append, hpre]; rfl, hJ3, hb1', hb2'⟩
     case measure => simp [intOf]; omega
    ·
     gi_wp2
     refine bodyPost_ret (results_none rfl _ _ _) rfl ?_
     exact ⟨⟨_, rfl⟩, .inr ⟨_, trivial, hJx3⟩⟩)
  ·
   have hk2 : k = chunks len := by unfold chunks at *; omega
   have hd : decide (((16 * k : Nat) : Int) < (len : Int)) = false := decide_eq_false (by omega)
   gi_wp2
   go_end0
   exact ⟨⟨_, rfl⟩, .inl ⟨_, by rw [hpre, hk2], hJs⟩⟩
end Go.Proofs.Ytekanmieppnpeaa.Fe
end
section
namespace Go.Proofs.Ytekanmieppnpeaa.Fe
open Go Go.RowKit Go.Proofs.YtekanmieppnpeaaW.PrintWords Go.Proofs.YtekanmieppnpeaaW.PrintLast Go.Proofs.YtekanmieppnpeaaW.PrintMore Go.Proofs.Ytekanmieppnpeaa.Sep Go.Proofs.Ytekanmieppnpeaa.G Go.Proofs.Ytekanmieppnpeaa.Tb
set_option maxHeartbeats 4000000
set_option maxRecDepth 100000
attribute [local go_sem] Oper.semAt_some
def appX (ats : Array TypeId) (ty : TypeId) (args : Array Value) := Builtin.append_ ats ty args
theorem builtin_appX (ats : Array TypeId) (ty : TypeId) (cs : Array Bool) (args : Array Value) : builtin .append ats ty cs args = (do pure (.value (← appX ats ty args))) := rfl
attribute [local go_sem ↓ high] builtin_appX
def fenceAt (l : List E1) (k : Nat) : Int := (rd_T33 l ((16 * k : Nat) : Int)).f0
def fencesE (l : List E1) : List Int := (List.range (chunks l.length)).map (fenceAt l)
theorem chunk_stops (F : Fence) (n : Nat) (hf : F.fn 140) (hro : F.round = none) (hn : 1 ≤ n) (B1 B2 n₀ len cap : Nat) (ad : Addr) (A : Option Addr) (hA : 0 < len → A = some ad) (hlen : len ≤ 1000000) (hcap : len ≤ cap) (w : World)
  (hB1 : Boxed w B1 27 (.slice A len cap)) (hB2 : Boxed w B2 3 (.int .i64 16)) :
  SeqStopsK F n Try.prog 140 #[.pointer (some ⟨B1, 0, none⟩), .pointer (some ⟨B2, 0, none⟩)] (fun k : CI len => #[chunkV ad len k.1]) (KpC n₀ B1 B2 (.slice A len cap)) (fun ys => ys.map (·.1) = List.range (chunks len)) (fun _ => True) (chunks len) w := fun l J Jx W hW hJ _ hY h0 =>
 chunk1_in F n hf hro hn l B1 B2 n₀ len cap ad A hA hlen hcap J Jx (fun pre W h => hJ _ _ _ none h ⟨rfl, rfl, rfl, Nat.le_refl _, fun _ _ _ => rfl⟩ (fun r e => by cases e)) hY W ((hW.block B1 hB1.lt).trans hB1) ((hW.block B2 hB2.lt).trans hB2) h0
theorem fence_Of_in (F : Fence) (n : Nat) (h1 : F.fn 45) (h2 : F.fn 105) (h3 : F.fn 140) (hro : F.round = none) (hn : 3 ≤ n) (A : Option Addr) (cap : Nat) (l : List E1) (hlen : l.length ≤ 1000000) (hcap : l.length ≤ cap) (w : World) (hC : kE.C w A l.length l) :
  CallsIn F n Try.prog 45 #[.slice A l.length cap] w fun e W' => ∃ v, e = .returned v ∧ W'.ownsRow w.heap.size 30 1 v (fencesE l).length ((fencesE l).map (Value.int .u64)) ∧ Below w.heap.size w W' := by
 have hn1 : 1 ≤ n := by omega
 have infoU : (Try.prog.info? 30).map (fun i => (i.zero, i.size, i.bytes)) = some (some (.int .u64 0), 1, 8) := by kernel_rfl
 obtain ⟨i0, hi, hz0, hz1, hz2⟩ := info_parts infoU
 obtain ⟨ad, hA⟩ : ∃ ad : Addr, 0 < l.length → A = some ad := by
  cases A with
  | some ad => exact ⟨ad, fun _ => rfl⟩
  | none => exact ⟨⟨0, 0, none⟩, fun h => by obtain ⟨ad, e, _⟩ := at_T33 hC 0 (by omega) (by omega); cases e⟩
 refine callsIn_of_wp_marks Try.func45 rfl h1 ?_ hro
 simp only [Try.ntmps45, List.size_toArray, List.length_cons, List.length_nil, Nat.reduceAdd, Nat.reduceSub, Array.replicate_succ, Array.replicate_zero, List.push_toArray, List.append_toArray, List.nil_append, List.cons_append]
 gi_wp2_with (gi_at_call 105; refine (chunk_in F (n - 1) h2 hro _ _ _ _).mono ?_; rintro e w' ⟨rfl, rfl⟩)
 have bO := Boxed.new w 31 (.slice none 0 0)
 have bS := Boxed.new (w.alloc (.cells #[.slice none 0 0] 31)) 27 (.slice A l.length cap)
 have bN := Boxed.new ((w.alloc (.cells #[.slice none 0 0] 31)).alloc (.cells #[.slice A l.length cap] 27)) 3 (.int .i64 16)
 rw [World.size_alloc] at bS
 rw [World.size_alloc, World.size_alloc] at bN
 have hB0 : Below w.heap.size w (((w.alloc (.cells #[.slice none 0 0] 31)).alloc (.cells #[.slice A l.length cap] 27)).alloc (.cells #[.int .i64 16] 3)) := (((Below.refl _ w).alloc (Nat.le_refl _) _).alloc (by simp) _).alloc (by simp; omega) _
 obtain ⟨g, hg⟩ : ∃ g : CI l.length → Int, g = fun x => fenceAt l x.1 := ⟨_, rfl⟩
 refine wpIn_rangeFunc_ownG (α := CI l.length) hro hn1 (gf := 140) (lb := #[.pointer (some ⟨w.heap.size + 1, 0, none⟩), .pointer (some ⟨w.heap.size + 1 + 1, 0, none⟩)]) rfl h3 (enters_of Try.func140 (by kernel_rfl) rfl)
  (chunk_stops F (n - 1) h3 hro (by omega) (w.heap.size + 1) (w.heap.size + 1 + 1) w.heap.size l.length cap ad A hA hlen hcap _ (bS.alloc _) bN) KpC.trans ?hKb (Below.refl _ _) (fun _ => rfl)
  (fun (pre : List (CI l.length)) W => (∃ v, Boxed W w.heap.size 31 v ∧ W.ownsRow w.heap.size 30 1 v pre.length ((pre.map g).map (Value.int .u64)) ∧ True) ∧ Below w.heap.size w W)
  (fun _ _ _ => False)
  (OwnFrom.and (Own.from (holdsRow_own w.heap.size w.heap.size 31 30 1 (fun pre : List (CI l.length) => pre.length) (fun pre : List (CI l.length) => (pre.map g).map (Value.int .u64)) (fun (pre : List (CI l.length)) v => True)) _) (ownFrom_below (Nat.le_refl _) (by simp; omega)))
  (fun _ _ _ _ _ hs _ _ => hs)
  ⟨⟨_, (bO.alloc _).alloc _, World.ownsRow_nil _ _ _ _, trivial⟩, hB0⟩
  (fun x => { tmps := #[.slice A l.length cap, undef, .slice none 0 0, .pointer (some ⟨w.heap.size, 0, none⟩), chunkV ad l.length x.1, .slice A l.length cap, .func (.func 140) #[] #[.pointer (some ⟨w.heap.size + 1, 0, none⟩), .pointer (some ⟨w.heap.size + 1 + 1, 0, none⟩)], chunkV ad l.length x.1, undef, undef, undef, undef, undef, undef, undef, undef], defers := [] }) ?assign ?body ?done ?stop
 case hKb =>
  intro W q o o' hq ho hc hw
  have hq2 : w.heap.size + 3 ≤ q := by simpa using hq
  refine ⟨(belowK_b (w := w) (Nat.le_refl _)) W q o o' (by omega) ho hc hw, fun hb => ?_, fun hb => ?_⟩
  ·
   exact (World.putObj_heap_other (by omega)).trans hb
  ·
   exact (World.putObj_heap_other (by omega)).trans hb
 case assign =>
  intro lo x W K hK
  gi_wp2
  exact hK
 case body =>
  rintro lo pre x W ⟨⟨v, hv, hrow, -⟩, hB⟩ hlt
  have hxl := x.2
  obtain rfl := hA (by omega)
  obtain ⟨ad2, ea, hx0, hx1⟩ := at_T33 (Kd.C_below hC hB) ((16 * x.1 : Nat) : Int) (by omega) (by omega)
  cases ea
  rw [Int.toNat_natCast] at hx0
  have hgx : (rd_T33 l ((16 * x.1 : Nat) : Int)).f0 = g x := by rw [hg]; rfl
  rw [hgx] at hx0
  clear hgx hg
  obtain ⟨q, hq⟩ : ∃ q : Nat, min 16 (l.length - 16 * x.1) = q := ⟨_, rfl⟩
  have hqp : 0 < q := by omega
  have hcv : chunkV ad l.length x.1 = .slice (some (ad.add (16 * x.1 * 2))) q q := by unfold chunkV; rw [hq]
  rw [hcv]
  have hpl : pre.length ≤ 1000000 := by unfold chunks at hlt; omega
  have hvd : Boxed W.drew w.heap.size 31 v := hv
  have hrowd : W.drew.ownsRow w.heap.size 30 1 v pre.length ((pre.map g).map (Value.int .u64)) := hrow
  obtain ⟨v', w1, hrun, hown', hgrow, -⟩ := run_append_own (P := Try.prog) (w := W.drew.alloc (.cells #[.int .u64 (g x)] 30)) w.heap.size 31 31 30 i0 (.int .u64 0) 1 8 Try.underlying31 hi hz0 hz1 hz2 rfl (by decide) v pre.length _ (hrowd.alloc _) ⟨W.heap.size, 0, none⟩ 1 1 [.int .u64 (g x)] rfl (cell_one_new _ _ _) (by simp [Value.oneCell']) (by unfold maxLen; omega) (by omega) (by have := hB.size; simp; omega)
  obtain ⟨g', cap', rfl⟩ := ownsRow_succ hown'
  replace hrun : (appX #[31, 31] 31 #[v, .slice (some ⟨W.heap.size, 0, none⟩) 1 1]).run Try.prog ((W.alloc (.cells #[.int .u64 (g x)] 30)).drew) = .ok (.slice (some ⟨g', 0, none⟩) (pre.length + 1) cap') w1 := hrun
  obtain ⟨hv1, hv2, hr2, hk2, hb2'⟩ := hvd.appended (by decide) hrowd hB.size (Nat.le_refl _) hown' hgrow
  have hb2 : Below w.heap.size W (w1.setCell ⟨w.heap.size, 0, none⟩ (.slice (some ⟨g', 0, none⟩) (pre.length + 1) cap')) := ⟨hb2'.os, hb2'.tape, hb2'.output, hb2'.size, hb2'.block⟩
  clear hb2'
  have hKB : KpC w.heap.size (w.heap.size + 1) (w.heap.size + 1 + 1) (.slice (some ad) l.length cap) W (w1.setCell ⟨w.heap.size, 0, none⟩ (.slice (some ⟨g', 0, none⟩) (pre.length + 1) cap')) :=
   ⟨hb2, fun hb => (((show Boxed W.drew _ _ _ from hb).alloc _).kept hgrow (Boxed.not_row (show Boxed W.drew _ _ _ from hb) (by decide) hrowd)).other (by omega) _, fun hb => (((show Boxed W.drew _ _ _ from hb).alloc _).kept hgrow (Boxed.not_row (show Boxed W.drew _ _ _ from hb) (by decide) hrowd)).other (by omega) _⟩
  have hc := hv.cell
  have hcA : (W.alloc (.cells #[.int .u64 (g x)] 30)).cell? ⟨w.heap.size, 0, none⟩ = some v := (hv.alloc _).cell
  have hcB : (W.alloc (.cells #[.int .u64 (g x)] 30)).drew.cell? ⟨w.heap.size, 0, none⟩ = some v := (hv.alloc _).cell
  have hc1 := hv1.cell
  have hf1 := hv1.frozen
  have hm : Try.prog.follows .mixedOrders = true := by kernel_rfl
  have hAll := Aside0.mk (And.intro hKB (And.intro hv2 (And.intro hr2 (And.intro hk2 hb2))))
  clear hKB hv2 hr2 hk2 hb2 hv1 hgrow hown' hvd hrowd hcv hx1
  gi_wp2
  gi_region_with_o (fail)
  all_goals (
   gi_wp2
   obtain ⟨k1, k2, k3, k4, k5⟩ := hAll.out
   exact ⟨((KeepsOthers.drew W).trans k4).from _, k1, ⟨_, k2, by rw [List.length_append, List.map_append, List.map_append]; exact k3, trivial⟩, hB.trans k5⟩)
 case done =>
  rintro D ys W hD hS ⟨⟨v, hv, hrow, -⟩, hB⟩ hK
  have hc := hv.cell
  have hys : ys.map g = fencesE l := by
   have : (ys.map (·.1)).map (fenceAt l) = fencesE l := by rw [hS]; rfl
   rw [List.map_map] at this
   rw [hg]; exact this
  have hyl : ys.length = (fencesE l).length := by rw [← hys, List.length_map]
  rw [hys, hyl] at hrow
  gi_wp2
  refine ⟨by simp, .inl ⟨_, _, rfl, run_takeDeferred hK, ?_⟩⟩
  exact ⟨_, results_tmp rfl _ _ _, v, rfl, ownsRow_putObj hrow _ hK rfl, hB.trans (belowK_b (w := w) (Nat.le_refl _) W D _ _ (by simp at hD; omega) hK rfl rfl)⟩
 case stop =>
  rintro D c pre W _ _ h _
  exact h.elim
theorem fence_Of (A : Option Addr) (cap : Nat) (l : List E1) (hlen : l.length ≤ 1000000) (hcap : l.length ≤ cap) (w : World) (hC : kE.C w A l.length l) :
  Calls Try.prog 45 #[.slice A l.length cap] w fun e W' => ∃ v, e = .returned v ∧ (Kd.int .u64).R 30 W' w.heap.size (fun _ => True) v (fencesE l) ∧ Below w.heap.size w W' := by
 refine (callsIn_wide (n := 3)).1 ((fence_Of_in Fence.wide 3 trivial trivial trivial rfl (by omega) A cap l hlen hcap w hC).mono ?_)
 rintro e W' ⟨v, rfl, hr, hb⟩
 exact ⟨v, rfl, Kd.R_of_own hr (fun _ _ => trivial), hb⟩
end Go.Proofs.Ytekanmieppnpeaa.Fe
end
section
namespace Go.Proofs.Ytekanmieppnpeaa.Tb
open Go Go.RowKit Go.Proofs.YtekanmieppnpeaaW.PrintWords Go.Proofs.YtekanmieppnpeaaW.PrintLast Go.Proofs.YtekanmieppnpeaaW.PrintMore Go.Proofs.Ytekanmieppnpeaa.PureKit Go.Proofs.Ytekanmieppnpeaa.Sep Go.Proofs.Ytekanmieppnpeaa.G Go.Proofs.Ytekanmieppnpeaa.Fe
set_option maxHeartbeats 8000000
set_option maxRecDepth 100000
theorem count_E (n : Nat) (h : n ≤ 1000000000) : fence_Count.f (n : Int) = some ((chunks n : Nat) : Int) := by
 unfold fence_Count.f chunks
 have e1 : mx 0 (n : Int) = (n : Int) := by unfold mx; split <;> omega
 rw [e1, w64 (x := (n : Int) + 16) (by omega) (by omega), w64 (x := (n : Int) + 16 - 1) (by omega) (by omega), Int.tdiv_eq_ediv_of_nonneg (by omega), w64 (by omega) (by omega)]
 congr 1
 omega
def ffail (e : Int) : Int × Int × List E1 × List Int := (e, 0, [], [])
def footrun2 (b : List Int) (n : Nat) : Int × Int × List E1 × List Int :=
 if b.length < 9 + 12 * n then ffail 2 else if riseE (entsAt b 9 n) = false then ffail 8 else
 if b.length < 9 + 12 * n + 8 * chunks n then ffail 2 else if risesF (fensAt b (9 + 12 * n) (chunks n)) = false then ffail 8 else
 if 9 + 12 * n + 8 * chunks n < b.length then ffail 3 else (0, lev ((b.take (5 + 4)).drop 5), entsAt b 9 n, fensAt b (9 + 12 * n) (chunks n))
def footrun (b : List Int) : Int × Int × List E1 × List Int :=
 if b.length < 1 then ffail 2 else if b.getD 0 0 ≠ 4 then ffail 4 else if b.length < 5 then ffail 2 else
 if lev ((b.take (1 + 4)).drop 1) > 1048576 then ffail 3 else if b.length < 9 then ffail 2 else footrun2 b (lev ((b.take (1 + 4)).drop 1)).toNat
abbrev capF (gf gz : Nat) (u : Int) (A : Option Addr) (n c : Nat) (B : Option Addr) (m d : Nat) : List HP := [blk gf #[.int .u32 u, .slice A n c] 29, blk gz #[.slice B m d] 31]
def QF (gf gz : Nat) (b : List Int) (x : Int) (qs : List HP) : Prop :=
 x = (footrun b).1 ∧ (x = 0 → ∃ (A : Option Addr) (n c : Nat) (B : Option Addr) (m d : Nat), qs = capF gf gz (footrun b).2.1 A n c B m d ++ [row (Kd.int .u64) 30 (.slice B m d) (footrun b).2.2.2, row kE 33 (.slice A n c) (footrun b).2.2.1])
theorem foot_fail {w0 w2 : World} {g gf gz at_ : Nat} {b : List Int} {R ps : List HP} (h : Sep.Sep w0 w2 (cur g b at_ true :: (R ++ ps))) (x : Int) (hx : footrun b = ffail x) (hx0 : x ≠ 0) :
  ∃ (at2 : Nat) (x' : Int) (qs : List HP), QF gf gz b x' qs ∧ Sep.Sep w0 w2 (cur g b at2 true :: (qs ++ ps)) ∧ ((Ending.panicked [fault g x] = .returned (.tuple #[]) ∧ x' = 0) ∨ Ending.panicked [fault g x] = .panicked [fault g x']) :=
 ⟨at_, x, [], ⟨by rw [hx]; rfl, fun h => absurd h hx0⟩, Sep.pickR0 R h, .inr rfl⟩
theorem clos_foot (w0 w : World) (g gf gz : Nat) (b : List Int) (ps : List HP) (hs : Sep.Sep w0 w (cur g b 0 true :: (capF gf gz 0 none 0 0 none 0 0 ++ ps))) (hb : Bytes b) (hl : b.length ≤ 100000) :
  Calls Try.prog 82 #[.pointer (some ⟨g, 0, none⟩), .pointer (some ⟨gf, 0, none⟩), .pointer (some ⟨gz, 0, none⟩)] w fun e w2 =>
   ∃ (at2 : Nat) (x : Int) (qs : List HP), QF gf gz b x qs ∧ Sep.Sep w0 w2 (cur g b at2 true :: (qs ++ ps)) ∧ ((e = .returned (.tuple #[]) ∧ x = 0) ∨ e = .panicked [fault g x]) := by
 have hS := Aside0.mk hs
 have hbA := Aside0.mk hb
 have hlA := Aside0.mk hl
 have hl12 := Aside0.mk (show b.length ≤ 1000000000000 by omega)
 clear hs hb hl
 go_enter Try.func82, Try.ntmps82
 go_wp2_with (fail)
 by_cases h1 : b.length < 1
 ·
  refine (cur_Byte_short w0 _ g 0 b _ hS.out hl12.out (by omega)).mono ?_
  rintro e w2 ⟨rfl, h2⟩
  exact ⟨rfl, foot_fail (R := capF gf gz 0 none 0 0 none 0 0) h2 2 (by unfold footrun; rw [if_pos h1]) (by decide)⟩
 have e0 : b[0]'(by omega) = b.getD 0 0 := by rw [List.getD_eq_getElem?_getD, List.getElem?_eq_getElem (by omega)]; rfl
 refine (cur_Byte_some w0 _ g 0 b _ hS.out hbA.out hl12.out (by omega)).mono ?_
 rintro e w1 ⟨rfl, h2⟩
 rw [e0]
 have hS1 := Aside0.mk h2
 have h1A := Aside0.mk h1
 clear h2 hS e0 h1
 obtain ⟨y, hy⟩ : ∃ y, b.getD 0 0 = y := ⟨_, rfl⟩
 rw [hy]
 have hyA := Aside0.mk hy
 clear hy
 by_cases h4 : y ≠ 4
 ·
  have hd : (y != 4) = true := bne_iff_ne.2 h4
  have h4A := Aside0.mk h4
  clear h4
  go_wp2_with (fail)
  refine (cur_Fail w0 _ g _ b _ 4 hS1.out (by decide)).mono ?_
  rintro e w2 ⟨rfl, h2⟩
  exact ⟨rfl, foot_fail (R := capF gf gz 0 none 0 0 none 0 0) h2 4 (by unfold footrun; rw [if_neg h1A.out, if_pos (by rw [hyA.out]; exact h4A.out)]) (by decide)⟩
 obtain rfl : y = 4 := by omega
 clear h4
 go_wp2_with (fail)
 by_cases h5 : b.length < 5
 ·
  refine (cur_Four_short w0 _ g _ b _ hS1.out (by have := h1A.out; omega) hl12.out (by have := h1A.out; omega)).mono ?_
  rintro e w2 ⟨rfl, h2⟩
  exact ⟨rfl, foot_fail (R := capF gf gz 0 none 0 0 none 0 0) h2 2 (by unfold footrun; rw [if_neg h1A.out, if_neg (by rw [hyA.out]; decide), if_pos h5]) (by decide)⟩
 refine (cur_Four_some w0 _ g 1 b _ hS1.out hbA.out hl12.out (by omega)).mono ?_
 rintro e w2 ⟨rfl, h2⟩
 have hS2 := Aside0.mk h2
 have h5A := Aside0.mk h5
 obtain ⟨n, hn⟩ : ∃ n : Nat, lev ((b.take (1 + 4)).drop 1) = (n : Int) := ⟨(lev ((b.take (1 + 4)).drop 1)).toNat, by have := lev_lt b 1 4 hbA.out (by omega); omega⟩
 rw [hn]
 have hnA := Aside0.mk hn
 clear h2 hS1 h5 hn
 by_cases h3 : (n : Int) > 1048576
 ·
  have hd : decide ((n : Int) > 1048576) = true := decide_eq_true h3
  have hd2 : decide (1048576 < n) = true := decide_eq_true (by omega)
  have h3A := Aside0.mk h3
  clear h3
  go_wp2_with (fail)
  refine (cur_Fail w0 _ g _ b _ 3 hS2.out (by decide)).mono ?_
  rintro e w3 ⟨rfl, h2⟩
  exact ⟨rfl, foot_fail (R := capF gf gz 0 none 0 0 none 0 0) h2 3 (by unfold footrun; rw [if_neg h1A.out, if_neg (by rw [hyA.out]; decide), if_neg h5A.out, if_pos (by rw [hnA.out]; have := h3A.out; omega)]) (by decide)⟩
 have hd : decide ((n : Int) > 1048576) = false := decide_eq_false h3
 have hd2 : decide (1048576 < n) = false := decide_eq_false (by omega)
 have h3A := Aside0.mk h3
 have hwn : wrap64 (n : Int) = (n : Int) := w64 (by omega) (by omega)
 clear h3
 go_wp2_with (fail)
 by_cases h9 : b.length < 9
 ·
  refine (cur_Four_short w0 _ g _ b _ hS2.out (by have := h5A.out; omega) hl12.out (by have := h5A.out; omega)).mono ?_
  rintro e w3 ⟨rfl, h2⟩
  exact ⟨rfl, foot_fail (R := capF gf gz 0 none 0 0 none 0 0) h2 2 (by unfold footrun; rw [if_neg h1A.out, if_neg (by rw [hyA.out]; decide), if_neg h5A.out, if_neg (by rw [hnA.out]; have := h3A.out; omega), if_pos h9]) (by decide)⟩
 refine (cur_Four_some w0 _ g (1 + 4) b _ hS2.out hbA.out hl12.out (by omega)).mono ?_
 rintro e w3 ⟨rfl, h2⟩
 have hrun : Aside0 (footrun b = footrun2 b n) := ⟨by unfold footrun; rw [if_neg h1A.out, if_neg (by rw [hyA.out]; decide), if_neg h5A.out, if_neg (by rw [hnA.out]; have := h3A.out; omega), if_neg h9, hnA.out, Int.toNat_natCast]⟩
 have h9A := Aside0.mk h9
 obtain ⟨U, hU⟩ : ∃ U, lev ((b.take (1 + 4 + 4)).drop (1 + 4)) = U := ⟨_, rfl⟩
 rw [hU]
 have hUA := Aside0.mk hU
 have hcf_0 : w3.cell? ⟨gf, 0, none⟩ = some (.int .u32 0) := ((h2.pick1).cell 0).trans rfl; have hcf_1 : w3.cell? ⟨gf, 1, none⟩ = some (.slice none 0 0) := ((h2.pick1).cell 1).trans rfl
 have hz0 := h2.pick1.frozen 0
 have hS3 : Sep.Sep w0 (w3.setCell ⟨gf, 0, none⟩ (.int .u32 U)) (cur g b 9 true :: (capF gf gz U none 0 0 none 0 0 ++ ps)) := (h2.pick1.set 0 (.int .u32 U)).put1
 have hS3 := Aside0.mk hS3
 clear h2 hS2 h9 hU
 go_wp2_with (fail)
 generalize w3.setCell ⟨gf, 0, none⟩ (.int .u32 U) = w4 at hS3 ⊢
 clear hcf_0 hcf_1 hz0
 by_cases ht : b.length < 9 + 12 * n
 ·
  refine (table_Get_short w0 _ g 9 b _ (n : Int) hS3.out (by have := h9A.out; omega) (by have := hlA.out; omega) (by have := h9A.out; omega) (by have := h9A.out; omega)).mono ?_
  rintro e w5 ⟨rfl, h2⟩
  exact ⟨rfl, foot_fail (R := capF gf gz U none 0 0 none 0 0) h2 2 (by rw [hrun.out]; unfold footrun2; rw [if_pos ht]) (by decide)⟩
 have htA := Aside0.mk ht
 refine (table_Get_some w0 _ g 9 b _ (n : Int) n (by split <;> omega) hS3.out hbA.out (by have := hlA.out; omega) (by omega)).mono ?_
 clear ht
 rintro e w5 (⟨hr, A, c, rfl, h2⟩ | ⟨hr, rfl, h2⟩)
 rotate_left
 ·
  exact ⟨rfl, foot_fail (R := capF gf gz U none 0 0 none 0 0) h2 8 (by rw [hrun.out]; unfold footrun2; rw [if_neg htA.out, if_pos hr]) (by decide)⟩
 have hrA := Aside0.mk hr
 have hcf_0 : w5.cell? ⟨gf, 0, none⟩ = some (.int .u32 U) := ((h2.pick2).cell 0).trans rfl; have hcf_1 : w5.cell? ⟨gf, 1, none⟩ = some (.slice none 0 0) := ((h2.pick2).cell 1).trans rfl
 have hz1 := h2.pick2.frozen 1
 have hS5 : Sep.Sep w0 (w5.setCell ⟨gf, 1, none⟩ (.slice A n c)) (cur g b (9 + 12 * n) true :: (capF gf gz U A n c none 0 0 ++ row kE 33 (.slice A n c) (entsAt b 9 n) :: ps)) := (h2.pick2.set 1 (.slice A n c)).pick3.pick1.pick3
 have hS5 := Aside0.mk hS5
 have hct := Aside0.mk (count_E n (by have := htA.out; have := hlA.out; omega))
 clear h2 hS3 hr
 go_wp2_with (fail)
 generalize w5.setCell ⟨gf, 1, none⟩ (.slice A n c) = w6 at hS5 ⊢
 clear hcf_0 hcf_1 hz1
 refine (fence_Count.calls (n : Int) ((chunks n : Nat) : Int) _ hct.out).mono ?_
 rintro e w7 ⟨rfl, hb7⟩
 have hS7 := Aside0.mk (hS5.out.below (by first | exact hb7.below | exact hb7))
 clear hb7 hS5
 go_wp2_with (fail)
 by_cases hf : b.length < 9 + 12 * n + 8 * chunks n
 ·
  refine (fence_Get_short w0 _ g (9 + 12 * n) b _ ((chunks n : Nat) : Int) hS7.out (by have := htA.out; omega) (by have := hlA.out; omega) (by have := htA.out; omega) (by have := htA.out; omega)).mono ?_
  rintro e w8 ⟨rfl, h2⟩
  exact ⟨rfl, foot_fail (R := capF gf gz U A n c none 0 0 ++ [row kE 33 (.slice A n c) (entsAt b 9 n)]) h2 2 (by rw [hrun.out]; unfold footrun2; rw [if_neg htA.out, if_neg (by rw [hrA.out]; decide), if_pos hf]) (by decide)⟩
 have hfA := Aside0.mk hf
 refine (fence_Get_some w0 _ g (9 + 12 * n) b _ ((chunks n : Nat) : Int) (chunks n) (by split <;> omega) hS7.out hbA.out (by have := hlA.out; omega) (by omega)).mono ?_
 clear hf
 rintro e w8 (⟨hr, B, d, rfl, h2⟩ | ⟨hr, rfl, h2⟩)
 rotate_left
 ·
  exact ⟨rfl, foot_fail (R := capF gf gz U A n c none 0 0 ++ [row kE 33 (.slice A n c) (entsAt b 9 n)]) h2 8 (by rw [hrun.out]; unfold footrun2; rw [if_neg htA.out, if_neg (by rw [hrA.out]; decide), if_neg hfA.out, if_pos hr]) (by decide)⟩
 have hr2A := Aside0.mk hr
 have hcz_0 : w8.cell? ⟨gz, 0, none⟩ = some (.slice none 0 0) := ((h2.pick3).cell 0).trans rfl
 have hz := h2.pick3.frozen 0
 have hS9 : Sep.Sep w0 (w8.setCell ⟨gz, 0, none⟩ (.slice B (chunks n) d)) (cur g b (9 + 12 * n + 8 * chunks n) true :: ((capF gf gz U A n c B (chunks n) d ++ [row (Kd.int .u64) 30 (.slice B (chunks n) d) (fensAt b (9 + 12 * n) (chunks n)), row kE 33 (.slice A n c) (entsAt b 9 n)]) ++ ps)) := (h2.pick3.set 0 (.slice B (chunks n) d)).pick3.pick3
 have hS9 := Aside0.mk hS9
 clear h2 hS7 hr
 go_wp2_with (fail)
 generalize w8.setCell ⟨gz, 0, none⟩ (.slice B (chunks n) d) = w9 at hS9 ⊢
 clear hcz_0 hz
 by_cases he : 9 + 12 * n + 8 * chunks n < b.length
 ·
  refine (cur_End_long w0 _ g _ b _ hS9.out he hl12.out).mono ?_
  rintro e w10 ⟨rfl, h2⟩
  exact ⟨rfl, foot_fail (R := capF gf gz U A n c B (chunks n) d ++ [row (Kd.int .u64) 30 (.slice B (chunks n) d) (fensAt b (9 + 12 * n) (chunks n)), row kE 33 (.slice A n c) (entsAt b 9 n)]) h2 3 (by rw [hrun.out]; unfold footrun2; rw [if_neg htA.out, if_neg (by rw [hrA.out]; decide), if_neg hfA.out, if_neg (by rw [hr2A.out]; decide), if_pos he]) (by decide)⟩
 refine (cur_End_ok w0 _ g _ b _ hS9.out (by have := hfA.out; omega) hl12.out).mono ?_
 rintro e w10 ⟨rfl, h2⟩
 have hfin : Aside0 (footrun b = (0, U, entsAt b 9 n, fensAt b (9 + 12 * n) (chunks n))) := ⟨by rw [hrun.out]; unfold footrun2; rw [if_neg htA.out, if_neg (by rw [hrA.out]; decide), if_neg hfA.out, if_neg (by rw [hr2A.out]; decide), if_neg he]; rw [← hUA.out]⟩
 have hS10 := Aside0.mk h2
 clear h2 he
 go_wp2_with (fail)
 go_end0
 exact ⟨9 + 12 * n + 8 * chunks n, 0, _, ⟨by rw [hfin.out], fun _ => ⟨A, n, c, B, chunks n, d, by rw [hfin.out]⟩⟩, hS10.out, .inl ⟨rfl, rfl⟩⟩
end Go.Proofs.Ytekanmieppnpeaa.Tb
end
section
namespace Go.Proofs.Ytekanmieppnpeaa.G
open Go.RowKit Go.Proofs.YtekanmieppnpeaaW.PrintWords Go.Proofs.YtekanmieppnpeaaW.PrintLast Go.Proofs.YtekanmieppnpeaaW.PrintMore
attribute [local go_sem] max2_int min2_int max_two min_two max_three min_three max_four min_four
theorem C_cells {k : IntKind} {w : World} {ad : Addr} {l : List Int} (h : Kd.C (Kd.int k) w (some ad) l.length l) (i : Nat) (hi : i < l.length) : w.cell? (ad.add i) = some (.int k (l.getD i 0)) := by
 obtain ⟨_, _, h3⟩ := h
 obtain ⟨ad', e, h4⟩ := h3 (by omega)
 cases e
 obtain ⟨c, hc1, hc2, hc3⟩ := h4 i _ (List.getElem?_eq_getElem hi)
 have hc2' : c = [Value.int k l[i]] := hc2
 subst hc2'
 have := hc3 0 _ rfl
 rw [show ad.add (i * (Kd.int k).sz + 0) = ad.add i from by simp [Kd.int, Kd.scalar]] at this
 rw [this, List.getD_eq_getElem?_getD, List.getElem?_eq_getElem hi]; rfl
theorem run_indexByteAt {P : Program} {w : World} {ad : Addr} {l : List Int} (c : Nat) (h : Kd.C (Kd.int .u8) w (some ad) l.length l) (cv : Int) :
  (Extern.BytealgIndexByte.indexByte #[.slice (some ad) l.length c, .int .u8 cv]).run P w = .ok (.int .i64 (Lib.indexByte (Lib.bytesOf l) cv.toNat.toUInt8)) w := by
 have hl := Lib.run_loadBytesX (P := P) w l ad .empty (fun j x hj => by
  have hjl : j < l.length := (List.getElem?_eq_some_iff.1 hj).1
  rw [C_cells h j hjl, List.getD_eq_getElem?_getD, hj]; rfl)
 have hs := Lib.run_indexByteString (P := P) ⟨(Lib.bytesOf l).toArray⟩ cv w
 have he : (⟨ByteArray.empty.data ++ (Lib.bytesOf l).toArray⟩ : ByteArray) = ⟨(Lib.bytesOf l).toArray⟩ := by
  apply ByteArray.ext
  show (#[] : Array UInt8) ++ (Lib.bytesOf l).toArray = (Lib.bytesOf l).toArray
  simp
 rw [he] at hl
 change Sem.run P (do
  let b ← Extern.Bytes.bytesOf (.slice (some ad) l.length c)
  let c ← Extern.Bytes.asByte (.int .u8 cv)
  match (List.range b.size).find? fun i => b[i]! == c with
  | some i => pure (goInt i)
  | none => pure (goInt (-1))) w = _
 change Sem.run P (do
  let b ← Extern.Bytes.bytesOf (.string ⟨(Lib.bytesOf l).toArray⟩)
  let c ← Extern.Bytes.asByte (.int .u8 cv)
  match (List.range b.size).find? fun i => b[i]! == c with
  | some i => pure (goInt i)
  | none => pure (goInt (-1))) w = _ at hs
 simp only [Extern.Bytes.bytesOf, Sem.run_bind, Sem.run_pure, hl, Result.andThen] at hs ⊢
 exact hs
def bytes_IndexByte.f (l0 : List Int) (a1 : Int) : Option Int := some (Lib.indexByte (Lib.bytesOf l0) a1.toNat.toUInt8)
set_option maxHeartbeats 1000000 in
set_option maxRecDepth 100000 in
theorem bytes_IndexByte.calls {n : Nat} (A0 : Option Addr) (c0 : Nat) (l0 : List Int) (a1 : Int) (r : Int) (w : World) (hr0 : Kd.C (Kd.int .u8) w A0 l0.length l0) (hc0 : l0.length ≤ c0) (h : bytes_IndexByte.f l0 a1 = some r)
  (hn : n = l0.length := by first | rfl | (simp only [List.length_drop, List.length_take]; rfl) | (simp only [List.length_drop, List.length_take]; (try simp only [decide_eq_true_eq, eq_iff_iff, iff_true] at *); omega)) :
  Calls Try.prog 109 #[.slice A0 n c0, .int .u8 a1] w fun e w' => e = .returned (.int .i64 r) ∧ Drawn0 w w' := by
 subst hn
 obtain rfl := Option.some.inj h
 have key : (Extern.BytealgIndexByte.indexByte #[.slice A0 l0.length c0, .int .u8 a1]).run Try.prog w = .ok (.int .i64 (Lib.indexByte (Lib.bytesOf l0) a1.toNat.toUInt8)) w := by
  cases A0 with
  | none =>
   obtain rfl := C_none hr0
   exact Lib.run_indexByteNil (P := Try.prog) w 0 c0 a1
  | some ad => exact run_indexByteAt c0 hr0 a1
 have K := Lib.hid key
 clear key hr0 hc0 h
 go_enter Try.func109, Try.ntmps109
 go_wp2
 rw [run_callFunc_extern Try.func141 (by kernel_rfl) (by kernel_rfl) (by kernel_rfl) (e := Extern.BytealgIndexByte.indexByte) (by kernel_rfl), K.out]
 simp only [Result.andThen]
 rw [Oper.upon_value]
 go_wp2
 go_ret
 exact ⟨rfl, Drawn0.refl _⟩
end Go.Proofs.Ytekanmieppnpeaa.G
end
section
namespace Go.Proofs.Ytekanmieppnpeaa.G
open Go.RowKit Go.Proofs.YtekanmieppnpeaaW.PrintWords Go.Proofs.YtekanmieppnpeaaW.PrintLast Go.Proofs.YtekanmieppnpeaaW.PrintMore
attribute [local go_sem] max2_int min2_int max_two min_two max_three min_three max_four min_four   -- for this text's walks alone
def cobs_Stuff.l0 : Nat → List Int → List Int → Option (List Int)
 | 0, _, _ => none
 | k + 1, x0, x3 => if 0 ≤ (mn (x0.length : Int) 254) then (if (mn (x0.length : Int) 254) ≤ (x0.length : Int) then ((bytes_IndexByte.f (x0.take ((mn (x0.length : Int) 254) : Int).toNat) 0).bind fun t209 => (if t209 ≥ 0 then (if x3.length < 140737488355328 then ((some (x3 ++ [(wrap64 (t209 + 1)) % 256] : List Int)).bind fun y210 => (if 0 ≤ t209 then (if t209 ≤ (x0.length : Int) then ((some (x0.take (t209 : Int).toNat : List Int)).bind fun y213 => (if y210.length + y213.length < 140737488355328 then (if 0 ≤ (wrap64 (t209 + 1)) then (if (wrap64 (t209 + 1)) ≤ (x0.length : Int) then (cobs_Stuff.l0 k (x0.drop ((wrap64 (t209 + 1)) : Int).toNat) (y210 ++ y213)) else (none)) else (none)) else (none))) else (none)) else (none))) else (none)) else (if (x0.length : Int) > 254 then (if x3.length < 140737488355328 then ((some (x3 ++ [255] : List Int)).bind fun y226 => (if 254 ≤ (x0.length : Int) then ((some (x0.take 254 : List Int)).bind fun y229 => (if y226.length + y229.length < 140737488355328 then (cobs_Stuff.l0 k (x0.drop 254) (y226 ++ y229)) else (none))) else (none))) else (none)) else (if x3.length < 140737488355328 then ((some (x3 ++ [(wrap64 ((x0.length : Int) + 1)) % 256] : List Int)).bind fun y242 => (if y242.length + x0.length < 140737488355328 then (some (y242 ++ x0)) else (none))) else (none))))) else (none)) else (none)
def cobs_Stuff.f (k : Nat) (l0 : List Int) : Option (List Int) := (cobs_Most.f (l0.length : Int)).bind fun t200 => (if 0 ≤ t200 then (if (t200 : Int).toNat ≤ 281474976710656 then (cobs_Stuff.l0 k l0 (([] : List Int))) else (none)) else (none))
theorem cobs_Stuff.mono_l : ∀ k, (∀ y0 y1, LeO (cobs_Stuff.l0 k y0 y1) (cobs_Stuff.l0 (k + 1) y0 y1))
 | 0 => fun _ _ r h => by simp [cobs_Stuff.l0] at h
 | k + 1 => by
  have ih0 := cobs_Stuff.mono_l k
  ·
   intro y0 y1
   unfold cobs_Stuff.l0
   repeat' first
   | (with_reducible exact ih0 _ _)
   | (with_reducible exact LeO.refl _)
   | (with_reducible exact LeO.none _)
   | (with_reducible refine LeO.ite ?_ ?_)
   | (with_reducible refine LeO.bind ?_ (fun _ => ?_))
   | exact ih0 _ _
   | exact LeO.none _
   | refine LeO.ite ?_ ?_
   | refine LeO.bind ?_ (fun _ => ?_)
theorem cobs_Stuff.mono : ∀ a0 k, LeO (cobs_Stuff.f k a0) (cobs_Stuff.f (k + 1) a0) := by
 intro a0 k
 have ih0 := cobs_Stuff.mono_l k
 unfold cobs_Stuff.f
 repeat' first
   | (with_reducible exact ih0 _ _)
   | (with_reducible exact LeO.refl _)
   | (with_reducible exact LeO.none _)
   | (with_reducible refine LeO.ite ?_ ?_)
   | (with_reducible refine LeO.bind ?_ (fun _ => ?_))
   | exact ih0 _ _
   | exact LeO.none _
   | refine LeO.ite ?_ ?_
   | refine LeO.bind ?_ (fun _ => ?_)
def cobs_Stuff.T5 : Bool × List (List Nat × List Nat) := (true, [([], []), ([], []), ([1], [1]), ([2], [2]), ([3], [3]), ([0, 4], [0, 4]), ([], []), ([], []), ([6, 7], [6, 7]), ([5, 8, 5], [5, 8]), ([9, 9, 0, 1, 2, 3, 4, 5, 6, 7, 8, 9], [0, 9])])
def cobs_Stuff.B5 : List Nat := [0, 0, 2, 6, 14, 31, 0, 0, 192, 511, 1023]
theorem cobs_Stuff.tab5 : rtab .any (opsOf Try.f60 5) = cobs_Stuff.T5 := by kernel_rfl
theorem cobs_Stuff.bits5 : waitsOk cobs_Stuff.T5.2 cobs_Stuff.B5 = true := by kernel_rfl
set_option maxHeartbeats 8000000 in
set_option maxRecDepth 100000 in
theorem cobs_Stuff.calls (k : Nat) (P0_ : Nat → Prop) (A0 : Option Addr) (c0 : Nat) (l0 : List Int) (r : List Int) (w : World) (hs0 : Kd.V (Kd.int .u8) 5 w w.heap.size (fun k_ => P0_ k_) (.slice A0 l0.length c0) l0) (h : cobs_Stuff.f k l0 = some r) :
  Calls Try.prog 60 #[.slice A0 l0.length c0] w fun e w' => ∃ v0_ : Value, e = .returned (v0_) ∧ Kd.R (Kd.int .u8) 5 w' w.heap.size (fun k_ => (w.heap.size ≤ k_)) v0_ r ∧ Below w.heap.size w w' := by
 have HO0 := Aside0.mk (show Kd.V (Kd.int .u8) 5 w w.heap.size (fun k_ => (P0_ k_ ∨ w.heap.size ≤ k_)) (.slice A0 l0.length c0) l0 from Kd.V_mono hs0 (fun k_ hk => .inl hk))
 have HB := Aside0.mk (Below.refl w.heap.size w)
 have H : ((cobs_Most.f (l0.length : Int)).bind fun t200 => (if 0 ≤ t200 then (if (t200 : Int).toNat ≤ 281474976710656 then (cobs_Stuff.l0 k l0 (([] : List Int))) else (none)) else (none))) = some r := h
 clear h
 replace H := Option.bind_eq_some_iff.mp H
 obtain ⟨t200, A20, H⟩ := H
 replace H : (if 0 ≤ t200 then (if (t200 : Int).toNat ≤ 281474976710656 then (cobs_Stuff.l0 k l0 (([] : List Int))) else (none)) else (none)) = some r := H
 have A2 := Aside0.mk A20
 clear A20
 by_cases c3 : 0 ≤ t200
 ·
  rw [if_pos c3] at H
  have c3b0 := eq_true c3
  have c3b1 : decide (0 ≤ t200) = true := decide_eq_true c3
  clear c3
  by_cases c4 : (t200 : Int).toNat ≤ 281474976710656
  ·
   rw [if_pos c4] at H
   have c4b0 := eq_true c4
   have c4b1 : decide ((t200 : Int).toNat ≤ 281474976710656) = true := decide_eq_true c4
   clear c4
   obtain ⟨y201, hy201⟩ : ∃ y_ : List Int, y_ = (([] : List Int)) := ⟨_, rfl⟩
   replace H : (cobs_Stuff.l0 k l0 y201) = some r := by first | (rw [hy201]; with_reducible exact H) | (have H2_ := (Option.bind_some _ _).symm.trans H; rw [hy201]; with_reducible exact H2_) | (have H2_ := (Option.bind_some _ _).symm.trans H; with_reducible exact H2_) | with_reducible exact H | (rw [hy201]; exact H) | exact H
   have Ny201 := Aside0.mk hy201
   clear hy201
   have H' := Aside0.mk H
   clear H
   go_enter Try.func60, Try.ntmps60
   go_wp2_with (first | ((with_reducible refine gate_callee (f := 64) rfl ?_); refine goesL_ (some 7) rfl rfl Try.func64 (by kernel_rfl) rfl #[.int .i64 (l0.length : Int)] rfl (by (try simp only [List.map_toArray, List.map_cons, List.map_nil]); first | done | rfl) ?_; (with_reducible refine (cobs_Most.calls (l0.length : Int) t200 _ A2.out).mono ?_); rintro e w' ⟨rfl, ⟨nd, rfl⟩⟩; refine ⟨_, rfl, ?_⟩) | ((with_reducible refine gate_dst (N := 8) rfl ?_); refine R_make0 (Kd.int .u8) _ 5 rfl (N := 8) rfl 39 _ _ rfl t200 rfl rfl Try.underlying39 (.int .u8 0) 1 info5 rfl (by decide) (by omega) (ok := fun _ => True) trivial (of_decide_eq_true (by first | (with_reducible assumption) | assumption)) (Nat.le_trans (Nat.mul_le_mul_right _ (of_decide_eq_true (by first | (with_reducible assumption) | assumption) : (t200 : Int).toNat ≤ 281474976710656)) (by omega)) (Below.refl _ _) (Nat.le_refl _) ?_; intro v202 w5 ho6 hb hg_ hnew_; clear hg_ hnew_; (first | rw [← Ny201.out] at ho6 | (simp only [Int.reduceToNat] at ho6; rw [← Ny201.out] at ho6)); replace HO0 := Aside0.mk (Kd.V_elder' (by (with_reducible repeat (first | apply Kd.V_alloc | apply Kd.V_drewN | apply Kd.V_drew)); exact HO0.out) (Kd.R_base ho6) hb); have HO203 := Aside0.mk (Kd.R_lower (Kd.R_newM (M := fun k_ => (w.heap.size ≤ k_)) ho6 (below_size (by repeat with_reducible first | exact HB.out | apply below_alloc | apply pw_below_drewN | apply below_drew1)) (fun k_ h_ => h_)) (below_size (by repeat with_reducible first | exact HB.out | apply below_alloc | apply pw_below_drewN | apply below_drew1))); replace HB := Aside0.mk (below_step (by repeat with_reducible first | exact HB.out | apply below_alloc | apply pw_below_drewN | apply below_drew1) hb); clear hb ho6))
   go_loopg [0, 3] k (fun kq v0 v3 w' => ∃ (x0_1 : List Int) (x3_1 : List Int), Aside0 (cobs_Stuff.l0 kq x0_1 x3_1 = some r) ∧ Aside0 (kq ≤ k) ∧ Aside0 (Kd.V (Kd.int .u8) 5 w' w.heap.size (fun k_ => (P0_ k_ ∨ w.heap.size ≤ k_) ∧ some k_ ≠ (v3 : Value).ownBlock) v0 x0_1) ∧ Aside0 (Kd.R (Kd.int .u8) 5 w' w.heap.size (fun k_ => (w.heap.size ≤ k_)) v3 x3_1) ∧ Aside0 (Below w.heap.size w w'))
   case atStart => exact ⟨(l0), (y201), H', ⟨Nat.le_refl _⟩, ⟨by (with_reducible repeat (first | apply Kd.V_alloc | apply Kd.V_drewN | apply Kd.V_drew)); exact HO0.out⟩, ⟨by (with_reducible repeat (first | apply Kd.R_alloc | apply Kd.R_drewN | apply Kd.R_drew)); exact Kd.R_mono HO203.out (fun _ hk => hk.1)⟩, ⟨by repeat (first | (with_reducible first | exact HB.out | apply below_alloc | apply pw_below_drewN | apply below_drew1) | exact HB.out)⟩⟩
   case round =>
    clear H'
    try clear p2
    try clear c3
    try clear c3b0
    try clear c3b1
    try clear c4
    try clear c4b0
    try clear c4b1
    try clear c6
    obtain ⟨x0_1, x3_1, HA, HK1, HO_0, HO_3, HB⟩ := hrel
    cases gk with
    | zero => exact absurd HA.out (by simp [cobs_Stuff.l0])
    | succ k1 =>
     have H := HA.out
     clear HA
     simp only [cobs_Stuff.l0] at H
     obtain ⟨ji7, hji7⟩ : ∃ j_ : Int, (mn (x0_1.length : Int) 254) = j_ := ⟨_, rfl⟩
     replace H : (if 0 ≤ (ji7) then (if (ji7) ≤ (x0_1.length : Int) then ((bytes_IndexByte.f (x0_1.take ((ji7) : Int).toNat) 0).bind fun t209 => (if t209 ≥ 0 then (if x3_1.length < 140737488355328 then ((some (x3_1 ++ [(wrap64 (t209 + 1)) % 256] : List Int)).bind fun y210 => (if 0 ≤ t209 then (if t209 ≤ (x0_1.length : Int) then ((some (x0_1.take (t209 : Int).toNat : List Int)).bind fun y213 => (if y210.length + y213.length < 140737488355328 then (if 0 ≤ (wrap64 (t209 + 1)) then (if (wrap64 (t209 + 1)) ≤ (x0_1.length : Int) then (cobs_Stuff.l0 k1 (x0_1.drop ((wrap64 (t209 + 1)) : Int).toNat) (y210 ++ y213)) else (none)) else (none)) else (none))) else (none)) else (none))) else (none)) else (if (x0_1.length : Int) > 254 then (if x3_1.length < 140737488355328 then ((some (x3_1 ++ [255] : List Int)).bind fun y226 => (if 254 ≤ (x0_1.length : Int) then ((some (x0_1.take 254 : List Int)).bind fun y229 => (if y226.length + y229.length < 140737488355328 then (cobs_Stuff.l0 k1 (x0_1.drop 254) (y226 ++ y229)) else (none))) else (none))) else (none)) else (if x3_1.length < 140737488355328 then ((some (x3_1 ++ [(wrap64 ((x0_1.length : Int) + 1)) % 256] : List Int)).bind fun y242 => (if y242.length + x0_1.length < 140737488355328 then (some (y242 ++ x0_1)) else (none))) else (none))))) else (none)) else (none)) = some r := by first | (rw [hji7] at H; exact H) | (simp only [hji7] at H ⊢; exact H)
     have hji7_ : (if 254 < (x0_1.length : Int) then 254 else (x0_1.length : Int)) = ji7 := hji7
     by_cases c8 : 0 ≤ (ji7)
     ·
      rw [if_pos c8] at H
      have c8b0 := eq_true c8
      have c8b1 : decide (0 ≤ (ji7)) = true := decide_eq_true c8
      clear c8
      by_cases c9 : (ji7) ≤ (x0_1.length : Int)
      ·
       rw [if_pos c9] at H
       have c9b0 := eq_true c9
       have c9b1 : decide ((ji7) ≤ (x0_1.length : Int)) = true := decide_eq_true c9
       clear c9
       obtain ⟨y204, hy204⟩ : ∃ y_ : List Int, y_ = (x0_1.take ((ji7) : Int).toNat) := ⟨_, rfl⟩
       replace H : ((bytes_IndexByte.f y204 0).bind fun t209 => (if t209 ≥ 0 then (if x3_1.length < 140737488355328 then ((some (x3_1 ++ [(wrap64 (t209 + 1)) % 256] : List Int)).bind fun y210 => (if 0 ≤ t209 then (if t209 ≤ (x0_1.length : Int) then ((some (x0_1.take (t209 : Int).toNat : List Int)).bind fun y213 => (if y210.length + y213.length < 140737488355328 then (if 0 ≤ (wrap64 (t209 + 1)) then (if (wrap64 (t209 + 1)) ≤ (x0_1.length : Int) then (cobs_Stuff.l0 k1 (x0_1.drop ((wrap64 (t209 + 1)) : Int).toNat) (y210 ++ y213)) else (none)) else (none)) else (none))) else (none)) else (none))) else (none)) else (if (x0_1.length : Int) > 254 then (if x3_1.length < 140737488355328 then ((some (x3_1 ++ [255] : List Int)).bind fun y226 => (if 254 ≤ (x0_1.length : Int) then ((some (x0_1.take 254 : List Int)).bind fun y229 => (if y226.length + y229.length < 140737488355328 then (cobs_Stuff.l0 k1 (x0_1.drop 254) (y226 ++ y229)) else (none))) else (none))) else (none)) else (if x3_1.length < 140737488355328 then ((some (x3_1 ++ [(wrap64 ((x0_1.length : Int) + 1)) % 256] : List Int)).bind fun y242 => (if y242.length + x0_1.length < 140737488355328 then (some (y242 ++ x0_1)) else (none))) else (none))))) = some r := by first | (rw [hy204]; with_reducible exact H) | (have H2_ := (Option.bind_some _ _).symm.trans H; rw [hy204]; with_reducible exact H2_) | (have H2_ := (Option.bind_some _ _).symm.trans H; with_reducible exact H2_) | with_reducible exact H | (rw [hy204]; exact H) | exact H
       have Ny204 := Aside0.mk hy204
       clear hy204
       replace H := Option.bind_eq_some_iff.mp H
       obtain ⟨t209, A100, H⟩ := H
       replace H : (if t209 ≥ 0 then (if x3_1.length < 140737488355328 then ((some (x3_1 ++ [(wrap64 (t209 + 1)) % 256] : List Int)).bind fun y210 => (if 0 ≤ t209 then (if t209 ≤ (x0_1.length : Int) then ((some (x0_1.take (t209 : Int).toNat : List Int)).bind fun y213 => (if y210.length + y213.length < 140737488355328 then (if 0 ≤ (wrap64 (t209 + 1)) then (if (wrap64 (t209 + 1)) ≤ (x0_1.length : Int) then (cobs_Stuff.l0 k1 (x0_1.drop ((wrap64 (t209 + 1)) : Int).toNat) (y210 ++ y213)) else (none)) else (none)) else (none))) else (none)) else (none))) else (none)) else (if (x0_1.length : Int) > 254 then (if x3_1.length < 140737488355328 then ((some (x3_1 ++ [255] : List Int)).bind fun y226 => (if 254 ≤ (x0_1.length : Int) then ((some (x0_1.take 254 : List Int)).bind fun y229 => (if y226.length + y229.length < 140737488355328 then (cobs_Stuff.l0 k1 (x0_1.drop 254) (y226 ++ y229)) else (none))) else (none))) else (none)) else (if x3_1.length < 140737488355328 then ((some (x3_1 ++ [(wrap64 ((x0_1.length : Int) + 1)) % 256] : List Int)).bind fun y242 => (if y242.length + x0_1.length < 140737488355328 then (some (y242 ++ x0_1)) else (none))) else (none)))) = some r := H
       have A10 := Aside0.mk A100
       clear A100
       by_cases c11 : t209 ≥ 0
       ·
        rw [if_pos c11] at H
        have c11b0 : decide (0 ≤ t209) = true := decide_eq_true c11
        clear c11
        by_cases c12 : x3_1.length < 140737488355328
        ·
         rw [if_pos c12] at H
         have LMc12 := Aside0.mk c12
         clear c12
         obtain ⟨y210, hy210⟩ : ∃ y_ : List Int, y_ = (x3_1 ++ [(wrap64 (t209 + 1)) % 256]) := ⟨_, rfl⟩
         replace H : (if 0 ≤ t209 then (if t209 ≤ (x0_1.length : Int) then ((some (x0_1.take (t209 : Int).toNat : List Int)).bind fun y213 => (if y210.length + y213.length < 140737488355328 then (if 0 ≤ (wrap64 (t209 + 1)) then (if (wrap64 (t209 + 1)) ≤ (x0_1.length : Int) then (cobs_Stuff.l0 k1 (x0_1.drop ((wrap64 (t209 + 1)) : Int).toNat) (y210 ++ y213)) else (none)) else (none)) else (none))) else (none)) else (none)) = some r := by first | (rw [hy210]; with_reducible exact H) | (have H2_ := (Option.bind_some _ _).symm.trans H; rw [hy210]; with_reducible exact H2_) | (have H2_ := (Option.bind_some _ _).symm.trans H; with_reducible exact H2_) | with_reducible exact H | (rw [hy210]; exact H) | exact H
         have Ny210 := Aside0.mk hy210
         clear hy210
         by_cases c13 : 0 ≤ t209
         ·
          rw [if_pos c13] at H
          have c13b0 := eq_true c13
          have c13b1 : decide (0 ≤ t209) = true := decide_eq_true c13
          clear c13
          by_cases c14 : t209 ≤ (x0_1.length : Int)
          ·
           rw [if_pos c14] at H
           have c14b0 := eq_true c14
           have c14b1 : decide (t209 ≤ (x0_1.length : Int)) = true := decide_eq_true c14
           clear c14
           obtain ⟨y213, hy213⟩ : ∃ y_ : List Int, y_ = (x0_1.take (t209 : Int).toNat) := ⟨_, rfl⟩
           replace H : (if y210.length + y213.length < 140737488355328 then (if 0 ≤ (wrap64 (t209 + 1)) then (if (wrap64 (t209 + 1)) ≤ (x0_1.length : Int) then (cobs_Stuff.l0 k1 (x0_1.drop ((wrap64 (t209 + 1)) : Int).toNat) (y210 ++ y213)) else (none)) else (none)) else (none)) = some r := by first | (rw [hy213]; with_reducible exact H) | (have H2_ := (Option.bind_some _ _).symm.trans H; rw [hy213]; with_reducible exact H2_) | (have H2_ := (Option.bind_some _ _).symm.trans H; with_reducible exact H2_) | with_reducible exact H | (rw [hy213]; exact H) | exact H
           have Ny213 := Aside0.mk hy213
           clear hy213
           by_cases c15 : y210.length + y213.length < 140737488355328
           ·
            rw [if_pos c15] at H
            have LMc15 := Aside0.mk c15
            clear c15
            obtain ⟨y218, hy218⟩ : ∃ y_ : List Int, y_ = (y210 ++ y213) := ⟨_, rfl⟩
            replace H : (if 0 ≤ (wrap64 (t209 + 1)) then (if (wrap64 (t209 + 1)) ≤ (x0_1.length : Int) then (cobs_Stuff.l0 k1 (x0_1.drop ((wrap64 (t209 + 1)) : Int).toNat) y218) else (none)) else (none)) = some r := by first | (rw [hy218]; with_reducible exact H) | (have H2_ := (Option.bind_some _ _).symm.trans H; rw [hy218]; with_reducible exact H2_) | (have H2_ := (Option.bind_some _ _).symm.trans H; with_reducible exact H2_) | with_reducible exact H | (rw [hy218]; exact H) | exact H
            have Ny218 := Aside0.mk hy218
            clear hy218
            obtain ⟨ji16, hji16⟩ : ∃ j_ : Int, (wrap64 (t209 + 1)) = j_ := ⟨_, rfl⟩
            replace H : (if 0 ≤ (ji16) then (if (ji16) ≤ (x0_1.length : Int) then (cobs_Stuff.l0 k1 (x0_1.drop ((ji16) : Int).toNat) y218) else (none)) else (none)) = some r := by first | (rw [hji16] at H; exact H) | (simp only [hji16] at H ⊢; exact H)
            (try rw [hji16] at A10)
            (try rw [hji16] at Ny210)
            (try rw [hji16] at Ny210)
            have hji16w : (IntKind.i64.wrap (t209 + 1)) = ji16 := (i64_w _).trans hji16
            by_cases c17 : 0 ≤ (ji16)
            ·
             rw [if_pos c17] at H
             have c17b0 := eq_true c17
             have c17b1 : decide (0 ≤ (ji16)) = true := decide_eq_true c17
             clear c17
             by_cases c18 : (ji16) ≤ (x0_1.length : Int)
             ·
              rw [if_pos c18] at H
              have c18b0 := eq_true c18
              have c18b1 : decide ((ji16) ≤ (x0_1.length : Int)) = true := decide_eq_true c18
              clear c18
              obtain ⟨y221, hy221⟩ : ∃ y_ : List Int, y_ = (x0_1.drop ((ji16) : Int).toNat) := ⟨_, rfl⟩
              replace H : (cobs_Stuff.l0 k1 y221 y218) = some r := by first | (rw [hy221]; with_reducible exact H) | (have H2_ := (Option.bind_some _ _).symm.trans H; rw [hy221]; with_reducible exact H2_) | (have H2_ := (Option.bind_some _ _).symm.trans H; with_reducible exact H2_) | with_reducible exact H | (rw [hy221]; exact H) | exact H
              have Ny221 := Aside0.mk hy221
              clear hy221
              have H' := Aside0.mk H
              clear H
              obtain ⟨Ao19, co19, eo19⟩ := Kd.V_slice HO_0.out
              subst eo19
              have q20 : ((ji7) : Int) ≤ ((x0_1.length : Int) : Int) := of_decide_eq_true (by first | (with_reducible assumption) | assumption)
              obtain ⟨i020, hi020, _, hsz20, _⟩ := info_parts info5
              have hroom20 : x0_1.length ≤ co19 := (Kd.V_reads' HO_0.out).2.1
              have hC20 : Kd.F (Kd.int .u8) _ _ Ao19 x0_1.length x0_1 := (Kd.V_at (base := w.heap.size) HO_0.out).2.2
              have hcut20 := cut_to (P := Try.prog) 39 5 .i64 Try.underlying39 hi020 Ao19 x0_1.length co19 (ji7) (of_decide_eq_true (by first | (with_reducible assumption) | assumption)) q20 hroom20
              have hr20 := Kd.F_take (m := ((ji7) : Int).toNat) hC20 (by omega)
              have hy20 : y204.length = ((ji7) : Int).toNat := (by rw [Ny204.out, List.length_take]; omega)
              rw [← Ny204.out] at hr20
              rw [← hy20] at hcut20
              have HO208 := Aside0.mk (show Kd.V (Kd.int .u8) 5 _ w.heap.size _ (.slice Ao19 y204.length co19) y204 from Kd.V_mk (by omega) hr20)
              have HC208 := Aside0.mk (show y204.length ≤ co19 from by omega)
              clear hr20 hC20 hroom20 hi020 hsz20
              have KY20 := Aside0.mk hy20
              clear hy20
              replace q20 := eq_true q20
              try go_wp2_with (first | ((with_reducible refine gate_callee (f := 109) rfl ?_); refine goesL_ (some 14) rfl rfl Try.func109 (by kernel_rfl) rfl #[.slice Ao19 y204.length co19, .int .u8 0] rfl (by (try simp only [List.map_toArray, List.map_cons, List.map_nil]); first | done | rfl) ?_; (with_reducible refine (bytes_IndexByte.calls _ _ y204 0 t209 _ ?side1 ?side2 A10.out).mono ?_); (case side1 => repeat (first | exact (Kd.V_reads' HO208.out).2.2 | (with_reducible refine Kd.C_alloc ?_ _) | (with_reducible refine Kd.C_drewN ?_ _) | (with_reducible refine Kd.C_drew ?_))); (case side2 => exact (Kd.V_reads' HO208.out).2.1); rintro e w' ⟨rfl, ⟨nd, rfl⟩⟩; refine ⟨_, rfl, ?_⟩))
              (try (rw [drewN_self wr]; generalize hq_ : World.drewN wr _ = wr; have n0_ : Aside0 (Kd.V (Kd.int .u8) 5 wr w.heap.size (fun k_ => (P0_ k_ ∨ w.heap.size ≤ k_) ∧ some k_ ≠ (u3 : Value).ownBlock) (.slice Ao19 y204.length co19) y204) := ⟨by rw [← hq_]; exact (by (with_reducible repeat (first | apply Kd.V_alloc | apply Kd.V_drewN | apply Kd.V_drew)); exact HO208.out)⟩; have n1_ : Aside0 (Kd.V (Kd.int .u8) 5 wr w.heap.size (fun k_ => (P0_ k_ ∨ w.heap.size ≤ k_) ∧ some k_ ≠ (u3 : Value).ownBlock) (.slice Ao19 x0_1.length co19) x0_1) := ⟨by rw [← hq_]; exact (by (with_reducible repeat (first | apply Kd.V_alloc | apply Kd.V_drewN | apply Kd.V_drew)); exact HO_0.out)⟩; have n2_ : Aside0 (Kd.R (Kd.int .u8) 5 wr w.heap.size (fun k_ => (w.heap.size ≤ k_)) u3 x3_1) := ⟨by rw [← hq_]; exact (by (with_reducible repeat (first | apply Kd.R_alloc | apply Kd.R_drewN | apply Kd.R_drew)); exact HO_3.out)⟩; have n3_ : Aside0 (Below w.heap.size w wr) := ⟨by rw [← hq_]; exact (by repeat with_reducible first | exact HB.out | apply below_alloc | apply pw_below_drewN | apply below_drew1)⟩; clear HO208 HO_0 HO_3 HB hq_; have HO208 := n0_; have HO_0 := n1_; have HO_3 := n2_; have HB := n3_; clear n0_ n1_ n2_ n3_))
              have n0_ := Aside0.mk (Kd.V_drew HO_0.out)
              have n1_ := Aside0.mk (Kd.R_drew HO_3.out)
              have n2_ := Aside0.mk (Kd.V_drew HO208.out)
              have n3_ := Aside0.mk (below_drew1 HB.out)
              clear HO_0
              clear HO_3
              clear HO208
              clear HB
              have HO_0 := n0_
              have HO_3 := n1_
              have HO208 := n2_
              have HB := n3_
              clear n0_ n1_ n2_ n3_
              have q22 : (t209 : Int) ≤ ((x0_1.length : Int) : Int) := of_decide_eq_true (by first | (with_reducible assumption) | assumption)
              obtain ⟨i022, hi022, _, hsz22, _⟩ := info_parts info5
              have hroom22 : x0_1.length ≤ co19 := (Kd.V_reads' HO_0.out).2.1
              have hC22 : Kd.F (Kd.int .u8) _ _ Ao19 x0_1.length x0_1 := (Kd.V_at (base := w.heap.size) HO_0.out).2.2
              have hcut22 := cut_to (P := Try.prog) 39 5 .i64 Try.underlying39 hi022 Ao19 x0_1.length co19 t209 (of_decide_eq_true (by first | (with_reducible assumption) | assumption)) q22 hroom22
              have hr22 := Kd.F_take (m := (t209 : Int).toNat) hC22 (by omega)
              have hy22 : y213.length = (t209 : Int).toNat := (by rw [Ny213.out, List.length_take]; omega)
              rw [← Ny213.out] at hr22
              rw [← hy22] at hcut22
              have HO217 := Aside0.mk (show Kd.V (Kd.int .u8) 5 _ w.heap.size _ (.slice Ao19 y213.length co19) y213 from Kd.V_mk (by omega) hr22)
              have HC217 := Aside0.mk (show y213.length ≤ co19 from by omega)
              clear hr22 hC22 hroom22 hi022 hsz22
              have KY22 := Aside0.mk hy22
              clear hy22
              replace q22 := eq_true q22
              refine start_ (n := 11) (S := fun w' => True) (ds := []) #[false, false, false, false, false, false, false, false, false, false, false] (by kernel_rfl) rfl rfl trivial (fun hHeld => ?_); refine with_tabW cobs_Stuff.tab5 cobs_Stuff.bits5 (fun HT_ HW_ => ?_)
              generalize wr.drew = w21 at HO_0 HO_3 HO208 HB HO217 hHeld ⊢
              refine pure_ (i := 0) (N := some 27) (v := ?_) (a' := ?_) #[true, false, false, false, false, false, false, false, false, false, false] rfl rfl (any_of HT_.out (by kernel_rfl)) (fun _ _ _ h => h) (Or.inl ⟨by rfl, ?_⟩) ?_ ?_
              rotate_left
              ·
               intro w'
               go_simp
               with_reducible rfl
              rotate_left
              ·
               simp only [Act.put, List.setIfInBounds_toArray, List.set_cons_zero, List.set_cons_succ, i64_w, i32_w]
               rfl
              refine pure_ (i := 1) (N := some 28) (v := ?_) (a' := ?_) #[true, true, false, false, false, false, false, false, false, false, false] rfl rfl (any_of HT_.out (by kernel_rfl)) (fun _ _ _ h => h) (Or.inl ⟨by rfl, ?_⟩) ?_ ?_
              rotate_left
              ·
               intro w'
               go_simp
               with_reducible rfl
              rotate_left
              ·
               simp only [Act.put, List.setIfInBounds_toArray, List.set_cons_zero, List.set_cons_succ, i64_w, i32_w]
               rfl
              refine pure_ (i := 2) (N := some 29) (v := ?_) (a' := ?_) #[true, true, true, false, false, false, false, false, false, false, false] rfl rfl (any_of HT_.out (by kernel_rfl)) (fun _ _ _ h => h) (Or.inl ⟨by rfl, ?_⟩) ?_ ?_
              rotate_left
              ·
               intro w'
               go_simp
               with_reducible rfl
              rotate_left
              ·
               simp only [Act.put, List.setIfInBounds_toArray, List.set_cons_zero, List.set_cons_succ, i64_w, i32_w]
               rfl
              refine pure_ (i := 3) (N := some 30) (v := ?_) (a' := ?_) #[true, true, true, true, false, false, false, false, false, false, false] rfl rfl (any_of HT_.out (by kernel_rfl)) (fun _ _ _ h => h) (Or.inl ⟨by rfl, ?_⟩) ?_ ?_
              rotate_left
              ·
               intro w'
               go_simp
               with_reducible rfl
              rotate_left
              ·
               simp only [Act.put, List.setIfInBounds_toArray, List.set_cons_zero, List.set_cons_succ, i64_w, i32_w]
               rfl
              refine pure_ (i := 6) (N := some 33) (v := ?_) (a' := ?_) #[true, true, true, true, false, false, true, false, false, false, false] rfl rfl (any_of HT_.out (by kernel_rfl)) (fun _ _ _ h => h) (Or.inl ⟨by rfl, ?_⟩) ?_ ?_
              rotate_left
              ·
               intro w'
               go_simp
               with_reducible rfl
              rotate_left
              ·
               simp only [Act.put, List.setIfInBounds_toArray, List.set_cons_zero, List.set_cons_succ, i64_w, i32_w]
               rfl
              refine pure_ (i := 7) (N := some 34) (v := ?_) (a' := ?_) #[true, true, true, true, false, false, true, true, false, false, false] rfl rfl (any_of HT_.out (by kernel_rfl)) (fun _ _ _ h => h) (Or.inl ⟨by rfl, ?_⟩) ?_ ?_
              rotate_left
              ·
               intro w'
               go_simp
               with_reducible rfl
              rotate_left
              ·
               simp only [Act.put, List.setIfInBounds_toArray, List.set_cons_zero, List.set_cons_succ, i64_w, i32_w]
               rfl
              refine pure_ (i := 8) (N := some 35) (v := ?_) (a' := ?_) #[true, true, true, true, false, false, true, true, true, false, false] rfl rfl (any_of HT_.out (by kernel_rfl)) (fun _ _ _ h => h) (Or.inl ⟨by rfl, ?_⟩) ?_ ?_
              rotate_left
              ·
               intro w'
               go_simp
               with_reducible rfl
              rotate_left
              ·
               simp only [Act.put, List.setIfInBounds_toArray, List.set_cons_zero, List.set_cons_succ, i64_w, i32_w]
               rfl
              refine one_ (i := 4) (N := some 31) #[true, true, true, true, true, false, true, true, true, false, false] rfl rfl (one_of HT_.out (by kernel_rfl)) (by decide) (fun K hK => ?_)
              refine value_ (w1 := ?_) (v := ?_) (by rfl) rfl ?_ ?_
              rotate_left 2
              ·
               go_simp
               constructor
               ·
                rfl
               ·
                rfl
              refine hK.out _ _ trivial (fun hHeld => ?_)
              clear hK K
              refine norm_ (a' := ?_) ?_ ?_
              rotate_left
              ·
               show Act.put _ (some 31) _ = _
               simp only [Act.put, List.setIfInBounds_toArray, List.set_cons_zero, List.set_cons_succ, i64_w, i32_w]
               rfl
              refine one_ (i := 5) (N := some 32) #[true, true, true, true, true, true, true, true, true, false, false] rfl rfl (one_of HT_.out (by kernel_rfl)) (by decide) (fun K hK => ?_)
              refine Kd.R_append_step (Kd.int .u8) (w0 := w) w.heap.size (by rfl) (.tmp 27) (.tmp 31) 39 5 (.int .u8 0) 1 rfl Try.underlying39 info5 rfl (by decide) (by omega) u3 x3_1 ((ji16) % 256) [.int .u8 ((ji16) % 256)] (fun k_ => (w.heap.size ≤ k_)) (fun _ => False) rfl rfl ?aP (fun _ hk => hk.elim) ?aF ?aO ?aB ?aS ?aL ?_
              (case aP => exact rfl)
              (case aB => exact (by repeat with_reducible first | exact HB.out | apply below_alloc | apply pw_below_drewN | apply below_drew1))
              (case aF => exact (fun k_ hk => (Nat.le_trans (below_size (by repeat with_reducible first | exact HB.out | apply below_alloc | apply pw_below_drewN | apply below_drew1)) hk)))
              (case aO => exact (by (with_reducible repeat (first | apply Kd.R_alloc | apply Kd.R_drewN | apply Kd.R_drew)); exact HO_3.out))
              (case aS => exact (below_size (by repeat with_reducible first | exact HB.out | apply below_alloc | apply pw_below_drewN | apply below_drew1)))
              (case aL => have := LMc12.out; omega)
              intro v211 w23 ho hb hg hat
              rw [← Ny210.out] at ho
              have n0_ := Aside0.mk (Kd.V_afterv (ok := (fun k_ => (P0_ k_ ∨ w.heap.size ≤ k_))) (by (with_reducible repeat (first | apply Kd.V_alloc | apply Kd.V_drewN | apply Kd.V_drew)); exact HO_0.out) hg hat)
              have n1_ := Aside0.mk (Kd.V_afterv (ok := (fun k_ => (P0_ k_ ∨ w.heap.size ≤ k_))) (by (with_reducible repeat (first | apply Kd.V_alloc | apply Kd.V_drewN | apply Kd.V_drew)); exact HO208.out) hg hat)
              have n2_ := Aside0.mk (Kd.V_afterv (ok := (fun k_ => (P0_ k_ ∨ w.heap.size ≤ k_))) (by (with_reducible repeat (first | apply Kd.V_alloc | apply Kd.V_drewN | apply Kd.V_drew)); exact HO217.out) hg hat)
              have n3_ := Aside0.mk (hb)
              have n4_ := Aside0.mk (ho)
              clear HO_0
              clear HO208
              clear HO217
              clear HB
              clear HO_3
              have HO_0 := n0_
              have HO208 := n1_
              have HO217 := n2_
              have HB := n3_
              have HO212 := n4_
              clear n0_ n1_ n2_ n3_ n4_
              clear ho hb hg hat
              refine hK.out _ _ trivial (fun hHeld => ?_)
              clear hK K
              refine norm_ (a' := ?_) ?_ ?_
              rotate_left
              ·
               show Act.put _ (some 32) _ = _
               simp only [Act.put, List.setIfInBounds_toArray, List.set_cons_zero, List.set_cons_succ, i64_w, i32_w]
               rfl
              refine one_ (i := 9) (N := some 36) #[true, true, true, true, true, true, true, true, true, true, false] rfl rfl (one_of HT_.out (by kernel_rfl)) (by decide) (fun K hK => ?_)
              refine Kd.R_append_rows_step (Kd.int .u8) (w0 := w) w.heap.size (by rfl) (.tmp 32) (.tmp 35) 39 5 (.int .u8 0) 1 rfl Try.underlying39 info5 rfl (by decide) (by omega) v211 y210 y213 _ _ _ (fun k_ => (w.heap.size ≤ k_)) (fun _ => False) rfl rfl ?aO ?aR (fun _ _ h => h) (fun _ h => h.elim) ?aF ?aB ?aS ?aL ?_
              (case aR => repeat (first | exact (Kd.V_reads' HO217.out).2.2 | (with_reducible refine Kd.C_alloc ?_ _) | (with_reducible refine Kd.C_drewN ?_ _) | (with_reducible refine Kd.C_drew ?_)))
              (case aB => exact (by repeat with_reducible first | exact HB.out | apply below_alloc | apply pw_below_drewN | apply below_drew1))
              (case aF => exact (fun k_ hk => (Nat.le_trans (below_size (by repeat with_reducible first | exact HB.out | apply below_alloc | apply pw_below_drewN | apply below_drew1)) hk)))
              (case aO => exact (by (with_reducible repeat (first | apply Kd.R_alloc | apply Kd.R_drewN | apply Kd.R_drew)); exact HO212.out))
              (case aS => exact (below_size (by repeat with_reducible first | exact HB.out | apply below_alloc | apply pw_below_drewN | apply below_drew1)))
              (case aL => have := LMc15.out; omega)
              intro v219 w24 ho hb hg hat
              rw [← Ny218.out] at ho
              have n0_ := Aside0.mk (Kd.V_afterv (ok := (fun k_ => (P0_ k_ ∨ w.heap.size ≤ k_))) (by (with_reducible repeat (first | apply Kd.V_alloc | apply Kd.V_drewN | apply Kd.V_drew)); exact HO_0.out) hg hat)
              have n1_ := Aside0.mk (Kd.V_afterv (ok := (fun k_ => (P0_ k_ ∨ w.heap.size ≤ k_))) (by (with_reducible repeat (first | apply Kd.V_alloc | apply Kd.V_drewN | apply Kd.V_drew)); exact HO208.out) hg hat)
              have n2_ := Aside0.mk (Kd.V_afterv (ok := (fun k_ => (P0_ k_ ∨ w.heap.size ≤ k_))) (by (with_reducible repeat (first | apply Kd.V_alloc | apply Kd.V_drewN | apply Kd.V_drew)); exact HO217.out) hg hat)
              have n3_ := Aside0.mk (hb)
              have n4_ := Aside0.mk (ho)
              clear HO_0
              clear HO208
              clear HO217
              clear HB
              clear HO212
              have HO_0 := n0_
              have HO208 := n1_
              have HO217 := n2_
              have HB := n3_
              have HO220 := n4_
              clear n0_ n1_ n2_ n3_ n4_
              clear ho hb hg hat
              refine hK.out _ _ trivial (fun hHeld => ?_)
              clear hK K
              refine norm_ (a' := ?_) ?_ ?_
              rotate_left
              ·
               show Act.put _ (some 36) _ = _
               simp only [Act.put, List.setIfInBounds_toArray, List.set_cons_zero, List.set_cons_succ, i64_w, i32_w]
               rfl
              refine pure_ (i := 10) (N := some 3) (v := ?_) (a' := ?_) #[true, true, true, true, true, true, true, true, true, true, true] rfl rfl (any_of HT_.out (by kernel_rfl)) (fun _ _ _ h => h) (Or.inl ⟨by rfl, ?_⟩) ?_ ?_
              rotate_left
              ·
               intro w'
               go_simp
               with_reducible rfl
              rotate_left
              ·
               simp only [Act.put, List.setIfInBounds_toArray, List.set_cons_zero, List.set_cons_succ, i64_w, i32_w]
               rfl
              refine done_ (done_of HT_.out (by kernel_rfl)) ?_
              have q25 : ((ji16) : Int) ≤ ((x0_1.length : Int) : Int) := of_decide_eq_true (by first | (with_reducible assumption) | assumption)
              obtain ⟨i025, hi025, _, hsz25, _⟩ := info_parts info5
              have hroom25 : x0_1.length ≤ co19 := (Kd.V_reads' HO_0.out).2.1
              have hC25 : Kd.F (Kd.int .u8) _ _ Ao19 x0_1.length x0_1 := (Kd.V_at (base := w.heap.size) HO_0.out).2.2
              have q025 : (0 : Int) ≤ ((ji16) : Int) := of_decide_eq_true (by first | (with_reducible assumption) | assumption)
              have hcut25 := cut_from (P := Try.prog) 39 5 .i64 Try.underlying39 hi025 1 hsz25 Ao19 x0_1.length co19 (ji16) q025 q25
              have hr25 := Kd.F_cut (m := ((ji16) : Int).toNat) (c := co19) hC25 (by omega) hroom25
              obtain ⟨A25, hA25⟩ : ∃ A1, A1 = (if co19 = ((ji16) : Int).toNat then Ao19 else (Ao19 : Option Addr).map (·.add (((ji16) : Int).toNat * 1))) := ⟨_, rfl⟩
              obtain ⟨c25, hc25⟩ : ∃ c1, c1 = co19 - ((ji16) : Int).toNat := ⟨_, rfl⟩
              have hy25 : y221.length = x0_1.length - ((ji16) : Int).toNat := (by rw [Ny221.out, List.length_drop] <;> omega)
              rw [show (x0_1).drop ((ji16) : Int).toNat = y221 from Ny221.out.symm] at hr25
              replace hr25 : Kd.F (Kd.int .u8) _ _ A25 y221.length y221 := (by rw [hA25]; exact hr25)
              rw [← hy25, ← hA25, ← hc25] at hcut25
              have HO225 := Aside0.mk (show Kd.V (Kd.int .u8) 5 _ w.heap.size _ (.slice A25 y221.length c25) y221 from Kd.V_mk (by rw [hy25, hc25]; exact Nat.sub_le_sub_right hroom25 _) hr25)
              have HC225 := Aside0.mk (show y221.length ≤ c25 from by rw [hy25, hc25]; exact Nat.sub_le_sub_right hroom25 _)
              clear hr25 hC25 hroom25 hi025 hsz25 hc25
              have KY25 := Aside0.mk hy25
              have KA25 := Aside0.mk hA25
              clear hy25 hA25
              replace q25 := eq_true q25
              try go_wp2
              go_roundg k1
              case measure => have := HK1.out; omega
              case rel => exact ⟨(y221), (y218), H', ⟨by have := HK1.out; omega⟩, ⟨by (with_reducible repeat (first | apply Kd.V_alloc | apply Kd.V_drewN | apply Kd.V_drew)); exact HO225.out⟩, ⟨by (with_reducible repeat (first | apply Kd.R_alloc | apply Kd.R_drewN | apply Kd.R_drew)); exact HO220.out⟩, ⟨by repeat (first | (with_reducible first | exact HB.out | apply below_alloc | apply pw_below_drewN | apply below_drew1) | exact HB.out)⟩⟩
             ·
              rw [if_neg c18] at H
              exact absurd H (by simp)
            ·
             rw [if_neg c17] at H
             exact absurd H (by simp)
           ·
            rw [if_neg c15] at H
            exact absurd H (by simp)
          ·
           rw [if_neg c14] at H
           exact absurd H (by simp)
         ·
          rw [if_neg c13] at H
          exact absurd H (by simp)
        ·
         rw [if_neg c12] at H
         exact absurd H (by simp)
       ·
        rw [if_neg c11] at H
        have c11b0 : decide (0 ≤ t209) = false := decide_eq_false c11
        clear c11
        by_cases c26 : (x0_1.length : Int) > 254
        ·
         rw [if_pos c26] at H
         have c26b0 : decide (254 < (x0_1.length : Int)) = true := decide_eq_true c26
         have c26b1 : decide (254 < x0_1.length) = true := decide_eq_true (by omega)
         clear c26
         by_cases c27 : x3_1.length < 140737488355328
         ·
          rw [if_pos c27] at H
          have LMc27 := Aside0.mk c27
          clear c27
          obtain ⟨y226, hy226⟩ : ∃ y_ : List Int, y_ = (x3_1 ++ [255]) := ⟨_, rfl⟩
          replace H : (if 254 ≤ (x0_1.length : Int) then ((some (x0_1.take 254 : List Int)).bind fun y229 => (if y226.length + y229.length < 140737488355328 then (cobs_Stuff.l0 k1 (x0_1.drop 254) (y226 ++ y229)) else (none))) else (none)) = some r := by first | (rw [hy226]; with_reducible exact H) | (have H2_ := (Option.bind_some _ _).symm.trans H; rw [hy226]; with_reducible exact H2_) | (have H2_ := (Option.bind_some _ _).symm.trans H; with_reducible exact H2_) | with_reducible exact H | (rw [hy226]; exact H) | exact H
          have Ny226 := Aside0.mk hy226
          clear hy226
          by_cases c28 : 254 ≤ (x0_1.length : Int)
          ·
           rw [if_pos c28] at H
           have c28b0 := eq_true c28
           have c28b1 : decide (254 ≤ (x0_1.length : Int)) = true := decide_eq_true c28
           clear c28
           obtain ⟨y229, hy229⟩ : ∃ y_ : List Int, y_ = (x0_1.take 254) := ⟨_, rfl⟩
           replace H : (if y226.length + y229.length < 140737488355328 then (cobs_Stuff.l0 k1 (x0_1.drop 254) (y226 ++ y229)) else (none)) = some r := by first | (rw [hy229]; with_reducible exact H) | (have H2_ := (Option.bind_some _ _).symm.trans H; rw [hy229]; with_reducible exact H2_) | (have H2_ := (Option.bind_some _ _).symm.trans H; with_reducible exact H2_) | with_reducible exact H | (rw [hy229]; exact H) | exact H
           have Ny229 := Aside0.mk hy229
           clear hy229
           by_cases c29 : y226.length + y229.length < 140737488355328
           ·
            rw [if_pos c29] at H
            have LMc29 := Aside0.mk c29
            clear c29
            obtain ⟨y234, hy234⟩ : ∃ y_ : List Int, y_ = (y226 ++ y229) := ⟨_, rfl⟩
            replace H : (cobs_Stuff.l0 k1 (x0_1.drop 254) y234) = some r := by first | (rw [hy234]; with_reducible exact H) | (have H2_ := (Option.bind_some _ _).symm.trans H; rw [hy234]; with_reducible exact H2_) | (have H2_ := (Option.bind_some _ _).symm.trans H; with_reducible exact H2_) | with_reducible exact H | (rw [hy234]; exact H) | exact H
            have Ny234 := Aside0.mk hy234
            clear hy234
            have c30b0 := eq_true (of_decide_eq_true (by first | (with_reducible assumption) | assumption) : 254 ≤ (x0_1.length : Int))
            obtain ⟨y237, hy237⟩ : ∃ y_ : List Int, y_ = (x0_1.drop 254) := ⟨_, rfl⟩
            replace H : (cobs_Stuff.l0 k1 y237 y234) = some r := by first | (rw [hy237]; with_reducible exact H) | (have H2_ := (Option.bind_some _ _).symm.trans H; rw [hy237]; with_reducible exact H2_) | (have H2_ := (Option.bind_some _ _).symm.trans H; with_reducible exact H2_) | with_reducible exact H | (rw [hy237]; exact H) | exact H
            have Ny237 := Aside0.mk hy237
            clear hy237
            have H' := Aside0.mk H
            clear H
            obtain ⟨Ao31, co31, eo31⟩ := Kd.V_slice HO_0.out
            subst eo31
            have q32 : ((ji7) : Int) ≤ ((x0_1.length : Int) : Int) := of_decide_eq_true (by first | (with_reducible assumption) | assumption)
            obtain ⟨i032, hi032, _, hsz32, _⟩ := info_parts info5
            have hroom32 : x0_1.length ≤ co31 := (Kd.V_reads' HO_0.out).2.1
            have hC32 : Kd.F (Kd.int .u8) _ _ Ao31 x0_1.length x0_1 := (Kd.V_at (base := w.heap.size) HO_0.out).2.2
            have hcut32 := cut_to (P := Try.prog) 39 5 .i64 Try.underlying39 hi032 Ao31 x0_1.length co31 (ji7) (of_decide_eq_true (by first | (with_reducible assumption) | assumption)) q32 hroom32
            have hr32 := Kd.F_take (m := ((ji7) : Int).toNat) hC32 (by omega)
            have hy32 : y204.length = ((ji7) : Int).toNat := (by rw [Ny204.out, List.length_take]; omega)
            rw [← Ny204.out] at hr32
            rw [← hy32] at hcut32
            have HO208 := Aside0.mk (show Kd.V (Kd.int .u8) 5 _ w.heap.size _ (.slice Ao31 y204.length co31) y204 from Kd.V_mk (by omega) hr32)
            have HC208 := Aside0.mk (show y204.length ≤ co31 from by omega)
            clear hr32 hC32 hroom32 hi032 hsz32
            have KY32 := Aside0.mk hy32
            clear hy32
            replace q32 := eq_true q32
            try go_wp2_with (first | ((with_reducible refine gate_callee (f := 109) rfl ?_); refine goesL_ (some 14) rfl rfl Try.func109 (by kernel_rfl) rfl #[.slice Ao31 y204.length co31, .int .u8 0] rfl (by (try simp only [List.map_toArray, List.map_cons, List.map_nil]); first | done | rfl) ?_; (with_reducible refine (bytes_IndexByte.calls _ _ y204 0 t209 _ ?side1 ?side2 A10.out).mono ?_); (case side1 => repeat (first | exact (Kd.V_reads' HO208.out).2.2 | (with_reducible refine Kd.C_alloc ?_ _) | (with_reducible refine Kd.C_drewN ?_ _) | (with_reducible refine Kd.C_drew ?_))); (case side2 => exact (Kd.V_reads' HO208.out).2.1); rintro e w' ⟨rfl, ⟨nd, rfl⟩⟩; refine ⟨_, rfl, ?_⟩))
            (try (rw [drewN_self wr]; generalize hq_ : World.drewN wr _ = wr; have n0_ : Aside0 (Kd.V (Kd.int .u8) 5 wr w.heap.size (fun k_ => (P0_ k_ ∨ w.heap.size ≤ k_) ∧ some k_ ≠ (u3 : Value).ownBlock) (.slice Ao31 y204.length co31) y204) := ⟨by rw [← hq_]; exact (by (with_reducible repeat (first | apply Kd.V_alloc | apply Kd.V_drewN | apply Kd.V_drew)); exact HO208.out)⟩; have n1_ : Aside0 (Kd.V (Kd.int .u8) 5 wr w.heap.size (fun k_ => (P0_ k_ ∨ w.heap.size ≤ k_) ∧ some k_ ≠ (u3 : Value).ownBlock) (.slice Ao31 x0_1.length co31) x0_1) := ⟨by rw [← hq_]; exact (by (with_reducible repeat (first | apply Kd.V_alloc | apply Kd.V_drewN | apply Kd.V_drew)); exact HO_0.out)⟩; have n2_ : Aside0 (Kd.R (Kd.int .u8) 5 wr w.heap.size (fun k_ => (w.heap.size ≤ k_)) u3 x3_1) := ⟨by rw [← hq_]; exact (by (with_reducible repeat (first | apply Kd.R_alloc | apply Kd.R_drewN | apply Kd.R_drew)); exact HO_3.out)⟩; have n3_ : Aside0 (Below w.heap.size w wr) := ⟨by rw [← hq_]; exact (by repeat with_reducible first | exact HB.out | apply below_alloc | apply pw_below_drewN | apply below_drew1)⟩; clear HO208 HO_0 HO_3 HB hq_; have HO208 := n0_; have HO_0 := n1_; have HO_3 := n2_; have HB := n3_; clear n0_ n1_ n2_ n3_))
            have n0_ := Aside0.mk (Kd.V_drew HO_0.out)
            have n1_ := Aside0.mk (Kd.R_drew HO_3.out)
            have n2_ := Aside0.mk (Kd.V_drew HO208.out)
            have n3_ := Aside0.mk (below_drew1 HB.out)
            clear HO_0
            clear HO_3
            clear HO208
            clear HB
            have HO_0 := n0_
            have HO_3 := n1_
            have HO208 := n2_
            have HB := n3_
            clear n0_ n1_ n2_ n3_
            have q34 : (254 : Int) ≤ ((x0_1.length : Int) : Int) := of_decide_eq_true (by first | (with_reducible assumption) | assumption)
            obtain ⟨i034, hi034, _, hsz34, _⟩ := info_parts info5
            have hroom34 : x0_1.length ≤ co31 := (Kd.V_reads' HO_0.out).2.1
            have hC34 : Kd.F (Kd.int .u8) _ _ Ao31 x0_1.length x0_1 := (Kd.V_at (base := w.heap.size) HO_0.out).2.2
            have hcut34 := cut_to (P := Try.prog) 39 5 .i64 Try.underlying39 hi034 Ao31 x0_1.length co31 254 (by omega) q34 hroom34
            have hr34 := Kd.F_take (m := 254) hC34 (by omega)
            have hy34 : y229.length = (254 : Int).toNat := (by rw [Ny229.out, List.length_take]; omega)
            rw [← Ny229.out] at hr34
            rw [← hy34] at hcut34
            have HO233 := Aside0.mk (show Kd.V (Kd.int .u8) 5 _ w.heap.size _ (.slice Ao31 y229.length co31) y229 from Kd.V_mk (by omega) hr34)
            have HC233 := Aside0.mk (show y229.length ≤ co31 from by omega)
            clear hr34 hC34 hroom34 hi034 hsz34
            have KY34 := Aside0.mk hy34
            clear hy34
            replace q34 := eq_true q34
            refine start_ (n := 7) (S := fun w' => True) (ds := []) #[false, false, false, false, false, false, false] (by kernel_rfl) rfl rfl trivial (fun hHeld => ?_)
            generalize wr.drew = w33 at HO_0 HO_3 HO208 HB HO233 hHeld ⊢
            refine pure_ (i := 0) (N := some 45) (v := ?_) (a' := ?_) #[true, false, false, false, false, false, false] rfl rfl (by kernel_rfl) (fun _ _ _ h => h) (Or.inl ⟨by rfl, ?_⟩) ?_ ?_
            rotate_left
            ·
             intro w'
             go_simp
             with_reducible rfl
            rotate_left
            ·
             simp only [Act.put, List.setIfInBounds_toArray, List.set_cons_zero, List.set_cons_succ, i64_w, i32_w]
             rfl
            refine pure_ (i := 3) (N := some 48) (v := ?_) (a' := ?_) #[true, false, false, true, false, false, false] rfl rfl (by kernel_rfl) (fun _ _ _ h => h) (Or.inl ⟨by rfl, ?_⟩) ?_ ?_
            rotate_left
            ·
             intro w'
             go_simp
             with_reducible rfl
            rotate_left
            ·
             simp only [Act.put, List.setIfInBounds_toArray, List.set_cons_zero, List.set_cons_succ, i64_w, i32_w]
             rfl
            refine pure_ (i := 4) (N := some 49) (v := ?_) (a' := ?_) #[true, false, false, true, true, false, false] rfl rfl (by kernel_rfl) (fun _ _ _ h => h) (Or.inl ⟨by rfl, ?_⟩) ?_ ?_
            rotate_left
            ·
             intro w'
             go_simp
             with_reducible rfl
            rotate_left
            ·
             simp only [Act.put, List.setIfInBounds_toArray, List.set_cons_zero, List.set_cons_succ, i64_w, i32_w]
             rfl
            refine one_ (i := 1) (N := some 46) #[true, true, false, true, true, false, false] rfl rfl (by kernel_rfl) (by decide) (fun K hK => ?_)
            refine value_ (w1 := ?_) (v := ?_) (by rfl) rfl ?_ ?_
            rotate_left 2
            ·
             go_simp
             constructor
             ·
              rfl
             ·
              rfl
            refine hK.out _ _ trivial (fun hHeld => ?_)
            clear hK K
            refine norm_ (a' := ?_) ?_ ?_
            rotate_left
            ·
             show Act.put _ (some 46) _ = _
             simp only [Act.put, List.setIfInBounds_toArray, List.set_cons_zero, List.set_cons_succ, i64_w, i32_w]
             rfl
            refine one_ (i := 2) (N := some 47) #[true, true, true, true, true, false, false] rfl rfl (by kernel_rfl) (by decide) (fun K hK => ?_)
            refine Kd.R_append_step (Kd.int .u8) (w0 := w) w.heap.size (by rfl) (.tmp 45) (.tmp 46) 39 5 (.int .u8 0) 1 rfl Try.underlying39 info5 rfl (by decide) (by omega) u3 x3_1 255 [.int .u8 255] (fun k_ => (w.heap.size ≤ k_)) (fun _ => False) rfl rfl ?aP (fun _ hk => hk.elim) ?aF ?aO ?aB ?aS ?aL ?_
            (case aP => exact rfl)
            (case aB => exact (by repeat with_reducible first | exact HB.out | apply below_alloc | apply pw_below_drewN | apply below_drew1))
            (case aF => exact (fun k_ hk => (Nat.le_trans (below_size (by repeat with_reducible first | exact HB.out | apply below_alloc | apply pw_below_drewN | apply below_drew1)) hk)))
            (case aO => exact (by (with_reducible repeat (first | apply Kd.R_alloc | apply Kd.R_drewN | apply Kd.R_drew)); exact HO_3.out))
            (case aS => exact (below_size (by repeat with_reducible first | exact HB.out | apply below_alloc | apply pw_below_drewN | apply below_drew1)))
            (case aL => have := LMc27.out; omega)
            intro v227 w35 ho hb hg hat
            rw [← Ny226.out] at ho
            have n0_ := Aside0.mk (Kd.V_afterv (ok := (fun k_ => (P0_ k_ ∨ w.heap.size ≤ k_))) (by (with_reducible repeat (first | apply Kd.V_alloc | apply Kd.V_drewN | apply Kd.V_drew)); exact HO_0.out) hg hat)
            have n1_ := Aside0.mk (Kd.V_afterv (ok := (fun k_ => (P0_ k_ ∨ w.heap.size ≤ k_))) (by (with_reducible repeat (first | apply Kd.V_alloc | apply Kd.V_drewN | apply Kd.V_drew)); exact HO208.out) hg hat)
            have n2_ := Aside0.mk (Kd.V_afterv (ok := (fun k_ => (P0_ k_ ∨ w.heap.size ≤ k_))) (by (with_reducible repeat (first | apply Kd.V_alloc | apply Kd.V_drewN | apply Kd.V_drew)); exact HO233.out) hg hat)
            have n3_ := Aside0.mk (hb)
            have n4_ := Aside0.mk (ho)
            clear HO_0
            clear HO208
            clear HO233
            clear HB
            clear HO_3
            have HO_0 := n0_
            have HO208 := n1_
            have HO233 := n2_
            have HB := n3_
            have HO228 := n4_
            clear n0_ n1_ n2_ n3_ n4_
            clear ho hb hg hat
            refine hK.out _ _ trivial (fun hHeld => ?_)
            clear hK K
            refine norm_ (a' := ?_) ?_ ?_
            rotate_left
            ·
             show Act.put _ (some 47) _ = _
             simp only [Act.put, List.setIfInBounds_toArray, List.set_cons_zero, List.set_cons_succ, i64_w, i32_w]
             rfl
            refine one_ (i := 5) (N := some 50) #[true, true, true, true, true, true, false] rfl rfl (by kernel_rfl) (by decide) (fun K hK => ?_)
            refine Kd.R_append_rows_step (Kd.int .u8) (w0 := w) w.heap.size (by rfl) (.tmp 47) (.tmp 49) 39 5 (.int .u8 0) 1 rfl Try.underlying39 info5 rfl (by decide) (by omega) v227 y226 y229 _ _ _ (fun k_ => (w.heap.size ≤ k_)) (fun _ => False) rfl rfl ?aO ?aR (fun _ _ h => h) (fun _ h => h.elim) ?aF ?aB ?aS ?aL ?_
            (case aR => repeat (first | exact (Kd.V_reads' HO233.out).2.2 | (with_reducible refine Kd.C_alloc ?_ _) | (with_reducible refine Kd.C_drewN ?_ _) | (with_reducible refine Kd.C_drew ?_)))
            (case aB => exact (by repeat with_reducible first | exact HB.out | apply below_alloc | apply pw_below_drewN | apply below_drew1))
            (case aF => exact (fun k_ hk => (Nat.le_trans (below_size (by repeat with_reducible first | exact HB.out | apply below_alloc | apply pw_below_drewN | apply below_drew1)) hk)))
            (case aO => exact (by (with_reducible repeat (first | apply Kd.R_alloc | apply Kd.R_drewN | apply Kd.R_drew)); exact HO228.out))
            (case aS => exact (below_size (by repeat with_reducible first | exact HB.out | apply below_alloc | apply pw_below_drewN | apply below_drew1)))
            (case aL => have := LMc29.out; omega)
            intro v235 w36 ho hb hg hat
            rw [← Ny234.out] at ho
            have n0_ := Aside0.mk (Kd.V_afterv (ok := (fun k_ => (P0_ k_ ∨ w.heap.size ≤ k_))) (by (with_reducible repeat (first | apply Kd.V_alloc | apply Kd.V_drewN | apply Kd.V_drew)); exact HO_0.out) hg hat)
            have n1_ := Aside0.mk (Kd.V_afterv (ok := (fun k_ => (P0_ k_ ∨ w.heap.size ≤ k_))) (by (with_reducible repeat (first | apply Kd.V_alloc | apply Kd.V_drewN | apply Kd.V_drew)); exact HO208.out) hg hat)
            have n2_ := Aside0.mk (Kd.V_afterv (ok := (fun k_ => (P0_ k_ ∨ w.heap.size ≤ k_))) (by (with_reducible repeat (first | apply Kd.V_alloc | apply Kd.V_drewN | apply Kd.V_drew)); exact HO233.out) hg hat)
            have n3_ := Aside0.mk (hb)
            have n4_ := Aside0.mk (ho)
            clear HO_0
            clear HO208
            clear HO233
            clear HB
            clear HO228
            have HO_0 := n0_
            have HO208 := n1_
            have HO233 := n2_
            have HB := n3_
            have HO236 := n4_
            clear n0_ n1_ n2_ n3_ n4_
            clear ho hb hg hat
            refine hK.out _ _ trivial (fun hHeld => ?_)
            clear hK K
            refine norm_ (a' := ?_) ?_ ?_
            rotate_left
            ·
             show Act.put _ (some 50) _ = _
             simp only [Act.put, List.setIfInBounds_toArray, List.set_cons_zero, List.set_cons_succ, i64_w, i32_w]
             rfl
            refine pure_ (i := 6) (N := some 3) (v := ?_) (a' := ?_) #[true, true, true, true, true, true, true] rfl rfl (by kernel_rfl) (fun _ _ _ h => h) (Or.inl ⟨by rfl, ?_⟩) ?_ ?_
            rotate_left
            ·
             intro w'
             go_simp
             with_reducible rfl
            rotate_left
            ·
             simp only [Act.put, List.setIfInBounds_toArray, List.set_cons_zero, List.set_cons_succ, i64_w, i32_w]
             rfl
            refine done_ (by kernel_rfl) ?_
            have q37 : (254 : Int) ≤ ((x0_1.length : Int) : Int) := of_decide_eq_true (by first | (with_reducible assumption) | assumption)
            obtain ⟨i037, hi037, _, hsz37, _⟩ := info_parts info5
            have hroom37 : x0_1.length ≤ co31 := (Kd.V_reads' HO_0.out).2.1
            have hC37 : Kd.F (Kd.int .u8) _ _ Ao31 x0_1.length x0_1 := (Kd.V_at (base := w.heap.size) HO_0.out).2.2
            have hcut37 := cut_from (P := Try.prog) 39 5 .i64 Try.underlying39 hi037 1 hsz37 Ao31 x0_1.length co31 254 (by omega) q37
            have hr37 := Kd.F_cut (m := (254 : Int).toNat) (c := co31) hC37 (by omega) hroom37
            obtain ⟨A37, hA37⟩ : ∃ A1, A1 = (if co31 = (254 : Int).toNat then Ao31 else (Ao31 : Option Addr).map (·.add ((254 : Int).toNat * 1))) := ⟨_, rfl⟩
            obtain ⟨c37, hc37⟩ : ∃ c1, c1 = co31 - (254 : Int).toNat := ⟨_, rfl⟩
            have hy37 : y237.length = x0_1.length - (254 : Int).toNat := (by rw [Ny237.out, List.length_drop] <;> omega)
            rw [show (x0_1).drop (254 : Int).toNat = y237 from Ny237.out.symm] at hr37
            replace hr37 : Kd.F (Kd.int .u8) _ _ A37 y237.length y237 := (by rw [hA37]; exact hr37)
            rw [← hy37, ← hA37, ← hc37] at hcut37
            have HO241 := Aside0.mk (show Kd.V (Kd.int .u8) 5 _ w.heap.size _ (.slice A37 y237.length c37) y237 from Kd.V_mk (by rw [hy37, hc37]; exact Nat.sub_le_sub_right hroom37 _) hr37)
            have HC241 := Aside0.mk (show y237.length ≤ c37 from by rw [hy37, hc37]; exact Nat.sub_le_sub_right hroom37 _)
            clear hr37 hC37 hroom37 hi037 hsz37 hc37
            have KY37 := Aside0.mk hy37
            have KA37 := Aside0.mk hA37
            clear hy37 hA37
            replace q37 := eq_true q37
            try go_wp2
            go_roundg k1
            case measure => have := HK1.out; omega
            case rel => exact ⟨(y237), (y234), H', ⟨by have := HK1.out; omega⟩, ⟨by (with_reducible repeat (first | apply Kd.V_alloc | apply Kd.V_drewN | apply Kd.V_drew)); exact HO241.out⟩, ⟨by (with_reducible repeat (first | apply Kd.R_alloc | apply Kd.R_drewN | apply Kd.R_drew)); exact HO236.out⟩, ⟨by repeat (first | (with_reducible first | exact HB.out | apply below_alloc | apply pw_below_drewN | apply below_drew1) | exact HB.out)⟩⟩
           ·
            rw [if_neg c29] at H
            exact absurd H (by simp)
          ·
           rw [if_neg c28] at H
           exact absurd H (by simp)
         ·
          rw [if_neg c27] at H
          exact absurd H (by simp)
        ·
         rw [if_neg c26] at H
         have c26b0 : decide (254 < (x0_1.length : Int)) = false := decide_eq_false c26
         have c26b1 : decide (254 < x0_1.length) = false := decide_eq_false (by omega)
         clear c26
         by_cases c38 : x3_1.length < 140737488355328
         ·
          rw [if_pos c38] at H
          have LMc38 := Aside0.mk c38
          clear c38
          obtain ⟨y242, hy242⟩ : ∃ y_ : List Int, y_ = (x3_1 ++ [(wrap64 ((x0_1.length : Int) + 1)) % 256]) := ⟨_, rfl⟩
          replace H : (if y242.length + x0_1.length < 140737488355328 then (some (y242 ++ x0_1)) else (none)) = some r := by first | (rw [hy242]; with_reducible exact H) | (have H2_ := (Option.bind_some _ _).symm.trans H; rw [hy242]; with_reducible exact H2_) | (have H2_ := (Option.bind_some _ _).symm.trans H; with_reducible exact H2_) | with_reducible exact H | (rw [hy242]; exact H) | exact H
          have Ny242 := Aside0.mk hy242
          clear hy242
          by_cases c39 : y242.length + x0_1.length < 140737488355328
          ·
           rw [if_pos c39] at H
           have LMc39 := Aside0.mk c39
           clear c39
           obtain ⟨y245, hy245⟩ : ∃ y_ : List Int, y_ = (y242 ++ x0_1) := ⟨_, rfl⟩
           replace H : (some y245) = some r := by first | (rw [hy245]; with_reducible exact H) | (have H2_ := (Option.bind_some _ _).symm.trans H; rw [hy245]; with_reducible exact H2_) | (have H2_ := (Option.bind_some _ _).symm.trans H; with_reducible exact H2_) | with_reducible exact H | (rw [hy245]; exact H) | exact H
           have Ny245 := Aside0.mk hy245
           clear hy245
           obtain rfl := Option.some.inj H
           obtain ⟨Ao40, co40, eo40⟩ := Kd.V_slice HO_0.out
           subst eo40
           have q41 : ((ji7) : Int) ≤ ((x0_1.length : Int) : Int) := of_decide_eq_true (by first | (with_reducible assumption) | assumption)
           obtain ⟨i041, hi041, _, hsz41, _⟩ := info_parts info5
           have hroom41 : x0_1.length ≤ co40 := (Kd.V_reads' HO_0.out).2.1
           have hC41 : Kd.F (Kd.int .u8) _ _ Ao40 x0_1.length x0_1 := (Kd.V_at (base := w.heap.size) HO_0.out).2.2
           have hcut41 := cut_to (P := Try.prog) 39 5 .i64 Try.underlying39 hi041 Ao40 x0_1.length co40 (ji7) (of_decide_eq_true (by first | (with_reducible assumption) | assumption)) q41 hroom41
           have hr41 := Kd.F_take (m := ((ji7) : Int).toNat) hC41 (by omega)
           have hy41 : y204.length = ((ji7) : Int).toNat := (by rw [Ny204.out, List.length_take]; omega)
           rw [← Ny204.out] at hr41
           rw [← hy41] at hcut41
           have HO208 := Aside0.mk (show Kd.V (Kd.int .u8) 5 _ w.heap.size _ (.slice Ao40 y204.length co40) y204 from Kd.V_mk (by omega) hr41)
           have HC208 := Aside0.mk (show y204.length ≤ co40 from by omega)
           clear hr41 hC41 hroom41 hi041 hsz41
           have KY41 := Aside0.mk hy41
           clear hy41
           replace q41 := eq_true q41
           go_wp2_with (first | ((with_reducible refine gate_callee (f := 109) rfl ?_); refine goesL_ (some 14) rfl rfl Try.func109 (by kernel_rfl) rfl #[.slice Ao40 y204.length co40, .int .u8 0] rfl (by (try simp only [List.map_toArray, List.map_cons, List.map_nil]); first | done | rfl) ?_; (with_reducible refine (bytes_IndexByte.calls _ _ y204 0 t209 _ ?side1 ?side2 A10.out).mono ?_); (case side1 => repeat (first | exact (Kd.V_reads' HO208.out).2.2 | (with_reducible refine Kd.C_alloc ?_ _) | (with_reducible refine Kd.C_drewN ?_ _) | (with_reducible refine Kd.C_drew ?_))); (case side2 => exact (Kd.V_reads' HO208.out).2.1); rintro e w' ⟨rfl, ⟨nd, rfl⟩⟩; refine ⟨_, rfl, ?_⟩) | ((with_reducible refine gate_builtin (b := .append) (xs := #[.tmp 15, .tmp 20]) rfl ?_); at_builtin; refine Kd.R_append (Kd.int .u8) (w0 := w) w.heap.size rfl (.tmp 15) (.tmp 20) 39 5 (.int .u8 0) 1 rfl Try.underlying39 info5 rfl (by decide) (by omega) u3 x3_1 ((wrap64 ((x0_1.length : Int) + 1)) % 256) [.int .u8 ((wrap64 ((x0_1.length : Int) + 1)) % 256)] (fun k_ => (w.heap.size ≤ k_)) (fun _ => False) rfl rfl ?aP (fun _ hk => hk.elim) ?aF ?aO ?aB ?aS ?aL ?_; (case aP => exact rfl); (case aB => exact (by repeat with_reducible first | exact HB.out | apply below_alloc | apply pw_below_drewN | apply below_drew1)); (case aF => exact (fun k_ hk => (Nat.le_trans (below_size (by repeat with_reducible first | exact HB.out | apply below_alloc | apply pw_below_drewN | apply below_drew1)) hk))); (case aO => exact (by (with_reducible repeat (first | apply Kd.R_alloc | apply Kd.R_drewN | apply Kd.R_drew)); exact HO_3.out)); (case aS => exact (below_size (by repeat with_reducible first | exact HB.out | apply below_alloc | apply pw_below_drewN | apply below_drew1))); (case aL => have := LMc38.out; omega); intro v243 w42 ho hb hg hat; rw [← Ny242.out] at ho; replace HO_0 := Aside0.mk (Kd.V_afterv (ok := (fun k_ => (P0_ k_ ∨ w.heap.size ≤ k_))) (by (with_reducible repeat (first | apply Kd.V_alloc | apply Kd.V_drewN | apply Kd.V_drew)); exact HO_0.out) hg hat); replace HO208 := Aside0.mk (Kd.V_afterv (ok := (fun k_ => (P0_ k_ ∨ w.heap.size ≤ k_))) (by (with_reducible repeat (first | apply Kd.V_alloc | apply Kd.V_drewN | apply Kd.V_drew)); exact HO208.out) hg hat); replace HB := Aside0.mk (hb); have HO244 := Aside0.mk (ho); clear HO_3; clear ho hb hg hat) | ((with_reducible refine gate_builtin (b := .append) (xs := #[.tmp 21, .tmp 22]) rfl ?_); at_builtin; refine Kd.R_append_rows (Kd.int .u8) (w0 := w) w.heap.size rfl (.tmp 21) (.tmp 22) 39 5 (.int .u8 0) 1 rfl Try.underlying39 info5 rfl (by decide) (by omega) v243 y242 x0_1 _ _ _ (fun k_ => (w.heap.size ≤ k_)) (fun _ => False) rfl rfl ?aO ?aR (fun _ _ h => h) (fun _ h => h.elim) ?aF ?aB ?aS ?aL ?_; (case aR => repeat (first | exact (Kd.V_reads' HO_0.out).2.2 | (with_reducible refine Kd.C_alloc ?_ _) | (with_reducible refine Kd.C_drewN ?_ _) | (with_reducible refine Kd.C_drew ?_))); (case aB => exact (by repeat with_reducible first | exact HB.out | apply below_alloc | apply pw_below_drewN | apply below_drew1)); (case aF => exact (fun k_ hk => (Nat.le_trans (below_size (by repeat with_reducible first | exact HB.out | apply below_alloc | apply pw_below_drewN | apply below_drew1)) hk))); (case aO => exact (by (with_reducible repeat (first | apply Kd.R_alloc | apply Kd.R_drewN | apply Kd.R_drew)); exact HO244.out)); (case aS => exact (below_size (by repeat with_reducible first | exact HB.out | apply below_alloc | apply pw_below_drewN | apply below_drew1))); (case aL => have := LMc39.out; omega); intro v246 w43 ho hb hg hat; rw [← Ny245.out] at ho; replace HO_0 := Aside0.mk (Kd.V_afterv (ok := (fun k_ => (P0_ k_ ∨ w.heap.size ≤ k_))) (by (with_reducible repeat (first | apply Kd.V_alloc | apply Kd.V_drewN | apply Kd.V_drew)); exact HO_0.out) hg hat); replace HO208 := Aside0.mk (Kd.V_afterv (ok := (fun k_ => (P0_ k_ ∨ w.heap.size ≤ k_))) (by (with_reducible repeat (first | apply Kd.V_alloc | apply Kd.V_drewN | apply Kd.V_drew)); exact HO208.out) hg hat); replace HB := Aside0.mk (hb); have HO247 := Aside0.mk (ho); clear HO244; clear ho hb hg hat))
           go_ret
           exact ⟨_, by first | rfl | (simp [errW_none, errW_some] <;> rfl) | (simp only [← hji7]; first | rfl | (simp [errW_none, errW_some] <;> rfl)) | (simp [*, errW_none, errW_some] <;> rfl), by (with_reducible repeat (first | apply Kd.R_alloc | apply Kd.R_drewN | apply Kd.R_drew)); exact HO247.out, by repeat (first | (with_reducible first | exact HB.out | apply below_alloc | apply pw_below_drewN | apply below_drew1) | exact HB.out)⟩
          ·
           rw [if_neg c39] at H
           exact absurd H (by simp)
         ·
          rw [if_neg c38] at H
          exact absurd H (by simp)
      ·
       rw [if_neg c9] at H
       exact absurd H (by simp)
     ·
      rw [if_neg c8] at H
      exact absurd H (by simp)
  ·
   rw [if_neg c4] at H
   exact absurd H (by simp)
 ·
  rw [if_neg c3] at H
  exact absurd H (by simp)
def bytes_Equal.f (l0 : List Int) (l1 : List Int) : Option (Bool) := some ((strOfNums l0).toList == (strOfNums l1).toList)
set_option maxHeartbeats 8000000 in
set_option maxRecDepth 100000 in
theorem bytes_Equal.calls (A0 : Option Addr) (c0 : Nat) (l0 : List Int) (A1 : Option Addr) (c1 : Nat) (l1 : List Int) (r : Bool) (w : World) (hr0 : Kd.C (Kd.int .u8) w A0 l0.length l0) (hc0 : l0.length ≤ c0) (hr1 : Kd.C (Kd.int .u8) w A1 l1.length l1) (hc1 : l1.length ≤ c1) (h : bytes_Equal.f l0 l1 = some r) :
  Calls Try.prog 110 #[.slice A0 l0.length c0, .slice A1 l1.length c1] w fun e w' => e = .returned (.bool r) ∧ Drawn0 w w' := by
 have HR0 := Aside0.mk hr0
 have HC0 := Aside0.mk hc0
 clear hr0 hc0
 have HR1 := Aside0.mk hr1
 have HC1 := Aside0.mk hc1
 clear hr1 hc1
 have H : (some ((strOfNums l0).toList == (strOfNums l1).toList)) = some r := h
 clear h
 obtain rfl := Option.some.inj H
 have hcv3 := Kd.C_string (P := Try.prog) (A := A0) (c := c0) Try.underlying39 Try.underlying5 Try.underlying9 HR0.out
 have hcv4 := Kd.C_string (P := Try.prog) (A := A1) (c := c1) Try.underlying39 Try.underlying5 Try.underlying9 HR1.out
 go_enter Try.func110, Try.ntmps110
 go_wp2
 go_ret
 exact ⟨by first | rfl | (simp; done) | (simp [*]; done), by repeat (first | exact Drawn0.refl _ | apply Drawn0.step)⟩
end Go.Proofs.Ytekanmieppnpeaa.G
end
section
namespace Go.Proofs.Ytekanmieppnpeaa.G
open Go.RowKit Go.Proofs.YtekanmieppnpeaaW.PrintWords Go.Proofs.YtekanmieppnpeaaW.PrintLast Go.Proofs.YtekanmieppnpeaaW.PrintMore
attribute [local go_sem] max2_int min2_int max_two min_two max_three min_three max_four min_four   -- for this text's walks alone
def cobs_Unstuff.l0 : Nat → List Int → List Int → List Int → Option (List Int × Int)
 | 0, _, _, _ => none
 | k + 1, x0, x4, x5 => if (x5.length : Int) > 0 then (if 0 < (x5.length : Int) then (if (wrap64 (rd x5 0)) > (x5.length : Int) then (some (([] : List Int), 2)) else (if 1 ≤ (wrap64 (rd x5 0)) then (if (wrap64 (rd x5 0)) ≤ (x5.length : Int) then ((some ((x5.take ((wrap64 (rd x5 0)) : Int).toNat).drop 1 : List Int)).bind fun y250 => (if x4.length + y250.length < 140737488355328 then ((some (x4 ++ y250 : List Int)).bind fun y255 => (if 0 ≤ (wrap64 (rd x5 0)) then ((some (x5.drop ((wrap64 (rd x5 0)) : Int).toNat : List Int)).bind fun y258 => (if (wrap64 (rd x5 0)) ≤ 254 then (if (y258.length : Int) > 0 then (if y255.length < 140737488355328 then (cobs_Unstuff.l0 k x0 (y255 ++ [0]) y258) else (none)) else (cobs_Unstuff.l0 k x0 y255 y258)) else (cobs_Unstuff.l0 k x0 y255 y258))) else (none))) else (none))) else (none)) else (none))) else (none)) else ((cobs_Stuff.f k x4).bind fun t266 => ((bytes_Equal.f t266 x0).bind fun t269 => (if t269 = true then (some (x4, 0)) else (some (([] : List Int), 4)))))
def cobs_Unstuff.f (k : Nat) (l0 : List Int) : Option (List Int × Int) := (bytes_IndexByte.f l0 0).bind fun t248 => (if t248 ≥ 0 then (some (([] : List Int), 4)) else (if (l0.length : Int) = 0 then (some (([] : List Int), 2)) else (cobs_Unstuff.l0 k l0 ([] : List Int) l0)))
theorem cobs_Unstuff.mono_l : ∀ k, (∀ y0 y1 y2, LeO (cobs_Unstuff.l0 k y0 y1 y2) (cobs_Unstuff.l0 (k + 1) y0 y1 y2))
 | 0 => fun _ _ _ r h => by simp [cobs_Unstuff.l0] at h
 | k + 1 => by
  have ih0 := cobs_Unstuff.mono_l k
  ·
   intro y0 y1 y2
   unfold cobs_Unstuff.l0
   repeat' first
   | (with_reducible exact ih0 _ _ _)
   | (with_reducible exact cobs_Stuff.mono _ _)
   | (with_reducible exact LeO.refl _)
   | (with_reducible exact LeO.none _)
   | (with_reducible refine LeO.ite ?_ ?_)
   | (with_reducible refine LeO.bind ?_ (fun _ => ?_))
   | exact ih0 _ _ _
   | exact cobs_Stuff.mono _ _
   | exact LeO.none _
   | refine LeO.ite ?_ ?_
   | refine LeO.bind ?_ (fun _ => ?_)
theorem cobs_Unstuff.mono : ∀ a0 k, LeO (cobs_Unstuff.f k a0) (cobs_Unstuff.f (k + 1) a0) := by
 intro a0 k
 have ih0 := cobs_Unstuff.mono_l k
 unfold cobs_Unstuff.f
 repeat' first
   | (with_reducible exact ih0 _ _ _)
   | (with_reducible exact cobs_Stuff.mono _ _)
   | (with_reducible exact LeO.refl _)
   | (with_reducible exact LeO.none _)
   | (with_reducible refine LeO.ite ?_ ?_)
   | (with_reducible refine LeO.bind ?_ (fun _ => ?_))
   | exact ih0 _ _ _
   | exact cobs_Stuff.mono _ _
   | exact LeO.none _
   | refine LeO.ite ?_ ?_
   | refine LeO.bind ?_ (fun _ => ?_)
set_option maxHeartbeats 8000000 in
set_option maxRecDepth 100000 in
theorem cobs_Unstuff.calls (k : Nat) (P0_ : Nat → Prop) (A0 : Option Addr) (c0 : Nat) (l0 : List Int) (r1 : List Int) (r2 : Int) (w : World) (hs0 : Kd.V (Kd.int .u8) 5 w w.heap.size (fun k_ => P0_ k_) (.slice A0 l0.length c0) l0) (h : cobs_Unstuff.f k l0 = some (r1, r2)) :
  Calls Try.prog 50 #[.slice A0 l0.length c0] w fun e w' => ∃ v0_ : Value, e = .returned (.tuple #[v0_, .int .i64 r2]) ∧ Kd.R (Kd.int .u8) 5 w' w.heap.size (fun k_ => (w.heap.size ≤ k_)) v0_ r1 ∧ Below w.heap.size w w' := by
 have HO0 := Aside0.mk (show Kd.V (Kd.int .u8) 5 w w.heap.size (fun k_ => (P0_ k_ ∨ w.heap.size ≤ k_)) (.slice A0 l0.length c0) l0 from Kd.V_mono hs0 (fun k_ hk => .inl hk))
 have HB := Aside0.mk (Below.refl w.heap.size w)
 have H : ((bytes_IndexByte.f l0 0).bind fun t248 => (if t248 ≥ 0 then (some (([] : List Int), 4)) else (if (l0.length : Int) = 0 then (some (([] : List Int), 2)) else (cobs_Unstuff.l0 k l0 ([] : List Int) l0)))) = some (r1, r2) := h
 clear h
 replace H := Option.bind_eq_some_iff.mp H
 obtain ⟨t248, A20, H⟩ := H
 replace H : (if t248 ≥ 0 then (some (([] : List Int), 4)) else (if (l0.length : Int) = 0 then (some (([] : List Int), 2)) else (cobs_Unstuff.l0 k l0 ([] : List Int) l0))) = some (r1, r2) := H
 have A2 := Aside0.mk A20
 clear A20
 by_cases c3 : t248 ≥ 0
 ·
  rw [if_pos c3] at H
  have c3b0 : decide (0 ≤ t248) = true := decide_eq_true c3
  clear c3
  simp only [Option.some.injEq, Prod.mk.injEq] at H
  obtain ⟨rfl, rfl⟩ := H
  go_enter Try.func50, Try.ntmps50
  go_wp2_with (first | ((with_reducible refine gate_callee (f := 109) rfl ?_); refine goesL_ (some 8) rfl rfl Try.func109 (by kernel_rfl) rfl #[.slice A0 l0.length c0, .int .u8 0] rfl (by (try simp only [List.map_toArray, List.map_cons, List.map_nil]); first | done | rfl) ?_; (with_reducible refine (bytes_IndexByte.calls _ _ l0 0 t248 _ ?side1 ?side2 A2.out).mono ?_); (case side1 => repeat (first | exact (Kd.V_reads' HO0.out).2.2 | (with_reducible refine Kd.C_alloc ?_ _) | (with_reducible refine Kd.C_drewN ?_ _) | (with_reducible refine Kd.C_drew ?_))); (case side2 => exact (Kd.V_reads' HO0.out).2.1); rintro e w' ⟨rfl, ⟨nd, rfl⟩⟩; refine ⟨_, rfl, ?_⟩))
  go_ret2
  exact ⟨_, by first | rfl | (simp [errW_none, errW_some] <;> rfl) | (simp [*, errW_none, errW_some] <;> rfl), by first | exact Kd.R_nil _ _ _ _ _ | exact Kd.N_nil _ _ _ _ _ | exact Kd.V_nil _ _ _ _ _ | exact Kd.Q_nil _ _ _ _ _ | exact Kd.S_nil _ _ _ _ _, by repeat (first | (with_reducible first | exact HB.out | apply below_alloc | apply pw_below_drewN | apply below_drew1) | exact HB.out)⟩
 ·
  rw [if_neg c3] at H
  have c3b0 : decide (0 ≤ t248) = false := decide_eq_false c3
  clear c3
  by_cases c4 : (l0.length : Int) = 0
  ·
   rw [if_pos c4] at H
   have c4b0 : ((l0.length : Int) == 0) = true := beq_iff_eq.mpr c4
   have c4b1 : ((l0.length : Int) != 0) = false := bne_eq_false_iff_eq.mpr c4
   clear c4
   simp only [Option.some.injEq, Prod.mk.injEq] at H
   obtain ⟨rfl, rfl⟩ := H
   go_enter Try.func50, Try.ntmps50
   go_wp2_with (first | ((with_reducible refine gate_callee (f := 109) rfl ?_); refine goesL_ (some 8) rfl rfl Try.func109 (by kernel_rfl) rfl #[.slice A0 l0.length c0, .int .u8 0] rfl (by (try simp only [List.map_toArray, List.map_cons, List.map_nil]); first | done | rfl) ?_; (with_reducible refine (bytes_IndexByte.calls _ _ l0 0 t248 _ ?side1 ?side2 A2.out).mono ?_); (case side1 => repeat (first | exact (Kd.V_reads' HO0.out).2.2 | (with_reducible refine Kd.C_alloc ?_ _) | (with_reducible refine Kd.C_drewN ?_ _) | (with_reducible refine Kd.C_drew ?_))); (case side2 => exact (Kd.V_reads' HO0.out).2.1); rintro e w' ⟨rfl, ⟨nd, rfl⟩⟩; refine ⟨_, rfl, ?_⟩))
   go_ret2
   exact ⟨_, by first | rfl | (simp [errW_none, errW_some] <;> rfl) | (simp [*, errW_none, errW_some] <;> rfl), by first | exact Kd.R_nil _ _ _ _ _ | exact Kd.N_nil _ _ _ _ _ | exact Kd.V_nil _ _ _ _ _ | exact Kd.Q_nil _ _ _ _ _ | exact Kd.S_nil _ _ _ _ _, by repeat (first | (with_reducible first | exact HB.out | apply below_alloc | apply pw_below_drewN | apply below_drew1) | exact HB.out)⟩
  ·
   rw [if_neg c4] at H
   have c4b0 : ((l0.length : Int) == 0) = false := beq_eq_false_iff_ne.mpr c4
   have c4b1 : ((l0.length : Int) != 0) = true := bne_iff_ne.mpr c4
   have c4b2 : ¬ (l0 = []) := fun h_ => c4 (by rw [h_]; rfl)
   have H' := Aside0.mk H
   clear H
   go_enter Try.func50, Try.ntmps50
   go_wp2_with (first | ((with_reducible refine gate_callee (f := 109) rfl ?_); refine goesL_ (some 8) rfl rfl Try.func109 (by kernel_rfl) rfl #[.slice A0 l0.length c0, .int .u8 0] rfl (by (try simp only [List.map_toArray, List.map_cons, List.map_nil]); first | done | rfl) ?_; (with_reducible refine (bytes_IndexByte.calls _ _ l0 0 t248 _ ?side1 ?side2 A2.out).mono ?_); (case side1 => repeat (first | exact (Kd.V_reads' HO0.out).2.2 | (with_reducible refine Kd.C_alloc ?_ _) | (with_reducible refine Kd.C_drewN ?_ _) | (with_reducible refine Kd.C_drew ?_))); (case side2 => exact (Kd.V_reads' HO0.out).2.1); rintro e w' ⟨rfl, ⟨nd, rfl⟩⟩; refine ⟨_, rfl, ?_⟩))
   go_loopg [4, 5] k (fun kq v4 v5 w' => ∃ (x4_1 : List Int) (x5_1 : List Int), Aside0 (cobs_Unstuff.l0 kq l0 x4_1 x5_1 = some (r1, r2)) ∧ Aside0 (kq ≤ k) ∧ Aside0 (Kd.V (Kd.int .u8) 5 w' w.heap.size (fun k_ => (P0_ k_ ∨ w.heap.size ≤ k_) ∧ some k_ ≠ (v4 : Value).ownBlock) (.slice A0 l0.length c0) l0) ∧ Aside0 (Kd.R (Kd.int .u8) 5 w' w.heap.size (fun k_ => (w.heap.size ≤ k_)) v4 x4_1) ∧ Aside0 (Kd.V (Kd.int .u8) 5 w' w.heap.size (fun k_ => (P0_ k_ ∨ w.heap.size ≤ k_) ∧ some k_ ≠ (v4 : Value).ownBlock) v5 x5_1) ∧ Aside0 (Below w.heap.size w w'))
   case atStart => exact ⟨(([] : List Int)), (l0), H', ⟨Nat.le_refl _⟩, ⟨by (with_reducible repeat (first | apply Kd.V_alloc | apply Kd.V_drewN | apply Kd.V_drew)); exact Kd.V_mono HO0.out (fun _ hk => ⟨hk, (by simp [Value.ownBlock])⟩)⟩, ⟨by first | exact Kd.R_nil _ _ _ _ _ | exact Kd.N_nil _ _ _ _ _ | exact Kd.V_nil _ _ _ _ _ | exact Kd.Q_nil _ _ _ _ _ | exact Kd.S_nil _ _ _ _ _⟩, ⟨by (with_reducible repeat (first | apply Kd.V_alloc | apply Kd.V_drewN | apply Kd.V_drew)); exact Kd.V_mono HO0.out (fun _ hk => ⟨hk, (by simp [Value.ownBlock])⟩)⟩, ⟨by repeat (first | (with_reducible first | exact HB.out | apply below_alloc | apply pw_below_drewN | apply below_drew1) | exact HB.out)⟩⟩
   case round =>
    clear H'
    try clear c1
    try clear p2
    try clear c3
    try clear c3b0
    try clear c4
    try clear c4b0
    try clear c4b1
    try clear c4b2
    obtain ⟨x4_1, x5_1, HA, HK1, HO_0, HO_4, HO_5, HB⟩ := hrel
    cases gk with
    | zero => exact absurd HA.out (by simp [cobs_Unstuff.l0])
    | succ k1 =>
     have H := HA.out
     clear HA
     simp only [cobs_Unstuff.l0] at H
     by_cases c5 : (x5_1.length : Int) > 0
     ·
      rw [if_pos c5] at H
      have c5b0 : decide (0 < (x5_1.length : Int)) = true := decide_eq_true c5
      have c5b1 : decide (0 < x5_1.length) = true := decide_eq_true (by omega)
      clear c5
      by_cases c6 : 0 < (x5_1.length : Int)
      ·
       rw [if_pos c6] at H
       have c6b0 : decide (0 < (x5_1.length : Int)) = true := decide_eq_true c6
       have c6b1 : decide (0 < x5_1.length) = true := decide_eq_true (by omega)
       clear c6
       by_cases c7 : (wrap64 (rd x5_1 0)) > (x5_1.length : Int)
       ·
        rw [if_pos c7] at H
        have c7b0 : decide ((x5_1.length : Int) < (wrap64 (rd x5_1 0))) = true := decide_eq_true c7
        clear c7
        simp only [Option.some.injEq, Prod.mk.injEq] at H
        obtain ⟨rfl, rfl⟩ := H
        obtain ⟨Ao8, co8, eo8⟩ := Kd.V_slice HO_5.out
        subst eo8
        have p249 : 0 ≤ (0 : Int) := (by omega)
        have q249 : 0 < (x5_1.length : Int) := of_decide_eq_true (by first | (with_reducible assumption) | assumption)
        obtain ⟨ad249, e249, hx249_0⟩ := Kd.at_int (Kd.V_reads' HO_5.out).2.2 0 p249 q249
        cases e249
        have qi249 : (0 < x5_1.length) = True := eq_true (by omega)
        (try rw [show ((0 : Int)).toNat = 0 from rfl] at hx249_0)
        (try rw [Addr.add_zero'] at hx249_0)
        replace p249 := eq_true p249
        replace q249 := eq_true q249
        go_wp2
        go_ret2
        exact ⟨_, by first | rfl | (simp [errW_none, errW_some] <;> rfl) | (simp [*, errW_none, errW_some] <;> rfl), by first | exact Kd.R_nil _ _ _ _ _ | exact Kd.N_nil _ _ _ _ _ | exact Kd.V_nil _ _ _ _ _ | exact Kd.Q_nil _ _ _ _ _ | exact Kd.S_nil _ _ _ _ _, by repeat (first | (with_reducible first | exact HB.out | apply below_alloc | apply pw_below_drewN | apply below_drew1) | exact HB.out)⟩
       ·
        rw [if_neg c7] at H
        have c7b0 : decide ((x5_1.length : Int) < (wrap64 (rd x5_1 0))) = false := decide_eq_false c7
        clear c7
        by_cases c9 : 1 ≤ (wrap64 (rd x5_1 0))
        ·
         rw [if_pos c9] at H
         have c9b0 := eq_true c9
         have c9b1 : decide (1 ≤ (wrap64 (rd x5_1 0))) = true := decide_eq_true c9
         clear c9
         by_cases c10 : (wrap64 (rd x5_1 0)) ≤ (x5_1.length : Int)
         ·
          rw [if_pos c10] at H
          have c10b0 := eq_true c10
          have c10b1 : decide ((wrap64 (rd x5_1 0)) ≤ (x5_1.length : Int)) = true := decide_eq_true c10
          clear c10
          obtain ⟨y250, hy250⟩ : ∃ y_ : List Int, y_ = ((x5_1.take ((wrap64 (rd x5_1 0)) : Int).toNat).drop 1) := ⟨_, rfl⟩
          replace H : (if x4_1.length + y250.length < 140737488355328 then ((some (x4_1 ++ y250 : List Int)).bind fun y255 => (if 0 ≤ (wrap64 (rd x5_1 0)) then ((some (x5_1.drop ((wrap64 (rd x5_1 0)) : Int).toNat : List Int)).bind fun y258 => (if (wrap64 (rd x5_1 0)) ≤ 254 then (if (y258.length : Int) > 0 then (if y255.length < 140737488355328 then (cobs_Unstuff.l0 k1 l0 (y255 ++ [0]) y258) else (none)) else (cobs_Unstuff.l0 k1 l0 y255 y258)) else (cobs_Unstuff.l0 k1 l0 y255 y258))) else (none))) else (none)) = some (r1, r2) := by first | (rw [hy250]; with_reducible exact H) | (have H2_ := (Option.bind_some _ _).symm.trans H; rw [hy250]; with_reducible exact H2_) | (have H2_ := (Option.bind_some _ _).symm.trans H; with_reducible exact H2_) | with_reducible exact H | (rw [hy250]; exact H) | exact H
          have Ny250 := Aside0.mk hy250
          clear hy250
          by_cases c11 : x4_1.length + y250.length < 140737488355328
          ·
           rw [if_pos c11] at H
           have LMc11 := Aside0.mk c11
           clear c11
           obtain ⟨y255, hy255⟩ : ∃ y_ : List Int, y_ = (x4_1 ++ y250) := ⟨_, rfl⟩
           replace H : (if 0 ≤ (wrap64 (rd x5_1 0)) then ((some (x5_1.drop ((wrap64 (rd x5_1 0)) : Int).toNat : List Int)).bind fun y258 => (if (wrap64 (rd x5_1 0)) ≤ 254 then (if (y258.length : Int) > 0 then (if y255.length < 140737488355328 then (cobs_Unstuff.l0 k1 l0 (y255 ++ [0]) y258) else (none)) else (cobs_Unstuff.l0 k1 l0 y255 y258)) else (cobs_Unstuff.l0 k1 l0 y255 y258))) else (none)) = some (r1, r2) := by first | (rw [hy255]; with_reducible exact H) | (have H2_ := (Option.bind_some _ _).symm.trans H; rw [hy255]; with_reducible exact H2_) | (have H2_ := (Option.bind_some _ _).symm.trans H; with_reducible exact H2_) | with_reducible exact H | (rw [hy255]; exact H) | exact H
           have Ny255 := Aside0.mk hy255
           clear hy255
           obtain ⟨ji12, hji12⟩ : ∃ j_ : Int, (wrap64 (rd x5_1 0)) = j_ := ⟨_, rfl⟩
           replace H : (if 0 ≤ (ji12) then ((some (x5_1.drop ((ji12) : Int).toNat : List Int)).bind fun y258 => (if (ji12) ≤ 254 then (if (y258.length : Int) > 0 then (if y255.length < 140737488355328 then (cobs_Unstuff.l0 k1 l0 (y255 ++ [0]) y258) else (none)) else (cobs_Unstuff.l0 k1 l0 y255 y258)) else (cobs_Unstuff.l0 k1 l0 y255 y258))) else (none)) = some (r1, r2) := by first | (rw [hji12] at H; exact H) | (simp only [hji12] at H ⊢; exact H)
           (try rw [hji12] at c7b0)
           (try rw [hji12] at c9b0)
           (try rw [hji12] at c9b1)
           (try rw [hji12] at c10b0)
           (try rw [hji12] at c10b1)
           (try rw [hji12] at Ny250)
           (try rw [hji12] at Ny250)
           have hji12w : (IntKind.i64.wrap (rd x5_1 0)) = ji12 := (i64_w _).trans hji12
           by_cases c13 : 0 ≤ (ji12)
           ·
            rw [if_pos c13] at H
            have c13b0 := eq_true c13
            have c13b1 : decide (0 ≤ (ji12)) = true := decide_eq_true c13
            clear c13
            have c14b0 := eq_true (of_decide_eq_true (by first | (with_reducible assumption) | assumption) : (ji12) ≤ (x5_1.length : Int))
            obtain ⟨y258, hy258⟩ : ∃ y_ : List Int, y_ = (x5_1.drop ((ji12) : Int).toNat) := ⟨_, rfl⟩
            replace H : (if (ji12) ≤ 254 then (if (y258.length : Int) > 0 then (if y255.length < 140737488355328 then (cobs_Unstuff.l0 k1 l0 (y255 ++ [0]) y258) else (none)) else (cobs_Unstuff.l0 k1 l0 y255 y258)) else (cobs_Unstuff.l0 k1 l0 y255 y258)) = some (r1, r2) := by first | (rw [hy258]; with_reducible exact H) | (have H2_ := (Option.bind_some _ _).symm.trans H; rw [hy258]; with_reducible exact H2_) | (have H2_ := (Option.bind_some _ _).symm.trans H; with_reducible exact H2_) | with_reducible exact H | (rw [hy258]; exact H) | exact H
            have Ny258 := Aside0.mk hy258
            clear hy258
            by_cases c15 : (ji12) ≤ 254
            ·
             rw [if_pos c15] at H
             have c15b0 : decide ((ji12) ≤ 254) = true := decide_eq_true c15
             clear c15
             by_cases c16 : (y258.length : Int) > 0
             ·
              rw [if_pos c16] at H
              have c16b0 : decide (0 < (y258.length : Int)) = true := decide_eq_true c16
              have c16b1 : decide (0 < y258.length) = true := decide_eq_true (by omega)
              clear c16
              by_cases c17 : y255.length < 140737488355328
              ·
               rw [if_pos c17] at H
               have LMc17 := Aside0.mk c17
               clear c17
               obtain ⟨y263, hy263⟩ : ∃ y_ : List Int, y_ = (y255 ++ [0]) := ⟨_, rfl⟩
               replace H : (cobs_Unstuff.l0 k1 l0 y263 y258) = some (r1, r2) := by first | (rw [hy263]; with_reducible exact H) | (have H2_ := (Option.bind_some _ _).symm.trans H; rw [hy263]; with_reducible exact H2_) | (have H2_ := (Option.bind_some _ _).symm.trans H; with_reducible exact H2_) | with_reducible exact H | (rw [hy263]; exact H) | exact H
               have Ny263 := Aside0.mk hy263
               clear hy263
               have H' := Aside0.mk H
               clear H
               obtain ⟨Ao18, co18, eo18⟩ := Kd.V_slice HO_5.out
               subst eo18
               have p249 : 0 ≤ (0 : Int) := (by omega)
               have q249 : 0 < (x5_1.length : Int) := of_decide_eq_true (by first | (with_reducible assumption) | assumption)
               obtain ⟨ad249, e249, hx249_0⟩ := Kd.at_int (Kd.V_reads' HO_5.out).2.2 0 p249 q249
               cases e249
               have qi249 : (0 < x5_1.length) = True := eq_true (by omega)
               (try rw [show ((0 : Int)).toNat = 0 from rfl] at hx249_0)
               (try rw [Addr.add_zero'] at hx249_0)
               replace p249 := eq_true p249
               replace q249 := eq_true q249
               have q19 : ((ji12) : Int) ≤ ((x5_1.length : Int) : Int) := of_decide_eq_true (by first | (with_reducible assumption) | assumption)
               obtain ⟨i019, hi019, _, hsz19, _⟩ := info_parts info5
               have hroom19 : x5_1.length ≤ co18 := (Kd.V_reads' HO_5.out).2.1
               have hC19 : Kd.F (Kd.int .u8) _ _ (some ad249) x5_1.length x5_1 := (Kd.V_at (base := w.heap.size) HO_5.out).2.2
               have ql19 : (1 : Int) ≤ ((ji12) : Int) := of_decide_eq_true (by first | (with_reducible assumption) | assumption)
               have hcut19 := cut_mid (P := Try.prog) 39 5 .i64 .i64 Try.underlying39 hi019 1 hsz19 (some ad249) x5_1.length co18 1 (ji12) (by omega) ql19 q19 hroom19
               have hr19 := Kd.F_mid (lo := (1 : Int).toNat) (hi := ((ji12) : Int).toNat) (c := co18) hC19 (by omega) (by omega) hroom19
               obtain ⟨A19, hA19⟩ : ∃ A1, A1 = (if co18 = (1 : Int).toNat then (some ad249) else ((some ad249) : Option Addr).map (·.add ((1 : Int).toNat * 1))) := ⟨_, rfl⟩
               obtain ⟨c19, hc19⟩ : ∃ c1, c1 = co18 - (1 : Int).toNat := ⟨_, rfl⟩
               have hy19 : y250.length = ((ji12) : Int).toNat - (1 : Int).toNat := (by rw [Ny250.out, List.length_drop, List.length_take] <;> omega)
               rw [show ((x5_1).take ((ji12) : Int).toNat).drop (1 : Int).toNat = y250 from Ny250.out.symm] at hr19
               replace hr19 : Kd.F (Kd.int .u8) _ _ A19 y250.length y250 := (by rw [hA19]; exact hr19)
               rw [← hy19, ← hA19, ← hc19] at hcut19
               have HO254 := Aside0.mk (show Kd.V (Kd.int .u8) 5 _ w.heap.size _ (.slice A19 y250.length c19) y250 from Kd.V_mk (by rw [hy19, hc19]; exact Nat.sub_le_sub_right (Nat.le_trans (by omega) hroom19) _) hr19)
               have HC254 := Aside0.mk (show y250.length ≤ c19 from by rw [hy19, hc19]; exact Nat.sub_le_sub_right (Nat.le_trans (by omega) hroom19) _)
               clear hr19 hC19 hroom19 hi019 hsz19 hc19
               have KY19 := Aside0.mk hy19
               have KA19 := Aside0.mk hA19
               clear hy19 hA19
               replace q19 := eq_true q19
               go_wp2_with (first | ((with_reducible refine gate_builtin (b := .append) (xs := #[.tmp 25, .tmp 28]) rfl ?_); (try (refine gate_guard (by rfl) ?_; dsimp only)); at_builtin; refine Kd.R_append_rows (Kd.int .u8) (w0 := w) w.heap.size rfl (.tmp 25) (.tmp 28) 39 5 (.int .u8 0) 1 rfl Try.underlying39 info5 rfl (by decide) (by omega) u4 x4_1 y250 _ _ _ (fun k_ => (w.heap.size ≤ k_)) (fun _ => False) rfl rfl ?aO ?aR (fun _ _ h => h) (fun _ h => h.elim) ?aF ?aB ?aS ?aL ?_; (case aR => repeat (first | exact (Kd.V_reads' HO254.out).2.2 | (with_reducible refine Kd.C_alloc ?_ _) | (with_reducible refine Kd.C_drewN ?_ _) | (with_reducible refine Kd.C_drew ?_))); (case aB => exact (by repeat with_reducible first | exact HB.out | apply below_alloc | apply pw_below_drewN | apply below_drew1)); (case aF => exact (fun k_ hk => (Nat.le_trans (below_size (by repeat with_reducible first | exact HB.out | apply below_alloc | apply pw_below_drewN | apply below_drew1)) hk))); (case aO => exact (by (with_reducible repeat (first | apply Kd.R_alloc | apply Kd.R_drewN | apply Kd.R_drew)); exact HO_4.out)); (case aS => exact (below_size (by repeat with_reducible first | exact HB.out | apply below_alloc | apply pw_below_drewN | apply below_drew1))); (case aL => have := LMc11.out; omega); intro v256 w20 ho hb hg hat; rw [← Ny255.out] at ho; replace HO_0 := Aside0.mk (Kd.V_afterv (ok := (fun k_ => (P0_ k_ ∨ w.heap.size ≤ k_))) (by (with_reducible repeat (first | apply Kd.V_alloc | apply Kd.V_drewN | apply Kd.V_drew)); exact HO_0.out) hg hat); replace HO_5 := Aside0.mk (Kd.V_afterv (ok := (fun k_ => (P0_ k_ ∨ w.heap.size ≤ k_))) (by (with_reducible repeat (first | apply Kd.V_alloc | apply Kd.V_drewN | apply Kd.V_drew)); exact HO_5.out) hg hat); replace HO254 := Aside0.mk (Kd.V_afterv (ok := (fun k_ => (P0_ k_ ∨ w.heap.size ≤ k_))) (by (with_reducible repeat (first | apply Kd.V_alloc | apply Kd.V_drewN | apply Kd.V_drew)); exact HO254.out) hg hat); replace HB := Aside0.mk (hb); have HO257 := Aside0.mk (ho); clear HO_4; clear ho hb hg hat; have q21 : ((ji12) : Int) ≤ ((x5_1.length : Int) : Int) := of_decide_eq_true (by first | (with_reducible assumption) | assumption); obtain ⟨i021, hi021, _, hsz21, _⟩ := info_parts info5; have hroom21 : x5_1.length ≤ co18 := (Kd.V_reads' HO_5.out).2.1; have hC21 : Kd.F (Kd.int .u8) _ _ (some ad249) x5_1.length x5_1 := (Kd.V_at (base := w.heap.size) HO_5.out).2.2; have q021 : (0 : Int) ≤ ((ji12) : Int) := of_decide_eq_true (by first | (with_reducible assumption) | assumption); have hcut21 := cut_from (P := Try.prog) 39 5 .i64 Try.underlying39 hi021 1 hsz21 (some ad249) x5_1.length co18 (ji12) q021 q21; have hr21 := Kd.F_cut (m := ((ji12) : Int).toNat) (c := co18) hC21 (by omega) hroom21; obtain ⟨A21, hA21⟩ : ∃ A1, A1 = (if co18 = ((ji12) : Int).toNat then (some ad249) else ((some ad249) : Option Addr).map (·.add (((ji12) : Int).toNat * 1))) := ⟨_, rfl⟩; obtain ⟨c21, hc21⟩ : ∃ c1, c1 = co18 - ((ji12) : Int).toNat := ⟨_, rfl⟩; have hy21 : y258.length = x5_1.length - ((ji12) : Int).toNat := (by rw [Ny258.out, List.length_drop] <;> omega); rw [show (x5_1).drop ((ji12) : Int).toNat = y258 from Ny258.out.symm] at hr21; replace hr21 : Kd.F (Kd.int .u8) _ _ A21 y258.length y258 := (by rw [hA21]; exact hr21); rw [← hy21, ← hA21, ← hc21] at hcut21; have HO262 := Aside0.mk (show Kd.V (Kd.int .u8) 5 _ w.heap.size _ (.slice A21 y258.length c21) y258 from Kd.V_mk (by rw [hy21, hc21]; exact Nat.sub_le_sub_right hroom21 _) hr21); have HC262 := Aside0.mk (show y258.length ≤ c21 from by rw [hy21, hc21]; exact Nat.sub_le_sub_right hroom21 _); clear hr21 hC21 hroom21 hi021 hsz21 hc21; have KY21 := Aside0.mk hy21; have KA21 := Aside0.mk hA21; clear hy21 hA21; replace q21 := eq_true q21) | ((with_reducible refine gate_builtin (b := .append) (xs := #[.tmp 40, .tmp 41]) rfl ?_); (try (refine gate_guard (by rfl) ?_; dsimp only)); at_builtin; refine Kd.R_append (Kd.int .u8) (w0 := w) w.heap.size rfl (.tmp 40) (.tmp 41) 39 5 (.int .u8 0) 1 rfl Try.underlying39 info5 rfl (by decide) (by omega) v256 y255 0 [.int .u8 0] (fun k_ => (w.heap.size ≤ k_)) (fun _ => False) rfl rfl ?aP (fun _ hk => hk.elim) ?aF ?aO ?aB ?aS ?aL ?_; (case aP => exact rfl); (case aB => exact (by repeat with_reducible first | exact HB.out | apply below_alloc | apply pw_below_drewN | apply below_drew1)); (case aF => exact (fun k_ hk => (Nat.le_trans (below_size (by repeat with_reducible first | exact HB.out | apply below_alloc | apply pw_below_drewN | apply below_drew1)) hk))); (case aO => exact (by (with_reducible repeat (first | apply Kd.R_alloc | apply Kd.R_drewN | apply Kd.R_drew)); exact HO257.out)); (case aS => exact (below_size (by repeat with_reducible first | exact HB.out | apply below_alloc | apply pw_below_drewN | apply below_drew1))); (case aL => have := LMc17.out; omega); intro v264 w22 ho hb hg hat; rw [← Ny263.out] at ho; replace HO_0 := Aside0.mk (Kd.V_afterv (ok := (fun k_ => (P0_ k_ ∨ w.heap.size ≤ k_))) (by (with_reducible repeat (first | apply Kd.V_alloc | apply Kd.V_drewN | apply Kd.V_drew)); exact HO_0.out) hg hat); replace HO_5 := Aside0.mk (Kd.V_afterv (ok := (fun k_ => (P0_ k_ ∨ w.heap.size ≤ k_))) (by (with_reducible repeat (first | apply Kd.V_alloc | apply Kd.V_drewN | apply Kd.V_drew)); exact HO_5.out) hg hat); replace HO254 := Aside0.mk (Kd.V_afterv (ok := (fun k_ => (P0_ k_ ∨ w.heap.size ≤ k_))) (by (with_reducible repeat (first | apply Kd.V_alloc | apply Kd.V_drewN | apply Kd.V_drew)); exact HO254.out) hg hat); replace HO262 := Aside0.mk (Kd.V_afterv (ok := (fun k_ => (P0_ k_ ∨ w.heap.size ≤ k_))) (by (with_reducible repeat (first | apply Kd.V_alloc | apply Kd.V_drewN | apply Kd.V_drew)); exact HO262.out) hg hat); replace HB := Aside0.mk (hb); have HO265 := Aside0.mk (ho); clear HO257; clear ho hb hg hat))
               go_roundg k1
               case measure => have := HK1.out; omega
               case rel => exact ⟨(y263), (y258), H', ⟨by have := HK1.out; omega⟩, ⟨by (with_reducible repeat (first | apply Kd.V_alloc | apply Kd.V_drewN | apply Kd.V_drew)); exact HO_0.out⟩, ⟨by (with_reducible repeat (first | apply Kd.R_alloc | apply Kd.R_drewN | apply Kd.R_drew)); exact HO265.out⟩, ⟨by (with_reducible repeat (first | apply Kd.V_alloc | apply Kd.V_drewN | apply Kd.V_drew)); exact HO262.out⟩, ⟨by repeat (first | (with_reducible first | exact HB.out | apply below_alloc | apply pw_below_drewN | apply below_drew1) | exact HB.out)⟩⟩
              ·
               rw [if_neg c17] at H
               exact absurd H (by simp)
             ·
              rw [if_neg c16] at H
              have c16b0 : decide (0 < (y258.length : Int)) = false := decide_eq_false c16
              have c16b1 : decide (0 < y258.length) = false := decide_eq_false (by omega)
              clear c16
              have H' := Aside0.mk H
              clear H
              obtain ⟨Ao23, co23, eo23⟩ := Kd.V_slice HO_5.out
              subst eo23
              have p249 : 0 ≤ (0 : Int) := (by omega)
              have q249 : 0 < (x5_1.length : Int) := of_decide_eq_true (by first | (with_reducible assumption) | assumption)
              obtain ⟨ad249, e249, hx249_0⟩ := Kd.at_int (Kd.V_reads' HO_5.out).2.2 0 p249 q249
              cases e249
              have qi249 : (0 < x5_1.length) = True := eq_true (by omega)
              (try rw [show ((0 : Int)).toNat = 0 from rfl] at hx249_0)
              (try rw [Addr.add_zero'] at hx249_0)
              replace p249 := eq_true p249
              replace q249 := eq_true q249
              have q24 : ((ji12) : Int) ≤ ((x5_1.length : Int) : Int) := of_decide_eq_true (by first | (with_reducible assumption) | assumption)
              obtain ⟨i024, hi024, _, hsz24, _⟩ := info_parts info5
              have hroom24 : x5_1.length ≤ co23 := (Kd.V_reads' HO_5.out).2.1
              have hC24 : Kd.F (Kd.int .u8) _ _ (some ad249) x5_1.length x5_1 := (Kd.V_at (base := w.heap.size) HO_5.out).2.2
              have ql24 : (1 : Int) ≤ ((ji12) : Int) := of_decide_eq_true (by first | (with_reducible assumption) | assumption)
              have hcut24 := cut_mid (P := Try.prog) 39 5 .i64 .i64 Try.underlying39 hi024 1 hsz24 (some ad249) x5_1.length co23 1 (ji12) (by omega) ql24 q24 hroom24
              have hr24 := Kd.F_mid (lo := (1 : Int).toNat) (hi := ((ji12) : Int).toNat) (c := co23) hC24 (by omega) (by omega) hroom24
              obtain ⟨A24, hA24⟩ : ∃ A1, A1 = (if co23 = (1 : Int).toNat then (some ad249) else ((some ad249) : Option Addr).map (·.add ((1 : Int).toNat * 1))) := ⟨_, rfl⟩
              obtain ⟨c24, hc24⟩ : ∃ c1, c1 = co23 - (1 : Int).toNat := ⟨_, rfl⟩
              have hy24 : y250.length = ((ji12) : Int).toNat - (1 : Int).toNat := (by rw [Ny250.out, List.length_drop, List.length_take] <;> omega)
              rw [show ((x5_1).take ((ji12) : Int).toNat).drop (1 : Int).toNat = y250 from Ny250.out.symm] at hr24
              replace hr24 : Kd.F (Kd.int .u8) _ _ A24 y250.length y250 := (by rw [hA24]; exact hr24)
              rw [← hy24, ← hA24, ← hc24] at hcut24
              have HO254 := Aside0.mk (show Kd.V (Kd.int .u8) 5 _ w.heap.size _ (.slice A24 y250.length c24) y250 from Kd.V_mk (by rw [hy24, hc24]; exact Nat.sub_le_sub_right (Nat.le_trans (by omega) hroom24) _) hr24)
              have HC254 := Aside0.mk (show y250.length ≤ c24 from by rw [hy24, hc24]; exact Nat.sub_le_sub_right (Nat.le_trans (by omega) hroom24) _)
              clear hr24 hC24 hroom24 hi024 hsz24 hc24
              have KY24 := Aside0.mk hy24
              have KA24 := Aside0.mk hA24
              clear hy24 hA24
              replace q24 := eq_true q24
              go_wp2_with (first | ((with_reducible refine gate_builtin (b := .append) (xs := #[.tmp 25, .tmp 28]) rfl ?_); (try (refine gate_guard (by rfl) ?_; dsimp only)); at_builtin; refine Kd.R_append_rows (Kd.int .u8) (w0 := w) w.heap.size rfl (.tmp 25) (.tmp 28) 39 5 (.int .u8 0) 1 rfl Try.underlying39 info5 rfl (by decide) (by omega) u4 x4_1 y250 _ _ _ (fun k_ => (w.heap.size ≤ k_)) (fun _ => False) rfl rfl ?aO ?aR (fun _ _ h => h) (fun _ h => h.elim) ?aF ?aB ?aS ?aL ?_; (case aR => repeat (first | exact (Kd.V_reads' HO254.out).2.2 | (with_reducible refine Kd.C_alloc ?_ _) | (with_reducible refine Kd.C_drewN ?_ _) | (with_reducible refine Kd.C_drew ?_))); (case aB => exact (by repeat with_reducible first | exact HB.out | apply below_alloc | apply pw_below_drewN | apply below_drew1)); (case aF => exact (fun k_ hk => (Nat.le_trans (below_size (by repeat with_reducible first | exact HB.out | apply below_alloc | apply pw_below_drewN | apply below_drew1)) hk))); (case aO => exact (by (with_reducible repeat (first | apply Kd.R_alloc | apply Kd.R_drewN | apply Kd.R_drew)); exact HO_4.out)); (case aS => exact (below_size (by repeat with_reducible first | exact HB.out | apply below_alloc | apply pw_below_drewN | apply below_drew1))); (case aL => have := LMc11.out; omega); intro v256 w25 ho hb hg hat; rw [← Ny255.out] at ho; replace HO_0 := Aside0.mk (Kd.V_afterv (ok := (fun k_ => (P0_ k_ ∨ w.heap.size ≤ k_))) (by (with_reducible repeat (first | apply Kd.V_alloc | apply Kd.V_drewN | apply Kd.V_drew)); exact HO_0.out) hg hat); replace HO_5 := Aside0.mk (Kd.V_afterv (ok := (fun k_ => (P0_ k_ ∨ w.heap.size ≤ k_))) (by (with_reducible repeat (first | apply Kd.V_alloc | apply Kd.V_drewN | apply Kd.V_drew)); exact HO_5.out) hg hat); replace HO254 := Aside0.mk (Kd.V_afterv (ok := (fun k_ => (P0_ k_ ∨ w.heap.size ≤ k_))) (by (with_reducible repeat (first | apply Kd.V_alloc | apply Kd.V_drewN | apply Kd.V_drew)); exact HO254.out) hg hat); replace HB := Aside0.mk (hb); have HO257 := Aside0.mk (ho); clear HO_4; clear ho hb hg hat; have q26 : ((ji12) : Int) ≤ ((x5_1.length : Int) : Int) := of_decide_eq_true (by first | (with_reducible assumption) | assumption); obtain ⟨i026, hi026, _, hsz26, _⟩ := info_parts info5; have hroom26 : x5_1.length ≤ co23 := (Kd.V_reads' HO_5.out).2.1; have hC26 : Kd.F (Kd.int .u8) _ _ (some ad249) x5_1.length x5_1 := (Kd.V_at (base := w.heap.size) HO_5.out).2.2; have q026 : (0 : Int) ≤ ((ji12) : Int) := of_decide_eq_true (by first | (with_reducible assumption) | assumption); have hcut26 := cut_from (P := Try.prog) 39 5 .i64 Try.underlying39 hi026 1 hsz26 (some ad249) x5_1.length co23 (ji12) q026 q26; have hr26 := Kd.F_cut (m := ((ji12) : Int).toNat) (c := co23) hC26 (by omega) hroom26; obtain ⟨A26, hA26⟩ : ∃ A1, A1 = (if co23 = ((ji12) : Int).toNat then (some ad249) else ((some ad249) : Option Addr).map (·.add (((ji12) : Int).toNat * 1))) := ⟨_, rfl⟩; obtain ⟨c26, hc26⟩ : ∃ c1, c1 = co23 - ((ji12) : Int).toNat := ⟨_, rfl⟩; have hy26 : y258.length = x5_1.length - ((ji12) : Int).toNat := (by rw [Ny258.out, List.length_drop] <;> omega); rw [show (x5_1).drop ((ji12) : Int).toNat = y258 from Ny258.out.symm] at hr26; replace hr26 : Kd.F (Kd.int .u8) _ _ A26 y258.length y258 := (by rw [hA26]; exact hr26); rw [← hy26, ← hA26, ← hc26] at hcut26; have HO262 := Aside0.mk (show Kd.V (Kd.int .u8) 5 _ w.heap.size _ (.slice A26 y258.length c26) y258 from Kd.V_mk (by rw [hy26, hc26]; exact Nat.sub_le_sub_right hroom26 _) hr26); have HC262 := Aside0.mk (show y258.length ≤ c26 from by rw [hy26, hc26]; exact Nat.sub_le_sub_right hroom26 _); clear hr26 hC26 hroom26 hi026 hsz26 hc26; have KY26 := Aside0.mk hy26; have KA26 := Aside0.mk hA26; clear hy26 hA26; replace q26 := eq_true q26))
              go_roundg k1
              case measure => have := HK1.out; omega
              case rel => exact ⟨(y255), (y258), H', ⟨by have := HK1.out; omega⟩, ⟨by (with_reducible repeat (first | apply Kd.V_alloc | apply Kd.V_drewN | apply Kd.V_drew)); exact HO_0.out⟩, ⟨by (with_reducible repeat (first | apply Kd.R_alloc | apply Kd.R_drewN | apply Kd.R_drew)); exact HO257.out⟩, ⟨by (with_reducible repeat (first | apply Kd.V_alloc | apply Kd.V_drewN | apply Kd.V_drew)); exact HO262.out⟩, ⟨by repeat (first | (with_reducible first | exact HB.out | apply below_alloc | apply pw_below_drewN | apply below_drew1) | exact HB.out)⟩⟩
            ·
             rw [if_neg c15] at H
             have c15b0 : decide ((ji12) ≤ 254) = false := decide_eq_false c15
             clear c15
             have H' := Aside0.mk H
             clear H
             obtain ⟨Ao27, co27, eo27⟩ := Kd.V_slice HO_5.out
             subst eo27
             have p249 : 0 ≤ (0 : Int) := (by omega)
             have q249 : 0 < (x5_1.length : Int) := of_decide_eq_true (by first | (with_reducible assumption) | assumption)
             obtain ⟨ad249, e249, hx249_0⟩ := Kd.at_int (Kd.V_reads' HO_5.out).2.2 0 p249 q249
             cases e249
             have qi249 : (0 < x5_1.length) = True := eq_true (by omega)
             (try rw [show ((0 : Int)).toNat = 0 from rfl] at hx249_0)
             (try rw [Addr.add_zero'] at hx249_0)
             replace p249 := eq_true p249
             replace q249 := eq_true q249
             have q28 : ((ji12) : Int) ≤ ((x5_1.length : Int) : Int) := of_decide_eq_true (by first | (with_reducible assumption) | assumption)
             obtain ⟨i028, hi028, _, hsz28, _⟩ := info_parts info5
             have hroom28 : x5_1.length ≤ co27 := (Kd.V_reads' HO_5.out).2.1
             have hC28 : Kd.F (Kd.int .u8) _ _ (some ad249) x5_1.length x5_1 := (Kd.V_at (base := w.heap.size) HO_5.out).2.2
             have ql28 : (1 : Int) ≤ ((ji12) : Int) := of_decide_eq_true (by first | (with_reducible assumption) | assumption)
             have hcut28 := cut_mid (P := Try.prog) 39 5 .i64 .i64 Try.underlying39 hi028 1 hsz28 (some ad249) x5_1.length co27 1 (ji12) (by omega) ql28 q28 hroom28
             have hr28 := Kd.F_mid (lo := (1 : Int).toNat) (hi := ((ji12) : Int).toNat) (c := co27) hC28 (by omega) (by omega) hroom28
             obtain ⟨A28, hA28⟩ : ∃ A1, A1 = (if co27 = (1 : Int).toNat then (some ad249) else ((some ad249) : Option Addr).map (·.add ((1 : Int).toNat * 1))) := ⟨_, rfl⟩
             obtain ⟨c28, hc28⟩ : ∃ c1, c1 = co27 - (1 : Int).toNat := ⟨_, rfl⟩
             have hy28 : y250.length = ((ji12) : Int).toNat - (1 : Int).toNat := (by rw [Ny250.out, List.length_drop, List.length_take] <;> omega)
             rw [show ((x5_1).take ((ji12) : Int).toNat).drop (1 : Int).toNat = y250 from Ny250.out.symm] at hr28
             replace hr28 : Kd.F (Kd.int .u8) _ _ A28 y250.length y250 := (by rw [hA28]; exact hr28)
             rw [← hy28, ← hA28, ← hc28] at hcut28
             have HO254 := Aside0.mk (show Kd.V (Kd.int .u8) 5 _ w.heap.size _ (.slice A28 y250.length c28) y250 from Kd.V_mk (by rw [hy28, hc28]; exact Nat.sub_le_sub_right (Nat.le_trans (by omega) hroom28) _) hr28)
             have HC254 := Aside0.mk (show y250.length ≤ c28 from by rw [hy28, hc28]; exact Nat.sub_le_sub_right (Nat.le_trans (by omega) hroom28) _)
             clear hr28 hC28 hroom28 hi028 hsz28 hc28
             have KY28 := Aside0.mk hy28
             have KA28 := Aside0.mk hA28
             clear hy28 hA28
             replace q28 := eq_true q28
             go_wp2_with (first | ((with_reducible refine gate_builtin (b := .append) (xs := #[.tmp 25, .tmp 28]) rfl ?_); (try (refine gate_guard (by rfl) ?_; dsimp only)); at_builtin; refine Kd.R_append_rows (Kd.int .u8) (w0 := w) w.heap.size rfl (.tmp 25) (.tmp 28) 39 5 (.int .u8 0) 1 rfl Try.underlying39 info5 rfl (by decide) (by omega) u4 x4_1 y250 _ _ _ (fun k_ => (w.heap.size ≤ k_)) (fun _ => False) rfl rfl ?aO ?aR (fun _ _ h => h) (fun _ h => h.elim) ?aF ?aB ?aS ?aL ?_; (case aR => repeat (first | exact (Kd.V_reads' HO254.out).2.2 | (with_reducible refine Kd.C_alloc ?_ _) | (with_reducible refine Kd.C_drewN ?_ _) | (with_reducible refine Kd.C_drew ?_))); (case aB => exact (by repeat with_reducible first | exact HB.out | apply below_alloc | apply pw_below_drewN | apply below_drew1)); (case aF => exact (fun k_ hk => (Nat.le_trans (below_size (by repeat with_reducible first | exact HB.out | apply below_alloc | apply pw_below_drewN | apply below_drew1)) hk))); (case aO => exact (by (with_reducible repeat (first | apply Kd.R_alloc | apply Kd.R_drewN | apply Kd.R_drew)); exact HO_4.out)); (case aS => exact (below_size (by repeat with_reducible first | exact HB.out | apply below_alloc | apply pw_below_drewN | apply below_drew1))); (case aL => have := LMc11.out; omega); intro v256 w29 ho hb hg hat; rw [← Ny255.out] at ho; replace HO_0 := Aside0.mk (Kd.V_afterv (ok := (fun k_ => (P0_ k_ ∨ w.heap.size ≤ k_))) (by (with_reducible repeat (first | apply Kd.V_alloc | apply Kd.V_drewN | apply Kd.V_drew)); exact HO_0.out) hg hat); replace HO_5 := Aside0.mk (Kd.V_afterv (ok := (fun k_ => (P0_ k_ ∨ w.heap.size ≤ k_))) (by (with_reducible repeat (first | apply Kd.V_alloc | apply Kd.V_drewN | apply Kd.V_drew)); exact HO_5.out) hg hat); replace HO254 := Aside0.mk (Kd.V_afterv (ok := (fun k_ => (P0_ k_ ∨ w.heap.size ≤ k_))) (by (with_reducible repeat (first | apply Kd.V_alloc | apply Kd.V_drewN | apply Kd.V_drew)); exact HO254.out) hg hat); replace HB := Aside0.mk (hb); have HO257 := Aside0.mk (ho); clear HO_4; clear ho hb hg hat; have q30 : ((ji12) : Int) ≤ ((x5_1.length : Int) : Int) := of_decide_eq_true (by first | (with_reducible assumption) | assumption); obtain ⟨i030, hi030, _, hsz30, _⟩ := info_parts info5; have hroom30 : x5_1.length ≤ co27 := (Kd.V_reads' HO_5.out).2.1; have hC30 : Kd.F (Kd.int .u8) _ _ (some ad249) x5_1.length x5_1 := (Kd.V_at (base := w.heap.size) HO_5.out).2.2; have q030 : (0 : Int) ≤ ((ji12) : Int) := of_decide_eq_true (by first | (with_reducible assumption) | assumption); have hcut30 := cut_from (P := Try.prog) 39 5 .i64 Try.underlying39 hi030 1 hsz30 (some ad249) x5_1.length co27 (ji12) q030 q30; have hr30 := Kd.F_cut (m := ((ji12) : Int).toNat) (c := co27) hC30 (by omega) hroom30; obtain ⟨A30, hA30⟩ : ∃ A1, A1 = (if co27 = ((ji12) : Int).toNat then (some ad249) else ((some ad249) : Option Addr).map (·.add (((ji12) : Int).toNat * 1))) := ⟨_, rfl⟩; obtain ⟨c30, hc30⟩ : ∃ c1, c1 = co27 - ((ji12) : Int).toNat := ⟨_, rfl⟩; have hy30 : y258.length = x5_1.length - ((ji12) : Int).toNat := (by rw [Ny258.out, List.length_drop] <;> omega); rw [show (x5_1).drop ((ji12) : Int).toNat = y258 from Ny258.out.symm] at hr30; replace hr30 : Kd.F (Kd.int .u8) _ _ A30 y258.length y258 := (by rw [hA30]; exact hr30); rw [← hy30, ← hA30, ← hc30] at hcut30; have HO262 := Aside0.mk (show Kd.V (Kd.int .u8) 5 _ w.heap.size _ (.slice A30 y258.length c30) y258 from Kd.V_mk (by rw [hy30, hc30]; exact Nat.sub_le_sub_right hroom30 _) hr30); have HC262 := Aside0.mk (show y258.length ≤ c30 from by rw [hy30, hc30]; exact Nat.sub_le_sub_right hroom30 _); clear hr30 hC30 hroom30 hi030 hsz30 hc30; have KY30 := Aside0.mk hy30; have KA30 := Aside0.mk hA30; clear hy30 hA30; replace q30 := eq_true q30))
             go_roundg k1
             case measure => have := HK1.out; omega
             case rel => exact ⟨(y255), (y258), H', ⟨by have := HK1.out; omega⟩, ⟨by (with_reducible repeat (first | apply Kd.V_alloc | apply Kd.V_drewN | apply Kd.V_drew)); exact HO_0.out⟩, ⟨by (with_reducible repeat (first | apply Kd.R_alloc | apply Kd.R_drewN | apply Kd.R_drew)); exact HO257.out⟩, ⟨by (with_reducible repeat (first | apply Kd.V_alloc | apply Kd.V_drewN | apply Kd.V_drew)); exact HO262.out⟩, ⟨by repeat (first | (with_reducible first | exact HB.out | apply below_alloc | apply pw_below_drewN | apply below_drew1) | exact HB.out)⟩⟩
           ·
            rw [if_neg c13] at H
            exact absurd H (by simp)
          ·
           rw [if_neg c11] at H
           exact absurd H (by simp)
         ·
          rw [if_neg c10] at H
          exact absurd H (by simp)
        ·
         rw [if_neg c9] at H
         exact absurd H (by simp)
      ·
       rw [if_neg c6] at H
       exact absurd H (by simp)
     ·
      rw [if_neg c5] at H
      have c5b0 : decide (0 < (x5_1.length : Int)) = false := decide_eq_false c5
      have c5b1 : decide (0 < x5_1.length) = false := decide_eq_false (by omega)
      clear c5
      replace H := Option.bind_eq_some_iff.mp H
      obtain ⟨t266, A310, H⟩ := H
      replace H : ((bytes_Equal.f t266 l0).bind fun t269 => (if t269 = true then (some (x4_1, 0)) else (some (([] : List Int), 4)))) = some (r1, r2) := H
      have A31 := Aside0.mk A310
      clear A310
      replace H := Option.bind_eq_some_iff.mp H
      obtain ⟨t269, A320, H⟩ := H
      replace H : (if t269 = true then (some (x4_1, 0)) else (some (([] : List Int), 4))) = some (r1, r2) := H
      have A32 := Aside0.mk A320
      clear A320
      by_cases c33 : t269 = true
      ·
       subst c33
       have H1 : (some (x4_1, 0)) = some (r1, r2) := by rw [if_pos rfl] at H; exact H
       clear H
       have H := H1
       clear H1
       simp only [Option.some.injEq, Prod.mk.injEq] at H
       obtain ⟨rfl, rfl⟩ := H
       obtain ⟨Ao34, co34, eo34⟩ := Kd.V_slice HO_5.out
       subst eo34
       obtain ⟨Ao35, co35, eo35⟩ := Kd.R_slice HO_4.out
       subst eo35
       go_wp2_with (first | ((with_reducible refine gate_callee (f := 60) rfl ?_); refine goesL_ (some 44) rfl rfl Try.func60 (by kernel_rfl) rfl #[.slice Ao35 x4_1.length co35] rfl (by (try simp only [List.map_toArray, List.map_cons, List.map_nil]); first | done | rfl) ?_; (with_reducible refine (cobs_Stuff.calls k1 (fun k_ => some k_ = (.slice Ao35 x4_1.length co35 : Value).ownBlock) _ _ x4_1 t266 _ ?side1 A31.out).mono ?_); (case side1 => exact Kd.R_V (Kd.R_tight rfl (HO_4.out))); rintro e w36 ⟨v267, rfl, ho0, hb⟩; refine ⟨_, rfl, ?_⟩; have n0_ := Aside0.mk (Kd.V_elder' (by (with_reducible repeat (first | apply Kd.V_alloc | apply Kd.V_drewN | apply Kd.V_drew)); exact HO_0.out) (Kd.R_base ho0) hb); have n1_ := Aside0.mk (Kd.R_elder' (by (with_reducible repeat (first | apply Kd.R_alloc | apply Kd.R_drewN | apply Kd.R_drew)); exact HO_4.out) (Kd.R_base ho0) hb); have n2_ := Aside0.mk (Kd.V_elder' (by (with_reducible repeat (first | apply Kd.V_alloc | apply Kd.V_drewN | apply Kd.V_drew)); exact HO_5.out) (Kd.R_base ho0) hb); have n3_ := Aside0.mk (Kd.R_lower (Kd.R_new' (Kd.R_newM (M := fun k_ => (w.heap.size ≤ k_)) (Kd.R_mono (ok' := fun k_ => True) ho0 (fun _ hk_ => trivial)) (below_size (by repeat with_reducible first | exact HB.out | apply below_alloc | apply pw_below_drewN | apply below_drew1)) (fun k_ h_ => h_)) (Kd.R_lt (by (with_reducible repeat (first | apply Kd.R_alloc | apply Kd.R_drewN | apply Kd.R_drew)); exact HO_4.out))) (below_size (by repeat with_reducible first | exact HB.out | apply below_alloc | apply pw_below_drewN | apply below_drew1))); have n4_ := Aside0.mk (below_step (by repeat with_reducible first | exact HB.out | apply below_alloc | apply pw_below_drewN | apply below_drew1) hb); clear HO_0; clear HO_4; clear HO_5; clear HB; have HO_0 := n0_; have HO_4 := n1_; have HO_5 := n2_; have HO268 := n3_; have HB := n4_; clear n0_ n1_ n2_ n3_ n4_; (try clear hb); (try clear ho0); obtain ⟨Ao37, co37, eo37⟩ := Kd.R_slice HO268.out; subst eo37) | ((with_reducible refine gate_callee (f := 110) rfl ?_); refine goesL_ (some 46) rfl rfl Try.func110 (by kernel_rfl) rfl #[.slice Ao37 t266.length co37, .slice A0 l0.length c0] rfl (by (try simp only [List.map_toArray, List.map_cons, List.map_nil]); first | done | rfl) ?_; (with_reducible refine (bytes_Equal.calls _ _ t266 _ _ l0 true _ ?side1 ?side2 ?side3 ?side4 A32.out).mono ?_); (case side1 => repeat (first | exact (Kd.R_reads' HO268.out).2.2 | (with_reducible refine Kd.C_alloc ?_ _) | (with_reducible refine Kd.C_drewN ?_ _) | (with_reducible refine Kd.C_drew ?_))); (case side2 => exact (Kd.R_reads' HO268.out).2.1); (case side3 => repeat (first | exact (Kd.V_reads' HO_0.out).2.2 | (with_reducible refine Kd.C_alloc ?_ _) | (with_reducible refine Kd.C_drewN ?_ _) | (with_reducible refine Kd.C_drew ?_))); (case side4 => exact (Kd.V_reads' HO_0.out).2.1); rintro e w' ⟨rfl, ⟨nd, rfl⟩⟩; refine ⟨_, rfl, ?_⟩))
       go_ret2
       exact ⟨_, by first | rfl | (simp [errW_none, errW_some] <;> rfl) | (simp [*, errW_none, errW_some] <;> rfl), by (with_reducible repeat (first | apply Kd.R_alloc | apply Kd.R_drewN | apply Kd.R_drew)); exact Kd.R_mono HO_4.out (fun _ hk => hk.1), by repeat (first | (with_reducible first | exact HB.out | apply below_alloc | apply pw_below_drewN | apply below_drew1) | exact HB.out)⟩
      ·
       replace c33 := Bool.eq_false_iff.mpr c33
       subst c33
       have H1 : (some (([] : List Int), 4)) = some (r1, r2) := by rw [if_neg (show ¬ (false = true) by decide)] at H; exact H
       clear H
       have H := H1
       clear H1
       simp only [Option.some.injEq, Prod.mk.injEq] at H
       obtain ⟨rfl, rfl⟩ := H
       obtain ⟨Ao38, co38, eo38⟩ := Kd.V_slice HO_5.out
       subst eo38
       obtain ⟨Ao39, co39, eo39⟩ := Kd.R_slice HO_4.out
       subst eo39
       go_wp2_with (first | ((with_reducible refine gate_callee (f := 60) rfl ?_); refine goesL_ (some 44) rfl rfl Try.func60 (by kernel_rfl) rfl #[.slice Ao39 x4_1.length co39] rfl (by (try simp only [List.map_toArray, List.map_cons, List.map_nil]); first | done | rfl) ?_; (with_reducible refine (cobs_Stuff.calls k1 (fun k_ => some k_ = (.slice Ao39 x4_1.length co39 : Value).ownBlock) _ _ x4_1 t266 _ ?side1 A31.out).mono ?_); (case side1 => exact Kd.R_V (Kd.R_tight rfl (HO_4.out))); rintro e w40 ⟨v267, rfl, ho0, hb⟩; refine ⟨_, rfl, ?_⟩; have n0_ := Aside0.mk (Kd.V_elder' (by (with_reducible repeat (first | apply Kd.V_alloc | apply Kd.V_drewN | apply Kd.V_drew)); exact HO_0.out) (Kd.R_base ho0) hb); have n1_ := Aside0.mk (Kd.R_elder' (by (with_reducible repeat (first | apply Kd.R_alloc | apply Kd.R_drewN | apply Kd.R_drew)); exact HO_4.out) (Kd.R_base ho0) hb); have n2_ := Aside0.mk (Kd.V_elder' (by (with_reducible repeat (first | apply Kd.V_alloc | apply Kd.V_drewN | apply Kd.V_drew)); exact HO_5.out) (Kd.R_base ho0) hb); have n3_ := Aside0.mk (Kd.R_lower (Kd.R_new' (Kd.R_newM (M := fun k_ => (w.heap.size ≤ k_)) (Kd.R_mono (ok' := fun k_ => True) ho0 (fun _ hk_ => trivial)) (below_size (by repeat with_reducible first | exact HB.out | apply below_alloc | apply pw_below_drewN | apply below_drew1)) (fun k_ h_ => h_)) (Kd.R_lt (by (with_reducible repeat (first | apply Kd.R_alloc | apply Kd.R_drewN | apply Kd.R_drew)); exact HO_4.out))) (below_size (by repeat with_reducible first | exact HB.out | apply below_alloc | apply pw_below_drewN | apply below_drew1))); have n4_ := Aside0.mk (below_step (by repeat with_reducible first | exact HB.out | apply below_alloc | apply pw_below_drewN | apply below_drew1) hb); clear HO_0; clear HO_4; clear HO_5; clear HB; have HO_0 := n0_; have HO_4 := n1_; have HO_5 := n2_; have HO268 := n3_; have HB := n4_; clear n0_ n1_ n2_ n3_ n4_; (try clear hb); (try clear ho0); obtain ⟨Ao41, co41, eo41⟩ := Kd.R_slice HO268.out; subst eo41) | ((with_reducible refine gate_callee (f := 110) rfl ?_); refine goesL_ (some 46) rfl rfl Try.func110 (by kernel_rfl) rfl #[.slice Ao41 t266.length co41, .slice A0 l0.length c0] rfl (by (try simp only [List.map_toArray, List.map_cons, List.map_nil]); first | done | rfl) ?_; (with_reducible refine (bytes_Equal.calls _ _ t266 _ _ l0 false _ ?side1 ?side2 ?side3 ?side4 A32.out).mono ?_); (case side1 => repeat (first | exact (Kd.R_reads' HO268.out).2.2 | (with_reducible refine Kd.C_alloc ?_ _) | (with_reducible refine Kd.C_drewN ?_ _) | (with_reducible refine Kd.C_drew ?_))); (case side2 => exact (Kd.R_reads' HO268.out).2.1); (case side3 => repeat (first | exact (Kd.V_reads' HO_0.out).2.2 | (with_reducible refine Kd.C_alloc ?_ _) | (with_reducible refine Kd.C_drewN ?_ _) | (with_reducible refine Kd.C_drew ?_))); (case side4 => exact (Kd.V_reads' HO_0.out).2.1); rintro e w' ⟨rfl, ⟨nd, rfl⟩⟩; refine ⟨_, rfl, ?_⟩))
       go_ret2
       exact ⟨_, by first | rfl | (simp [errW_none, errW_some] <;> rfl) | (simp [*, errW_none, errW_some] <;> rfl), by first | exact Kd.R_nil _ _ _ _ _ | exact Kd.N_nil _ _ _ _ _ | exact Kd.V_nil _ _ _ _ _ | exact Kd.Q_nil _ _ _ _ _ | exact Kd.S_nil _ _ _ _ _, by repeat (first | (with_reducible first | exact HB.out | apply below_alloc | apply pw_below_drewN | apply below_drew1) | exact HB.out)⟩
end Go.Proofs.Ytekanmieppnpeaa.G
end
section
namespace Go.Proofs.Ytekanmieppnpeaa.LCobs
open Go.RowKit Go.Proofs.Ytekanmieppnpeaa.G Go.Proofs.YtekanmieppnpeaaW.PrintWords Go.Proofs.YtekanmieppnpeaaW.PrintLast Go.Proofs.Ytekanmieppnpeaa.PureKit
def stf : List Int → List Int → List Int
 | [], now => ((now.length : Int) + 1) :: now
 | x :: xs, now => if x = 0 then ((now.length : Int) + 1) :: (now ++ stf xs []) else
  if now.length + 1 = 254 then 255 :: (now ++ [x] ++ (if xs = [] then [] else stf xs [])) else stf xs (now ++ [x])
def NoZ (l : List Int) : Prop := ∀ y ∈ l, y ≠ 0
theorem stf_ne (l now : List Int) : stf l now ≠ [] := by
 induction l generalizing now with
 | nil => simp [stf]
 | cons x xs ih =>
  unfold stf
  split
  ·
   simp
  ·
   split
   ·
    simp
   ·
    exact ih _
theorem stf_zero : ∀ (ys now zs : List Int), NoZ ys → now.length + ys.length < 254 → stf (ys ++ 0 :: zs) now = (((now.length + ys.length : Nat) : Int) + 1) :: (now ++ ys ++ stf zs [])
 | [], now, zs, _, _ => by simp [stf]
 | y :: ys, now, zs, h, hl => by
  have hy : y ≠ 0 := h y List.mem_cons_self
  rw [List.length_cons] at hl
  simp only [List.cons_append, stf]
  rw [if_neg hy, if_neg (by omega), stf_zero ys (now ++ [y]) zs (fun z hz => h z (List.mem_cons_of_mem _ hz)) (by simp; omega)]
  simp only [List.length_append, List.length_cons, List.length_nil, List.append_assoc, List.cons_append, List.nil_append]
  congr 1
  omega
theorem stf_end : ∀ (ys now : List Int), NoZ ys → now.length + ys.length < 254 → stf ys now = (((now.length + ys.length : Nat) : Int) + 1) :: (now ++ ys)
 | [], now, _, _ => by simp [stf]
 | y :: ys, now, h, hl => by
  have hy : y ≠ 0 := h y List.mem_cons_self
  rw [List.length_cons] at hl
  simp only [stf]
  rw [if_neg hy, if_neg (by omega), stf_end ys (now ++ [y]) (fun z hz => h z (List.mem_cons_of_mem _ hz)) (by simp; omega)]
  simp only [List.length_append, List.length_cons, List.length_nil, List.append_assoc, List.cons_append, List.nil_append]
  congr 1
  omega
theorem stf_full : ∀ (ys now zs : List Int), NoZ ys → ys ≠ [] → now.length + ys.length = 254 → stf (ys ++ zs) now = 255 :: (now ++ ys ++ (if zs = [] then [] else stf zs []))
 | [], now, zs, _, h, _ => absurd rfl h
 | [y], now, zs, h, _, hl => by
  have hy : y ≠ 0 := h y List.mem_cons_self
  simp only [List.cons_append, List.nil_append, stf]
  rw [if_neg hy, if_pos (by simpa using hl)]
 | y :: y' :: ys, now, zs, h, _, hl => by
  have hy : y ≠ 0 := h y List.mem_cons_self
  simp only [List.length_cons] at hl
  rw [List.cons_append]
  simp only [stf]
  rw [if_neg hy, if_neg (by omega), stf_full (y' :: ys) (now ++ [y]) zs (fun z hz => h z (List.mem_cons_of_mem _ hz)) (by simp) (by simp; omega)]
  simp
theorem stf_len : ∀ (l now : List Int), now.length < 254 → (stf l now).length ≤ now.length + l.length + 1 + (now.length + l.length - 1) / 254
 | [], now, h => by simp [stf]
 | x :: xs, now, h => by
  unfold stf
  by_cases hx : x = 0
  ·
   rw [if_pos hx]
   have := stf_len xs [] (by simp)
   simp only [List.length_cons, List.length_append, List.length_nil] at *
   omega
  ·
   rw [if_neg hx]
   by_cases hn : now.length + 1 = 254
   ·
    rw [if_pos hn]
    by_cases he : xs = []
    ·
     subst he; simp <;> omega
    ·
     rw [if_neg he]
     have := stf_len xs [] (by simp)
     have h0 : 0 < xs.length := List.length_pos_iff.2 he
     simp only [List.length_cons, List.length_append, List.length_nil] at *
     omega
   ·
    rw [if_neg hn]
    have := stf_len xs (now ++ [x]) (by simp; omega)
    simp only [List.length_cons, List.length_append, List.length_nil] at *
    omega
theorem stf_noz : ∀ (l now : List Int), NoZ now → now.length < 254 → NoZ (stf l now) ∧ (Bytes now → Bytes l → Bytes (stf l now))
 | [], now, h, hn => by
  refine ⟨fun y hy => ?_, fun hb _ => Bytes.cons (by omega) hb⟩
  rcases List.mem_cons.1 hy with rfl | hy
  ·
   omega
  ·
   exact h y hy
 | x :: xs, now, h, hn => by
  unfold stf
  by_cases hx : x = 0
  ·
   rw [if_pos hx]
   have ih := stf_noz xs [] (fun _ h => by cases h) (by simp)
   refine ⟨fun y hy => ?_, fun hb hl => Bytes.cons (by omega) (hb.append (ih.2 Bytes.nil hl.tail))⟩
   rcases List.mem_cons.1 hy with rfl | hy
   ·
    omega
   ·
    rcases List.mem_append.1 hy with hy | hy
    ·
     exact h y hy
    ·
     exact ih.1 y hy
  ·
   rw [if_neg hx]
   have hnx : NoZ (now ++ [x]) := fun y hy => by
    rcases List.mem_append.1 hy with hy | hy
    ·
     exact h y hy
    ·
     rw [List.mem_singleton.1 hy]; exact hx
   by_cases hn' : now.length + 1 = 254
   ·
    rw [if_pos hn']
    have ih := stf_noz xs [] (fun _ h => by cases h) (by simp)
    refine ⟨fun y hy => ?_, fun hb hl => Bytes.cons (by omega) ((hb.append (Bytes.cons hl.head Bytes.nil)).append ?_)⟩
    ·
     rcases List.mem_cons.1 hy with rfl | hy
     ·
      decide
     ·
      rcases List.mem_append.1 hy with hy | hy
      ·
       exact hnx y hy
      ·
       split at hy
       ·
        cases hy
       ·
        exact ih.1 y hy
    ·
     split
     ·
      exact Bytes.nil
     ·
      exact ih.2 Bytes.nil hl.tail
   ·
    rw [if_neg hn']
    have ih := stf_noz xs (now ++ [x]) hnx (by simp; omega)
    exact ⟨ih.1, fun hb hl => ih.2 (hb.append (Bytes.cons hl.head Bytes.nil)) hl.tail⟩
theorem idx0 : ∀ (l : List Int), Bytes l → (NoZ l ∧ Lib.indexByte (Lib.bytesOf l) 0 = -1) ∨ (∃ ys zs, l = ys ++ 0 :: zs ∧ NoZ ys ∧ Lib.indexByte (Lib.bytesOf l) 0 = (ys.length : Int))
 | [], _ => Or.inl ⟨(fun _ h => by cases h), rfl⟩
 | x :: xs, hb => by
  have hx := hb.head
  by_cases h0 : x = 0
  ·
   refine Or.inr ⟨[], xs, by rw [h0]; rfl, (fun _ h => by cases h), ?_⟩
   subst h0
   rfl
  ·
   have hne : ¬ (UInt8.ofNat x.toNat = 0) := fun e => by
    have := congrArg UInt8.toNat e
    simp at this
    omega
   rcases idx0 xs hb.tail with ⟨hz, hi⟩ | ⟨ys, zs, rfl, hz, hi⟩
   ·
    refine Or.inl ⟨fun y hy => ?_, ?_⟩
    ·
     rcases List.mem_cons.1 hy with rfl | hy
     ·
      exact h0
     ·
      exact hz y hy
    ·
     simp only [Lib.bytesOf, List.map_cons, Lib.indexByte] at hi ⊢
     simp [hne, hi]
   ·
    refine Or.inr ⟨x :: ys, zs, rfl, fun y hy => ?_, ?_⟩
    ·
     rcases List.mem_cons.1 hy with rfl | hy
     ·
      exact h0
     ·
      exact hz y hy
    ·
     simp only [Lib.bytesOf, List.map_cons, Lib.indexByte] at hi ⊢
     rw [hi, if_neg (by simpa using hne), if_neg (by simp)]
     simp
theorem stuff_l0 : ∀ (N : Nat) (b out : List Int), b.length ≤ N → Bytes b → N + out.length ≤ 1000000 - b.length → b.length ≤ 400000 → Ev (fun k => cobs_Stuff.l0 k b out) (out ++ stf b []) := by
 intro N
 induction N using Nat.strongRecOn with
 | _ N ih =>
 intro b out hN hb ho hbl
 have hmn : ∃ m : Nat, mn (b.length : Int) 254 = (m : Int) ∧ m = min b.length 254 := ⟨min b.length 254, by unfold mn; split <;> omega, rfl⟩
 obtain ⟨m, hm, hm'⟩ := hmn
 rcases idx0 (b.take m) (hb.take m) with ⟨hz, hi⟩ | ⟨ys, zs, he, hz, hi⟩
 ·
  by_cases hbig : (b.length : Int) > 254
  ·
   have hm2 : m = 254 := by omega
   subst hm2
   have hnx := ih (N - 254) (by omega) (b.drop 254) (out ++ [255] ++ b.take 254) (by rw [List.length_drop]; omega) (hb.drop _) (by simp only [List.length_append, List.length_cons, List.length_nil, List.length_take, List.length_drop]; omega) (by rw [List.length_drop]; omega)
   refine Ev.step (fun k => ?_) (Ev.eq hnx ?_)
   ·
    simp only [cobs_Stuff.l0]
    rw [hm, if_pos (by omega), if_pos (by omega), Int.toNat_natCast]
    simp only [bytes_IndexByte.f, Option.bind_some, show (0 : Int).toNat.toUInt8 = 0 from rfl]
    rw [hi, if_neg (by omega), if_pos hbig, if_pos (by omega), if_pos (by omega), if_pos (by simp only [List.length_append, List.length_cons, List.length_nil, List.length_take]; omega)]
   ·
    have hz' : (b.take 254) ≠ [] := by intro h; have := congrArg List.length h; rw [List.length_take] at this; simp only [List.length_nil] at this; omega
    have hf := stf_full (b.take 254) [] (b.drop 254) hz hz' (by rw [List.length_take]; simp; omega)
    rw [List.take_append_drop, if_neg (by intro h; have := congrArg List.length h; rw [List.length_drop] at this; simp at this; omega)] at hf
    rw [hf]
    simp
  ·
   have hm2 : m = b.length := by omega
   subst hm2
   rw [List.take_length] at hz hi
   refine Ev.step (f := fun _ => some (out ++ [(b.length : Int) + 1] ++ b)) (fun k => ?_) (Ev.eq (Ev.now _) ?_)
   ·
    simp only [cobs_Stuff.l0]
    rw [hm, if_pos (by omega), if_pos (by omega), Int.toNat_natCast, List.take_length]
    simp only [bytes_IndexByte.f, Option.bind_some, show (0 : Int).toNat.toUInt8 = 0 from rfl]
    rw [hi, if_neg (by omega), if_neg hbig, if_pos (by omega), if_pos (by simp only [List.length_append, List.length_cons, List.length_nil]; omega), w64 (by omega) (by omega), Int.emod_eq_of_lt (by omega) (by omega)]
   ·
    by_cases hfull : b.length = 254
    ·
     have hf := stf_full b [] [] hz (by intro h; rw [h] at hfull; simp at hfull) (by simpa using hfull)
     rw [List.append_nil, if_pos rfl] at hf
     rw [hf, hfull]
     simp
    ·
     have hf := stf_end b [] hz (by simp; omega)
     rw [hf]
     simp
 ·
  have hlen : (b.take m).length = ys.length + (zs.length + 1) := by rw [he]; simp
  rw [List.length_take] at hlen
  have hsplit : b = ys ++ 0 :: (zs ++ b.drop m) := by
   calc b = b.take m ++ b.drop m := (List.take_append_drop m b).symm
    _ = _ := by rw [he]; simp
  have hd1 : b.drop (ys.length + 1) = zs ++ b.drop m := by
   generalize zs ++ b.drop m = rest at hsplit ⊢
   rw [hsplit, show ys ++ 0 :: rest = (ys ++ [0]) ++ rest by simp, List.drop_left' (by simp)]
  have ht1 : b.take ys.length = ys := by
   generalize zs ++ b.drop m = rest at hsplit ⊢
   rw [hsplit, List.take_left' rfl]
  have hdl : (b.drop (ys.length + 1)).length = b.length - (ys.length + 1) := by rw [List.length_drop]
  have hnx := ih (N - (ys.length + 1)) (by omega) (b.drop (ys.length + 1)) (out ++ [(ys.length : Int) + 1] ++ ys) (by omega) (hb.drop _) (by simp only [List.length_append, List.length_cons, List.length_nil]; omega) (by omega)
  refine Ev.step (fun k => ?_) (Ev.eq hnx ?_)
  ·
   simp only [cobs_Stuff.l0]
   rw [hm, if_pos (by omega), if_pos (by omega), Int.toNat_natCast]
   simp only [bytes_IndexByte.f, Option.bind_some, show (0 : Int).toNat.toUInt8 = 0 from rfl]
   rw [hi, if_pos (by omega), if_pos (by omega), if_pos (by omega), if_pos (by omega), Int.toNat_natCast, ht1, if_pos (by simp only [List.length_append, List.length_cons, List.length_nil]; omega), w64 (by omega) (by omega), if_pos (by omega), if_pos (by omega), Int.emod_eq_of_lt (by omega) (by omega)]
   rfl
  ·
   rw [hd1]
   have hf := stf_zero ys [] (zs ++ b.drop m) hz (by simp; omega)
   rw [← hsplit] at hf
   rw [hf]
   simp
theorem most_f (n : Int) (h0 : 0 ≤ n) (h1 : n ≤ 1000000000000) : cobs_Most.f n = some (n + 1 + ((n.toNat - 1 : Nat) : Int) / 254) := by
 unfold cobs_Most.f
 by_cases h : n ≤ 0
 ·
  rw [if_pos h]
  obtain rfl : n = 0 := by omega
  rfl
 ·
  have : Int.tdiv (n - 1) 254 = ((n.toNat - 1 : Nat) : Int) / 254 := by rw [Int.tdiv_eq_ediv_of_nonneg (by omega)]; congr 1; omega
  rw [if_neg h, w64 (x := n - 1) (by omega) (by omega), this, w64 (x := n + 1) (by omega) (by omega), w64 (x := _ / 254) (by omega) (by omega), w64 (by omega) (by omega)]
theorem stuff_f (b : List Int) (hb : Bytes b) (hl : b.length ≤ 100000) : Ev (fun k => cobs_Stuff.f k b) (stf b []) := by
 unfold cobs_Stuff.f
 rw [most_f _ (by omega) (by omega)]
 simp only [Option.bind_some]
 refine Ev.congr (fun k => ?_) (stuff_l0 b.length b [] (Nat.le_refl _) hb (by simp; omega) (by omega))
 rw [if_pos (by omega), if_pos (by omega)]
end Go.Proofs.Ytekanmieppnpeaa.LCobs
namespace Go.Proofs.Ytekanmieppnpeaa.LCobs
open Go.RowKit Go.Proofs.Ytekanmieppnpeaa.G Go.Proofs.YtekanmieppnpeaaW.PrintWords Go.Proofs.YtekanmieppnpeaaW.PrintLast Go.Proofs.Ytekanmieppnpeaa.PureKit
theorem nums_one255 : (⟨#[255]⟩ : ByteArray) = strOfNums [255] := by decide
theorem nums_one0 : (⟨#[0]⟩ : ByteArray) = strOfNums [0] := by decide
theorem nums_empty : (⟨#[]⟩ : ByteArray) = strOfNums [] := by decide
def tl (b : List Int) (i : Nat) (now : List Int) : List Int := if b.drop i = [] ∧ now = [] ∧ 0 < i ∧ rd b ((i : Int) - 1) ≠ 0 then [] else stf (b.drop i) now
theorem ref_stuff_j1 (b : List Int) (out now : List Int) (i : Nat) (hi : i < 10000000) (hn : now.length < 254) (ho : out.length ≤ 100000000) (r : ByteArray)
  (h : Ev (fun k => fascicleref05_Stuff.l0 k (strOfNums (b ++ [0])) (strOfNums (out ++ ([(now.length : Int) + 1] ++ now))) (strOfNums []) ((i + 1 : Nat) : Int)) r) :
  Ev (fun k => fascicleref05_Stuff.j1 k (strOfNums (b ++ [0])) (strOfNums out) (strOfNums now) (i : Int) false) r := by
 refine Ev.step (fun k => ?_) h
 have hns : (strOfNums now).size = now.length := nums_size now
 simp only [fascicleref05_Stuff.j1]
 rw [if_neg (by decide), Option.bind_some, hns, w64 (by omega) (by omega), Int.emod_eq_of_lt (by omega) (by omega), if_pos (by rw [nums_size, nums_size]; simp; omega), PureKit.nums_append, if_pos (by rw [nums_size]; simp; omega), PureKit.nums_append, nums_empty, List.append_assoc, w64 (by omega) (by omega)]
 rfl
theorem ref_stuff_l0 (b : List Int) (hb : Bytes b) (hbl : b.length ≤ 1000000) : ∀ (d i : Nat) (out now : List Int), i + d = b.length → NoZ now → now.length < 254 → Bytes now → out.length + now.length + 3 * (d + 1) ≤ 10000000 →
  Ev (fun k => fascicleref05_Stuff.l0 k (strOfNums (b ++ [0])) (strOfNums out) (strOfNums now) (i : Int)) (strOfNums (out ++ tl b i now)) := by
 have hball : Bytes (b ++ [0]) := hb.append (Bytes.cons (by omega) Bytes.nil)
 have hsz : ((strOfNums (b ++ [0])).size : Int) = (b.length : Int) + 1 := by rw [nums_size]; simp
 have hw : wrap64 ((b.length : Int) + 1 - 1) = (b.length : Int) := by rw [w64 (by omega) (by omega)]; omega
 intro d
 induction d with
 | zero =>
  intro i out now hi hz hn hbn ho
  have hb0 : bt (strOfNums (b ++ [0])) (i : Int) = 0 := by
   rw [bt_nums _ hball i (by simp; omega)]
   rw [List.getElem_append_right (by omega)]
   simp
  have hdr : b.drop i = [] := List.drop_of_length_le (by omega)
  have hlast : Ev (fun k => fascicleref05_Stuff.l0 k (strOfNums (b ++ [0])) (strOfNums (out ++ ([(now.length : Int) + 1] ++ now))) (strOfNums []) ((i + 1 : Nat) : Int)) (strOfNums (out ++ ([(now.length : Int) + 1] ++ now))) := by
   refine Ev.step (f := fun _ => some _) (fun k => ?_) (Ev.now _)
   simp only [fascicleref05_Stuff.l0]
   rw [hsz, if_neg (by omega)]
  have hj := ref_stuff_j1 b out now i (by omega) hn (by omega) _ hlast
  by_cases hnow : now = []
  ·
   subst hnow
   by_cases hi0 : 0 < i
   ·
    have hprev : bt (strOfNums (b ++ [0])) ((i : Int) - 1) = rd b ((i : Int) - 1) := by
     rw [show (i : Int) - 1 = ((i - 1 : Nat) : Int) by omega, bt_nums _ hball (i - 1) (by simp; omega), rd_at b (i - 1) (by omega), List.getElem_append_left (by omega)]
    refine Ev.step (f := fun k => fascicleref05_Stuff.j1 k (strOfNums (b ++ [0])) (strOfNums out) (strOfNums []) (i : Int) (rd b ((i : Int) - 1) != 0)) (fun k => ?_) ?_
    ·
     simp only [fascicleref05_Stuff.l0]
     rw [hsz, if_pos (by omega), if_pos (by omega), if_pos hb0, hw, if_pos (by omega), if_pos ((nums_nil []).2 rfl), if_pos (by omega), w64 (by omega) (by omega), if_pos (by omega), if_pos (by omega), hprev]
    ·
     by_cases hr : rd b ((i : Int) - 1) = 0
     ·
      rw [hr, bne_self_eq_false]
      refine Ev.eq hj ?_
      unfold tl
      rw [if_neg (by intro h; exact h.2.2.2 hr), hdr]
      rfl
     ·
      rw [show (rd b ((i : Int) - 1) != 0) = true from bne_iff_ne.2 hr]
      refine Ev.step (f := fun _ => some (strOfNums out)) (fun k => ?_) (Ev.eq (Ev.now _) ?_)
      ·
       simp only [fascicleref05_Stuff.j1]; rfl
      ·
       unfold tl
       rw [if_pos ⟨hdr, rfl, hi0, hr⟩, List.append_nil]
   ·
    refine Ev.step (fun k => ?_) (Ev.eq hj ?_)
    ·
     simp only [fascicleref05_Stuff.l0]
     rw [hsz, if_pos (by omega), if_pos (by omega), if_pos hb0, hw, if_pos (by omega), if_pos ((nums_nil []).2 rfl), if_neg (by omega)]
    ·
     unfold tl
     rw [if_neg (by intro h; exact hi0 h.2.2.1), hdr]
     rfl
  ·
   refine Ev.step (fun k => ?_) (Ev.eq hj ?_)
   ·
    simp only [fascicleref05_Stuff.l0]
    rw [hsz, if_pos (by omega), if_pos (by omega), if_pos hb0, hw, if_pos (by omega), if_neg (fun h => hnow ((nums_nil now).1 h))]
   ·
    unfold tl
    rw [if_neg (by intro h; exact hnow h.2.1), hdr]
    rfl
 | succ d ih =>
  intro i out now hi hz hn hbn ho
  have hlt : i < b.length := by omega
  have hb0 : bt (strOfNums (b ++ [0])) (i : Int) = b[i] := by
   rw [bt_nums _ hball i (by simp; omega), List.getElem_append_left hlt]
  have hdr : b.drop i = b[i] :: b.drop (i + 1) := List.drop_eq_getElem_cons hlt
  have hprev : rd b (((i + 1 : Nat) : Int) - 1) = b[i] := by rw [show ((i + 1 : Nat) : Int) - 1 = (i : Int) by omega]; exact rd_at b i hlt
  have hrhs : tl b i now = stf (b.drop i) now := by
   unfold tl
   rw [if_neg (by intro h; rw [hdr] at h; exact List.cons_ne_nil _ _ h.1)]
  rw [hrhs, hdr]
  by_cases hx : b[i] = 0
  ·
   have hnx := ih (i + 1) (out ++ ([(now.length : Int) + 1] ++ now)) [] (by omega) (fun _ h => by cases h) (by simp) Bytes.nil (by simp; omega)
   have hj := ref_stuff_j1 b out now i (by omega) hn (by omega) _ hnx
   refine Ev.step (fun k => ?_) (Ev.eq hj ?_)
   ·
    simp only [fascicleref05_Stuff.l0]
    rw [hsz, if_pos (by omega), if_pos (by omega), hb0, if_pos hx, hw, if_neg (by omega)]
   ·
    unfold tl
    rw [hprev, if_neg (by intro h; exact h.2.2.2 hx)]
    simp [stf, hx]
  ·
   have hex : (strOfNums (b ++ [0])).extract i (i + 1) = strOfNums [b[i]] := by
    rw [nums_extract]
    congr 1
    rw [List.take_append_of_le_length (by omega), List.drop_take, show i + 1 - i = 1 by omega, hdr]
    rfl
   have hnz' : NoZ (now ++ [b[i]]) := fun y hy => by
    rcases List.mem_append.1 hy with hy | hy
    ·
     exact hz y hy
    ·
     rw [List.mem_singleton.1 hy]; exact hx
   by_cases hfull : now.length + 1 = 254
   ·
    have hnx := ih (i + 1) (out ++ [255] ++ (now ++ [b[i]])) [] (by omega) (fun _ h => by cases h) (by simp) Bytes.nil (by simp; omega)
    refine Ev.step (fun k => ?_) (Ev.eq hnx ?_)
    ·
     simp only [fascicleref05_Stuff.l0]
     rw [hsz, if_pos (by omega), if_pos (by omega), hb0, if_neg hx, w64 (by omega) (by omega), if_pos (by omega), if_pos (by omega)]
     rw [show ((i : Int) + 1).toNat = i + 1 by omega, Int.toNat_natCast, hex, PureKit.nums_append, if_pos (by rw [nums_size, nums_size]; simp; omega), if_pos (by rw [nums_size]; simp; omega), if_pos (by rw [nums_size]; omega), nums_one255, PureKit.nums_append, if_pos (by rw [nums_size, nums_size]; simp; omega), PureKit.nums_append, nums_empty]
     rfl
    ·
     congr 1
     unfold tl
     rw [hprev]
     by_cases hd0 : b.drop (i + 1) = []
     ·
      rw [if_pos ⟨hd0, rfl, by omega, hx⟩, hd0]
      simp [stf, hx, hfull]
     ·
      rw [if_neg (by intro h; exact hd0 h.1)]
      simp [stf, hx, hfull, hd0]
   ·
    have hnx := ih (i + 1) out (now ++ [b[i]]) (by omega) hnz' (by simp; omega) (hbn.append (Bytes.cons (hb _ (List.getElem_mem hlt)) Bytes.nil)) (by simp; omega)
    refine Ev.step (fun k => ?_) (Ev.eq hnx ?_)
    ·
     simp only [fascicleref05_Stuff.l0]
     rw [hsz, if_pos (by omega), if_pos (by omega), hb0, if_neg hx, w64 (by omega) (by omega), if_pos (by omega), if_pos (by omega)]
     rw [show ((i : Int) + 1).toNat = i + 1 by omega, Int.toNat_natCast, hex, PureKit.nums_append, if_pos (by rw [nums_size, nums_size]; simp; omega), if_neg (by rw [nums_size]; simp; omega)]
     rfl
    ·
     congr 1
     unfold tl
     rw [if_neg (by intro h; simp at h)]
     simp [stf, hx, hfull]
theorem ref_stuff_f (b : List Int) (hb : Bytes b) (hl : b.length ≤ 1000000) : Ev (fun k => fascicleref05_Stuff.f k (strOfNums b)) (strOfNums (stf b [])) := by
 have h := ref_stuff_l0 b hb hl b.length 0 [] [] (by omega) (fun _ h => by cases h) (by simp) Bytes.nil (by simp; omega)
 unfold fascicleref05_Stuff.f
 rw [nums_one0, PureKit.nums_append, nums_empty]
 refine Ev.congr (fun k => ?_) (Ev.eq h ?_)
 ·
  rw [if_pos (by rw [nums_size]; omega)]; rfl
 ·
  unfold tl
  rw [if_neg (by intro h; omega)]
  rfl
theorem stuffed_bytes (o : List Int) (h : Bytes o) : Bytes (stf o []) := (stf_noz o [] (fun _ h => by cases h) (by simp)).2 Bytes.nil h
theorem stf_nz (a : List Int) : NoZ (stf a []) := (stf_noz a [] (fun _ h => by cases h) (by simp)).1
theorem stuff_len (a : List Int) : (stf a []).length ≤ a.length + 1 + (a.length - 1) / 254 := by
 have := stf_len a [] (by simp)
 simpa using this
end Go.Proofs.Ytekanmieppnpeaa.LCobs
namespace Go.Proofs.Ytekanmieppnpeaa.LCobs
open Go.RowKit Go.Proofs.Ytekanmieppnpeaa.G Go.Proofs.YtekanmieppnpeaaW.PrintWords Go.Proofs.YtekanmieppnpeaaW.PrintLast Go.Proofs.Ytekanmieppnpeaa.PureKit
def unl : Nat → List Int → List Int → Option (List Int)
 | 0, out, _ => some out
 | _ + 1, out, [] => some out
 | d + 1, out, n :: rest => if n > (rest.length : Int) + 1 then none else unl d (out ++ rest.take (n.toNat - 1) ++ (if n < 255 ∧ rest.drop (n.toNat - 1) ≠ [] then [0] else [])) (rest.drop (n.toNat - 1))
def fin (b : List Int) : Option (List Int) → List Int × Int
 | none => ([], 2)
 | some o => if stf o [] = b then (o, 0) else ([], 4)
theorem unstuff_l0 (b : List Int) (hb : Bytes b) : ∀ (d : Nat) (out rest : List Int), rest.length ≤ d → NoZ rest → Bytes rest → Bytes out → out.length + rest.length ≤ 100000 →
  Ev (fun k => cobs_Unstuff.l0 k b out rest) (fin b (unl d out rest)) := by
 have hend : ∀ (out : List Int) (d : Nat), Bytes out → out.length ≤ 100000 → Ev (fun k => cobs_Unstuff.l0 k b out []) (fin b (unl d out [])) := by
  intro out d hbo ho
  have hu : unl d out [] = some out := by cases d <;> rfl
  rw [hu]
  refine Ev.step (f := fun k => (cobs_Stuff.f k out).bind fun t307 => (bytes_Equal.f t307 b).bind fun t310 => if t310 = true then some (out, 0) else some ([], 4)) (fun k => ?_) (Ev.bind (f := fun k t307 => (bytes_Equal.f t307 b).bind fun t310 => if t310 = true then some (out, 0) else some ([], 4)) (stuff_f out hbo ho) ?_)
  ·
   simp only [cobs_Unstuff.l0]; rw [if_neg (by simp)]
  ·
   simp only [bytes_Equal.f, Option.bind_some]
   rw [nums_beq (stuffed_bytes out hbo) hb]
   unfold fin
   by_cases h : stf out [] = b
   ·
    simp only [h, decide_true, if_true]; exact Ev.now _
   ·
    simp only [h, decide_false, if_false, Bool.false_eq_true]; exact Ev.now _
 intro d
 induction d with
 | zero =>
  intro out rest hd hz hbr hbo ho
  obtain rfl : rest = [] := List.eq_nil_of_length_eq_zero (by omega)
  exact hend out 0 hbo (by omega)
 | succ d ih =>
  intro out rest hd hz hbr hbo ho
  cases rest with
  | nil => exact hend out _ hbo (by simpa using ho)
  | cons n rest =>
   have hn := hbr.head
   have hn0 : n ≠ 0 := hz n List.mem_cons_self
   have hrd : rd (n :: rest) 0 = n := rfl
   have hw : wrap64 n = n := w64 (by omega) (by omega)
   simp only [List.length_cons] at hd ho
   by_cases hbig : n > (rest.length : Int) + 1
   ·
    refine Ev.step (f := fun _ => some ([], 2)) (fun k => ?_) (Ev.eq (Ev.now _) ?_)
    ·
     simp only [cobs_Unstuff.l0]
     rw [if_pos (by simp), if_pos (by simp), hrd, hw, if_pos (by simp only [List.length_cons]; omega)]
    ·
     simp [unl, hbig, fin]
   ·
    have hu : unl (d + 1) out (n :: rest) = unl d (out ++ rest.take (n.toNat - 1) ++ (if n < 255 ∧ rest.drop (n.toNat - 1) ≠ [] then [0] else [])) (rest.drop (n.toNat - 1)) := by simp only [unl]; rw [if_neg hbig]
    rw [hu]
    have htk : ((n :: rest).take n.toNat).drop 1 = rest.take (n.toNat - 1) := by
     rw [show n.toNat = (n.toNat - 1) + 1 by omega, List.take_succ_cons]; rfl
    have hdp : (n :: rest).drop n.toNat = rest.drop (n.toNat - 1) := by
     rw [show n.toNat = (n.toNat - 1) + 1 by omega, List.drop_succ_cons]; rfl
    have hl1 : (rest.take (n.toNat - 1)).length = n.toNat - 1 := by rw [List.length_take]; omega
    have hl2 : (rest.drop (n.toNat - 1)).length = rest.length - (n.toNat - 1) := by rw [List.length_drop]
    have hzr : NoZ (rest.drop (n.toNat - 1)) := fun y hy => hz y (List.mem_cons_of_mem _ (List.mem_of_mem_drop hy))
    have hstep : ∀ k, cobs_Unstuff.l0 (k + 1) b out (n :: rest) = cobs_Unstuff.l0 k b (out ++ rest.take (n.toNat - 1) ++ (if n < 255 ∧ rest.drop (n.toNat - 1) ≠ [] then [0] else [])) (rest.drop (n.toNat - 1)) := by
     intro k
     simp only [cobs_Unstuff.l0]
     rw [if_pos (by simp), if_pos (by simp), hrd, hw, if_neg (by simp only [List.length_cons]; omega), if_pos (by omega), if_pos (by simp only [List.length_cons]; omega), Option.bind_some, htk, if_pos (by omega), Option.bind_some, if_pos (by omega), Option.bind_some, hdp]
     by_cases h1 : n ≤ 254
     ·
      rw [if_pos h1]
      by_cases h2 : rest.drop (n.toNat - 1) = []
      ·
       rw [if_neg (by rw [h2]; simp), if_neg (by intro h; exact h.2 h2), List.append_nil]
      ·
       have : 0 < (rest.drop (n.toNat - 1)).length := List.length_pos_iff.2 h2
       rw [if_pos (by omega), if_pos (by rw [List.length_append]; omega), if_pos ⟨by omega, h2⟩]
     ·
      rw [if_neg h1, if_neg (by intro h; omega), List.append_nil]
    refine Ev.step hstep (ih _ _ (by omega) hzr (hbr.tail.drop _) ?_ ?_)
    ·
     refine (hbo.append (hbr.tail.take _)).append ?_
     split
     ·
      exact Bytes.cons (by omega) Bytes.nil
     ·
      exact Bytes.nil
    ·
     simp only [List.length_append]
     split
     ·
      rw [List.length_singleton]; omega
     ·
      rw [List.length_nil]; omega
open Classical in
theorem unstuff_f (b : List Int) (hb : Bytes b) (hl : b.length ≤ 100000) : Ev (fun k => cobs_Unstuff.f k b) (if ¬ NoZ b then ([], 4) else if b = [] then ([], 2) else fin b (unl b.length [] b)) := by
 unfold cobs_Unstuff.f
 simp only [bytes_IndexByte.f, Option.bind_some, show (0 : Int).toNat.toUInt8 = 0 from rfl]
 rcases idx0 b hb with ⟨hz, hi⟩ | ⟨ys, zs, he, hz, hi⟩
 ·
  rw [hi, if_neg (by simpa using hz)]
  by_cases h0 : b = []
  ·
   rw [if_pos h0]
   refine Ev.congr (f := fun _ => some ([], 2)) (fun k => ?_) (Ev.now _)
   rw [if_neg (by omega), if_pos (by rw [h0]; rfl)]
  ·
   rw [if_neg h0]
   have : 0 < b.length := List.length_pos_iff.2 h0
   refine Ev.congr (fun k => ?_) (unstuff_l0 b hb b.length [] b (Nat.le_refl _) hz hb Bytes.nil (by simpa using hl))
   rw [if_neg (by omega), if_neg (by omega)]
 ·
  have hnz : ¬ NoZ b := fun h => h 0 (by rw [he]; simp) rfl
  rw [if_pos hnz]
  refine Ev.congr (f := fun _ => some ([], 4)) (fun k => ?_) (Ev.now _)
  rw [hi, if_pos (by omega)]
end Go.Proofs.Ytekanmieppnpeaa.LCobs
namespace Go.Proofs.Ytekanmieppnpeaa.LCobs
open Go.RowKit Go.Proofs.Ytekanmieppnpeaa.G Go.Proofs.YtekanmieppnpeaaW.PrintWords Go.Proofs.YtekanmieppnpeaaW.PrintLast Go.Proofs.Ytekanmieppnpeaa.PureKit
theorem unl_step (d : Nat) (out rest : List Int) (m : Nat) (a c : List Int) (hm : m ≤ 254) (ha : a.length = m) (hr : rest = ((m : Int) + 1) :: (a ++ c)) : unl (d + 1) out rest = unl d (out ++ a ++ (if m < 254 ∧ c ≠ [] then [0] else [])) c := by
 subst hr
 simp only [unl]
 rw [if_neg (by rw [List.length_append]; omega)]
 have h1 : ((m : Int) + 1).toNat - 1 = m := by omega
 rw [h1, List.take_left' ha, List.drop_left' ha]
 by_cases h2 : m < 254 ∧ c ≠ []
 ·
  rw [if_pos h2, if_pos ⟨by omega, h2.2⟩]
 ·
  rw [if_neg h2, if_neg (fun h => h2 ⟨by omega, h.2⟩)]
theorem unl_nil (d : Nat) (out : List Int) : unl d out [] = some out := by cases d <;> rfl
theorem unl_stf : ∀ (l now out : List Int) (d : Nat), now.length < 254 → (stf l now).length ≤ d → unl d out (stf l now) = some (out ++ now ++ l)
 | [], now, out, d, hn, hd => by
  simp only [stf] at hd ⊢
  obtain ⟨d, rfl⟩ : ∃ e, d = e + 1 := ⟨d - 1, by rw [List.length_cons] at hd; omega⟩
  rw [unl_step d out _ now.length now [] (by omega) rfl (by simp), unl_nil]
  simp
 | x :: xs, now, out, d, hn, hd => by
  simp only [stf] at hd ⊢
  by_cases hx : x = 0
  ·
   rw [if_pos hx] at hd ⊢
   obtain ⟨d, rfl⟩ : ∃ e, d = e + 1 := ⟨d - 1, by rw [List.length_cons] at hd; omega⟩
   rw [unl_step d out _ now.length now (stf xs []) (by omega) rfl rfl, if_pos ⟨hn, stf_ne _ _⟩]
   rw [unl_stf xs [] _ d (by simp) (by rw [List.length_cons, List.length_append] at hd; omega)]
   simp [hx]
  ·
   rw [if_neg hx] at hd ⊢
   by_cases hf : now.length + 1 = 254
   ·
    rw [if_pos hf] at hd ⊢
    obtain ⟨d, rfl⟩ : ∃ e, d = e + 1 := ⟨d - 1, by rw [List.length_cons] at hd; omega⟩
    by_cases hxs : xs = []
    ·
     rw [if_pos hxs] at hd ⊢
     rw [unl_step d out _ 254 (now ++ [x]) [] (by omega) (by simp; omega) (by simp), unl_nil]
     simp [hxs]
    ·
     rw [if_neg hxs] at hd ⊢
     rw [unl_step d out _ 254 (now ++ [x]) (stf xs []) (by omega) (by simp; omega) (by simp), if_neg (by omega)]
     rw [unl_stf xs [] _ d (by simp) (by rw [List.length_cons, List.length_append] at hd; omega)]
     simp
   ·
    rw [if_neg hf] at hd ⊢
    rw [unl_stf xs (now ++ [x]) out d (by simp; omega) hd]
    simp
end Go.Proofs.Ytekanmieppnpeaa.LCobs
namespace Go.Proofs.Ytekanmieppnpeaa.LCobs
open Go.RowKit Go.Proofs.Ytekanmieppnpeaa.G Go.Proofs.YtekanmieppnpeaaW.PrintWords Go.Proofs.YtekanmieppnpeaaW.PrintLast Go.Proofs.Ytekanmieppnpeaa.PureKit
end Go.Proofs.Ytekanmieppnpeaa.LCobs
end
section
namespace Go.Proofs.Ytekanmieppnpeaa.G
open Go Go.RowKit Go.Proofs.YtekanmieppnpeaaW.PrintWords Go.Proofs.YtekanmieppnpeaaW.PrintLast Go.Proofs.YtekanmieppnpeaaW.PrintMore Go.Proofs.Ytekanmieppnpeaa.PureKit Go.Proofs.Ytekanmieppnpeaa.Sep Go.Proofs.Ytekanmieppnpeaa.Rol Go.Proofs.Ytekanmieppnpeaa.LCobs
def summed (l : List Int) : List Int := l ++ nbytes 8 ((wsum 0 l : Nat) : Int)
theorem summed_len (l : List Int) : (summed l).length = l.length + 8 := by unfold summed; rw [List.length_append, nbytes_len]
theorem nbytes_bytes : ∀ (n : Nat) (x : Int), 0 ≤ x → Bytes (nbytes n x)
 | 0, _, _ => Bytes.nil
 | n + 1, x, h => Bytes.cons (by omega) (nbytes_bytes n (x / 256) (by omega))
theorem summed_bytes (l : List Int) (h : Bytes l) : Bytes (summed l) := fun x hx => by
 rcases List.mem_append.1 hx with h1 | h1
 ·
  exact h x h1
 ·
  exact nbytes_bytes 8 _ (by omega) x h1
def sealed (l : List Int) : List Int := stf (summed l) []
set_option maxHeartbeats 4000000 in
set_option maxRecDepth 100000 in
theorem frame_seal (w : World) (A : Option Addr) (c n : Nat) (l : List Int) (hn : n = l.length) (hC : Kd.C (Kd.int .u8) w A l.length l) (hc : l.length ≤ c) (hb : Bytes l) (hl : l.length ≤ 90000) :
  Calls Try.prog 21 #[.slice A n c] w fun e w' => ∃ v : Value, e = .returned v ∧ Kd.R (Kd.int .u8) 5 w' w.heap.size (fun _ => True) v (sealed l ++ [0]) ∧ Below w.heap.size w w' := by
 subst hn
 have hS0 := Aside0.mk (Sep.buf_new (Sep.start w))
 have hCA := Aside0.mk hC
 have hcA := Aside0.mk hc
 have hlA := Aside0.mk hl
 have hsl := wsum_lt 0 l
 obtain ⟨k, hk⟩ := (stuff_f (summed l) (summed_bytes l hb) (by rw [summed_len]; omega)).rounds
 have hkA := Aside0.mk hk
 have hsumlen := summed_len l
 have hslen : (sealed l).length ≤ 200000 := by
  have := stf_len (summed l) [] (by simp)
  rw [List.length_nil, Nat.zero_add, hsumlen] at this
  unfold sealed
  omega
 have hslA := Aside0.mk hslen
 have hsuA := Aside0.mk hsumlen
 clear hC hc hl hk hslen hsumlen
 go_enter Try.func21, Try.ntmps21
 go_wp2_with (fail)
 refine (buf_Raw w _ w.heap.size [] [] A l.length c l hS0.out (Kd.C_alloc hCA.out _) rfl (by simp) (by have := hlA.out; omega)).mono ?_
 rintro e w1 ⟨rfl, hS1⟩
 have hS1 := Aside0.mk hS1
 go_wp2_with (fail)
 refine (wide_Sum_calls _ A c l 0 _ rfl (Kd.C_below hCA.out hS1.out.1) hcA.out hb (by decide) (by have := hlA.out; omega)).mono ?_
 rintro e w2 ⟨rfl, hB2⟩
 have hS2 := Aside0.mk (hS1.out.below hB2)
 clear hB2
 go_wp2_with (fail)
 refine (buf_Eight w _ w.heap.size _ [] _ hS2.out (by omega) (by omega) (by have := hlA.out; simp; omega)).mono ?_
 rintro e w3 ⟨rfl, hS3⟩
 have hS3 := Aside0.mk hS3
 go_wp2_with (fail)
 refine (buf_Bytes w _ w.heap.size _ [] hS3.out (by have := hlA.out; simp [nbytes_len]; omega)).mono ?_
 rintro e w4 ⟨v4, rfl, hS4⟩
 rw [show [] ++ l ++ nbytes 8 ((wsum 0 l : Nat) : Int) = summed l from rfl] at hS4
 obtain ⟨bs4, hR4⟩ := hS4.row_R
 obtain ⟨A4, c4, rfl⟩ := Kd.R_slice hR4
 have hr4 := Aside0.mk (Kd.R_reads' hR4)
 have hS4 := Aside0.mk hS4
 clear hR4
 go_wp2_with (fail)
 refine (cobs_Stuff.calls k (fun k_ => k_ < w4.heap.size) A4 c4 (summed l) _ _ (Kd.V_mk hr4.out.2.1 (Kd.C_F (Kd.heap_int .u8) hr4.out.2.2)) hkA.out).mono ?_
 rintro e w5 ⟨v5, rfl, ho5, hb5⟩
 have hS5 := (Sep.row_new hS4.out hb5 ho5)
 obtain ⟨A5, c5, rfl⟩ := Kd.R_slice ho5
 obtain ⟨bs, hRr, hGr⟩ := hS5.row_open
 have hR := Aside0.mk hRr
 have hG := Aside0.mk hGr
 clear ho5 hb5 hRr hGr hS5
 go_wp2_with (first | ((with_reducible refine gate_builtin (b := .append) (xs := #[.tmp 10, .tmp 11]) rfl ?_); at_builtin; refine Kd.R_append (Kd.int .u8) (w0 := w5) 0 rfl (.tmp 10) (.tmp 11) 39 5 (.int .u8 0) 1 rfl Try.underlying39 (by kernel_rfl) rfl (by decide) (by decide) (.slice A5 (stf (summed l) []).length c5) (stf (summed l) []) 0 [.int .u8 0] (fun k => k ∈ bs ∨ w5.heap.size ≤ k) (fun _ => False) rfl rfl rfl (fun _ h => h.elim) (fun _ h => .inr h) ?aO ?aB ?aS ?aL ?_; (case aO => exact Kd.R_mono hR.out (fun _ h => .inl h)); (case aB => exact Below.refl _ _); (case aS => exact Nat.zero_le _); (case aL => have := hslA.out; unfold sealed at this; omega); intro v6 w6 ho6 hb6 hg6 hat6; have hS6 := Aside0.mk (hG.out w6 _ _ ho6 hg6); clear ho6 hb6 hg6 hat6))
 go_ret
 obtain ⟨h1, h2⟩ := hS6.out.row_out
 exact ⟨_, rfl, h1, h2⟩
def frame_Seal.f (l0 : List Int) : Option (List Int) := if wbytesOK l0 = true ∧ l0.length ≤ 90000 then some (sealed l0 ++ [0]) else none
theorem frame_Seal.calls (A0 : Option Addr) (c0 : Nat) (l0 : List Int) (r : List Int) (w : World) (hr0 : Kd.C (Kd.int .u8) w A0 l0.length l0) (hc0 : l0.length ≤ c0) (h : frame_Seal.f l0 = some r) :
  Calls Try.prog 21 #[.slice A0 l0.length c0] w fun e w' => ∃ v0_ : Value, e = .returned (v0_) ∧ Kd.R (Kd.int .u8) 5 w' w.heap.size (fun _ => True) v0_ r ∧ Below w.heap.size w w' := by
 unfold frame_Seal.f at h
 split at h
 ·
  rename_i hh
  cases h
  exact frame_seal w A0 c0 _ l0 rfl hr0 hc0 ((wbytesOK_iff l0).1 hh.1) hh.2
 ·
  cases h
end Go.Proofs.Ytekanmieppnpeaa.G
end
section
namespace Go.Proofs.Ytekanmieppnpeaa.G
open Go Go.RowKit Go.Proofs.YtekanmieppnpeaaW.PrintWords Go.Proofs.YtekanmieppnpeaaW.PrintLast Go.Proofs.YtekanmieppnpeaaW.PrintMore Go.Proofs.Ytekanmieppnpeaa.PureKit Go.Proofs.Ytekanmieppnpeaa.Sep Go.Proofs.Ytekanmieppnpeaa.Rol Go.Proofs.Ytekanmieppnpeaa.LCobs
theorem cut_full {P : Program} (t e : TypeId) (kh km : IntKind) {i : TypeInfo} (ht : P.underlying t = some (.slice e)) (hi : P.info? e = some i) (A : Option Addr) (n c : Nat) (j : Int) (h0 : 0 ≤ j) (hm : j ≤ n) (hc : n ≤ c) :
  ∀ W : World, (Instr.slice t (.slice A n c) none (some (.int kh j)) (some (.int km j))).run P W = .ok (.slice A j.toNat j.toNat) W := by
 intro W
 have hel : P.elem t = e := by simp [Program.elem, ht]
 have hu : P.underlying t = some (.slice (P.elem t)) := by rw [hel]; exact ht
 have ha : (A.map fun x => x.add 0) = A := by cases A <;> simp [Addr.add]
 rw [run_slice_hm W t A n c hu kh km j j h0 (by omega) (by omega), hel]
 simp [sizeOf, typeInfo, hi, sliced, Result.andThen, ha]
open Classical in
noncomputable def unst (b : List Int) : List Int × Int := if ¬ NoZ b then ([], 4) else if b = [] then ([], 2) else fin b (unl b.length [] b)
theorem unl_bytes : ∀ (d : Nat) (out rest o : List Int), Bytes out → Bytes rest → unl d out rest = some o → Bytes o ∧ o.length ≤ out.length + rest.length
 | 0, out, rest, o, h1, h2, e => by cases e; exact ⟨h1, by omega⟩
 | d + 1, out, [], o, h1, h2, e => by cases e; exact ⟨h1, by simp⟩
 | d + 1, out, n :: rest, o, h1, h2, e => by
  simp only [unl] at e
  split at e
  ·
   cases e
  ·
   have hz : Bytes (if n < 255 ∧ rest.drop (n.toNat - 1) ≠ [] then [0] else []) ∧ (if n < 255 ∧ rest.drop (n.toNat - 1) ≠ [] then [(0 : Int)] else []).length ≤ 1 := by
    split
    ·
     exact ⟨Bytes.cons (by decide) Bytes.nil, by simp⟩
    ·
     exact ⟨Bytes.nil, by simp⟩
   have := unl_bytes d _ _ o (fun x hx => by
    rcases List.mem_append.1 hx with hx | hx
    ·
     rcases List.mem_append.1 hx with hx | hx
     ·
      exact h1 x hx
     ·
      exact h2.tail x (List.mem_of_mem_take hx)
    ·
     exact hz.1 x hx) (h2.tail.drop _) e
   refine ⟨this.1, ?_⟩
   have h3 := this.2
   simp only [List.length_append, List.length_take, List.length_drop, List.length_cons] at h3 ⊢
   have := hz.2
   omega
theorem unst_facts (b : List Int) (hb : Bytes b) : Bytes (unst b).1 ∧ (unst b).1.length ≤ b.length ∧ ((unst b).2 = 0 → stf (unst b).1 [] = b) ∧ ((unst b).2 ≠ 0 → (unst b).1 = []) := by
 unfold unst
 split
 ·
  exact ⟨Bytes.nil, by simp, (fun h => by cases h), fun _ => rfl⟩
 ·
  split
  ·
   exact ⟨Bytes.nil, by simp, (fun h => by cases h), fun _ => rfl⟩
  ·
   rcases hu : unl b.length [] b with _ | o
   ·
    exact ⟨Bytes.nil, by simp [fin], (fun h => by cases h), fun _ => rfl⟩
   ·
    have := unl_bytes _ _ _ _ Bytes.nil hb hu
    unfold fin
    dsimp only
    split
    ·
     rename_i he
     exact ⟨this.1, by simpa using this.2, fun _ => he, fun h => absurd rfl h⟩
    ·
     exact ⟨Bytes.nil, by simp, (fun h => by cases h), fun _ => rfl⟩
theorem unst_stf (a : List Int) : unst (stf a []) = (a, 0) := by
 unfold unst
 rw [if_neg (by simpa using stf_nz a), if_neg (stf_ne _ _), unl_stf a [] [] _ (by simp) (Nat.le_refl _)]
 simp [fin]
noncomputable def opnb (l : List Int) : List Int × Int :=
 if (unst l).2 ≠ 0 then ([], (unst l).2) else if (unst l).1.length < 8 then ([], 2)
 else if lev ((unst l).1.drop ((unst l).1.length - 8)) ≠ ((wsum 0 ((unst l).1.take ((unst l).1.length - 8)) : Nat) : Int) then ([], 5) else ((unst l).1.take ((unst l).1.length - 8), 0)
set_option maxHeartbeats 4000000 in
theorem clos_told (w0 w : World) (g gx : Nat) (l : List Int) (ps : List HP) (hs : Sep.Sep w0 w (cur g l 0 true :: blk gx #[.int .u64 0] 30 :: ps)) (hb : Bytes l) (hl : l.length = 8) :
  Calls Try.prog 52 #[.pointer (some ⟨g, 0, none⟩), .pointer (some ⟨gx, 0, none⟩)] w fun e w2 =>
   ∃ (at2 : Nat) (x : Int) (qs : List HP), (x = 0 ∧ qs = [blk gx #[.int .u64 (lev l)] 30]) ∧ Sep.Sep w0 w2 (cur g l at2 true :: (qs ++ ps)) ∧ ((e = .returned (.tuple #[]) ∧ x = 0) ∨ e = .panicked [fault g x]) := by
 have hS := Aside0.mk hs
 clear hs
 go_enter Try.func52, Try.ntmps52
 go_wp2_with (fail)
 refine (cur_Eight_some w0 _ g 0 l _ hS.out hb (by omega) (by omega)).mono ?_
 rw [show (l.take (0 + 8)).drop 0 = l by rw [List.drop_zero, List.take_of_length_le (by omega)]]
 obtain ⟨z, hz⟩ : ∃ z, lev l = z := ⟨_, rfl⟩
 rw [hz]
 have hzA := Aside0.mk hz
 clear hz
 rintro e w2 ⟨rfl, h2⟩
 have hc2_0 : w2.cell? ⟨gx, 0, none⟩ = some (.int .u64 0) := ((h2.pick1).cell 0).trans rfl
 have hz2 := h2.pick1.frozen 0
 have hS2 : Sep.Sep w0 (w2.setCell ⟨gx, 0, none⟩ (.int .u64 z)) (cur g l (0 + 8) true :: blk gx #[.int .u64 z] 30 :: ps) := by
  have := (h2.pick1.set 0 (.int .u64 z)).put1
  simpa using this
 have hS2A := Aside0.mk hS2
 clear h2 hS2
 go_wp2
 go_end0
 exact ⟨0 + 8, 0, [blk gx #[.int .u64 z] 30], ⟨rfl, by rw [hzA.out]⟩, hS2A.out, .inl ⟨rfl, rfl⟩⟩
theorem finfo8 : (Try.prog.info? 5).map (fun i => (i.zero, i.size, i.bytes)) = some (some (.int .u8 0), 1, 1) := by kernel_rfl
set_option maxHeartbeats 8000000 in
set_option maxRecDepth 100000 in
theorem frame_open (w : World) (A : Option Addr) (c n : Nat) (l : List Int) (hn : n = l.length) (hC : Kd.C (Kd.int .u8) w A l.length l) (hc : l.length ≤ c) (hb : Bytes l) (hl : l.length ≤ 90000) :
  Calls Try.prog 19 #[.slice A n c] w fun e w' => ∃ (A2 : Option Addr) (c2 : Nat), e = .returned (.tuple #[.slice A2 (opnb l).1.length c2, .int .i64 (opnb l).2]) ∧ Kd.C (Kd.int .u8) w' A2 (opnb l).1.length (opnb l).1 ∧ (opnb l).1.length ≤ c2 ∧ Below w.heap.size w w' := by
 subst hn
 have hCA := Aside0.mk hC
 have hcA := Aside0.mk hc
 have hlA := Aside0.mk hl
 obtain ⟨k, hk⟩ := (unstuff_f l hb (by omega)).rounds
 have hk : cobs_Unstuff.f k l = some (unst l) := hk
 obtain ⟨hub, hul, hu0, hu1⟩ := unst_facts l hb
 obtain ⟨r1, r2, hu⟩ : ∃ r1 r2, unst l = (r1, r2) := ⟨_, _, rfl⟩
 have ho : opnb l = if r2 ≠ 0 then ([], r2) else if r1.length < 8 then ([], 2) else if lev (r1.drop (r1.length - 8)) ≠ ((wsum 0 (r1.take (r1.length - 8)) : Nat) : Int) then ([], 5) else (r1.take (r1.length - 8), 0) := by unfold opnb; rw [hu]
 rw [hu] at hk hub hul hu0 hu1
 have hkA := Aside0.mk hk
 have hoA := Aside0.mk ho
 have hulA := Aside0.mk hul
 have hmf : ∀ (fn : Fn) (first cap : Array Value) (w : World), (Instr.makeFunc fn first cap).run Try.prog w = .ok (.func fn first cap) w := fun _ _ _ _ => rfl
 clear hC hc hl hk ho hul hu hu0 hu1
 go_enter Try.func19, Try.ntmps19
 go_wp2_with (fail)
 refine (cobs_Unstuff.calls k (fun k_ => k_ < w.heap.size) A c l r1 r2 _ (Kd.V_mk hcA.out (Kd.C_F (Kd.heap_int .u8) hCA.out)) hkA.out).mono ?_
 rintro e w1 ⟨v1, rfl, ho1, hb1⟩
 have hS1 := Aside0.mk (Sep.row_new (Sep.start w) hb1 ho1)
 obtain ⟨A1, c1, rfl⟩ := Kd.R_slice ho1
 have hr1 := Aside0.mk (Kd.R_reads' ho1)
 clear ho1 hb1
 by_cases c0 : r2 = 0
 ·
  subst c0
  by_cases c8 : r1.length < 8
  ·
   have hd8 : decide (wrap64 ((r1.length : Int) - 8) < 0) = true := decide_eq_true (by rw [w64 (by omega) (by omega)]; omega)
   have hd8' : decide ((r1.length : Int) - 8 < 0) = true := decide_eq_true (by omega)
   go_wp2_with (fail)
   go_ret2
   rw [hoA.out, if_neg (by simp), if_pos c8]
   exact ⟨none, 0, rfl, Kd.C_nil _ _, Nat.le_refl _, hS1.out.1⟩
  ·
   have hw8 : wrap64 ((r1.length : Int) - 8) = (r1.length : Int) - 8 := w64 (by omega) (by have := hulA.out; have := hlA.out; omega)
   have hd8 : decide ((r1.length : Int) - 8 < 0) = false := decide_eq_false (by omega)
   obtain ⟨i0, hi0, _, hsz, _⟩ := info_parts finfo8
   obtain ⟨m, hm⟩ : ∃ m : Nat, r1.length = m + 8 := ⟨r1.length - 8, by omega⟩
   have hmi : (r1.length : Int) - 8 = (m : Int) := by omega
   have hcut := cut_from (P := Try.prog) 39 5 .i64 Try.underlying39 hi0 1 hsz A1 r1.length c1 (m : Int) (by omega) (by omega)
   obtain ⟨A4, hA4⟩ : ∃ A4, A4 = (if c1 = m then A1 else A1.map (·.add (m * 1))) := ⟨_, rfl⟩
   rw [Int.toNat_natCast, ← hA4] at hcut
   have hC4 : Aside0 (∀ W, Kd.C (Kd.int .u8) W A1 r1.length r1 → Kd.C (Kd.int .u8) W A4 (r1.drop m).length (r1.drop m)) := ⟨fun W h => by
    rw [hA4]
    exact Kd.C_drop (m := m) (c := c1) h (by omega) hr1.out.2.1⟩
   have hcutT := cut_to (P := Try.prog) 39 5 .i64 Try.underlying39 hi0 A1 r1.length c1 (m : Int) (by omega) (by omega) hr1.out.2.1
   have hcutF := cut_full (P := Try.prog) 39 5 .i64 .i64 Try.underlying39 hi0 A1 r1.length c1 (m : Int) (by omega) (by omega) hr1.out.2.1
   rw [Int.toNat_natCast] at hcutT hcutF
   have hdl : (r1.drop m).length = 8 := by rw [List.length_drop]; omega
   have htl : (r1.take m).length = m := by rw [List.length_take]; omega
   have hm2 : r1.length - 8 = m := by omega
   have hm3 : r1.length - m = 8 := by omega
   have hmA := Aside0.mk hm
   have hdlA := Aside0.mk hdl
   have htlA := Aside0.mk htl
   have ho2 : Aside0 (opnb l = if lev (r1.drop m) ≠ ((wsum 0 (r1.take m) : Nat) : Int) then ([], 5) else (r1.take m, 0)) := ⟨by rw [hoA.out, if_neg (by simp), if_neg c8, hm2]⟩
   have hmle : m ≤ 90000 := by have := hulA.out; have := hlA.out; omega
   have hsl := wsum_lt 0 (r1.take m)
   have hm3A := Aside0.mk hm3
   clear hA4 hdl htl hm hoA hm2 hm3
   go_wp2_with (fail)
   have hrun := run_calls w _ A4 (c1 - m) (r1.drop m) 52 #[.pointer (some ⟨w1.heap.size, 0, none⟩)] [blk w1.heap.size #[.int .u64 0] 30] [row (Kd.int .u8) 5 (.slice A1 r1.length c1) r1] (fun at2 x qs => x = 0 ∧ qs = [blk w1.heap.size #[.int .u64 (lev (r1.drop m))] 30])
    Try.call52 (hS1.out.alloc #[.int .u64 0] 30) (hC4.out _ (Kd.C_alloc hr1.out.2.2 _)) (by rw [hdlA.out]; have := hr1.out.2.1; omega) (by rw [hdlA.out]; decide) (fun wq g ps' h => clos_told w wq g w1.heap.size (r1.drop m) ps' h (hub.drop m) hdlA.out)
   rw [show (r1.drop m).length = r1.length - m from List.length_drop] at hrun
   obtain ⟨z, hz⟩ : ∃ z, lev (r1.drop m) = z := ⟨_, rfl⟩
   rw [hz] at hrun ho2
   obtain ⟨y, hy⟩ : ∃ y, wsum 0 (r1.take m) = y := ⟨_, rfl⟩
   have hyA := Aside0.mk hy
   rw [hy] at ho2 hsl
   clear hz hy
   refine hrun.mono ?_
   clear hrun
   rintro e w2 ⟨at2, x, qs, ⟨rfl, rfl⟩, rfl, h2⟩
   have hS2 := Aside0.mk h2
   clear h2
   go_wp2_with (fail)
   have hc0 : w2.drew.cell? ⟨w1.heap.size, 0, none⟩ = some (.int .u64 z) := (hS2.out.drew.cell 0).trans rfl
   refine start_ (n := 6) (S := fun w' => w'.cell? ⟨w1.heap.size, 0, none⟩ = some (.int .u64 z)) (ds := []) #[false, false, false, false, false, false] (by kernel_rfl) rfl rfl (hc0) (fun hHeld => ?_)
   refine pure_ (i := 1) (N := some 27) (v := ?_) (a' := ?_) #[false, true, false, false, false, false] rfl rfl (by kernel_rfl) (fun _ _ _ h => h) (Or.inl ⟨by rfl, ?_⟩) ?_ ?_
   rotate_left
   ·
    intro w'
    go_simp
    with_reducible rfl
   rotate_left
   ·
    simp only [Act.put, List.setIfInBounds_toArray, List.set_cons_zero, List.set_cons_succ, i64_w, i32_w]
    rfl
   refine pure_ (i := 2) (N := some 28) (v := ?_) (a' := ?_) #[false, true, true, false, false, false] rfl rfl (by kernel_rfl) (fun _ _ _ h => h) (Or.inl ⟨by rfl, ?_⟩) ?_ ?_
   rotate_left
   ·
    intro w'
    go_simp
    with_reducible rfl
   rotate_left
   ·
    simp only [Act.put, List.setIfInBounds_toArray, List.set_cons_zero, List.set_cons_succ, i64_w, i32_w]
    rfl
   refine pure_ (i := 3) (N := some 29) (v := ?_) (a' := ?_) #[false, true, true, true, false, false] rfl rfl (by kernel_rfl) (fun _ _ _ h => h) (Or.inl ⟨by rfl, ?_⟩) ?_ ?_
   rotate_left
   ·
    intro w'
    go_simp
    with_reducible rfl
   rotate_left
   ·
    simp only [Act.put, List.setIfInBounds_toArray, List.set_cons_zero, List.set_cons_succ, i64_w, i32_w]
    rfl
   refine take_ (i := 0) (N := some 26) (v := ?_) (a' := ?_) #[true, true, true, true, false, false] rfl rfl (by kernel_rfl) (fun _ _ _ h => h) (Or.inl ⟨by rfl, ?_⟩) hHeld ?_ ?_
   rotate_left
   ·
    intro w' s0
    go_simp
    with_reducible rfl
   rotate_left
   ·
    simp only [Act.put, List.setIfInBounds_toArray, List.set_cons_zero, List.set_cons_succ, i64_w, i32_w]
    rfl
   refine one_ (i := 4) (N := some 30) #[true, true, true, true, true, false] rfl rfl (by kernel_rfl) (by decide) (fun K hK => ?_)
   refine goes_ Try.func54 (by kernel_rfl) rfl #[.int .u64 0, .slice A1 m c1] (by rfl) rfl rfl (by (try simp only [List.map_toArray, List.map_cons, List.map_nil]); first | done | rfl) ?_
   have hCt := Kd.C_take (m := m) (Kd.R_reads' hS2.out.drew.tail.row_R.choose_spec).2.2 (by have := hmA.out; omega)
   have hws := wide_Sum_calls w2.drew A1 c1 (r1.take m) 0 _ rfl hCt (by rw [htlA.out]; have := hr1.out.2.1; have := hmA.out; omega) (hub.take m) (by decide) (by rw [htlA.out]; omega)
   rw [htlA.out, hyA.out] at hws
   refine hws.mono ?_
   clear hws hCt
   rintro e w3 ⟨rfl, hb3⟩
   refine ⟨_, rfl, ?_⟩
   have hS3 := Aside0.mk (hS2.out.drew.below hb3)
   clear hb3
   refine hK.out _ _ ((hS3.out.cell 0).trans rfl) (fun hHeld => ?_)
   clear hK K
   refine norm_ (a' := ?_) ?_ ?_
   rotate_left
   ·
    show Act.put _ (some 30) _ = _
    simp only [Act.put, List.setIfInBounds_toArray, List.set_cons_zero, List.set_cons_succ, i64_w, i32_w]
    rfl
   refine pure_ (i := 5) (N := some 31) (v := ?_) (a' := ?_) #[true, true, true, true, true, true] rfl rfl (by kernel_rfl) (fun _ _ _ h => h) (Or.inl ⟨by rfl, ?_⟩) ?_ ?_
   rotate_left
   ·
    intro w'
    go_simp
    with_reducible rfl
   rotate_left
   ·
    simp only [Act.put, List.setIfInBounds_toArray, List.set_cons_zero, List.set_cons_succ, i64_w, i32_w]
    rfl
   refine done_ (by kernel_rfl) ?_
   by_cases hzy : z = (y : Int)
   ·
    have hne : (z != (y : Int)) = false := by rw [hzy]; simp
    have hne2 : decide (z ≠ (y : Int)) = false := decide_eq_false (by simpa using hzy)
    go_wp2_with (fail)
    go_ret2
    rw [ho2.out, if_neg (by simpa using hzy)]
    refine ⟨A1, m, by rw [htlA.out]; rfl, ?_, by rw [htlA.out]; exact Nat.le_refl _, hS3.out.1⟩
    exact Kd.C_take (m := m) (Kd.R_reads' hS3.out.tail.row_R.choose_spec).2.2 (by have := hmA.out; omega)
   ·
    have hne : (z != (y : Int)) = true := bne_iff_ne.2 hzy
    have hne2 : decide (z ≠ (y : Int)) = true := decide_eq_true hzy
    go_wp2_with (fail)
    go_ret2
    rw [ho2.out, if_pos hzy]
    exact ⟨none, 0, rfl, Kd.C_nil _ _, Nat.le_refl _, hS3.out.1⟩
 ·
  have hx : (r2 != 0) = true := bne_iff_ne.2 c0
  have hx2 : decide (r2 ≠ 0) = true := decide_eq_true c0
  go_wp2_with (fail)
  go_ret2
  rw [hoA.out, if_pos c0]
  exact ⟨none, 0, rfl, Kd.C_nil _ _, Nat.le_refl _, hS1.out.1⟩
end Go.Proofs.Ytekanmieppnpeaa.G
end
section
namespace Go.Proofs.Ytekanmieppnpeaa.G
open Go Go.RowKit Go.Proofs.YtekanmieppnpeaaW.PrintWords Go.Proofs.YtekanmieppnpeaaW.PrintLast Go.Proofs.YtekanmieppnpeaaW.PrintMore Go.Proofs.Ytekanmieppnpeaa.PureKit Go.Proofs.Ytekanmieppnpeaa.Sep Go.Proofs.Ytekanmieppnpeaa.Rol Go.Proofs.Ytekanmieppnpeaa.LCobs
def unstc (b : List Int) : List Int × Int := if b.any (fun y => y == 0) = true then ([], 4) else if b = [] then ([], 2) else fin b (unl b.length [] b)
theorem unstc_eq (b : List Int) : unstc b = unst b := by
 unfold unstc unst
 by_cases h : NoZ b
 ·
  have h1 : ¬ b.any (fun y => y == 0) = true := by
   rw [List.any_eq_true]
   rintro ⟨y, hy, h2⟩
   exact h y hy (eq_of_beq h2)
  rw [if_neg h1, if_neg (show ¬ ¬ NoZ b from fun h2 => h2 h)]
 ·
  have h1 : b.any (fun y => y == 0) = true := by
   rw [List.any_eq_true]
   apply Classical.byContradiction
   intro h2
   exact h (fun y hy h3 => h2 ⟨y, hy, by rw [h3]; rfl⟩)
  rw [if_pos h1, if_pos h]
def opnbc (l : List Int) : List Int × Int :=
 if (unstc l).2 ≠ 0 then ([], (unstc l).2) else if (unstc l).1.length < 8 then ([], 2)
 else if lev ((unstc l).1.drop ((unstc l).1.length - 8)) ≠ ((wsum 0 ((unstc l).1.take ((unstc l).1.length - 8)) : Nat) : Int) then ([], 5) else ((unstc l).1.take ((unstc l).1.length - 8), 0)
theorem opnbc_eq (l : List Int) : opnbc l = opnb l := by
 unfold opnbc opnb
 rw [unstc_eq]
theorem opnb_small (l : List Int) (hb : Bytes l) : Bytes (opnb l).1 ∧ (opnb l).1.length ≤ l.length := by
 obtain ⟨h1, h2, _, _⟩ := unst_facts l hb
 unfold opnb
 split
 ·
  exact ⟨Bytes.nil, by simp⟩
 ·
  split
  ·
   exact ⟨Bytes.nil, by simp⟩
  ·
   split
   ·
    exact ⟨Bytes.nil, by simp⟩
   ·
    exact ⟨h1.take _, by rw [List.length_take]; omega⟩
end Go.Proofs.Ytekanmieppnpeaa.G
end
section
namespace Go.Proofs.Ytekanmieppnpeaa.G
open Go Go.RowKit Go.Proofs.YtekanmieppnpeaaW.PrintWords Go.Proofs.YtekanmieppnpeaaW.PrintLast Go.Proofs.YtekanmieppnpeaaW.PrintMore Go.Proofs.Ytekanmieppnpeaa.PureKit Go.Proofs.Ytekanmieppnpeaa.Sep Go.Proofs.Ytekanmieppnpeaa.Rol Go.Proofs.Ytekanmieppnpeaa.LCobs Go.Proofs.Ytekanmieppnpeaa.Tb Go.Proofs.Ytekanmieppnpeaa.Fe
set_option maxRecDepth 100000
theorem equal_loop (a b : List Int) (hl : a.length ≤ 1000000) (he : a.length = b.length) : ∀ (d i : Nat), i + d = a.length → Ev (fun k => slices_Equal_uint64_uint64.l0 k a b (a.length : Int) (i : Int)) (decide (a.drop i = b.drop i))
 | 0, i, h => by
  rw [List.drop_of_length_le (by omega), List.drop_of_length_le (by omega), decide_eq_true rfl]
  refine Ev.step (f := fun _ => some true) (fun k => ?_) (Ev.now _)
  unfold slices_Equal_uint64_uint64.l0
  rw [if_neg (by omega)]
 | d + 1, i, h => by
  have hi : i < a.length := by omega
  have hj : i < b.length := by omega
  rw [List.drop_eq_getElem_cons hi, List.drop_eq_getElem_cons hj]
  by_cases hq : a[i] = b[i]
  ·
   refine Ev.step (fun k => ?_) (Ev.eq (equal_loop a b hl he d (i + 1) (by omega)) (decide_eq_decide.2 (by rw [List.cons.injEq]; exact ⟨fun h => ⟨hq, h⟩, fun h => h.2⟩)))
   simp only [slices_Equal_uint64_uint64.l0]
   rw [if_pos (by omega), if_pos (by omega), if_pos (by omega), if_pos (by omega), rd_at a i hi, rd_at b i hj, if_pos hq, w64 (by omega) (by omega)]
   rfl
  ·
   rw [decide_eq_false (fun h => hq (List.cons.inj h).1)]
   refine Ev.step (f := fun _ => some false) (fun k => ?_) (Ev.now _)
   simp only [slices_Equal_uint64_uint64.l0]
   rw [if_pos (by omega), if_pos (by omega), if_pos (by omega), if_pos (by omega), rd_at a i hi, rd_at b i hj, if_neg hq]
theorem equal_ev (a b : List Int) (hl : a.length ≤ 1000000) : Ev (fun k => slices_Equal_uint64_uint64.f k a b) (decide (a = b)) := by
 by_cases he : a.length = b.length
 ·
  refine Ev.congr (fun k => ?_) (equal_loop a b hl he a.length 0 (by omega))
  unfold slices_Equal_uint64_uint64.f
  rw [if_pos (by omega)]
  rfl
 ·
  rw [decide_eq_false (fun h => he (congrArg List.length h))]
  refine Ev.congr (f := fun _ => some false) (fun k => ?_) (Ev.now _)
  unfold slices_Equal_uint64_uint64.f
  rw [if_neg (by omega)]
theorem footrun_len (b : List Int) : (footrun b).2.2.1.length ≤ b.length ∧ (footrun b).2.2.2.length ≤ b.length := by
 unfold footrun footrun2
 repeat' split
 all_goals first | (simp [ffail]; done) | (simp only [entsAt_len, fensAt_len]; omega)
def footgot (r : Int × Int × List E1 × List Int) : Int × List E1 × Int :=
 if r.1 ≠ 0 then (0, [], r.1) else if checkF r.2.1 r.2.2.1 ≠ 0 then (0, [], checkF r.2.1 r.2.2.1) else if r.2.2.2 = fencesE r.2.2.1 then (r.2.1, r.2.2.1, 0) else (0, [], 4)
def footget (l : List Int) : Int × List E1 × Int := if (opnbc l).2 ≠ 0 then (0, [], (opnbc l).2) else footgot (footrun (opnbc l).1)
theorem footget_eq (l : List Int) : footget l = if (opnb l).2 ≠ 0 then (0, [], (opnb l).2) else footgot (footrun (opnb l).1) := by
 unfold footget
 rw [opnbc_eq]
def footer_Get.f (l0 : List Int) : Option (Int × List (S33) × Int) := if wbytesOK l0 = true ∧ l0.length ≤ 90000 then some (footget l0) else none
abbrev gFoot (g : Nat) (u : Int) (v : Value) : HP := blk g #[.int .u32 u, v] 29
theorem foot_ret {w w3 : World} {g : Nat} {u : Int} {v : Value} {T : List E1} {E : Int} {ps : List HP} (h3 : Sep.Sep w w3 (gFoot g u v :: row k33 33 v T :: ps)) :
  ∃ v1_ : Value, Ending.returned (.tuple #[.agg #[.int .u32 u, v], .int .i64 E]) = Ending.returned (.tuple #[.agg #[.int .u32 u, v1_], .int .i64 E]) ∧ Kd.R k33 33 w3 w.heap.size (fun _ => True) v1_ T ∧ Below w.heap.size w w3 := by
 obtain ⟨hb, bs, ⟨b1, b2, e, hp, hs⟩, hn, hr⟩ := h3.tail
 refine ⟨v, rfl, ?_, hb⟩
 exact Kd.R_raise (b := 0) (fun _ _ _ _ hm => hm) (Kd.R_mono hp (fun _ _ => trivial)) (fun j hj => (hr j (by rw [e]; exact List.mem_append_left _ (hp.1 j hj))).1)
set_option maxHeartbeats 8000000 in
theorem footer_Get.calls (A0 : Option Addr) (c0 : Nat) (l0 : List Int) (r1 : Int) (r2 : List (S33)) (r3 : Int) (w : World) (hr0 : Kd.C (Kd.int .u8) w A0 l0.length l0) (hc0 : l0.length ≤ c0) (h : footer_Get.f l0 = some (r1, r2, r3)) :
  Calls Try.prog 35 #[.slice A0 l0.length c0] w fun e w' => ∃ v1_ : Value, e = .returned (.tuple #[.agg #[.int .u32 r1, v1_], .int .i64 r3]) ∧ Kd.R k33 33 w' w.heap.size (fun _ => True) v1_ r2 ∧ Below w.heap.size w w' := by
 have hu := Try.underlying29
 have hmf : ∀ (fn : Fn) (first cap : Array Value) (w : World), (Instr.makeFunc fn first cap).run Try.prog w = .ok (.func fn first cap) w := fun _ _ _ _ => rfl
 obtain ⟨hb, hl, hro⟩ : Bytes l0 ∧ l0.length ≤ 90000 ∧ footget l0 = (r1, r2, r3) := by
  unfold footer_Get.f at h
  split at h
  ·
   rename_i hh
   exact ⟨(wbytesOK_iff l0).1 hh.1, hh.2, Option.some.inj h⟩
  ·
   cases h
 clear h
 obtain ⟨hob, hol⟩ := opnb_small l0 hb
 have hop := fun W (hC : Kd.C (Kd.int .u8) W A0 l0.length l0) => frame_open W A0 c0 l0.length l0 rfl hC hc0 hb hl
 obtain ⟨b7, e7, hq⟩ : ∃ b7 e7, opnb l0 = (b7, e7) := ⟨_, _, rfl⟩
 rw [footget_eq] at hro
 rw [hq] at hro hob hol hop
 dsimp only at hro hob hol hop
 have hopA := Aside0.mk hop
 have hobA := Aside0.mk hob
 have holA := Aside0.mk (show b7.length ≤ 90000 by omega)
 have hR := Aside0.mk hr0
 have hS := Aside0.mk ((Sep.start w).alloc #[.int .u32 0, .slice none 0 0] 29)
 clear hr0 hop hq hob hol hl hb
 by_cases he : e7 = 0
 rotate_left
 ·
  rw [if_pos he] at hro
  have e1 : (e7 != 0) = true := bne_iff_ne.2 he
  obtain ⟨rfl, rfl, rfl⟩ : (0 : Int) = r1 ∧ ([] : List E1) = r2 ∧ e7 = r3 := by cases hro; exact ⟨rfl, rfl, rfl⟩
  clear hro
  go_enter Try.func35, Try.ntmps35
  go_wp2_with (fail)
  refine (hopA.out _ (Kd.C_alloc hR.out _)).mono ?_
  rintro e w1 ⟨A2, c2, rfl, hC2, hc2, hB2⟩
  have h2 := hS.out.below hB2
  have h2A := Aside0.mk h2
  have hd2_0 : w1.cell? ⟨w.heap.size, 0, none⟩ = some (.int .u32 0) := ((h2).cell 0).trans rfl; have hd2_1 : w1.cell? ⟨w.heap.size, 1, none⟩ = some (.slice none 0 0) := ((h2).cell 1).trans rfl
  have hz0 := h2.frozen 0
  have hz1 := h2.frozen 1
  clear h2 hC2 hc2 hB2
  go_wp2
  have h3 := (h2A.out.set 0 (.int .u32 0)).set 1 (.slice none 0 0)
  simp only [List.setIfInBounds_toArray, List.set_cons_zero, List.set_cons_succ] at h3
  try simp only [Exit.inBlock, Exit.then]
  refine bodyPost_ret (results_ct (P := Try.prog) Try.results35 _ _ w.heap.size 29 _ (0, 0) _ rfl h3.blk_at.1 hu rfl (by kernel_rfl)) rfl ?_
  exact foot_ret (h3.row_nil k33 33).pick1
 rw [if_neg (by rw [he]; decide)] at hro
 subst he
 have hrl := footrun_len b7
 go_enter Try.func35, Try.ntmps35
 go_wp2_with (fail)
 refine (hopA.out _ (Kd.C_alloc hR.out _)).mono ?_
 rintro e w1 ⟨A2, c2, rfl, hC2, hc2, hB2⟩
 have hS2 := ((hS.out.below hB2).alloc #[.int .u32 0, .slice none 0 0] 29).alloc #[.slice none 0 0] 31
 have hsz : ∀ (W : World) (o : Obj), (W.alloc o).heap.size = W.heap.size + 1 := fun W o => by show (W.heap.push _).size = _; simp
 rw [hsz] at hS2
 have hC3 := Aside0.mk (And.intro (Kd.C_alloc (Kd.C_alloc hC2 (.cells #[.int .u32 0, .slice none 0 0] 29 (0, 0))) (.cells #[.slice none 0 0] 31 (0, 0))) hc2)
 have hS2 := Aside0.mk hS2.pick1
 clear hC2 hc2 hB2 hS
 go_wp2_with (fail)
 obtain ⟨gf, hgf⟩ : ∃ gf, w1.heap.size = gf := ⟨_, rfl⟩
 rw [hgf] at hS2 ⊢
 refine (run_calls w _ A2 c2 b7 82 #[.pointer (some ⟨gf, 0, none⟩), .pointer (some ⟨gf + 1, 0, none⟩)] (capF gf (gf + 1) 0 none 0 0 none 0 0) [gFoot w.heap.size 0 (.slice none 0 0)] (fun at2 x qs => QF gf (gf + 1) b7 x qs)
  Try.call82 hS2.out hC3.out.1 hC3.out.2 (by have := holA.out; omega) (fun w1 g ps' h1 => clos_foot w w1 g gf (gf + 1) b7 ps' h1 hobA.out (by have := holA.out; omega))).mono ?_
 clear hC3 hS2 hgf
 rintro e w9 ⟨at2, x, qs, ⟨hx, hqs⟩, rfl, h9⟩
 obtain ⟨x2, u, T, F, hr⟩ : ∃ x2 u T F, footrun b7 = (x2, u, T, F) := ⟨_, _, _, _, rfl⟩
 rw [hr] at hro hx hqs hrl
 dsimp only at hx hqs hrl
 subst hx
 clear hr
 unfold footgot at hro
 dsimp only at hro
 by_cases hx0 : x = 0
 rotate_left
 ·
  rw [if_pos hx0] at hro
  obtain ⟨rfl, rfl, rfl⟩ : (0 : Int) = r1 ∧ ([] : List E1) = r2 ∧ x = r3 := by cases hro; exact ⟨rfl, rfl, rfl⟩
  have e1 : (x != 0) = true := bne_iff_ne.2 hx0
  have e2 : (x == 0) = false := beq_eq_false_iff_ne.2 hx0
  have e3 : decide (x = 0) = false := decide_eq_false hx0
  have h9X := Aside0.mk h9.dropR
  clear h9 hro hqs hx0 hrl
  have h2A := Aside0.mk h9X.out.drew
  go_wp2_with (fail)
  refine start_ (n := 10) (S := fun w' => True) (ds := []) #[false, false, false, false, false, false, false, false, false, false] (by kernel_rfl) rfl rfl trivial (fun hHeld => ?_)
  generalize w9.drew = wq at h2A hHeld ⊢
  refine pure_ (i := 0) (N := some 27) (v := ?_) (a' := ?_) #[true, false, false, false, false, false, false, false, false, false] rfl rfl (by kernel_rfl) (fun _ _ _ h => h) (Or.inl ⟨by rfl, ?_⟩) ?_ ?_
  rotate_left
  ·
   intro w'
   go_simp
   with_reducible rfl
  rotate_left
  ·
   simp only [Act.put, List.setIfInBounds_toArray, List.set_cons_zero, List.set_cons_succ, i64_w, i32_w]
   rfl
  refine pure_ (i := 1) (N := some 28) (v := ?_) (a' := ?_) #[true, true, false, false, false, false, false, false, false, false] rfl rfl (by kernel_rfl) (fun _ _ _ h => h) (Or.inl ⟨by rfl, ?_⟩) ?_ ?_
  rotate_left
  ·
   intro w'
   go_simp
   with_reducible rfl
  rotate_left
  ·
   simp only [Act.put, List.setIfInBounds_toArray, List.set_cons_zero, List.set_cons_succ, i64_w, i32_w]
   rfl
  refine pure_ (i := 2) (N := some 29) (v := ?_) (a' := ?_) #[true, true, true, false, false, false, false, false, false, false] rfl rfl (by kernel_rfl) (fun _ _ _ h => h) (Or.inl ⟨by rfl, ?_⟩) ?_ ?_
  rotate_left
  ·
   intro w'
   go_simp
   with_reducible rfl
  rotate_left
  ·
   simp only [Act.put, List.setIfInBounds_toArray, List.set_cons_zero, List.set_cons_succ, i64_w, i32_w]
   rfl
  refine pure_ (i := 3) (N := some 30) (v := undef) (a' := ?_) #[true, true, true, true, false, false, false, false, false, false] rfl rfl (by kernel_rfl) (fun _ _ _ h => h) (Or.inr ⟨by rfl, rfl⟩) ?_ ?_
  rotate_left
  ·
   simp only [Act.put, List.setIfInBounds_toArray, List.set_cons_zero, List.set_cons_succ, i64_w, i32_w]
   rfl
  refine pure_ (i := 4) (N := some 31) (v := undef) (a' := ?_) #[true, true, true, true, true, false, false, false, false, false] rfl rfl (by kernel_rfl) (fun _ _ _ h => h) (Or.inr ⟨by rfl, rfl⟩) ?_ ?_
  rotate_left
  ·
   simp only [Act.put, List.setIfInBounds_toArray, List.set_cons_zero, List.set_cons_succ, i64_w, i32_w]
   rfl
  refine pure_ (i := 5) (N := some 32) (v := undef) (a' := ?_) #[true, true, true, true, true, true, false, false, false, false] rfl rfl (by kernel_rfl) (fun _ _ _ h => h) (Or.inr ⟨by rfl, rfl⟩) ?_ ?_
  rotate_left
  ·
   simp only [Act.put, List.setIfInBounds_toArray, List.set_cons_zero, List.set_cons_succ, i64_w, i32_w]
   rfl
  refine pure_ (i := 6) (N := some 33) (v := undef) (a' := ?_) #[true, true, true, true, true, true, true, false, false, false] rfl rfl (by kernel_rfl) (fun _ _ _ h => h) (Or.inr ⟨by rfl, rfl⟩) ?_ ?_
  rotate_left
  ·
   simp only [Act.put, List.setIfInBounds_toArray, List.set_cons_zero, List.set_cons_succ, i64_w, i32_w]
   rfl
  refine pure_ (i := 7) (N := some 34) (v := undef) (a' := ?_) #[true, true, true, true, true, true, true, true, false, false] rfl rfl (by kernel_rfl) (fun _ _ _ h => h) (Or.inr ⟨by rfl, rfl⟩) ?_ ?_
  rotate_left
  ·
   simp only [Act.put, List.setIfInBounds_toArray, List.set_cons_zero, List.set_cons_succ, i64_w, i32_w]
   rfl
  refine pure_ (i := 8) (N := some 35) (v := undef) (a' := ?_) #[true, true, true, true, true, true, true, true, true, false] rfl rfl (by kernel_rfl) (fun _ _ _ h => h) (Or.inr ⟨by rfl, rfl⟩) ?_ ?_
  rotate_left
  ·
   simp only [Act.put, List.setIfInBounds_toArray, List.set_cons_zero, List.set_cons_succ, i64_w, i32_w]
   rfl
  refine pure_ (i := 9) (N := some 36) (v := ?_) (a' := ?_) #[true, true, true, true, true, true, true, true, true, true] rfl rfl (by kernel_rfl) (fun _ _ _ h => h) (Or.inl ⟨by rfl, ?_⟩) ?_ ?_
  rotate_left
  ·
   intro w'
   go_simp
   with_reducible rfl
  rotate_left
  ·
   simp only [Act.put, List.setIfInBounds_toArray, List.set_cons_zero, List.set_cons_succ, i64_w, i32_w]
   rfl
  refine done_ (by kernel_rfl) ?_
  have h2 := h2A.out
  have hd2_0 : wq.cell? ⟨w.heap.size, 0, none⟩ = some (.int .u32 0) := ((h2).cell 0).trans rfl; have hd2_1 : wq.cell? ⟨w.heap.size, 1, none⟩ = some (.slice none 0 0) := ((h2).cell 1).trans rfl
  have hz0 := h2.frozen 0
  have hz1 := h2.frozen 1
  clear h2 hHeld
  go_wp2_with (fail)
  have h3 := (h2A.out.set 0 (.int .u32 0)).set 1 (.slice none 0 0)
  simp only [List.setIfInBounds_toArray, List.set_cons_zero, List.set_cons_succ] at h3
  try simp only [Exit.inBlock, Exit.then]
  refine bodyPost_ret (results_ct (P := Try.prog) Try.results35 _ _ w.heap.size 29 _ (0, 0) _ rfl h3.blk_at.1 hu rfl (by kernel_rfl)) rfl ?_
  exact foot_ret (h3.row_nil k33 33).pick1
 rw [if_neg (by rw [hx0]; decide)] at hro
 subst hx0
 obtain ⟨A, n, c, B, m, d, rfl⟩ := hqs rfl
 clear hqs
 have h9 : Sep.Sep w w9 [gFoot gf u (.slice A n c), blk (gf + 1) #[.slice B m d] 31, row (Kd.int .u64) 30 (.slice B m d) F, row kE 33 (.slice A n c) T, gFoot w.heap.size 0 (.slice none 0 0)] := h9
 obtain ⟨rfl, hcc, hCC⟩ := row_C h9.pick3
 obtain ⟨rfl, hcd, -⟩ := row_C h9.pick2
 have hS9 := Aside0.mk h9
 have hlT := Aside0.mk (show T.length ≤ 1000000 ∧ F.length ≤ 1000000 by have := holA.out; omega)
 obtain ⟨E, hE⟩ : ∃ E, checkF u T = E := ⟨_, rfl⟩
 have hck := check_call w9 A c u T hCC hcc hlT.out.1
 rw [hE] at hck hro
 have hckA := Aside0.mk hck
 have hcf_0 : w9.cell? ⟨gf, 0, none⟩ = some (.int .u32 u) := ((h9).cell 0).trans rfl; have hcf_1 : w9.cell? ⟨gf, 1, none⟩ = some (.slice A T.length c) := ((h9).cell 1).trans rfl
 clear h9 hcc hCC hcd hck hE hrl
 go_wp2_with (fail)
 refine hckA.out.mono ?_
 rintro e w10 ⟨rfl, hb10⟩
 have hS10 := Aside0.mk (hS9.out.below hb10)
 clear hb10 hcf_0 hcf_1 hS9 hckA
 by_cases hE0 : E = 0
 rotate_left
 ·
  rw [if_pos hE0] at hro
  obtain ⟨rfl, rfl, rfl⟩ : (0 : Int) = r1 ∧ ([] : List E1) = r2 ∧ E = r3 := by cases hro; exact ⟨rfl, rfl, rfl⟩
  have e1 : (E != 0) = true := bne_iff_ne.2 hE0
  have e2 : (E == 0) = false := beq_eq_false_iff_ne.2 hE0
  have e3 : decide (E = 0) = false := decide_eq_false hE0
  have h9X := Aside0.mk hS10.out.tail.tail.tail.tail
  clear hS10 hro hE0
  have h2A := Aside0.mk h9X.out.drew
  go_wp2_with (fail)
  refine start_ (n := 10) (S := fun w' => True) (ds := []) #[false, false, false, false, false, false, false, false, false, false] (by kernel_rfl) rfl rfl trivial (fun hHeld => ?_)
  generalize w10.drew = wq at h2A hHeld ⊢
  refine pure_ (i := 0) (N := some 27) (v := ?_) (a' := ?_) #[true, false, false, false, false, false, false, false, false, false] rfl rfl (by kernel_rfl) (fun _ _ _ h => h) (Or.inl ⟨by rfl, ?_⟩) ?_ ?_
  rotate_left
  ·
   intro w'
   go_simp
   with_reducible rfl
  rotate_left
  ·
   simp only [Act.put, List.setIfInBounds_toArray, List.set_cons_zero, List.set_cons_succ, i64_w, i32_w]
   rfl
  refine pure_ (i := 1) (N := some 28) (v := ?_) (a' := ?_) #[true, true, false, false, false, false, false, false, false, false] rfl rfl (by kernel_rfl) (fun _ _ _ h => h) (Or.inl ⟨by rfl, ?_⟩) ?_ ?_
  rotate_left
  ·
   intro w'
   go_simp
   with_reducible rfl
  rotate_left
  ·
   simp only [Act.put, List.setIfInBounds_toArray, List.set_cons_zero, List.set_cons_succ, i64_w, i32_w]
   rfl
  refine pure_ (i := 2) (N := some 29) (v := ?_) (a' := ?_) #[true, true, true, false, false, false, false, false, false, false] rfl rfl (by kernel_rfl) (fun _ _ _ h => h) (Or.inl ⟨by rfl, ?_⟩) ?_ ?_
  rotate_left
  ·
   intro w'
   go_simp
   with_reducible rfl
  rotate_left
  ·
   simp only [Act.put, List.setIfInBounds_toArray, List.set_cons_zero, List.set_cons_succ, i64_w, i32_w]
   rfl
  refine pure_ (i := 3) (N := some 30) (v := undef) (a' := ?_) #[true, true, true, true, false, false, false, false, false, false] rfl rfl (by kernel_rfl) (fun _ _ _ h => h) (Or.inr ⟨by rfl, rfl⟩) ?_ ?_
  rotate_left
  ·
   simp only [Act.put, List.setIfInBounds_toArray, List.set_cons_zero, List.set_cons_succ, i64_w, i32_w]
   rfl
  refine pure_ (i := 4) (N := some 31) (v := undef) (a' := ?_) #[true, true, true, true, true, false, false, false, false, false] rfl rfl (by kernel_rfl) (fun _ _ _ h => h) (Or.inr ⟨by rfl, rfl⟩) ?_ ?_
  rotate_left
  ·
   simp only [Act.put, List.setIfInBounds_toArray, List.set_cons_zero, List.set_cons_succ, i64_w, i32_w]
   rfl
  refine pure_ (i := 5) (N := some 32) (v := undef) (a' := ?_) #[true, true, true, true, true, true, false, false, false, false] rfl rfl (by kernel_rfl) (fun _ _ _ h => h) (Or.inr ⟨by rfl, rfl⟩) ?_ ?_
  rotate_left
  ·
   simp only [Act.put, List.setIfInBounds_toArray, List.set_cons_zero, List.set_cons_succ, i64_w, i32_w]
   rfl
  refine pure_ (i := 6) (N := some 33) (v := undef) (a' := ?_) #[true, true, true, true, true, true, true, false, false, false] rfl rfl (by kernel_rfl) (fun _ _ _ h => h) (Or.inr ⟨by rfl, rfl⟩) ?_ ?_
  rotate_left
  ·
   simp only [Act.put, List.setIfInBounds_toArray, List.set_cons_zero, List.set_cons_succ, i64_w, i32_w]
   rfl
  refine pure_ (i := 7) (N := some 34) (v := undef) (a' := ?_) #[true, true, true, true, true, true, true, true, false, false] rfl rfl (by kernel_rfl) (fun _ _ _ h => h) (Or.inr ⟨by rfl, rfl⟩) ?_ ?_
  rotate_left
  ·
   simp only [Act.put, List.setIfInBounds_toArray, List.set_cons_zero, List.set_cons_succ, i64_w, i32_w]
   rfl
  refine pure_ (i := 8) (N := some 35) (v := undef) (a' := ?_) #[true, true, true, true, true, true, true, true, true, false] rfl rfl (by kernel_rfl) (fun _ _ _ h => h) (Or.inr ⟨by rfl, rfl⟩) ?_ ?_
  rotate_left
  ·
   simp only [Act.put, List.setIfInBounds_toArray, List.set_cons_zero, List.set_cons_succ, i64_w, i32_w]
   rfl
  refine pure_ (i := 9) (N := some 36) (v := ?_) (a' := ?_) #[true, true, true, true, true, true, true, true, true, true] rfl rfl (by kernel_rfl) (fun _ _ _ h => h) (Or.inl ⟨by rfl, ?_⟩) ?_ ?_
  rotate_left
  ·
   intro w'
   go_simp
   with_reducible rfl
  rotate_left
  ·
   simp only [Act.put, List.setIfInBounds_toArray, List.set_cons_zero, List.set_cons_succ, i64_w, i32_w]
   rfl
  refine done_ (by kernel_rfl) ?_
  have h2 := h2A.out
  have hd2_0 : wq.cell? ⟨w.heap.size, 0, none⟩ = some (.int .u32 0) := ((h2).cell 0).trans rfl; have hd2_1 : wq.cell? ⟨w.heap.size, 1, none⟩ = some (.slice none 0 0) := ((h2).cell 1).trans rfl
  have hz0 := h2.frozen 0
  have hz1 := h2.frozen 1
  clear h2 hHeld
  go_wp2_with (fail)
  have h3 := (h2A.out.set 0 (.int .u32 0)).set 1 (.slice none 0 0)
  simp only [List.setIfInBounds_toArray, List.set_cons_zero, List.set_cons_succ] at h3
  try simp only [Exit.inBlock, Exit.then]
  refine bodyPost_ret (results_ct (P := Try.prog) Try.results35 _ _ w.heap.size 29 _ (0, 0) _ rfl h3.blk_at.1 hu rfl (by kernel_rfl)) rfl ?_
  exact foot_ret (h3.row_nil k33 33).pick1
 rw [if_neg (by rw [hE0]; decide)] at hro
 subst hE0
 obtain ⟨ke, hke⟩ := (equal_ev F (fencesE T) hlT.out.2).rounds
 have hkeA := Aside0.mk hke
 have hof := Aside0.mk (fun W (hC : kE.C W A T.length T) hc => fence_Of A c T hlT.out.1 hc W hC)
 have hS := Aside0.mk hS10.out.drew
 clear hke hS10
 go_wp2_with (fail)
 generalize hEq : decide (F = fencesE T) = R at *
 have hRA := Aside0.mk hEq
 clear hEq
 refine start_ (n := 10) (S := fun w' => w'.cell? ⟨gf + 1, 0, none⟩ = some (.slice B F.length d) ∧ w'.cell? ⟨gf, 1, none⟩ = some (.slice A T.length c)) (ds := []) #[false, false, false, false, false, false, false, false, false, false] (by kernel_rfl) rfl rfl ⟨(hS.out.pick1.cell 0).trans rfl, (hS.out.cell 1).trans rfl⟩ (fun hHeld => ?_)
 generalize w10.drew = wq at hS hHeld ⊢
 refine pure_ (i := 0) (N := some 27) (v := ?_) (a' := ?_) #[true, false, false, false, false, false, false, false, false, false] rfl rfl (by kernel_rfl) (fun _ _ _ h => h) (Or.inl ⟨by rfl, ?_⟩) ?_ ?_
 rotate_left
 ·
  intro w'
  go_simp
  with_reducible rfl
 rotate_left
 ·
  simp only [Act.put, List.setIfInBounds_toArray, List.set_cons_zero, List.set_cons_succ, i64_w, i32_w]
  rfl
 refine pure_ (i := 1) (N := some 28) (v := ?_) (a' := ?_) #[true, true, false, false, false, false, false, false, false, false] rfl rfl (by kernel_rfl) (fun _ _ _ h => h) (Or.inl ⟨by rfl, ?_⟩) ?_ ?_
 rotate_left
 ·
  intro w'
  go_simp
  with_reducible rfl
 rotate_left
 ·
  simp only [Act.put, List.setIfInBounds_toArray, List.set_cons_zero, List.set_cons_succ, i64_w, i32_w]
  rfl
 refine pure_ (i := 2) (N := some 29) (v := ?_) (a' := ?_) #[true, true, true, false, false, false, false, false, false, false] rfl rfl (by kernel_rfl) (fun _ _ _ h => h) (Or.inl ⟨by rfl, ?_⟩) ?_ ?_
 rotate_left
 ·
  intro w'
  go_simp
  with_reducible rfl
 rotate_left
 ·
  simp only [Act.put, List.setIfInBounds_toArray, List.set_cons_zero, List.set_cons_succ, i64_w, i32_w]
  rfl
 refine pure_ (i := 4) (N := some 31) (v := ?_) (a' := ?_) #[true, true, true, false, true, false, false, false, false, false] rfl rfl (by kernel_rfl) (fun _ _ _ h => h) (Or.inl ⟨by rfl, ?_⟩) ?_ ?_
 rotate_left
 ·
  intro w'
  go_simp
  with_reducible rfl
 rotate_left
 ·
  simp only [Act.put, List.setIfInBounds_toArray, List.set_cons_zero, List.set_cons_succ, i64_w, i32_w]
  rfl
 refine take_ (i := 3) (N := some 30) (v := ?_) (a' := ?_) #[true, true, true, true, true, false, false, false, false, false] rfl rfl (by kernel_rfl) (fun _ _ _ h => h) (Or.inl ⟨by rfl, ?_⟩) hHeld ?_ ?_
 rotate_left
 ·
  rintro w' ⟨s0, s1⟩
  go_simp
  with_reducible rfl
 rotate_left
 ·
  simp only [Act.put, List.setIfInBounds_toArray, List.set_cons_zero, List.set_cons_succ, i64_w, i32_w]
  rfl
 refine take_ (i := 5) (N := some 32) (v := ?_) (a' := ?_) #[true, true, true, true, true, true, false, false, false, false] rfl rfl (by kernel_rfl) (fun _ _ _ h => h) (Or.inl ⟨by rfl, ?_⟩) hHeld ?_ ?_
 rotate_left
 ·
  rintro w' ⟨s0, s1⟩
  go_simp
  with_reducible rfl
 rotate_left
 ·
  simp only [Act.put, List.setIfInBounds_toArray, List.set_cons_zero, List.set_cons_succ, i64_w, i32_w]
  rfl
 refine one_ (i := 6) (N := some 33) #[true, true, true, true, true, true, true, false, false, false] rfl rfl (by kernel_rfl) (by decide) (fun K hK => ?_)
 refine goes_ Try.func45 (by kernel_rfl) rfl #[.slice A T.length c] (by rfl) rfl rfl (by (try simp only [List.map_toArray, List.map_cons, List.map_nil]); first | done | rfl) ?_
 refine (hof.out _ (row_C hS.out.pick3).2.2 (row_C hS.out.pick3).2.1).mono ?_
 rintro e wq ⟨v33, rfl, ho, hb⟩
 refine ⟨_, rfl, ?_⟩
 obtain ⟨A33, c33, rfl, hc33, hC33⟩ := Kd.R_reads ho
 have hC33 := Aside0.mk (And.intro hc33 hC33)
 have hS := Aside0.mk (hS.out.below hb)
 clear ho hb hc33
 refine hK.out _ _ ⟨(hS.out.pick1.cell 0).trans rfl, (hS.out.cell 1).trans rfl⟩ (fun hHeld => ?_)
 clear hK K
 refine norm_ (a' := ?_) ?_ ?_
 rotate_left
 ·
  show Act.put _ (some 33) _ = _
  simp only [Act.put, List.setIfInBounds_toArray, List.set_cons_zero, List.set_cons_succ, i64_w, i32_w]
  rfl
 refine one_ (i := 7) (N := some 34) #[true, true, true, true, true, true, true, true, false, false] rfl rfl (by kernel_rfl) (by decide) (fun K hK => ?_)
 refine goes_ Try.func86 (by kernel_rfl) rfl #[.slice B F.length d, .slice A33 (fencesE T).length c33] (by rfl) rfl rfl (by (try simp only [List.map_toArray, List.map_cons, List.map_nil]); first | done | rfl) ?_
 refine (slices_Equal_uint64_uint64.calls ke B d F A33 c33 (fencesE T) R _ (row_C hS.out.pick2).2.2 (row_C hS.out.pick2).2.1 hC33.out.2 hC33.out.1 hkeA.out).mono ?_
 rintro e wq ⟨rfl, hb⟩
 refine ⟨_, rfl, ?_⟩
 have hS := Aside0.mk (hS.out.below hb.below)
 clear hb
 refine hK.out _ _ ⟨(hS.out.pick1.cell 0).trans rfl, (hS.out.cell 1).trans rfl⟩ (fun hHeld => ?_)
 clear hK K
 refine norm_ (a' := ?_) ?_ ?_
 rotate_left
 ·
  show Act.put _ (some 34) _ = _
  simp only [Act.put, List.setIfInBounds_toArray, List.set_cons_zero, List.set_cons_succ, i64_w, i32_w]
  rfl
 refine pure_ (i := 8) (N := some 35) (v := ?_) (a' := ?_) #[true, true, true, true, true, true, true, true, true, false] rfl rfl (by kernel_rfl) (fun _ _ _ h => h) (Or.inl ⟨by rfl, ?_⟩) ?_ ?_
 rotate_left
 ·
  intro w'
  go_simp
  with_reducible rfl
 rotate_left
 ·
  simp only [Act.put, List.setIfInBounds_toArray, List.set_cons_zero, List.set_cons_succ, i64_w, i32_w]
  rfl
 refine pure_ (i := 9) (N := some 36) (v := ?_) (a' := ?_) #[true, true, true, true, true, true, true, true, true, true] rfl rfl (by kernel_rfl) (fun _ _ _ h => h) (Or.inl ⟨by rfl, ?_⟩) ?_ ?_
 rotate_left
 ·
  intro w'
  go_simp
  with_reducible rfl
 rotate_left
 ·
  simp only [Act.put, List.setIfInBounds_toArray, List.set_cons_zero, List.set_cons_succ, i64_w, i32_w]
  rfl
 refine done_ (by kernel_rfl) ?_
 have hq := hS.out
 have h2 := hq.pick4
 have hcf_0 : wq.cell? ⟨gf, 0, none⟩ = some (.int .u32 u) := ((hq).cell 0).trans rfl; have hcf_1 : wq.cell? ⟨gf, 1, none⟩ = some (.slice A T.length c) := ((hq).cell 1).trans rfl
 have hd2_0 : wq.cell? ⟨w.heap.size, 0, none⟩ = some (.int .u32 0) := ((h2).cell 0).trans rfl; have hd2_1 : wq.cell? ⟨w.heap.size, 1, none⟩ = some (.slice none 0 0) := ((h2).cell 1).trans rfl
 have hz0 := h2.frozen 0
 have hz1 := h2.frozen 1
 clear hq h2 hHeld hof hkeA
 cases R with
 | true =>
  rw [if_pos (of_decide_eq_true hRA.out)] at hro
  obtain ⟨rfl, rfl, rfl⟩ : u = r1 ∧ T = r2 ∧ (0 : Int) = r3 := by cases hro; exact ⟨rfl, rfl, rfl⟩
  clear hro
  go_wp2_with (fail)
  have h3 := (hS.out.pick4.set 0 (.int .u32 u)).set 1 (.slice A T.length c)
  simp only [List.setIfInBounds_toArray, List.set_cons_zero, List.set_cons_succ] at h3
  try simp only [Exit.inBlock, Exit.then]
  refine bodyPost_ret (results_ct (P := Try.prog) Try.results35 _ _ w.heap.size 29 _ (0, 0) _ rfl h3.blk_at.1 hu rfl (by kernel_rfl)) rfl ?_
  exact foot_ret h3.pick4.pick1
 | false =>
  rw [if_neg (of_decide_eq_false hRA.out)] at hro
  obtain ⟨rfl, rfl, rfl⟩ : (0 : Int) = r1 ∧ ([] : List E1) = r2 ∧ (4 : Int) = r3 := by cases hro; exact ⟨rfl, rfl, rfl⟩
  clear hro
  go_wp2_with (fail)
  have h3 := (hS.out.pick4.set 0 (.int .u32 0)).set 1 (.slice none 0 0)
  simp only [List.setIfInBounds_toArray, List.set_cons_zero, List.set_cons_succ] at h3
  try simp only [Exit.inBlock, Exit.then]
  refine bodyPost_ret (results_ct (P := Try.prog) Try.results35 _ _ w.heap.size 29 _ (0, 0) _ rfl h3.blk_at.1 hu rfl (by kernel_rfl)) rfl ?_
  exact foot_ret (h3.row_nil k33 33).pick1
end Go.Proofs.Ytekanmieppnpeaa.G
end
