/- HRun HRun2 HBlk HCurFour, in one text (merge.py). -/
import Derived.Test.YtekanmieppnpeaaMCur
import Derived.Defers
import Derived.Recover
import Derived.Laws.Pointers
import Derived.LaidEqlPtr
import Derived.Test.YtekanmieppnpeaaHSep
import Derived.Test.YtekanmieppnpeaaHBytes
/- cursor.Run: a reading. -/
set_option linter.unusedVariables false
set_option linter.unusedSimpArgs false
namespace Go.Proofs.Ytekanmieppnpeaa.Sep
open Go Go.RowKit Go.Proofs.YtekanmieppnpeaaW.PrintWords Go.Proofs.YtekanmieppnpeaaW.PrintLast Go.Proofs.YtekanmieppnpeaaW.PrintMore Go.Proofs.Ytekanmieppnpeaa.PureKit

theorem run_neq_ptr_same {P : Program} (w : World) {tp te : TypeId} {j : TypeInfo} (a : Addr) (hp : P.underlying tp = some (.pointer te)) (hte : P.info? te = some j) :
    (binOp .neq tp (.pointer (some a)) (.pointer (some a))).run P w = .ok (.bool false) w := by
  have h : ∀ d : Nat, (Op.equalIn (d + 1) tp (.pointer (some a)) (.pointer (some a))).run P w = .ok true w := fun d => by
    simp [Op.equalIn, run_underlying hp, sizeOf, typeInfo, hte, run_sameAddr_same]
  simp only [binOp]
  simp [Op.equal, Op.maxDepth, h 9999]

set_option maxHeartbeats 400000 in
set_option maxRecDepth 100000 in
theorem run_catch_idle (w0 w : World) (gc ga ge g at_ : Nat) (a0 e0 : Int) (l : List Int) (ps : List HP)
    (hs : Sep w0 w (cur g l at_ true :: blk gc #[.pointer (some ⟨g, 0, none⟩)] 93 :: blk ga #[.int .i64 a0] 3 :: blk ge #[.int .i64 e0] 36 :: ps)) :
    CallsD Try.prog 112 #[.pointer (some ⟨gc, 0, none⟩), .pointer (some ⟨ga, 0, none⟩), .pointer (some ⟨ge, 0, none⟩)] .returning w fun e u' w' =>
      e = .returned (.tuple #[]) ∧ u' = .returning ∧ Sep w0 w' (cur g l at_ false :: blk gc #[.pointer (some ⟨g, 0, none⟩)] 93 :: blk ga #[.int .i64 at_] 3 :: blk ge #[.int .i64 e0] 36 :: ps) := by
  have hS := Aside0.mk hs
  have h2 := hs.perm (List.Perm.swap _ _ _)
  have hcc : w.cell? ⟨gc, 0, none⟩ = some (.pointer (some ⟨g, 0, none⟩)) := (h2.cell 0).trans rfl
  obtain ⟨A, c, hO⟩ := Sep.cur_open hs
  have hc2 : w.cell? ⟨g, 2, none⟩ = some (.bool true) := (hO.cell 2).trans rfl
  have hz2 := hO.frozen 2
  have hO := Aside0.mk hO
  clear h2 hs
  refine callsD_of_wpS Try.func112 rfl fun c₀ cs hu => ?_
  apply wpS_seq
  refine wpS_of_wp ?_
  rw [show ∀ (x y z : Value), #[x, y, z] ++ Array.replicate (Try.f112.ntmps - #[x, y, z].size) undef = #[x, y, z, undef, undef, undef, undef, undef, undef, undef, undef, undef, undef, undef, undef, undef, undef, undef, undef, undef, undef, undef, undef, undef, undef, undef, undef] from fun x y z => by kernel_rfl]
  go_wp2
  simp only [Exit.thenS]
  have hS1 : Sep w0 (w.setCell ⟨g, 2, none⟩ (.bool false)) (cur g l at_ false :: blk gc #[.pointer (some ⟨g, 0, none⟩)] 93 :: blk ga #[.int .i64 a0] 3 :: blk ge #[.int .i64 e0] 36 :: ps) := by
    refine Sep.cur_close (A := A) (c := c) ?_
    have := hO.out.set 2 (.bool false)
    simpa using this
  clear hcc hc2 hz2 hO
  generalize w.setCell ⟨g, 2, none⟩ (.bool false) = w1 at hS1 ⊢
  have hcc : w1.cell? ⟨gc, 0, none⟩ = some (.pointer (some ⟨g, 0, none⟩)) := ((hS1.perm (List.Perm.swap _ _ _)).cell 0).trans rfl
  obtain ⟨A, c, hO⟩ := Sep.cur_open hS1
  have hc1 : w1.cell? ⟨g, 1, none⟩ = some (.int .i64 at_) := (hO.cell 1).trans rfl
  have hga := hS1.perm ((List.Perm.cons _ (List.Perm.swap _ _ _)).trans (List.Perm.swap _ _ _))
  have hca : w1.cell? ⟨ga, 0, none⟩ = some (.int .i64 a0) := (hga.cell 0).trans rfl
  have hza := hga.frozen 0
  have hga := Aside0.mk hga
  clear hO
  apply wpS_seq
  refine wpS_of_wp ?_
  go_wp2
  simp only [Exit.thenS]
  have hS2 : Sep w0 (w1.setCell ⟨ga, 0, none⟩ (.int .i64 at_)) (cur g l at_ false :: blk gc #[.pointer (some ⟨g, 0, none⟩)] 93 :: blk ga #[.int .i64 at_] 3 :: blk ge #[.int .i64 e0] 36 :: ps) := by
    have := hga.out.set 0 (.int .i64 at_)
    have := this.perm ((List.Perm.swap _ _ _).trans (List.Perm.cons _ (List.Perm.swap _ _ _)))
    simpa using this
  clear hcc hc1 hca hza hga
  generalize w1.setCell ⟨ga, 0, none⟩ (.int .i64 at_) = w2 at hS2 ⊢
  have hS2 := Aside0.mk hS2
  apply wpS_seq
  apply wpS_region
  simp [wpOpsS, go_sem, recoverD, hu, Exit.thenS]
  refine wpS_of_wp ?_
  go_wp2
  have hS3 := hS2.out
  clear hS2 hS
  generalize hps : (cur g l at_ false :: blk gc #[.pointer (some ⟨g, 0, none⟩)] 93 :: blk ga #[.int .i64 at_] 3 :: blk ge #[.int .i64 e0] 36 :: ps) = qs at hS3 ⊢
  clear hps
  cases c₀
  simp_all [bodyPostS, results, Try.results112]

set_option maxHeartbeats 400000 in
set_option maxRecDepth 100000 in
theorem run_catch_fault (w0 w : World) (gc ga ge g at_ : Nat) (a0 e0 x : Int) (older : List PanicEntry) (l : List Int) (ps : List HP)
    (hs : Sep w0 w (cur g l at_ true :: blk gc #[.pointer (some ⟨g, 0, none⟩)] 93 :: blk ga #[.int .i64 a0] 3 :: blk ge #[.int .i64 e0] 36 :: ps)) :
    CallsD Try.prog 112 #[.pointer (some ⟨gc, 0, none⟩), .pointer (some ⟨ga, 0, none⟩), .pointer (some ⟨ge, 0, none⟩)] (.panicking (fault g x :: older)) w fun e u' w' =>
      e = .returned (.tuple #[]) ∧ u' = .panicking ({ v := (fault g x).v, recovered := true } :: older) ∧ Sep w0 w' (cur g l at_ false :: blk gc #[.pointer (some ⟨g, 0, none⟩)] 93 :: blk ga #[.int .i64 at_] 3 :: blk ge #[.int .i64 x] 36 :: ps) := by
  have hS := Aside0.mk hs
  have h2 := hs.perm (List.Perm.swap _ _ _)
  have hcc : w.cell? ⟨gc, 0, none⟩ = some (.pointer (some ⟨g, 0, none⟩)) := (h2.cell 0).trans rfl
  obtain ⟨A, c, hO⟩ := Sep.cur_open hs
  have hc2 : w.cell? ⟨g, 2, none⟩ = some (.bool true) := (hO.cell 2).trans rfl
  have hz2 := hO.frozen 2
  have hO := Aside0.mk hO
  clear h2 hs
  refine callsD_of_wpS Try.func112 rfl fun c₀ cs hu => ?_
  apply wpS_seq
  refine wpS_of_wp ?_
  rw [show ∀ (x y z : Value), #[x, y, z] ++ Array.replicate (Try.f112.ntmps - #[x, y, z].size) undef = #[x, y, z, undef, undef, undef, undef, undef, undef, undef, undef, undef, undef, undef, undef, undef, undef, undef, undef, undef, undef, undef, undef, undef, undef, undef, undef] from fun x y z => by kernel_rfl]
  go_wp2
  simp only [Exit.thenS]
  have hS1 : Sep w0 (w.setCell ⟨g, 2, none⟩ (.bool false)) (cur g l at_ false :: blk gc #[.pointer (some ⟨g, 0, none⟩)] 93 :: blk ga #[.int .i64 a0] 3 :: blk ge #[.int .i64 e0] 36 :: ps) := by
    refine Sep.cur_close (A := A) (c := c) ?_
    have := hO.out.set 2 (.bool false)
    simpa using this
  clear hcc hc2 hz2 hO
  generalize w.setCell ⟨g, 2, none⟩ (.bool false) = w1 at hS1 ⊢
  have hcc : w1.cell? ⟨gc, 0, none⟩ = some (.pointer (some ⟨g, 0, none⟩)) := ((hS1.perm (List.Perm.swap _ _ _)).cell 0).trans rfl
  obtain ⟨A, c, hO⟩ := Sep.cur_open hS1
  have hc1 : w1.cell? ⟨g, 1, none⟩ = some (.int .i64 at_) := (hO.cell 1).trans rfl
  have hga := hS1.perm ((List.Perm.cons _ (List.Perm.swap _ _ _)).trans (List.Perm.swap _ _ _))
  have hca : w1.cell? ⟨ga, 0, none⟩ = some (.int .i64 a0) := (hga.cell 0).trans rfl
  have hza := hga.frozen 0
  have hga := Aside0.mk hga
  clear hO
  apply wpS_seq
  refine wpS_of_wp ?_
  go_wp2
  simp only [Exit.thenS]
  have hS2 : Sep w0 (w1.setCell ⟨ga, 0, none⟩ (.int .i64 at_)) (cur g l at_ false :: blk gc #[.pointer (some ⟨g, 0, none⟩)] 93 :: blk ga #[.int .i64 at_] 3 :: blk ge #[.int .i64 e0] 36 :: ps) := by
    have := hga.out.set 0 (.int .i64 at_)
    have := this.perm ((List.Perm.swap _ _ _).trans (List.Perm.cons _ (List.Perm.swap _ _ _)))
    simpa using this
  clear hcc hc1 hca hza hga
  generalize w1.setCell ⟨ga, 0, none⟩ (.int .i64 at_) = w2 at hS2 ⊢
  have hS2 := Aside0.mk hS2
  apply wpS_seq
  apply wpS_region
  have hcc : w2.cell? ⟨gc, 0, none⟩ = some (.pointer (some ⟨g, 0, none⟩)) := ((hS2.out.perm (List.Perm.swap _ _ _)).cell 0).trans rfl
  simp [wpOpsS, go_sem, recoverD, hu, Exit.thenS, fault]
  have hta : ∀ (v : Value) (W : World), (Instr.typeAssert (.iface 151 v) 20 151 true).run Try.prog W = .ok (.tuple #[v, .bool true]) W := fun v W => by rfl
  have hA := hS2.out.alloc #[.pointer (some ⟨g, 0, none⟩), .int .i64 x] 151
  clear hcc
  have hcc : (w2.alloc (.cells #[.pointer (some ⟨g, 0, none⟩), .int .i64 x] 151 (0, 0))).cell? ⟨gc, 0, none⟩ = some (.pointer (some ⟨g, 0, none⟩)) := ((hA.tail.perm (List.Perm.swap _ _ _)).cell 0).trans rfl
  have hce : (w2.alloc (.cells #[.pointer (some ⟨g, 0, none⟩), .int .i64 x] 151 (0, 0))).cell? ⟨ge, 0, none⟩ = some (.int .i64 e0) := (hA.tail.tail.tail.tail.cell 0).trans rfl
  have hze := hA.tail.tail.tail.tail.frozen 0
  have hE := Aside0.mk ((hA.tail.perm (List.perm_middle (l₁ := [cur g l at_ false, blk gc #[.pointer (some ⟨g, 0, none⟩)] 93, blk ga #[.int .i64 at_] 3]) (a := blk ge #[.int .i64 e0] 36) (l₂ := ps))).set 0 (.int .i64 x))
  clear hA
  obtain ⟨j_, hj_⟩ : ∃ j, Try.prog.info? 149 = some j := Option.isSome_iff_exists.mp (by kernel_rfl)
  have hne := fun W => run_neq_ptr_same (P := Try.prog) W ⟨g, 0, none⟩ Try.underlying93 hj_
  refine wpS_of_wp ?_
  go_wp2
  have hS3 : Sep w0 ((w2.alloc (.cells #[.pointer (some ⟨g, 0, none⟩), .int .i64 x] 151 (0, 0))).setCell ⟨ge, 0, none⟩ (.int .i64 x)) (cur g l at_ false :: blk gc #[.pointer (some ⟨g, 0, none⟩)] 93 :: blk ga #[.int .i64 at_] 3 :: blk ge #[.int .i64 x] 36 :: ps) := by
    have h9 : Sep w0 _ (blk ge #[.int .i64 x] 36 :: ([cur g l at_ false, blk gc #[.pointer (some ⟨g, 0, none⟩)] 93, blk ga #[.int .i64 at_] 3] ++ ps)) := hE.out
    exact h9.perm (List.perm_middle (l₁ := [cur g l at_ false, blk gc #[.pointer (some ⟨g, 0, none⟩)] 93, blk ga #[.int .i64 at_] 3]) (a := blk ge #[.int .i64 x] 36) (l₂ := ps)).symm
  clear hE hS2 hS hcc hce hze hne hta
  generalize (cur g l at_ false :: blk gc #[.pointer (some ⟨g, 0, none⟩)] 93 :: blk ga #[.int .i64 at_] 3 :: blk ge #[.int .i64 x] 36 :: ps) = qs at hS3 ⊢
  generalize (w2.alloc (.cells #[.pointer (some ⟨g, 0, none⟩), .int .i64 x] 151 (0, 0))).setCell ⟨ge, 0, none⟩ (.int .i64 x) = w3 at hS3 ⊢
  cases c₀
  simp_all [bodyPostS, results, Try.results112]

end Go.Proofs.Ytekanmieppnpeaa.Sep

/- cursor.Run: the reading itself. -/
set_option linter.unusedVariables false
set_option linter.unusedSimpArgs false
namespace Go.Proofs.Ytekanmieppnpeaa.Sep
open Go Go.RowKit Go.Proofs.YtekanmieppnpeaaW.PrintWords Go.Proofs.YtekanmieppnpeaaW.PrintLast Go.Proofs.YtekanmieppnpeaaW.PrintMore Go.Proofs.Ytekanmieppnpeaa.PureKit

set_option maxHeartbeats 400000 in
set_option maxRecDepth 100000 in
theorem run_calls (w0 w : World) (A : Option Addr) (c : Nat) (l : List Int) (fid : FuncId) (caps : Array Value) (R ps : List HP) (Q : Nat → Int → List HP → Prop)
    (hent : ∀ (args : Array Value) (w : World), (callFunc fid args).run Try.prog w = .ok (.enter fid args) w)
    (hs : Sep w0 w (R ++ ps)) (hr : Kd.C (Kd.int .u8) w A l.length l) (hc : l.length ≤ c) (hl : l.length ≤ 1000000000000)
    (hcl : ∀ (w1 : World) (g : Nat) (ps' : List HP), Sep w0 w1 (cur g l 0 true :: (R ++ ps')) → Calls Try.prog fid (#[.pointer (some ⟨g, 0, none⟩)] ++ caps) w1 fun e w2 =>
      ∃ (at2 : Nat) (x : Int) (qs : List HP), Q at2 x qs ∧ Sep w0 w2 (cur g l at2 true :: (qs ++ ps')) ∧ ((e = .returned (.tuple #[]) ∧ x = 0) ∨ e = .panicked [fault g x])) :
    Calls Try.prog 51 #[.slice A l.length c, .func (.func fid) #[] caps] w fun e w' =>
      ∃ (at2 : Nat) (x : Int) (qs : List HP), Q at2 x qs ∧ e = .returned (.tuple #[.int .i64 at2, .int .i64 x]) ∧ Sep w0 w' (qs ++ ps) := by
  have hmf : ∀ (fn : Fn) (first cap : Array Value) (w : World), (Instr.makeFunc fn first cap).run Try.prog w = .ok (.func fn first cap) w := fun _ _ _ _ => rfl
  have hnf : ∀ (W : World), (binOp .eql 95 (.func (.func fid) #[] caps) .nilFunc).run Try.prog W = .ok (.bool false) W := fun _ => by rfl
  have hS := Aside0.mk hs
  have hR := Aside0.mk hr
  have hCL := Aside0.mk hcl
  have hB := Aside0.mk hs.1
  have hsz : ∀ (W : World) (o : Obj), (W.alloc o).heap.size = W.heap.size + 1 := fun W o => by show (W.heap.push _).size = _; simp
  have hS2 := (hs.alloc #[.int .i64 0] 3).alloc #[.int .i64 0] 36
  rw [hsz] at hS2
  have hS2 := Aside0.mk hS2
  clear hs hr hcl
  go_enter_defers Try.func51, Try.ntmps51
  go_wp2_with (first | ((with_reducible refine gate_callee (f := 111) rfl ?_); refine goesL_ (some 10) rfl rfl Try.func111 (by kernel_rfl) rfl #[.slice A l.length c] rfl (by (try simp only [List.map_toArray, List.map_cons, List.map_nil]); first | done | rfl) ?_; (refine (G.bytes_Clone.calls A c l l _ (Kd.C_alloc (Kd.C_alloc hR.out _) _) hc (by unfold G.bytes_Clone.f; exact if_pos (by omega)) rfl).mono ?_); rintro e w1 ⟨v1, rfl, ho, hb⟩; refine ⟨_, rfl, ?_⟩; have hS3 := Aside0.mk (Sep.row_new hS2.out hb ho); obtain ⟨A1, c1, e1⟩ := Kd.R_slice ho; subst e1; clear ho hb))
  have hS4 := (hS3.out.alloc #[.slice A1 l.length c1, .int .i64 0, .bool true] 149).alloc #[.pointer (some ⟨w1.heap.size, 0, none⟩)] 93
  rw [hsz] at hS4
  have hS5 := Sep.cur_close (at_ := 0) (live := true) hS4.put2
  have hS6 : Sep w0 _ (cur w1.heap.size l 0 true :: (R ++ (blk (w1.heap.size + 1) #[.pointer (some ⟨w1.heap.size, 0, none⟩)] 93 :: blk (w.heap.size + 1) #[.int .i64 0] 36 :: blk w.heap.size #[.int .i64 0] 3 :: ps))) := hS5.perm (List.Perm.cons _ (List.perm_append_comm_assoc [_, _, _] R ps))
  clear hS4 hS5
  refine (hCL.out _ w1.heap.size _ hS6).mono ?_
  clear hS6 hS3
  rintro e w2 ⟨at2, x, qs, hQ, h2, hor⟩
  have h3 : Sep w0 w2 (cur w1.heap.size l at2 true :: blk (w1.heap.size + 1) #[.pointer (some ⟨w1.heap.size, 0, none⟩)] 93 :: blk w.heap.size #[.int .i64 0] 3 :: blk (w.heap.size + 1) #[.int .i64 0] 36 :: (qs ++ ps)) :=
    (h2.perm (List.Perm.cons _ (List.perm_append_comm_assoc qs [_, _, _] ps))).perm (List.Perm.cons _ (List.Perm.cons _ (List.Perm.swap _ _ _)))
  have hQ := Aside0.mk hQ
  clear h2 hS hR hCL hB hS2 hc
  rcases hor with ⟨rfl, rfl⟩ | rfl
  · obtain ⟨A2, c2, hO⟩ := Sep.cur_open h3
    have hcg : w2.cell? ⟨w1.heap.size + 1, 0, none⟩ = some (.pointer (some ⟨w1.heap.size, 0, none⟩)) := ((h3.pick1).cell 0).trans rfl
    have hc1 : w2.cell? ⟨w1.heap.size, 1, none⟩ = some (.int .i64 at2) := (hO.cell 1).trans rfl
    have hca : w2.cell? ⟨w.heap.size, 0, none⟩ = some (.int .i64 0) := ((h3.pick2).cell 0).trans rfl
    have hza := (h3.pick2).frozen 0
    have hce : w2.cell? ⟨w.heap.size + 1, 0, none⟩ = some (.int .i64 0) := ((h3.pick3).cell 0).trans rfl
    have hze := (h3.pick3).frozen 0
    have h3 := Aside0.mk h3
    clear hO
    go_wp2
    have h4 : Sep w0 ((w2.setCell ⟨w.heap.size, 0, none⟩ (.int .i64 at2)).setCell ⟨w.heap.size + 1, 0, none⟩ (.int .i64 0)) (cur w1.heap.size l at2 true :: blk (w1.heap.size + 1) #[.pointer (some ⟨w1.heap.size, 0, none⟩)] 93 :: blk w.heap.size #[.int .i64 at2] 3 :: blk (w.heap.size + 1) #[.int .i64 0] 36 :: (qs ++ ps)) := by
      have h5 := h3.out.pick2.set 0 (.int .i64 at2)
      have h6 := h5.put2.pick3.set 0 (.int .i64 0)
      have h7 := h6.put3
      simpa using h7
    clear h3 hcg hc1 hca hza hce hze
    generalize ((w2.setCell ⟨w.heap.size, 0, none⟩ (.int .i64 at2)).setCell ⟨w.heap.size + 1, 0, none⟩ (.int .i64 0)) = w3 at h4 ⊢
    show Leaves _ _ _ _ _ _ _
    refine leaves_cons (f := 112) (args := _) (by simp) (by rfl) ?_
    refine (run_catch_idle w0 _ (w1.heap.size + 1) w.heap.size (w.heap.size + 1) w1.heap.size at2 at2 0 l _ h4).mono ?_
    rintro e u' w4 ⟨rfl, rfl, h5⟩
    have hca : w4.cell? ⟨w.heap.size, 0, none⟩ = some (.int .i64 at2) := ((h5.pick2).cell 0).trans rfl
    have hce : w4.cell? ⟨w.heap.size + 1, 0, none⟩ = some (.int .i64 0) := ((h5.pick3).cell 0).trans rfl
    have hout : Sep w0 w4 (qs ++ ps) := h5.tail.tail.tail.tail
    show Leaves _ _ _ _ [] .returning w4
    refine ⟨.tuple #[.int .i64 at2, .int .i64 0], ?_, at2, 0, qs, hQ.out, rfl, hout⟩
    simp [results, Try.results51, asAddr, loadVar, isAgg, underlying, Try.underlying3, Try.underlying36, Result.andThen, hca, hce]
  · have h3 := Aside0.mk h3
    show Leaves _ _ _ _ _ _ _
    refine leaves_cons (f := 112) (args := _) (by simp) (by rfl) ?_
    refine (run_catch_fault w0 _ (w1.heap.size + 1) w.heap.size (w.heap.size + 1) w1.heap.size at2 0 0 x [] l _ h3.out).mono ?_
    rintro e u' w4 ⟨rfl, rfl, h5⟩
    have hca : w4.cell? ⟨w.heap.size, 0, none⟩ = some (.int .i64 at2) := ((h5.pick2).cell 0).trans rfl
    have hce : w4.cell? ⟨w.heap.size + 1, 0, none⟩ = some (.int .i64 x) := ((h5.pick3).cell 0).trans rfl
    have hout : Sep w0 w4 (qs ++ ps) := h5.tail.tail.tail.tail
    show Leaves _ _ _ _ [] .returning w4
    refine ⟨.tuple #[.int .i64 at2, .int .i64 x], ?_, at2, x, qs, hQ.out, rfl, hout⟩
    simp [results, Try.results51, asAddr, loadVar, isAgg, underlying, Try.underlying3, Try.underlying36, Result.andThen, hca, hce]

end Go.Proofs.Ytekanmieppnpeaa.Sep

/- A block of numbers, read as a row. -/
set_option linter.unusedVariables false
set_option linter.unusedSimpArgs false
namespace Go.Proofs.Ytekanmieppnpeaa.Sep
open Go Go.RowKit Go.Proofs.YtekanmieppnpeaaW.PrintWords Go.Proofs.YtekanmieppnpeaaW.PrintLast Go.Proofs.YtekanmieppnpeaaW.PrintMore

theorem blk_C {k : IntKind} {w0 W : World} {g : Nat} {cs : Array Value} {T : TypeId} {ps : List HP} (l : List Int) (h : Sep w0 W (blk g cs T :: ps)) (hc : cs = (l.map (Value.int k)).toArray) (hl : l.length ≤ 9223372036854775807) :
    Kd.C (Kd.int k) W (some ⟨g, 0, none⟩) l.length l := by
  refine ⟨rfl, hl, fun _ => ⟨_, rfl, fun j p hj => ⟨[.int k p], rfl, rfl, fun i u hu => ?_⟩⟩⟩
  have hi : i = 0 := by
    rcases i with _ | i
    · rfl
    · simp at hu
  subst hi
  simp only [List.getElem?_cons_zero, Option.some.injEq] at hu
  subst hu
  have ha : (⟨g, 0, none⟩ : Addr).add (j * 1 + 0) = ⟨g, j, none⟩ := by unfold Addr.add; split <;> simp_all
  show World.cell? _ ((⟨g, 0, none⟩ : Addr).add (j * 1 + 0)) = _
  rw [ha, h.cell j, hc]
  simp [hj]

end Go.Proofs.Ytekanmieppnpeaa.Sep

/- cursor.Cursor: Four, Eight. -/
set_option linter.unusedVariables false
set_option linter.unusedSimpArgs false
namespace Go.Proofs.Ytekanmieppnpeaa.Sep
open Go Go.RowKit Go.Proofs.YtekanmieppnpeaaW.PrintWords Go.Proofs.YtekanmieppnpeaaW.PrintLast Go.Proofs.YtekanmieppnpeaaW.PrintMore Go.Proofs.Ytekanmieppnpeaa.PureKit

set_option maxHeartbeats 4000000 in
theorem cur_Four_short (w0 w : World) (g at_ : Nat) (l : List Int) (ps : List HP) (hs : Sep w0 w (cur g l at_ true :: ps)) (hat : at_ ≤ l.length) (hl : l.length ≤ 1000000000000) (hsh : (4 : Int) > (l.length : Int) - at_) :
    Calls Try.prog 83 #[.pointer (some ⟨g, 0, none⟩)] w fun e w' => e = .panicked [fault g 2] ∧ Sep w0 w' (cur g l at_ true :: ps) := by
  have hS := Aside0.mk hs
  clear hs
  go_enter Try.func83, Try.ntmps83
  go_wp2_with (fail)
  refine (cur_num_short w0 _ g at_ l ps 4 hS.out (by decide) hat hl hsh).mono ?_
  rintro e w1 ⟨rfl, h1⟩
  exact ⟨rfl, rfl, h1⟩
theorem lev_lt (l : List Int) (a n : Nat) (hb : Bytes l) (h : a + n ≤ l.length) : 0 ≤ lev ((l.take (a + n)).drop a) ∧ lev ((l.take (a + n)).drop a) < 256 ^ n := by
  have := lev_bound _ ((hb.take (a + n)).drop a)
  rw [List.length_drop, List.length_take, show min (a + n) l.length - a = n by omega] at this
  exact this
set_option maxHeartbeats 4000000 in
theorem cur_Four_some (w0 w : World) (g at_ : Nat) (l : List Int) (ps : List HP) (hs : Sep w0 w (cur g l at_ true :: ps)) (hb : Bytes l) (hl : l.length ≤ 1000000000000) (hsh : at_ + 4 ≤ l.length) :
    Calls Try.prog 83 #[.pointer (some ⟨g, 0, none⟩)] w fun e w' => e = .returned (.int .u32 (lev ((l.take (at_ + 4)).drop at_))) ∧ Sep w0 w' (cur g l (at_ + 4) true :: ps) := by
  have hS := Aside0.mk hs
  clear hs
  have hbd := lev_lt l at_ 4 hb hsh
  have h4 : (256 : Int) ^ 4 = 4294967296 := by decide
  rw [h4] at hbd
  obtain ⟨y, hy⟩ : ∃ y, lev ((l.take (at_ + 4)).drop at_) = y := ⟨_, rfl⟩
  rw [hy] at hbd ⊢
  have hyA := Aside0.mk hy
  have hw : IntKind.u32.wrap y = y := by rw [IntKind.wrap_u32]; omega
  clear hy h4
  go_enter Try.func83, Try.ntmps83
  go_wp2_with (first | ((with_reducible refine gate_callee (f := 113) rfl ?_); refine goesL_ (some 4) rfl rfl Try.func113 (by kernel_rfl) rfl #[.pointer (some ⟨g, 0, none⟩), .int .i64 4] rfl (by (try simp only [List.map_toArray, List.map_cons, List.map_nil]); first | done | rfl) ?_; (with_reducible refine (cur_num_some w0 _ g at_ l ps 4 4 rfl hS.out hb (by decide) (by decide) hl hsh).mono ?_); rintro e w1 ⟨rfl, h2⟩; refine ⟨_, rfl, ?_⟩; rw [hyA.out]; have hS1 := Aside0.mk h2; clear h2))
  go_ret
  exact ⟨by first | rfl | (simp [hw]), hS1.out⟩
set_option maxHeartbeats 4000000 in
theorem cur_Eight_some (w0 w : World) (g at_ : Nat) (l : List Int) (ps : List HP) (hs : Sep w0 w (cur g l at_ true :: ps)) (hb : Bytes l) (hl : l.length ≤ 1000000000000) (hsh : at_ + 8 ≤ l.length) :
    Calls Try.prog 53 #[.pointer (some ⟨g, 0, none⟩)] w fun e w' => e = .returned (.int .u64 (lev ((l.take (at_ + 8)).drop at_))) ∧ Sep w0 w' (cur g l (at_ + 8) true :: ps) := by
  have hS := Aside0.mk hs
  clear hs
  go_enter Try.func53, Try.ntmps53
  go_wp2_with (first | ((with_reducible refine gate_callee (f := 113) rfl ?_); refine goesL_ (some 4) rfl rfl Try.func113 (by kernel_rfl) rfl #[.pointer (some ⟨g, 0, none⟩), .int .i64 8] rfl (by (try simp only [List.map_toArray, List.map_cons, List.map_nil]); first | done | rfl) ?_; (with_reducible refine (cur_num_some w0 _ g at_ l ps 8 8 rfl hS.out hb (by decide) (by decide) hl hsh).mono ?_); rintro e w1 ⟨rfl, h2⟩; refine ⟨_, rfl, ?_⟩; have hS1 := Aside0.mk h2; clear h2))
  go_ret
  exact ⟨rfl, hS1.out⟩

end Go.Proofs.Ytekanmieppnpeaa.Sep
