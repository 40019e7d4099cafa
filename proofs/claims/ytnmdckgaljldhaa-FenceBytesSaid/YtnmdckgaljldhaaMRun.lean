/- HRun HRun2, in one text (merge.py). -/
import Derived.Test.YtnmdckgaljldhaaMCur
import Derived.Defers
import Derived.Recover
import Derived.Laws.Pointers
import Derived.LaidEqlPtr
/- cursor.Run: a reading. -/
set_option linter.unusedVariables false
set_option linter.unusedSimpArgs false
namespace Go.Proofs.Ytnmdckgaljldhaa.Sep
open Go Go.RowKit Go.Proofs.YtnmdckgaljldhaaW.PrintWords Go.Proofs.YtnmdckgaljldhaaW.PrintLast Go.Proofs.YtnmdckgaljldhaaW.PrintMore Go.Proofs.Ytnmdckgaljldhaa.PureKit

theorem run_neq_ptr_same {P : Program} (w : World) {tp te : TypeId} {j : TypeInfo} (a : Addr) (hp : P.underlying tp = some (.pointer te)) (hte : P.info? te = some j) :
    (binOp .neq tp (.pointer (some a)) (.pointer (some a))).run P w = .ok (.bool false) w := by
  have h : ∀ d : Nat, (Op.equalIn (d + 1) tp (.pointer (some a)) (.pointer (some a))).run P w = .ok true w := fun d => by
    simp [Op.equalIn, run_underlying hp, sizeOf, typeInfo, hte, run_sameAddr_same]
  simp only [binOp]
  simp [Op.equal, Op.maxDepth, h 9999]

set_option maxHeartbeats 400000 in
set_option maxRecDepth 100000 in
theorem run_catch_idle (w0 w : World) (gc ga ge g at_ : Nat) (a0 e0 : Int) (l : List Int) (ps : List HP)
    (hs : Sep w0 w (cur g l at_ true :: blk gc #[.pointer (some ⟨g, 0, none⟩)] 36 :: blk ga #[.int .i64 a0] 3 :: blk ge #[.int .i64 e0] 32 :: ps)) :
    CallsD Try.prog 71 #[.pointer (some ⟨gc, 0, none⟩), .pointer (some ⟨ga, 0, none⟩), .pointer (some ⟨ge, 0, none⟩)] .returning w fun e u' w' =>
      e = .returned (.tuple #[]) ∧ u' = .returning ∧ Sep w0 w' (cur g l at_ false :: blk gc #[.pointer (some ⟨g, 0, none⟩)] 36 :: blk ga #[.int .i64 at_] 3 :: blk ge #[.int .i64 e0] 32 :: ps) := by
  have hS := Aside0.mk hs
  have h2 := hs.perm (List.Perm.swap _ _ _)
  have hcc : w.cell? ⟨gc, 0, none⟩ = some (.pointer (some ⟨g, 0, none⟩)) := (h2.cell 0).trans rfl
  obtain ⟨A, c, hO⟩ := Sep.cur_open hs
  have hc2 : w.cell? ⟨g, 2, none⟩ = some (.bool true) := (hO.cell 2).trans rfl
  have hz2 := hO.frozen 2
  have hO := Aside0.mk hO
  clear h2 hs
  refine callsD_of_wpS Try.func71 rfl fun c₀ cs hu => ?_
  apply wpS_seq
  refine wpS_of_wp ?_
  rw [show ∀ (x y z : Value), #[x, y, z] ++ Array.replicate (Try.f71.ntmps - #[x, y, z].size) undef = #[x, y, z, undef, undef, undef, undef, undef, undef, undef, undef, undef, undef, undef, undef, undef, undef, undef, undef, undef, undef, undef, undef, undef, undef, undef, undef] from fun x y z => by kernel_rfl]
  go_wp2
  simp only [Exit.thenS]
  have hS1 : Sep w0 (w.setCell ⟨g, 2, none⟩ (.bool false)) (cur g l at_ false :: blk gc #[.pointer (some ⟨g, 0, none⟩)] 36 :: blk ga #[.int .i64 a0] 3 :: blk ge #[.int .i64 e0] 32 :: ps) := by
    refine Sep.cur_close (A := A) (c := c) ?_
    have := hO.out.set 2 (.bool false)
    simpa using this
  clear hcc hc2 hz2 hO
  generalize w.setCell ⟨g, 2, none⟩ (.bool false) = w1 at hS1 ⊢
  have hcc : w1.cell? ⟨gc, 0, none⟩ = some (.pointer (some ⟨g, 0, none⟩)) := ((hS1.perm (List.Perm.swap _ _ _)).cell 0).trans rfl
  obtain ⟨A, c, hO⟩ := Sep.cur_open hS1
  have hc1 : w1.cell? ⟨g, 1, none⟩ = some (.int .i64 at_) := (hO.cell 1).trans rfl
  have hga := hS1.perm ((List.Perm.cons _ (List.Perm.swap _ _ _)).trans (List.Perm.swap _ _ _))
  have hca : w1.cell? ⟨ga, 0, none⟩ = some (.int .i64 a0) := (hga.cell 0).trans rfl
  have hza := hga.frozen 0
  have hga := Aside0.mk hga
  clear hO
  apply wpS_seq
  refine wpS_of_wp ?_
  go_wp2
  simp only [Exit.thenS]
  have hS2 : Sep w0 (w1.setCell ⟨ga, 0, none⟩ (.int .i64 at_)) (cur g l at_ false :: blk gc #[.pointer (some ⟨g, 0, none⟩)] 36 :: blk ga #[.int .i64 at_] 3 :: blk ge #[.int .i64 e0] 32 :: ps) := by
    have := hga.out.set 0 (.int .i64 at_)
    have := this.perm ((List.Perm.swap _ _ _).trans (List.Perm.cons _ (List.Perm.swap _ _ _)))
    simpa using this
  clear hcc hc1 hca hza hga
  generalize w1.setCell ⟨ga, 0, none⟩ (.int .i64 at_) = w2 at hS2 ⊢
  have hS2 := Aside0.mk hS2
  apply wpS_seq
  apply wpS_region
  simp [wpOpsS, go_sem, recoverD, hu, Exit.thenS]
  refine wpS_of_wp ?_
  go_wp2
  have hS3 := hS2.out
  clear hS2 hS
  generalize hps : (cur g l at_ false :: blk gc #[.pointer (some ⟨g, 0, none⟩)] 36 :: blk ga #[.int .i64 at_] 3 :: blk ge #[.int .i64 e0] 32 :: ps) = qs at hS3 ⊢
  clear hps
  cases c₀
  simp_all [bodyPostS, results, Try.results71]

set_option maxHeartbeats 400000 in
set_option maxRecDepth 100000 in
theorem run_catch_fault (w0 w : World) (gc ga ge g at_ : Nat) (a0 e0 x : Int) (older : List PanicEntry) (l : List Int) (ps : List HP)
    (hs : Sep w0 w (cur g l at_ true :: blk gc #[.pointer (some ⟨g, 0, none⟩)] 36 :: blk ga #[.int .i64 a0] 3 :: blk ge #[.int .i64 e0] 32 :: ps)) :
    CallsD Try.prog 71 #[.pointer (some ⟨gc, 0, none⟩), .pointer (some ⟨ga, 0, none⟩), .pointer (some ⟨ge, 0, none⟩)] (.panicking (fault g x :: older)) w fun e u' w' =>
      e = .returned (.tuple #[]) ∧ u' = .panicking ({ v := (fault g x).v, recovered := true } :: older) ∧ Sep w0 w' (cur g l at_ false :: blk gc #[.pointer (some ⟨g, 0, none⟩)] 36 :: blk ga #[.int .i64 at_] 3 :: blk ge #[.int .i64 x] 32 :: ps) := by
  have hS := Aside0.mk hs
  have h2 := hs.perm (List.Perm.swap _ _ _)
  have hcc : w.cell? ⟨gc, 0, none⟩ = some (.pointer (some ⟨g, 0, none⟩)) := (h2.cell 0).trans rfl
  obtain ⟨A, c, hO⟩ := Sep.cur_open hs
  have hc2 : w.cell? ⟨g, 2, none⟩ = some (.bool true) := (hO.cell 2).trans rfl
  have hz2 := hO.frozen 2
  have hO := Aside0.mk hO
  clear h2 hs
  refine callsD_of_wpS Try.func71 rfl fun c₀ cs hu => ?_
  apply wpS_seq
  refine wpS_of_wp ?_
  rw [show ∀ (x y z : Value), #[x, y, z] ++ Array.replicate (Try.f71.ntmps - #[x, y, z].size) undef = #[x, y, z, undef, undef, undef, undef, undef, undef, undef, undef, undef, undef, undef, undef, undef, undef, undef, undef, undef, undef, undef, undef, undef, undef, undef, undef] from fun x y z => by kernel_rfl]
  go_wp2
  simp only [Exit.thenS]
  have hS1 : Sep w0 (w.setCell ⟨g, 2, none⟩ (.bool false)) (cur g l at_ false :: blk gc #[.pointer (some ⟨g, 0, none⟩)] 36 :: blk ga #[.int .i64 a0] 3 :: blk ge #[.int .i64 e0] 32 :: ps) := by
    refine Sep.cur_close (A := A) (c := c) ?_
    have := hO.out.set 2 (.bool false)
    simpa using this
  clear hcc hc2 hz2 hO
  generalize w.setCell ⟨g, 2, none⟩ (.bool false) = w1 at hS1 ⊢
  have hcc : w1.cell? ⟨gc, 0, none⟩ = some (.pointer (some ⟨g, 0, none⟩)) := ((hS1.perm (List.Perm.swap _ _ _)).cell 0).trans rfl
  obtain ⟨A, c, hO⟩ := Sep.cur_open hS1
  have hc1 : w1.cell? ⟨g, 1, none⟩ = some (.int .i64 at_) := (hO.cell 1).trans rfl
  have hga := hS1.perm ((List.Perm.cons _ (List.Perm.swap _ _ _)).trans (List.Perm.swap _ _ _))
  have hca : w1.cell? ⟨ga, 0, none⟩ = some (.int .i64 a0) := (hga.cell 0).trans rfl
  have hza := hga.frozen 0
  have hga := Aside0.mk hga
  clear hO
  apply wpS_seq
  refine wpS_of_wp ?_
  go_wp2
  simp only [Exit.thenS]
  have hS2 : Sep w0 (w1.setCell ⟨ga, 0, none⟩ (.int .i64 at_)) (cur g l at_ false :: blk gc #[.pointer (some ⟨g, 0, none⟩)] 36 :: blk ga #[.int .i64 at_] 3 :: blk ge #[.int .i64 e0] 32 :: ps) := by
    have := hga.out.set 0 (.int .i64 at_)
    have := this.perm ((List.Perm.swap _ _ _).trans (List.Perm.cons _ (List.Perm.swap _ _ _)))
    simpa using this
  clear hcc hc1 hca hza hga
  generalize w1.setCell ⟨ga, 0, none⟩ (.int .i64 at_) = w2 at hS2 ⊢
  have hS2 := Aside0.mk hS2
  apply wpS_seq
  apply wpS_region
  have hcc : w2.cell? ⟨gc, 0, none⟩ = some (.pointer (some ⟨g, 0, none⟩)) := ((hS2.out.perm (List.Perm.swap _ _ _)).cell 0).trans rfl
  simp [wpOpsS, go_sem, recoverD, hu, Exit.thenS, fault]
  have hta : ∀ (v : Value) (W : World), (Instr.typeAssert (.iface 113 v) 20 113 true).run Try.prog W = .ok (.tuple #[v, .bool true]) W := fun v W => by rfl
  have hA := hS2.out.alloc #[.pointer (some ⟨g, 0, none⟩), .int .i64 x] 113
  clear hcc
  have hcc : (w2.alloc (.cells #[.pointer (some ⟨g, 0, none⟩), .int .i64 x] 113 (0, 0))).cell? ⟨gc, 0, none⟩ = some (.pointer (some ⟨g, 0, none⟩)) := ((hA.tail.perm (List.Perm.swap _ _ _)).cell 0).trans rfl
  have hce : (w2.alloc (.cells #[.pointer (some ⟨g, 0, none⟩), .int .i64 x] 113 (0, 0))).cell? ⟨ge, 0, none⟩ = some (.int .i64 e0) := (hA.tail.tail.tail.tail.cell 0).trans rfl
  have hze := hA.tail.tail.tail.tail.frozen 0
  have hE := Aside0.mk ((hA.tail.perm (List.perm_middle (l₁ := [cur g l at_ false, blk gc #[.pointer (some ⟨g, 0, none⟩)] 36, blk ga #[.int .i64 at_] 3]) (a := blk ge #[.int .i64 e0] 32) (l₂ := ps))).set 0 (.int .i64 x))
  clear hA
  obtain ⟨j_, hj_⟩ : ∃ j, Try.prog.info? 111 = some j := Option.isSome_iff_exists.mp (by kernel_rfl)
  have hne := fun W => run_neq_ptr_same (P := Try.prog) W ⟨g, 0, none⟩ Try.underlying36 hj_
  refine wpS_of_wp ?_
  go_wp2
  have hS3 : Sep w0 ((w2.alloc (.cells #[.pointer (some ⟨g, 0, none⟩), .int .i64 x] 113 (0, 0))).setCell ⟨ge, 0, none⟩ (.int .i64 x)) (cur g l at_ false :: blk gc #[.pointer (some ⟨g, 0, none⟩)] 36 :: blk ga #[.int .i64 at_] 3 :: blk ge #[.int .i64 x] 32 :: ps) := by
    have h9 : Sep w0 _ (blk ge #[.int .i64 x] 32 :: ([cur g l at_ false, blk gc #[.pointer (some ⟨g, 0, none⟩)] 36, blk ga #[.int .i64 at_] 3] ++ ps)) := hE.out
    exact h9.perm (List.perm_middle (l₁ := [cur g l at_ false, blk gc #[.pointer (some ⟨g, 0, none⟩)] 36, blk ga #[.int .i64 at_] 3]) (a := blk ge #[.int .i64 x] 32) (l₂ := ps)).symm
  clear hE hS2 hS hcc hce hze hne hta
  generalize (cur g l at_ false :: blk gc #[.pointer (some ⟨g, 0, none⟩)] 36 :: blk ga #[.int .i64 at_] 3 :: blk ge #[.int .i64 x] 32 :: ps) = qs at hS3 ⊢
  generalize (w2.alloc (.cells #[.pointer (some ⟨g, 0, none⟩), .int .i64 x] 113 (0, 0))).setCell ⟨ge, 0, none⟩ (.int .i64 x) = w3 at hS3 ⊢
  cases c₀
  simp_all [bodyPostS, results, Try.results71]

end Go.Proofs.Ytnmdckgaljldhaa.Sep

/- cursor.Run: the reading itself. -/
set_option linter.unusedVariables false
set_option linter.unusedSimpArgs false
namespace Go.Proofs.Ytnmdckgaljldhaa.Sep
open Go Go.RowKit Go.Proofs.YtnmdckgaljldhaaW.PrintWords Go.Proofs.YtnmdckgaljldhaaW.PrintLast Go.Proofs.YtnmdckgaljldhaaW.PrintMore Go.Proofs.Ytnmdckgaljldhaa.PureKit

set_option maxHeartbeats 400000 in
set_option maxRecDepth 100000 in
theorem run_calls (w0 w : World) (A : Option Addr) (c : Nat) (l : List Int) (fid : FuncId) (caps : Array Value) (R ps : List HP) (Q : Nat → Int → List HP → Prop)
    (hent : ∀ (args : Array Value) (w : World), (callFunc fid args).run Try.prog w = .ok (.enter fid args) w)
    (hs : Sep w0 w (R ++ ps)) (hr : Kd.C (Kd.int .u8) w A l.length l) (hc : l.length ≤ c) (hl : l.length ≤ 1000000000000)
    (hcl : ∀ (w1 : World) (g : Nat) (ps' : List HP), Sep w0 w1 (cur g l 0 true :: (R ++ ps')) → Calls Try.prog fid (#[.pointer (some ⟨g, 0, none⟩)] ++ caps) w1 fun e w2 =>
      ∃ (at2 : Nat) (x : Int) (qs : List HP), Q at2 x qs ∧ Sep w0 w2 (cur g l at2 true :: (qs ++ ps')) ∧ ((e = .returned (.tuple #[]) ∧ x = 0) ∨ e = .panicked [fault g x])) :
    Calls Try.prog 19 #[.slice A l.length c, .func (.func fid) #[] caps] w fun e w' =>
      ∃ (at2 : Nat) (x : Int) (qs : List HP), Q at2 x qs ∧ e = .returned (.tuple #[.int .i64 at2, .int .i64 x]) ∧ Sep w0 w' (qs ++ ps) := by
  have hmf : ∀ (fn : Fn) (first cap : Array Value) (w : World), (Instr.makeFunc fn first cap).run Try.prog w = .ok (.func fn first cap) w := fun _ _ _ _ => rfl
  have hnf : ∀ (W : World), (binOp .eql 38 (.func (.func fid) #[] caps) .nilFunc).run Try.prog W = .ok (.bool false) W := fun _ => by rfl
  have hS := Aside0.mk hs
  have hR := Aside0.mk hr
  have hCL := Aside0.mk hcl
  have hB := Aside0.mk hs.1
  have hsz : ∀ (W : World) (o : Obj), (W.alloc o).heap.size = W.heap.size + 1 := fun W o => by show (W.heap.push _).size = _; simp
  have hS2 := (hs.alloc #[.int .i64 0] 3).alloc #[.int .i64 0] 32
  rw [hsz] at hS2
  have hS2 := Aside0.mk hS2
  clear hs hr hcl
  go_enter_defers Try.func19, Try.ntmps19
  go_wp2_with (first | ((with_reducible refine gate_callee (f := 70) rfl ?_); refine goesL_ (some 10) rfl rfl Try.func70 (by kernel_rfl) rfl #[.slice A l.length c] rfl (by (try simp only [List.map_toArray, List.map_cons, List.map_nil]); first | done | rfl) ?_; (refine (G.bytes_Clone.calls A c l l _ (Kd.C_alloc (Kd.C_alloc hR.out _) _) hc (by unfold G.bytes_Clone.f; exact if_pos (by omega)) rfl).mono ?_); rintro e w1 ⟨v1, rfl, ho, hb⟩; refine ⟨_, rfl, ?_⟩; have hS3 := Aside0.mk (Sep.row_new hS2.out hb ho); obtain ⟨A1, c1, e1⟩ := Kd.R_slice ho; subst e1; clear ho hb))
  have hS4 := (hS3.out.alloc #[.slice A1 l.length c1, .int .i64 0, .bool true] 111).alloc #[.pointer (some ⟨w1.heap.size, 0, none⟩)] 36
  rw [hsz] at hS4
  have hS5 := Sep.cur_close (at_ := 0) (live := true) hS4.put2
  have hS6 : Sep w0 _ (cur w1.heap.size l 0 true :: (R ++ (blk (w1.heap.size + 1) #[.pointer (some ⟨w1.heap.size, 0, none⟩)] 36 :: blk (w.heap.size + 1) #[.int .i64 0] 32 :: blk w.heap.size #[.int .i64 0] 3 :: ps))) := hS5.perm (List.Perm.cons _ (List.perm_append_comm_assoc [_, _, _] R ps))
  clear hS4 hS5
  refine (hCL.out _ w1.heap.size _ hS6).mono ?_
  clear hS6 hS3
  rintro e w2 ⟨at2, x, qs, hQ, h2, hor⟩
  have h3 : Sep w0 w2 (cur w1.heap.size l at2 true :: blk (w1.heap.size + 1) #[.pointer (some ⟨w1.heap.size, 0, none⟩)] 36 :: blk w.heap.size #[.int .i64 0] 3 :: blk (w.heap.size + 1) #[.int .i64 0] 32 :: (qs ++ ps)) :=
    (h2.perm (List.Perm.cons _ (List.perm_append_comm_assoc qs [_, _, _] ps))).perm (List.Perm.cons _ (List.Perm.cons _ (List.Perm.swap _ _ _)))
  have hQ := Aside0.mk hQ
  clear h2 hS hR hCL hB hS2 hc
  rcases hor with ⟨rfl, rfl⟩ | rfl
  · obtain ⟨A2, c2, hO⟩ := Sep.cur_open h3
    have hcg : w2.cell? ⟨w1.heap.size + 1, 0, none⟩ = some (.pointer (some ⟨w1.heap.size, 0, none⟩)) := ((h3.pick1).cell 0).trans rfl
    have hc1 : w2.cell? ⟨w1.heap.size, 1, none⟩ = some (.int .i64 at2) := (hO.cell 1).trans rfl
    have hca : w2.cell? ⟨w.heap.size, 0, none⟩ = some (.int .i64 0) := ((h3.pick2).cell 0).trans rfl
    have hza := (h3.pick2).frozen 0
    have hce : w2.cell? ⟨w.heap.size + 1, 0, none⟩ = some (.int .i64 0) := ((h3.pick3).cell 0).trans rfl
    have hze := (h3.pick3).frozen 0
    have h3 := Aside0.mk h3
    clear hO
    go_wp2
    have h4 : Sep w0 ((w2.setCell ⟨w.heap.size, 0, none⟩ (.int .i64 at2)).setCell ⟨w.heap.size + 1, 0, none⟩ (.int .i64 0)) (cur w1.heap.size l at2 true :: blk (w1.heap.size + 1) #[.pointer (some ⟨w1.heap.size, 0, none⟩)] 36 :: blk w.heap.size #[.int .i64 at2] 3 :: blk (w.heap.size + 1) #[.int .i64 0] 32 :: (qs ++ ps)) := by
      have h5 := h3.out.pick2.set 0 (.int .i64 at2)
      have h6 := h5.put2.pick3.set 0 (.int .i64 0)
      have h7 := h6.put3
      simpa using h7
    clear h3 hcg hc1 hca hza hce hze
    generalize ((w2.setCell ⟨w.heap.size, 0, none⟩ (.int .i64 at2)).setCell ⟨w.heap.size + 1, 0, none⟩ (.int .i64 0)) = w3 at h4 ⊢
    show Leaves _ _ _ _ _ _ _
    refine leaves_cons (f := 71) (args := _) (by simp) (by rfl) ?_
    refine (run_catch_idle w0 _ (w1.heap.size + 1) w.heap.size (w.heap.size + 1) w1.heap.size at2 at2 0 l _ h4).mono ?_
    rintro e u' w4 ⟨rfl, rfl, h5⟩
    have hca : w4.cell? ⟨w.heap.size, 0, none⟩ = some (.int .i64 at2) := ((h5.pick2).cell 0).trans rfl
    have hce : w4.cell? ⟨w.heap.size + 1, 0, none⟩ = some (.int .i64 0) := ((h5.pick3).cell 0).trans rfl
    have hout : Sep w0 w4 (qs ++ ps) := h5.tail.tail.tail.tail
    show Leaves _ _ _ _ [] .returning w4
    refine ⟨.tuple #[.int .i64 at2, .int .i64 0], ?_, at2, 0, qs, hQ.out, rfl, hout⟩
    simp [results, Try.results19, asAddr, loadVar, isAgg, underlying, Try.underlying3, Try.underlying32, Result.andThen, hca, hce]
  · have h3 := Aside0.mk h3
    show Leaves _ _ _ _ _ _ _
    refine leaves_cons (f := 71) (args := _) (by simp) (by rfl) ?_
    refine (run_catch_fault w0 _ (w1.heap.size + 1) w.heap.size (w.heap.size + 1) w1.heap.size at2 0 0 x [] l _ h3.out).mono ?_
    rintro e u' w4 ⟨rfl, rfl, h5⟩
    have hca : w4.cell? ⟨w.heap.size, 0, none⟩ = some (.int .i64 at2) := ((h5.pick2).cell 0).trans rfl
    have hce : w4.cell? ⟨w.heap.size + 1, 0, none⟩ = some (.int .i64 x) := ((h5.pick3).cell 0).trans rfl
    have hout : Sep w0 w4 (qs ++ ps) := h5.tail.tail.tail.tail
    show Leaves _ _ _ _ [] .returning w4
    refine ⟨.tuple #[.int .i64 at2, .int .i64 x], ?_, at2, x, qs, hQ.out, rfl, hout⟩
    simp [results, Try.results19, asAddr, loadVar, isAgg, underlying, Try.underlying3, Try.underlying32, Result.andThen, hca, hce]

end Go.Proofs.Ytnmdckgaljldhaa.Sep
