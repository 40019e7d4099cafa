/- fasciclelaw01.one of a dead cursor. -/
import Derived.Test.YtmlodmpkcbncjaaHDead
set_option linter.unusedVariables false
set_option linter.unusedSimpArgs false
namespace Go.Proofs.Ytmlodmpkcbncjaa.G
open Go Go.RowKit Go.Proofs.YtmlodmpkcbncjaaW.PrintWords Go.Proofs.YtmlodmpkcbncjaaW.PrintLast Go.Proofs.YtmlodmpkcbncjaaW.PrintMore Go.Proofs.Ytmlodmpkcbncjaa.PureKit Go.Proofs.Ytmlodmpkcbncjaa.Sep

theorem dead_perm {w0 : World} {v : Value} {ps qs : List HP} (h : Dead w0 v ps) (hp : ps.Perm qs) : Dead w0 v qs := fun w hs => (h w (hs.perm hp.symm)).mono fun e w' hh => ⟨hh.1, hh.2.perm hp⟩
theorem rem8 (K : Int) (h : 0 ≤ K) : Int.tmod K 8 = K % 8 := Int.tmod_eq_emod_of_nonneg h
theorem rem12 (K : Int) (h : 0 ≤ K) : Int.tmod K 12 = K % 12 := Int.tmod_eq_emod_of_nonneg h
set_option maxHeartbeats 4000000 in
set_option maxRecDepth 100000 in
theorem one_dead (w0 w : World) (v : Value) (ps : List HP) (K N E : Int) (hd : ∀ x : HP, Dead w0 v (x :: ps)) (hs : Sep.Sep w0 w ps) (hK : 0 ≤ K ∧ K ≤ 255) (hE : 0 ≤ E ∧ E ≤ 255) :
    Calls Try.prog 21 #[v, .agg #[.int .u8 K, .int .i64 N, .int .u8 E]] w fun e w' => e = .returned (.tuple #[.int .u64 0, .string ⟨#[]⟩]) ∧ Sep.Sep w0 w' ps := by
  have hu := Try.underlying33
  have hS := Aside0.mk hs
  have hD := Aside0.mk hd
  have hr := rem8 K hK.1
  have hr12 := rem12 E hE.1
  have hcvn := fun (W : World) => own_string (P := Try.prog) (w := W) (base := 0) (e' := 5) Try.underlying22 Try.underlying5 Try.underlying9 (Kd.own_of_R (Kd.R_nil (Kd.int .u8) 5 W 0 (fun _ => True)))
  clear hs hd
  have hj : K % 8 = 0 ∨ K % 8 = 1 ∨ K % 8 = 2 ∨ K % 8 = 3 ∨ K % 8 = 4 ∨ K % 8 = 5 ∨ K % 8 = 6 ∨ K % 8 = 7 := by omega
  rcases hj with hj | hj | hj | hj | hj | hj | hj | hj
  · rw [hj] at hr
    go_enter Try.func21, Try.ntmps21
    go_wp2_with (first | ((with_reducible refine gate_dst (N := 3) rfl ?_); refine Sep.box_event ?hg (N := 3) ?hd (cs := #[.int .u8 K, .int .i64 N, .int .u8 E]) (t := 33) hS.out ?hr ?_; (case hd => rfl); (case hg => rfl); (case hr => first | (go_simp; done) | (go_simp; rfl)); intro g0 wb0 hsb0; have hcb0_0 : wb0.cell? ⟨g0, 0, none⟩ = some (.int .u8 K) := ((hsb0).cell 0).trans rfl; have hcb0_1 : wb0.cell? ⟨g0, 1, none⟩ = some (.int .i64 N) := ((hsb0).cell 1).trans rfl; have hcb0_2 : wb0.cell? ⟨g0, 2, none⟩ = some (.int .u8 E) := ((hsb0).cell 2).trans rfl; have hSb0 := Aside0.mk hsb0; clear hsb0) | ((with_reducible refine gate_callee (f := 33) rfl ?_); refine goesL_ (some 12) rfl rfl Try.func33 (by kernel_rfl) rfl #[v] rfl (by (try simp only [List.map_toArray, List.map_cons, List.map_nil]); first | done | rfl) ?_; (refine (dead_Byte w0 _ v _ (hD.out _) hSb0.out).mono ?_); rintro e w1 ⟨rfl, h1⟩; refine ⟨_, rfl, ?_⟩; have hS1 := Aside0.mk h1; clear h1))
    go_ret2
    exact ⟨rfl, hS1.out.tail⟩
  · rw [hj] at hr
    go_enter Try.func21, Try.ntmps21
    go_wp2_with (first | ((with_reducible refine gate_dst (N := 3) rfl ?_); refine Sep.box_event ?hg (N := 3) ?hd (cs := #[.int .u8 K, .int .i64 N, .int .u8 E]) (t := 33) hS.out ?hr ?_; (case hd => rfl); (case hg => rfl); (case hr => first | (go_simp; done) | (go_simp; rfl)); intro g0 wb0 hsb0; have hcb0_0 : wb0.cell? ⟨g0, 0, none⟩ = some (.int .u8 K) := ((hsb0).cell 0).trans rfl; have hcb0_1 : wb0.cell? ⟨g0, 1, none⟩ = some (.int .i64 N) := ((hsb0).cell 1).trans rfl; have hcb0_2 : wb0.cell? ⟨g0, 2, none⟩ = some (.int .u8 E) := ((hsb0).cell 2).trans rfl; have hSb0 := Aside0.mk hsb0; clear hsb0) | ((with_reducible refine gate_callee (f := 34) rfl ?_); refine goesL_ (some 17) rfl rfl Try.func34 (by kernel_rfl) rfl #[v] rfl (by (try simp only [List.map_toArray, List.map_cons, List.map_nil]); first | done | rfl) ?_; (refine (dead_Four w0 _ v _ (hD.out _) hSb0.out).mono ?_); rintro e w1 ⟨rfl, h1⟩; refine ⟨_, rfl, ?_⟩; have hS1 := Aside0.mk h1; clear h1))
    go_ret2
    exact ⟨rfl, hS1.out.tail⟩
  · rw [hj] at hr
    go_enter Try.func21, Try.ntmps21
    go_wp2_with (first | ((with_reducible refine gate_dst (N := 3) rfl ?_); refine Sep.box_event ?hg (N := 3) ?hd (cs := #[.int .u8 K, .int .i64 N, .int .u8 E]) (t := 33) hS.out ?hr ?_; (case hd => rfl); (case hg => rfl); (case hr => first | (go_simp; done) | (go_simp; rfl)); intro g0 wb0 hsb0; have hcb0_0 : wb0.cell? ⟨g0, 0, none⟩ = some (.int .u8 K) := ((hsb0).cell 0).trans rfl; have hcb0_1 : wb0.cell? ⟨g0, 1, none⟩ = some (.int .i64 N) := ((hsb0).cell 1).trans rfl; have hcb0_2 : wb0.cell? ⟨g0, 2, none⟩ = some (.int .u8 E) := ((hsb0).cell 2).trans rfl; have hSb0 := Aside0.mk hsb0; clear hsb0) | ((with_reducible refine gate_callee (f := 35) rfl ?_); refine goesL_ (some 22) rfl rfl Try.func35 (by kernel_rfl) rfl #[v] rfl (by (try simp only [List.map_toArray, List.map_cons, List.map_nil]); first | done | rfl) ?_; (refine (dead_Eight w0 _ v _ (hD.out _) hSb0.out).mono ?_); rintro e w1 ⟨rfl, h1⟩; refine ⟨_, rfl, ?_⟩; have hS1 := Aside0.mk h1; clear h1))
    go_ret2
    exact ⟨rfl, hS1.out.tail⟩
  · rw [hj] at hr
    go_enter Try.func21, Try.ntmps21
    go_wp2_with (first | ((with_reducible refine gate_dst (N := 3) rfl ?_); refine Sep.box_event ?hg (N := 3) ?hd (cs := #[.int .u8 K, .int .i64 N, .int .u8 E]) (t := 33) hS.out ?hr ?_; (case hd => rfl); (case hg => rfl); (case hr => first | (go_simp; done) | (go_simp; rfl)); intro g0 wb0 hsb0; have hcb0_0 : wb0.cell? ⟨g0, 0, none⟩ = some (.int .u8 K) := ((hsb0).cell 0).trans rfl; have hcb0_1 : wb0.cell? ⟨g0, 1, none⟩ = some (.int .i64 N) := ((hsb0).cell 1).trans rfl; have hcb0_2 : wb0.cell? ⟨g0, 2, none⟩ = some (.int .u8 E) := ((hsb0).cell 2).trans rfl; have hSb0 := Aside0.mk hsb0; clear hsb0))
    have hq := hSb0.out.drew
    have hx_0 : wb0.drew.cell? ⟨g0, 0, none⟩ = some (.int .u8 K) := ((hq).cell 0).trans rfl; have hx_1 : wb0.drew.cell? ⟨g0, 1, none⟩ = some (.int .i64 N) := ((hq).cell 1).trans rfl; have hx_2 : wb0.drew.cell? ⟨g0, 2, none⟩ = some (.int .u8 E) := ((hq).cell 2).trans rfl
    have hSd := Aside0.mk hq
    clear hq
    refine start_ (n := 7) (S := fun w' => w'.cell? ⟨g0, 1, none⟩ = some (.int .i64 N)) (ds := []) #[false, false, false, false, false, false, false] (by kernel_rfl) rfl rfl (hx_1) (fun hHeld => ?_)
    refine pure_ (i := 0) (N := some 25) (v := ?_) (a' := ?_) #[true, false, false, false, false, false, false] rfl rfl (by kernel_rfl) (fun _ _ _ h => h) (Or.inl ⟨by rfl, ?_⟩) ?_ ?_
    rotate_left
    · intro w'
      go_simp
      with_reducible rfl
    rotate_left
    · simp only [Act.put, List.setIfInBounds_toArray, List.set_cons_zero, List.set_cons_succ, i64_w, i32_w]
      rfl
    refine pure_ (i := 1) (N := some 26) (v := ?_) (a' := ?_) #[true, true, false, false, false, false, false] rfl rfl (by kernel_rfl) (fun _ _ _ h => h) (Or.inl ⟨by rfl, ?_⟩) ?_ ?_
    rotate_left
    · intro w'
      go_simp
      with_reducible rfl
    rotate_left
    · simp only [Act.put, List.setIfInBounds_toArray, List.set_cons_zero, List.set_cons_succ, i64_w, i32_w]
      rfl
    refine take_ (i := 2) (N := some 27) (v := ?_) (a' := ?_) #[true, true, true, false, false, false, false] rfl rfl (by kernel_rfl) (fun _ _ _ h => h) (Or.inl ⟨by rfl, ?_⟩) hHeld ?_ ?_
    rotate_left
    · intro w' s0
      go_simp
      with_reducible rfl
    rotate_left
    · simp only [Act.put, List.setIfInBounds_toArray, List.set_cons_zero, List.set_cons_succ, i64_w, i32_w]
      rfl
    refine one_ (i := 3) (N := some 28) #[true, true, true, true, false, false, false] rfl rfl (by kernel_rfl) (by decide) (fun K hK => ?_)
    refine goes_ Try.func19 (by kernel_rfl) rfl #[v, .int .i64 N] (by rfl) rfl rfl (by (try simp only [List.map_toArray, List.map_cons, List.map_nil]); first | done | rfl) ?_
    refine (dead_Take w0 _ v _ (hD.out _) hSd.out N).mono ?_
    rintro e w1 ⟨rfl, h1⟩
    refine ⟨_, rfl, ?_⟩
    have hS1 := Aside0.mk h1
    have hy := ((h1.cell 1).trans rfl : w1.cell? ⟨g0, 1, none⟩ = some (.int .i64 N))
    clear h1
    refine hK.out _ _ (hy) (fun hHeld => ?_)
    clear hK K
    refine norm_ (a' := ?_) ?_ ?_
    rotate_left
    · show Act.put _ (some 28) _ = _
      simp only [Act.put, List.setIfInBounds_toArray, List.set_cons_zero, List.set_cons_succ, i64_w, i32_w]
      rfl
    refine pure_ (i := 4) (N := some 29) (v := ?_) (a' := ?_) #[true, true, true, true, true, false, false] rfl rfl (by kernel_rfl) (fun _ _ _ h => h) (Or.inl ⟨by rfl, ?_⟩) ?_ ?_
    rotate_left
    · intro w'
      go_simp
      with_reducible rfl
    rotate_left
    · simp only [Act.put, List.setIfInBounds_toArray, List.set_cons_zero, List.set_cons_succ, i64_w, i32_w]
      rfl
    refine pure_ (i := 5) (N := some 4) (v := ?_) (a' := ?_) #[true, true, true, true, true, true, false] rfl rfl (by kernel_rfl) (fun _ _ _ h => h) (Or.inl ⟨by rfl, ?_⟩) ?_ ?_
    rotate_left
    · intro w'
      go_simp
      with_reducible rfl
    rotate_left
    · simp only [Act.put, List.setIfInBounds_toArray, List.set_cons_zero, List.set_cons_succ, i64_w, i32_w]
      rfl
    refine pure_ (i := 6) (N := some 5) (v := ?_) (a' := ?_) #[true, true, true, true, true, true, true] rfl rfl (by kernel_rfl) (fun _ _ _ h => h) (Or.inl ⟨by rfl, ?_⟩) ?_ ?_
    rotate_left
    · intro w'
      go_simp
      with_reducible rfl
    rotate_left
    · simp only [Act.put, List.setIfInBounds_toArray, List.set_cons_zero, List.set_cons_succ, i64_w, i32_w]
      rfl
    refine done_ (by kernel_rfl) ?_
    go_wp2
    go_ret2
    exact ⟨rfl, hS1.out.tail⟩
  · rw [hj] at hr
    go_enter Try.func21, Try.ntmps21
    go_wp2_with (first | ((with_reducible refine gate_dst (N := 3) rfl ?_); refine Sep.box_event ?hg (N := 3) ?hd (cs := #[.int .u8 K, .int .i64 N, .int .u8 E]) (t := 33) hS.out ?hr ?_; (case hd => rfl); (case hg => rfl); (case hr => first | (go_simp; done) | (go_simp; rfl)); intro g0 wb0 hsb0; have hcb0_0 : wb0.cell? ⟨g0, 0, none⟩ = some (.int .u8 K) := ((hsb0).cell 0).trans rfl; have hcb0_1 : wb0.cell? ⟨g0, 1, none⟩ = some (.int .i64 N) := ((hsb0).cell 1).trans rfl; have hcb0_2 : wb0.cell? ⟨g0, 2, none⟩ = some (.int .u8 E) := ((hsb0).cell 2).trans rfl; have hSb0 := Aside0.mk hsb0; clear hsb0) | ((with_reducible refine gate_callee (f := 62) rfl ?_); refine goesL_ (some 33) rfl rfl Try.func62 (by kernel_rfl) rfl #[v] rfl (by (try simp only [List.map_toArray, List.map_cons, List.map_nil]); first | done | rfl) ?_; (refine (dead_Left w0 _ v _ (hD.out _) hSb0.out).mono ?_); rintro e w1 ⟨rfl, h1⟩; refine ⟨_, rfl, ?_⟩; have hS1 := Aside0.mk h1; clear h1))
    go_ret2
    exact ⟨rfl, hS1.out.tail⟩
  · rw [hj] at hr
    go_enter Try.func21, Try.ntmps21
    go_wp2_with (first | ((with_reducible refine gate_dst (N := 3) rfl ?_); refine Sep.box_event ?hg (N := 3) ?hd (cs := #[.int .u8 K, .int .i64 N, .int .u8 E]) (t := 33) hS.out ?hr ?_; (case hd => rfl); (case hg => rfl); (case hr => first | (go_simp; done) | (go_simp; rfl)); intro g0 wb0 hsb0; have hcb0_0 : wb0.cell? ⟨g0, 0, none⟩ = some (.int .u8 K) := ((hsb0).cell 0).trans rfl; have hcb0_1 : wb0.cell? ⟨g0, 1, none⟩ = some (.int .i64 N) := ((hsb0).cell 1).trans rfl; have hcb0_2 : wb0.cell? ⟨g0, 2, none⟩ = some (.int .u8 E) := ((hsb0).cell 2).trans rfl; have hSb0 := Aside0.mk hsb0; clear hsb0) | ((with_reducible refine gate_callee (f := 63) rfl ?_); refine goesL_ (some 38) rfl rfl Try.func63 (by kernel_rfl) rfl #[v] rfl (by (try simp only [List.map_toArray, List.map_cons, List.map_nil]); first | done | rfl) ?_; (refine (dead_At w0 _ v _ (hD.out _) hSb0.out).mono ?_); rintro e w1 ⟨rfl, h1⟩; refine ⟨_, rfl, ?_⟩; have hS1 := Aside0.mk h1; clear h1))
    go_ret2
    exact ⟨rfl, hS1.out.tail⟩
  · rw [hj] at hr
    go_enter Try.func21, Try.ntmps21
    go_wp2_with (first | ((with_reducible refine gate_dst (N := 3) rfl ?_); refine Sep.box_event ?hg (N := 3) ?hd (cs := #[.int .u8 K, .int .i64 N, .int .u8 E]) (t := 33) hS.out ?hr ?_; (case hd => rfl); (case hg => rfl); (case hr => first | (go_simp; done) | (go_simp; rfl)); intro g0 wb0 hsb0; have hcb0_0 : wb0.cell? ⟨g0, 0, none⟩ = some (.int .u8 K) := ((hsb0).cell 0).trans rfl; have hcb0_1 : wb0.cell? ⟨g0, 1, none⟩ = some (.int .i64 N) := ((hsb0).cell 1).trans rfl; have hcb0_2 : wb0.cell? ⟨g0, 2, none⟩ = some (.int .u8 E) := ((hsb0).cell 2).trans rfl; have hSb0 := Aside0.mk hsb0; clear hsb0) | ((with_reducible refine gate_callee (f := 61) rfl ?_); refine goesL_ (some 47) rfl rfl Try.func61 (by kernel_rfl) rfl #[v, .int .i64 (E % 12)] rfl (by (try simp only [List.map_toArray, List.map_cons, List.map_nil]); first | done | rfl) ?_; (refine (dead_Fail w0 _ v _ (hD.out _) hSb0.out _).mono ?_); rintro e w1 ⟨rfl, h1⟩; refine ⟨_, rfl, ?_⟩; have hS1 := Aside0.mk h1; clear h1))
    go_ret2
    exact ⟨rfl, hS1.out.tail⟩
  · rw [hj] at hr
    go_enter Try.func21, Try.ntmps21
    go_wp2_with (first | ((with_reducible refine gate_dst (N := 3) rfl ?_); refine Sep.box_event ?hg (N := 3) ?hd (cs := #[.int .u8 K, .int .i64 N, .int .u8 E]) (t := 33) hS.out ?hr ?_; (case hd => rfl); (case hg => rfl); (case hr => first | (go_simp; done) | (go_simp; rfl)); intro g0 wb0 hsb0; have hcb0_0 : wb0.cell? ⟨g0, 0, none⟩ = some (.int .u8 K) := ((hsb0).cell 0).trans rfl; have hcb0_1 : wb0.cell? ⟨g0, 1, none⟩ = some (.int .i64 N) := ((hsb0).cell 1).trans rfl; have hcb0_2 : wb0.cell? ⟨g0, 2, none⟩ = some (.int .u8 E) := ((hsb0).cell 2).trans rfl; have hSb0 := Aside0.mk hsb0; clear hsb0) | ((with_reducible refine gate_callee (f := 36) rfl ?_); refine goesL_ (some 51) rfl rfl Try.func36 (by kernel_rfl) rfl #[v] rfl (by (try simp only [List.map_toArray, List.map_cons, List.map_nil]); first | done | rfl) ?_; (refine (dead_End w0 _ v _ (hD.out _) hSb0.out).mono ?_); rintro e w1 ⟨rfl, h1⟩; refine ⟨_, rfl, ?_⟩; have hS1 := Aside0.mk h1; clear h1))
    go_ret2
    exact ⟨rfl, hS1.out.tail⟩

end Go.Proofs.Ytmlodmpkcbncjaa.G
