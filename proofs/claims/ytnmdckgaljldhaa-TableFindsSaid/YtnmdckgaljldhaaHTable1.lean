/- table.Compare, walked. -/
import Derived.Test.YtnmdckgaljldhaaProg
import Derived.Below
import Derived.Deep.Draws
import Derived.Deep.AppendLies
import Derived.Maps.AppendAt
import Derived.OwnWalk
import Derived.Laws.BytesArg
import Derived.Laws.MakeOwn
import Derived.Laws.OwnMore
import Derived.Deep.OwnRows
import Derived.Tactics
import Derived.Lib.ConvBytes
import Derived.Laws.Slices
import Derived.WalkKit
import Derived.KernelRfl
import Derived.RowKit3
import Derived.Deep.LoopGhost
import Derived.Deep.QuietTactic
import Derived.BigQuiet
import Derived.WideLaws
import Derived.Deep.DeepCutAuto
import Derived.Deep.CutBlock
import Derived.Deep.RegionHeld3
import Derived.Laws.Rows
import Derived.Lib.AppendStr
import Derived.ArgAppend
import Derived.Laws.IdiomCopy
import Derived.OrdersHeld
import Derived.Laws.BitsLemmas
import Derived.RowKit
import Derived.Test.YtnmdckgaljldhaaWWords
import Derived.Test.YtnmdckgaljldhaaWLast
import Derived.Test.YtnmdckgaljldhaaWTab
import Derived.Test.YtnmdckgaljldhaaWFour
import Derived.Test.YtnmdckgaljldhaaWQPut
import Derived.Test.YtnmdckgaljldhaaWApart
import Derived.Test.YtnmdckgaljldhaaWArr
import Derived.Test.YtnmdckgaljldhaaWZeros
import Derived.Test.YtnmdckgaljldhaaWFoot
import Derived.Test.YtnmdckgaljldhaaWKept
import Derived.Test.YtnmdckgaljldhaaWShare
import Derived.Test.YtnmdckgaljldhaaWN
import Derived.Test.YtnmdckgaljldhaaWFootNe
import Derived.Test.YtnmdckgaljldhaaWAt
import Derived.Test.YtnmdckgaljldhaaWEqStruct
import Derived.Test.YtnmdckgaljldhaaWRepsOne
import Derived.Test.YtnmdckgaljldhaaWInv
import Derived.Test.YtnmdckgaljldhaaWInvWords
import Derived.Test.YtnmdckgaljldhaaWGuard
import Derived.Test.YtnmdckgaljldhaaWNEv
import Derived.Test.YtnmdckgaljldhaaWMore
import Derived.Test.YtnmdckgaljldhaaHSep
import Derived.Shelf.SlSortCmp.WholeK
set_option linter.unusedVariables false
set_option linter.unusedSimpArgs false
namespace Go.Proofs.Ytnmdckgaljldhaa.Tb
open Go Go.RowKit Go.Shelf Go.Lib Go.Sort Go.Proofs.YtnmdckgaljldhaaW.PrintWords Go.Proofs.YtnmdckgaljldhaaW.PrintLast Go.Proofs.YtnmdckgaljldhaaW.PrintMore Go.Proofs.Ytnmdckgaljldhaa.Sep
set_option maxHeartbeats 4000000
set_option maxRecDepth 100000
attribute [local go_sem] max2_int min2_int

/-- By Hash, then by At. -/
def orI (a b : Int) : Int := if a ≠ 0 then a else b
def cmpE (x y : Int × Int) : Int := orI (compareInt x.1 y.1) (compareInt x.2 y.2)

theorem nan_u64 (x : Int) (w : World) : Calls Try.prog 120 #[.int .u64 x] w fun e w' => e = .returned (.bool false) ∧ w' = w := by
  have hx : (x != x) = false := by simp
  go_enter Try.func120, Try.ntmps120
  go_wp2_with (fail)
  go_ret
  exact ⟨by first | rfl | (rw [hx]), rfl⟩
theorem cmp_u64 (x y : Int) (w : World) : Calls Try.prog 89 #[.int .u64 x, .int .u64 y] w fun e w' => e = .returned (.int .i64 (compareInt x y)) ∧ w' = w := by
  unfold compareInt
  have hx : (x != x) = false := by simp
  have hy : (y != y) = false := by simp
  by_cases h1 : x < y
  · have d1 : decide (x < y) = true := decide_eq_true h1
    rw [if_pos h1]
    go_enter Try.func89, Try.ntmps89
    go_wp2_with (fail)
    refine (nan_u64 x _).mono ?_
    intro ef_ wf_ hf_
    obtain ⟨h1f_, h2f_⟩ := hf_
    subst h1f_
    subst h2f_
    go_wp2_with (fail)
    refine (nan_u64 y _).mono ?_
    intro ef_ wf_ hf_
    obtain ⟨h1f_, h2f_⟩ := hf_
    subst h1f_
    subst h2f_
    go_wp2_with (fail)
    go_ret
    exact ⟨rfl, rfl⟩
  · have d1 : decide (x < y) = false := decide_eq_false h1
    rw [if_neg h1]
    by_cases h2 : y < x
    · have d2 : decide (y < x) = true := decide_eq_true h2
      have d3 : decide (x > y) = true := decide_eq_true h2
      rw [if_pos h2]
      go_enter Try.func89, Try.ntmps89
      go_wp2_with (fail)
      refine (nan_u64 x _).mono ?_
      intro ef_ wf_ hf_
      obtain ⟨h1f_, h2f_⟩ := hf_
      subst h1f_
      subst h2f_
      go_wp2_with (fail)
      refine (nan_u64 y _).mono ?_
      intro ef_ wf_ hf_
      obtain ⟨h1f_, h2f_⟩ := hf_
      subst h1f_
      subst h2f_
      go_wp2_with (fail)
      go_ret
      exact ⟨rfl, rfl⟩
    · have d2 : decide (y < x) = false := decide_eq_false h2
      have d3 : decide (x > y) = false := decide_eq_false h2
      rw [if_neg h2]
      go_enter Try.func89, Try.ntmps89
      go_wp2_with (fail)
      refine (nan_u64 x _).mono ?_
      intro ef_ wf_ hf_
      obtain ⟨h1f_, h2f_⟩ := hf_
      subst h1f_
      subst h2f_
      go_wp2_with (fail)
      refine (nan_u64 y _).mono ?_
      intro ef_ wf_ hf_
      obtain ⟨h1f_, h2f_⟩ := hf_
      subst h1f_
      subst h2f_
      go_wp2_with (fail)
      go_ret
      exact ⟨rfl, rfl⟩
theorem nan_u32 (x : Int) (w : World) : Calls Try.prog 121 #[.int .u32 x] w fun e w' => e = .returned (.bool false) ∧ w' = w := by
  have hx : (x != x) = false := by simp
  go_enter Try.func121, Try.ntmps121
  go_wp2_with (fail)
  go_ret
  exact ⟨by first | rfl | (rw [hx]), rfl⟩
theorem cmp_u32 (x y : Int) (w : World) : Calls Try.prog 90 #[.int .u32 x, .int .u32 y] w fun e w' => e = .returned (.int .i64 (compareInt x y)) ∧ w' = w := by
  unfold compareInt
  have hx : (x != x) = false := by simp
  have hy : (y != y) = false := by simp
  by_cases h1 : x < y
  · have d1 : decide (x < y) = true := decide_eq_true h1
    rw [if_pos h1]
    go_enter Try.func90, Try.ntmps90
    go_wp2_with (fail)
    refine (nan_u32 x _).mono ?_
    intro ef_ wf_ hf_
    obtain ⟨h1f_, h2f_⟩ := hf_
    subst h1f_
    subst h2f_
    go_wp2_with (fail)
    refine (nan_u32 y _).mono ?_
    intro ef_ wf_ hf_
    obtain ⟨h1f_, h2f_⟩ := hf_
    subst h1f_
    subst h2f_
    go_wp2_with (fail)
    go_ret
    exact ⟨rfl, rfl⟩
  · have d1 : decide (x < y) = false := decide_eq_false h1
    rw [if_neg h1]
    by_cases h2 : y < x
    · have d2 : decide (y < x) = true := decide_eq_true h2
      have d3 : decide (x > y) = true := decide_eq_true h2
      rw [if_pos h2]
      go_enter Try.func90, Try.ntmps90
      go_wp2_with (fail)
      refine (nan_u32 x _).mono ?_
      intro ef_ wf_ hf_
      obtain ⟨h1f_, h2f_⟩ := hf_
      subst h1f_
      subst h2f_
      go_wp2_with (fail)
      refine (nan_u32 y _).mono ?_
      intro ef_ wf_ hf_
      obtain ⟨h1f_, h2f_⟩ := hf_
      subst h1f_
      subst h2f_
      go_wp2_with (fail)
      go_ret
      exact ⟨rfl, rfl⟩
    · have d2 : decide (y < x) = false := decide_eq_false h2
      have d3 : decide (x > y) = false := decide_eq_false h2
      rw [if_neg h2]
      go_enter Try.func90, Try.ntmps90
      go_wp2_with (fail)
      refine (nan_u32 x _).mono ?_
      intro ef_ wf_ hf_
      obtain ⟨h1f_, h2f_⟩ := hf_
      subst h1f_
      subst h2f_
      go_wp2_with (fail)
      refine (nan_u32 y _).mono ?_
      intro ef_ wf_ hf_
      obtain ⟨h1f_, h2f_⟩ := hf_
      subst h1f_
      subst h2f_
      go_wp2_with (fail)
      go_ret
      exact ⟨rfl, rfl⟩
/-- cmp.Or of two. -/
theorem cmp_Or2 (a b : Int) (blk c : Nat) (w : World) (h0 : w.cell? ⟨blk, 0, none⟩ = some (.int .i64 a)) (h1 : w.cell? ⟨blk, 1, none⟩ = some (.int .i64 b)) :
    Calls Try.prog 88 #[.slice (some ⟨blk, 0, none⟩) 2 c] w fun e w' => e = .returned (.int .i64 (orI a b)) ∧ w' = w := by
  unfold orI
  by_cases ha : a = 0
  · have d1 : (a != 0) = false := by simp [ha]
    rw [if_neg (by simpa using ha)]
    by_cases hb : b = 0
    · have d2 : (b != 0) = false := by simp [hb]
      rw [hb]
      go_enter Try.func88, Try.ntmps88
      go_wp2_with (fail)
      refine wp_loop_rounds 3 ?_
      rw [rounds_succ]
      go_wp2_with (fail)
      rw [rounds_succ]
      go_wp2_with (fail)
      rw [rounds_succ]
      go_wp2_with (fail)
      go_ret
      exact ⟨rfl, rfl⟩
    · have d2 : (b != 0) = true := by simp [hb]
      go_enter Try.func88, Try.ntmps88
      go_wp2_with (fail)
      refine wp_loop_rounds 3 ?_
      rw [rounds_succ]
      go_wp2_with (fail)
      rw [rounds_succ]
      go_wp2_with (fail)
      go_ret
      exact ⟨rfl, rfl⟩
  · have d1 : (a != 0) = true := by simp [ha]
    rw [if_pos ha]
    go_enter Try.func88, Try.ntmps88
    go_wp2_with (fail)
    refine wp_loop_rounds 3 ?_
    rw [rounds_succ]
    go_wp2_with (fail)
    go_ret
    exact ⟨rfl, rfl⟩

/-- The comparison: in whatever world; what it lays lies behind. -/
theorem table_Compare (x y : Int × Int) (W : World) : Calls Try.prog 47 #[.agg #[.int .u64 x.1, .int .u32 x.2], .agg #[.int .u64 y.1, .int .u32 y.2]] W fun e w' => e = .returned (.int .i64 (cmpE x y)) ∧ ∃ q os', w' = grow (W.drewN q) os' := by
  have hu := Try.underlying81
  unfold cmpE
  have h1 := (((Sep.start W).alloc #[.int .u64 x.1, .int .u32 x.2] 81).alloc #[.int .u64 y.1, .int .u32 y.2] 81)
  have hsz : (W.alloc (.cells #[.int .u64 x.1, .int .u32 x.2] 81)).heap.size = W.heap.size + 1 := by show (W.heap.push _).size = _; simp
  rw [hsz] at h1
  have hS := Aside0.mk h1
  clear h1 hsz
  go_enter Try.func47, Try.ntmps47
  go_wp2_with (fail)
  have hx0 := (hS.out.pick1.cell 0).trans rfl
  have hc_0 : ((W.alloc (.cells #[.int .u64 x.1, .int .u32 x.2] 81)).alloc (.cells #[.int .u64 y.1, .int .u32 y.2] 81)).cell? ⟨W.heap.size, 0, none⟩ = some (.int .u64 x.1) := (((hS.out.pick1)).cell 0).trans rfl; have hc_1 : ((W.alloc (.cells #[.int .u64 x.1, .int .u32 x.2] 81)).alloc (.cells #[.int .u64 y.1, .int .u32 y.2] 81)).cell? ⟨W.heap.size, 1, none⟩ = some (.int .u32 x.2) := (((hS.out.pick1)).cell 1).trans rfl
  have hd_0 : ((W.alloc (.cells #[.int .u64 x.1, .int .u32 x.2] 81)).alloc (.cells #[.int .u64 y.1, .int .u32 y.2] 81)).cell? ⟨(W.heap.size + 1), 0, none⟩ = some (.int .u64 y.1) := (((hS.out)).cell 0).trans rfl; have hd_1 : ((W.alloc (.cells #[.int .u64 x.1, .int .u32 x.2] 81)).alloc (.cells #[.int .u64 y.1, .int .u32 y.2] 81)).cell? ⟨(W.heap.size + 1), 1, none⟩ = some (.int .u32 y.2) := (((hS.out)).cell 1).trans rfl
  clear hx0
  have h3 := (hS.out.alloc #[.int .i64 (compareInt x.1 y.1), .int .i64 (compareInt x.2 y.2)] 3).drew
  have hsz2 : ((W.alloc (.cells #[.int .u64 x.1, .int .u32 x.2] 81)).alloc (.cells #[.int .u64 y.1, .int .u32 y.2] 81)).heap.size = W.heap.size + 1 + 1 := by show ((W.heap.push _).push _).size = _; simp
  rw [hsz2] at h3
  have hS3 := Aside0.mk h3
  clear h3 hsz2
  refine start_ (n := 13) (S := fun w' => w'.cell? ⟨W.heap.size, 0, none⟩ = some (.int .u64 x.1) ∧ w'.cell? ⟨W.heap.size, 1, none⟩ = some (.int .u32 x.2) ∧ w'.cell? ⟨W.heap.size + 1, 0, none⟩ = some (.int .u64 y.1) ∧ w'.cell? ⟨W.heap.size + 1, 1, none⟩ = some (.int .u32 y.2)) (ds := [10, 11]) #[false, false, false, false, false, false, false, false, false, false, false, false, false] (by kernel_rfl) rfl rfl ⟨hc_0, hc_1, hd_0, hd_1⟩ (fun hHeld => ?_)
  refine pure_ (i := 0) (N := some 5) (v := ?_) (a' := ?_) #[true, false, false, false, false, false, false, false, false, false, false, false, false] rfl rfl (by kernel_rfl) (fun _ _ _ h => h) (Or.inl ⟨by rfl, ?_⟩) ?_ ?_
  rotate_left
  · intro w'
    go_simp
    with_reducible rfl
  rotate_left
  · simp only [Act.put, List.setIfInBounds_toArray, List.set_cons_zero, List.set_cons_succ, i64_w, i32_w]
    rfl
  refine pure_ (i := 2) (N := some 7) (v := ?_) (a' := ?_) #[true, false, true, false, false, false, false, false, false, false, false, false, false] rfl rfl (by kernel_rfl) (fun _ _ _ h => h) (Or.inl ⟨by rfl, ?_⟩) ?_ ?_
  rotate_left
  · intro w'
    go_simp
    with_reducible rfl
  rotate_left
  · simp only [Act.put, List.setIfInBounds_toArray, List.set_cons_zero, List.set_cons_succ, i64_w, i32_w]
    rfl
  refine pure_ (i := 5) (N := some 10) (v := ?_) (a' := ?_) #[true, false, true, false, false, true, false, false, false, false, false, false, false] rfl rfl (by kernel_rfl) (fun _ _ _ h => h) (Or.inl ⟨by rfl, ?_⟩) ?_ ?_
  rotate_left
  · intro w'
    go_simp
    with_reducible rfl
  rotate_left
  · simp only [Act.put, List.setIfInBounds_toArray, List.set_cons_zero, List.set_cons_succ, i64_w, i32_w]
    rfl
  refine pure_ (i := 7) (N := some 12) (v := ?_) (a' := ?_) #[true, false, true, false, false, true, false, true, false, false, false, false, false] rfl rfl (by kernel_rfl) (fun _ _ _ h => h) (Or.inl ⟨by rfl, ?_⟩) ?_ ?_
  rotate_left
  · intro w'
    go_simp
    with_reducible rfl
  rotate_left
  · simp only [Act.put, List.setIfInBounds_toArray, List.set_cons_zero, List.set_cons_succ, i64_w, i32_w]
    rfl
  refine take_ (i := 1) (N := some 6) (v := ?_) (a' := ?_) #[true, true, true, false, false, true, false, true, false, false, false, false, false] rfl rfl (by kernel_rfl) (fun _ _ _ h => h) (Or.inl ⟨by rfl, ?_⟩) hHeld ?_ ?_
  rotate_left
  · rintro w' ⟨s0, s1, s2, s3⟩
    go_simp
    with_reducible rfl
  rotate_left
  · simp only [Act.put, List.setIfInBounds_toArray, List.set_cons_zero, List.set_cons_succ, i64_w, i32_w]
    rfl
  refine take_ (i := 3) (N := some 8) (v := ?_) (a' := ?_) #[true, true, true, true, false, true, false, true, false, false, false, false, false] rfl rfl (by kernel_rfl) (fun _ _ _ h => h) (Or.inl ⟨by rfl, ?_⟩) hHeld ?_ ?_
  rotate_left
  · rintro w' ⟨s0, s1, s2, s3⟩
    go_simp
    with_reducible rfl
  rotate_left
  · simp only [Act.put, List.setIfInBounds_toArray, List.set_cons_zero, List.set_cons_succ, i64_w, i32_w]
    rfl
  refine take_ (i := 6) (N := some 11) (v := ?_) (a' := ?_) #[true, true, true, true, false, true, true, true, false, false, false, false, false] rfl rfl (by kernel_rfl) (fun _ _ _ h => h) (Or.inl ⟨by rfl, ?_⟩) hHeld ?_ ?_
  rotate_left
  · rintro w' ⟨s0, s1, s2, s3⟩
    go_simp
    with_reducible rfl
  rotate_left
  · simp only [Act.put, List.setIfInBounds_toArray, List.set_cons_zero, List.set_cons_succ, i64_w, i32_w]
    rfl
  refine take_ (i := 8) (N := some 13) (v := ?_) (a' := ?_) #[true, true, true, true, false, true, true, true, true, false, false, false, false] rfl rfl (by kernel_rfl) (fun _ _ _ h => h) (Or.inl ⟨by rfl, ?_⟩) hHeld ?_ ?_
  rotate_left
  · rintro w' ⟨s0, s1, s2, s3⟩
    go_simp
    with_reducible rfl
  rotate_left
  · simp only [Act.put, List.setIfInBounds_toArray, List.set_cons_zero, List.set_cons_succ, i64_w, i32_w]
    rfl
  refine one_ (i := 4) (N := some 9) #[true, true, true, true, true, true, true, true, true, false, false, false, false] rfl rfl (by kernel_rfl) (by decide) (fun K hK => ?_)
  refine goes_ Try.func89 (by kernel_rfl) rfl #[.int .u64 x.1, .int .u64 y.1] (by rfl) rfl rfl (by (try simp only [List.map_toArray, List.map_cons, List.map_nil]); first | done | rfl) ?_
  refine (cmp_u64 x.1 y.1 _).mono ?_
  rintro r w5 ⟨rfl, rfl⟩
  refine ⟨_, rfl, ?_⟩
  refine hK.out _ _ ⟨hc_0, hc_1, hd_0, hd_1⟩ (fun hHeld => ?_)
  clear hK K
  refine norm_ (a' := ?_) ?_ ?_
  rotate_left
  · show Act.put _ (some 9) _ = _
    simp only [Act.put, List.setIfInBounds_toArray, List.set_cons_zero, List.set_cons_succ, i64_w, i32_w]
    rfl
  refine one_ (i := 9) (N := some 14) #[true, true, true, true, true, true, true, true, true, true, false, false, false] rfl rfl (by kernel_rfl) (by decide) (fun K hK => ?_)
  refine goes_ Try.func90 (by kernel_rfl) rfl #[.int .u32 x.2, .int .u32 y.2] (by rfl) rfl rfl (by (try simp only [List.map_toArray, List.map_cons, List.map_nil]); first | done | rfl) ?_
  refine (cmp_u32 x.2 y.2 _).mono ?_
  rintro r w5 ⟨rfl, rfl⟩
  refine ⟨_, rfl, ?_⟩
  refine hK.out _ _ ⟨hc_0, hc_1, hd_0, hd_1⟩ (fun hHeld => ?_)
  clear hK K
  refine norm_ (a' := ?_) ?_ ?_
  rotate_left
  · show Act.put _ (some 14) _ = _
    simp only [Act.put, List.setIfInBounds_toArray, List.set_cons_zero, List.set_cons_succ, i64_w, i32_w]
    rfl
  refine last_ (i := 10) (N := some 15) #[true, true, true, true, true, true, true, true, true, true, true, false, false] rfl rfl (by kernel_rfl) (by decide) (fun K hK => ?_)
  refine value_ (w1 := ?_) (v := ?_) (by rfl) rfl ?_ ?_
  rotate_left 2
  · go_simp
    constructor
    · rfl
    · rfl
  refine hK.out _ _ ?_
  clear hK K
  refine norm_ (a' := ?_) ?_ ?_
  rotate_left
  · show Act.put _ (some 15) _ = _
    simp only [Act.put, List.setIfInBounds_toArray, List.set_cons_zero, List.set_cons_succ, i64_w, i32_w]
    rfl
  refine last_ (i := 11) (N := some 16) #[true, true, true, true, true, true, true, true, true, true, true, true, false] rfl rfl (by kernel_rfl) (by decide) (fun K hK => ?_)
  refine goes_ Try.func88 (by kernel_rfl) rfl #[.slice (some ⟨W.heap.size + 1 + 1, 0, none⟩) 2 2] (by rfl) rfl rfl (by (try simp only [List.map_toArray, List.map_cons, List.map_nil]); first | done | rfl) ?_
  refine (cmp_Or2 (compareInt x.1 y.1) (compareInt x.2 y.2) (W.heap.size + 1 + 1) 2 _ ((hS3.out.cell 0).trans rfl) ((hS3.out.cell 1).trans rfl)).mono ?_
  rintro r w5 ⟨rfl, rfl⟩
  refine ⟨_, rfl, ?_⟩
  refine hK.out _ _ ?_
  clear hK K
  refine norm_ (a' := ?_) ?_ ?_
  rotate_left
  · show Act.put _ (some 16) _ = _
    simp only [Act.put, List.setIfInBounds_toArray, List.set_cons_zero, List.set_cons_succ, i64_w, i32_w]
    rfl
  refine pure_ (i := 12) (N := some 4) (v := ?_) (a' := ?_) #[true, true, true, true, true, true, true, true, true, true, true, true, true] rfl rfl (by kernel_rfl) (fun _ _ _ h => h) (Or.inl ⟨by rfl, ?_⟩) ?_ ?_
  rotate_left
  · intro w'
    go_simp
    with_reducible rfl
  rotate_left
  · simp only [Act.put, List.setIfInBounds_toArray, List.set_cons_zero, List.set_cons_succ, i64_w, i32_w]
    rfl
  refine done_ (by kernel_rfl) ?_
  go_wp2_with (fail)
  go_ret
  exact ⟨rfl, 1, _, by rw [alloc_eq_grow, alloc_eq_grow, alloc_eq_grow, grow_grow, grow_grow]; rfl⟩
end Go.Proofs.Ytnmdckgaljldhaa.Tb
