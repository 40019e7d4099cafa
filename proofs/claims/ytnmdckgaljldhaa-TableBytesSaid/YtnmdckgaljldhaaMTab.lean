/- HTable1 HTable2 HTable3 HTable4 HTable5 LTable HTable6 HTable8 HTable9 HTable7 HTable10, in one text (merge.py). -/
import Derived.Test.YtnmdckgaljldhaaHSep
import Derived.Shelf.SlSortCmp.WholeK
import Derived.Test.YtnmdckgaljldhaaGx0
import Derived.Test.YtnmdckgaljldhaaHSortL
import Derived.Lib.SliceRun
/- table.Compare, walked. -/
import Derived.Test.YtnmdckgaljldhaaProg
import Derived.Below
import Derived.Deep.Draws
import Derived.Deep.AppendLies
import Derived.Maps.AppendAt
import Derived.OwnWalk
import Derived.Laws.BytesArg
import Derived.Laws.MakeOwn
import Derived.Laws.OwnMore
import Derived.Deep.OwnRows
import Derived.Tactics
import Derived.Lib.ConvBytes
import Derived.Laws.Slices
import Derived.WalkKit
import Derived.KernelRfl
import Derived.RowKit3
import Derived.Deep.LoopGhost
import Derived.Deep.QuietTactic
import Derived.BigQuiet
import Derived.WideLaws
import Derived.Deep.DeepCutAuto
import Derived.Deep.CutBlock
import Derived.Deep.RegionHeld3
import Derived.Laws.Rows
import Derived.Lib.AppendStr
import Derived.ArgAppend
import Derived.Laws.IdiomCopy
import Derived.OrdersHeld
import Derived.Laws.BitsLemmas
import Derived.RowKit
import Derived.Test.YtnmdckgaljldhaaWWords
import Derived.Test.YtnmdckgaljldhaaWLast
import Derived.Test.YtnmdckgaljldhaaWTab
import Derived.Test.YtnmdckgaljldhaaWFour
import Derived.Test.YtnmdckgaljldhaaWQPut
import Derived.Test.YtnmdckgaljldhaaWApart
import Derived.Test.YtnmdckgaljldhaaWArr
import Derived.Test.YtnmdckgaljldhaaWZeros
import Derived.Test.YtnmdckgaljldhaaWFoot
import Derived.Test.YtnmdckgaljldhaaWKept
import Derived.Test.YtnmdckgaljldhaaWShare
import Derived.Test.YtnmdckgaljldhaaWN
import Derived.Test.YtnmdckgaljldhaaWFootNe
import Derived.Test.YtnmdckgaljldhaaWAt
import Derived.Test.YtnmdckgaljldhaaWEqStruct
import Derived.Test.YtnmdckgaljldhaaWRepsOne
import Derived.Test.YtnmdckgaljldhaaWInv
import Derived.Test.YtnmdckgaljldhaaWInvWords
import Derived.Test.YtnmdckgaljldhaaWGuard
import Derived.Test.YtnmdckgaljldhaaWNEv
import Derived.Test.YtnmdckgaljldhaaWMore
set_option linter.unusedVariables false
set_option linter.unusedSimpArgs false
namespace Go.Proofs.Ytnmdckgaljldhaa.Tb
open Go Go.RowKit Go.Shelf Go.Lib Go.Sort Go.Proofs.YtnmdckgaljldhaaW.PrintWords Go.Proofs.YtnmdckgaljldhaaW.PrintLast Go.Proofs.YtnmdckgaljldhaaW.PrintMore Go.Proofs.Ytnmdckgaljldhaa.Sep
set_option maxHeartbeats 4000000
set_option maxRecDepth 100000
attribute [local go_sem] max2_int min2_int

/-- By Hash, then by At. -/
def orI (a b : Int) : Int := if a ≠ 0 then a else b
def cmpE (x y : Int × Int) : Int := orI (compareInt x.1 y.1) (compareInt x.2 y.2)

theorem nan_u64 (x : Int) (w : World) : Calls Try.prog 120 #[.int .u64 x] w fun e w' => e = .returned (.bool false) ∧ w' = w := by
  have hx : (x != x) = false := by simp
  go_enter Try.func120, Try.ntmps120
  go_wp2_with (fail)
  go_ret
  exact ⟨by first | rfl | (rw [hx]), rfl⟩
theorem cmp_u64 (x y : Int) (w : World) : Calls Try.prog 89 #[.int .u64 x, .int .u64 y] w fun e w' => e = .returned (.int .i64 (compareInt x y)) ∧ w' = w := by
  unfold compareInt
  have hx : (x != x) = false := by simp
  have hy : (y != y) = false := by simp
  by_cases h1 : x < y
  · have d1 : decide (x < y) = true := decide_eq_true h1
    rw [if_pos h1]
    go_enter Try.func89, Try.ntmps89
    go_wp2_with (fail)
    refine (nan_u64 x _).mono ?_
    intro ef_ wf_ hf_
    obtain ⟨h1f_, h2f_⟩ := hf_
    subst h1f_
    subst h2f_
    go_wp2_with (fail)
    refine (nan_u64 y _).mono ?_
    intro ef_ wf_ hf_
    obtain ⟨h1f_, h2f_⟩ := hf_
    subst h1f_
    subst h2f_
    go_wp2_with (fail)
    go_ret
    exact ⟨rfl, rfl⟩
  · have d1 : decide (x < y) = false := decide_eq_false h1
    rw [if_neg h1]
    by_cases h2 : y < x
    · have d2 : decide (y < x) = true := decide_eq_true h2
      have d3 : decide (x > y) = true := decide_eq_true h2
      rw [if_pos h2]
      go_enter Try.func89, Try.ntmps89
      go_wp2_with (fail)
      refine (nan_u64 x _).mono ?_
      intro ef_ wf_ hf_
      obtain ⟨h1f_, h2f_⟩ := hf_
      subst h1f_
      subst h2f_
      go_wp2_with (fail)
      refine (nan_u64 y _).mono ?_
      intro ef_ wf_ hf_
      obtain ⟨h1f_, h2f_⟩ := hf_
      subst h1f_
      subst h2f_
      go_wp2_with (fail)
      go_ret
      exact ⟨rfl, rfl⟩
    · have d2 : decide (y < x) = false := decide_eq_false h2
      have d3 : decide (x > y) = false := decide_eq_false h2
      rw [if_neg h2]
      go_enter Try.func89, Try.ntmps89
      go_wp2_with (fail)
      refine (nan_u64 x _).mono ?_
      intro ef_ wf_ hf_
      obtain ⟨h1f_, h2f_⟩ := hf_
      subst h1f_
      subst h2f_
      go_wp2_with (fail)
      refine (nan_u64 y _).mono ?_
      intro ef_ wf_ hf_
      obtain ⟨h1f_, h2f_⟩ := hf_
      subst h1f_
      subst h2f_
      go_wp2_with (fail)
      go_ret
      exact ⟨rfl, rfl⟩
theorem nan_u32 (x : Int) (w : World) : Calls Try.prog 121 #[.int .u32 x] w fun e w' => e = .returned (.bool false) ∧ w' = w := by
  have hx : (x != x) = false := by simp
  go_enter Try.func121, Try.ntmps121
  go_wp2_with (fail)
  go_ret
  exact ⟨by first | rfl | (rw [hx]), rfl⟩
theorem cmp_u32 (x y : Int) (w : World) : Calls Try.prog 90 #[.int .u32 x, .int .u32 y] w fun e w' => e = .returned (.int .i64 (compareInt x y)) ∧ w' = w := by
  unfold compareInt
  have hx : (x != x) = false := by simp
  have hy : (y != y) = false := by simp
  by_cases h1 : x < y
  · have d1 : decide (x < y) = true := decide_eq_true h1
    rw [if_pos h1]
    go_enter Try.func90, Try.ntmps90
    go_wp2_with (fail)
    refine (nan_u32 x _).mono ?_
    intro ef_ wf_ hf_
    obtain ⟨h1f_, h2f_⟩ := hf_
    subst h1f_
    subst h2f_
    go_wp2_with (fail)
    refine (nan_u32 y _).mono ?_
    intro ef_ wf_ hf_
    obtain ⟨h1f_, h2f_⟩ := hf_
    subst h1f_
    subst h2f_
    go_wp2_with (fail)
    go_ret
    exact ⟨rfl, rfl⟩
  · have d1 : decide (x < y) = false := decide_eq_false h1
    rw [if_neg h1]
    by_cases h2 : y < x
    · have d2 : decide (y < x) = true := decide_eq_true h2
      have d3 : decide (x > y) = true := decide_eq_true h2
      rw [if_pos h2]
      go_enter Try.func90, Try.ntmps90
      go_wp2_with (fail)
      refine (nan_u32 x _).mono ?_
      intro ef_ wf_ hf_
      obtain ⟨h1f_, h2f_⟩ := hf_
      subst h1f_
      subst h2f_
      go_wp2_with (fail)
      refine (nan_u32 y _).mono ?_
      intro ef_ wf_ hf_
      obtain ⟨h1f_, h2f_⟩ := hf_
      subst h1f_
      subst h2f_
      go_wp2_with (fail)
      go_ret
      exact ⟨rfl, rfl⟩
    · have d2 : decide (y < x) = false := decide_eq_false h2
      have d3 : decide (x > y) = false := decide_eq_false h2
      rw [if_neg h2]
      go_enter Try.func90, Try.ntmps90
      go_wp2_with (fail)
      refine (nan_u32 x _).mono ?_
      intro ef_ wf_ hf_
      obtain ⟨h1f_, h2f_⟩ := hf_
      subst h1f_
      subst h2f_
      go_wp2_with (fail)
      refine (nan_u32 y _).mono ?_
      intro ef_ wf_ hf_
      obtain ⟨h1f_, h2f_⟩ := hf_
      subst h1f_
      subst h2f_
      go_wp2_with (fail)
      go_ret
      exact ⟨rfl, rfl⟩
/-- cmp.Or of two. -/
theorem cmp_Or2 (a b : Int) (blk c : Nat) (w : World) (h0 : w.cell? ⟨blk, 0, none⟩ = some (.int .i64 a)) (h1 : w.cell? ⟨blk, 1, none⟩ = some (.int .i64 b)) :
    Calls Try.prog 88 #[.slice (some ⟨blk, 0, none⟩) 2 c] w fun e w' => e = .returned (.int .i64 (orI a b)) ∧ w' = w := by
  unfold orI
  by_cases ha : a = 0
  · have d1 : (a != 0) = false := by simp [ha]
    rw [if_neg (by simpa using ha)]
    by_cases hb : b = 0
    · have d2 : (b != 0) = false := by simp [hb]
      rw [hb]
      go_enter Try.func88, Try.ntmps88
      go_wp2_with (fail)
      refine wp_loop_rounds 3 ?_
      rw [rounds_succ]
      go_wp2_with (fail)
      rw [rounds_succ]
      go_wp2_with (fail)
      rw [rounds_succ]
      go_wp2_with (fail)
      go_ret
      exact ⟨rfl, rfl⟩
    · have d2 : (b != 0) = true := by simp [hb]
      go_enter Try.func88, Try.ntmps88
      go_wp2_with (fail)
      refine wp_loop_rounds 3 ?_
      rw [rounds_succ]
      go_wp2_with (fail)
      rw [rounds_succ]
      go_wp2_with (fail)
      go_ret
      exact ⟨rfl, rfl⟩
  · have d1 : (a != 0) = true := by simp [ha]
    rw [if_pos ha]
    go_enter Try.func88, Try.ntmps88
    go_wp2_with (fail)
    refine wp_loop_rounds 3 ?_
    rw [rounds_succ]
    go_wp2_with (fail)
    go_ret
    exact ⟨rfl, rfl⟩

/-- The comparison: in whatever world; what it lays lies behind. -/
theorem table_Compare (x y : Int × Int) (W : World) : Calls Try.prog 47 #[.agg #[.int .u64 x.1, .int .u32 x.2], .agg #[.int .u64 y.1, .int .u32 y.2]] W fun e w' => e = .returned (.int .i64 (cmpE x y)) ∧ ∃ q os', w' = grow (W.drewN q) os' := by
  have hu := Try.underlying81
  unfold cmpE
  have h1 := (((Sep.start W).alloc #[.int .u64 x.1, .int .u32 x.2] 81).alloc #[.int .u64 y.1, .int .u32 y.2] 81)
  have hsz : (W.alloc (.cells #[.int .u64 x.1, .int .u32 x.2] 81)).heap.size = W.heap.size + 1 := by show (W.heap.push _).size = _; simp
  rw [hsz] at h1
  have hS := Aside0.mk h1
  clear h1 hsz
  go_enter Try.func47, Try.ntmps47
  go_wp2_with (fail)
  have hx0 := (hS.out.pick1.cell 0).trans rfl
  have hc_0 : ((W.alloc (.cells #[.int .u64 x.1, .int .u32 x.2] 81)).alloc (.cells #[.int .u64 y.1, .int .u32 y.2] 81)).cell? ⟨W.heap.size, 0, none⟩ = some (.int .u64 x.1) := (((hS.out.pick1)).cell 0).trans rfl; have hc_1 : ((W.alloc (.cells #[.int .u64 x.1, .int .u32 x.2] 81)).alloc (.cells #[.int .u64 y.1, .int .u32 y.2] 81)).cell? ⟨W.heap.size, 1, none⟩ = some (.int .u32 x.2) := (((hS.out.pick1)).cell 1).trans rfl
  have hd_0 : ((W.alloc (.cells #[.int .u64 x.1, .int .u32 x.2] 81)).alloc (.cells #[.int .u64 y.1, .int .u32 y.2] 81)).cell? ⟨(W.heap.size + 1), 0, none⟩ = some (.int .u64 y.1) := (((hS.out)).cell 0).trans rfl; have hd_1 : ((W.alloc (.cells #[.int .u64 x.1, .int .u32 x.2] 81)).alloc (.cells #[.int .u64 y.1, .int .u32 y.2] 81)).cell? ⟨(W.heap.size + 1), 1, none⟩ = some (.int .u32 y.2) := (((hS.out)).cell 1).trans rfl
  clear hx0
  have h3 := (hS.out.alloc #[.int .i64 (compareInt x.1 y.1), .int .i64 (compareInt x.2 y.2)] 3).drew
  have hsz2 : ((W.alloc (.cells #[.int .u64 x.1, .int .u32 x.2] 81)).alloc (.cells #[.int .u64 y.1, .int .u32 y.2] 81)).heap.size = W.heap.size + 1 + 1 := by show ((W.heap.push _).push _).size = _; simp
  rw [hsz2] at h3
  have hS3 := Aside0.mk h3
  clear h3 hsz2
  refine start_ (n := 13) (S := fun w' => w'.cell? ⟨W.heap.size, 0, none⟩ = some (.int .u64 x.1) ∧ w'.cell? ⟨W.heap.size, 1, none⟩ = some (.int .u32 x.2) ∧ w'.cell? ⟨W.heap.size + 1, 0, none⟩ = some (.int .u64 y.1) ∧ w'.cell? ⟨W.heap.size + 1, 1, none⟩ = some (.int .u32 y.2)) (ds := [10, 11]) #[false, false, false, false, false, false, false, false, false, false, false, false, false] (by kernel_rfl) rfl rfl ⟨hc_0, hc_1, hd_0, hd_1⟩ (fun hHeld => ?_)
  refine pure_ (i := 0) (N := some 5) (v := ?_) (a' := ?_) #[true, false, false, false, false, false, false, false, false, false, false, false, false] rfl rfl (by kernel_rfl) (fun _ _ _ h => h) (Or.inl ⟨by rfl, ?_⟩) ?_ ?_
  rotate_left
  · intro w'
    go_simp
    with_reducible rfl
  rotate_left
  · simp only [Act.put, List.setIfInBounds_toArray, List.set_cons_zero, List.set_cons_succ, i64_w, i32_w]
    rfl
  refine pure_ (i := 2) (N := some 7) (v := ?_) (a' := ?_) #[true, false, true, false, false, false, false, false, false, false, false, false, false] rfl rfl (by kernel_rfl) (fun _ _ _ h => h) (Or.inl ⟨by rfl, ?_⟩) ?_ ?_
  rotate_left
  · intro w'
    go_simp
    with_reducible rfl
  rotate_left
  · simp only [Act.put, List.setIfInBounds_toArray, List.set_cons_zero, List.set_cons_succ, i64_w, i32_w]
    rfl
  refine pure_ (i := 5) (N := some 10) (v := ?_) (a' := ?_) #[true, false, true, false, false, true, false, false, false, false, false, false, false] rfl rfl (by kernel_rfl) (fun _ _ _ h => h) (Or.inl ⟨by rfl, ?_⟩) ?_ ?_
  rotate_left
  · intro w'
    go_simp
    with_reducible rfl
  rotate_left
  · simp only [Act.put, List.setIfInBounds_toArray, List.set_cons_zero, List.set_cons_succ, i64_w, i32_w]
    rfl
  refine pure_ (i := 7) (N := some 12) (v := ?_) (a' := ?_) #[true, false, true, false, false, true, false, true, false, false, false, false, false] rfl rfl (by kernel_rfl) (fun _ _ _ h => h) (Or.inl ⟨by rfl, ?_⟩) ?_ ?_
  rotate_left
  · intro w'
    go_simp
    with_reducible rfl
  rotate_left
  · simp only [Act.put, List.setIfInBounds_toArray, List.set_cons_zero, List.set_cons_succ, i64_w, i32_w]
    rfl
  refine take_ (i := 1) (N := some 6) (v := ?_) (a' := ?_) #[true, true, true, false, false, true, false, true, false, false, false, false, false] rfl rfl (by kernel_rfl) (fun _ _ _ h => h) (Or.inl ⟨by rfl, ?_⟩) hHeld ?_ ?_
  rotate_left
  · rintro w' ⟨s0, s1, s2, s3⟩
    go_simp
    with_reducible rfl
  rotate_left
  · simp only [Act.put, List.setIfInBounds_toArray, List.set_cons_zero, List.set_cons_succ, i64_w, i32_w]
    rfl
  refine take_ (i := 3) (N := some 8) (v := ?_) (a' := ?_) #[true, true, true, true, false, true, false, true, false, false, false, false, false] rfl rfl (by kernel_rfl) (fun _ _ _ h => h) (Or.inl ⟨by rfl, ?_⟩) hHeld ?_ ?_
  rotate_left
  · rintro w' ⟨s0, s1, s2, s3⟩
    go_simp
    with_reducible rfl
  rotate_left
  · simp only [Act.put, List.setIfInBounds_toArray, List.set_cons_zero, List.set_cons_succ, i64_w, i32_w]
    rfl
  refine take_ (i := 6) (N := some 11) (v := ?_) (a' := ?_) #[true, true, true, true, false, true, true, true, false, false, false, false, false] rfl rfl (by kernel_rfl) (fun _ _ _ h => h) (Or.inl ⟨by rfl, ?_⟩) hHeld ?_ ?_
  rotate_left
  · rintro w' ⟨s0, s1, s2, s3⟩
    go_simp
    with_reducible rfl
  rotate_left
  · simp only [Act.put, List.setIfInBounds_toArray, List.set_cons_zero, List.set_cons_succ, i64_w, i32_w]
    rfl
  refine take_ (i := 8) (N := some 13) (v := ?_) (a' := ?_) #[true, true, true, true, false, true, true, true, true, false, false, false, false] rfl rfl (by kernel_rfl) (fun _ _ _ h => h) (Or.inl ⟨by rfl, ?_⟩) hHeld ?_ ?_
  rotate_left
  · rintro w' ⟨s0, s1, s2, s3⟩
    go_simp
    with_reducible rfl
  rotate_left
  · simp only [Act.put, List.setIfInBounds_toArray, List.set_cons_zero, List.set_cons_succ, i64_w, i32_w]
    rfl
  refine one_ (i := 4) (N := some 9) #[true, true, true, true, true, true, true, true, true, false, false, false, false] rfl rfl (by kernel_rfl) (by decide) (fun K hK => ?_)
  refine goes_ Try.func89 (by kernel_rfl) rfl #[.int .u64 x.1, .int .u64 y.1] (by rfl) rfl rfl (by (try simp only [List.map_toArray, List.map_cons, List.map_nil]); first | done | rfl) ?_
  refine (cmp_u64 x.1 y.1 _).mono ?_
  rintro r w5 ⟨rfl, rfl⟩
  refine ⟨_, rfl, ?_⟩
  refine hK.out _ _ ⟨hc_0, hc_1, hd_0, hd_1⟩ (fun hHeld => ?_)
  clear hK K
  refine norm_ (a' := ?_) ?_ ?_
  rotate_left
  · show Act.put _ (some 9) _ = _
    simp only [Act.put, List.setIfInBounds_toArray, List.set_cons_zero, List.set_cons_succ, i64_w, i32_w]
    rfl
  refine one_ (i := 9) (N := some 14) #[true, true, true, true, true, true, true, true, true, true, false, false, false] rfl rfl (by kernel_rfl) (by decide) (fun K hK => ?_)
  refine goes_ Try.func90 (by kernel_rfl) rfl #[.int .u32 x.2, .int .u32 y.2] (by rfl) rfl rfl (by (try simp only [List.map_toArray, List.map_cons, List.map_nil]); first | done | rfl) ?_
  refine (cmp_u32 x.2 y.2 _).mono ?_
  rintro r w5 ⟨rfl, rfl⟩
  refine ⟨_, rfl, ?_⟩
  refine hK.out _ _ ⟨hc_0, hc_1, hd_0, hd_1⟩ (fun hHeld => ?_)
  clear hK K
  refine norm_ (a' := ?_) ?_ ?_
  rotate_left
  · show Act.put _ (some 14) _ = _
    simp only [Act.put, List.setIfInBounds_toArray, List.set_cons_zero, List.set_cons_succ, i64_w, i32_w]
    rfl
  refine last_ (i := 10) (N := some 15) #[true, true, true, true, true, true, true, true, true, true, true, false, false] rfl rfl (by kernel_rfl) (by decide) (fun K hK => ?_)
  refine value_ (w1 := ?_) (v := ?_) (by rfl) rfl ?_ ?_
  rotate_left 2
  · go_simp
    constructor
    · rfl
    · rfl
  refine hK.out _ _ ?_
  clear hK K
  refine norm_ (a' := ?_) ?_ ?_
  rotate_left
  · show Act.put _ (some 15) _ = _
    simp only [Act.put, List.setIfInBounds_toArray, List.set_cons_zero, List.set_cons_succ, i64_w, i32_w]
    rfl
  refine last_ (i := 11) (N := some 16) #[true, true, true, true, true, true, true, true, true, true, true, true, false] rfl rfl (by kernel_rfl) (by decide) (fun K hK => ?_)
  refine goes_ Try.func88 (by kernel_rfl) rfl #[.slice (some ⟨W.heap.size + 1 + 1, 0, none⟩) 2 2] (by rfl) rfl rfl (by (try simp only [List.map_toArray, List.map_cons, List.map_nil]); first | done | rfl) ?_
  refine (cmp_Or2 (compareInt x.1 y.1) (compareInt x.2 y.2) (W.heap.size + 1 + 1) 2 _ ((hS3.out.cell 0).trans rfl) ((hS3.out.cell 1).trans rfl)).mono ?_
  rintro r w5 ⟨rfl, rfl⟩
  refine ⟨_, rfl, ?_⟩
  refine hK.out _ _ ?_
  clear hK K
  refine norm_ (a' := ?_) ?_ ?_
  rotate_left
  · show Act.put _ (some 16) _ = _
    simp only [Act.put, List.setIfInBounds_toArray, List.set_cons_zero, List.set_cons_succ, i64_w, i32_w]
    rfl
  refine pure_ (i := 12) (N := some 4) (v := ?_) (a' := ?_) #[true, true, true, true, true, true, true, true, true, true, true, true, true] rfl rfl (by kernel_rfl) (fun _ _ _ h => h) (Or.inl ⟨by rfl, ?_⟩) ?_ ?_
  rotate_left
  · intro w'
    go_simp
    with_reducible rfl
  rotate_left
  · simp only [Act.put, List.setIfInBounds_toArray, List.set_cons_zero, List.set_cons_succ, i64_w, i32_w]
    rfl
  refine done_ (by kernel_rfl) ?_
  go_wp2_with (fail)
  go_ret
  exact ⟨rfl, 1, _, by rw [alloc_eq_grow, alloc_eq_grow, alloc_eq_grow, grow_grow, grow_grow]; rfl⟩
end Go.Proofs.Ytnmdckgaljldhaa.Tb

/- table: rows of entries as slices.SortFunc has them; Clone. (needs gprint: Gx0 with S81; HSortL: the laying of slices.SortFunc in plain words) -/
set_option linter.unusedVariables false
set_option linter.unusedSimpArgs false
namespace Go.Proofs.Ytnmdckgaljldhaa.Tb
open Go Go.RowKit Go.Shelf Go.Lib Go.Sort Go.Proofs.YtnmdckgaljldhaaW.PrintWords Go.Proofs.YtnmdckgaljldhaaW.PrintLast Go.Proofs.YtnmdckgaljldhaaW.PrintMore Go.Proofs.Ytnmdckgaljldhaa.Sep Go.Proofs.Ytnmdckgaljldhaa.G
set_option maxHeartbeats 4000000
set_option maxRecDepth 100000

abbrev E1 := S81
abbrev kE : Kd E1 := k81
instance : Inhabited E1 := ⟨z81⟩
def encE (x : E1) : List Value := [.int .u64 x.f0, .int .u32 x.f1]

theorem heap_sortedK {w : World} {g n : Nat} {os : Array Obj} {cur : Array Value} {e : TypeId} {fr : Nat × Nat} (F : Array Value) (hb : w.heap[g]? = some (.cells cur e fr)) :
    (grow (putRow id (Sort.ahead w n) g 0 F) os).heap[g]? = some (.cells (putCells id 0 F cur) e fr) := by
  have hg : g < w.heap.size := (Array.getElem?_eq_some_iff.1 hb).1
  rw [heap_grow_old _ _ (by simpa using hg)]
  simp [putRow, mapBlock, Sort.ahead, Array.getElem?_modify, hb, onCells]
theorem grownBy_sortedK {w : World} {g n : Nat} {os : Array Obj} (F : Array Value) : w.grownBy (grow (putRow id (Sort.ahead w n) g 0 F) os) (some g) := by
  refine ⟨rfl, rfl, rfl, by simp, fun k hk hne => ?_⟩
  rw [heap_grow_old _ _ (by simpa using hk)]
  have : g ≠ k := fun e => hne (by rw [e])
  simp [putRow, mapBlock, Sort.ahead, Array.getElem?_modify, this]
theorem take_putCellsK (cur F : Array Value) (h : F.size ≤ cur.size) : (putCells id 0 F cur).toList.take F.size = F.toList := by
  apply List.ext_getElem?
  intro j
  by_cases hj : j < F.size
  · rw [List.getElem?_take_of_lt hj, Array.getElem?_toList, Array.getElem?_toList]
    simp [putCells, hj, show j < cur.size by omega]
  · rw [List.getElem?_take_eq_none (by omega), List.getElem?_eq_none (by simp; omega)]
theorem reps_eq {α : Type} {R R' : α → List Value → Prop} {k : Nat} (hk : 0 < k) {l : List α} {a b : List Value} (ha : Reps R k l a) (hb : Reps R' k l b) (h : ∀ p c c', R p c → R' p c' → c = c') : a = b := by
  apply List.ext_getElem?
  intro q
  by_cases hq : q < l.length * k
  · have hj : q / k < l.length := Nat.div_lt_of_lt_mul (by rw [Nat.mul_comm]; exact hq)
    have h4 := congrArg (fun c => c[q % k]?) (h _ _ _ (ha.2 (q / k) _ (List.getElem?_eq_getElem hj)) (hb.2 (q / k) _ (List.getElem?_eq_getElem hj)))
    simp only [List.getElem?_take, List.getElem?_drop, if_pos (Nat.mod_lt q hk)] at h4
    rw [Nat.mul_comm, Nat.div_add_mod] at h4
    exact h4
  · rw [List.getElem?_eq_none (by rw [ha.1]; omega), List.getElem?_eq_none (by rw [hb.1]; omega)]
theorem reps_flat {R : E1 → List Value → Prop} (hR : ∀ x, R x (encE x)) (l : List E1) : Reps R 2 l (flatK encE 2 l.toArray).toList := by
  refine ⟨by simp, fun j p hj => ?_⟩
  obtain ⟨hjl, hp⟩ := List.getElem?_eq_some_iff.1 hj
  have he : ((flatK encE 2 l.toArray).toList.drop (j * 2)).take 2 = encE p := by
    apply List.ext_getElem?
    intro t
    by_cases ht : t < 2
    · rw [List.getElem?_take_of_lt ht, List.getElem?_drop, Array.getElem?_toList]
      have hlt : j * 2 + t < (flatK encE 2 l.toArray).size := by rw [size_flatK]; simp; omega
      have h1 := get_flatK encE 2 l.toArray (j * 2 + t) (by simp; omega)
      rw [show (j * 2 + t) / 2 = j by omega, show (j * 2 + t) % 2 = t by omega] at h1
      rw [getElem!_pos (flatK encE 2 l.toArray) (j * 2 + t) hlt, getElem!_pos l.toArray j (by simpa using hjl), getElem!_pos (encE (l.toArray[j]'(by simpa using hjl))) t (by simpa [encE] using ht)] at h1
      rw [Array.getElem?_eq_getElem hlt, h1]
      have hlp : l.toArray[j] = p := by simpa using hp
      rw [List.getElem?_eq_getElem (by simpa [encE] using ht)]
      simp only [hlp]
    · rw [List.getElem?_take_eq_none (by omega), List.getElem?_eq_none (by simp [encE]; omega)]
  rw [he]; exact hR p

/-- A row of its own, as the sort has it; and what it is behind the sort. -/
theorem sort_R {w : World} {base g n cap : Nat} {ok : Nat → Prop} {l : List E1} (h : kE.R 81 w base ok (.slice (some ⟨g, 0, none⟩) n cap) l) :
    HoldsK encE 2 w g 0 l.toArray ∧ g < w.heap.size ∧ n = l.length ∧ ∀ m os (l' : List E1), l'.length = l.length →
      kE.R 81 (sortWorldK encE 2 w g 0 m l'.toArray os) base ok (.slice (some ⟨g, 0, none⟩) n cap) l' ∧ w.grownBy (sortWorldK encE 2 w g 0 m l'.toArray os) (some g) := by
  obtain ⟨h0, inner, ⟨hlen, hor⟩, hr⟩ := h
  rcases hor with ⟨hv, _⟩ | ⟨g', cap', cur, hv, hbase, hb, hn, hcap, hsz, htk⟩
  · cases hv
  · have hv' := hv
    injection hv' with e1 e2 e3
    injection e1 with e1
    injection e1 with e1 _ _
    subst e1 e3
    have hsz2 : cur.size = cap * 2 := hsz
    have htk2 : cur.toList.take (l.length * 2) = inner := htk
    have hin : inner = (flatK encE 2 l.toArray).toList := reps_eq (by decide) hr (reps_flat (R := fun x c => c = encE x) (fun _ => rfl) l) (fun p c c' hc hc' => by
      rw [hc']; exact k81_openM hc)
    refine ⟨?_, (Array.getElem?_eq_some_iff.1 hb).1, e2, fun m os l' hl => ⟨⟨h0, (flatK encE 2 l'.toArray).toList, ⟨by show _ = _ * 2; simp, .inr ⟨g, cap, _, by rw [e2, hl], hbase, heap_sortedK _ hb, by omega, hcap, ?_, ?_⟩⟩, ?_⟩, grownBy_sortedK _⟩⟩
    · intro j hj
      have hj2 : j < l.length * 2 := by simpa using hj
      refine ⟨?_, by simp [World.frozen?, hb]⟩
      have h1 : (cur.toList.take (l.length * 2))[j]? = (flatK encE 2 l.toArray).toList[j]? := by rw [htk2, hin]
      rw [List.getElem?_take_of_lt hj2, Array.getElem?_toList, Array.getElem?_toList] at h1
      simp only [World.cell?, hb, Nat.zero_add]
      simp only [Option.isSome_none, Bool.false_eq_true, if_false]
      rw [h1, Array.getElem?_eq_getElem hj, getElem!_pos _ j hj]
      rfl
    · show (putCells id 0 _ cur).size = cap * 2
      simp [putCells, hsz2]
    · show (putCells id 0 _ cur).toList.take (l'.length * 2) = _
      have := take_putCellsK cur (flatK encE 2 l'.toArray) (by rw [size_flatK]; simp only [List.size_toArray]; omega)
      rwa [size_flatK, List.size_toArray] at this
    · exact reps_flat (fun x => k81_mkM _ _ _ x) l'
end Go.Proofs.Ytnmdckgaljldhaa.Tb

/- table: the order of entries; slices.SortFunc, Clone. -/
set_option linter.unusedVariables false
set_option linter.unusedSimpArgs false
namespace Go.Proofs.Ytnmdckgaljldhaa.Tb
open Go Go.RowKit Go.Shelf Go.Lib Go.Sort Go.Proofs.YtnmdckgaljldhaaW.PrintWords Go.Proofs.YtnmdckgaljldhaaW.PrintLast Go.Proofs.YtnmdckgaljldhaaW.PrintMore Go.Proofs.Ytnmdckgaljldhaa.Sep Go.Proofs.Ytnmdckgaljldhaa.G
set_option maxHeartbeats 4000000
set_option maxRecDepth 100000

def cfE (x y : E1) : Int := cmpE (x.f0, x.f1) (y.f0, y.f1)
def lessE (x y : E1) : Prop := x.f0 < y.f0 ∨ x.f0 = y.f0 ∧ x.f1 < y.f1
instance (x y : E1) : Decidable (lessE x y) := by unfold lessE; infer_instance
/-- The comparison, in all three cases. -/
theorem cfE_lt {x y : E1} (h : lessE x y) : cfE x y = -1 := by
  unfold cfE cmpE orI compareInt
  rcases h with h | ⟨h1, h2⟩
  · simp [h]
  · simp [h1, h2]
theorem cfE_gt {x y : E1} (h : lessE y x) : cfE x y = 1 := by
  unfold cfE cmpE orI compareInt
  rcases h with h | ⟨h1, h2⟩
  · have : ¬ x.f0 < y.f0 := by omega
    simp [h, this]
  · have : ¬ x.f1 < y.f1 := by omega
    simp [h1, h2, this]
theorem lessE_tri (x y : E1) : lessE x y ∨ x = y ∨ lessE y x := by
  unfold lessE
  by_cases h1 : x.f0 < y.f0
  · exact .inl (.inl h1)
  by_cases h2 : y.f0 < x.f0
  · exact .inr (.inr (.inl h2))
  by_cases h3 : x.f1 < y.f1
  · exact .inl (.inr ⟨by omega, h3⟩)
  by_cases h4 : y.f1 < x.f1
  · exact .inr (.inr (.inr ⟨by omega, h4⟩))
  · refine .inr (.inl ?_)
    cases x; cases y
    simp only at h1 h2 h3 h4
    congr 1 <;> omega
theorem cfE_same (x : E1) : cfE x x = 0 := by
  unfold cfE cmpE orI compareInt
  simp
theorem ltOf_cfE (x y : E1) : ltOf cfE x y = decide (lessE x y) := by
  unfold ltOf
  rcases lessE_tri x y with h | h | h
  · rw [cfE_lt h]; exact (decide_eq_true (by decide)).trans (decide_eq_true h).symm
  · rw [h, cfE_same]; exact (decide_eq_false (by decide)).trans (decide_eq_false (by unfold lessE; omega)).symm
  · rw [cfE_gt h]; exact (decide_eq_false (by decide)).trans (decide_eq_false (by unfold lessE at *; omega)).symm
theorem swoE : SWO (ltOf cfE) where
  irrefl x := by rw [ltOf_cfE]; exact decide_eq_false (by unfold lessE; omega)
  trans x y z h1 h2 := by
    rw [ltOf_cfE] at *
    have a := of_decide_eq_true h1
    have b := of_decide_eq_true h2
    exact decide_eq_true (by unfold lessE at *; omega)
  ntrans x y z h1 h2 := by
    rw [ltOf_cfE] at *
    have a := of_decide_eq_false h1
    have b := of_decide_eq_false h2
    exact decide_eq_false (by unfold lessE at *; omega)

/-- Sorted: no later one is less than an earlier one. -/
def Srt (l : List E1) : Prop := l.Pairwise fun x y => ¬ lessE y x

theorem sort_call (w0 w : World) (g n cap : Nat) (l : List E1) (ps : List HP) (h : Sep.Sep w0 w (row kE 81 (.slice (some ⟨g, 0, none⟩) n cap) l :: ps)) (hl : l.length < 4611686018427387904) :
    Calls Try.prog 86 #[.slice (some ⟨g, 0, none⟩) n cap, .func (.func 47) #[] #[]] w fun r w' => r = .returned (.tuple #[]) ∧
      ∃ l' : List E1, l'.Perm l ∧ Srt l' ∧ Sep.Sep w0 w' (row kE 81 (.slice (some ⟨g, 0, none⟩) n cap) l' :: ps) := by
  obtain ⟨bs, hR, hclose⟩ := h.row_open
  obtain ⟨hH, hg, hn, hS⟩ := sort_R hR
  have eg : ∀ args w, (callFunc 47 args).run Try.prog w = .ok (.enter 47 args) w := enters_of Try.func47 (by kernel_rfl) rfl
  have hcon := AnyQ.slices_SortFunc Try.sortL 2 Try.isAgg81 Try.sizeOf81 encE (fun _ => rfl) (fun x v hv => by simp [encE] at hv; rcases hv with rfl | rfl <;> rfl) cfE swoE 47 #[] g 0 cap l.toArray w eg
    (fun _ _ _ _ x y => table_Compare (x.f0, x.f1) (y.f0, y.f1) _) hH hg (by simpa using hl)
  rw [hn, ← List.size_toArray]
  refine hcon.mono ?_
  rintro e w' ⟨rfl, d', m, os, hp, hs, rfl⟩
  obtain ⟨hp1, -, hp2⟩ := hp
  have hsz : d'.size = l.length := by rw [hp1]; simp
  have hx1 : (d'.extract 0 l.toArray.size).toList = d'.toList := by rw [List.size_toArray, ← hsz]; simp
  have hx2 : (l.toArray.extract 0 l.toArray.size).toList = l := by simp
  rw [hx1, hx2] at hp2
  have hk := hS m os d'.toList (by simpa using hsz)
  rw [Array.toArray_toList] at hk
  refine ⟨rfl, d'.toList, hp2, ?_, ?_⟩
  · refine List.pairwise_iff_getElem.2 fun i j hi hj hij => ?_
    have hi' : i < d'.size := by simpa using hi
    have hj' : j < d'.size := by simpa using hj
    have h1 := hs i j (Nat.zero_le _) hij (by rw [List.size_toArray, ← hsz]; exact hj')
    rw [getElem!_pos d' j hj', getElem!_pos d' i hi', ltOf_cfE] at h1
    simpa using of_decide_eq_false h1
  · have := hclose _ _ _ (Kd.R_mono hk.1 (fun _ hb => .inl hb)) hk.2
    rw [hn] at this
    simpa using this
end Go.Proofs.Ytnmdckgaljldhaa.Tb

/- table: slices.Clone. -/
set_option linter.unusedVariables false
set_option linter.unusedSimpArgs false
namespace Go.Proofs.Ytnmdckgaljldhaa.Tb
open Go Go.RowKit Go.Proofs.YtnmdckgaljldhaaW.PrintWords Go.Proofs.YtnmdckgaljldhaaW.PrintLast Go.Proofs.YtnmdckgaljldhaaW.PrintMore Go.Proofs.Ytnmdckgaljldhaa.Sep Go.Proofs.Ytnmdckgaljldhaa.G
set_option maxHeartbeats 4000000
set_option maxRecDepth 100000

theorem clone_nil (c : Nat) (w : World) : Calls Try.prog 85 #[.slice none 0 c] w fun r w' => r = .returned (.slice none 0 0) ∧ w' = w := by
  have hq := fun W => Go.Lib.run_eql_slice_nil (P := Try.prog) W 77 _ none 0 c 0 0 Try.underlying77
  go_enter Try.func85, Try.ntmps85
  go_wp2_with (fail)
  go_ret
  exact ⟨rfl, rfl⟩
theorem clone_some (ad : Addr) (c : Nat) (l : List E1) (w : World) (hC : kE.C w (some ad) l.length l) (hl : l.length ≤ 1000000) :
    Calls Try.prog 85 #[.slice (some ad) l.length c] w fun r w' => (∃ g cap, r = .returned (.slice (some ⟨g, 0, none⟩) l.length cap) ∧ kE.R 81 w' w.heap.size (fun _ => True) (.slice (some ⟨g, 0, none⟩) l.length cap) l) ∧ Below w.heap.size w w' := by
  have hq := fun W => Go.Lib.run_eql_slice_nil (P := Try.prog) W 77 _ (some ad) l.length c 0 0 Try.underlying77
  have hC1 := Aside0.mk hC
  have hlA := Aside0.mk hl
  clear hC hl
  go_enter Try.func85, Try.ntmps85
  go_wp2_with (first
    | ((with_reducible refine gate_dst (N := 5) rfl ?_); refine Kd.R_lit kE w.heap.size 81 ?hg (N := 5) ?hd (w0 := w) (xs := ([] : List E1)) (inner := []) (ok := fun _ => True) (okp := fun _ => True) ?hr ?hp (fun _ hk => hk) trivial (Below.refl _ _) (Nat.le_refl _) (by simp) ?_; (case hd => rfl); (case hg => rfl); (case hr => first | (go_simp; done) | (go_simp; rfl)); (case hp => exact (Reps.none _ _)); intro v2 w2 ho2 hb2 hg2 hn2; have hC2 := Aside0.mk (Kd.C_below hC1.out (show Below w.heap.size w w2 from hb2)); have ho2A := Aside0.mk ho2; have hb2A := Aside0.mk hb2; have hn2A := Aside0.mk hn2; clear hg2 hn2 ho2 hb2)
    | ((with_reducible refine gate_builtin (b := .append) (xs := #[.tmp 5, .tmp 6]) rfl ?_); at_builtin; refine Kd.R_append_rows kE (Rr := fun x cs => kE.K w2 x cs) (w0 := w) w.heap.size rfl (.tmp 5) (.tmp 6) 77 81 (.agg #[.int .u64 0, .int .u32 0]) 16 rfl Try.underlying77 (by kernel_rfl) rfl (by decide) (by omega) v2 ([] : List E1) l _ _ _ (fun _ => True) (fun _ => False) rfl rfl ?aO ?aR ?aM (fun _ h => h.elim) ?aF ?aB ?aS ?aL ?_; (case aR => exact hC2.out); (case aM => (intro x_ cs_ h_; obtain rfl := k81_open h_; exact k81_mkM _ _ _ _)); (case aO => exact ho2A.out); (case aF => exact fun _ _ => trivial); (case aB => exact hb2A.out); (case aS => exact hb2A.out.size); (case aL => (have := hlA.out; simp only [List.length_nil]; omega)); intro v3 w3 ho3 hb3 hg3 hat3; have ho3A := Aside0.mk ho3; have hb3A := Aside0.mk hb3; have hat3A := Aside0.mk hat3; clear ho3 hb3 hg3 hat3))
  go_ret
  have ho := ho3A.out
  rw [List.nil_append] at ho
  have hown : ∃ b, v3.ownBlock = some b := by
    rcases hat3A.out with h | ⟨b, h, _⟩
    · obtain ⟨b, hb, _⟩ := hn2A.out
      exact ⟨b, h.trans hb⟩
    · exact ⟨b, h⟩
  obtain ⟨b, hb⟩ := hown
  obtain ⟨A, cap, rfl⟩ := Kd.R_slice ho
  obtain ⟨_, inner, ⟨_, hor⟩, _⟩ := id ho
  rcases hor with ⟨hv, _⟩ | ⟨g, cap', cur, hv, _⟩
  · rw [hv] at hb; simp [Value.ownBlock] at hb
  · injection hv with e1 e2 e3
    subst e1
    exact ⟨⟨g, cap, rfl, ho⟩, hb3A.out⟩
end Go.Proofs.Ytnmdckgaljldhaa.Tb

/- table: slices.Compact where no two neighbours are alike. -/
set_option linter.unusedVariables false
set_option linter.unusedSimpArgs false
namespace Go.Proofs.Ytnmdckgaljldhaa.Tb
open Go Go.RowKit Go.Proofs.YtnmdckgaljldhaaW.PrintWords Go.Proofs.YtnmdckgaljldhaaW.PrintLast Go.Proofs.YtnmdckgaljldhaaW.PrintMore Go.Proofs.Ytnmdckgaljldhaa.Sep Go.Proofs.Ytnmdckgaljldhaa.G
set_option maxHeartbeats 4000000
set_option maxRecDepth 100000

theorem compact_plain (A : Option Addr) (c : Nat) (l : List E1) (w : World) (hC : kE.C w A l.length l) (hl : l.length ≤ 1000000) (hd : ∀ i : Nat, 1 ≤ i → i < l.length → rd_T81 l (i : Int) ≠ rd_T81 l ((i : Int) - 1)) :
    Calls Try.prog 87 #[.slice A l.length c] w fun r w' => r = .returned (.slice A l.length c) ∧ Drawn0 w w' := by
  have hCA := Aside0.mk hC
  have hlA := Aside0.mk hl
  have hdA := Aside0.mk hd
  clear hC hl hd
  by_cases h2 : l.length < 2
  · have e1 : decide ((l.length : Int) < 2) = true := decide_eq_true (by omega)
    have e2 : decide (l.length < 2) = true := decide_eq_true h2
    clear h2
    go_enter Try.func87, Try.ntmps87
    go_wp2_with (fail)
    go_ret
    exact ⟨rfl, Drawn0.refl _⟩
  · have e1 : decide ((l.length : Int) < 2) = false := decide_eq_false (by omega)
    have e2 : decide (l.length < 2) = false := decide_eq_false h2
    have h2A := Aside0.mk h2
    clear h2
    go_enter Try.func87, Try.ntmps87
    go_wp2_with (fail)
    go_loopg [3] l.length (fun kq v3 w' => ∃ (i : Nat), v3 = .int .i64 (i : Int) ∧ Aside0 (i + kq = l.length + 1 ∧ 1 ≤ i) ∧ Drawn0 w w')
    case atStart => exact ⟨1, rfl, ⟨by omega⟩, Drawn0.refl _⟩
    case round =>
      obtain ⟨i, rfl, hA, ⟨m1, rfl⟩⟩ := hrel
      by_cases hil : i < l.length
      · obtain ⟨k1, rfl⟩ : ∃ k1, gk = k1 + 1 := ⟨gk - 1, by have := hA.out; omega⟩
        have he : decide ((i : Int) < (l.length : Int)) = true := decide_eq_true (by omega)
        have he2 : decide (i < l.length) = true := decide_eq_true hil
        have h1i := hA.out.2
        have hA' : Aside0 (i + 1 + k1 = l.length + 1 ∧ 1 ≤ i + 1) := ⟨by have := hA.out; omega⟩
        have hw0 : wrap64 ((i : Int) - 1) = (i : Int) - 1 := by unfold wrap64; have := hlA.out; omega
        obtain ⟨z, hz⟩ : ∃ z, wrap64 ((i : Int) - 1) = z := ⟨_, rfl⟩
        have hzi : z = (i : Int) - 1 := hz.symm.trans hw0
        have hzw : IntKind.i64.wrap ((i : Int) - 1) = z := (i64_w _).trans hz
        clear hw0
        have hne := hdA.out i h1i hil
        rw [← hzi] at hne
        have p0 : (0 : Int) ≤ (i : Int) := by omega
        have q0 : (i : Int) < (l.length : Int) := by omega
        have p1 : (0 : Int) ≤ z := by omega
        have q1 : z < (l.length : Int) := by omega
        have hw1 : wrap64 ((i : Int) + 1) = ((i + 1 : Nat) : Int) := by unfold wrap64; have := hlA.out; omega
        obtain ⟨ad, ea, hx0, hx1⟩ := at_T81 hCA.out (i : Int) p0 q0
        obtain ⟨ad2, eb, hy0, hy1⟩ := at_T81 hCA.out (z) p1 q1
        subst ea
        cases eb
        rw [Int.toNat_natCast] at hx0 hx1
        have hb : ((rd_T81 l (i : Int)).f0 = (rd_T81 l z).f0) = False ∨ ((rd_T81 l (i : Int)).f0 = (rd_T81 l z).f0) = True ∧ ((rd_T81 l (i : Int)).f1 = (rd_T81 l z).f1) = False := by
          revert hne
          cases rd_T81 l (i : Int); cases rd_T81 l z
          intro hne
          rename_i a b c d
          by_cases h1 : a = c
          · refine .inr ⟨eq_true h1, eq_false fun h2 => hne (by rw [show a = c from h1, show b = d from h2])⟩
          · exact .inl (eq_false h1)
        replace p0 := eq_true p0
        replace q0 := eq_true q0
        replace p1 := eq_true p1
        replace q1 := eq_true q1
        clear hne h1i hil hzi
        rcases hb with hb0 | ⟨hb0, hb1⟩
        · skip
          go_wp2_with (fail)
          refine start_ (n := 10) (S := fun w' => w'.cell? (ad.add (i * 2)) = some (.int .u64 (rd_T81 l (i : Int)).f0) ∧ w'.cell? ⟨(ad.add (i * 2)).block, (ad.add (i * 2)).off + 1, none⟩ = some (.int .u32 (rd_T81 l (i : Int)).f1) ∧ w'.cell? (ad.add (z.toNat * 2)) = some (.int .u64 (rd_T81 l z).f0) ∧ w'.cell? ⟨(ad.add (z.toNat * 2)).block, (ad.add (z.toNat * 2)).off + 1, none⟩ = some (.int .u32 (rd_T81 l z).f1) ∧ ((rd_T81 l (i : Int)).f0 = (rd_T81 l z).f0) = False) (ds := []) #[false, false, false, false, false, false, false, false, false, false] (by kernel_rfl) rfl rfl ⟨hx0, hx1, hy0, hy1, hb0⟩ (fun hHeld => ?_)
          refine pure_ (i := 0) (N := some 16) (v := ?_) (a' := ?_) #[true, false, false, false, false, false, false, false, false, false] rfl rfl (by kernel_rfl) (fun _ _ _ h => h) (Or.inl ⟨by rfl, ?_⟩) ?_ ?_
          rotate_left
          · intro w'
            go_simp
            with_reducible rfl
          rotate_left
          · simp only [Act.put, List.setIfInBounds_toArray, List.set_cons_zero, List.set_cons_succ, i64_w, i32_w]
            rfl
          refine pure_ (i := 1) (N := some 17) (v := ?_) (a' := ?_) #[true, true, false, false, false, false, false, false, false, false] rfl rfl (by kernel_rfl) (fun _ _ _ h => h) (Or.inl ⟨by rfl, ?_⟩) ?_ ?_
          rotate_left
          · intro w'
            go_simp
            with_reducible rfl
          rotate_left
          · simp only [Act.put, List.setIfInBounds_toArray, List.set_cons_zero, List.set_cons_succ, i64_w, i32_w]
            rfl
          refine pure_ (i := 2) (N := some 18) (v := ?_) (a' := ?_) #[true, true, true, false, false, false, false, false, false, false] rfl rfl (by kernel_rfl) (fun _ _ _ h => h) (Or.inl ⟨by rfl, ?_⟩) ?_ ?_
          rotate_left
          · intro w'
            go_simp
            with_reducible rfl
          rotate_left
          · simp only [Act.put, List.setIfInBounds_toArray, List.set_cons_zero, List.set_cons_succ, i64_w, i32_w]
            rfl
          refine pure_ (i := 4) (N := some 20) (v := ?_) (a' := ?_) #[true, true, true, false, true, false, false, false, false, false] rfl rfl (by kernel_rfl) (fun _ _ _ h => h) (Or.inl ⟨by rfl, ?_⟩) ?_ ?_
          rotate_left
          · intro w'
            go_simp
            with_reducible rfl
          rotate_left
          · simp only [Act.put, List.setIfInBounds_toArray, List.set_cons_zero, List.set_cons_succ, i64_w, i32_w]
            rfl
          refine pure_ (i := 5) (N := some 21) (v := ?_) (a' := ?_) #[true, true, true, false, true, true, false, false, false, false] rfl rfl (by kernel_rfl) (fun _ _ _ h => h) (Or.inl ⟨by rfl, ?_⟩) ?_ ?_
          rotate_left
          · intro w'
            go_simp
            with_reducible rfl
          rotate_left
          · simp only [Act.put, List.setIfInBounds_toArray, List.set_cons_zero, List.set_cons_succ, i64_w, i32_w]
            rfl
          refine pure_ (i := 6) (N := some 22) (v := ?_) (a' := ?_) #[true, true, true, false, true, true, true, false, false, false] rfl rfl (by kernel_rfl) (fun _ _ _ h => h) (Or.inl ⟨by rfl, ?_⟩) ?_ ?_
          rotate_left
          · intro w'
            go_simp
            with_reducible rfl
          rotate_left
          · simp only [Act.put, List.setIfInBounds_toArray, List.set_cons_zero, List.set_cons_succ, i64_w, i32_w]
            rfl
          refine pure_ (i := 7) (N := some 23) (v := ?_) (a' := ?_) #[true, true, true, false, true, true, true, true, false, false] rfl rfl (by kernel_rfl) (fun _ _ _ h => h) (Or.inl ⟨by rfl, ?_⟩) ?_ ?_
          rotate_left
          · intro w'
            go_simp
            with_reducible rfl
          rotate_left
          · simp only [Act.put, List.setIfInBounds_toArray, List.set_cons_zero, List.set_cons_succ, i64_w, i32_w]
            rfl
          refine take_ (i := 3) (N := some 19) (v := ?_) (a' := ?_) #[true, true, true, true, true, true, true, true, false, false] rfl rfl (by kernel_rfl) (fun _ _ _ h => h) (Or.inl ⟨by rfl, ?_⟩) hHeld ?_ ?_
          rotate_left
          · rintro w' ⟨s0, s1, s2, s3, s4⟩
            go_simp
            with_reducible rfl
          rotate_left
          · simp only [Act.put, List.setIfInBounds_toArray, List.set_cons_zero, List.set_cons_succ, i64_w, i32_w]
            rfl
          refine take_ (i := 8) (N := some 24) (v := ?_) (a' := ?_) #[true, true, true, true, true, true, true, true, true, false] rfl rfl (by kernel_rfl) (fun _ _ _ h => h) (Or.inl ⟨by rfl, ?_⟩) hHeld ?_ ?_
          rotate_left
          · rintro w' ⟨s0, s1, s2, s3, s4⟩
            go_simp
            with_reducible rfl
          rotate_left
          · simp only [Act.put, List.setIfInBounds_toArray, List.set_cons_zero, List.set_cons_succ, i64_w, i32_w]
            rfl
          refine pure_ (i := 9) (N := some 25) (v := ?_) (a' := ?_) #[true, true, true, true, true, true, true, true, true, true] rfl rfl (by kernel_rfl) (fun _ _ _ h => h) (Or.inl ⟨by rfl, ?_⟩) ?_ ?_
          rotate_left
          · intro w'
            go_simp
            with_reducible rfl
          rotate_left
          · simp only [Act.put, List.setIfInBounds_toArray, List.set_cons_zero, List.set_cons_succ, i64_w, i32_w]
            rfl
          refine done_ (by kernel_rfl) ?_
          go_wp2_with (fail)
          go_roundg k1
          case measure => omega
          case rel => exact ⟨i + 1, by first | rw [hw1] | rfl, hA', by repeat (first | exact Drawn0.refl _ | apply Drawn0.step)⟩
        · skip
          go_wp2_with (fail)
          refine start_ (n := 10) (S := fun w' => w'.cell? (ad.add (i * 2)) = some (.int .u64 (rd_T81 l (i : Int)).f0) ∧ w'.cell? ⟨(ad.add (i * 2)).block, (ad.add (i * 2)).off + 1, none⟩ = some (.int .u32 (rd_T81 l (i : Int)).f1) ∧ w'.cell? (ad.add (z.toNat * 2)) = some (.int .u64 (rd_T81 l z).f0) ∧ w'.cell? ⟨(ad.add (z.toNat * 2)).block, (ad.add (z.toNat * 2)).off + 1, none⟩ = some (.int .u32 (rd_T81 l z).f1) ∧ ((rd_T81 l (i : Int)).f0 = (rd_T81 l z).f0) = True ∧ ((rd_T81 l (i : Int)).f1 = (rd_T81 l z).f1) = False) (ds := []) #[false, false, false, false, false, false, false, false, false, false] (by kernel_rfl) rfl rfl ⟨hx0, hx1, hy0, hy1, hb0, hb1⟩ (fun hHeld => ?_)
          refine pure_ (i := 0) (N := some 16) (v := ?_) (a' := ?_) #[true, false, false, false, false, false, false, false, false, false] rfl rfl (by kernel_rfl) (fun _ _ _ h => h) (Or.inl ⟨by rfl, ?_⟩) ?_ ?_
          rotate_left
          · intro w'
            go_simp
            with_reducible rfl
          rotate_left
          · simp only [Act.put, List.setIfInBounds_toArray, List.set_cons_zero, List.set_cons_succ, i64_w, i32_w]
            rfl
          refine pure_ (i := 1) (N := some 17) (v := ?_) (a' := ?_) #[true, true, false, false, false, false, false, false, false, false] rfl rfl (by kernel_rfl) (fun _ _ _ h => h) (Or.inl ⟨by rfl, ?_⟩) ?_ ?_
          rotate_left
          · intro w'
            go_simp
            with_reducible rfl
          rotate_left
          · simp only [Act.put, List.setIfInBounds_toArray, List.set_cons_zero, List.set_cons_succ, i64_w, i32_w]
            rfl
          refine pure_ (i := 2) (N := some 18) (v := ?_) (a' := ?_) #[true, true, true, false, false, false, false, false, false, false] rfl rfl (by kernel_rfl) (fun _ _ _ h => h) (Or.inl ⟨by rfl, ?_⟩) ?_ ?_
          rotate_left
          · intro w'
            go_simp
            with_reducible rfl
          rotate_left
          · simp only [Act.put, List.setIfInBounds_toArray, List.set_cons_zero, List.set_cons_succ, i64_w, i32_w]
            rfl
          refine pure_ (i := 4) (N := some 20) (v := ?_) (a' := ?_) #[true, true, true, false, true, false, false, false, false, false] rfl rfl (by kernel_rfl) (fun _ _ _ h => h) (Or.inl ⟨by rfl, ?_⟩) ?_ ?_
          rotate_left
          · intro w'
            go_simp
            with_reducible rfl
          rotate_left
          · simp only [Act.put, List.setIfInBounds_toArray, List.set_cons_zero, List.set_cons_succ, i64_w, i32_w]
            rfl
          refine pure_ (i := 5) (N := some 21) (v := ?_) (a' := ?_) #[true, true, true, false, true, true, false, false, false, false] rfl rfl (by kernel_rfl) (fun _ _ _ h => h) (Or.inl ⟨by rfl, ?_⟩) ?_ ?_
          rotate_left
          · intro w'
            go_simp
            with_reducible rfl
          rotate_left
          · simp only [Act.put, List.setIfInBounds_toArray, List.set_cons_zero, List.set_cons_succ, i64_w, i32_w]
            rfl
          refine pure_ (i := 6) (N := some 22) (v := ?_) (a' := ?_) #[true, true, true, false, true, true, true, false, false, false] rfl rfl (by kernel_rfl) (fun _ _ _ h => h) (Or.inl ⟨by rfl, ?_⟩) ?_ ?_
          rotate_left
          · intro w'
            go_simp
            with_reducible rfl
          rotate_left
          · simp only [Act.put, List.setIfInBounds_toArray, List.set_cons_zero, List.set_cons_succ, i64_w, i32_w]
            rfl
          refine pure_ (i := 7) (N := some 23) (v := ?_) (a' := ?_) #[true, true, true, false, true, true, true, true, false, false] rfl rfl (by kernel_rfl) (fun _ _ _ h => h) (Or.inl ⟨by rfl, ?_⟩) ?_ ?_
          rotate_left
          · intro w'
            go_simp
            with_reducible rfl
          rotate_left
          · simp only [Act.put, List.setIfInBounds_toArray, List.set_cons_zero, List.set_cons_succ, i64_w, i32_w]
            rfl
          refine take_ (i := 3) (N := some 19) (v := ?_) (a' := ?_) #[true, true, true, true, true, true, true, true, false, false] rfl rfl (by kernel_rfl) (fun _ _ _ h => h) (Or.inl ⟨by rfl, ?_⟩) hHeld ?_ ?_
          rotate_left
          · rintro w' ⟨s0, s1, s2, s3, s4, s5⟩
            go_simp
            with_reducible rfl
          rotate_left
          · simp only [Act.put, List.setIfInBounds_toArray, List.set_cons_zero, List.set_cons_succ, i64_w, i32_w]
            rfl
          refine take_ (i := 8) (N := some 24) (v := ?_) (a' := ?_) #[true, true, true, true, true, true, true, true, true, false] rfl rfl (by kernel_rfl) (fun _ _ _ h => h) (Or.inl ⟨by rfl, ?_⟩) hHeld ?_ ?_
          rotate_left
          · rintro w' ⟨s0, s1, s2, s3, s4, s5⟩
            go_simp
            with_reducible rfl
          rotate_left
          · simp only [Act.put, List.setIfInBounds_toArray, List.set_cons_zero, List.set_cons_succ, i64_w, i32_w]
            rfl
          refine pure_ (i := 9) (N := some 25) (v := ?_) (a' := ?_) #[true, true, true, true, true, true, true, true, true, true] rfl rfl (by kernel_rfl) (fun _ _ _ h => h) (Or.inl ⟨by rfl, ?_⟩) ?_ ?_
          rotate_left
          · intro w'
            go_simp
            with_reducible rfl
          rotate_left
          · simp only [Act.put, List.setIfInBounds_toArray, List.set_cons_zero, List.set_cons_succ, i64_w, i32_w]
            rfl
          refine done_ (by kernel_rfl) ?_
          go_wp2_with (fail)
          go_roundg k1
          case measure => omega
          case rel => exact ⟨i + 1, by first | rw [hw1] | rfl, hA', by repeat (first | exact Drawn0.refl _ | apply Drawn0.step)⟩
      · have he : decide ((i : Int) < (l.length : Int)) = false := decide_eq_false (by omega)
        have he2 : decide (i < l.length) = false := decide_eq_false hil
        clear hil
        go_wp2_with (fail)
        go_ret
        exact ⟨rfl, ⟨m1, rfl⟩⟩
end Go.Proofs.Ytnmdckgaljldhaa.Tb

/- table: what Compact keeps of a sorted row: a strictly rising row with the same members. -/
set_option linter.unusedVariables false
set_option linter.unusedSimpArgs false
namespace Go.Proofs.Ytnmdckgaljldhaa.Tb
open Go Go.Proofs.Ytnmdckgaljldhaa.G

instance : DecidableEq E1 := fun x y => decidable_of_iff (x.f0 = y.f0 ∧ x.f1 = y.f1) ⟨fun h => by cases x; cases y; simp only at h; rw [h.1, h.2], fun h => by rw [h]; exact ⟨rfl, rfl⟩⟩
/-- What is kept of the first i. -/
def dc (l : List E1) : Nat → List E1
  | 0 => []
  | i + 1 => if 0 < i ∧ l[i]? = l[i - 1]? then dc l i else dc l i ++ l[i]?.toList
theorem dc_len (l : List E1) : ∀ i, (dc l i).length ≤ i
  | 0 => Nat.le_refl _
  | i + 1 => by
    have := dc_len l i
    unfold dc
    split
    · omega
    · rw [List.length_append]
      have : l[i]?.toList.length ≤ 1 := by cases l[i]? <;> simp
      omega
theorem dc_take (l : List E1) : ∀ i, i ≤ l.length → (∀ j, 1 ≤ j → j < i → l[j]? ≠ l[j - 1]?) → dc l i = l.take i
  | 0, _, _ => by simp [dc]
  | i + 1, hi, h => by
    have ih := dc_take l i (by omega) (fun j h1 h2 => h j h1 (by omega))
    unfold dc
    rw [if_neg (fun hh => h i (by omega) (by omega) hh.2), ih, List.take_add_one]
theorem dc_mem (l : List E1) (x : E1) : ∀ i, i ≤ l.length → (x ∈ dc l i ↔ x ∈ l.take i)
  | 0, _ => by simp [dc]
  | i + 1, hi => by
    have ih := dc_mem l x i (by omega)
    rw [List.take_add_one]
    unfold dc
    split
    · rename_i hh
      rw [ih, List.mem_append]
      refine ⟨.inl, fun h => h.elim id fun h => ?_⟩
      have he : l[i - 1]? = some x := by rw [← hh.2]; simpa using h
      refine List.mem_iff_getElem?.2 ⟨i - 1, ?_⟩
      rw [List.getElem?_take_of_lt (by omega)]; exact he
    · rw [List.mem_append, List.mem_append, ih]
theorem dc_rise (l : List E1) (hs : Srt l) : ∀ i, i ≤ l.length → (dc l i).Pairwise lessE
  | 0, _ => by simp [dc]
  | i + 1, hi => by
    have ih := dc_rise l hs i (by omega)
    unfold dc
    split
    · exact ih
    · rename_i hh
      have hlt : i < l.length := by omega
      rw [List.getElem?_eq_getElem hlt]
      refine List.pairwise_append.2 ⟨ih, by simp, fun y hy x hx => ?_⟩
      have hx' : x = l[i] := by simpa using hx
      subst hx'
      have hy2 := (dc_mem l y i (by omega)).1 hy
      obtain ⟨j, hj⟩ := List.mem_iff_getElem?.1 hy2
      have hji : j < i := by
        refine Nat.lt_of_not_le fun h => ?_
        rw [List.getElem?_take_eq_none h] at hj; cases hj
      rw [List.getElem?_take_of_lt hji, List.getElem?_eq_getElem (by omega)] at hj
      have hyj : l[j] = y := Option.some.inj hj
      have h1 := List.pairwise_iff_getElem.1 hs j i (by omega) hlt hji
      rcases lessE_tri y l[i] with h | h | h
      · exact h
      · exfalso
        have hi0 : 0 < i := by omega
        by_cases hj1 : j = i - 1
        · refine hh ⟨hi0, ?_⟩
          rw [List.getElem?_eq_getElem hlt, List.getElem?_eq_getElem (by omega)]
          subst hj1
          rw [hyj, h]
        · have h2 := List.pairwise_iff_getElem.1 hs j (i - 1) (by omega) (by omega) (by omega)
          have h3 := List.pairwise_iff_getElem.1 hs (i - 1) i (by omega) hlt (by omega)
          rw [hyj, h] at h2
          rcases lessE_tri l[i - 1] l[i] with h4 | h4 | h4
          · exact h2 h4
          · refine hh ⟨hi0, ?_⟩
            rw [List.getElem?_eq_getElem hlt, List.getElem?_eq_getElem (by omega), h4]
          · exact h3 h4
      · rw [← hyj] at h; exact absurd h h1
/-- The sorted row, each once. -/
def compactE (l : List E1) : List E1 := dc l l.length
theorem compactE_mem (l : List E1) (x : E1) : x ∈ compactE l ↔ x ∈ l := by
  unfold compactE
  rw [dc_mem l x l.length (Nat.le_refl _), List.take_length]
theorem compactE_rise {l : List E1} (h : Srt l) : (compactE l).Pairwise lessE := dc_rise l h _ (Nat.le_refl _)
/-- Two strictly rising rows with the same members are one. -/
theorem rise_unique : ∀ {a b : List E1}, a.Pairwise lessE → b.Pairwise lessE → (∀ x, x ∈ a ↔ x ∈ b) → a = b
  | [], [], _, _, _ => rfl
  | [], y :: b, _, _, h => absurd ((h y).2 (List.mem_cons_self ..)) (by simp)
  | x :: a, [], _, _, h => absurd ((h x).1 (List.mem_cons_self ..)) (by simp)
  | x :: a, y :: b, ha, hb, h => by
    obtain ⟨ha1, ha2⟩ := List.pairwise_cons.1 ha
    obtain ⟨hb1, hb2⟩ := List.pairwise_cons.1 hb
    have irr : ∀ z : E1, ¬ lessE z z := fun z hz => by unfold lessE at hz; omega
    have trans : ∀ {p q r : E1}, lessE p q → lessE q r → lessE p r := fun h1 h2 => by unfold lessE at *; omega
    have hxy : x = y := by
      rcases List.mem_cons.1 ((h x).1 (List.mem_cons_self ..)) with h1 | h1
      · exact h1
      · rcases List.mem_cons.1 ((h y).2 (List.mem_cons_self ..)) with h2 | h2
        · exact h2.symm
        · exact absurd (trans (ha1 y h2) (hb1 x h1)) (irr x)
    subst hxy
    congr 1
    refine rise_unique ha2 hb2 fun z => ⟨fun hz => ?_, fun hz => ?_⟩
    · rcases List.mem_cons.1 ((h z).1 (List.mem_cons_of_mem _ hz)) with h1 | h1
      · subst h1; exact absurd (ha1 z hz) (irr z)
      · exact h1
    · rcases List.mem_cons.1 ((h z).2 (List.mem_cons_of_mem _ hz)) with h1 | h1
      · subst h1; exact absurd (hb1 z hz) (irr z)
      · exact h1
end Go.Proofs.Ytnmdckgaljldhaa.Tb

/- table: a row of entries as a block, and back; clear over entries. -/
set_option linter.unusedVariables false
set_option linter.unusedSimpArgs false
namespace Go.Proofs.Ytnmdckgaljldhaa.Tb
open Go Go.RowKit Go.Proofs.YtnmdckgaljldhaaW.PrintWords Go.Proofs.YtnmdckgaljldhaaW.PrintLast Go.Proofs.YtnmdckgaljldhaaW.PrintMore Go.Proofs.Ytnmdckgaljldhaa.Sep Go.Proofs.Ytnmdckgaljldhaa.G
set_option maxHeartbeats 4000000
set_option maxRecDepth 100000

/-- The first cells are these entries. -/
def Hold (cur : Array Value) (l : List E1) : Prop := ∀ (j : Nat) (x : E1), l[j]? = some x → cur[2 * j]? = some (.int .u64 x.f0) ∧ cur[2 * j + 1]? = some (.int .u32 x.f1)
theorem rowE_blk {w0 w : World} {v : Value} {l : List E1} {ps : List HP} (h : Sep.Sep w0 w (row kE 81 v l :: ps)) (hx : l ≠ []) :
    ∃ (g cap : Nat) (cur : Array Value), v = .slice (some ⟨g, 0, none⟩) l.length cap ∧ l.length ≤ cap ∧ cap ≤ maxLen ∧ cur.size = cap * 2 ∧ Sep.Sep w0 w (blk g cur 81 :: ps) ∧ Hold cur l := by
  obtain ⟨hb, bs, ⟨b1, b2, e1, ⟨h0, inner, ho, hrep⟩, hs⟩, hn, hr⟩ := h
  rcases ho.2 with ⟨_, hz⟩ | ⟨g, cap, cur, rfl, hbg, hg, hnc, hcm, hcs, ht⟩
  · exact absurd (List.length_eq_zero_iff.1 hz) hx
  · have hgb : g ∈ b1 := h0 g rfl
    subst e1
    obtain ⟨n1, n2, n3⟩ := List.nodup_append.1 hn
    refine ⟨g, cap, cur, rfl, hnc, hcm, hcs, ⟨hb, g :: b2, ⟨[g], b2, rfl, ⟨rfl, hg⟩, hs⟩, ?_, ?_⟩, ?_⟩
    · exact List.nodup_cons.2 ⟨fun hm => n3 g hgb g hm rfl, n2⟩
    · intro b hbm
      rcases List.mem_cons.1 hbm with rfl | hbm
      · exact hr _ (List.mem_append_left _ hgb)
      · exact hr b (List.mem_append_right _ hbm)
    · intro j x hj
      have ht : cur.toList.take (l.length * 2) = inner := ht
      have hjl := (List.getElem?_eq_some_iff.1 hj).1
      have hM := hrep.2 j x hj
      have hK : (inner.drop (j * 2)).take 2 = [.int .u64 x.f0, .int .u32 x.f1] := k81_openM hM
      have hin : ∀ t, t < 2 → inner[j * 2 + t]? = [Value.int .u64 x.f0, .int .u32 x.f1][t]? := by
        intro t htt
        rw [← hK, List.getElem?_take, if_pos htt, List.getElem?_drop]
      have hcur : ∀ t, t < 2 → cur[2 * j + t]? = [Value.int .u64 x.f0, .int .u32 x.f1][t]? := by
        intro t htt
        rw [← hin t htt, ← ht, List.getElem?_take, if_pos (show j * 2 + t < l.length * 2 by omega), Array.getElem?_toList, Nat.mul_comm]
      exact ⟨hcur 0 (by decide), hcur 1 (by decide)⟩
/-- And back. -/
theorem blk_rowE {w0 w : World} {g cap : Nat} {cur : Array Value} {l : List E1} {ps : List HP} (h : Sep.Sep w0 w (blk g cur 81 :: ps)) (hl : l.length ≤ cap) (hcm : cap ≤ maxLen) (hcs : cur.size = cap * 2) (hH : Hold cur l) :
    Sep.Sep w0 w (row kE 81 (.slice (some ⟨g, 0, none⟩) l.length cap) l :: ps) := by
  obtain ⟨hb, bs, ⟨b1, b2, e1, ⟨eb, hg⟩, hs⟩, hn, hr⟩ := h
  subst eb e1
  have hcl : cur.toList.length = cap * 2 := by rw [← hcs]; exact Array.length_toList
  refine ⟨hb, _, ⟨[g], b2, rfl, ⟨fun k hk => ?_, cur.toList.take (l.length * 2), ⟨?_, .inr ⟨g, cap, cur, rfl, Nat.zero_le _, hg, hl, hcm, hcs, rfl⟩⟩, ?_, ?_⟩, hs⟩, hn, hr⟩
  · have : g = k := by simpa [Value.ownBlock] using hk
    subst this
    exact List.mem_singleton.2 rfl
  · show (cur.toList.take (l.length * 2)).length = l.length * 2
    rw [List.length_take, hcl]; omega
  · show (cur.toList.take (l.length * 2)).length = l.length * 2
    rw [List.length_take, hcl]; omega
  · intro j x hj
    have hjl := (List.getElem?_eq_some_iff.1 hj).1
    obtain ⟨c0, c1⟩ := hH j x hj
    have : ((cur.toList.take (l.length * 2)).drop (j * 2)).take 2 = [.int .u64 x.f0, .int .u32 x.f1] := by
      apply List.ext_getElem?
      intro t
      rw [List.getElem?_take]
      by_cases ht : t < 2
      · rw [if_pos ht, List.getElem?_drop, List.getElem?_take, if_pos (by omega), Array.getElem?_toList]
        match t, ht with
        | 0, _ => rw [show j * 2 + 0 = 2 * j by omega, c0]; rfl
        | 1, _ => rw [show j * 2 + 1 = 2 * j + 1 by omega, c1]; rfl
      · rw [if_neg ht, List.getElem?_eq_none (by simp; omega)]
    show kE.M _ _ _ x _
    rw [show ((cur.toList.take (l.length * 2)).drop (j * kE.sz)).take kE.sz = [.int .u64 x.f0, .int .u32 x.f1] from this]
    exact k81_mkM _ _ _ x

theorem setCells_blk {w0 : World} {g : Nat} {T : TypeId} {ps : List HP} : ∀ (vs : List Value) (o : Nat) (w : World) (cs : Array Value), Sep.Sep w0 w (blk g cs T :: ps) →
    ∃ cs' : Array Value, Sep.Sep w0 (w.setCells g o vs) (blk g cs' T :: ps) ∧ cs'.size = cs.size ∧ ∀ i, i < o → cs'[i]? = cs[i]?
  | [], o, w, cs, h => ⟨cs, h, rfl, fun _ _ => rfl⟩
  | v :: vs, o, w, cs, h => by
    obtain ⟨cs', h1, h2, h3⟩ := setCells_blk vs (o + 1) _ _ (h.set o v)
    refine ⟨cs', h1, by rw [h2, Array.size_setIfInBounds], fun i hi => ?_⟩
    rw [h3 i (by omega), Array.getElem?_setIfInBounds, if_neg (by omega)]

/-- clear over entries. -/
theorem run_clearE (w : World) (ty : TypeId) (g o n c : Nat) (cur : Array Value) (hg : w.heap[g]? = some (.cells cur 81 (0, 0))) (hn : 0 < n) (hs : o + n * 2 ≤ cur.size) :
    (Builtin.clear_ #[77] ty #[.slice (some ⟨g, o, none⟩) n c]).run Try.prog w = .ok (.tuple #[]) (w.setCells g o (Builtin.zeroCells #[.int .u64 0, .int .u32 0] n).toList) := by
  have hsz : (Builtin.zeroCells #[.int .u64 0, .int .u32 0] n).toList.length = n * 2 := by simp [Builtin.zeroCells]
  have hone : ∀ v ∈ (Builtin.zeroCells #[.int .u64 0, .int .u32 0] n).toList, v.oneCell' = true := by
    intro v hv
    simp only [Builtin.zeroCells, Array.toList_map, List.mem_map] at hv
    obtain ⟨i, _, rfl⟩ := hv
    rcases Nat.mod_two_eq_zero_or_one i with h | h
    · rw [show (#[Value.int .u64 0, Value.int .u32 0] : Array Value).size = 2 from rfl, h]; rfl
    · rw [show (#[Value.int .u64 0, Value.int .u32 0] : Array Value).size = 2 from rfl, h]; rfl
  have hst := run_storeCells_cells (P := Try.prog) g o (Builtin.zeroCells #[.int .u64 0, .int .u32 0] n).toList 0 w
    (fun j hj => by rw [hsz] at hj; rw [blk_cell hg, Array.getElem?_eq_getElem (by omega)]; rfl) (fun j hj => blk_frozen hg _) hone
  simp only [Nat.add_zero] at hst
  have hz := Try.zeroValue81 w
  obtain ⟨m, rfl⟩ : ∃ m, n = m + 1 := ⟨n - 1, by omega⟩
  simp [Builtin.clear_, run_underlying Try.underlying77, hz, Value.cells, hst]
end Go.Proofs.Ytnmdckgaljldhaa.Tb

/- table: slices.Compact, its second part. -/
set_option linter.unusedVariables false
set_option linter.unusedSimpArgs false
namespace Go.Proofs.Ytnmdckgaljldhaa.Tb
open Go Go.RowKit Go.Proofs.YtnmdckgaljldhaaW.PrintWords Go.Proofs.YtnmdckgaljldhaaW.PrintLast Go.Proofs.YtnmdckgaljldhaaW.PrintMore Go.Proofs.Ytnmdckgaljldhaa.Sep Go.Proofs.Ytnmdckgaljldhaa.G
set_option maxHeartbeats 4000000
set_option maxRecDepth 100000

/-- The cells from an entry on are still these. -/
def HoldFrom (cur : Array Value) (l : List E1) (p : Nat) : Prop := ∀ (j : Nat) (x : E1), p ≤ j → l[j]? = some x → cur[2 * j]? = some (.int .u64 x.f0) ∧ cur[2 * j + 1]? = some (.int .u32 x.f1)
/-- Where the inner loop is: k kept, p looked at. -/
def Mid (cur : Array Value) (l : List E1) (p k : Nat) : Prop := 1 ≤ p ∧ p ≤ l.length ∧ (dc l p).length = k ∧ k + 1 ≤ p ∧ Hold cur (dc l p) ∧ HoldFrom cur l (p - 1)
theorem Mid.start {cur : Array Value} {l : List E1} {i : Nat} (h : Hold cur l) (h1 : 1 ≤ i) (hi : i < l.length) (hn : ∀ j, 1 ≤ j → j < i → l[j]? ≠ l[j - 1]?) (ht : l[i]? = l[i - 1]?) : Mid cur l (i + 1) i := by
  have h2 := dc_take l i (by omega) hn
  have h3 : dc l (i + 1) = l.take i := by
    show (if 0 < i ∧ l[i]? = l[i - 1]? then dc l i else _) = _
    rw [if_pos ⟨by omega, ht⟩, h2]
  refine ⟨by omega, by omega, by rw [h3, List.length_take]; omega, by omega, ?_, fun j x _ hj => h j x hj⟩
  intro j x hj
  rw [h3] at hj
  have hji : j < i := by
    refine Nat.lt_of_not_le fun hle => ?_
    rw [List.getElem?_take_eq_none hle] at hj; cases hj
  rw [List.getElem?_take_of_lt hji] at hj
  exact h j x hj
theorem Mid.skip {cur : Array Value} {l : List E1} {p k : Nat} (h : Mid cur l p k) (hp : p < l.length) (ht : l[p]? = l[p - 1]?) : Mid cur l (p + 1) k := by
  obtain ⟨h1, h2, h3, h4, h5, h6⟩ := h
  have h7 : dc l (p + 1) = dc l p := by
    show (if 0 < p ∧ l[p]? = l[p - 1]? then dc l p else _) = _
    rw [if_pos ⟨by omega, ht⟩]
  exact ⟨by omega, by omega, by rw [h7]; exact h3, by omega, by rw [h7]; exact h5, fun j x hj hx => h6 j x (by omega) hx⟩
theorem Mid.keep {cur : Array Value} {l : List E1} {p k : Nat} {x : E1} (h : Mid cur l p k) (hx : l[p]? = some x) (ht : l[p]? ≠ l[p - 1]?) (hs : 2 * l.length ≤ cur.size) :
    Mid ((cur.setIfInBounds (2 * k) (.int .u64 x.f0)).setIfInBounds (2 * k + 1) (.int .u32 x.f1)) l (p + 1) (k + 1) := by
  obtain ⟨h1, h2, h3, h4, h5, h6⟩ := h
  have hp : p < l.length := (List.getElem?_eq_some_iff.1 hx).1
  have h7 : dc l (p + 1) = dc l p ++ [x] := by
    show (if 0 < p ∧ l[p]? = l[p - 1]? then _ else dc l p ++ l[p]?.toList) = _
    rw [if_neg (fun hh => ht hh.2), hx]; rfl
  have hset : ∀ q, q ≠ 2 * k → q ≠ 2 * k + 1 → ((cur.setIfInBounds (2 * k) (.int .u64 x.f0)).setIfInBounds (2 * k + 1) (.int .u32 x.f1))[q]? = cur[q]? := by
    intro q a b
    rw [Array.getElem?_setIfInBounds, if_neg (by omega), Array.getElem?_setIfInBounds, if_neg (by omega)]
  refine ⟨by omega, by omega, by rw [h7, List.length_append, h3]; rfl, by omega, ?_, ?_⟩
  · intro j y hj
    rw [h7] at hj
    by_cases hjk : j < k
    · rw [List.getElem?_append_left (by omega)] at hj
      rw [hset _ (by omega) (by omega), hset _ (by omega) (by omega)]
      exact h5 j y hj
    · have hjk2 : j = k := by
        have := (List.getElem?_eq_some_iff.1 hj).1
        rw [List.length_append, h3] at this
        simp at this; omega
      subst hjk2
      rw [List.getElem?_append_right (by omega), h3, Nat.sub_self] at hj
      have hxy : x = y := by simpa using hj
      subst hxy
      constructor
      · rw [Array.getElem?_setIfInBounds, if_neg (by omega), Array.getElem?_setIfInBounds, if_pos rfl, if_pos (by omega)]
      · rw [Array.getElem?_setIfInBounds, if_pos rfl, if_pos (by rw [Array.size_setIfInBounds]; omega)]
  · intro j y hj hy
    rw [hset _ (by omega) (by omega), hset _ (by omega) (by omega)]
    exact h6 j y (by omega) hy
end Go.Proofs.Ytnmdckgaljldhaa.Tb

/- table: slices.Compact, walked. -/
set_option linter.unusedVariables false
set_option linter.unusedSimpArgs false
namespace Go.Proofs.Ytnmdckgaljldhaa.Tb
open Go Go.RowKit Go.Proofs.YtnmdckgaljldhaaW.PrintWords Go.Proofs.YtnmdckgaljldhaaW.PrintLast Go.Proofs.YtnmdckgaljldhaaW.PrintMore Go.Proofs.Ytnmdckgaljldhaa.Sep Go.Proofs.Ytnmdckgaljldhaa.G
set_option maxHeartbeats 4000000
set_option maxRecDepth 100000

theorem compact_blk (w0 w : World) (g cap : Nat) (cur : Array Value) (l : List E1) (ps : List HP) (h : Sep.Sep w0 w (blk g cur 81 :: ps)) (h2 : 2 ≤ l.length) (hcap : l.length ≤ cap) (hcm : cap ≤ maxLen) (hcs : cur.size = cap * 2) (hH : Hold cur l) (hl : l.length ≤ 1000000) :
    Calls Try.prog 87 #[.slice (some ⟨g, 0, none⟩) l.length cap] w fun r w' => ∃ cur', r = .returned (.slice (some ⟨g, 0, none⟩) (compactE l).length cap) ∧ cur'.size = cap * 2 ∧ Hold cur' (compactE l) ∧ Sep.Sep w0 w' (blk g cur' 81 :: ps) := by
  have e1 : decide ((l.length : Int) < 2) = false := decide_eq_false (by omega)
  have e2 : decide (l.length < 2) = false := decide_eq_false (by omega)
  have hSA := Aside0.mk h
  have hlA := Aside0.mk (And.intro h2 (And.intro hl hcap))
  have hHA := Aside0.mk (And.intro hH (And.intro hcs hcm))
  clear h h2 hcap hcm hcs hH hl
  go_enter Try.func87, Try.ntmps87
  go_wp2_with (fail)
  go_loopg [3] l.length (fun kq v3 w' => ∃ (i : Nat), v3 = .int .i64 (i : Int) ∧ Aside0 (i + kq = l.length + 1 ∧ 1 ≤ i) ∧ Aside0 (∀ j, 1 ≤ j → j < i → l[j]? ≠ l[j - 1]?) ∧ Aside0 (Sep.Sep w0 w' (blk g cur 81 :: ps)))
  case atStart => exact ⟨1, rfl, ⟨by have := hlA.out; omega⟩, ⟨fun j _ _ => by omega⟩, hSA⟩
  case round =>
    clear hSA
    obtain ⟨i, rfl, hA, hN, hS⟩ := hrel
    by_cases hil : i < l.length
    · obtain ⟨k1, rfl⟩ : ∃ k1, gk = k1 + 1 := ⟨gk - 1, by have := hA.out; omega⟩
      have he : decide ((i : Int) < (l.length : Int)) = true := decide_eq_true (by omega)
      have he2 : decide (i < l.length) = true := decide_eq_true hil
      obtain ⟨j, rfl⟩ : ∃ j, i = j + 1 := ⟨i - 1, by have := hA.out; omega⟩
      obtain ⟨x, hx⟩ : ∃ x, l[j + 1]? = some x := ⟨_, List.getElem?_eq_getElem hil⟩
      obtain ⟨y, hy⟩ : ∃ y, l[j]? = some y := ⟨_, List.getElem?_eq_getElem (by omega)⟩
      have hcx := hHA.out.1 _ _ hx
      have hcy := hHA.out.1 _ _ hy
      have q1 : wrap64 (((j + 1 : Nat) : Int) - 1) = (j : Int) := by unfold wrap64; have := hlA.out; omega
      have q2 : wrap64 (((j + 1 : Nat) : Int) + 1) = ((j + 1 + 1 : Nat) : Int) := by unfold wrap64; have := hlA.out; omega
      obtain ⟨z, hz⟩ : ∃ z, wrap64 (((j + 1 : Nat) : Int) - 1) = z := ⟨_, rfl⟩
      have hzi : z = (j : Int) := hz.symm.trans q1
      have hzw : IntKind.i64.wrap (((j + 1 : Nat) : Int) - 1) = z := (i64_w _).trans hz
      have p0 : ((0 : Int) ≤ ((j + 1 : Nat) : Int)) = True := eq_true (by omega)
      have q0 : (((j + 1 : Nat) : Int) < (l.length : Int)) = True := eq_true (by omega)
      have p1 : ((0 : Int) ≤ z) = True := eq_true (by omega)
      have q3 : (z < (l.length : Int)) = True := eq_true (by omega)
      have hzn : z.toNat = j := by omega
      have hA' : Aside0 (j + 1 + 1 + k1 = l.length + 1 ∧ 1 ≤ j + 1 + 1) := ⟨by have := hA.out; omega⟩
      clear q1 hzi hil
      have hx0 : wr.cell? ⟨g, (j + 1) * 2, none⟩ = some (.int .u64 x.f0) := (hS.out.cell _).trans (by rw [Nat.mul_comm]; exact hcx.1)
      have hx1 : wr.cell? ⟨g, (j + 1) * 2 + 1, none⟩ = some (.int .u32 x.f1) := (hS.out.cell _).trans (by rw [Nat.mul_comm]; exact hcx.2)
      have hy0 : wr.cell? ⟨g, z.toNat * 2, none⟩ = some (.int .u64 y.f0) := (hS.out.cell _).trans (by rw [hzn, Nat.mul_comm]; exact hcy.1)
      have hy1 : wr.cell? ⟨g, z.toNat * 2 + 1, none⟩ = some (.int .u32 y.f1) := (hS.out.cell _).trans (by rw [hzn, Nat.mul_comm]; exact hcy.2)
      have hxA := Aside0.mk hx
      have hyA := Aside0.mk hy
      clear hcx hcy hx hy hzn
      by_cases hxy : x = y
      · subst hxy
        have hM := Aside0.mk (Mid.start hHA.out.1 (show 1 ≤ j + 1 by omega) (by have := (List.getElem?_eq_some_iff.1 hxA.out).1; exact this) hN.out (by rw [hxA.out]; exact hyA.out.symm))
        have hSd := Aside0.mk hS.out.drew
        have hil := Aside0.mk (List.getElem?_eq_some_iff.1 hxA.out).1
        have hcapA := Aside0.mk (show j + 1 ≤ cap by have := hlA.out; have := hil.out; omega)
        have p2 : ((j + 1 : Nat) : Int) ≤ (l.length : Int) := by have := hil.out; omega
        have p3 : ((l.length : Nat) : Int) ≤ (cap : Int) := by have := hlA.out; omega
        have hci : ¬ cap = j + 1 := by have := hlA.out; have := hil.out; omega
        generalize j + 1 = i at *
        go_wp2_with (fail)
        refine start_ (n := 10) (S := fun w' => w'.cell? ⟨g, i * 2, none⟩ = some (.int .u64 x.f0) ∧ w'.cell? ⟨g, i * 2 + 1, none⟩ = some (.int .u32 x.f1) ∧ w'.cell? ⟨g, z.toNat * 2, none⟩ = some (.int .u64 x.f0) ∧ w'.cell? ⟨g, z.toNat * 2 + 1, none⟩ = some (.int .u32 x.f1)) (ds := []) #[false, false, false, false, false, false, false, false, false, false] (by kernel_rfl) rfl rfl ⟨hx0, hx1, hy0, hy1⟩ (fun hHeld => ?_)
        refine pure_ (i := 0) (N := some 16) (v := ?_) (a' := ?_) #[true, false, false, false, false, false, false, false, false, false] rfl rfl (by kernel_rfl) (fun _ _ _ h => h) (Or.inl ⟨by rfl, ?_⟩) ?_ ?_
        rotate_left
        · intro w'
          go_simp
          with_reducible rfl
        rotate_left
        · simp only [Act.put, List.setIfInBounds_toArray, List.set_cons_zero, List.set_cons_succ, i64_w, i32_w]
          rfl
        refine pure_ (i := 1) (N := some 17) (v := ?_) (a' := ?_) #[true, true, false, false, false, false, false, false, false, false] rfl rfl (by kernel_rfl) (fun _ _ _ h => h) (Or.inl ⟨by rfl, ?_⟩) ?_ ?_
        rotate_left
        · intro w'
          go_simp
          with_reducible rfl
        rotate_left
        · simp only [Act.put, List.setIfInBounds_toArray, List.set_cons_zero, List.set_cons_succ, i64_w, i32_w]
          rfl
        refine pure_ (i := 2) (N := some 18) (v := ?_) (a' := ?_) #[true, true, true, false, false, false, false, false, false, false] rfl rfl (by kernel_rfl) (fun _ _ _ h => h) (Or.inl ⟨by rfl, ?_⟩) ?_ ?_
        rotate_left
        · intro w'
          go_simp
          with_reducible rfl
        rotate_left
        · simp only [Act.put, List.setIfInBounds_toArray, List.set_cons_zero, List.set_cons_succ, i64_w, i32_w]
          rfl
        refine pure_ (i := 4) (N := some 20) (v := ?_) (a' := ?_) #[true, true, true, false, true, false, false, false, false, false] rfl rfl (by kernel_rfl) (fun _ _ _ h => h) (Or.inl ⟨by rfl, ?_⟩) ?_ ?_
        rotate_left
        · intro w'
          go_simp
          with_reducible rfl
        rotate_left
        · simp only [Act.put, List.setIfInBounds_toArray, List.set_cons_zero, List.set_cons_succ, i64_w, i32_w]
          rfl
        refine pure_ (i := 5) (N := some 21) (v := ?_) (a' := ?_) #[true, true, true, false, true, true, false, false, false, false] rfl rfl (by kernel_rfl) (fun _ _ _ h => h) (Or.inl ⟨by rfl, ?_⟩) ?_ ?_
        rotate_left
        · intro w'
          go_simp
          with_reducible rfl
        rotate_left
        · simp only [Act.put, List.setIfInBounds_toArray, List.set_cons_zero, List.set_cons_succ, i64_w, i32_w]
          rfl
        refine pure_ (i := 6) (N := some 22) (v := ?_) (a' := ?_) #[true, true, true, false, true, true, true, false, false, false] rfl rfl (by kernel_rfl) (fun _ _ _ h => h) (Or.inl ⟨by rfl, ?_⟩) ?_ ?_
        rotate_left
        · intro w'
          go_simp
          with_reducible rfl
        rotate_left
        · simp only [Act.put, List.setIfInBounds_toArray, List.set_cons_zero, List.set_cons_succ, i64_w, i32_w]
          rfl
        refine pure_ (i := 7) (N := some 23) (v := ?_) (a' := ?_) #[true, true, true, false, true, true, true, true, false, false] rfl rfl (by kernel_rfl) (fun _ _ _ h => h) (Or.inl ⟨by rfl, ?_⟩) ?_ ?_
        rotate_left
        · intro w'
          go_simp
          with_reducible rfl
        rotate_left
        · simp only [Act.put, List.setIfInBounds_toArray, List.set_cons_zero, List.set_cons_succ, i64_w, i32_w]
          rfl
        refine take_ (i := 3) (N := some 19) (v := ?_) (a' := ?_) #[true, true, true, true, true, true, true, true, false, false] rfl rfl (by kernel_rfl) (fun _ _ _ h => h) (Or.inl ⟨by rfl, ?_⟩) hHeld ?_ ?_
        rotate_left
        · rintro w' ⟨s0, s1, s2, s3⟩
          go_simp
          with_reducible rfl
        rotate_left
        · simp only [Act.put, List.setIfInBounds_toArray, List.set_cons_zero, List.set_cons_succ, i64_w, i32_w]
          rfl
        refine take_ (i := 8) (N := some 24) (v := ?_) (a' := ?_) #[true, true, true, true, true, true, true, true, true, false] rfl rfl (by kernel_rfl) (fun _ _ _ h => h) (Or.inl ⟨by rfl, ?_⟩) hHeld ?_ ?_
        rotate_left
        · rintro w' ⟨s0, s1, s2, s3⟩
          go_simp
          with_reducible rfl
        rotate_left
        · simp only [Act.put, List.setIfInBounds_toArray, List.set_cons_zero, List.set_cons_succ, i64_w, i32_w]
          rfl
        refine pure_ (i := 9) (N := some 25) (v := ?_) (a' := ?_) #[true, true, true, true, true, true, true, true, true, true] rfl rfl (by kernel_rfl) (fun _ _ _ h => h) (Or.inl ⟨by rfl, ?_⟩) ?_ ?_
        rotate_left
        · intro w'
          go_simp
          with_reducible rfl
        rotate_left
        · simp only [Act.put, List.setIfInBounds_toArray, List.set_cons_zero, List.set_cons_succ, i64_w, i32_w]
          rfl
        refine done_ (by kernel_rfl) ?_
        go_wp2_with (fail)
        clear hx0 hx1 hy0 hy1 he he2 q0 q2 p0 p1 q3 hz hzw hci p2 p3
        obtain ⟨m, hm⟩ : ∃ m, l.length - i = m := ⟨_, rfl⟩
        obtain ⟨c2, hc2⟩ : ∃ c2, cap - i = c2 := ⟨_, rfl⟩
        rw [hm, hc2]
        have hmA : Aside0 (l.length = i + m ∧ cap = i + c2 ∧ m ≤ c2 ∧ m ≤ 1000000) := ⟨by have := hlA.out; have := hil.out; omega⟩
        clear hm hc2
        go_loopg [3, 5] l.length (fun kq v3 v5 w' => ∃ (k q : Nat) (cu : Array Value), v3 = .int .i64 (k : Int) ∧ v5 = .int .i64 (q : Int) ∧ Aside0 (l.length ≤ i + q + kq ∧ 1 ≤ q) ∧ Aside0 (Mid cu l (i + q) k) ∧ Aside0 (cu.size = cap * 2) ∧ Aside0 (Sep.Sep w0 w' (blk g cu 81 :: ps)))
        case atStart => exact ⟨i, 1, cur, rfl, rfl, ⟨by omega⟩, hM, ⟨hHA.out.2.1⟩, hSd⟩
        case round =>
          clear hS hSd hM hyA hxA hN hA hA'
          obtain ⟨k, q, cu, rfl, rfl, hB, hMd, hcz, hSr⟩ := hrel
          by_cases hqm : q < m
          · obtain ⟨k2, rfl⟩ : ∃ k2, gk = k2 + 1 := ⟨gk - 1, by have := hB.out; have := hmA.out; omega⟩
            have he : decide ((q : Int) < (m : Int)) = true := decide_eq_true (by omega)
            have he2 : decide (q < m) = true := decide_eq_true hqm
            obtain ⟨u, rfl⟩ : ∃ u, q = u + 1 := ⟨q - 1, by have := hB.out; omega⟩
            have hil2 : i + (u + 1) < l.length := by have := hmA.out; omega
            obtain ⟨x2, hx2⟩ : ∃ x2, l[i + (u + 1)]? = some x2 := ⟨_, List.getElem?_eq_getElem hil2⟩
            obtain ⟨y2, hy2⟩ : ∃ y2, l[i + u]? = some y2 := ⟨_, List.getElem?_eq_getElem (by omega)⟩
            have hcx := hMd.out.2.2.2.2.2 _ _ (by omega) hx2
            have hcy := hMd.out.2.2.2.2.2 (i + u) _ (by omega) hy2
            have hk1 : k + 1 ≤ i + (u + 1) := hMd.out.2.2.2.1
            have q1 : wrap64 (((u + 1 : Nat) : Int) - 1) = (u : Int) := by unfold wrap64; have := hmA.out; omega
            have q2 : wrap64 (((u + 1 : Nat) : Int) + 1) = ((u + 1 + 1 : Nat) : Int) := by unfold wrap64; have := hmA.out; omega
            have q4 : wrap64 ((k : Int) + 1) = ((k + 1 : Nat) : Int) := by unfold wrap64; have := hlA.out; omega
            obtain ⟨z2, hz⟩ : ∃ z2, wrap64 (((u + 1 : Nat) : Int) - 1) = z2 := ⟨_, rfl⟩
            have hzi : z2 = (u : Int) := hz.symm.trans q1
            have hzw : IntKind.i64.wrap (((u + 1 : Nat) : Int) - 1) = z2 := (i64_w _).trans hz
            have p0 : ((0 : Int) ≤ ((u + 1 : Nat) : Int)) = True := eq_true (by omega)
            have q0 : (((u + 1 : Nat) : Int) < (m : Int)) = True := eq_true (by omega)
            have p1 : ((0 : Int) ≤ z2) = True := eq_true (by omega)
            have q3 : (z2 < (m : Int)) = True := eq_true (by omega)
            have hzn : z2.toNat = u := by omega
            have hB' : Aside0 (l.length ≤ i + (u + 1 + 1) + k2 ∧ 1 ≤ u + 1 + 1) := ⟨by have := hB.out; omega⟩
            have hkl : Aside0 (k < l.length) := ⟨by omega⟩
            have hx0 : wr.cell? ⟨g, i * 2 + (u + 1) * 2, none⟩ = some (.int .u64 x2.f0) := (hSr.out.cell _).trans (by rw [show i * 2 + (u + 1) * 2 = 2 * (i + (u + 1)) by omega]; exact hcx.1)
            have hx1 : wr.cell? ⟨g, i * 2 + (u + 1) * 2 + 1, none⟩ = some (.int .u32 x2.f1) := (hSr.out.cell _).trans (by rw [show i * 2 + (u + 1) * 2 + 1 = 2 * (i + (u + 1)) + 1 by omega]; exact hcx.2)
            have hy0 : wr.cell? ⟨g, i * 2 + z2.toNat * 2, none⟩ = some (.int .u64 y2.f0) := (hSr.out.cell _).trans (by rw [hzn, show i * 2 + u * 2 = 2 * (i + u) by omega]; exact hcy.1)
            have hy1 : wr.cell? ⟨g, i * 2 + z2.toNat * 2 + 1, none⟩ = some (.int .u32 y2.f1) := (hSr.out.cell _).trans (by rw [hzn, show i * 2 + u * 2 + 1 = 2 * (i + u) + 1 by omega]; exact hcy.2)
            have hsk : Aside0 (k * 2 + 1 < cu.size) := ⟨by rw [hcz.out]; have := hlA.out; omega⟩
            have hS2 := Aside0.mk hSr.out.drew
            have hx2A := Aside0.mk hx2
            have hy2A := Aside0.mk hy2
            have hdef : Aside0 (i + (u + 1) - 1 = i + u) := ⟨by omega⟩
            clear hcx hcy hx2 hy2 hzn hzi q1 hk1 hil2 hqm
            by_cases hxy : x2 = y2
            · subst hxy
              have hM2 : Aside0 (Mid cu l (i + (u + 1 + 1)) k) := ⟨hMd.out.skip (List.getElem?_eq_some_iff.1 hx2A.out).1 (by rw [hx2A.out, hdef.out]; exact hy2A.out.symm)⟩
              generalize u + 1 = q at *
              go_wp2_with (fail)
              refine start_ (n := 10) (S := fun w' => w'.cell? ⟨g, i * 2 + q * 2, none⟩ = some (.int .u64 x2.f0) ∧ w'.cell? ⟨g, i * 2 + q * 2 + 1, none⟩ = some (.int .u32 x2.f1) ∧ w'.cell? ⟨g, i * 2 + z2.toNat * 2, none⟩ = some (.int .u64 x2.f0) ∧ w'.cell? ⟨g, i * 2 + z2.toNat * 2 + 1, none⟩ = some (.int .u32 x2.f1)) (ds := []) #[false, false, false, false, false, false, false, false, false, false] (by kernel_rfl) rfl rfl ⟨hx0, hx1, hy0, hy1⟩ (fun hHeld => ?_)
              refine pure_ (i := 0) (N := some 35) (v := ?_) (a' := ?_) #[true, false, false, false, false, false, false, false, false, false] rfl rfl (by kernel_rfl) (fun _ _ _ h => h) (Or.inl ⟨by rfl, ?_⟩) ?_ ?_
              rotate_left
              · intro w'
                go_simp
                with_reducible rfl
              rotate_left
              · simp only [Act.put, List.setIfInBounds_toArray, List.set_cons_zero, List.set_cons_succ, i64_w, i32_w]
                rfl
              refine pure_ (i := 1) (N := some 36) (v := ?_) (a' := ?_) #[true, true, false, false, false, false, false, false, false, false] rfl rfl (by kernel_rfl) (fun _ _ _ h => h) (Or.inl ⟨by rfl, ?_⟩) ?_ ?_
              rotate_left
              · intro w'
                go_simp
                with_reducible rfl
              rotate_left
              · simp only [Act.put, List.setIfInBounds_toArray, List.set_cons_zero, List.set_cons_succ, i64_w, i32_w]
                rfl
              refine pure_ (i := 2) (N := some 37) (v := ?_) (a' := ?_) #[true, true, true, false, false, false, false, false, false, false] rfl rfl (by kernel_rfl) (fun _ _ _ h => h) (Or.inl ⟨by rfl, ?_⟩) ?_ ?_
              rotate_left
              · intro w'
                go_simp
                with_reducible rfl
              rotate_left
              · simp only [Act.put, List.setIfInBounds_toArray, List.set_cons_zero, List.set_cons_succ, i64_w, i32_w]
                rfl
              refine pure_ (i := 4) (N := some 39) (v := ?_) (a' := ?_) #[true, true, true, false, true, false, false, false, false, false] rfl rfl (by kernel_rfl) (fun _ _ _ h => h) (Or.inl ⟨by rfl, ?_⟩) ?_ ?_
              rotate_left
              · intro w'
                go_simp
                with_reducible rfl
              rotate_left
              · simp only [Act.put, List.setIfInBounds_toArray, List.set_cons_zero, List.set_cons_succ, i64_w, i32_w]
                rfl
              refine pure_ (i := 5) (N := some 40) (v := ?_) (a' := ?_) #[true, true, true, false, true, true, false, false, false, false] rfl rfl (by kernel_rfl) (fun _ _ _ h => h) (Or.inl ⟨by rfl, ?_⟩) ?_ ?_
              rotate_left
              · intro w'
                go_simp
                with_reducible rfl
              rotate_left
              · simp only [Act.put, List.setIfInBounds_toArray, List.set_cons_zero, List.set_cons_succ, i64_w, i32_w]
                rfl
              refine pure_ (i := 6) (N := some 41) (v := ?_) (a' := ?_) #[true, true, true, false, true, true, true, false, false, false] rfl rfl (by kernel_rfl) (fun _ _ _ h => h) (Or.inl ⟨by rfl, ?_⟩) ?_ ?_
              rotate_left
              · intro w'
                go_simp
                with_reducible rfl
              rotate_left
              · simp only [Act.put, List.setIfInBounds_toArray, List.set_cons_zero, List.set_cons_succ, i64_w, i32_w]
                rfl
              refine pure_ (i := 7) (N := some 42) (v := ?_) (a' := ?_) #[true, true, true, false, true, true, true, true, false, false] rfl rfl (by kernel_rfl) (fun _ _ _ h => h) (Or.inl ⟨by rfl, ?_⟩) ?_ ?_
              rotate_left
              · intro w'
                go_simp
                with_reducible rfl
              rotate_left
              · simp only [Act.put, List.setIfInBounds_toArray, List.set_cons_zero, List.set_cons_succ, i64_w, i32_w]
                rfl
              refine take_ (i := 3) (N := some 38) (v := ?_) (a' := ?_) #[true, true, true, true, true, true, true, true, false, false] rfl rfl (by kernel_rfl) (fun _ _ _ h => h) (Or.inl ⟨by rfl, ?_⟩) hHeld ?_ ?_
              rotate_left
              · rintro w' ⟨s0, s1, s2, s3⟩
                go_simp
                with_reducible rfl
              rotate_left
              · simp only [Act.put, List.setIfInBounds_toArray, List.set_cons_zero, List.set_cons_succ, i64_w, i32_w]
                rfl
              refine take_ (i := 8) (N := some 43) (v := ?_) (a' := ?_) #[true, true, true, true, true, true, true, true, true, false] rfl rfl (by kernel_rfl) (fun _ _ _ h => h) (Or.inl ⟨by rfl, ?_⟩) hHeld ?_ ?_
              rotate_left
              · rintro w' ⟨s0, s1, s2, s3⟩
                go_simp
                with_reducible rfl
              rotate_left
              · simp only [Act.put, List.setIfInBounds_toArray, List.set_cons_zero, List.set_cons_succ, i64_w, i32_w]
                rfl
              refine pure_ (i := 9) (N := some 44) (v := ?_) (a' := ?_) #[true, true, true, true, true, true, true, true, true, true] rfl rfl (by kernel_rfl) (fun _ _ _ h => h) (Or.inl ⟨by rfl, ?_⟩) ?_ ?_
              rotate_left
              · intro w'
                go_simp
                with_reducible rfl
              rotate_left
              · simp only [Act.put, List.setIfInBounds_toArray, List.set_cons_zero, List.set_cons_succ, i64_w, i32_w]
                rfl
              refine done_ (by kernel_rfl) ?_
              go_wp2_with (fail)
              go_roundg k2
              case measure => omega
              case rel => exact ⟨k, q + 1, cu, rfl, by first | rw [q2] | rfl, hB', hM2, hcz, hS2⟩
            · have hM2 : Aside0 (Mid ((cu.setIfInBounds (k * 2) (.int .u64 x2.f0)).setIfInBounds (k * 2 + 1) (.int .u32 x2.f1)) l (i + (u + 1 + 1)) (k + 1)) := ⟨by
                have := hMd.out.keep hx2A.out (by rw [hx2A.out, hdef.out, hy2A.out]; exact fun e => hxy (Option.some.inj e)) (by rw [hcz.out]; have := hlA.out; omega)
                rw [Nat.mul_comm 2 k] at this
                exact this⟩
              have hcz2 : Aside0 (((cu.setIfInBounds (k * 2) (.int .u64 x2.f0)).setIfInBounds (k * 2 + 1) (.int .u32 x2.f1)).size = cap * 2) := ⟨by rw [Array.size_setIfInBounds, Array.size_setIfInBounds]; exact hcz.out⟩
              have hb : (x2.f0 = y2.f0) = False ∨ (x2.f0 = y2.f0) = True ∧ (x2.f1 = y2.f1) = False := by
                by_cases h1 : x2.f0 = y2.f0
                · refine .inr ⟨eq_true h1, eq_false fun h2 => hxy ?_⟩
                  cases x2; cases y2; simp only at h1 h2; rw [h1, h2]
                · exact .inl (eq_false h1)
              have hS3 : Aside0 (Sep.Sep w0 ((wr.setCell ⟨g, k * 2, none⟩ (.int .u64 x2.f0)).setCell ⟨g, k * 2 + 1, none⟩ (.int .u32 x2.f1)).drew (blk g ((cu.setIfInBounds (k * 2) (.int .u64 x2.f0)).setIfInBounds (k * 2 + 1) (.int .u32 x2.f1)) 81 :: ps)) := ⟨((hSr.out.set _ _).set _ _).drew⟩
              obtain ⟨ck0, hck0⟩ : ∃ v, wr.cell? ⟨g, k * 2, none⟩ = some v := ⟨_, (hSr.out.cell _).trans (Array.getElem?_eq_getElem (by have := hsk.out; omega))⟩
              obtain ⟨ck1, hck1⟩ : ∃ v, wr.cell? ⟨g, k * 2 + 1, none⟩ = some v := ⟨_, (hSr.out.cell _).trans (Array.getElem?_eq_getElem (by have := hsk.out; omega))⟩
              have hfk0 : wr.frozen? ⟨g, k * 2, none⟩ = false := hSr.out.frozen _
              have hfk1 : wr.frozen? ⟨g, k * 2 + 1, none⟩ = false := hSr.out.frozen _
              have pk0 : (k : Int) < (l.length : Int) := by have := hkl.out; omega
              clear hxy
              generalize u + 1 = q at *
              rcases hb with hb0 | ⟨hb0, hb1⟩
              · go_wp2_with (fail)
                refine start_ (n := 10) (S := fun w' => w'.cell? ⟨g, i * 2 + q * 2, none⟩ = some (.int .u64 x2.f0) ∧ w'.cell? ⟨g, i * 2 + q * 2 + 1, none⟩ = some (.int .u32 x2.f1) ∧ w'.cell? ⟨g, i * 2 + z2.toNat * 2, none⟩ = some (.int .u64 y2.f0) ∧ w'.cell? ⟨g, i * 2 + z2.toNat * 2 + 1, none⟩ = some (.int .u32 y2.f1) ∧ (x2.f0 = y2.f0) = False) (ds := []) #[false, false, false, false, false, false, false, false, false, false] (by kernel_rfl) rfl rfl ⟨hx0, hx1, hy0, hy1, hb0⟩ (fun hHeld => ?_)
                refine pure_ (i := 0) (N := some 35) (v := ?_) (a' := ?_) #[true, false, false, false, false, false, false, false, false, false] rfl rfl (by kernel_rfl) (fun _ _ _ h => h) (Or.inl ⟨by rfl, ?_⟩) ?_ ?_
                rotate_left
                · intro w'
                  go_simp
                  with_reducible rfl
                rotate_left
                · simp only [Act.put, List.setIfInBounds_toArray, List.set_cons_zero, List.set_cons_succ, i64_w, i32_w]
                  rfl
                refine pure_ (i := 1) (N := some 36) (v := ?_) (a' := ?_) #[true, true, false, false, false, false, false, false, false, false] rfl rfl (by kernel_rfl) (fun _ _ _ h => h) (Or.inl ⟨by rfl, ?_⟩) ?_ ?_
                rotate_left
                · intro w'
                  go_simp
                  with_reducible rfl
                rotate_left
                · simp only [Act.put, List.setIfInBounds_toArray, List.set_cons_zero, List.set_cons_succ, i64_w, i32_w]
                  rfl
                refine pure_ (i := 2) (N := some 37) (v := ?_) (a' := ?_) #[true, true, true, false, false, false, false, false, false, false] rfl rfl (by kernel_rfl) (fun _ _ _ h => h) (Or.inl ⟨by rfl, ?_⟩) ?_ ?_
                rotate_left
                · intro w'
                  go_simp
                  with_reducible rfl
                rotate_left
                · simp only [Act.put, List.setIfInBounds_toArray, List.set_cons_zero, List.set_cons_succ, i64_w, i32_w]
                  rfl
                refine pure_ (i := 4) (N := some 39) (v := ?_) (a' := ?_) #[true, true, true, false, true, false, false, false, false, false] rfl rfl (by kernel_rfl) (fun _ _ _ h => h) (Or.inl ⟨by rfl, ?_⟩) ?_ ?_
                rotate_left
                · intro w'
                  go_simp
                  with_reducible rfl
                rotate_left
                · simp only [Act.put, List.setIfInBounds_toArray, List.set_cons_zero, List.set_cons_succ, i64_w, i32_w]
                  rfl
                refine pure_ (i := 5) (N := some 40) (v := ?_) (a' := ?_) #[true, true, true, false, true, true, false, false, false, false] rfl rfl (by kernel_rfl) (fun _ _ _ h => h) (Or.inl ⟨by rfl, ?_⟩) ?_ ?_
                rotate_left
                · intro w'
                  go_simp
                  with_reducible rfl
                rotate_left
                · simp only [Act.put, List.setIfInBounds_toArray, List.set_cons_zero, List.set_cons_succ, i64_w, i32_w]
                  rfl
                refine pure_ (i := 6) (N := some 41) (v := ?_) (a' := ?_) #[true, true, true, false, true, true, true, false, false, false] rfl rfl (by kernel_rfl) (fun _ _ _ h => h) (Or.inl ⟨by rfl, ?_⟩) ?_ ?_
                rotate_left
                · intro w'
                  go_simp
                  with_reducible rfl
                rotate_left
                · simp only [Act.put, List.setIfInBounds_toArray, List.set_cons_zero, List.set_cons_succ, i64_w, i32_w]
                  rfl
                refine pure_ (i := 7) (N := some 42) (v := ?_) (a' := ?_) #[true, true, true, false, true, true, true, true, false, false] rfl rfl (by kernel_rfl) (fun _ _ _ h => h) (Or.inl ⟨by rfl, ?_⟩) ?_ ?_
                rotate_left
                · intro w'
                  go_simp
                  with_reducible rfl
                rotate_left
                · simp only [Act.put, List.setIfInBounds_toArray, List.set_cons_zero, List.set_cons_succ, i64_w, i32_w]
                  rfl
                refine take_ (i := 3) (N := some 38) (v := ?_) (a' := ?_) #[true, true, true, true, true, true, true, true, false, false] rfl rfl (by kernel_rfl) (fun _ _ _ h => h) (Or.inl ⟨by rfl, ?_⟩) hHeld ?_ ?_
                rotate_left
                · rintro w' ⟨s0, s1, s2, s3, s4⟩
                  go_simp
                  with_reducible rfl
                rotate_left
                · simp only [Act.put, List.setIfInBounds_toArray, List.set_cons_zero, List.set_cons_succ, i64_w, i32_w]
                  rfl
                refine take_ (i := 8) (N := some 43) (v := ?_) (a' := ?_) #[true, true, true, true, true, true, true, true, true, false] rfl rfl (by kernel_rfl) (fun _ _ _ h => h) (Or.inl ⟨by rfl, ?_⟩) hHeld ?_ ?_
                rotate_left
                · rintro w' ⟨s0, s1, s2, s3, s4⟩
                  go_simp
                  with_reducible rfl
                rotate_left
                · simp only [Act.put, List.setIfInBounds_toArray, List.set_cons_zero, List.set_cons_succ, i64_w, i32_w]
                  rfl
                refine pure_ (i := 9) (N := some 44) (v := ?_) (a' := ?_) #[true, true, true, true, true, true, true, true, true, true] rfl rfl (by kernel_rfl) (fun _ _ _ h => h) (Or.inl ⟨by rfl, ?_⟩) ?_ ?_
                rotate_left
                · intro w'
                  go_simp
                  with_reducible rfl
                rotate_left
                · simp only [Act.put, List.setIfInBounds_toArray, List.set_cons_zero, List.set_cons_succ, i64_w, i32_w]
                  rfl
                refine done_ (by kernel_rfl) ?_
                go_wp2_with (fail)
                go_roundg k2
                case measure => omega
                case rel => exact ⟨k + 1, q + 1, _, by first | rw [q4] | rfl, by first | rw [q2] | rfl, hB', hM2, hcz2, hS3⟩
              · go_wp2_with (fail)
                refine start_ (n := 10) (S := fun w' => w'.cell? ⟨g, i * 2 + q * 2, none⟩ = some (.int .u64 x2.f0) ∧ w'.cell? ⟨g, i * 2 + q * 2 + 1, none⟩ = some (.int .u32 x2.f1) ∧ w'.cell? ⟨g, i * 2 + z2.toNat * 2, none⟩ = some (.int .u64 y2.f0) ∧ w'.cell? ⟨g, i * 2 + z2.toNat * 2 + 1, none⟩ = some (.int .u32 y2.f1) ∧ (x2.f0 = y2.f0) = True ∧ (x2.f1 = y2.f1) = False) (ds := []) #[false, false, false, false, false, false, false, false, false, false] (by kernel_rfl) rfl rfl ⟨hx0, hx1, hy0, hy1, hb0, hb1⟩ (fun hHeld => ?_)
                refine pure_ (i := 0) (N := some 35) (v := ?_) (a' := ?_) #[true, false, false, false, false, false, false, false, false, false] rfl rfl (by kernel_rfl) (fun _ _ _ h => h) (Or.inl ⟨by rfl, ?_⟩) ?_ ?_
                rotate_left
                · intro w'
                  go_simp
                  with_reducible rfl
                rotate_left
                · simp only [Act.put, List.setIfInBounds_toArray, List.set_cons_zero, List.set_cons_succ, i64_w, i32_w]
                  rfl
                refine pure_ (i := 1) (N := some 36) (v := ?_) (a' := ?_) #[true, true, false, false, false, false, false, false, false, false] rfl rfl (by kernel_rfl) (fun _ _ _ h => h) (Or.inl ⟨by rfl, ?_⟩) ?_ ?_
                rotate_left
                · intro w'
                  go_simp
                  with_reducible rfl
                rotate_left
                · simp only [Act.put, List.setIfInBounds_toArray, List.set_cons_zero, List.set_cons_succ, i64_w, i32_w]
                  rfl
                refine pure_ (i := 2) (N := some 37) (v := ?_) (a' := ?_) #[true, true, true, false, false, false, false, false, false, false] rfl rfl (by kernel_rfl) (fun _ _ _ h => h) (Or.inl ⟨by rfl, ?_⟩) ?_ ?_
                rotate_left
                · intro w'
                  go_simp
                  with_reducible rfl
                rotate_left
                · simp only [Act.put, List.setIfInBounds_toArray, List.set_cons_zero, List.set_cons_succ, i64_w, i32_w]
                  rfl
                refine pure_ (i := 4) (N := some 39) (v := ?_) (a' := ?_) #[true, true, true, false, true, false, false, false, false, false] rfl rfl (by kernel_rfl) (fun _ _ _ h => h) (Or.inl ⟨by rfl, ?_⟩) ?_ ?_
                rotate_left
                · intro w'
                  go_simp
                  with_reducible rfl
                rotate_left
                · simp only [Act.put, List.setIfInBounds_toArray, List.set_cons_zero, List.set_cons_succ, i64_w, i32_w]
                  rfl
                refine pure_ (i := 5) (N := some 40) (v := ?_) (a' := ?_) #[true, true, true, false, true, true, false, false, false, false] rfl rfl (by kernel_rfl) (fun _ _ _ h => h) (Or.inl ⟨by rfl, ?_⟩) ?_ ?_
                rotate_left
                · intro w'
                  go_simp
                  with_reducible rfl
                rotate_left
                · simp only [Act.put, List.setIfInBounds_toArray, List.set_cons_zero, List.set_cons_succ, i64_w, i32_w]
                  rfl
                refine pure_ (i := 6) (N := some 41) (v := ?_) (a' := ?_) #[true, true, true, false, true, true, true, false, false, false] rfl rfl (by kernel_rfl) (fun _ _ _ h => h) (Or.inl ⟨by rfl, ?_⟩) ?_ ?_
                rotate_left
                · intro w'
                  go_simp
                  with_reducible rfl
                rotate_left
                · simp only [Act.put, List.setIfInBounds_toArray, List.set_cons_zero, List.set_cons_succ, i64_w, i32_w]
                  rfl
                refine pure_ (i := 7) (N := some 42) (v := ?_) (a' := ?_) #[true, true, true, false, true, true, true, true, false, false] rfl rfl (by kernel_rfl) (fun _ _ _ h => h) (Or.inl ⟨by rfl, ?_⟩) ?_ ?_
                rotate_left
                · intro w'
                  go_simp
                  with_reducible rfl
                rotate_left
                · simp only [Act.put, List.setIfInBounds_toArray, List.set_cons_zero, List.set_cons_succ, i64_w, i32_w]
                  rfl
                refine take_ (i := 3) (N := some 38) (v := ?_) (a' := ?_) #[true, true, true, true, true, true, true, true, false, false] rfl rfl (by kernel_rfl) (fun _ _ _ h => h) (Or.inl ⟨by rfl, ?_⟩) hHeld ?_ ?_
                rotate_left
                · rintro w' ⟨s0, s1, s2, s3, s4, s5⟩
                  go_simp
                  with_reducible rfl
                rotate_left
                · simp only [Act.put, List.setIfInBounds_toArray, List.set_cons_zero, List.set_cons_succ, i64_w, i32_w]
                  rfl
                refine take_ (i := 8) (N := some 43) (v := ?_) (a' := ?_) #[true, true, true, true, true, true, true, true, true, false] rfl rfl (by kernel_rfl) (fun _ _ _ h => h) (Or.inl ⟨by rfl, ?_⟩) hHeld ?_ ?_
                rotate_left
                · rintro w' ⟨s0, s1, s2, s3, s4, s5⟩
                  go_simp
                  with_reducible rfl
                rotate_left
                · simp only [Act.put, List.setIfInBounds_toArray, List.set_cons_zero, List.set_cons_succ, i64_w, i32_w]
                  rfl
                refine pure_ (i := 9) (N := some 44) (v := ?_) (a' := ?_) #[true, true, true, true, true, true, true, true, true, true] rfl rfl (by kernel_rfl) (fun _ _ _ h => h) (Or.inl ⟨by rfl, ?_⟩) ?_ ?_
                rotate_left
                · intro w'
                  go_simp
                  with_reducible rfl
                rotate_left
                · simp only [Act.put, List.setIfInBounds_toArray, List.set_cons_zero, List.set_cons_succ, i64_w, i32_w]
                  rfl
                refine done_ (by kernel_rfl) ?_
                go_wp2_with (fail)
                go_roundg k2
                case measure => omega
                case rel => exact ⟨k + 1, q + 1, _, by first | rw [q4] | rfl, by first | rw [q2] | rfl, hB', hM2, hcz2, hS3⟩
          · have he : decide ((q : Int) < (m : Int)) = false := decide_eq_false (by omega)
            have he2 : decide (q < m) = false := decide_eq_false hqm
            obtain ⟨m1, m2, m3, m4, m5, m6⟩ := hMd.out
            have hiq : i + q = l.length := by have := hmA.out; omega
            rw [hiq] at m3 m5
            have hkl : k < l.length := by omega
            have hkc : ¬ cap = k := by have := hlA.out; omega
            have hkA : Aside0 (k < l.length ∧ (compactE l).length = k ∧ Hold cu (compactE l)) := ⟨hkl, m3, m5⟩
            have pk : (k : Int) ≤ (l.length : Int) := by omega
            have pk2 : (k : Int) ≤ (cap : Int) := by have := hlA.out; omega
            have pc : (l.length : Int) ≤ (cap : Int) := by have := hlA.out; omega
            have hcl : ∀ ty : TypeId, (Builtin.clear_ #[77] ty #[.slice (some ⟨g, k * 2, none⟩) ((l.length - k : Nat)) ((cap - k : Nat))]).run Try.prog wr = .ok (.tuple #[]) (wr.setCells g (k * 2) (Builtin.zeroCells #[.int .u64 0, .int .u32 0] (l.length - k)).toList) := fun ty =>
              run_clearE wr ty g (k * 2) (l.length - k) (cap - k) cu hSr.out.blk_at.1 (by omega) (by rw [hcz.out]; have := hlA.out; omega)
            obtain ⟨cs', hs1, hs2, hs3⟩ := setCells_blk (Builtin.zeroCells #[.int .u64 0, .int .u32 0] (l.length - k)).toList (k * 2) _ _ hSr.out
            have hsA : Aside0 (Sep.Sep w0 (wr.setCells g (k * 2) (Builtin.zeroCells #[.int .u64 0, .int .u32 0] (l.length - k)).toList) (blk g cs' 81 :: ps) ∧ cs'.size = cu.size ∧ ∀ i, i < k * 2 → cs'[i]? = cu[i]?) := ⟨hs1, hs2, hs3⟩
            clear m1 m2 m3 m4 m5 m6 hiq hs1 hs2 hs3 hqm
            go_wp2_with (fail)
            go_ret
            obtain ⟨k1', k2', k3'⟩ := hkA.out
            obtain ⟨s1, s2, s3⟩ := hsA.out
            refine ⟨cs', by rw [k2']; rfl, s2.trans hcz.out, fun jj y hj => ?_, s1⟩
            have hjl := (List.getElem?_eq_some_iff.1 hj).1
            obtain ⟨c0, c1⟩ := k3' jj y hj
            exact ⟨(s3 _ (by omega)).trans c0, (s3 _ (by omega)).trans c1⟩
      · have hb : (x.f0 = y.f0) = False ∨ (x.f0 = y.f0) = True ∧ (x.f1 = y.f1) = False := by
          by_cases h1 : x.f0 = y.f0
          · refine .inr ⟨eq_true h1, eq_false fun h2 => hxy ?_⟩
            cases x; cases y; simp only at h1 h2; rw [h1, h2]
          · exact .inl (eq_false h1)
        have hN' : Aside0 (∀ q, 1 ≤ q → q < j + 1 + 1 → l[q]? ≠ l[q - 1]?) := ⟨fun q h1 h2 => by
          by_cases hq : q = j + 1
          · subst hq
            rw [hxA.out, show j + 1 - 1 = j from rfl, hyA.out]
            exact fun e => hxy (Option.some.inj e)
          · exact hN.out q h1 (by omega)⟩
        have hSd := Aside0.mk hS.out.drew
        clear hxy
        generalize j + 1 = i at *
        rcases hb with hb0 | ⟨hb0, hb1⟩
        · go_wp2_with (fail)
          refine start_ (n := 10) (S := fun w' => w'.cell? ⟨g, i * 2, none⟩ = some (.int .u64 x.f0) ∧ w'.cell? ⟨g, i * 2 + 1, none⟩ = some (.int .u32 x.f1) ∧ w'.cell? ⟨g, z.toNat * 2, none⟩ = some (.int .u64 y.f0) ∧ w'.cell? ⟨g, z.toNat * 2 + 1, none⟩ = some (.int .u32 y.f1) ∧ (x.f0 = y.f0) = False) (ds := []) #[false, false, false, false, false, false, false, false, false, false] (by kernel_rfl) rfl rfl ⟨hx0, hx1, hy0, hy1, hb0⟩ (fun hHeld => ?_)
          refine pure_ (i := 0) (N := some 16) (v := ?_) (a' := ?_) #[true, false, false, false, false, false, false, false, false, false] rfl rfl (by kernel_rfl) (fun _ _ _ h => h) (Or.inl ⟨by rfl, ?_⟩) ?_ ?_
          rotate_left
          · intro w'
            go_simp
            with_reducible rfl
          rotate_left
          · simp only [Act.put, List.setIfInBounds_toArray, List.set_cons_zero, List.set_cons_succ, i64_w, i32_w]
            rfl
          refine pure_ (i := 1) (N := some 17) (v := ?_) (a' := ?_) #[true, true, false, false, false, false, false, false, false, false] rfl rfl (by kernel_rfl) (fun _ _ _ h => h) (Or.inl ⟨by rfl, ?_⟩) ?_ ?_
          rotate_left
          · intro w'
            go_simp
            with_reducible rfl
          rotate_left
          · simp only [Act.put, List.setIfInBounds_toArray, List.set_cons_zero, List.set_cons_succ, i64_w, i32_w]
            rfl
          refine pure_ (i := 2) (N := some 18) (v := ?_) (a' := ?_) #[true, true, true, false, false, false, false, false, false, false] rfl rfl (by kernel_rfl) (fun _ _ _ h => h) (Or.inl ⟨by rfl, ?_⟩) ?_ ?_
          rotate_left
          · intro w'
            go_simp
            with_reducible rfl
          rotate_left
          · simp only [Act.put, List.setIfInBounds_toArray, List.set_cons_zero, List.set_cons_succ, i64_w, i32_w]
            rfl
          refine pure_ (i := 4) (N := some 20) (v := ?_) (a' := ?_) #[true, true, true, false, true, false, false, false, false, false] rfl rfl (by kernel_rfl) (fun _ _ _ h => h) (Or.inl ⟨by rfl, ?_⟩) ?_ ?_
          rotate_left
          · intro w'
            go_simp
            with_reducible rfl
          rotate_left
          · simp only [Act.put, List.setIfInBounds_toArray, List.set_cons_zero, List.set_cons_succ, i64_w, i32_w]
            rfl
          refine pure_ (i := 5) (N := some 21) (v := ?_) (a' := ?_) #[true, true, true, false, true, true, false, false, false, false] rfl rfl (by kernel_rfl) (fun _ _ _ h => h) (Or.inl ⟨by rfl, ?_⟩) ?_ ?_
          rotate_left
          · intro w'
            go_simp
            with_reducible rfl
          rotate_left
          · simp only [Act.put, List.setIfInBounds_toArray, List.set_cons_zero, List.set_cons_succ, i64_w, i32_w]
            rfl
          refine pure_ (i := 6) (N := some 22) (v := ?_) (a' := ?_) #[true, true, true, false, true, true, true, false, false, false] rfl rfl (by kernel_rfl) (fun _ _ _ h => h) (Or.inl ⟨by rfl, ?_⟩) ?_ ?_
          rotate_left
          · intro w'
            go_simp
            with_reducible rfl
          rotate_left
          · simp only [Act.put, List.setIfInBounds_toArray, List.set_cons_zero, List.set_cons_succ, i64_w, i32_w]
            rfl
          refine pure_ (i := 7) (N := some 23) (v := ?_) (a' := ?_) #[true, true, true, false, true, true, true, true, false, false] rfl rfl (by kernel_rfl) (fun _ _ _ h => h) (Or.inl ⟨by rfl, ?_⟩) ?_ ?_
          rotate_left
          · intro w'
            go_simp
            with_reducible rfl
          rotate_left
          · simp only [Act.put, List.setIfInBounds_toArray, List.set_cons_zero, List.set_cons_succ, i64_w, i32_w]
            rfl
          refine take_ (i := 3) (N := some 19) (v := ?_) (a' := ?_) #[true, true, true, true, true, true, true, true, false, false] rfl rfl (by kernel_rfl) (fun _ _ _ h => h) (Or.inl ⟨by rfl, ?_⟩) hHeld ?_ ?_
          rotate_left
          · rintro w' ⟨s0, s1, s2, s3, s4⟩
            go_simp
            with_reducible rfl
          rotate_left
          · simp only [Act.put, List.setIfInBounds_toArray, List.set_cons_zero, List.set_cons_succ, i64_w, i32_w]
            rfl
          refine take_ (i := 8) (N := some 24) (v := ?_) (a' := ?_) #[true, true, true, true, true, true, true, true, true, false] rfl rfl (by kernel_rfl) (fun _ _ _ h => h) (Or.inl ⟨by rfl, ?_⟩) hHeld ?_ ?_
          rotate_left
          · rintro w' ⟨s0, s1, s2, s3, s4⟩
            go_simp
            with_reducible rfl
          rotate_left
          · simp only [Act.put, List.setIfInBounds_toArray, List.set_cons_zero, List.set_cons_succ, i64_w, i32_w]
            rfl
          refine pure_ (i := 9) (N := some 25) (v := ?_) (a' := ?_) #[true, true, true, true, true, true, true, true, true, true] rfl rfl (by kernel_rfl) (fun _ _ _ h => h) (Or.inl ⟨by rfl, ?_⟩) ?_ ?_
          rotate_left
          · intro w'
            go_simp
            with_reducible rfl
          rotate_left
          · simp only [Act.put, List.setIfInBounds_toArray, List.set_cons_zero, List.set_cons_succ, i64_w, i32_w]
            rfl
          refine done_ (by kernel_rfl) ?_
          go_wp2_with (fail)
          go_roundg k1
          case measure => omega
          case rel => exact ⟨i + 1, by first | rw [q2] | rfl, hA', hN', hSd⟩
        · go_wp2_with (fail)
          refine start_ (n := 10) (S := fun w' => w'.cell? ⟨g, i * 2, none⟩ = some (.int .u64 x.f0) ∧ w'.cell? ⟨g, i * 2 + 1, none⟩ = some (.int .u32 x.f1) ∧ w'.cell? ⟨g, z.toNat * 2, none⟩ = some (.int .u64 y.f0) ∧ w'.cell? ⟨g, z.toNat * 2 + 1, none⟩ = some (.int .u32 y.f1) ∧ (x.f0 = y.f0) = True ∧ (x.f1 = y.f1) = False) (ds := []) #[false, false, false, false, false, false, false, false, false, false] (by kernel_rfl) rfl rfl ⟨hx0, hx1, hy0, hy1, hb0, hb1⟩ (fun hHeld => ?_)
          refine pure_ (i := 0) (N := some 16) (v := ?_) (a' := ?_) #[true, false, false, false, false, false, false, false, false, false] rfl rfl (by kernel_rfl) (fun _ _ _ h => h) (Or.inl ⟨by rfl, ?_⟩) ?_ ?_
          rotate_left
          · intro w'
            go_simp
            with_reducible rfl
          rotate_left
          · simp only [Act.put, List.setIfInBounds_toArray, List.set_cons_zero, List.set_cons_succ, i64_w, i32_w]
            rfl
          refine pure_ (i := 1) (N := some 17) (v := ?_) (a' := ?_) #[true, true, false, false, false, false, false, false, false, false] rfl rfl (by kernel_rfl) (fun _ _ _ h => h) (Or.inl ⟨by rfl, ?_⟩) ?_ ?_
          rotate_left
          · intro w'
            go_simp
            with_reducible rfl
          rotate_left
          · simp only [Act.put, List.setIfInBounds_toArray, List.set_cons_zero, List.set_cons_succ, i64_w, i32_w]
            rfl
          refine pure_ (i := 2) (N := some 18) (v := ?_) (a' := ?_) #[true, true, true, false, false, false, false, false, false, false] rfl rfl (by kernel_rfl) (fun _ _ _ h => h) (Or.inl ⟨by rfl, ?_⟩) ?_ ?_
          rotate_left
          · intro w'
            go_simp
            with_reducible rfl
          rotate_left
          · simp only [Act.put, List.setIfInBounds_toArray, List.set_cons_zero, List.set_cons_succ, i64_w, i32_w]
            rfl
          refine pure_ (i := 4) (N := some 20) (v := ?_) (a' := ?_) #[true, true, true, false, true, false, false, false, false, false] rfl rfl (by kernel_rfl) (fun _ _ _ h => h) (Or.inl ⟨by rfl, ?_⟩) ?_ ?_
          rotate_left
          · intro w'
            go_simp
            with_reducible rfl
          rotate_left
          · simp only [Act.put, List.setIfInBounds_toArray, List.set_cons_zero, List.set_cons_succ, i64_w, i32_w]
            rfl
          refine pure_ (i := 5) (N := some 21) (v := ?_) (a' := ?_) #[true, true, true, false, true, true, false, false, false, false] rfl rfl (by kernel_rfl) (fun _ _ _ h => h) (Or.inl ⟨by rfl, ?_⟩) ?_ ?_
          rotate_left
          · intro w'
            go_simp
            with_reducible rfl
          rotate_left
          · simp only [Act.put, List.setIfInBounds_toArray, List.set_cons_zero, List.set_cons_succ, i64_w, i32_w]
            rfl
          refine pure_ (i := 6) (N := some 22) (v := ?_) (a' := ?_) #[true, true, true, false, true, true, true, false, false, false] rfl rfl (by kernel_rfl) (fun _ _ _ h => h) (Or.inl ⟨by rfl, ?_⟩) ?_ ?_
          rotate_left
          · intro w'
            go_simp
            with_reducible rfl
          rotate_left
          · simp only [Act.put, List.setIfInBounds_toArray, List.set_cons_zero, List.set_cons_succ, i64_w, i32_w]
            rfl
          refine pure_ (i := 7) (N := some 23) (v := ?_) (a' := ?_) #[true, true, true, false, true, true, true, true, false, false] rfl rfl (by kernel_rfl) (fun _ _ _ h => h) (Or.inl ⟨by rfl, ?_⟩) ?_ ?_
          rotate_left
          · intro w'
            go_simp
            with_reducible rfl
          rotate_left
          · simp only [Act.put, List.setIfInBounds_toArray, List.set_cons_zero, List.set_cons_succ, i64_w, i32_w]
            rfl
          refine take_ (i := 3) (N := some 19) (v := ?_) (a' := ?_) #[true, true, true, true, true, true, true, true, false, false] rfl rfl (by kernel_rfl) (fun _ _ _ h => h) (Or.inl ⟨by rfl, ?_⟩) hHeld ?_ ?_
          rotate_left
          · rintro w' ⟨s0, s1, s2, s3, s4, s5⟩
            go_simp
            with_reducible rfl
          rotate_left
          · simp only [Act.put, List.setIfInBounds_toArray, List.set_cons_zero, List.set_cons_succ, i64_w, i32_w]
            rfl
          refine take_ (i := 8) (N := some 24) (v := ?_) (a' := ?_) #[true, true, true, true, true, true, true, true, true, false] rfl rfl (by kernel_rfl) (fun _ _ _ h => h) (Or.inl ⟨by rfl, ?_⟩) hHeld ?_ ?_
          rotate_left
          · rintro w' ⟨s0, s1, s2, s3, s4, s5⟩
            go_simp
            with_reducible rfl
          rotate_left
          · simp only [Act.put, List.setIfInBounds_toArray, List.set_cons_zero, List.set_cons_succ, i64_w, i32_w]
            rfl
          refine pure_ (i := 9) (N := some 25) (v := ?_) (a' := ?_) #[true, true, true, true, true, true, true, true, true, true] rfl rfl (by kernel_rfl) (fun _ _ _ h => h) (Or.inl ⟨by rfl, ?_⟩) ?_ ?_
          rotate_left
          · intro w'
            go_simp
            with_reducible rfl
          rotate_left
          · simp only [Act.put, List.setIfInBounds_toArray, List.set_cons_zero, List.set_cons_succ, i64_w, i32_w]
            rfl
          refine done_ (by kernel_rfl) ?_
          go_wp2_with (fail)
          go_roundg k1
          case measure => omega
          case rel => exact ⟨i + 1, by first | rw [q2] | rfl, hA', hN', hSd⟩
    · have he : decide ((i : Int) < (l.length : Int)) = false := decide_eq_false (by omega)
      have he2 : decide (i < l.length) = false := decide_eq_false hil
      have hC : compactE l = l := by
        unfold compactE
        rw [dc_take l l.length (Nat.le_refl _) (fun j h1 h2 => hN.out j h1 (by omega)), List.take_length]
      clear hil
      go_wp2_with (fail)
      go_ret
      exact ⟨cur, by rw [hC]; rfl, hHA.out.2.1, by rw [hC]; exact hHA.out.1, hS.out⟩
end Go.Proofs.Ytnmdckgaljldhaa.Tb

/- table: slices.SortFunc on a nil row. -/
set_option linter.unusedVariables false
set_option linter.unusedSimpArgs false
namespace Go.Proofs.Ytnmdckgaljldhaa.Tb
open Go Go.RowKit Go.Proofs.YtnmdckgaljldhaaW.PrintWords Go.Proofs.YtnmdckgaljldhaaW.PrintLast Go.Proofs.YtnmdckgaljldhaaW.PrintMore Go.Proofs.Ytnmdckgaljldhaa.Sep Go.Proofs.Ytnmdckgaljldhaa.G
set_option maxHeartbeats 4000000
set_option maxRecDepth 100000

theorem ins_nil (A : Option Addr) (c : Nat) (fv : Value) (w : World) : Calls Try.prog 129 #[.slice A 0 c, .int .i64 0, .int .i64 0, fv] w fun r w' => r = .returned (.tuple #[]) ∧ w' = w := by
  go_enter Try.func129, Try.ntmps129
  go_wp2_with (fail)
  refine wp_loop_rounds 1 ?_
  rw [rounds_succ]
  go_wp2_with (fail)
  go_end0
  exact ⟨rfl, rfl⟩
theorem pdq_nil (A : Option Addr) (c : Nat) (lim : Int) (fv : Value) (w : World) : Calls Try.prog 118 #[.slice A 0 c, .int .i64 0, .int .i64 0, .int .i64 lim, fv] w fun r w' => r = .returned (.tuple #[]) ∧ w' = w := by
  go_enter Try.func118, Try.ntmps118
  go_wp2_with (fail)
  refine wp_loop_rounds 1 ?_
  rw [rounds_succ]
  go_wp2_with (fail)
  refine (ins_nil A c fv _).mono ?_
  rintro r w1 ⟨rfl, rfl⟩
  go_wp2_with (fail)
  refine bodyPost_ret (results_none rfl _ _ _) rfl ?_
  exact ⟨rfl, rfl⟩
theorem sort_nil (A : Option Addr) (c : Nat) (fv : Value) (w : World) : Calls Try.prog 86 #[.slice A 0 c, fv] w fun r w' => r = .returned (.tuple #[]) ∧ w' = w := by
  have hl : Calls Try.prog 119 #[.int .u64 0] w fun e w' => e = .returned (.int .i64 (Go.Lib.bitLen 0 : Nat)) ∧ w' = w :=
    Any.bits_Len (SlLaysF0.n15.bits (P := Try.prog) (ρ := Try.sortL_ren) { Try.sortL with }) 0 w (by decide) (by decide)
  go_enter Try.func86, Try.ntmps86
  go_wp2_with (fail)
  refine hl.mono ?_
  rintro r w1 ⟨rfl, rfl⟩
  go_wp2_with (fail)
  refine (pdq_nil A c _ fv _).mono ?_
  rintro r w2 ⟨rfl, rfl⟩
  go_wp2_with (fail)
  go_end0
  exact ⟨rfl, rfl⟩
end Go.Proofs.Ytnmdckgaljldhaa.Tb

/- table.Sorted, walked: the sorted row, each once. -/
set_option linter.unusedVariables false
set_option linter.unusedSimpArgs false
namespace Go.Proofs.Ytnmdckgaljldhaa.Tb
open Go Go.RowKit Go.Proofs.YtnmdckgaljldhaaW.PrintWords Go.Proofs.YtnmdckgaljldhaaW.PrintLast Go.Proofs.YtnmdckgaljldhaaW.PrintMore Go.Proofs.Ytnmdckgaljldhaa.Sep Go.Proofs.Ytnmdckgaljldhaa.G
set_option maxHeartbeats 4000000
set_option maxRecDepth 100000

/-- An entry put into its place, once. -/
def putE (e : E1) : List E1 → List E1
  | [] => [e]
  | x :: l => if e.f0 < x.f0 ∨ e.f0 = x.f0 ∧ e.f1 < x.f1 then e :: x :: l else if x = e then x :: l else x :: putE e l
/-- The sorted row, each once. -/
def sortE (l : List E1) : List E1 := l.foldl (fun a e => putE e a) []
theorem putE_mem (e y : E1) : ∀ l, y ∈ putE e l ↔ y = e ∨ y ∈ l
  | [] => by simp [putE]
  | x :: l => by
    unfold putE
    split
    · simp
    · split
      · rename_i h; subst h; simp
      · rw [List.mem_cons, putE_mem e y l, List.mem_cons]
        exact ⟨fun h => h.elim (fun h => .inr (.inl h)) (fun h => h.elim .inl (fun h => .inr (.inr h))), fun h => h.elim (fun h => .inr (.inl h)) (fun h => h.elim .inl (fun h => .inr (.inr h)))⟩
theorem putE_rise (e : E1) : ∀ l : List E1, l.Pairwise lessE → (putE e l).Pairwise lessE
  | [], _ => by simp [putE]
  | x :: l, h => by
    obtain ⟨h1, h2⟩ := List.pairwise_cons.1 h
    unfold putE
    split
    · rename_i hlt
      have hex : lessE e x := hlt
      refine List.pairwise_cons.2 ⟨fun y hy => ?_, h⟩
      rcases List.mem_cons.1 hy with rfl | hy
      · exact hex
      · have := h1 y hy
        unfold lessE at *; omega
    · split
      · exact h
      · rename_i h3 h4
        refine List.pairwise_cons.2 ⟨fun y hy => ?_, putE_rise e l h2⟩
        rcases (putE_mem e y l).1 hy with rfl | hy
        · rcases lessE_tri x y with h | h | h
          · exact h
          · exact absurd h h4
          · exact absurd h h3
        · exact h1 y hy
theorem sortE_fold (l : List E1) : ∀ a : List E1, a.Pairwise lessE → (l.foldl (fun a e => putE e a) a).Pairwise lessE ∧ ∀ y, y ∈ l.foldl (fun a e => putE e a) a ↔ y ∈ a ∨ y ∈ l := by
  induction l with
  | nil => intro a h; exact ⟨h, fun y => by simp⟩
  | cons x l ih =>
    intro a h
    obtain ⟨h1, h2⟩ := ih (putE x a) (putE_rise x a h)
    refine ⟨h1, fun y => ?_⟩
    rw [List.foldl_cons, h2, putE_mem, List.mem_cons]
    exact ⟨fun h => h.elim (fun h => h.elim (fun h => .inr (.inl h)) .inl) (fun h => .inr (.inr h)), fun h => h.elim (fun h => .inl (.inr h)) (fun h => h.elim (fun h => .inl (.inl h)) .inr)⟩
theorem sortE_rise (l : List E1) : (sortE l).Pairwise lessE := (sortE_fold l [] List.Pairwise.nil).1
theorem sortE_mem (l : List E1) (y : E1) : y ∈ sortE l ↔ y ∈ l := by
  rw [sortE, (sortE_fold l [] List.Pairwise.nil).2]; simp
theorem sortE_len (l : List E1) : (sortE l).length ≤ l.length := by
  have hp : ∀ (e : E1) (a : List E1), (putE e a).length ≤ a.length + 1 := by
    intro e a
    induction a with
    | nil => simp [putE]
    | cons x a ih => unfold putE; split <;> (try split) <;> simp <;> omega
  have : ∀ (l a : List E1), (l.foldl (fun a e => putE e a) a).length ≤ a.length + l.length := by
    intro l
    induction l with
    | nil => intro a; simp
    | cons x l ih => intro a; have h1 := ih (putE x a); have h2 := hp x a; simp only [List.foldl_cons, List.length_cons]; omega
  simpa [sortE] using this l []
theorem compact_sortE {l l' : List E1} (hp : l'.Perm l) (hs : Srt l') : compactE l' = sortE l :=
  rise_unique (compactE_rise hs) (sortE_rise l) fun x => by rw [compactE_mem, sortE_mem, hp.mem_iff]

theorem compact_short (A : Option Addr) (c n : Nat) (w : World) (h2 : n < 2) :
    Calls Try.prog 87 #[.slice A n c] w fun r w' => r = .returned (.slice A n c) ∧ w' = w := by
  have e1 : decide ((n : Int) < 2) = true := decide_eq_true (by omega)
  have e2 : decide (n < 2) = true := decide_eq_true h2
  clear h2
  go_enter Try.func87, Try.ntmps87
  go_wp2_with (fail)
  go_ret
  exact ⟨rfl, rfl⟩
theorem dc_small (l : List E1) (h : l.length < 2) : compactE l = l := by
  unfold compactE
  rw [dc_take l l.length (Nat.le_refl _) (fun j h1 h2 => by omega), List.take_length]
/-- slices.Compact over a row of its own. -/
theorem compact_row (w0 w : World) (g cap : Nat) (l : List E1) (ps : List HP) (h : Sep.Sep w0 w (row kE 81 (.slice (some ⟨g, 0, none⟩) l.length cap) l :: ps)) (hl : l.length ≤ 1000000) :
    Calls Try.prog 87 #[.slice (some ⟨g, 0, none⟩) l.length cap] w fun r w' => r = .returned (.slice (some ⟨g, 0, none⟩) (compactE l).length cap) ∧ Sep.Sep w0 w' (row kE 81 (.slice (some ⟨g, 0, none⟩) (compactE l).length cap) (compactE l) :: ps) := by
  by_cases h2 : l.length < 2
  · rw [dc_small l h2]
    refine (compact_short _ cap l.length w h2).mono ?_
    rintro r w' ⟨rfl, rfl⟩
    exact ⟨rfl, h⟩
  · have hne : l ≠ [] := fun e => h2 (by rw [e]; decide)
    obtain ⟨g', cap', cur, ev, h1, h3, h4, h5, h6⟩ := rowE_blk h hne
    cases ev
    refine (compact_blk w0 w g cap cur l ps h5 (by omega) h1 h3 h4 h6 hl).mono ?_
    rintro r w' ⟨cur', rfl, c1, c2, c3⟩
    have hle : (compactE l).length ≤ l.length := dc_len l l.length
    exact ⟨rfl, blk_rowE c3 (by omega) h3 c1 c2⟩

theorem sorted_call (w0 w : World) (A : Option Addr) (c : Nat) (l : List E1) (ps : List HP) (hs : Sep.Sep w0 w ps) (hC : kE.C w A l.length l) (hl : l.length ≤ 1000000) :
    Calls Try.prog 46 #[.slice A l.length c] w fun r w' => ∃ (A' : Option Addr) (cap : Nat), r = .returned (.slice A' (sortE l).length cap) ∧ Sep.Sep w0 w' (row kE 81 (.slice A' (sortE l).length cap) (sortE l) :: ps) := by
  have hSA := Aside0.mk hs
  have hCA := Aside0.mk hC
  have hlA := Aside0.mk hl
  cases A with
  | none =>
    have hnil : l = [] := by
      cases l with
      | nil => rfl
      | cons x t =>
        obtain ⟨ad, e, _⟩ := at_T81 hC 0 (by omega) (by simp only [List.length_cons]; omega)
        cases e
    subst hnil
    clear hs hC hl hCA hlA
    go_enter Try.func46, Try.ntmps46
    go_wp2_with (fail)
    refine (clone_nil c _).mono ?_
    rintro r w1 ⟨rfl, rfl⟩
    go_wp2_with (fail)
    refine (sort_nil none 0 _ _).mono ?_
    rintro r w1 ⟨rfl, rfl⟩
    go_wp2_with (fail)
    refine (compact_short none 0 0 _ (by decide)).mono ?_
    rintro r w1 ⟨rfl, rfl⟩
    go_wp2_with (fail)
    go_ret
    exact ⟨none, 0, rfl, Sep.row_nil kE _ hSA.out⟩
  | some ad =>
    clear hs hC hl
    go_enter Try.func46, Try.ntmps46
    go_wp2_with (fail)
    refine (clone_some ad c l _ hCA.out hlA.out).mono ?_
    rintro r w1 ⟨⟨g, cap, rfl, hR⟩, hB⟩
    have hS1 := Aside0.mk (Sep.row_new hSA.out hB hR)
    clear hR hB
    go_wp2_with (fail)
    refine (sort_call w0 w1 g l.length cap l ps hS1.out (by have := hlA.out; omega)).mono ?_
    rintro r w2 ⟨rfl, l', hp, hsr, hS2⟩
    have hA2 := Aside0.mk (And.intro hp (And.intro hsr hS2))
    have hll : Aside0 (l.length = l'.length) := ⟨hp.length_eq.symm⟩
    clear hp hsr hS2
    go_wp2_with (fail)
    rw [hll.out]
    refine (compact_row w0 w2 g cap l' ps (by rw [← hll.out]; exact hA2.out.2.2) (by have := hlA.out; have := hll.out; omega)).mono ?_
    rintro r w3 ⟨rfl, hS3⟩
    have hA3 := Aside0.mk hS3
    clear hS3
    have hq := compact_sortE hA2.out.1 hA2.out.2.1
    rw [hq] at hA3
    rw [hq]
    clear hq
    go_wp2_with (fail)
    go_ret
    exact ⟨_, cap, rfl, hA3.out⟩
end Go.Proofs.Ytnmdckgaljldhaa.Tb
