/- fascicleref04.begin. -/
import Derived.Test.YtekanmieppnpeaaHRef04
set_option linter.unusedVariables false
set_option linter.unusedSimpArgs false
namespace Go.Proofs.Ytekanmieppnpeaa.G
open Go Go.RowKit Go.Proofs.YtekanmieppnpeaaW.PrintWords Go.Proofs.YtekanmieppnpeaaW.PrintLast Go.Proofs.YtekanmieppnpeaaW.PrintMore Go.Proofs.Ytekanmieppnpeaa.PureKit Go.Proofs.Ytekanmieppnpeaa.Sep Go.Proofs.Ytekanmieppnpeaa.Rol

def wvals (vs : List Nat) : Array Value := (nat64 vs).toArray
theorem wvals_at (vs : List Nat) (j x : Nat) (h : vs[j]? = some x) : (wvals vs)[j]? = some (.int .u64 (x : Int)) := by
  unfold wvals nat64
  rw [List.getElem?_toArray, List.getElem?_map, h]
  rfl
theorem wvals_set (us : List Nat) (j x : Nat) : (wvals us).setIfInBounds j (.int .u64 (x : Int)) = wvals (us.set j x) := by
  unfold wvals nat64
  rw [List.setIfInBounds_toArray, List.map_set]
theorem sum_turns (x0 x1 x2 x3 : Nat) (h0 : x0 < 18446744073709551616) (h1 : x1 < 18446744073709551616) (h2 : x2 < 18446744073709551616) (h3 : x3 < 18446744073709551616) : ∃ y0 y1 y2 y3 a1 a2 a3 : Nat, rol 64 1 x0 = y0 ∧ rol 64 7 x1 = y1 ∧ rol 64 12 x2 = y2 ∧ rol 64 18 x3 = y3 ∧
    IntKind.u64.wrap ((y0 : Int) + (y1 : Int)) = (a1 : Int) ∧ IntKind.u64.wrap ((a1 : Int) + (y2 : Int)) = (a2 : Int) ∧ IntKind.u64.wrap ((a2 : Int) + (y3 : Int)) = (a3 : Int) ∧ a3 < 18446744073709551616 ∧ wout [x0, x1, x2, x3] = [x0, x1, x2, x3].foldl wmerge a3 := by
  refine ⟨_, _, _, _, _, _, _, rfl, rfl, rfl, rfl, add_step _ _, add_step _ _, add_step _ _, mod_lt64 _, ?_⟩
  unfold wout
  rw [show ([x0, x1, x2, x3] : List Nat).getD 0 0 = x0 from rfl, show ([x0, x1, x2, x3] : List Nat).getD 1 0 = x1 from rfl, show ([x0, x1, x2, x3] : List Nat).getD 2 0 = x2 from rfl, show ([x0, x1, x2, x3] : List Nat).getD 3 0 = x3 from rfl]
  generalize rol 64 1 x0 = p0
  generalize rol 64 7 x1 = p1
  generalize rol 64 12 x2 = p2
  generalize rol 64 18 x3 = p3
  exact congrArg (fun z => [x0, x1, x2, x3].foldl wmerge z) (by omega)

set_option maxHeartbeats 8000000 in
set_option maxRecDepth 100000 in
theorem begin_walk (w : World) (l : List Int) (s : Nat) (hb : Bytes l) (hl : l.length ≤ 1000000000000) (hs : s < 18446744073709551616) :
    Calls Try.prog 117 #[.int .u64 (s : Int), .string (strOfNums l)] w fun e w' => e = .returned (.tuple #[.int .u64 ((wout (wvs s l) : Nat) : Int), .string (strOfNums (wrest l))]) ∧ Below w.heap.size w w' := by
  have hsz : (strOfNums l).size = l.length := nums_size l
  obtain ⟨q1, hq1⟩ : ∃ q : Nat, (s + 11400714785074694791) % 18446744073709551616 = q := ⟨_, rfl⟩
  have fq1 : IntKind.u64.wrap ((s : Int) + 11400714785074694791) = (q1 : Int) := by rw [IntKind.wrap_u64]; omega
  obtain ⟨q2, hq2⟩ : ∃ q : Nat, (q1 + 14029467366897019727) % 18446744073709551616 = q := ⟨_, rfl⟩
  have fq2 : IntKind.u64.wrap ((q1 : Int) + 14029467366897019727) = (q2 : Int) := by rw [IntKind.wrap_u64]; omega
  obtain ⟨q3, hq3⟩ : ∃ q : Nat, (s + 14029467366897019727) % 18446744073709551616 = q := ⟨_, rfl⟩
  have fq3 : IntKind.u64.wrap ((s : Int) + 14029467366897019727) = (q3 : Int) := by rw [IntKind.wrap_u64]; omega
  obtain ⟨q4, hq4⟩ : ∃ q : Nat, (s + 18446744073709551616 - 11400714785074694791) % 18446744073709551616 = q := ⟨_, rfl⟩
  have fq4 : IntKind.u64.wrap ((s : Int) - 11400714785074694791) = (q4 : Int) := by rw [IntKind.wrap_u64]; omega
  have hv : winit s = [q2, q3, s, q4] := wnew_q s q1 q2 q3 q4 hq1 hq2 hq3 hq4
  have hS := Aside0.mk (Sep.start w)
  have hvA := Aside0.mk hv
  have hwi : Small8 [q2, q3, s, q4] := by rw [← hv]; exact winit_small s hs
  have hlA := Aside0.mk hl
  clear hq1 hq2 hq3 hq4 hv
  go_enter Try.func117, Try.ntmps117
  go_wp2_with (fail)
  have hS1 : Aside0 (Sep.Sep w (w.alloc (.cells #[.int .u64 (q2 : Int), .int .u64 (q3 : Int), .int .u64 (s : Int), .int .u64 (q4 : Int)] 179 (0, 0))) [blk w.heap.size (wvals [q2, q3, s, q4]) 179]) := ⟨hS.out.alloc _ _⟩
  generalize w.alloc (.cells #[.int .u64 (q2 : Int), .int .u64 (q3 : Int), .int .u64 (s : Int), .int .u64 (q4 : Int)] 179 (0, 0)) = w1 at hS1 ⊢
  clear fq1 fq2 fq3 fq4
  generalize hvv : [q2, q3, s, q4] = v0 at *
  clear hvv
  go_loopg [1] (l.length / 32) (fun kq v1 w' => ∃ (i : Nat), v1 = .string (strOfNums (l.drop (32 * i))) ∧ Aside0 (i + kq = l.length / 32) ∧ Aside0 (Sep.Sep w w' [blk w.heap.size (wvals (wstripes i v0 l)) 179]))
  case atStart => exact ⟨0, by rw [Nat.mul_zero, List.drop_zero], ⟨by omega⟩, hS1⟩
  case round =>
    obtain ⟨i, rfl, hA, hS⟩ := hrel
    have hv0l : v0.length = 4 := by rw [← hvA.out]; rfl
    by_cases hin : i < l.length / 32
    · have hlen : (l.drop (32 * i)).length = l.length - 32 * i := by rw [List.length_drop]
      have h32 : 32 ≤ (l.drop (32 * i)).length := by omega
      have hb1 : Bytes (l.drop (32 * i)) := hb.drop _
      have hvs : Small8 (wstripes i v0 l) := wstripes_small _ _ hwi _
      have hvl : (wstripes i v0 l).length = 4 := by rw [wstripes_len, hv0l]
      have hd : decide (((l.drop (32 * i)).length : Int) ≥ 32) = true := decide_eq_true (by omega)
      obtain ⟨k1, rfl⟩ : ∃ k1, gk = k1 + 1 := ⟨gk - 1, by have := hA.out; omega⟩
      generalize hll : l.drop (32 * i) = l1 at *
      generalize hvv : wstripes i v0 l = vs at *
      have hl1l : l1.length ≤ 1000000000000 := by rw [hlen]; have := hlA.out; omega
      have hsz1 : (strOfNums l1).size = l1.length := nums_size l1
      have h32A := Aside0.mk h32
      have h32i : (32 : Int) ≤ (l1.length : Int) := by omega
      have hex32 : (strOfNums l1).extract 32 l1.length = strOfNums (l1.drop 32) := by rw [nums_extract, List.take_of_length_le (by omega)]
      clear hlen h32 hsz
      go_wp2_with (fail)
      go_loopg [29] 4 (fun kq v29 w' => ∃ (j : Nat), v29 = .int .i64 j ∧ Aside0 (j + kq = 4) ∧ Aside0 (Sep.Sep w w' [blk w.heap.size (wvals (wpart l1 vs j)) 179]))
      case atStart => exact ⟨0, rfl, ⟨by omega⟩, hS⟩
      case round =>
        obtain ⟨j, rfl, hj, hS2⟩ := hrel
        by_cases hjn : j < 4
        · have hd2 : decide ((j : Int) < 4) = true := decide_eq_true (by omega)
          obtain ⟨k2, rfl⟩ : ∃ k2, gk = k2 + 1 := ⟨gk - 1, by have := hj.out; omega⟩
          have p0 : ((0 : Int) ≤ (j : Int)) = True := eq_true (by omega)
          have q0 : ((j : Int) < 4) = True := eq_true (by omega)
          have hul : (wpart l1 vs j).length = 4 := by rw [wpart_len, hvl]
          have hus : Small8 (wpart l1 vs j) := wpart_small _ _ hvs j
          obtain ⟨x, hx⟩ : ∃ x, (wpart l1 vs j).getD j 0 = x := ⟨_, rfl⟩
          have hxl : x < 18446744073709551616 := by rw [← hx]; exact hus.at j
          have hux : (wpart l1 vs j)[j]? = some x := by rw [← hx, List.getD_eq_getElem?_getD, List.getElem?_eq_getElem (by omega)]; rfl
          have hcell := wvals_at _ j x hux
          generalize hu : wpart l1 vs j = us at *
          have hxA := Aside0.mk hx
          have hulA := Aside0.mk hul
          clear hx hul hux
          obtain ⟨y, hy⟩ : ∃ y, leb ((l1.drop (8 * j)).take 8) = y := ⟨_, rfl⟩
          have hyl : y < 18446744073709551616 := by rw [← hy]; exact leb_lt4 _ ((hb1.drop _).take _) 8 (by rw [List.length_take]; omega)
          have hex : (strOfNums l1).extract (8 * j) (8 * j + 8) = strOfNums ((l1.drop (8 * j)).take 8) := by rw [nums_extract, List.drop_take]; congr 2; omega
          have hyA := Aside0.mk hy
          clear hy
          have b1 : (8 * (j : Int) + 8 ≤ (l1.length : Int)) = True := eq_true (by omega)
          have b2 : (0 ≤ 8 * (j : Int)) = True := eq_true (by omega)
          have b3 : (8 * (j : Int) ≤ 8 * (j : Int) + 8) = True := eq_true (by omega)
          have b4 : (8 * (j : Int) + 8).toNat = 8 * j + 8 := by omega
          have b5 : (8 * (j : Int)).toNat = 8 * j := by omega
          have hw4 : wrap64 (8 * (j : Int)) = 8 * (j : Int) := w64 (by omega) (by omega)
          have hw5 : wrap64 (8 * (j : Int) + 8) = 8 * (j : Int) + 8 := w64 (by omega) (by omega)
          go_wp2_with (fail)
          have hS3 := hS2.out.drew
          have hc0 : wr.drew.cell? ⟨w.heap.size, j, none⟩ = some (.int .u64 (x : Int)) := (hS3.cell j).trans hcell
          have hfr : wr.drew.frozen? ⟨w.heap.size, j, none⟩ = false := hS3.frozen j
          have hS3 := Aside0.mk hS3
          refine start_ (n := 15) (S := fun w' => w'.cell? ⟨w.heap.size, j, none⟩ = some (.int .u64 (x : Int))) (ds := [14]) #[false, false, false, false, false, false, false, false, false, false, false, false, false, false, false] (by kernel_rfl) rfl rfl (hc0) (fun hHeld => ?_)
          refine pure_ (i := 0) (N := some 32) (v := ?_) (a' := ?_) #[true, false, false, false, false, false, false, false, false, false, false, false, false, false, false] rfl rfl (by kernel_rfl) (fun _ _ _ h => h) (Or.inl ⟨by rfl, ?_⟩) ?_ ?_
          rotate_left
          · intro w'
            go_simp
            with_reducible rfl
          rotate_left
          · simp only [Act.put, List.setIfInBounds_toArray, List.set_cons_zero, List.set_cons_succ, i64_w, i32_w]
            rfl
          refine pure_ (i := 1) (N := some 33) (v := ?_) (a' := ?_) #[true, true, false, false, false, false, false, false, false, false, false, false, false, false, false] rfl rfl (by kernel_rfl) (fun _ _ _ h => h) (Or.inl ⟨by rfl, ?_⟩) ?_ ?_
          rotate_left
          · intro w'
            go_simp
            with_reducible rfl
          rotate_left
          · simp only [Act.put, List.setIfInBounds_toArray, List.set_cons_zero, List.set_cons_succ, i64_w, i32_w]
            rfl
          refine pure_ (i := 2) (N := some 34) (v := ?_) (a' := ?_) #[true, true, true, false, false, false, false, false, false, false, false, false, false, false, false] rfl rfl (by kernel_rfl) (fun _ _ _ h => h) (Or.inl ⟨by rfl, ?_⟩) ?_ ?_
          rotate_left
          · intro w'
            go_simp
            with_reducible rfl
          rotate_left
          · simp only [Act.put, List.setIfInBounds_toArray, List.set_cons_zero, List.set_cons_succ, i64_w, i32_w]
            rfl
          refine pure_ (i := 4) (N := some 36) (v := ?_) (a' := ?_) #[true, true, true, false, true, false, false, false, false, false, false, false, false, false, false] rfl rfl (by kernel_rfl) (fun _ _ _ h => h) (Or.inl ⟨by rfl, ?_⟩) ?_ ?_
          rotate_left
          · intro w'
            go_simp
            with_reducible rfl
          rotate_left
          · simp only [Act.put, List.setIfInBounds_toArray, List.set_cons_zero, List.set_cons_succ, i64_w, i32_w]
            rfl
          refine pure_ (i := 5) (N := some 37) (v := ?_) (a' := ?_) #[true, true, true, false, true, true, false, false, false, false, false, false, false, false, false] rfl rfl (by kernel_rfl) (fun _ _ _ h => h) (Or.inl ⟨by rfl, ?_⟩) ?_ ?_
          rotate_left
          · intro w'
            go_simp
            with_reducible rfl
          rotate_left
          · simp only [Act.put, List.setIfInBounds_toArray, List.set_cons_zero, List.set_cons_succ, i64_w, i32_w]
            rfl
          refine pure_ (i := 6) (N := some 38) (v := ?_) (a' := ?_) #[true, true, true, false, true, true, true, false, false, false, false, false, false, false, false] rfl rfl (by kernel_rfl) (fun _ _ _ h => h) (Or.inl ⟨by rfl, ?_⟩) ?_ ?_
          rotate_left
          · intro w'
            go_simp
            with_reducible rfl
          rotate_left
          · simp only [Act.put, List.setIfInBounds_toArray, List.set_cons_zero, List.set_cons_succ, i64_w, i32_w]
            rfl
          refine pure_ (i := 7) (N := some 39) (v := ?_) (a' := ?_) #[true, true, true, false, true, true, true, true, false, false, false, false, false, false, false] rfl rfl (by kernel_rfl) (fun _ _ _ h => h) (Or.inl ⟨by rfl, ?_⟩) ?_ ?_
          rotate_left
          · intro w'
            go_simp
            with_reducible rfl
          rotate_left
          · simp only [Act.put, List.setIfInBounds_toArray, List.set_cons_zero, List.set_cons_succ, i64_w, i32_w]
            rfl
          refine pure_ (i := 8) (N := some 40) (v := ?_) (a' := ?_) #[true, true, true, false, true, true, true, true, true, false, false, false, false, false, false] rfl rfl (by kernel_rfl) (fun _ _ _ h => h) (Or.inl ⟨by rfl, ?_⟩) ?_ ?_
          rotate_left
          · intro w'
            go_simp
            with_reducible rfl
          rotate_left
          · simp only [Act.put, List.setIfInBounds_toArray, List.set_cons_zero, List.set_cons_succ, i64_w, i32_w]
            rfl
          refine pure_ (i := 9) (N := some 41) (v := ?_) (a' := ?_) #[true, true, true, false, true, true, true, true, true, true, false, false, false, false, false] rfl rfl (by kernel_rfl) (fun _ _ _ h => h) (Or.inl ⟨by rfl, ?_⟩) ?_ ?_
          rotate_left
          · intro w'
            go_simp
            with_reducible rfl
          rotate_left
          · simp only [Act.put, List.setIfInBounds_toArray, List.set_cons_zero, List.set_cons_succ, i64_w, i32_w]
            rfl
          refine pure_ (i := 10) (N := some 42) (v := ?_) (a' := ?_) #[true, true, true, false, true, true, true, true, true, true, true, false, false, false, false] rfl rfl (by kernel_rfl) (fun _ _ _ h => h) (Or.inl ⟨by rfl, ?_⟩) ?_ ?_
          rotate_left
          · intro w'
            go_simp
            with_reducible rfl
          rotate_left
          · simp only [Act.put, List.setIfInBounds_toArray, List.set_cons_zero, List.set_cons_succ, i64_w, i32_w]
            rfl
          refine take_ (i := 3) (N := some 35) (v := ?_) (a' := ?_) #[true, true, true, true, true, true, true, true, true, true, true, false, false, false, false] rfl rfl (by kernel_rfl) (fun _ _ _ h => h) (Or.inl ⟨by rfl, ?_⟩) hHeld ?_ ?_
          rotate_left
          · intro w' s0
            go_simp
            with_reducible rfl
          rotate_left
          · simp only [Act.put, List.setIfInBounds_toArray, List.set_cons_zero, List.set_cons_succ, i64_w, i32_w]
            rfl
          refine one_ (i := 11) (N := some 43) #[true, true, true, true, true, true, true, true, true, true, true, true, false, false, false] rfl rfl (by kernel_rfl) (by decide) (fun K hK => ?_)
          refine goes_ Try.func56 (by kernel_rfl) rfl #[.string (strOfNums ((l1.drop (8 * j)).take 8))] (by rfl) rfl rfl (by (try simp only [List.map_toArray, List.map_cons, List.map_nil]); first | done | rfl) ?_
          have hv := value_calls wr.drew ((l1.drop (8 * j)).take 8) _ rfl ((hb1.drop _).take _) (by rw [List.length_take]; omega)
          rw [hyA.out] at hv
          refine hv.mono ?_
          clear hv
          rintro e w3 ⟨rfl, ⟨nd, rfl⟩⟩
          refine ⟨_, rfl, ?_⟩
          have hS4 := Aside0.mk (hS3.out.drewN nd)
          have hc4 := (hS4.out.cell j).trans hcell
          refine hK.out _ _ (hc4) (fun hHeld => ?_)
          clear hK K
          refine norm_ (a' := ?_) ?_ ?_
          rotate_left
          · show Act.put _ (some 43) _ = _
            simp only [Act.put, List.setIfInBounds_toArray, List.set_cons_zero, List.set_cons_succ, i64_w, i32_w]
            rfl
          refine one_ (i := 12) (N := some 44) #[true, true, true, true, true, true, true, true, true, true, true, true, true, false, false] rfl rfl (by kernel_rfl) (by decide) (fun K hK => ?_)
          refine goes_ Try.func118 (by kernel_rfl) rfl #[.int .u64 (x : Int), .int .u64 (y : Int)] (by rfl) rfl rfl (by (try simp only [List.map_toArray, List.map_cons, List.map_nil]); first | done | rfl) ?_
          refine (into4_calls _ x y _ _ rfl rfl hxl hyl).mono ?_
          rintro e w4 ⟨rfl, ⟨nd2, rfl⟩⟩
          refine ⟨_, rfl, ?_⟩
          have hS5 := Aside0.mk (hS4.out.drewN nd2)
          have hc5 := (hS5.out.cell j).trans hcell
          have hf5 := hS5.out.frozen j
          refine hK.out _ _ (hc5) (fun hHeld => ?_)
          clear hK K
          refine norm_ (a' := ?_) ?_ ?_
          rotate_left
          · show Act.put _ (some 44) _ = _
            simp only [Act.put, List.setIfInBounds_toArray, List.set_cons_zero, List.set_cons_succ, i64_w, i32_w]
            rfl
          refine pure_ (i := 13) (N := some 45) (v := ?_) (a' := ?_) #[true, true, true, true, true, true, true, true, true, true, true, true, true, true, false] rfl rfl (by kernel_rfl) (fun _ _ _ h => h) (Or.inl ⟨by rfl, ?_⟩) ?_ ?_
          rotate_left
          · intro w'
            go_simp
            with_reducible rfl
          rotate_left
          · simp only [Act.put, List.setIfInBounds_toArray, List.set_cons_zero, List.set_cons_succ, i64_w, i32_w]
            rfl
          refine last_ (i := 14) (N := none) #[true, true, true, true, true, true, true, true, true, true, true, true, true, true, true] rfl rfl (by kernel_rfl) (by decide) (fun K hK => ?_)
          have hcw : wr.cell? ⟨w.heap.size, j, none⟩ = some (.int .u64 (x : Int)) := (hS2.out.cell j).trans hcell
          have hfw : wr.frozen? ⟨w.heap.size, j, none⟩ = false := hS2.out.frozen j
          refine skip_ (w1 := ?_) (by kernel_rfl) rfl ?_ ?_
          rotate_left
          · go_simp
            rfl
          refine hK.out _ _ ?_
          clear hK K
          refine done_ (by kernel_rfl) ?_
          clear hc0 hfr
          go_wp2_with (fail)
          clear b1 b2 b3 b4 b5 hw4 hw5 hex hxl hyl h32i hl1l hsz1
          go_roundg k2
          case measure => omega
          case rel =>
            refine ⟨j + 1, by simp, ⟨by have := hj.out; omega⟩, ⟨?_⟩⟩
            have hq := (hS2.out.drewN (1 + nd + nd2)).set j (.int .u64 ((win x y : Nat) : Int))
            rw [wvals_set] at hq
            rw [show wpart l1 vs (j + 1) = us.set j (win x y) by rw [wpart, hu, wstep, hxA.out, hyA.out]]
            exact hq
        · have hj4 : j = 4 := by have := hj.out; omega
          subst hj4
          have hd2 : decide (((4 : Nat) : Int) < 4) = false := rfl
          go_wp2_with (fail)
          go_roundg k1
          case measure => omega
          case rel =>
            have e : l.drop (32 * (i + 1)) = l1.drop 32 := by rw [← hll, List.drop_drop]; congr 1
            refine ⟨i + 1, by rw [e], ⟨by have := hA.out; omega⟩, ⟨?_⟩⟩
            rw [wstripes_succ, hll, hvv]
            exact hS2.out
    · have hie : i = l.length / 32 := by have := hA.out; omega
      have hlen : (l.drop (32 * i)).length = l.length - 32 * i := by rw [List.length_drop]
      have hd : decide (((l.drop (32 * i)).length : Int) ≥ 32) = false := decide_eq_false (by omega)
      have hr : Aside0 (l.drop (32 * i) = wrest l) := ⟨by rw [hie]; rfl⟩
      have hvs : Small8 (wstripes i v0 l) := wstripes_small _ _ hwi _
      have hvl : (wstripes i v0 l).length = 4 := by rw [wstripes_len, hv0l]
      have hstart : wvs s l = wstripes i v0 l := by unfold wvs; rw [hvA.out, hie]
      have hszr : (strOfNums (l.drop (32 * i))).size = (l.drop (32 * i)).length := nums_size _
      generalize wstripes i v0 l = vs at *
      generalize l.drop (32 * i) = r at *
      obtain ⟨x0, x1, x2, x3, rfl⟩ : ∃ x0 x1 x2 x3, vs = [x0, x1, x2, x3] := by
        rcases vs with _ | ⟨x0, _ | ⟨x1, _ | ⟨x2, _ | ⟨x3, _ | ⟨x4, r⟩⟩⟩⟩⟩ <;> simp at hvl
        exact ⟨_, _, _, _, rfl⟩
      have hx0 : x0 < 18446744073709551616 := hvs x0 (by simp)
      have hx1 : x1 < 18446744073709551616 := hvs x1 (by simp)
      have hx2 : x2 < 18446744073709551616 := hvs x2 (by simp)
      have hx3 : x3 < 18446744073709551616 := hvs x3 (by simp)
      obtain ⟨y0, y1, y2, y3, a1, a2, a3, e0, e1, e2, e3, f1, f2, f3, f4, f5⟩ := sum_turns x0 x1 x2 x3 hx0 hx1 hx2 hx3
      have hout : Aside0 (wout (wvs s l) = [x0, x1, x2, x3].foldl wmerge a3) := ⟨by rw [hstart, f5]⟩
      have e0A := Aside0.mk e0
      have e1A := Aside0.mk e1
      have e2A := Aside0.mk e2
      have e3A := Aside0.mk e3
      have hvsA := Aside0.mk hvs
      clear hvs hvl e0 e1 e2 e3 f5 hstart hlen hsz hie hin
      go_wp2_with (fail)
      have hS3 := hS.out.drew
      have hc0 : wr.drew.cell? ⟨w.heap.size, 0, none⟩ = some (.int .u64 (x0 : Int)) := hS3.cell 0
      have hc1 : wr.drew.cell? ⟨w.heap.size, 1, none⟩ = some (.int .u64 (x1 : Int)) := hS3.cell 1
      have hc2 : wr.drew.cell? ⟨w.heap.size, 2, none⟩ = some (.int .u64 (x2 : Int)) := hS3.cell 2
      have hc3 : wr.drew.cell? ⟨w.heap.size, 3, none⟩ = some (.int .u64 (x3 : Int)) := hS3.cell 3
      have hS3 := Aside0.mk hS3
      refine start_ (n := 16) (S := fun w' => w'.cell? ⟨w.heap.size, 0, none⟩ = some (.int .u64 (x0 : Int)) ∧ w'.cell? ⟨w.heap.size, 1, none⟩ = some (.int .u64 (x1 : Int)) ∧ w'.cell? ⟨w.heap.size, 2, none⟩ = some (.int .u64 (x2 : Int)) ∧ w'.cell? ⟨w.heap.size, 3, none⟩ = some (.int .u64 (x3 : Int))) (ds := []) #[false, false, false, false, false, false, false, false, false, false, false, false, false, false, false, false] (by kernel_rfl) rfl rfl ⟨hc0, hc1, hc2, hc3⟩ (fun hHeld => ?_)
      refine pure_ (i := 0) (N := some 49) (v := ?_) (a' := ?_) #[true, false, false, false, false, false, false, false, false, false, false, false, false, false, false, false] rfl rfl (by kernel_rfl) (fun _ _ _ h => h) (Or.inl ⟨by rfl, ?_⟩) ?_ ?_
      rotate_left
      · intro w'
        go_simp
        with_reducible rfl
      rotate_left
      · simp only [Act.put, List.setIfInBounds_toArray, List.set_cons_zero, List.set_cons_succ, i64_w, i32_w]
        rfl
      refine pure_ (i := 3) (N := some 52) (v := ?_) (a' := ?_) #[true, false, false, true, false, false, false, false, false, false, false, false, false, false, false, false] rfl rfl (by kernel_rfl) (fun _ _ _ h => h) (Or.inl ⟨by rfl, ?_⟩) ?_ ?_
      rotate_left
      · intro w'
        go_simp
        with_reducible rfl
      rotate_left
      · simp only [Act.put, List.setIfInBounds_toArray, List.set_cons_zero, List.set_cons_succ, i64_w, i32_w]
        rfl
      refine pure_ (i := 7) (N := some 56) (v := ?_) (a' := ?_) #[true, false, false, true, false, false, false, true, false, false, false, false, false, false, false, false] rfl rfl (by kernel_rfl) (fun _ _ _ h => h) (Or.inl ⟨by rfl, ?_⟩) ?_ ?_
      rotate_left
      · intro w'
        go_simp
        with_reducible rfl
      rotate_left
      · simp only [Act.put, List.setIfInBounds_toArray, List.set_cons_zero, List.set_cons_succ, i64_w, i32_w]
        rfl
      refine pure_ (i := 11) (N := some 60) (v := ?_) (a' := ?_) #[true, false, false, true, false, false, false, true, false, false, false, true, false, false, false, false] rfl rfl (by kernel_rfl) (fun _ _ _ h => h) (Or.inl ⟨by rfl, ?_⟩) ?_ ?_
      rotate_left
      · intro w'
        go_simp
        with_reducible rfl
      rotate_left
      · simp only [Act.put, List.setIfInBounds_toArray, List.set_cons_zero, List.set_cons_succ, i64_w, i32_w]
        rfl
      refine take_ (i := 1) (N := some 50) (v := ?_) (a' := ?_) #[true, true, false, true, false, false, false, true, false, false, false, true, false, false, false, false] rfl rfl (by kernel_rfl) (fun _ _ _ h => h) (Or.inl ⟨by rfl, ?_⟩) hHeld ?_ ?_
      rotate_left
      · rintro w' ⟨s0, s1, s2, s3⟩
        go_simp
        with_reducible rfl
      rotate_left
      · simp only [Act.put, List.setIfInBounds_toArray, List.set_cons_zero, List.set_cons_succ, i64_w, i32_w]
        rfl
      refine take_ (i := 4) (N := some 53) (v := ?_) (a' := ?_) #[true, true, false, true, true, false, false, true, false, false, false, true, false, false, false, false] rfl rfl (by kernel_rfl) (fun _ _ _ h => h) (Or.inl ⟨by rfl, ?_⟩) hHeld ?_ ?_
      rotate_left
      · rintro w' ⟨s0, s1, s2, s3⟩
        go_simp
        with_reducible rfl
      rotate_left
      · simp only [Act.put, List.setIfInBounds_toArray, List.set_cons_zero, List.set_cons_succ, i64_w, i32_w]
        rfl
      refine take_ (i := 8) (N := some 57) (v := ?_) (a' := ?_) #[true, true, false, true, true, false, false, true, true, false, false, true, false, false, false, false] rfl rfl (by kernel_rfl) (fun _ _ _ h => h) (Or.inl ⟨by rfl, ?_⟩) hHeld ?_ ?_
      rotate_left
      · rintro w' ⟨s0, s1, s2, s3⟩
        go_simp
        with_reducible rfl
      rotate_left
      · simp only [Act.put, List.setIfInBounds_toArray, List.set_cons_zero, List.set_cons_succ, i64_w, i32_w]
        rfl
      refine take_ (i := 12) (N := some 61) (v := ?_) (a' := ?_) #[true, true, false, true, true, false, false, true, true, false, false, true, true, false, false, false] rfl rfl (by kernel_rfl) (fun _ _ _ h => h) (Or.inl ⟨by rfl, ?_⟩) hHeld ?_ ?_
      rotate_left
      · rintro w' ⟨s0, s1, s2, s3⟩
        go_simp
        with_reducible rfl
      rotate_left
      · simp only [Act.put, List.setIfInBounds_toArray, List.set_cons_zero, List.set_cons_succ, i64_w, i32_w]
        rfl
      refine one_ (i := 2) (N := some 51) #[true, true, true, true, true, false, false, true, true, false, false, true, true, false, false, false] rfl rfl (by kernel_rfl) (by decide) (fun K hK => ?_)
      refine goes_ Try.func119 (by kernel_rfl) rfl #[.int .u64 (x0 : Int), .int .i64 1] (by rfl) rfl rfl (by (try simp only [List.map_toArray, List.map_cons, List.map_nil]); first | done | rfl) ?_
      refine (turn4_calls _ x0 1 _ _ rfl rfl hx0 (by decide)).mono ?_
      rw [e0A.out]
      rintro e w4 ⟨rfl, ⟨n0, rfl⟩⟩
      refine ⟨_, rfl, ?_⟩
      have hS4 := Aside0.mk (hS3.out.drewN n0)
      refine hK.out _ _ ⟨hS4.out.cell 0, hS4.out.cell 1, hS4.out.cell 2, hS4.out.cell 3⟩ (fun hHeld => ?_)
      clear hK K
      refine norm_ (a' := ?_) ?_ ?_
      rotate_left
      · show Act.put _ (some 51) _ = _
        simp only [Act.put, List.setIfInBounds_toArray, List.set_cons_zero, List.set_cons_succ, i64_w, i32_w]
        rfl
      refine one_ (i := 5) (N := some 54) #[true, true, true, true, true, true, false, true, true, false, false, true, true, false, false, false] rfl rfl (by kernel_rfl) (by decide) (fun K hK => ?_)
      refine goes_ Try.func119 (by kernel_rfl) rfl #[.int .u64 (x1 : Int), .int .i64 7] (by rfl) rfl rfl (by (try simp only [List.map_toArray, List.map_cons, List.map_nil]); first | done | rfl) ?_
      refine (turn4_calls _ x1 7 _ _ rfl rfl hx1 (by decide)).mono ?_
      rw [e1A.out]
      rintro e w4 ⟨rfl, ⟨n1, rfl⟩⟩
      refine ⟨_, rfl, ?_⟩
      have hS5 := Aside0.mk (hS4.out.drewN n1)
      refine hK.out _ _ ⟨hS5.out.cell 0, hS5.out.cell 1, hS5.out.cell 2, hS5.out.cell 3⟩ (fun hHeld => ?_)
      clear hK K
      refine norm_ (a' := ?_) ?_ ?_
      rotate_left
      · show Act.put _ (some 54) _ = _
        simp only [Act.put, List.setIfInBounds_toArray, List.set_cons_zero, List.set_cons_succ, i64_w, i32_w]
        rfl
      refine pure_ (i := 6) (N := some 55) (v := ?_) (a' := ?_) #[true, true, true, true, true, true, true, true, true, false, false, true, true, false, false, false] rfl rfl (by kernel_rfl) (fun _ _ _ h => h) (Or.inl ⟨by rfl, ?_⟩) ?_ ?_
      rotate_left
      · intro w'
        go_simp
        with_reducible rfl
      rotate_left
      · simp only [Act.put, List.setIfInBounds_toArray, List.set_cons_zero, List.set_cons_succ, i64_w, i32_w]
        rfl
      refine one_ (i := 9) (N := some 58) #[true, true, true, true, true, true, true, true, true, true, false, true, true, false, false, false] rfl rfl (by kernel_rfl) (by decide) (fun K hK => ?_)
      refine goes_ Try.func119 (by kernel_rfl) rfl #[.int .u64 (x2 : Int), .int .i64 12] (by rfl) rfl rfl (by (try simp only [List.map_toArray, List.map_cons, List.map_nil]); first | done | rfl) ?_
      refine (turn4_calls _ x2 12 _ _ rfl rfl hx2 (by decide)).mono ?_
      rw [e2A.out]
      rintro e w4 ⟨rfl, ⟨n2, rfl⟩⟩
      refine ⟨_, rfl, ?_⟩
      have hS6 := Aside0.mk (hS5.out.drewN n2)
      refine hK.out _ _ ⟨hS6.out.cell 0, hS6.out.cell 1, hS6.out.cell 2, hS6.out.cell 3⟩ (fun hHeld => ?_)
      clear hK K
      refine norm_ (a' := ?_) ?_ ?_
      rotate_left
      · show Act.put _ (some 58) _ = _
        simp only [Act.put, List.setIfInBounds_toArray, List.set_cons_zero, List.set_cons_succ, i64_w, i32_w]
        rfl
      refine pure_ (i := 10) (N := some 59) (v := ?_) (a' := ?_) #[true, true, true, true, true, true, true, true, true, true, true, true, true, false, false, false] rfl rfl (by kernel_rfl) (fun _ _ _ h => h) (Or.inl ⟨by rfl, ?_⟩) ?_ ?_
      rotate_left
      · intro w'
        go_simp
        with_reducible rfl
      rotate_left
      · simp only [Act.put, List.setIfInBounds_toArray, List.set_cons_zero, List.set_cons_succ, i64_w, i32_w]
        rfl
      refine one_ (i := 13) (N := some 62) #[true, true, true, true, true, true, true, true, true, true, true, true, true, true, false, false] rfl rfl (by kernel_rfl) (by decide) (fun K hK => ?_)
      refine goes_ Try.func119 (by kernel_rfl) rfl #[.int .u64 (x3 : Int), .int .i64 18] (by rfl) rfl rfl (by (try simp only [List.map_toArray, List.map_cons, List.map_nil]); first | done | rfl) ?_
      refine (turn4_calls _ x3 18 _ _ rfl rfl hx3 (by decide)).mono ?_
      rw [e3A.out]
      rintro e w4 ⟨rfl, ⟨n3, rfl⟩⟩
      refine ⟨_, rfl, ?_⟩
      have hS7 := Aside0.mk (hS6.out.drewN n3)
      refine hK.out _ _ ⟨hS7.out.cell 0, hS7.out.cell 1, hS7.out.cell 2, hS7.out.cell 3⟩ (fun hHeld => ?_)
      clear hK K
      refine norm_ (a' := ?_) ?_ ?_
      rotate_left
      · show Act.put _ (some 62) _ = _
        simp only [Act.put, List.setIfInBounds_toArray, List.set_cons_zero, List.set_cons_succ, i64_w, i32_w]
        rfl
      refine pure_ (i := 14) (N := some 63) (v := ?_) (a' := ?_) #[true, true, true, true, true, true, true, true, true, true, true, true, true, true, true, false] rfl rfl (by kernel_rfl) (fun _ _ _ h => h) (Or.inl ⟨by rfl, ?_⟩) ?_ ?_
      rotate_left
      · intro w'
        go_simp
        with_reducible rfl
      rotate_left
      · simp only [Act.put, List.setIfInBounds_toArray, List.set_cons_zero, List.set_cons_succ, i64_w, i32_w]
        rfl
      refine pure_ (i := 15) (N := some 10) (v := ?_) (a' := ?_) #[true, true, true, true, true, true, true, true, true, true, true, true, true, true, true, true] rfl rfl (by kernel_rfl) (fun _ _ _ h => h) (Or.inl ⟨by rfl, ?_⟩) ?_ ?_
      rotate_left
      · intro w'
        go_simp
        with_reducible rfl
      rotate_left
      · simp only [Act.put, List.setIfInBounds_toArray, List.set_cons_zero, List.set_cons_succ, i64_w, i32_w]
        rfl
      refine done_ (by kernel_rfl) ?_
      clear hc0 hc1 hc2 hc3 hHeld
      go_wp2_with (fail)
      clear f1 f2 f3
      go_loopg [10, 64] 4 (fun kq v10 v64 w' => ∃ (j : Nat), v10 = .int .u64 ((([x0, x1, x2, x3].take j).foldl wmerge a3 : Nat) : Int) ∧ v64 = .int .i64 j ∧ Aside0 (j + kq = 4) ∧ Aside0 (Sep.Sep w w' [blk w.heap.size (wvals [x0, x1, x2, x3]) 179]))
      case atStart => exact ⟨0, rfl, rfl, ⟨by omega⟩, by first | exact hS7 | exact ⟨hS7.out⟩⟩
      case round =>
        obtain ⟨j, rfl, rfl, hj, hS8⟩ := hrel
        have hh := wmerges_lt ([x0, x1, x2, x3].take j) a3 f4
        obtain ⟨h, hhe⟩ : ∃ h, ([x0, x1, x2, x3].take j).foldl wmerge a3 = h := ⟨_, rfl⟩
        rw [hhe] at hh ⊢
        by_cases hjn : j < 4
        · have hd2 : decide ((j : Int) < 4) = true := decide_eq_true (by omega)
          obtain ⟨k2, rfl⟩ : ∃ k2, gk = k2 + 1 := ⟨gk - 1, by have := hj.out; omega⟩
          obtain ⟨x, hx⟩ : ∃ x, [x0, x1, x2, x3][j]? = some x := ⟨_, List.getElem?_eq_getElem (by simp; omega)⟩
          have hxl : x < 18446744073709551616 := hvsA.out x (List.mem_of_getElem? hx)
          have hnext : ([x0, x1, x2, x3].take (j + 1)).foldl wmerge a3 = wmerge h x := by
            rw [List.take_add_one, hx, List.foldl_append, hhe, Option.toList_some, List.foldl_cons, List.foldl_nil]
          have hcx : wr.cell? ⟨w.heap.size, j, none⟩ = some (.int .u64 (x : Int)) := (hS8.out.cell j).trans (wvals_at _ j x hx)
          have hyl := win_lt 0 x
          obtain ⟨y, hy⟩ : ∃ y, win 0 x = y := ⟨_, rfl⟩
          obtain ⟨z1, z2, z3, g1, g2, g3, g4⟩ := merge_step h x y hh (by rw [← hy]; exact hyl) hy.symm
          rw [g4] at hnext
          have hnA := Aside0.mk hnext
          have p0 : ((0 : Int) ≤ (j : Int)) = True := eq_true (by omega)
          have q0 : ((j : Int) < 4) = True := eq_true (by omega)
          have hyA := Aside0.mk hy
          clear hnext hx hyl hy hhe g4 hx0 hx1 hx2 hx3 hh hs hl hszr
          go_wp2_with (fail)
          refine (into4_calls _ 0 x _ _ rfl rfl (by decide) hxl).mono ?_
          rw [hyA.out]
          rintro e w4 ⟨rfl, ⟨n9, rfl⟩⟩
          go_wp2
          clear g1 g2 g3 hcx p0 q0 hxl f4
          go_roundg k2
          case measure => omega
          case rel => exact ⟨j + 1, by rw [hnA.out], by simp, ⟨by have := hj.out; omega⟩, ⟨hS8.out.drewN _⟩⟩
        · have hj4 : j = 4 := by have := hj.out; omega
          subst hj4
          have hd2 : decide (((4 : Nat) : Int) < 4) = false := rfl
          rw [take4] at hhe
          have hoA : Aside0 (wout (wvs s l) = h) := ⟨by rw [hout.out, hhe]⟩
          clear hhe hh f4 hx0 hx1 hx2 hx3
          go_wp2
          go_ret2
          refine ⟨?_, hS8.out.1⟩
          rw [hoA.out, ← hr.out]
          rfl

def fascicleref04_begin.f (a0 : Int) (a1 : ByteArray) : Option (Int × ByteArray) := if 0 ≤ a0 ∧ a0 < 18446744073709551616 ∧ a1.size ≤ 1000000000000 then some (((wout (wvs a0.toNat (sby a1)) : Nat) : Int), strOfNums (wrest (sby a1))) else none
theorem fascicleref04_begin.calls (a0 : Int) (a1 : ByteArray) (r1 : Int) (r2 : ByteArray) (w : World) (h : fascicleref04_begin.f a0 a1 = some (r1, r2)) :
    Calls Try.prog 117 #[.int .u64 a0, .string a1] w fun e w' => e = .returned (.tuple #[.int .u64 r1, .string r2]) ∧ Below w.heap.size w w' := by
  unfold fascicleref04_begin.f at h
  split at h
  · rename_i hh
    cases h
    have := begin_walk w (sby a1) a0.toNat (sby_bytes a1) (by rw [sby_len]; exact hh.2.2) (by omega)
    rw [nums_sby, show ((a0.toNat : Nat) : Int) = a0 by omega] at this
    exact this
  · cases h

end Go.Proofs.Ytekanmieppnpeaa.G
