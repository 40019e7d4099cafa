/- Texts of a claim, one behind the other (shake.py): what it does not use is left out. -/
import Derived.Test.YtekanmieppnpeaaY3
import Derived.Lib.Small
import Derived.Lib.BytesEntry
import Derived.Lib.SliceRun
import Derived.Lib.Hide
import Derived.Tactics2
import Derived.Laws.IdiomStrings
set_option linter.unusedVariables false
set_option linter.unusedSimpArgs false
section
namespace Go.Proofs.Ytekanmieppnpeaa.Sep
open Go Go.RowKit Go.Proofs.YtekanmieppnpeaaW.PrintWords Go.Proofs.YtekanmieppnpeaaW.PrintLast Go.Proofs.YtekanmieppnpeaaW.PrintMore Go.Proofs.Ytekanmieppnpeaa.PureKit
def sby (s : ByteArray) : List Int := s.data.toList.map fun b => (b.toNat : Int)
theorem sby_len (s : ByteArray) : (sby s).length = s.size := by
 unfold sby
 rw [List.length_map, Array.length_toList]
 rfl
theorem sby_bytes (s : ByteArray) : Bytes (sby s) := by
 intro x hx
 obtain ⟨b, _, rfl⟩ := List.mem_map.1 hx
 have := b.toNat_lt
 omega
theorem nums_sby (s : ByteArray) : strOfNums (sby s) = s := by
 apply ext_bytes
 rw [nums_bytes, sby, List.map_map]
 conv => rhs; rw [← List.map_id s.data.toList]
 apply List.map_congr_left
 intro b _
 simp
theorem sby_nums (l : List Int) (h : Bytes l) : sby (strOfNums l) = l := by
 unfold sby
 rw [nums_bytes, List.map_map]
 conv => rhs; rw [← List.map_id l]
 apply List.map_congr_left
 intro x hx
 have := h x hx
 simp only [Function.comp, id, UInt8.toNat_ofNat']
 omega
end Go.Proofs.Ytekanmieppnpeaa.Sep
end
section
namespace Go.Proofs.Ytekanmieppnpeaa.G
open Go Go.RowKit Go.Proofs.YtekanmieppnpeaaW.PrintWords Go.Proofs.YtekanmieppnpeaaW.PrintLast Go.Proofs.YtekanmieppnpeaaW.PrintMore Go.Proofs.Ytekanmieppnpeaa.PureKit Go.Proofs.Ytekanmieppnpeaa.Sep Go.Proofs.Ytekanmieppnpeaa.Rol
theorem turn4_step (y : Nat) (hy : y < 18446744073709551616) : IntKind.u64.wrap (IntKind.u64.wrap (2 * (y : Int)) + Int.tdiv (y : Int) 9223372036854775808) = ((2 * y % 18446744073709551616 + y / 9223372036854775808 : Nat) : Int) := by
 rw [Int.tdiv_eq_ediv_of_nonneg (by omega), IntKind.wrap_u64, IntKind.wrap_u64]
 omega
theorem turn4_l0 (x n : Nat) (hx : x < 18446744073709551616) (hn : n ≤ 64) : ∀ (d i : Nat), i + d = n → Ev (fun k => fascicleref04_turn.l0 k ((rol 64 i x : Nat) : Int) (n : Int) (i : Int)) ((rol 64 n x : Nat) : Int) := by
 intro d
 induction d with
 | zero =>
  intro i hi
  refine Ev.step (f := fun _ => some ((rol 64 n x : Nat) : Int)) (fun k => ?_) (Ev.now _)
  simp only [fascicleref04_turn.l0]
  rw [if_neg (by omega), show i = n by omega]
 | succ d ih =>
  intro i hi
  refine Ev.step (fun k => ?_) (ih (i + 1) (by omega))
  have hl := rol64_lt i x (by omega) hx
  simp only [fascicleref04_turn.l0]
  rw [if_pos (by omega)]
  have e := rol_succ 64 i x (by omega) hx
  have e2 : rol 64 (i + 1) x = 2 * rol 64 i x % 18446744073709551616 + rol 64 i x / 9223372036854775808 := e
  rw [e2]
  generalize rol 64 i x = y at *
  rw [w64 (by omega) (by omega)]
  have hd : IntKind.u64.wrap (Int.tdiv (y : Int) 9223372036854775808) = Int.tdiv (y : Int) 9223372036854775808 := by rw [Int.tdiv_eq_ediv_of_nonneg (by omega)]; exact wu64 (by omega) (by omega)
  first | rw [hd, turn4_step y hl] | rw [turn4_step y hl]
  rfl
theorem turn4_ev (x n : Nat) (hx : x < 18446744073709551616) (hn : n ≤ 64) : Ev (fun k => fascicleref04_turn.f k (x : Int) (n : Int)) ((rol 64 n x : Nat) : Int) := by
 have := turn4_l0 x n hx hn n 0 (by omega)
 rw [rol_zero 64 x hx] at this
 exact this
theorem turn4_calls (w : World) (x n : Nat) (a b : Int) (ha : a = (x : Int)) (hb : b = (n : Int)) (hx : x < 18446744073709551616) (hn : n ≤ 64) :
  Calls Try.prog 119 #[.int .u64 a, .int .i64 b] w fun e w' => e = .returned (.int .u64 ((rol 64 n x : Nat) : Int)) ∧ Drawn0 w w' := by
 subst ha
 subst hb
 obtain ⟨k, hk⟩ := (turn4_ev x n hx hn).rounds
 exact fascicleref04_turn.calls k _ _ _ w hk
theorem into4_ev (x y : Nat) (hx : x < 18446744073709551616) (hy : y < 18446744073709551616) : Ev (fun k => fascicleref04_into.f k (x : Int) (y : Int)) ((win x y : Nat) : Int) := by
 have h := turn4_ev ((x + y * 14029467366897019727) % 18446744073709551616) 31 (mod_lt64 _) (by decide)
 have h3 : Ev (fun k => (fascicleref04_turn.f k (((x + y * 14029467366897019727) % 18446744073709551616 : Nat) : Int) ((31 : Nat) : Int)).bind (fun t => some (IntKind.u64.wrap (t * 11400714785074694791)))) (IntKind.u64.wrap (((rol 64 31 ((x + y * 14029467366897019727) % 18446744073709551616) : Nat) : Int) * 11400714785074694791)) :=
  Ev.bind h (f := fun _ t => some (IntKind.u64.wrap (t * 11400714785074694791))) (Ev.now _)
 refine Ev.congr (fun k => ?_) (Ev.eq h3 (mul_step (rol 64 31 ((x + y * 14029467366897019727) % 18446744073709551616)) 11400714785074694791))
 unfold fascicleref04_into.f
 rw [win_step]
 rfl
theorem into4_calls (w : World) (x y : Nat) (a b : Int) (ha : a = (x : Int)) (hb : b = (y : Int)) (hx : x < 18446744073709551616) (hy : y < 18446744073709551616) :
  Calls Try.prog 118 #[.int .u64 a, .int .u64 b] w fun e w' => e = .returned (.int .u64 ((win x y : Nat) : Int)) ∧ Drawn0 w w' := by
 subst ha
 subst hb
 obtain ⟨k, hk⟩ := (into4_ev x y hx hy).rounds
 exact fascicleref04_into.calls k _ _ _ w hk
end Go.Proofs.Ytekanmieppnpeaa.G
end
section
namespace Go.Proofs.Ytekanmieppnpeaa.G
open Go Go.RowKit Go.Proofs.YtekanmieppnpeaaW.PrintWords Go.Proofs.YtekanmieppnpeaaW.PrintLast Go.Proofs.YtekanmieppnpeaaW.PrintMore Go.Proofs.Ytekanmieppnpeaa.PureKit Go.Proofs.Ytekanmieppnpeaa.Sep Go.Proofs.Ytekanmieppnpeaa.Rol
def wvals (vs : List Nat) : Array Value := (nat64 vs).toArray
theorem wvals_at (vs : List Nat) (j x : Nat) (h : vs[j]? = some x) : (wvals vs)[j]? = some (.int .u64 (x : Int)) := by
 unfold wvals nat64
 rw [List.getElem?_toArray, List.getElem?_map, h]
 rfl
theorem wvals_set (us : List Nat) (j x : Nat) : (wvals us).setIfInBounds j (.int .u64 (x : Int)) = wvals (us.set j x) := by
 unfold wvals nat64
 rw [List.setIfInBounds_toArray, List.map_set]
theorem sum_turns (x0 x1 x2 x3 : Nat) (h0 : x0 < 18446744073709551616) (h1 : x1 < 18446744073709551616) (h2 : x2 < 18446744073709551616) (h3 : x3 < 18446744073709551616) : ∃ y0 y1 y2 y3 a1 a2 a3 : Nat, rol 64 1 x0 = y0 ∧ rol 64 7 x1 = y1 ∧ rol 64 12 x2 = y2 ∧ rol 64 18 x3 = y3 ∧
  IntKind.u64.wrap ((y0 : Int) + (y1 : Int)) = (a1 : Int) ∧ IntKind.u64.wrap ((a1 : Int) + (y2 : Int)) = (a2 : Int) ∧ IntKind.u64.wrap ((a2 : Int) + (y3 : Int)) = (a3 : Int) ∧ a3 < 18446744073709551616 ∧ wout [x0, x1, x2, x3] = [x0, x1, x2, x3].foldl wmerge a3 := by
 refine ⟨_, _, _, _, _, _, _, rfl, rfl, rfl, rfl, add_step _ _, add_step _ _, add_step _ _, mod_lt64 _, ?_⟩
 unfold wout
 rw [show ([x0, x1, x2, x3] : List Nat).getD 0 0 = x0 from rfl, show ([x0, x1, x2, x3] : List Nat).getD 1 0 = x1 from rfl, show ([x0, x1, x2, x3] : List Nat).getD 2 0 = x2 from rfl, show ([x0, x1, x2, x3] : List Nat).getD 3 0 = x3 from rfl]
 generalize rol 64 1 x0 = p0
 generalize rol 64 7 x1 = p1
 generalize rol 64 12 x2 = p2
 generalize rol 64 18 x3 = p3
 exact congrArg (fun z => [x0, x1, x2, x3].foldl wmerge z) (by omega)
set_option maxHeartbeats 8000000 in
set_option maxRecDepth 100000 in
theorem begin_walk (w : World) (l : List Int) (s : Nat) (hb : Bytes l) (hl : l.length ≤ 1000000000000) (hs : s < 18446744073709551616) :
  Calls Try.prog 117 #[.int .u64 (s : Int), .string (strOfNums l)] w fun e w' => e = .returned (.tuple #[.int .u64 ((wout (wvs s l) : Nat) : Int), .string (strOfNums (wrest l))]) ∧ Below w.heap.size w w' := by
 have hsz : (strOfNums l).size = l.length := nums_size l
 obtain ⟨q1, hq1⟩ : ∃ q : Nat, (s + 11400714785074694791) % 18446744073709551616 = q := ⟨_, rfl⟩
 have fq1 : IntKind.u64.wrap ((s : Int) + 11400714785074694791) = (q1 : Int) := by rw [IntKind.wrap_u64]; omega
 obtain ⟨q2, hq2⟩ : ∃ q : Nat, (q1 + 14029467366897019727) % 18446744073709551616 = q := ⟨_, rfl⟩
 have fq2 : IntKind.u64.wrap ((q1 : Int) + 14029467366897019727) = (q2 : Int) := by rw [IntKind.wrap_u64]; omega
 obtain ⟨q3, hq3⟩ : ∃ q : Nat, (s + 14029467366897019727) % 18446744073709551616 = q := ⟨_, rfl⟩
 have fq3 : IntKind.u64.wrap ((s : Int) + 14029467366897019727) = (q3 : Int) := by rw [IntKind.wrap_u64]; omega
 obtain ⟨q4, hq4⟩ : ∃ q : Nat, (s + 18446744073709551616 - 11400714785074694791) % 18446744073709551616 = q := ⟨_, rfl⟩
 have fq4 : IntKind.u64.wrap ((s : Int) - 11400714785074694791) = (q4 : Int) := by rw [IntKind.wrap_u64]; omega
 have hv : winit s = [q2, q3, s, q4] := wnew_q s q1 q2 q3 q4 hq1 hq2 hq3 hq4
 have hS := Aside0.mk (Sep.start w)
 have hvA := Aside0.mk hv
 have hwi : Small8 [q2, q3, s, q4] := by rw [← hv]; exact winit_small s hs
 have hlA := Aside0.mk hl
 clear hq1 hq2 hq3 hq4 hv
 go_enter Try.func117, Try.ntmps117
 go_wp2_with (fail)
 have hS1 : Aside0 (Sep.Sep w (w.alloc (.cells #[.int .u64 (q2 : Int), .int .u64 (q3 : Int), .int .u64 (s : Int), .int .u64 (q4 : Int)] 179 (0, 0))) [blk w.heap.size (wvals [q2, q3, s, q4]) 179]) := ⟨hS.out.alloc _ _⟩
 generalize w.alloc (.cells #[.int .u64 (q2 : Int), .int .u64 (q3 : Int), .int .u64 (s : Int), .int .u64 (q4 : Int)] 179 (0, 0)) = w1 at hS1 ⊢
 clear fq1 fq2 fq3 fq4
 generalize hvv : [q2, q3, s, q4] = v0 at *
 clear hvv
 go_loopg [1] (l.length / 32) (fun kq v1 w' => ∃ (i : Nat), v1 = .string (strOfNums (l.drop (32 * i))) ∧ Aside0 (i + kq = l.length / 32) ∧ Aside0 (Sep.Sep w w' [blk w.heap.size (wvals (wstripes i v0 l)) 179]))
 case atStart => exact ⟨0, by rw [Nat.mul_zero, List.drop_zero], ⟨by omega⟩, hS1⟩
 case round =>
  obtain ⟨i, rfl, hA, hS⟩ := hrel
  have hv0l : v0.length = 4 := by rw [← hvA.out]; rfl
  by_cases hin : i < l.length / 32
  ·
   have hlen : (l.drop (32 * i)).length = l.length - 32 * i := by rw [List.length_drop]
   have h32 : 32 ≤ (l.drop (32 * i)).length := by omega
   have hb1 : Bytes (l.drop (32 * i)) := hb.drop _
   have hvs : Small8 (wstripes i v0 l) := wstripes_small _ _ hwi _
   have hvl : (wstripes i v0 l).length = 4 := by rw [wstripes_len, hv0l]
   have hd : decide (((l.drop (32 * i)).length : Int) ≥ 32) = true := decide_eq_true (by omega)
   obtain ⟨k1, rfl⟩ : ∃ k1, gk = k1 + 1 := ⟨gk - 1, by have := hA.out; omega⟩
   generalize hll : l.drop (32 * i) = l1 at *
   generalize hvv : wstripes i v0 l = vs at *
   have hl1l : l1.length ≤ 1000000000000 := by rw [hlen]; have := hlA.out; omega
   have hsz1 : (strOfNums l1).size = l1.length := nums_size l1
   have h32A := Aside0.mk h32
   have h32i : (32 : Int) ≤ (l1.length : Int) := by omega
   have hex32 : (strOfNums l1).extract 32 l1.length = strOfNums (l1.drop 32) := by rw [nums_extract, List.take_of_length_le (by omega)]
   clear hlen h32 hsz
   go_wp2_with (fail)
   go_loopg [29] 4 (fun kq v29 w' => ∃ (j : Nat), v29 = .int .i64 j ∧ Aside0 (j + kq = 4) ∧ Aside0 (Sep.Sep w w' [blk w.heap.size (wvals (wpart l1 vs j)) 179]))
   case atStart => exact ⟨0, rfl, ⟨by omega⟩, hS⟩
   case round =>
    obtain ⟨j, rfl, hj, hS2⟩ := hrel
    by_cases hjn : j < 4
    ·
     have hd2 : decide ((j : Int) < 4) = true := decide_eq_true (by omega)
     obtain ⟨k2, rfl⟩ : ∃ k2, gk = k2 + 1 := ⟨gk - 1, by have := hj.out; omega⟩
     have p0 : ((0 : Int) ≤ (j : Int)) = True := eq_true (by omega)
     have q0 : ((j : Int) < 4) = True := eq_true (by omega)
     have hul : (wpart l1 vs j).length = 4 := by rw [wpart_len, hvl]
     have hus : Small8 (wpart l1 vs j) := wpart_small _ _ hvs j
     obtain ⟨x, hx⟩ : ∃ x, (wpart l1 vs j).getD j 0 = x := ⟨_, rfl⟩
     have hxl : x < 18446744073709551616 := by rw [← hx]; exact hus.at j
     have hux : (wpart l1 vs j)[j]? = some x := by rw [← hx, List.getD_eq_getElem?_getD, List.getElem?_eq_getElem (by omega)]; rfl
     have hcell := wvals_at _ j x hux
     generalize hu : wpart l1 vs j = us at *
     have hxA := Aside0.mk hx
     have hulA := Aside0.mk hul
     clear hx hul hux
     obtain ⟨y, hy⟩ : ∃ y, leb ((l1.drop (8 * j)).take 8) = y := ⟨_, rfl⟩
     have hyl : y < 18446744073709551616 := by rw [← hy]; exact leb_lt4 _ ((hb1.drop _).take _) 8 (by rw [List.length_take]; omega)
     have hex : (strOfNums l1).extract (8 * j) (8 * j + 8) = strOfNums ((l1.drop (8 * j)).take 8) := by rw [nums_extract, List.drop_take]; congr 2; omega
     have hyA := Aside0.mk hy
     clear hy
     have b1 : (8 * (j : Int) + 8 ≤ (l1.length : Int)) = True := eq_true (by omega)
     have b2 : (0 ≤ 8 * (j : Int)) = True := eq_true (by omega)
     have b3 : (8 * (j : Int) ≤ 8 * (j : Int) + 8) = True := eq_true (by omega)
     have b4 : (8 * (j : Int) + 8).toNat = 8 * j + 8 := by omega
     have b5 : (8 * (j : Int)).toNat = 8 * j := by omega
     have hw4 : wrap64 (8 * (j : Int)) = 8 * (j : Int) := w64 (by omega) (by omega)
     have hw5 : wrap64 (8 * (j : Int) + 8) = 8 * (j : Int) + 8 := w64 (by omega) (by omega)
     go_wp2_with (fail)
     have hS3 := hS2.out.drew
     have hc0 : wr.drew.cell? ⟨w.heap.size, j, none⟩ = some (.int .u64 (x : Int)) := (hS3.cell j).trans hcell
     have hfr : wr.drew.frozen? ⟨w.heap.size, j, none⟩ = false := hS3.frozen j
     have hS3 := Aside0.mk hS3
     refine start_ (n := 15) (S := fun w' => w'.cell? ⟨w.heap.size, j, none⟩ = some (.int .u64 (x : Int))) (ds := [14]) #[false, false, false, false, false, false, false, false, false, false, false, false, false, false, false] (by kernel_rfl) rfl rfl (hc0) (fun hHeld => ?_)
     refine pure_ (i := 0) (N := some 32) (v := ?_) (a' := ?_) #[true, false, false, false, false, false, false, false, false, false, false, false, false, false, false] rfl rfl (by kernel_rfl) (fun _ _ _ h => h) (Or.inl ⟨by rfl, ?_⟩) ?_ ?_
     rotate_left
     ·
      intro w'
      go_simp
      with_reducible rfl
     rotate_left
     ·
      simp only [Act.put, List.setIfInBounds_toArray, List.set_cons_zero, List.set_cons_succ, i64_w, i32_w]
      rfl
     refine pure_ (i := 1) (N := some 33) (v := ?_) (a' := ?_) #[true, true, false, false, false, false, false, false, false, false, false, false, false, false, false] rfl rfl (by kernel_rfl) (fun _ _ _ h => h) (Or.inl ⟨by rfl, ?_⟩) ?_ ?_
     rotate_left
     ·
      intro w'
      go_simp
      with_reducible rfl
     rotate_left
     ·
      simp only [Act.put, List.setIfInBounds_toArray, List.set_cons_zero, List.set_cons_succ, i64_w, i32_w]
      rfl
     refine pure_ (i := 2) (N := some 34) (v := ?_) (a' := ?_) #[true, true, true, false, false, false, false, false, false, false, false, false, false, false, false] rfl rfl (by kernel_rfl) (fun _ _ _ h => h) (Or.inl ⟨by rfl, ?_⟩) ?_ ?_
     rotate_left
     ·
      intro w'
      go_simp
      with_reducible rfl
     rotate_left
     ·
      simp only [Act.put, List.setIfInBounds_toArray, List.set_cons_zero, List.set_cons_succ, i64_w, i32_w]
      rfl
     refine pure_ (i := 4) (N := some 36) (v := ?_) (a' := ?_) #[true, true, true, false, true, false, false, false, false, false, false, false, false, false, false] rfl rfl (by kernel_rfl) (fun _ _ _ h => h) (Or.inl ⟨by rfl, ?_⟩) ?_ ?_
     rotate_left
     ·
      intro w'
      go_simp
      with_reducible rfl
     rotate_left
     ·
      simp only [Act.put, List.setIfInBounds_toArray, List.set_cons_zero, List.set_cons_succ, i64_w, i32_w]
      rfl
     refine pure_ (i := 5) (N := some 37) (v := ?_) (a' := ?_) #[true, true, true, false, true, true, false, false, false, false, false, false, false, false, false] rfl rfl (by kernel_rfl) (fun _ _ _ h => h) (Or.inl ⟨by rfl, ?_⟩) ?_ ?_
     rotate_left
     ·
      intro w'
      go_simp
      with_reducible rfl
     rotate_left
     ·
      simp only [Act.put, List.setIfInBounds_toArray, List.set_cons_zero, List.set_cons_succ, i64_w, i32_w]
      rfl
     refine pure_ (i := 6) (N := some 38) (v := ?_) (a' := ?_) #[true, true, true, false, true, true, true, false, false, false, false, false, false, false, false] rfl rfl (by kernel_rfl) (fun _ _ _ h => h) (Or.inl ⟨by rfl, ?_⟩) ?_ ?_
     rotate_left
     ·
      intro w'
      go_simp
      with_reducible rfl
     rotate_left
     ·
      simp only [Act.put, List.setIfInBounds_toArray, List.set_cons_zero, List.set_cons_succ, i64_w, i32_w]
      rfl
     refine pure_ (i := 7) (N := some 39) (v := ?_) (a' := ?_) #[true, true, true, false, true, true, true, true, false, false, false, false, false, false, false] rfl rfl (by kernel_rfl) (fun _ _ _ h => h) (Or.inl ⟨by rfl, ?_⟩) ?_ ?_
     rotate_left
     ·
      intro w'
      go_simp
      with_reducible rfl
     rotate_left
     ·
      simp only [Act.put, List.setIfInBounds_toArray, List.set_cons_zero, List.set_cons_succ, i64_w, i32_w]
      rfl
     refine pure_ (i := 8) (N := some 40) (v := ?_) (a' := ?_) #[true, true, true, false, true, true, true, true, true, false, false, false, false, false, false] rfl rfl (by kernel_rfl) (fun _ _ _ h => h) (Or.inl ⟨by rfl, ?_⟩) ?_ ?_
     rotate_left
     ·
      intro w'
      go_simp
      with_reducible rfl
     rotate_left
     ·
      simp only [Act.put, List.setIfInBounds_toArray, List.set_cons_zero, List.set_cons_succ, i64_w, i32_w]
      rfl
     refine pure_ (i := 9) (N := some 41) (v := ?_) (a' := ?_) #[true, true, true, false, true, true, true, true, true, true, false, false, false, false, false] rfl rfl (by kernel_rfl) (fun _ _ _ h => h) (Or.inl ⟨by rfl, ?_⟩) ?_ ?_
     rotate_left
     ·
      intro w'
      go_simp
      with_reducible rfl
     rotate_left
     ·
      simp only [Act.put, List.setIfInBounds_toArray, List.set_cons_zero, List.set_cons_succ, i64_w, i32_w]
      rfl
     refine pure_ (i := 10) (N := some 42) (v := ?_) (a' := ?_) #[true, true, true, false, true, true, true, true, true, true, true, false, false, false, false] rfl rfl (by kernel_rfl) (fun _ _ _ h => h) (Or.inl ⟨by rfl, ?_⟩) ?_ ?_
     rotate_left
     ·
      intro w'
      go_simp
      with_reducible rfl
     rotate_left
     ·
      simp only [Act.put, List.setIfInBounds_toArray, List.set_cons_zero, List.set_cons_succ, i64_w, i32_w]
      rfl
     refine take_ (i := 3) (N := some 35) (v := ?_) (a' := ?_) #[true, true, true, true, true, true, true, true, true, true, true, false, false, false, false] rfl rfl (by kernel_rfl) (fun _ _ _ h => h) (Or.inl ⟨by rfl, ?_⟩) hHeld ?_ ?_
     rotate_left
     ·
      intro w' s0
      go_simp
      with_reducible rfl
     rotate_left
     ·
      simp only [Act.put, List.setIfInBounds_toArray, List.set_cons_zero, List.set_cons_succ, i64_w, i32_w]
      rfl
     refine one_ (i := 11) (N := some 43) #[true, true, true, true, true, true, true, true, true, true, true, true, false, false, false] rfl rfl (by kernel_rfl) (by decide) (fun K hK => ?_)
     refine goes_ Try.func56 (by kernel_rfl) rfl #[.string (strOfNums ((l1.drop (8 * j)).take 8))] (by rfl) rfl rfl (by (try simp only [List.map_toArray, List.map_cons, List.map_nil]); first | done | rfl) ?_
     have hv := value_calls wr.drew ((l1.drop (8 * j)).take 8) _ rfl ((hb1.drop _).take _) (by rw [List.length_take]; omega)
     rw [hyA.out] at hv
     refine hv.mono ?_
     clear hv
     rintro e w3 ⟨rfl, ⟨nd, rfl⟩⟩
     refine ⟨_, rfl, ?_⟩
     have hS4 := Aside0.mk (hS3.out.drewN nd)
     have hc4 := (hS4.out.cell j).trans hcell
     refine hK.out _ _ (hc4) (fun hHeld => ?_)
     clear hK K
     refine norm_ (a' := ?_) ?_ ?_
     rotate_left
     ·
      show Act.put _ (some 43) _ = _
      simp only [Act.put, List.setIfInBounds_toArray, List.set_cons_zero, List.set_cons_succ, i64_w, i32_w]
      rfl
     refine one_ (i := 12) (N := some 44) #[true, true, true, true, true, true, true, true, true, true, true, true, true, false, false] rfl rfl (by kernel_rfl) (by decide) (fun K hK => ?_)
     refine goes_ Try.func118 (by kernel_rfl) rfl #[.int .u64 (x : Int), .int .u64 (y : Int)] (by rfl) rfl rfl (by (try simp only [List.map_toArray, List.map_cons, List.map_nil]); first | done | rfl) ?_
     refine (into4_calls _ x y _ _ rfl rfl hxl hyl).mono ?_
     rintro e w4 ⟨rfl, ⟨nd2, rfl⟩⟩
     refine ⟨_, rfl, ?_⟩
     have hS5 := Aside0.mk (hS4.out.drewN nd2)
     have hc5 := (hS5.out.cell j).trans hcell
     have hf5 := hS5.out.frozen j
     refine hK.out _ _ (hc5) (fun hHeld => ?_)
     clear hK K
     refine norm_ (a' := ?_) ?_ ?_
     rotate_left
     ·
      show Act.put _ (some 44) _ = _
      simp only [Act.put, List.setIfInBounds_toArray, List.set_cons_zero, List.set_cons_succ, i64_w, i32_w]
      rfl
     refine pure_ (i := 13) (N := some 45) (v := ?_) (a' := ?_) #[true, true, true, true, true, true, true, true, true, true, true, true, true, true, false] rfl rfl (by kernel_rfl) (fun _ _ _ h => h) (Or.inl ⟨by rfl, ?_⟩) ?_ ?_
     rotate_left
     ·
      intro w'
      go_simp
      with_reducible rfl
     rotate_left
     ·
      simp only [Act.put, List.setIfInBounds_toArray, List.set_cons_zero, List.set_cons_succ, i64_w, i32_w]
      rfl
     refine last_ (i := 14) (N := none) #[true, true, true, true, true, true, true, true, true, true, true, true, true, true, true] rfl rfl (by kernel_rfl) (by decide) (fun K hK => ?_)
     have hcw : wr.cell? ⟨w.heap.size, j, none⟩ = some (.int .u64 (x : Int)) := (hS2.out.cell j).trans hcell
     have hfw : wr.frozen? ⟨w.heap.size, j, none⟩ = false := hS2.out.frozen j
     refine skip_ (w1 := ?_) (by kernel_rfl) rfl ?_ ?_
     rotate_left
     ·
      go_simp
      rfl
     refine hK.out _ _ ?_
     clear hK K
     refine done_ (by kernel_rfl) ?_
     clear hc0 hfr
     go_wp2_with (fail)
     clear b1 b2 b3 b4 b5 hw4 hw5 hex hxl hyl h32i hl1l hsz1
     go_roundg k2
     case measure => omega
     case rel =>
      refine ⟨j + 1, by simp, ⟨by have := hj.out; omega⟩, ⟨?_⟩⟩
      have hq := (hS2.out.drewN (1 + nd + nd2)).set j (.int .u64 ((win x y : Nat) : Int))
      rw [wvals_set] at hq
      rw [show wpart l1 vs (j + 1) = us.set j (win x y) by rw [wpart, hu, wstep, hxA.out, hyA.out]]
      exact hq
    ·
     have hj4 : j = 4 := by have := hj.out; omega
     subst hj4
     have hd2 : decide (((4 : Nat) : Int) < 4) = false := rfl
     go_wp2_with (fail)
     go_roundg k1
     case measure => omega
     case rel =>
      have e : l.drop (32 * (i + 1)) = l1.drop 32 := by rw [← hll, List.drop_drop]; congr 1
      refine ⟨i + 1, by rw [e], ⟨by have := hA.out; omega⟩, ⟨?_⟩⟩
      rw [wstripes_succ, hll, hvv]
      exact hS2.out
  ·
   have hie : i = l.length / 32 := by have := hA.out; omega
   have hlen : (l.drop (32 * i)).length = l.length - 32 * i := by rw [List.length_drop]
   have hd : decide (((l.drop (32 * i)).length : Int) ≥ 32) = false := decide_eq_false (by omega)
   have hr : Aside0 (l.drop (32 * i) = wrest l) := ⟨by rw [hie]; rfl⟩
   have hvs : Small8 (wstripes i v0 l) := wstripes_small _ _ hwi _
   have hvl : (wstripes i v0 l).length = 4 := by rw [wstripes_len, hv0l]
   have hstart : wvs s l = wstripes i v0 l := by unfold wvs; rw [hvA.out, hie]
   have hszr : (strOfNums (l.drop (32 * i))).size = (l.drop (32 * i)).length := nums_size _
   generalize wstripes i v0 l = vs at *
   generalize l.drop (32 * i) = r at *
   obtain ⟨x0, x1, x2, x3, rfl⟩ : ∃ x0 x1 x2 x3, vs = [x0, x1, x2, x3] := by
    rcases vs with _ | ⟨x0, _ | ⟨x1, _ | ⟨x2, _ | ⟨x3, _ | ⟨x4, r⟩⟩⟩⟩⟩ <;> simp at hvl
    exact ⟨_, _, _, _, rfl⟩
   have hx0 : x0 < 18446744073709551616 := hvs x0 (by simp)
   have hx1 : x1 < 18446744073709551616 := hvs x1 (by simp)
   have hx2 : x2 < 18446744073709551616 := hvs x2 (by simp)
   have hx3 : x3 < 18446744073709551616 := hvs x3 (by simp)
   obtain ⟨y0, y1, y2, y3, a1, a2, a3, e0, e1, e2, e3, f1, f2, f3, f4, f5⟩ := sum_turns x0 x1 x2 x3 hx0 hx1 hx2 hx3
   have hout : Aside0 (wout (wvs s l) = [x0, x1, x2, x3].foldl wmerge a3) := ⟨by rw [hstart, f5]⟩
   have e0A := Aside0.mk e0
   have e1A := Aside0.mk e1
   have e2A := Aside0.mk e2
   have e3A := Aside0.mk e3
   have hvsA := Aside0.mk hvs
   clear hvs hvl e0 e1 e2 e3 f5 hstart hlen hsz hie hin
   go_wp2_with (fail)
   have hS3 := hS.out.drew
   have hc0 : wr.drew.cell? ⟨w.heap.size, 0, none⟩ = some (.int .u64 (x0 : Int)) := hS3.cell 0
   have hc1 : wr.drew.cell? ⟨w.heap.size, 1, none⟩ = some (.int .u64 (x1 : Int)) := hS3.cell 1
   have hc2 : wr.drew.cell? ⟨w.heap.size, 2, none⟩ = some (.int .u64 (x2 : Int)) := hS3.cell 2
   have hc3 : wr.drew.cell? ⟨w.heap.size, 3, none⟩ = some (.int .u64 (x3 : Int)) := hS3.cell 3
   have hS3 := Aside0.mk hS3
   refine start_ (n := 16) (S := fun w' => w'.cell? ⟨w.heap.size, 0, none⟩ = some (.int .u64 (x0 : Int)) ∧ w'.cell? ⟨w.heap.size, 1, none⟩ = some (.int .u64 (x1 : Int)) ∧ w'.cell? ⟨w.heap.size, 2, none⟩ = some (.int .u64 (x2 : Int)) ∧ w'.cell? ⟨w.heap.size, 3, none⟩ = some (.int .u64 (x3 : Int))) (ds := []) #[false, false, false, false, false, false, false, false, false, false, false, false, false, false, false, false] (by kernel_rfl) rfl rfl ⟨hc0, hc1, hc2, hc3⟩ (fun hHeld => ?_)
   refine pure_ (i := 0) (N := some 49) (v := ?_) (a' := ?_) #[true, false, false, false, false, false, false, false, false, false, false, false, false, false, false, false] rfl rfl (by kernel_rfl) (fun _ _ _ h => h) (Or.inl ⟨by rfl, ?_⟩) ?_ ?_
   rotate_left
   ·
    intro w'
    go_simp
    with_reducible rfl
   rotate_left
   ·
    simp only [Act.put, List.setIfInBounds_toArray, List.set_cons_zero, List.set_cons_succ, i64_w, i32_w]
    rfl
   refine pure_ (i := 3) (N := some 52) (v := ?_) (a' := ?_) #[true, false, false, true, false, false, false, false, false, false, false, false, false, false, false, false] rfl rfl (by kernel_rfl) (fun _ _ _ h => h) (Or.inl ⟨by rfl, ?_⟩) ?_ ?_
   rotate_left
   ·
    intro w'
    go_simp
    with_reducible rfl
   rotate_left
   ·
    simp only [Act.put, List.setIfInBounds_toArray, List.set_cons_zero, List.set_cons_succ, i64_w, i32_w]
    rfl
   refine pure_ (i := 7) (N := some 56) (v := ?_) (a' := ?_) #[true, false, false, true, false, false, false, true, false, false, false, false, false, false, false, false] rfl rfl (by kernel_rfl) (fun _ _ _ h => h) (Or.inl ⟨by rfl, ?_⟩) ?_ ?_
   rotate_left
   ·
    intro w'
    go_simp
    with_reducible rfl
   rotate_left
   ·
    simp only [Act.put, List.setIfInBounds_toArray, List.set_cons_zero, List.set_cons_succ, i64_w, i32_w]
    rfl
   refine pure_ (i := 11) (N := some 60) (v := ?_) (a' := ?_) #[true, false, false, true, false, false, false, true, false, false, false, true, false, false, false, false] rfl rfl (by kernel_rfl) (fun _ _ _ h => h) (Or.inl ⟨by rfl, ?_⟩) ?_ ?_
   rotate_left
   ·
    intro w'
    go_simp
    with_reducible rfl
   rotate_left
   ·
    simp only [Act.put, List.setIfInBounds_toArray, List.set_cons_zero, List.set_cons_succ, i64_w, i32_w]
    rfl
   refine take_ (i := 1) (N := some 50) (v := ?_) (a' := ?_) #[true, true, false, true, false, false, false, true, false, false, false, true, false, false, false, false] rfl rfl (by kernel_rfl) (fun _ _ _ h => h) (Or.inl ⟨by rfl, ?_⟩) hHeld ?_ ?_
   rotate_left
   ·
    rintro w' ⟨s0, s1, s2, s3⟩
    go_simp
    with_reducible rfl
   rotate_left
   ·
    simp only [Act.put, List.setIfInBounds_toArray, List.set_cons_zero, List.set_cons_succ, i64_w, i32_w]
    rfl
   refine take_ (i := 4) (N := some 53) (v := ?_) (a' := ?_) #[true, true, false, true, true, false, false, true, false, false, false, true, false, false, false, false] rfl rfl (by kernel_rfl) (fun _ _ _ h => h) (Or.inl ⟨by rfl, ?_⟩) hHeld ?_ ?_
   rotate_left
   ·
    rintro w' ⟨s0, s1, s2, s3⟩
    go_simp
    with_reducible rfl
   rotate_left
   ·
    simp only [Act.put, List.setIfInBounds_toArray, List.set_cons_zero, List.set_cons_succ, i64_w, i32_w]
    rfl
   refine take_ (i := 8) (N := some 57) (v := ?_) (a' := ?_) #[true, true, false, true, true, false, false, true, true, false, false, true, false, false, false, false] rfl rfl (by kernel_rfl) (fun _ _ _ h => h) (Or.inl ⟨by rfl, ?_⟩) hHeld ?_ ?_
   rotate_left
   ·
    rintro w' ⟨s0, s1, s2, s3⟩
    go_simp
    with_reducible rfl
   rotate_left
   ·
    simp only [Act.put, List.setIfInBounds_toArray, List.set_cons_zero, List.set_cons_succ, i64_w, i32_w]
    rfl
   refine take_ (i := 12) (N := some 61) (v := ?_) (a' := ?_) #[true, true, false, true, true, false, false, true, true, false, false, true, true, false, false, false] rfl rfl (by kernel_rfl) (fun _ _ _ h => h) (Or.inl ⟨by rfl, ?_⟩) hHeld ?_ ?_
   rotate_left
   ·
    rintro w' ⟨s0, s1, s2, s3⟩
    go_simp
    with_reducible rfl
   rotate_left
   ·
    simp only [Act.put, List.setIfInBounds_toArray, List.set_cons_zero, List.set_cons_succ, i64_w, i32_w]
    rfl
   refine one_ (i := 2) (N := some 51) #[true, true, true, true, true, false, false, true, true, false, false, true, true, false, false, false] rfl rfl (by kernel_rfl) (by decide) (fun K hK => ?_)
   refine goes_ Try.func119 (by kernel_rfl) rfl #[.int .u64 (x0 : Int), .int .i64 1] (by rfl) rfl rfl (by (try simp only [List.map_toArray, List.map_cons, List.map_nil]); first | done | rfl) ?_
   refine (turn4_calls _ x0 1 _ _ rfl rfl hx0 (by decide)).mono ?_
   rw [e0A.out]
   rintro e w4 ⟨rfl, ⟨n0, rfl⟩⟩
   refine ⟨_, rfl, ?_⟩
   have hS4 := Aside0.mk (hS3.out.drewN n0)
   refine hK.out _ _ ⟨hS4.out.cell 0, hS4.out.cell 1, hS4.out.cell 2, hS4.out.cell 3⟩ (fun hHeld => ?_)
   clear hK K
   refine norm_ (a' := ?_) ?_ ?_
   rotate_left
   ·
    show Act.put _ (some 51) _ = _
    simp only [Act.put, List.setIfInBounds_toArray, List.set_cons_zero, List.set_cons_succ, i64_w, i32_w]
    rfl
   refine one_ (i := 5) (N := some 54) #[true, true, true, true, true, true, false, true, true, false, false, true, true, false, false, false] rfl rfl (by kernel_rfl) (by decide) (fun K hK => ?_)
   refine goes_ Try.func119 (by kernel_rfl) rfl #[.int .u64 (x1 : Int), .int .i64 7] (by rfl) rfl rfl (by (try simp only [List.map_toArray, List.map_cons, List.map_nil]); first | done | rfl) ?_
   refine (turn4_calls _ x1 7 _ _ rfl rfl hx1 (by decide)).mono ?_
   rw [e1A.out]
   rintro e w4 ⟨rfl, ⟨n1, rfl⟩⟩
   refine ⟨_, rfl, ?_⟩
   have hS5 := Aside0.mk (hS4.out.drewN n1)
   refine hK.out _ _ ⟨hS5.out.cell 0, hS5.out.cell 1, hS5.out.cell 2, hS5.out.cell 3⟩ (fun hHeld => ?_)
   clear hK K
   refine norm_ (a' := ?_) ?_ ?_
   rotate_left
   ·
    show Act.put _ (some 54) _ = _
    simp only [Act.put, List.setIfInBounds_toArray, List.set_cons_zero, List.set_cons_succ, i64_w, i32_w]
    rfl
   refine pure_ (i := 6) (N := some 55) (v := ?_) (a' := ?_) #[true, true, true, true, true, true, true, true, true, false, false, true, true, false, false, false] rfl rfl (by kernel_rfl) (fun _ _ _ h => h) (Or.inl ⟨by rfl, ?_⟩) ?_ ?_
   rotate_left
   ·
    intro w'
    go_simp
    with_reducible rfl
   rotate_left
   ·
    simp only [Act.put, List.setIfInBounds_toArray, List.set_cons_zero, List.set_cons_succ, i64_w, i32_w]
    rfl
   refine one_ (i := 9) (N := some 58) #[true, true, true, true, true, true, true, true, true, true, false, true, true, false, false, false] rfl rfl (by kernel_rfl) (by decide) (fun K hK => ?_)
   refine goes_ Try.func119 (by kernel_rfl) rfl #[.int .u64 (x2 : Int), .int .i64 12] (by rfl) rfl rfl (by (try simp only [List.map_toArray, List.map_cons, List.map_nil]); first | done | rfl) ?_
   refine (turn4_calls _ x2 12 _ _ rfl rfl hx2 (by decide)).mono ?_
   rw [e2A.out]
   rintro e w4 ⟨rfl, ⟨n2, rfl⟩⟩
   refine ⟨_, rfl, ?_⟩
   have hS6 := Aside0.mk (hS5.out.drewN n2)
   refine hK.out _ _ ⟨hS6.out.cell 0, hS6.out.cell 1, hS6.out.cell 2, hS6.out.cell 3⟩ (fun hHeld => ?_)
   clear hK K
   refine norm_ (a' := ?_) ?_ ?_
   rotate_left
   ·
    show Act.put _ (some 58) _ = _
    simp only [Act.put, List.setIfInBounds_toArray, List.set_cons_zero, List.set_cons_succ, i64_w, i32_w]
    rfl
   refine pure_ (i := 10) (N := some 59) (v := ?_) (a' := ?_) #[true, true, true, true, true, true, true, true, true, true, true, true, true, false, false, false] rfl rfl (by kernel_rfl) (fun _ _ _ h => h) (Or.inl ⟨by rfl, ?_⟩) ?_ ?_
   rotate_left
   ·
    intro w'
    go_simp
    with_reducible rfl
   rotate_left
   ·
    simp only [Act.put, List.setIfInBounds_toArray, List.set_cons_zero, List.set_cons_succ, i64_w, i32_w]
    rfl
   refine one_ (i := 13) (N := some 62) #[true, true, true, true, true, true, true, true, true, true, true, true, true, true, false, false] rfl rfl (by kernel_rfl) (by decide) (fun K hK => ?_)
   refine goes_ Try.func119 (by kernel_rfl) rfl #[.int .u64 (x3 : Int), .int .i64 18] (by rfl) rfl rfl (by (try simp only [List.map_toArray, List.map_cons, List.map_nil]); first | done | rfl) ?_
   refine (turn4_calls _ x3 18 _ _ rfl rfl hx3 (by decide)).mono ?_
   rw [e3A.out]
   rintro e w4 ⟨rfl, ⟨n3, rfl⟩⟩
   refine ⟨_, rfl, ?_⟩
   have hS7 := Aside0.mk (hS6.out.drewN n3)
   refine hK.out _ _ ⟨hS7.out.cell 0, hS7.out.cell 1, hS7.out.cell 2, hS7.out.cell 3⟩ (fun hHeld => ?_)
   clear hK K
   refine norm_ (a' := ?_) ?_ ?_
   rotate_left
   ·
    show Act.put _ (some 62) _ = _
    simp only [Act.put, List.setIfInBounds_toArray, List.set_cons_zero, List.set_cons_succ, i64_w, i32_w]
    rfl
   refine pure_ (i := 14) (N := some 63) (v := ?_) (a' := ?_) #[true, true, true, true, true, true, true, true, true, true, true, true, true, true, true, false] rfl rfl (by kernel_rfl) (fun _ _ _ h => h) (Or.inl ⟨by rfl, ?_⟩) ?_ ?_
   rotate_left
   ·
    intro w'
    go_simp
    with_reducible rfl
   rotate_left
   ·
    simp only [Act.put, List.setIfInBounds_toArray, List.set_cons_zero, List.set_cons_succ, i64_w, i32_w]
    rfl
   refine pure_ (i := 15) (N := some 10) (v := ?_) (a' := ?_) #[true, true, true, true, true, true, true, true, true, true, true, true, true, true, true, true] rfl rfl (by kernel_rfl) (fun _ _ _ h => h) (Or.inl ⟨by rfl, ?_⟩) ?_ ?_
   rotate_left
   ·
    intro w'
    go_simp
    with_reducible rfl
   rotate_left
   ·
    simp only [Act.put, List.setIfInBounds_toArray, List.set_cons_zero, List.set_cons_succ, i64_w, i32_w]
    rfl
   refine done_ (by kernel_rfl) ?_
   clear hc0 hc1 hc2 hc3 hHeld
   go_wp2_with (fail)
   clear f1 f2 f3
   go_loopg [10, 64] 4 (fun kq v10 v64 w' => ∃ (j : Nat), v10 = .int .u64 ((([x0, x1, x2, x3].take j).foldl wmerge a3 : Nat) : Int) ∧ v64 = .int .i64 j ∧ Aside0 (j + kq = 4) ∧ Aside0 (Sep.Sep w w' [blk w.heap.size (wvals [x0, x1, x2, x3]) 179]))
   case atStart => exact ⟨0, rfl, rfl, ⟨by omega⟩, by first | exact hS7 | exact ⟨hS7.out⟩⟩
   case round =>
    obtain ⟨j, rfl, rfl, hj, hS8⟩ := hrel
    have hh := wmerges_lt ([x0, x1, x2, x3].take j) a3 f4
    obtain ⟨h, hhe⟩ : ∃ h, ([x0, x1, x2, x3].take j).foldl wmerge a3 = h := ⟨_, rfl⟩
    rw [hhe] at hh ⊢
    by_cases hjn : j < 4
    ·
     have hd2 : decide ((j : Int) < 4) = true := decide_eq_true (by omega)
     obtain ⟨k2, rfl⟩ : ∃ k2, gk = k2 + 1 := ⟨gk - 1, by have := hj.out; omega⟩
     obtain ⟨x, hx⟩ : ∃ x, [x0, x1, x2, x3][j]? = some x := ⟨_, List.getElem?_eq_getElem (by simp; omega)⟩
     have hxl : x < 18446744073709551616 := hvsA.out x (List.mem_of_getElem? hx)
     have hnext : ([x0, x1, x2, x3].take (j + 1)).foldl wmerge a3 = wmerge h x := by
      rw [List.take_add_one, hx, List.foldl_append, hhe, Option.toList_some, List.foldl_cons, List.foldl_nil]
     have hcx : wr.cell? ⟨w.heap.size, j, none⟩ = some (.int .u64 (x : Int)) := (hS8.out.cell j).trans (wvals_at _ j x hx)
     have hyl := win_lt 0 x
     obtain ⟨y, hy⟩ : ∃ y, win 0 x = y := ⟨_, rfl⟩
     obtain ⟨z1, z2, z3, g1, g2, g3, g4⟩ := merge_step h x y hh (by rw [← hy]; exact hyl) hy.symm
     rw [g4] at hnext
     have hnA := Aside0.mk hnext
     have p0 : ((0 : Int) ≤ (j : Int)) = True := eq_true (by omega)
     have q0 : ((j : Int) < 4) = True := eq_true (by omega)
     have hyA := Aside0.mk hy
     clear hnext hx hyl hy hhe g4 hx0 hx1 hx2 hx3 hh hs hl hszr
     go_wp2_with (fail)
     refine (into4_calls _ 0 x _ _ rfl rfl (by decide) hxl).mono ?_
     rw [hyA.out]
     rintro e w4 ⟨rfl, ⟨n9, rfl⟩⟩
     go_wp2
     clear g1 g2 g3 hcx p0 q0 hxl f4
     go_roundg k2
     case measure => omega
     case rel => exact ⟨j + 1, by rw [hnA.out], by simp, ⟨by have := hj.out; omega⟩, ⟨hS8.out.drewN _⟩⟩
    ·
     have hj4 : j = 4 := by have := hj.out; omega
     subst hj4
     have hd2 : decide (((4 : Nat) : Int) < 4) = false := rfl
     rw [take4] at hhe
     have hoA : Aside0 (wout (wvs s l) = h) := ⟨by rw [hout.out, hhe]⟩
     clear hhe hh f4 hx0 hx1 hx2 hx3
     go_wp2
     go_ret2
     refine ⟨?_, hS8.out.1⟩
     rw [hoA.out, ← hr.out]
     rfl
def fascicleref04_begin.f (a0 : Int) (a1 : ByteArray) : Option (Int × ByteArray) := if 0 ≤ a0 ∧ a0 < 18446744073709551616 ∧ a1.size ≤ 1000000000000 then some (((wout (wvs a0.toNat (sby a1)) : Nat) : Int), strOfNums (wrest (sby a1))) else none
theorem fascicleref04_begin.calls (a0 : Int) (a1 : ByteArray) (r1 : Int) (r2 : ByteArray) (w : World) (h : fascicleref04_begin.f a0 a1 = some (r1, r2)) :
  Calls Try.prog 117 #[.int .u64 a0, .string a1] w fun e w' => e = .returned (.tuple #[.int .u64 r1, .string r2]) ∧ Below w.heap.size w w' := by
 unfold fascicleref04_begin.f at h
 split at h
 ·
  rename_i hh
  cases h
  have := begin_walk w (sby a1) a0.toNat (sby_bytes a1) (by rw [sby_len]; exact hh.2.2) (by omega)
  rw [nums_sby, show ((a0.toNat : Nat) : Int) = a0 by omega] at this
  exact this
 ·
  cases h
end Go.Proofs.Ytekanmieppnpeaa.G
end
section
namespace Go.Proofs.Ytekanmieppnpeaa.G
open Go.RowKit Go.Proofs.YtekanmieppnpeaaW.PrintWords Go.Proofs.YtekanmieppnpeaaW.PrintLast Go.Proofs.YtekanmieppnpeaaW.PrintMore
attribute [local go_sem] max2_int min2_int max_two min_two max_three min_three max_four min_four   -- for this text's walks alone
mutual
def fascicleref04_Sum.j0 : Nat → ByteArray → Int → Int → Option (Int)
 | 0, _, _, _ => none
 | k + 1, x1, x5, x6 => fascicleref04_Sum.l0 k x1 (IntKind.u64.wrap (x6 + x5))
def fascicleref04_Sum.l0 : Nat → ByteArray → Int → Option (Int)
 | 0, _, _ => none
 | k + 1, x1, x6 => if (x1.size : Int) ≥ 8 then (if 0 ≤ 8 then (if 8 ≤ (x1.size : Int) then ((fascicleref01_Value.f k (x1.extract 0 8)).bind fun t170 => ((fascicleref04_into.f k 0 t170).bind fun t171 => ((fascicleref04_turn.f k (Go.bits .xor .u64 x6 t171) 27).bind fun t172 => (fascicleref04_Sum.l0 k (x1.extract 8 x1.size) (IntKind.u64.wrap ((IntKind.u64.wrap (t172 * 11400714785074694791)) + 9650029242287828579)))))) else (none)) else (none)) else (fascicleref04_Sum.l1 k x1 x6)
def fascicleref04_Sum.l1 : Nat → ByteArray → Int → Option (Int)
 | 0, _, _ => none
 | k + 1, x1, x6 => if (x1.size : Int) ≥ 4 then (if 0 ≤ 4 then (if 4 ≤ (x1.size : Int) then ((fascicleref01_Value.f k (x1.extract 0 4)).bind fun t173 => ((fascicleref04_turn.f k (Go.bits .xor .u64 x6 (IntKind.u64.wrap (t173 * 11400714785074694791))) 23).bind fun t174 => (fascicleref04_Sum.l1 k (x1.extract 4 x1.size) (IntKind.u64.wrap ((IntKind.u64.wrap (t174 * 14029467366897019727)) + 1609587929392839161))))) else (none)) else (none)) else (fascicleref04_Sum.l2 k x1 x6 0)
def fascicleref04_Sum.l2 : Nat → ByteArray → Int → Int → Option (Int)
 | 0, _, _, _ => none
 | k + 1, x1, x6, x8 => if x8 < (x1.size : Int) then (if 0 ≤ x8 then ((fascicleref04_turn.f k (Go.bits .xor .u64 x6 (IntKind.u64.wrap ((IntKind.u64.wrap (bt x1 x8)) * 2870177450012600261))) 11).bind fun t175 => (fascicleref04_Sum.l2 k x1 (IntKind.u64.wrap (t175 * 11400714785074694791)) (wrap64 (x8 + 1)))) else (none)) else ((fascicleref04_mix.f k x6 33).bind fun t176 => ((fascicleref04_mix.f k (IntKind.u64.wrap (t176 * 14029467366897019727)) 29).bind fun t177 => ((fascicleref04_mix.f k (IntKind.u64.wrap (t177 * 1609587929392839161)) 32).bind fun t178 => (some t178))))
end
def fascicleref04_Sum.f (k : Nat) (a0 : Int) (a1 : ByteArray) : Option (Int) := if (a1.size : Int) ≥ 32 then ((fascicleref04_begin.f a0 a1).bind fun bt168 => (fascicleref04_Sum.j0 k bt168.2 (IntKind.u64.wrap ((a1.size : Int))) bt168.1)) else (fascicleref04_Sum.j0 k a1 (IntKind.u64.wrap ((a1.size : Int))) (IntKind.u64.wrap (a0 + 2870177450012600261)))
theorem fascicleref04_Sum.mono_l : ∀ k, (∀ y0 y1 y2, LeO (fascicleref04_Sum.j0 k y0 y1 y2) (fascicleref04_Sum.j0 (k + 1) y0 y1 y2)) ∧ (∀ y0 y1, LeO (fascicleref04_Sum.l0 k y0 y1) (fascicleref04_Sum.l0 (k + 1) y0 y1)) ∧ (∀ y0 y1, LeO (fascicleref04_Sum.l1 k y0 y1) (fascicleref04_Sum.l1 (k + 1) y0 y1)) ∧ (∀ y0 y1 y2, LeO (fascicleref04_Sum.l2 k y0 y1 y2) (fascicleref04_Sum.l2 (k + 1) y0 y1 y2))
 | 0 => ⟨fun _ _ _ r h => by simp [fascicleref04_Sum.j0] at h, fun _ _ r h => by simp [fascicleref04_Sum.l0] at h, fun _ _ r h => by simp [fascicleref04_Sum.l1] at h, fun _ _ _ r h => by simp [fascicleref04_Sum.l2] at h⟩
 | k + 1 => by
  obtain ⟨ih0, ih1, ih2, ih3⟩ := fascicleref04_Sum.mono_l k
  refine ⟨?_, ?_, ?_, ?_⟩
  ·
   intro y0 y1 y2
   unfold fascicleref04_Sum.j0
   repeat' first
   | (with_reducible exact ih0 _ _ _)
   | (with_reducible exact ih1 _ _)
   | (with_reducible exact ih2 _ _)
   | (with_reducible exact ih3 _ _ _)
   | (with_reducible exact fascicleref01_Value.mono _ _)
   | (with_reducible exact fascicleref04_into.mono _ _ _)
   | (with_reducible exact fascicleref04_mix.mono _ _ _)
   | (with_reducible exact fascicleref04_turn.mono _ _ _)
   | (with_reducible exact LeO.refl _)
   | (with_reducible exact LeO.none _)
   | (with_reducible refine LeO.ite ?_ ?_)
   | (with_reducible refine LeO.bind ?_ (fun _ => ?_))
   | exact ih0 _ _ _
   | exact ih1 _ _
   | exact ih2 _ _
   | exact ih3 _ _ _
   | exact fascicleref01_Value.mono _ _
   | exact fascicleref04_into.mono _ _ _
   | exact fascicleref04_mix.mono _ _ _
   | exact fascicleref04_turn.mono _ _ _
   | exact LeO.none _
   | refine LeO.ite ?_ ?_
   | refine LeO.bind ?_ (fun _ => ?_)
  ·
   intro y0 y1
   unfold fascicleref04_Sum.l0
   repeat' first
   | (with_reducible exact ih0 _ _ _)
   | (with_reducible exact ih1 _ _)
   | (with_reducible exact ih2 _ _)
   | (with_reducible exact ih3 _ _ _)
   | (with_reducible exact fascicleref01_Value.mono _ _)
   | (with_reducible exact fascicleref04_into.mono _ _ _)
   | (with_reducible exact fascicleref04_mix.mono _ _ _)
   | (with_reducible exact fascicleref04_turn.mono _ _ _)
   | (with_reducible exact LeO.refl _)
   | (with_reducible exact LeO.none _)
   | (with_reducible refine LeO.ite ?_ ?_)
   | (with_reducible refine LeO.bind ?_ (fun _ => ?_))
   | exact ih0 _ _ _
   | exact ih1 _ _
   | exact ih2 _ _
   | exact ih3 _ _ _
   | exact fascicleref01_Value.mono _ _
   | exact fascicleref04_into.mono _ _ _
   | exact fascicleref04_mix.mono _ _ _
   | exact fascicleref04_turn.mono _ _ _
   | exact LeO.none _
   | refine LeO.ite ?_ ?_
   | refine LeO.bind ?_ (fun _ => ?_)
  ·
   intro y0 y1
   unfold fascicleref04_Sum.l1
   repeat' first
   | (with_reducible exact ih0 _ _ _)
   | (with_reducible exact ih1 _ _)
   | (with_reducible exact ih2 _ _)
   | (with_reducible exact ih3 _ _ _)
   | (with_reducible exact fascicleref01_Value.mono _ _)
   | (with_reducible exact fascicleref04_into.mono _ _ _)
   | (with_reducible exact fascicleref04_mix.mono _ _ _)
   | (with_reducible exact fascicleref04_turn.mono _ _ _)
   | (with_reducible exact LeO.refl _)
   | (with_reducible exact LeO.none _)
   | (with_reducible refine LeO.ite ?_ ?_)
   | (with_reducible refine LeO.bind ?_ (fun _ => ?_))
   | exact ih0 _ _ _
   | exact ih1 _ _
   | exact ih2 _ _
   | exact ih3 _ _ _
   | exact fascicleref01_Value.mono _ _
   | exact fascicleref04_into.mono _ _ _
   | exact fascicleref04_mix.mono _ _ _
   | exact fascicleref04_turn.mono _ _ _
   | exact LeO.none _
   | refine LeO.ite ?_ ?_
   | refine LeO.bind ?_ (fun _ => ?_)
  ·
   intro y0 y1 y2
   unfold fascicleref04_Sum.l2
   repeat' first
   | (with_reducible exact ih0 _ _ _)
   | (with_reducible exact ih1 _ _)
   | (with_reducible exact ih2 _ _)
   | (with_reducible exact ih3 _ _ _)
   | (with_reducible exact fascicleref01_Value.mono _ _)
   | (with_reducible exact fascicleref04_into.mono _ _ _)
   | (with_reducible exact fascicleref04_mix.mono _ _ _)
   | (with_reducible exact fascicleref04_turn.mono _ _ _)
   | (with_reducible exact LeO.refl _)
   | (with_reducible exact LeO.none _)
   | (with_reducible refine LeO.ite ?_ ?_)
   | (with_reducible refine LeO.bind ?_ (fun _ => ?_))
   | exact ih0 _ _ _
   | exact ih1 _ _
   | exact ih2 _ _
   | exact ih3 _ _ _
   | exact fascicleref01_Value.mono _ _
   | exact fascicleref04_into.mono _ _ _
   | exact fascicleref04_mix.mono _ _ _
   | exact fascicleref04_turn.mono _ _ _
   | exact LeO.none _
   | refine LeO.ite ?_ ?_
   | refine LeO.bind ?_ (fun _ => ?_)
theorem fascicleref04_Sum.mono : ∀ a0 a1 k, LeO (fascicleref04_Sum.f k a0 a1) (fascicleref04_Sum.f (k + 1) a0 a1) := by
 intro a0 a1 k
 obtain ⟨ih0, ih1, ih2, ih3⟩ := fascicleref04_Sum.mono_l k
 unfold fascicleref04_Sum.f
 repeat' first
   | (with_reducible exact ih0 _ _ _)
   | (with_reducible exact ih1 _ _)
   | (with_reducible exact ih2 _ _)
   | (with_reducible exact ih3 _ _ _)
   | (with_reducible exact fascicleref01_Value.mono _ _)
   | (with_reducible exact fascicleref04_into.mono _ _ _)
   | (with_reducible exact fascicleref04_mix.mono _ _ _)
   | (with_reducible exact fascicleref04_turn.mono _ _ _)
   | (with_reducible exact LeO.refl _)
   | (with_reducible exact LeO.none _)
   | (with_reducible refine LeO.ite ?_ ?_)
   | (with_reducible refine LeO.bind ?_ (fun _ => ?_))
   | exact ih0 _ _ _
   | exact ih1 _ _
   | exact ih2 _ _
   | exact ih3 _ _ _
   | exact fascicleref01_Value.mono _ _
   | exact fascicleref04_into.mono _ _ _
   | exact fascicleref04_mix.mono _ _ _
   | exact fascicleref04_turn.mono _ _ _
   | exact LeO.none _
   | refine LeO.ite ?_ ?_
   | refine LeO.bind ?_ (fun _ => ?_)
set_option maxHeartbeats 8000000 in
set_option maxRecDepth 100000 in
theorem fascicleref04_Sum.calls (k : Nat) (a0 : Int) (a1 : ByteArray) (r : Int) (w : World) (h : fascicleref04_Sum.f k a0 a1 = some r) :
  Calls Try.prog 57 #[.int .u64 a0, .string a1] w fun e w' => e = .returned (.int .u64 r) ∧ Below w.heap.size w w' := by
 have HB := Aside0.mk (Below.refl w.heap.size w)
 have H : (if (a1.size : Int) ≥ 32 then ((fascicleref04_begin.f a0 a1).bind fun bt168 => (fascicleref04_Sum.j0 k bt168.2 (IntKind.u64.wrap ((a1.size : Int))) bt168.1)) else (fascicleref04_Sum.j0 k a1 (IntKind.u64.wrap ((a1.size : Int))) (IntKind.u64.wrap (a0 + 2870177450012600261)))) = some r := h
 clear h
 have HC3 := Aside0.mk H
 clear H
 go_enter Try.func57, Try.ntmps57
 go_upto_if 17 with (fail)
 go_cut [1, 6] (fun v1 v6 wc => ∃ (kq : Nat) (x1_2 : ByteArray) (x6_2 : Int), v1 = .string x1_2 ∧ v6 = .int .u64 x6_2 ∧ Aside0 (fascicleref04_Sum.j0 kq x1_2 (IntKind.u64.wrap ((a1.size : Int))) x6_2 = some r) ∧ Aside0 (kq ≤ k) ∧ Aside0 (Below w.heap.size w wc))
 case first =>
  have H := HC3.out
  clear HC3
  by_cases c4 : (a1.size : Int) ≥ 32
  ·
   rw [if_pos c4] at H
   have c4b0 : decide (32 ≤ (a1.size : Int)) = true := decide_eq_true c4
   have c4b1 : decide (32 ≤ a1.size) = true := decide_eq_true (by omega)
   clear c4
   (first | rw [c4b0] | (simp only [i64_w, i32_w]; rw [c4b0]) | skip)
   replace H := Option.bind_eq_some_iff.mp H
   obtain ⟨⟨t168, t169⟩, A50, H⟩ := H
   replace H : (fascicleref04_Sum.j0 k t169 (IntKind.u64.wrap ((a1.size : Int))) t168) = some r := H
   have A5 := Aside0.mk A50
   clear A50
   have H' := Aside0.mk H
   clear H
   go_wp2_with (first | ((with_reducible refine gate_callee (f := 117) rfl ?_); refine goesL_ (some 21) rfl rfl Try.func117 (by kernel_rfl) rfl #[.int .u64 a0, .string a1] rfl (by (try simp only [List.map_toArray, List.map_cons, List.map_nil]); first | done | rfl) ?_; (with_reducible refine (fascicleref04_begin.calls a0 a1 t168 t169 _ A5.out).mono ?_); rintro e w6 ⟨rfl, hb⟩; refine ⟨_, rfl, ?_⟩; replace HB := Aside0.mk (below_step (by repeat with_reducible first | exact HB.out | apply below_alloc | apply pw_below_drewN | apply below_drew1) hb); (try clear hb)))
   go_meet
   case rel => exact ⟨_, (t169), (t168), (by first | rfl | (simp; done) | (simp [*]; done) | (simp; exact (fun l : List UInt8 => (by cases l <;> rfl : l.isEmpty = !(l != ([] : List UInt8)))) _)), (by first | rfl | (simp; done) | (simp [*]; done) | (simp; exact (fun l : List UInt8 => (by cases l <;> rfl : l.isEmpty = !(l != ([] : List UInt8)))) _)), H', ⟨by first | omega | exact Nat.le_refl _⟩, ⟨by repeat (first | (with_reducible first | exact HB.out | apply below_alloc | apply pw_below_drewN | apply below_drew1) | exact HB.out)⟩⟩
  ·
   rw [if_neg c4] at H
   have c4b0 : decide (32 ≤ (a1.size : Int)) = false := decide_eq_false c4
   have c4b1 : decide (32 ≤ a1.size) = false := decide_eq_false (by omega)
   clear c4
   (first | rw [c4b0] | (simp only [i64_w, i32_w]; rw [c4b0]) | skip)
   have H' := Aside0.mk H
   clear H
   go_wp2
   go_meet
   case rel => exact ⟨_, (a1), (IntKind.u64.wrap (a0 + 2870177450012600261)), (by first | rfl | (simp; done) | (simp [*]; done) | (simp; exact (fun l : List UInt8 => (by cases l <;> rfl : l.isEmpty = !(l != ([] : List UInt8)))) _)), (by first | rfl | (simp; done) | (simp [*]; done) | (simp; exact (fun l : List UInt8 => (by cases l <;> rfl : l.isEmpty = !(l != ([] : List UInt8)))) _)), H', ⟨by first | omega | exact Nat.le_refl _⟩, ⟨by repeat (first | (with_reducible first | exact HB.out | apply below_alloc | apply pw_below_drewN | apply below_drew1) | exact HB.out)⟩⟩
 case rest =>
  clear HC3
  try clear c1
  try clear p2
  try clear c4
  try clear c4b0
  try clear c4b1
  try clear c5
  obtain ⟨kq, x1_2, x6_2, rfl, rfl, HA, HJ2, HB⟩ := hcut
  cases kq with
  | zero => exact absurd HA.out (by simp [fascicleref04_Sum.j0])
  | succ kj2 =>
   have H := HA.out
   clear HA
   simp only [fascicleref04_Sum.j0] at H
   have H' := Aside0.mk H
   clear H
   go_wp2
   go_loopg [1, 6] kj2 (fun kq v1 v6 w' => ∃ (x1_2 : ByteArray) (x6_2 : Int), v1 = .string x1_2 ∧ v6 = .int .u64 x6_2 ∧ Aside0 (fascicleref04_Sum.l0 kq x1_2 x6_2 = some r) ∧ Aside0 (kq ≤ kj2) ∧ Aside0 (Below w.heap.size w w'))
   case atStart => exact ⟨(x1_2), (IntKind.u64.wrap (x6_2 + (IntKind.u64.wrap ((a1.size : Int))))), (by first | rfl | (simp; done) | (simp [*]; done) | (simp; exact (fun l : List UInt8 => (by cases l <;> rfl : l.isEmpty = !(l != ([] : List UInt8)))) _)), (by first | rfl | (simp; done) | (simp [*]; done) | (simp; exact (fun l : List UInt8 => (by cases l <;> rfl : l.isEmpty = !(l != ([] : List UInt8)))) _)), H', ⟨Nat.le_refl _⟩, ⟨by repeat (first | (with_reducible first | exact HB.out | apply below_alloc | apply pw_below_drewN | apply below_drew1) | exact HB.out)⟩⟩
   case round =>
    clear H'
    try clear c1
    try clear p2
    try clear c4
    try clear c4b0
    try clear c4b1
    try clear c5
    try clear p2
    obtain ⟨x1_2, x6_2, rfl, rfl, HA, HK2, HB⟩ := hrel
    cases gk with
    | zero => exact absurd HA.out (by simp [fascicleref04_Sum.l0])
    | succ k2 =>
     have H := HA.out
     clear HA
     simp only [fascicleref04_Sum.l0] at H
     by_cases c7 : (x1_2.size : Int) ≥ 8
     ·
      rw [if_pos c7] at H
      have c7b0 : decide (8 ≤ (x1_2.size : Int)) = true := decide_eq_true c7
      have c7b1 : decide (8 ≤ x1_2.size) = true := decide_eq_true (by omega)
      clear c7
      by_cases c8 : 0 ≤ 8
      ·
       rw [if_pos c8] at H
       have c8b0 := eq_true c8
       have c8b1 : decide (0 ≤ 8) = true := decide_eq_true c8
       clear c8
       by_cases c9 : 8 ≤ (x1_2.size : Int)
       ·
        rw [if_pos c9] at H
        have c9b0 := eq_true c9
        have c9b1 : decide (8 ≤ (x1_2.size : Int)) = true := decide_eq_true c9
        clear c9
        replace H := Option.bind_eq_some_iff.mp H
        obtain ⟨t170, A100, H⟩ := H
        replace H : ((fascicleref04_into.f k2 0 t170).bind fun t171 => ((fascicleref04_turn.f k2 (Go.bits .xor .u64 x6_2 t171) 27).bind fun t172 => (fascicleref04_Sum.l0 k2 (x1_2.extract 8 x1_2.size) (IntKind.u64.wrap ((IntKind.u64.wrap (t172 * 11400714785074694791)) + 9650029242287828579))))) = some r := H
        have A10 := Aside0.mk A100
        clear A100
        replace H := Option.bind_eq_some_iff.mp H
        obtain ⟨t171, A110, H⟩ := H
        replace H : ((fascicleref04_turn.f k2 (Go.bits .xor .u64 x6_2 t171) 27).bind fun t172 => (fascicleref04_Sum.l0 k2 (x1_2.extract 8 x1_2.size) (IntKind.u64.wrap ((IntKind.u64.wrap (t172 * 11400714785074694791)) + 9650029242287828579)))) = some r := H
        have A11 := Aside0.mk A110
        clear A110
        replace H := Option.bind_eq_some_iff.mp H
        obtain ⟨t172, A120, H⟩ := H
        replace H : (fascicleref04_Sum.l0 k2 (x1_2.extract 8 x1_2.size) (IntKind.u64.wrap ((IntKind.u64.wrap (t172 * 11400714785074694791)) + 9650029242287828579))) = some r := H
        have A12 := Aside0.mk A120
        clear A120
        have c13b0 := eq_true (of_decide_eq_true (by first | (with_reducible assumption) | assumption) : 8 ≤ (x1_2.size : Int))
        have H' := Aside0.mk H
        clear H
        go_wp2_with (first | ((with_reducible refine gate_callee (f := 56) rfl ?_); refine goesL_ (some 33) rfl rfl Try.func56 (by kernel_rfl) rfl #[.string (x1_2.extract 0 8)] rfl (by (try simp only [List.map_toArray, List.map_cons, List.map_nil]); first | done | rfl) ?_; (with_reducible refine (fascicleref01_Value.calls k2 (x1_2.extract 0 8) t170 _ A10.out).mono ?_); rintro e w' ⟨rfl, ⟨nd, rfl⟩⟩; refine ⟨_, rfl, ?_⟩) | ((with_reducible refine gate_callee (f := 118) rfl ?_); refine goesL_ (some 34) rfl rfl Try.func118 (by kernel_rfl) rfl #[.int .u64 0, .int .u64 t170] rfl (by (try simp only [List.map_toArray, List.map_cons, List.map_nil]); first | done | rfl) ?_; (with_reducible refine (fascicleref04_into.calls k2 0 t170 t171 _ A11.out).mono ?_); rintro e w' ⟨rfl, ⟨nd, rfl⟩⟩; refine ⟨_, rfl, ?_⟩) | ((with_reducible refine gate_callee (f := 119) rfl ?_); refine goesL_ (some 37) rfl rfl Try.func119 (by kernel_rfl) rfl #[.int .u64 (Go.bits .xor .u64 x6_2 t171), .int .i64 27] rfl (by (try simp only [List.map_toArray, List.map_cons, List.map_nil]); first | done | rfl) ?_; (with_reducible refine (fascicleref04_turn.calls k2 (Go.bits .xor .u64 x6_2 t171) 27 t172 _ A12.out).mono ?_); rintro e w' ⟨rfl, ⟨nd, rfl⟩⟩; refine ⟨_, rfl, ?_⟩))
        go_roundg k2
        case measure => have := HJ2.out; have := HK2.out; omega
        case rel => exact ⟨(x1_2.extract 8 x1_2.size), (IntKind.u64.wrap ((IntKind.u64.wrap (t172 * 11400714785074694791)) + 9650029242287828579)), (by first | rfl | (simp; done) | (simp [*]; done) | (simp; exact (fun l : List UInt8 => (by cases l <;> rfl : l.isEmpty = !(l != ([] : List UInt8)))) _)), (by first | rfl | (simp; done) | (simp [*]; done) | (simp; exact (fun l : List UInt8 => (by cases l <;> rfl : l.isEmpty = !(l != ([] : List UInt8)))) _)), H', ⟨by have := HJ2.out; have := HK2.out; omega⟩, ⟨by repeat (first | (with_reducible first | exact HB.out | apply below_alloc | apply pw_below_drewN | apply below_drew1) | exact HB.out)⟩⟩
       ·
        rw [if_neg c9] at H
        exact absurd H (by simp)
      ·
       rw [if_neg c8] at H
       exact absurd H (by simp)
     ·
      rw [if_neg c7] at H
      have c7b0 : decide (8 ≤ (x1_2.size : Int)) = false := decide_eq_false c7
      have c7b1 : decide (8 ≤ x1_2.size) = false := decide_eq_false (by omega)
      clear c7
      have H' := Aside0.mk H
      clear H
      go_wp2
      go_loopg [1, 6] k2 (fun kq v1 v6 w' => ∃ (x1_3 : ByteArray) (x6_3 : Int), v1 = .string x1_3 ∧ v6 = .int .u64 x6_3 ∧ Aside0 (fascicleref04_Sum.l1 kq x1_3 x6_3 = some r) ∧ Aside0 (kq ≤ k2) ∧ Aside0 (Below w.heap.size w w'))
      case atStart => exact ⟨(x1_2), (x6_2), (by first | rfl | (simp; done) | (simp [*]; done) | (simp; exact (fun l : List UInt8 => (by cases l <;> rfl : l.isEmpty = !(l != ([] : List UInt8)))) _)), (by first | rfl | (simp; done) | (simp [*]; done) | (simp; exact (fun l : List UInt8 => (by cases l <;> rfl : l.isEmpty = !(l != ([] : List UInt8)))) _)), H', ⟨Nat.le_refl _⟩, ⟨by repeat (first | (with_reducible first | exact HB.out | apply below_alloc | apply pw_below_drewN | apply below_drew1) | exact HB.out)⟩⟩
      case round =>
       clear H'
       try clear c1
       try clear p2
       try clear c4
       try clear c4b0
       try clear c4b1
       try clear c5
       try clear c7
       try clear c7b0
       try clear c7b1
       try clear c8
       try clear c8b0
       try clear c8b1
       try clear c9
       try clear c9b0
       try clear c9b1
       try clear c11
       try clear c13
       try clear c13b0
       try clear p2
       obtain ⟨x1_3, x6_3, rfl, rfl, HA, HK3, HB⟩ := hrel
       cases gk with
       | zero => exact absurd HA.out (by simp [fascicleref04_Sum.l1])
       | succ k3 =>
        have H := HA.out
        clear HA
        simp only [fascicleref04_Sum.l1] at H
        by_cases c14 : (x1_3.size : Int) ≥ 4
        ·
         rw [if_pos c14] at H
         have c14b0 : decide (4 ≤ (x1_3.size : Int)) = true := decide_eq_true c14
         have c14b1 : decide (4 ≤ x1_3.size) = true := decide_eq_true (by omega)
         clear c14
         by_cases c15 : 0 ≤ 4
         ·
          rw [if_pos c15] at H
          have c15b0 := eq_true c15
          have c15b1 : decide (0 ≤ 4) = true := decide_eq_true c15
          clear c15
          by_cases c16 : 4 ≤ (x1_3.size : Int)
          ·
           rw [if_pos c16] at H
           have c16b0 := eq_true c16
           have c16b1 : decide (4 ≤ (x1_3.size : Int)) = true := decide_eq_true c16
           clear c16
           replace H := Option.bind_eq_some_iff.mp H
           obtain ⟨t173, A170, H⟩ := H
           replace H : ((fascicleref04_turn.f k3 (Go.bits .xor .u64 x6_3 (IntKind.u64.wrap (t173 * 11400714785074694791))) 23).bind fun t174 => (fascicleref04_Sum.l1 k3 (x1_3.extract 4 x1_3.size) (IntKind.u64.wrap ((IntKind.u64.wrap (t174 * 14029467366897019727)) + 1609587929392839161)))) = some r := H
           have A17 := Aside0.mk A170
           clear A170
           replace H := Option.bind_eq_some_iff.mp H
           obtain ⟨t174, A180, H⟩ := H
           replace H : (fascicleref04_Sum.l1 k3 (x1_3.extract 4 x1_3.size) (IntKind.u64.wrap ((IntKind.u64.wrap (t174 * 14029467366897019727)) + 1609587929392839161))) = some r := H
           have A18 := Aside0.mk A180
           clear A180
           have c19b0 := eq_true (of_decide_eq_true (by first | (with_reducible assumption) | assumption) : 4 ≤ (x1_3.size : Int))
           have H' := Aside0.mk H
           clear H
           go_wp2_with (first | ((with_reducible refine gate_callee (f := 56) rfl ?_); refine goesL_ (some 47) rfl rfl Try.func56 (by kernel_rfl) rfl #[.string (x1_3.extract 0 4)] rfl (by (try simp only [List.map_toArray, List.map_cons, List.map_nil]); first | done | rfl) ?_; (with_reducible refine (fascicleref01_Value.calls k3 (x1_3.extract 0 4) t173 _ A17.out).mono ?_); rintro e w' ⟨rfl, ⟨nd, rfl⟩⟩; refine ⟨_, rfl, ?_⟩) | ((with_reducible refine gate_callee (f := 119) rfl ?_); refine goesL_ (some 52) rfl rfl Try.func119 (by kernel_rfl) rfl #[.int .u64 (Go.bits .xor .u64 x6_3 (IntKind.u64.wrap (t173 * 11400714785074694791))), .int .i64 23] rfl (by (try simp only [List.map_toArray, List.map_cons, List.map_nil]); first | done | rfl) ?_; (with_reducible refine (fascicleref04_turn.calls k3 (Go.bits .xor .u64 x6_3 (IntKind.u64.wrap (t173 * 11400714785074694791))) 23 t174 _ A18.out).mono ?_); rintro e w' ⟨rfl, ⟨nd, rfl⟩⟩; refine ⟨_, rfl, ?_⟩))
           go_roundg k3
           case measure => have := HJ2.out; have := HK2.out; have := HK3.out; omega
           case rel => exact ⟨(x1_3.extract 4 x1_3.size), (IntKind.u64.wrap ((IntKind.u64.wrap (t174 * 14029467366897019727)) + 1609587929392839161)), (by first | rfl | (simp; done) | (simp [*]; done) | (simp; exact (fun l : List UInt8 => (by cases l <;> rfl : l.isEmpty = !(l != ([] : List UInt8)))) _)), (by first | rfl | (simp; done) | (simp [*]; done) | (simp; exact (fun l : List UInt8 => (by cases l <;> rfl : l.isEmpty = !(l != ([] : List UInt8)))) _)), H', ⟨by have := HJ2.out; have := HK2.out; have := HK3.out; omega⟩, ⟨by repeat (first | (with_reducible first | exact HB.out | apply below_alloc | apply pw_below_drewN | apply below_drew1) | exact HB.out)⟩⟩
          ·
           rw [if_neg c16] at H
           exact absurd H (by simp)
         ·
          rw [if_neg c15] at H
          exact absurd H (by simp)
        ·
         rw [if_neg c14] at H
         have c14b0 : decide (4 ≤ (x1_3.size : Int)) = false := decide_eq_false c14
         have c14b1 : decide (4 ≤ x1_3.size) = false := decide_eq_false (by omega)
         clear c14
         have H' := Aside0.mk H
         clear H
         go_wp2
         go_loopg [6, 8] k3 (fun kq v6 v8 w' => ∃ (x6_4 : Int) (x8_4 : Int), v6 = .int .u64 x6_4 ∧ v8 = .int .i64 x8_4 ∧ Aside0 (fascicleref04_Sum.l2 kq x1_3 x6_4 x8_4 = some r) ∧ Aside0 (kq ≤ k3) ∧ Aside0 (Below w.heap.size w w'))
         case atStart => exact ⟨(x6_3), (0), (by first | rfl | (simp; done) | (simp [*]; done) | (simp; exact (fun l : List UInt8 => (by cases l <;> rfl : l.isEmpty = !(l != ([] : List UInt8)))) _)), (by first | rfl | (simp; done) | (simp [*]; done) | (simp; exact (fun l : List UInt8 => (by cases l <;> rfl : l.isEmpty = !(l != ([] : List UInt8)))) _)), H', ⟨Nat.le_refl _⟩, ⟨by repeat (first | (with_reducible first | exact HB.out | apply below_alloc | apply pw_below_drewN | apply below_drew1) | exact HB.out)⟩⟩
         case round =>
          clear H'
          try clear c1
          try clear p2
          try clear c4
          try clear c4b0
          try clear c4b1
          try clear c5
          try clear c7
          try clear c7b0
          try clear c7b1
          try clear c8
          try clear c8b0
          try clear c8b1
          try clear c9
          try clear c9b0
          try clear c9b1
          try clear c11
          try clear c13
          try clear c13b0
          try clear c14
          try clear c14b0
          try clear c14b1
          try clear c15
          try clear c15b0
          try clear c15b1
          try clear c16
          try clear c16b0
          try clear c16b1
          try clear c19
          try clear c19b0
          try clear p2
          obtain ⟨x6_4, x8_4, rfl, rfl, HA, HK4, HB⟩ := hrel
          cases gk with
          | zero => exact absurd HA.out (by simp [fascicleref04_Sum.l2])
          | succ k4 =>
           have H := HA.out
           clear HA
           simp only [fascicleref04_Sum.l2] at H
           by_cases c20 : x8_4 < (x1_3.size : Int)
           ·
            rw [if_pos c20] at H
            have c20b0 : decide (x8_4 < (x1_3.size : Int)) = true := decide_eq_true c20
            clear c20
            by_cases c21 : 0 ≤ x8_4
            ·
             rw [if_pos c21] at H
             have c21b0 : decide (0 ≤ x8_4) = true := decide_eq_true c21
             clear c21
             replace H := Option.bind_eq_some_iff.mp H
             obtain ⟨t175, A230, H⟩ := H
             replace H : (fascicleref04_Sum.l2 k4 x1_3 (IntKind.u64.wrap (t175 * 11400714785074694791)) (wrap64 (x8_4 + 1))) = some r := H
             have A23 := Aside0.mk A230
             clear A230
             have H' := Aside0.mk H
             clear H
             have p22 : 0 ≤ (x8_4 : Int) := of_decide_eq_true (by first | (with_reducible assumption) | assumption)
             have q22 : x8_4 < (x1_3.size : Int) := of_decide_eq_true (by first | (with_reducible assumption) | assumption)
             have hx22 := bt_at x1_3 x8_4
             replace p22 := eq_true p22
             replace q22 := eq_true q22
             go_wp2_with (first | ((with_reducible refine gate_callee (f := 119) rfl ?_); refine goesL_ (some 71) rfl rfl Try.func119 (by kernel_rfl) rfl #[.int .u64 (Go.bits .xor .u64 x6_4 (IntKind.u64.wrap ((IntKind.u64.wrap (bt x1_3 x8_4)) * 2870177450012600261))), .int .i64 11] rfl (by (try simp only [List.map_toArray, List.map_cons, List.map_nil]); first | done | rfl) ?_; (with_reducible refine (fascicleref04_turn.calls k4 (Go.bits .xor .u64 x6_4 (IntKind.u64.wrap ((IntKind.u64.wrap (bt x1_3 x8_4)) * 2870177450012600261))) 11 t175 _ A23.out).mono ?_); rintro e w' ⟨rfl, ⟨nd, rfl⟩⟩; refine ⟨_, rfl, ?_⟩))
             go_roundg k4
             case measure => have := HJ2.out; have := HK2.out; have := HK3.out; have := HK4.out; omega
             case rel => exact ⟨(IntKind.u64.wrap (t175 * 11400714785074694791)), (wrap64 (x8_4 + 1)), (by first | rfl | (simp; done) | (simp [*]; done) | (simp; exact (fun l : List UInt8 => (by cases l <;> rfl : l.isEmpty = !(l != ([] : List UInt8)))) _)), (by first | rfl | (simp; done) | (simp [*]; done) | (simp; exact (fun l : List UInt8 => (by cases l <;> rfl : l.isEmpty = !(l != ([] : List UInt8)))) _)), H', ⟨by have := HJ2.out; have := HK2.out; have := HK3.out; have := HK4.out; omega⟩, ⟨by repeat (first | (with_reducible first | exact HB.out | apply below_alloc | apply pw_below_drewN | apply below_drew1) | exact HB.out)⟩⟩
            ·
             rw [if_neg c21] at H
             exact absurd H (by simp)
           ·
            rw [if_neg c20] at H
            have c20b0 : decide (x8_4 < (x1_3.size : Int)) = false := decide_eq_false c20
            clear c20
            replace H := Option.bind_eq_some_iff.mp H
            obtain ⟨t176, A240, H⟩ := H
            replace H : ((fascicleref04_mix.f k4 (IntKind.u64.wrap (t176 * 14029467366897019727)) 29).bind fun t177 => ((fascicleref04_mix.f k4 (IntKind.u64.wrap (t177 * 1609587929392839161)) 32).bind fun t178 => (some t178))) = some r := H
            have A24 := Aside0.mk A240
            clear A240
            replace H := Option.bind_eq_some_iff.mp H
            obtain ⟨t177, A250, H⟩ := H
            replace H : ((fascicleref04_mix.f k4 (IntKind.u64.wrap (t177 * 1609587929392839161)) 32).bind fun t178 => (some t178)) = some r := H
            have A25 := Aside0.mk A250
            clear A250
            replace H := Option.bind_eq_some_iff.mp H
            obtain ⟨t178, A260, H⟩ := H
            replace H : (some t178) = some r := H
            have A26 := Aside0.mk A260
            clear A260
            obtain rfl := Option.some.inj H
            go_wp2_with (first | ((with_reducible refine gate_callee (f := 120) rfl ?_); refine goesL_ (some 74) rfl rfl Try.func120 (by kernel_rfl) rfl #[.int .u64 x6_4, .int .i64 33] rfl (by (try simp only [List.map_toArray, List.map_cons, List.map_nil]); first | done | rfl) ?_; (with_reducible refine (fascicleref04_mix.calls k4 x6_4 33 t176 _ A24.out).mono ?_); rintro e w' ⟨rfl, ⟨nd, rfl⟩⟩; refine ⟨_, rfl, ?_⟩) | ((with_reducible refine gate_callee (f := 120) rfl ?_); refine goesL_ (some 77) rfl rfl Try.func120 (by kernel_rfl) rfl #[.int .u64 (IntKind.u64.wrap (t176 * 14029467366897019727)), .int .i64 29] rfl (by (try simp only [List.map_toArray, List.map_cons, List.map_nil]); first | done | rfl) ?_; (with_reducible refine (fascicleref04_mix.calls k4 (IntKind.u64.wrap (t176 * 14029467366897019727)) 29 t177 _ A25.out).mono ?_); rintro e w' ⟨rfl, ⟨nd, rfl⟩⟩; refine ⟨_, rfl, ?_⟩) | ((with_reducible refine gate_callee (f := 120) rfl ?_); refine goesL_ (some 80) rfl rfl Try.func120 (by kernel_rfl) rfl #[.int .u64 (IntKind.u64.wrap (t177 * 1609587929392839161)), .int .i64 32] rfl (by (try simp only [List.map_toArray, List.map_cons, List.map_nil]); first | done | rfl) ?_; (with_reducible refine (fascicleref04_mix.calls k4 (IntKind.u64.wrap (t177 * 1609587929392839161)) 32 t178 _ A26.out).mono ?_); rintro e w' ⟨rfl, ⟨nd, rfl⟩⟩; refine ⟨_, rfl, ?_⟩))
            go_ret
            exact ⟨by first | rfl | (simp [errW_none, errW_some] <;> rfl) | (simp [*, errW_none, errW_some] <;> rfl), by repeat (first | (with_reducible first | exact HB.out | apply below_alloc | apply pw_below_drewN | apply below_drew1) | exact HB.out)⟩
def fascicleref09_Open.f (k : Nat) (a0 : ByteArray) : Option (ByteArray × Int) := (fascicleref05_Unstuff.f k a0).bind fun bt179 => (if bt179.2 = 0 then (if (wrap64 ((bt179.1.size : Int) - 8)) < 0 then (some ((⟨#[]⟩ : ByteArray), 2)) else (if 0 ≤ (wrap64 ((bt179.1.size : Int) - 8)) then (if (wrap64 ((bt179.1.size : Int) - 8)) ≤ (bt179.1.size : Int) then ((fascicleref01_Value.f k (bt179.1.extract ((wrap64 ((bt179.1.size : Int) - 8)) : Int).toNat bt179.1.size)).bind fun t181 => ((fascicleref04_Sum.f k 0 (bt179.1.extract 0 ((wrap64 ((bt179.1.size : Int) - 8)) : Int).toNat)).bind fun t182 => (if t181 = t182 then (some (bt179.1.extract 0 ((wrap64 ((bt179.1.size : Int) - 8)) : Int).toNat, 0)) else (some ((⟨#[]⟩ : ByteArray), 5))))) else (none)) else (none))) else (some ((⟨#[]⟩ : ByteArray), bt179.2)))
theorem fascicleref09_Open.mono : ∀ a0 k, LeO (fascicleref09_Open.f k a0) (fascicleref09_Open.f (k + 1) a0) := by
 intro a0 k
 unfold fascicleref09_Open.f
 repeat' first
   | (with_reducible exact fascicleref01_Value.mono _ _)
   | (with_reducible exact fascicleref04_Sum.mono _ _ _)
   | (with_reducible exact fascicleref05_Unstuff.mono _ _)
   | (with_reducible exact LeO.refl _)
   | (with_reducible exact LeO.none _)
   | (with_reducible refine LeO.ite ?_ ?_)
   | (with_reducible refine LeO.bind ?_ (fun _ => ?_))
   | exact fascicleref01_Value.mono _ _
   | exact fascicleref04_Sum.mono _ _ _
   | exact fascicleref05_Unstuff.mono _ _
   | exact LeO.none _
   | refine LeO.ite ?_ ?_
   | refine LeO.bind ?_ (fun _ => ?_)
def fascicleref09_Open.T7 : Bool × List (List Nat × List Nat) := (true, [([], []), ([], []), ([0, 1], [0, 1]), ([2], [2]), ([], []), ([], []), ([4, 5], [4, 5]), ([6, 3], [6]), ([3, 7], [3, 7])])
def fascicleref09_Open.B7 : List Nat := [0, 0, 3, 7, 0, 0, 48, 127, 255]
theorem fascicleref09_Open.tab7 : rtab .any (opsOf Try.f20 7) = fascicleref09_Open.T7 := by kernel_rfl
theorem fascicleref09_Open.bits7 : waitsOk fascicleref09_Open.T7.2 fascicleref09_Open.B7 = true := by kernel_rfl
set_option maxHeartbeats 8000000 in
set_option maxRecDepth 100000 in
theorem fascicleref09_Open.calls (k : Nat) (a0 : ByteArray) (r1 : ByteArray) (r2 : Int) (w : World) (h : fascicleref09_Open.f k a0 = some (r1, r2)) :
  Calls Try.prog 20 #[.string a0] w fun e w' => e = .returned (.tuple #[.string r1, .int .i64 r2]) ∧ Below w.heap.size w w' := by
 have HB := Aside0.mk (Below.refl w.heap.size w)
 have H : ((fascicleref05_Unstuff.f k a0).bind fun bt179 => (if bt179.2 = 0 then (if (wrap64 ((bt179.1.size : Int) - 8)) < 0 then (some ((⟨#[]⟩ : ByteArray), 2)) else (if 0 ≤ (wrap64 ((bt179.1.size : Int) - 8)) then (if (wrap64 ((bt179.1.size : Int) - 8)) ≤ (bt179.1.size : Int) then ((fascicleref01_Value.f k (bt179.1.extract ((wrap64 ((bt179.1.size : Int) - 8)) : Int).toNat bt179.1.size)).bind fun t181 => ((fascicleref04_Sum.f k 0 (bt179.1.extract 0 ((wrap64 ((bt179.1.size : Int) - 8)) : Int).toNat)).bind fun t182 => (if t181 = t182 then (some (bt179.1.extract 0 ((wrap64 ((bt179.1.size : Int) - 8)) : Int).toNat, 0)) else (some ((⟨#[]⟩ : ByteArray), 5))))) else (none)) else (none))) else (some ((⟨#[]⟩ : ByteArray), bt179.2)))) = some (r1, r2) := h
 clear h
 replace H := Option.bind_eq_some_iff.mp H
 obtain ⟨⟨t179, t180⟩, A20, H⟩ := H
 replace H : (if t180 = 0 then (if (wrap64 ((t179.size : Int) - 8)) < 0 then (some ((⟨#[]⟩ : ByteArray), 2)) else (if 0 ≤ (wrap64 ((t179.size : Int) - 8)) then (if (wrap64 ((t179.size : Int) - 8)) ≤ (t179.size : Int) then ((fascicleref01_Value.f k (t179.extract ((wrap64 ((t179.size : Int) - 8)) : Int).toNat t179.size)).bind fun t181 => ((fascicleref04_Sum.f k 0 (t179.extract 0 ((wrap64 ((t179.size : Int) - 8)) : Int).toNat)).bind fun t182 => (if t181 = t182 then (some (t179.extract 0 ((wrap64 ((t179.size : Int) - 8)) : Int).toNat, 0)) else (some ((⟨#[]⟩ : ByteArray), 5))))) else (none)) else (none))) else (some ((⟨#[]⟩ : ByteArray), t180))) = some (r1, r2) := H
 have A2 := Aside0.mk A20
 clear A20
 by_cases c3 : t180 = 0
 ·
  rw [if_pos c3] at H
  have c3b0 : (t180 == 0) = true := beq_iff_eq.mpr c3
  have c3b1 : (t180 != 0) = false := bne_eq_false_iff_eq.mpr c3
  clear c3
  by_cases c4 : (wrap64 ((t179.size : Int) - 8)) < 0
  ·
   rw [if_pos c4] at H
   have c4b0 : decide ((wrap64 ((t179.size : Int) - 8)) < 0) = true := decide_eq_true c4
   clear c4
   simp only [Option.some.injEq, Prod.mk.injEq] at H
   obtain ⟨rfl, rfl⟩ := H
   go_enter Try.func20, Try.ntmps20
   go_wp2_with (first | ((with_reducible refine gate_callee (f := 55) rfl ?_); refine goesL_ (some 9) rfl rfl Try.func55 (by kernel_rfl) rfl #[.string a0] rfl (by (try simp only [List.map_toArray, List.map_cons, List.map_nil]); first | done | rfl) ?_; (with_reducible refine (fascicleref05_Unstuff.calls k a0 t179 t180 _ A2.out).mono ?_); rintro e w5 ⟨rfl, hb⟩; refine ⟨_, rfl, ?_⟩; replace HB := Aside0.mk (below_step (by repeat with_reducible first | exact HB.out | apply below_alloc | apply pw_below_drewN | apply below_drew1) hb); (try clear hb)))
   go_ret2
   exact ⟨by first | rfl | (simp [errW_none, errW_some] <;> rfl) | (simp [*, errW_none, errW_some] <;> rfl), by repeat (first | (with_reducible first | exact HB.out | apply below_alloc | apply pw_below_drewN | apply below_drew1) | exact HB.out)⟩
  ·
   rw [if_neg c4] at H
   have c4b0 : decide ((wrap64 ((t179.size : Int) - 8)) < 0) = false := decide_eq_false c4
   clear c4
   obtain ⟨ji6, hji6⟩ : ∃ j_ : Int, (wrap64 ((t179.size : Int) - 8)) = j_ := ⟨_, rfl⟩
   replace H : (if 0 ≤ (ji6) then (if (ji6) ≤ (t179.size : Int) then ((fascicleref01_Value.f k (t179.extract ((ji6) : Int).toNat t179.size)).bind fun t181 => ((fascicleref04_Sum.f k 0 (t179.extract 0 ((ji6) : Int).toNat)).bind fun t182 => (if t181 = t182 then (some (t179.extract 0 ((ji6) : Int).toNat, 0)) else (some ((⟨#[]⟩ : ByteArray), 5))))) else (none)) else (none)) = some (r1, r2) := by first | (rw [hji6] at H; exact H) | (simp only [hji6] at H ⊢; exact H)
   (try rw [hji6] at c4b0)
   (try rw [hji6] at A2)
   have hji6w : (IntKind.i64.wrap ((t179.size : Int) - 8)) = ji6 := (i64_w _).trans hji6
   by_cases c7 : 0 ≤ (ji6)
   ·
    rw [if_pos c7] at H
    have c7b0 := eq_true c7
    have c7b1 : decide (0 ≤ (ji6)) = true := decide_eq_true c7
    clear c7
    by_cases c8 : (ji6) ≤ (t179.size : Int)
    ·
     rw [if_pos c8] at H
     have c8b0 := eq_true c8
     have c8b1 : decide ((ji6) ≤ (t179.size : Int)) = true := decide_eq_true c8
     clear c8
     replace H := Option.bind_eq_some_iff.mp H
     obtain ⟨t181, A90, H⟩ := H
     replace H : ((fascicleref04_Sum.f k 0 (t179.extract 0 ((ji6) : Int).toNat)).bind fun t182 => (if t181 = t182 then (some (t179.extract 0 ((ji6) : Int).toNat, 0)) else (some ((⟨#[]⟩ : ByteArray), 5)))) = some (r1, r2) := H
     have A9 := Aside0.mk A90
     clear A90
     have c10b0 := eq_true (of_decide_eq_true (by first | (with_reducible assumption) | assumption) : 0 ≤ (ji6))
     have c11b0 := eq_true (of_decide_eq_true (by first | (with_reducible assumption) | assumption) : (ji6) ≤ (t179.size : Int))
     replace H := Option.bind_eq_some_iff.mp H
     obtain ⟨t182, A120, H⟩ := H
     replace H : (if t181 = t182 then (some (t179.extract 0 ((ji6) : Int).toNat, 0)) else (some ((⟨#[]⟩ : ByteArray), 5))) = some (r1, r2) := H
     have A12 := Aside0.mk A120
     clear A120
     by_cases c13 : t181 = t182
     ·
      rw [if_pos c13] at H
      have c13b0 : (t181 == t182) = true := beq_iff_eq.mpr c13
      have c13b1 : (t181 != t182) = false := bne_eq_false_iff_eq.mpr c13
      clear c13
      have c14b0 := eq_true (of_decide_eq_true (by first | (with_reducible assumption) | assumption) : 0 ≤ (ji6))
      have c15b0 := eq_true (of_decide_eq_true (by first | (with_reducible assumption) | assumption) : (ji6) ≤ (t179.size : Int))
      simp only [Option.some.injEq, Prod.mk.injEq] at H
      obtain ⟨rfl, rfl⟩ := H
      go_enter Try.func20, Try.ntmps20
      try go_wp2_with (first | ((with_reducible refine gate_callee (f := 55) rfl ?_); refine goesL_ (some 9) rfl rfl Try.func55 (by kernel_rfl) rfl #[.string a0] rfl (by (try simp only [List.map_toArray, List.map_cons, List.map_nil]); first | done | rfl) ?_; (with_reducible refine (fascicleref05_Unstuff.calls k a0 t179 t180 _ A2.out).mono ?_); rintro e w16 ⟨rfl, hb⟩; refine ⟨_, rfl, ?_⟩; replace HB := Aside0.mk (below_step (by repeat with_reducible first | exact HB.out | apply below_alloc | apply pw_below_drewN | apply below_drew1) hb); (try clear hb)))
      have n0_ := Aside0.mk (below_drew1 HB.out)
      clear HB
      have HB := n0_
      clear n0_
      refine start_ (n := 9) (S := fun w' => True) (ds := []) #[false, false, false, false, false, false, false, false, false] (by kernel_rfl) rfl rfl trivial (fun hHeld => ?_); refine with_tabW fascicleref09_Open.tab7 fascicleref09_Open.bits7 (fun HT_ HW_ => ?_)
      generalize w16.drew = w17 at HB hHeld ⊢
      refine pure_ (i := 0) (N := some 20) (v := ?_) (a' := ?_) #[true, false, false, false, false, false, false, false, false] rfl rfl (any_of HT_.out (by kernel_rfl)) (fun _ _ _ h => h) (Or.inl ⟨by rfl, ?_⟩) ?_ ?_
      rotate_left
      ·
       intro w'
       go_simp
       with_reducible rfl
      rotate_left
      ·
       simp only [Act.put, List.setIfInBounds_toArray, List.set_cons_zero, List.set_cons_succ, i64_w, i32_w]
       rfl
      refine pure_ (i := 1) (N := some 21) (v := ?_) (a' := ?_) #[true, true, false, false, false, false, false, false, false] rfl rfl (any_of HT_.out (by kernel_rfl)) (fun _ _ _ h => h) (Or.inl ⟨by rfl, ?_⟩) ?_ ?_
      rotate_left
      ·
       intro w'
       go_simp
       with_reducible rfl
      rotate_left
      ·
       simp only [Act.put, List.setIfInBounds_toArray, List.set_cons_zero, List.set_cons_succ, i64_w, i32_w]
       rfl
      refine pure_ (i := 2) (N := some 22) (v := ?_) (a' := ?_) #[true, true, true, false, false, false, false, false, false] rfl rfl (any_of HT_.out (by kernel_rfl)) (fun _ _ _ h => h) (Or.inl ⟨by rfl, ?_⟩) ?_ ?_
      rotate_left
      ·
       intro w'
       go_simp
       with_reducible rfl
      rotate_left
      ·
       simp only [Act.put, List.setIfInBounds_toArray, List.set_cons_zero, List.set_cons_succ, i64_w, i32_w]
       rfl
      refine pure_ (i := 4) (N := some 24) (v := ?_) (a' := ?_) #[true, true, true, false, true, false, false, false, false] rfl rfl (any_of HT_.out (by kernel_rfl)) (fun _ _ _ h => h) (Or.inl ⟨by rfl, ?_⟩) ?_ ?_
      rotate_left
      ·
       intro w'
       go_simp
       with_reducible rfl
      rotate_left
      ·
       simp only [Act.put, List.setIfInBounds_toArray, List.set_cons_zero, List.set_cons_succ, i64_w, i32_w]
       rfl
      refine pure_ (i := 5) (N := some 25) (v := ?_) (a' := ?_) #[true, true, true, false, true, true, false, false, false] rfl rfl (any_of HT_.out (by kernel_rfl)) (fun _ _ _ h => h) (Or.inl ⟨by rfl, ?_⟩) ?_ ?_
      rotate_left
      ·
       intro w'
       go_simp
       with_reducible rfl
      rotate_left
      ·
       simp only [Act.put, List.setIfInBounds_toArray, List.set_cons_zero, List.set_cons_succ, i64_w, i32_w]
       rfl
      refine pure_ (i := 6) (N := some 26) (v := ?_) (a' := ?_) #[true, true, true, false, true, true, true, false, false] rfl rfl (any_of HT_.out (by kernel_rfl)) (fun _ _ _ h => h) (Or.inl ⟨by rfl, ?_⟩) ?_ ?_
      rotate_left
      ·
       intro w'
       go_simp
       with_reducible rfl
      rotate_left
      ·
       simp only [Act.put, List.setIfInBounds_toArray, List.set_cons_zero, List.set_cons_succ, i64_w, i32_w]
       rfl
      refine one_ (i := 3) (N := some 23) #[true, true, true, true, true, true, true, false, false] rfl rfl (one_of HT_.out (by kernel_rfl)) (by decide) (fun K hK => ?_)
      refine goes_ Try.func56 (by kernel_rfl) rfl #[.string (t179.extract ((ji6) : Int).toNat t179.size)] (by rfl) rfl rfl (by (try simp only [List.map_toArray, List.map_cons, List.map_nil]); first | done | (simp only [hji6]; rfl) | rfl | (simp only [List.length_drop, List.length_take]; rfl)) ?_
      with_reducible refine (fascicleref01_Value.calls k (t179.extract ((ji6) : Int).toNat t179.size) t181 _ A9.out).mono ?_
      rintro e w' ⟨rfl, ⟨nd, rfl⟩⟩
      refine ⟨_, rfl, ?_⟩
      refine hK.out _ _ trivial (fun hHeld => ?_)
      clear hK K
      refine norm_ (a' := ?_) ?_ ?_
      rotate_left
      ·
       show Act.put _ (some 23) _ = _
       simp only [Act.put, List.setIfInBounds_toArray, List.set_cons_zero, List.set_cons_succ, i64_w, i32_w]
       rfl
      refine one_ (i := 7) (N := some 27) #[true, true, true, true, true, true, true, true, false] rfl rfl (one_of HT_.out (by kernel_rfl)) (by decide) (fun K hK => ?_)
      refine goes_ Try.func57 (by kernel_rfl) rfl #[.int .u64 0, .string (t179.extract 0 ((ji6) : Int).toNat)] (by rfl) rfl rfl (by (try simp only [List.map_toArray, List.map_cons, List.map_nil]); first | done | (simp only [hji6]; rfl) | rfl | (simp only [List.length_drop, List.length_take]; rfl)) ?_
      with_reducible refine (fascicleref04_Sum.calls k 0 (t179.extract 0 ((ji6) : Int).toNat) t182 _ A12.out).mono ?_
      rintro e w18 ⟨rfl, hb⟩
      refine ⟨_, rfl, ?_⟩
      have n0_ := Aside0.mk (below_step (by repeat with_reducible first | exact HB.out | apply below_alloc | apply pw_below_drewN | apply below_drew1) hb)
      clear HB
      have HB := n0_
      clear n0_
      (try clear hb)
      (try clear hb2)
      (try clear hk)
      (try clear hi)
      refine hK.out _ _ trivial (fun hHeld => ?_)
      clear hK K
      refine norm_ (a' := ?_) ?_ ?_
      rotate_left
      ·
       show Act.put _ (some 27) _ = _
       simp only [Act.put, List.setIfInBounds_toArray, List.set_cons_zero, List.set_cons_succ, i64_w, i32_w]
       rfl
      refine pure_ (i := 8) (N := some 28) (v := ?_) (a' := ?_) #[true, true, true, true, true, true, true, true, true] rfl rfl (any_of HT_.out (by kernel_rfl)) (fun _ _ _ h => h) (Or.inl ⟨by rfl, ?_⟩) ?_ ?_
      rotate_left
      ·
       intro w'
       go_simp
       with_reducible rfl
      rotate_left
      ·
       simp only [Act.put, List.setIfInBounds_toArray, List.set_cons_zero, List.set_cons_succ, i64_w, i32_w]
       rfl
      refine done_ (done_of HT_.out (by kernel_rfl)) ?_
      try go_wp2
      go_ret2
      exact ⟨by first | rfl | (simp [errW_none, errW_some] <;> rfl) | (simp only [← hji6]; first | rfl | (simp [errW_none, errW_some] <;> rfl)) | (simp [*, errW_none, errW_some] <;> rfl), by repeat (first | (with_reducible first | exact HB.out | apply below_alloc | apply pw_below_drewN | apply below_drew1) | exact HB.out)⟩
     ·
      rw [if_neg c13] at H
      have c13b0 : (t181 == t182) = false := beq_eq_false_iff_ne.mpr c13
      have c13b1 : (t181 != t182) = true := bne_iff_ne.mpr c13
      simp only [Option.some.injEq, Prod.mk.injEq] at H
      obtain ⟨rfl, rfl⟩ := H
      go_enter Try.func20, Try.ntmps20
      try go_wp2_with (first | ((with_reducible refine gate_callee (f := 55) rfl ?_); refine goesL_ (some 9) rfl rfl Try.func55 (by kernel_rfl) rfl #[.string a0] rfl (by (try simp only [List.map_toArray, List.map_cons, List.map_nil]); first | done | rfl) ?_; (with_reducible refine (fascicleref05_Unstuff.calls k a0 t179 t180 _ A2.out).mono ?_); rintro e w19 ⟨rfl, hb⟩; refine ⟨_, rfl, ?_⟩; replace HB := Aside0.mk (below_step (by repeat with_reducible first | exact HB.out | apply below_alloc | apply pw_below_drewN | apply below_drew1) hb); (try clear hb)))
      have n0_ := Aside0.mk (below_drew1 HB.out)
      clear HB
      have HB := n0_
      clear n0_
      refine start_ (n := 9) (S := fun w' => True) (ds := []) #[false, false, false, false, false, false, false, false, false] (by kernel_rfl) rfl rfl trivial (fun hHeld => ?_); refine with_tabW fascicleref09_Open.tab7 fascicleref09_Open.bits7 (fun HT_ HW_ => ?_)
      generalize w19.drew = w20 at HB hHeld ⊢
      refine pure_ (i := 0) (N := some 20) (v := ?_) (a' := ?_) #[true, false, false, false, false, false, false, false, false] rfl rfl (any_of HT_.out (by kernel_rfl)) (fun _ _ _ h => h) (Or.inl ⟨by rfl, ?_⟩) ?_ ?_
      rotate_left
      ·
       intro w'
       go_simp
       with_reducible rfl
      rotate_left
      ·
       simp only [Act.put, List.setIfInBounds_toArray, List.set_cons_zero, List.set_cons_succ, i64_w, i32_w]
       rfl
      refine pure_ (i := 1) (N := some 21) (v := ?_) (a' := ?_) #[true, true, false, false, false, false, false, false, false] rfl rfl (any_of HT_.out (by kernel_rfl)) (fun _ _ _ h => h) (Or.inl ⟨by rfl, ?_⟩) ?_ ?_
      rotate_left
      ·
       intro w'
       go_simp
       with_reducible rfl
      rotate_left
      ·
       simp only [Act.put, List.setIfInBounds_toArray, List.set_cons_zero, List.set_cons_succ, i64_w, i32_w]
       rfl
      refine pure_ (i := 2) (N := some 22) (v := ?_) (a' := ?_) #[true, true, true, false, false, false, false, false, false] rfl rfl (any_of HT_.out (by kernel_rfl)) (fun _ _ _ h => h) (Or.inl ⟨by rfl, ?_⟩) ?_ ?_
      rotate_left
      ·
       intro w'
       go_simp
       with_reducible rfl
      rotate_left
      ·
       simp only [Act.put, List.setIfInBounds_toArray, List.set_cons_zero, List.set_cons_succ, i64_w, i32_w]
       rfl
      refine pure_ (i := 4) (N := some 24) (v := ?_) (a' := ?_) #[true, true, true, false, true, false, false, false, false] rfl rfl (any_of HT_.out (by kernel_rfl)) (fun _ _ _ h => h) (Or.inl ⟨by rfl, ?_⟩) ?_ ?_
      rotate_left
      ·
       intro w'
       go_simp
       with_reducible rfl
      rotate_left
      ·
       simp only [Act.put, List.setIfInBounds_toArray, List.set_cons_zero, List.set_cons_succ, i64_w, i32_w]
       rfl
      refine pure_ (i := 5) (N := some 25) (v := ?_) (a' := ?_) #[true, true, true, false, true, true, false, false, false] rfl rfl (any_of HT_.out (by kernel_rfl)) (fun _ _ _ h => h) (Or.inl ⟨by rfl, ?_⟩) ?_ ?_
      rotate_left
      ·
       intro w'
       go_simp
       with_reducible rfl
      rotate_left
      ·
       simp only [Act.put, List.setIfInBounds_toArray, List.set_cons_zero, List.set_cons_succ, i64_w, i32_w]
       rfl
      refine pure_ (i := 6) (N := some 26) (v := ?_) (a' := ?_) #[true, true, true, false, true, true, true, false, false] rfl rfl (any_of HT_.out (by kernel_rfl)) (fun _ _ _ h => h) (Or.inl ⟨by rfl, ?_⟩) ?_ ?_
      rotate_left
      ·
       intro w'
       go_simp
       with_reducible rfl
      rotate_left
      ·
       simp only [Act.put, List.setIfInBounds_toArray, List.set_cons_zero, List.set_cons_succ, i64_w, i32_w]
       rfl
      refine one_ (i := 3) (N := some 23) #[true, true, true, true, true, true, true, false, false] rfl rfl (one_of HT_.out (by kernel_rfl)) (by decide) (fun K hK => ?_)
      refine goes_ Try.func56 (by kernel_rfl) rfl #[.string (t179.extract ((ji6) : Int).toNat t179.size)] (by rfl) rfl rfl (by (try simp only [List.map_toArray, List.map_cons, List.map_nil]); first | done | (simp only [hji6]; rfl) | rfl | (simp only [List.length_drop, List.length_take]; rfl)) ?_
      with_reducible refine (fascicleref01_Value.calls k (t179.extract ((ji6) : Int).toNat t179.size) t181 _ A9.out).mono ?_
      rintro e w' ⟨rfl, ⟨nd, rfl⟩⟩
      refine ⟨_, rfl, ?_⟩
      refine hK.out _ _ trivial (fun hHeld => ?_)
      clear hK K
      refine norm_ (a' := ?_) ?_ ?_
      rotate_left
      ·
       show Act.put _ (some 23) _ = _
       simp only [Act.put, List.setIfInBounds_toArray, List.set_cons_zero, List.set_cons_succ, i64_w, i32_w]
       rfl
      refine one_ (i := 7) (N := some 27) #[true, true, true, true, true, true, true, true, false] rfl rfl (one_of HT_.out (by kernel_rfl)) (by decide) (fun K hK => ?_)
      refine goes_ Try.func57 (by kernel_rfl) rfl #[.int .u64 0, .string (t179.extract 0 ((ji6) : Int).toNat)] (by rfl) rfl rfl (by (try simp only [List.map_toArray, List.map_cons, List.map_nil]); first | done | (simp only [hji6]; rfl) | rfl | (simp only [List.length_drop, List.length_take]; rfl)) ?_
      with_reducible refine (fascicleref04_Sum.calls k 0 (t179.extract 0 ((ji6) : Int).toNat) t182 _ A12.out).mono ?_
      rintro e w21 ⟨rfl, hb⟩
      refine ⟨_, rfl, ?_⟩
      have n0_ := Aside0.mk (below_step (by repeat with_reducible first | exact HB.out | apply below_alloc | apply pw_below_drewN | apply below_drew1) hb)
      clear HB
      have HB := n0_
      clear n0_
      (try clear hb)
      (try clear hb2)
      (try clear hk)
      (try clear hi)
      refine hK.out _ _ trivial (fun hHeld => ?_)
      clear hK K
      refine norm_ (a' := ?_) ?_ ?_
      rotate_left
      ·
       show Act.put _ (some 27) _ = _
       simp only [Act.put, List.setIfInBounds_toArray, List.set_cons_zero, List.set_cons_succ, i64_w, i32_w]
       rfl
      refine pure_ (i := 8) (N := some 28) (v := ?_) (a' := ?_) #[true, true, true, true, true, true, true, true, true] rfl rfl (any_of HT_.out (by kernel_rfl)) (fun _ _ _ h => h) (Or.inl ⟨by rfl, ?_⟩) ?_ ?_
      rotate_left
      ·
       intro w'
       go_simp
       with_reducible rfl
      rotate_left
      ·
       simp only [Act.put, List.setIfInBounds_toArray, List.set_cons_zero, List.set_cons_succ, i64_w, i32_w]
       rfl
      refine done_ (done_of HT_.out (by kernel_rfl)) ?_
      try go_wp2
      go_ret2
      exact ⟨by first | rfl | (simp [errW_none, errW_some] <;> rfl) | (simp only [← hji6]; first | rfl | (simp [errW_none, errW_some] <;> rfl)) | (simp [*, errW_none, errW_some] <;> rfl), by repeat (first | (with_reducible first | exact HB.out | apply below_alloc | apply pw_below_drewN | apply below_drew1) | exact HB.out)⟩
    ·
     rw [if_neg c8] at H
     exact absurd H (by simp)
   ·
    rw [if_neg c7] at H
    exact absurd H (by simp)
 ·
  rw [if_neg c3] at H
  have c3b0 : (t180 == 0) = false := beq_eq_false_iff_ne.mpr c3
  have c3b1 : (t180 != 0) = true := bne_iff_ne.mpr c3
  simp only [Option.some.injEq, Prod.mk.injEq] at H
  obtain ⟨rfl, rfl⟩ := H
  go_enter Try.func20, Try.ntmps20
  go_wp2_with (first | ((with_reducible refine gate_callee (f := 55) rfl ?_); refine goesL_ (some 9) rfl rfl Try.func55 (by kernel_rfl) rfl #[.string a0] rfl (by (try simp only [List.map_toArray, List.map_cons, List.map_nil]); first | done | rfl) ?_; (with_reducible refine (fascicleref05_Unstuff.calls k a0 t179 t180 _ A2.out).mono ?_); rintro e w22 ⟨rfl, hb⟩; refine ⟨_, rfl, ?_⟩; replace HB := Aside0.mk (below_step (by repeat with_reducible first | exact HB.out | apply below_alloc | apply pw_below_drewN | apply below_drew1) hb); (try clear hb)))
  go_ret2
  exact ⟨by first | rfl | (simp [errW_none, errW_some] <;> rfl) | (simp [*, errW_none, errW_some] <;> rfl), by repeat (first | (with_reducible first | exact HB.out | apply below_alloc | apply pw_below_drewN | apply below_drew1) | exact HB.out)⟩
end Go.Proofs.Ytekanmieppnpeaa.G
end
section
namespace Go.Proofs.Ytekanmieppnpeaa.G
open Go.RowKit Go.Proofs.YtekanmieppnpeaaW.PrintWords Go.Proofs.YtekanmieppnpeaaW.PrintLast Go.Proofs.YtekanmieppnpeaaW.PrintMore
attribute [local go_sem] max2_int min2_int max_two min_two max_three min_three max_four min_four   -- for this text's walks alone
attribute [local go_sem high] eqA135
def fasciclelaw11_Same.l0 : Nat → List (S33) → List (S135) → Int → Int → Option (Bool)
 | 0, _, _, _, _ => none
 | k + 1, x0, x1, x12, x13 => if x13 < x12 then (if 0 ≤ x13 then (if x13 < (x0.length : Int) then (if x13 < (x1.length : Int) then (if (!(((rd_T33 x0 x13).f0) == ((rd_T135 x1 x13).f0)) || (!(((rd_T33 x0 x13).f1) == ((rd_T135 x1 x13).f1)))) = true then (some false) else (fasciclelaw11_Same.l0 k x0 x1 x12 (wrap64 (x13 + 1)))) else (none)) else (none)) else (none)) else (some true)
def fasciclelaw11_Same.f (k : Nat) (l0 : List (S33)) (l1 : List (S135)) : Option (Bool) := if (l0.length : Int) = (l1.length : Int) then (fasciclelaw11_Same.l0 k l0 l1 (l0.length : Int) 0) else (some false)
theorem fasciclelaw11_Same.mono_l : ∀ k, (∀ y0 y1 y2 y3, LeO (fasciclelaw11_Same.l0 k y0 y1 y2 y3) (fasciclelaw11_Same.l0 (k + 1) y0 y1 y2 y3))
 | 0 => fun _ _ _ _ r h => by simp [fasciclelaw11_Same.l0] at h
 | k + 1 => by
  have ih0 := fasciclelaw11_Same.mono_l k
  ·
   intro y0 y1 y2 y3
   unfold fasciclelaw11_Same.l0
   repeat' first
   | (with_reducible exact ih0 _ _ _ _)
   | (with_reducible exact LeO.refl _)
   | (with_reducible exact LeO.none _)
   | (with_reducible refine LeO.ite ?_ ?_)
   | (with_reducible refine LeO.bind ?_ (fun _ => ?_))
   | exact ih0 _ _ _ _
   | exact LeO.none _
   | refine LeO.ite ?_ ?_
   | refine LeO.bind ?_ (fun _ => ?_)
theorem fasciclelaw11_Same.mono : ∀ a0 a1 k, LeO (fasciclelaw11_Same.f k a0 a1) (fasciclelaw11_Same.f (k + 1) a0 a1) := by
 intro a0 a1 k
 have ih0 := fasciclelaw11_Same.mono_l k
 unfold fasciclelaw11_Same.f
 repeat' first
   | (with_reducible exact ih0 _ _ _ _)
   | (with_reducible exact LeO.refl _)
   | (with_reducible exact LeO.none _)
   | (with_reducible refine LeO.ite ?_ ?_)
   | (with_reducible refine LeO.bind ?_ (fun _ => ?_))
   | exact ih0 _ _ _ _
   | exact LeO.none _
   | refine LeO.ite ?_ ?_
   | refine LeO.bind ?_ (fun _ => ?_)
set_option maxHeartbeats 8000000 in
set_option maxRecDepth 100000 in
theorem fasciclelaw11_Same.calls (k : Nat) (A0 : Option Addr) (c0 : Nat) (l0 : List (S33)) (A1 : Option Addr) (c1 : Nat) (l1 : List (S135)) (r : Bool) (w : World) (hr0 : Kd.C k33 w A0 l0.length l0) (hc0 : l0.length ≤ c0) (hr1 : Kd.C k135 w A1 l1.length l1) (hc1 : l1.length ≤ c1) (h : fasciclelaw11_Same.f k l0 l1 = some r) :
  Calls Try.prog 91 #[.slice A0 l0.length c0, .slice A1 l1.length c1] w fun e w' => e = .returned (.bool r) ∧ Drawn0 w w' := by
 have hu33 := Try.underlying33
 have hu135 := Try.underlying135
 have HR0 := Aside0.mk hr0
 have HC0 := Aside0.mk hc0
 clear hr0 hc0
 have HR1 := Aside0.mk hr1
 have HC1 := Aside0.mk hc1
 clear hr1 hc1
 have H : (if (l0.length : Int) = (l1.length : Int) then (fasciclelaw11_Same.l0 k l0 l1 (l0.length : Int) 0) else (some false)) = some r := h
 clear h
 by_cases c3 : (l0.length : Int) = (l1.length : Int)
 ·
  rw [if_pos c3] at H
  have c3b0 : ((l0.length : Int) == (l1.length : Int)) = true := beq_iff_eq.mpr c3
  have c3b1 : ((l0.length : Int) != (l1.length : Int)) = false := bne_eq_false_iff_eq.mpr c3
  have c3b2 : (l0.length == l1.length) = true := by first | simpa using c3 | (simp at c3 ⊢; omega)
  clear c3
  have H' := Aside0.mk H
  clear H
  go_enter Try.func91, Try.ntmps91
  go_wp2
  repeat (go_quiet (fail); try go_wp2)
  go_loopg [13] k (fun kq v13 w' => ∃ (x13_1 : Int), v13 = .int .i64 x13_1 ∧ Aside0 (fasciclelaw11_Same.l0 kq l0 l1 (l0.length : Int) x13_1 = some r) ∧ Aside0 (kq ≤ k) ∧ Drawn0 w w')
  case atStart => exact ⟨(0), (by first | rfl | (simp; done) | (simp [*]; done) | (simp; exact (fun l : List UInt8 => (by cases l <;> rfl : l.isEmpty = !(l != ([] : List UInt8)))) _)), H', ⟨Nat.le_refl _⟩, by repeat (first | exact Drawn0.refl _ | apply Drawn0.step)⟩
  case round =>
   clear H'
   try clear c1
   try clear p2
   try clear c3
   try clear c3b0
   try clear c3b1
   try clear c3b2
   obtain ⟨x13_1, rfl, HA, HK1, ⟨m1, rfl⟩⟩ := hrel
   cases gk with
   | zero => exact absurd HA.out (by simp [fasciclelaw11_Same.l0])
   | succ k1 =>
    have H := HA.out
    clear HA
    simp only [fasciclelaw11_Same.l0] at H
    by_cases c4 : x13_1 < (l0.length : Int)
    ·
     rw [if_pos c4] at H
     have c4b0 : decide (x13_1 < (l0.length : Int)) = true := decide_eq_true c4
     clear c4
     by_cases c5 : 0 ≤ x13_1
     ·
      rw [if_pos c5] at H
      have c5b0 : decide (0 ≤ x13_1) = true := decide_eq_true c5
      clear c5
      by_cases c6 : x13_1 < (l0.length : Int)
      ·
       rw [if_pos c6] at H
       have c6b0 : decide (x13_1 < (l0.length : Int)) = true := decide_eq_true c6
       clear c6
       by_cases c7 : x13_1 < (l1.length : Int)
       ·
        rw [if_pos c7] at H
        have c7b0 : decide (x13_1 < (l1.length : Int)) = true := decide_eq_true c7
        clear c7
        by_cases c8 : (!(((rd_T33 l0 x13_1).f0) == ((rd_T135 l1 x13_1).f0)) || (!(((rd_T33 l0 x13_1).f1) == ((rd_T135 l1 x13_1).f1)))) = true
        ·
         rw [if_pos c8] at H
         have c8b0 : (!(((rd_T33 l0 x13_1).f0) == ((rd_T135 l1 x13_1).f0)) || (!(((rd_T33 l0 x13_1).f1) == ((rd_T135 l1 x13_1).f1)))) = true := c8
         clear c8
         obtain rfl := Option.some.inj H
         have p183 : 0 ≤ (x13_1 : Int) := of_decide_eq_true (by first | (with_reducible assumption) | assumption)
         have q183 : x13_1 < (l0.length : Int) := of_decide_eq_true (by first | (with_reducible assumption) | assumption)
         obtain ⟨ad183, e183, hx183_0, hx183_1⟩ := at_T33 HR0.out x13_1 p183 q183
         cases e183
         replace p183 := eq_true p183
         replace q183 := eq_true q183
         have p184 : 0 ≤ (x13_1 : Int) := of_decide_eq_true (by first | (with_reducible assumption) | assumption)
         have q184 : x13_1 < (l1.length : Int) := of_decide_eq_true (by first | (with_reducible assumption) | assumption)
         obtain ⟨ad184, e184, hx184_0, hx184_1⟩ := at_T135 HR1.out x13_1 p184 q184
         cases e184
         replace p184 := eq_true p184
         replace q184 := eq_true q184
         go_wp2
         repeat (go_quiet (fail); try go_wp2)
         go_ret
         exact ⟨by first | rfl | (simp; done) | (simp [*]; done), by repeat (first | exact Drawn0.refl _ | apply Drawn0.step)⟩
        ·
         rw [if_neg c8] at H
         have c8b0 : (!(((rd_T33 l0 x13_1).f0) == ((rd_T135 l1 x13_1).f0)) || (!(((rd_T33 l0 x13_1).f1) == ((rd_T135 l1 x13_1).f1)))) = false := by simpa using c8
         clear c8
         have H' := Aside0.mk H
         clear H
         have p183 : 0 ≤ (x13_1 : Int) := of_decide_eq_true (by first | (with_reducible assumption) | assumption)
         have q183 : x13_1 < (l0.length : Int) := of_decide_eq_true (by first | (with_reducible assumption) | assumption)
         obtain ⟨ad183, e183, hx183_0, hx183_1⟩ := at_T33 HR0.out x13_1 p183 q183
         cases e183
         replace p183 := eq_true p183
         replace q183 := eq_true q183
         have p184 : 0 ≤ (x13_1 : Int) := of_decide_eq_true (by first | (with_reducible assumption) | assumption)
         have q184 : x13_1 < (l1.length : Int) := of_decide_eq_true (by first | (with_reducible assumption) | assumption)
         obtain ⟨ad184, e184, hx184_0, hx184_1⟩ := at_T135 HR1.out x13_1 p184 q184
         cases e184
         replace p184 := eq_true p184
         replace q184 := eq_true q184
         go_wp2
         repeat (go_quiet (fail); try go_wp2)
         go_roundg k1
         case measure => have := HK1.out; omega
         case rel => exact ⟨(wrap64 (x13_1 + 1)), (by first | rfl | (simp; done) | (simp [*]; done) | (simp; exact (fun l : List UInt8 => (by cases l <;> rfl : l.isEmpty = !(l != ([] : List UInt8)))) _)), H', ⟨by have := HK1.out; omega⟩, by repeat (first | exact Drawn0.refl _ | apply Drawn0.step)⟩
       ·
        rw [if_neg c7] at H
        exact absurd H (by simp)
      ·
       rw [if_neg c6] at H
       exact absurd H (by simp)
     ·
      rw [if_neg c5] at H
      exact absurd H (by simp)
    ·
     rw [if_neg c4] at H
     have c4b0 : decide (x13_1 < (l0.length : Int)) = false := decide_eq_false c4
     clear c4
     obtain rfl := Option.some.inj H
     go_wp2
     repeat (go_quiet (fail); try go_wp2)
     go_ret
     exact ⟨by first | rfl | (simp; done) | (simp [*]; done), by repeat (first | exact Drawn0.refl _ | apply Drawn0.step)⟩
 ·
  rw [if_neg c3] at H
  have c3b0 : ((l0.length : Int) == (l1.length : Int)) = false := beq_eq_false_iff_ne.mpr c3
  have c3b1 : ((l0.length : Int) != (l1.length : Int)) = true := bne_iff_ne.mpr c3
  have c3b2 : (l0.length == l1.length) = false := by first | simpa using c3 | (simp at c3 ⊢; omega)
  obtain rfl := Option.some.inj H
  go_enter Try.func91, Try.ntmps91
  go_wp2
  repeat (go_quiet (fail); try go_wp2)
  go_ret
  exact ⟨by first | rfl | (simp; done) | (simp [*]; done), by repeat (first | exact Drawn0.refl _ | apply Drawn0.step)⟩
def fasciclelaw11_Same.Pure : Prop := ∀ (l0 : List (S33)) (l1 : List (S135)), l0.length ≤ maxLen → l0.length * 16 ≤ 140737488351232 → (∀ y ∈ l0, (((Lit.int .u64 y.f0).wf = true) ∧ ((Lit.int .u32 y.f1).wf = true))) → l1.length ≤ maxLen → l1.length * 16 ≤ 140737488351232 → (∀ y ∈ l1, (((Lit.int .u64 y.f0).wf = true) ∧ ((Lit.int .u32 y.f1).wf = true))) → ∃ k, fasciclelaw11_Same.f k l0 l1 = some true
def fasciclelaw11_Refs.l0 : Nat → List (S135) → List (S33) → Int → Int → Option ((List (S135)))
 | 0, _, _, _, _ => none
 | k + 1, x3, x6, x7, x8 => if x8 < x7 then (if 0 ≤ x8 then (if x8 < (x6.length : Int) then (if x3.length < 8796093022208 then (fasciclelaw11_Refs.l0 k (x3 ++ [(⟨(rd_T33 x6 x8).f0, (rd_T33 x6 x8).f1⟩ : S135)]) x6 x7 (wrap64 (x8 + 1))) else (none)) else (none)) else (none)) else (some x3)
def fasciclelaw11_Refs.f (k : Nat) (l0 : List (S33)) : Option ((List (S135))) := fasciclelaw11_Refs.l0 k ([] : List (S135)) l0 (l0.length : Int) 0
theorem fasciclelaw11_Refs.mono_l : ∀ k, (∀ y0 y1 y2 y3, LeO (fasciclelaw11_Refs.l0 k y0 y1 y2 y3) (fasciclelaw11_Refs.l0 (k + 1) y0 y1 y2 y3))
 | 0 => fun _ _ _ _ r h => by simp [fasciclelaw11_Refs.l0] at h
 | k + 1 => by
  have ih0 := fasciclelaw11_Refs.mono_l k
  ·
   intro y0 y1 y2 y3
   unfold fasciclelaw11_Refs.l0
   repeat' first
   | (with_reducible exact ih0 _ _ _ _)
   | (with_reducible exact LeO.refl _)
   | (with_reducible exact LeO.none _)
   | (with_reducible refine LeO.ite ?_ ?_)
   | (with_reducible refine LeO.bind ?_ (fun _ => ?_))
   | exact ih0 _ _ _ _
   | exact LeO.none _
   | refine LeO.ite ?_ ?_
   | refine LeO.bind ?_ (fun _ => ?_)
theorem fasciclelaw11_Refs.mono : ∀ a0 k, LeO (fasciclelaw11_Refs.f k a0) (fasciclelaw11_Refs.f (k + 1) a0) := by
 intro a0 k
 have ih0 := fasciclelaw11_Refs.mono_l k
 unfold fasciclelaw11_Refs.f
 repeat' first
   | (with_reducible exact ih0 _ _ _ _)
   | (with_reducible exact LeO.refl _)
   | (with_reducible exact LeO.none _)
   | (with_reducible refine LeO.ite ?_ ?_)
   | (with_reducible refine LeO.bind ?_ (fun _ => ?_))
   | exact ih0 _ _ _ _
   | exact LeO.none _
   | refine LeO.ite ?_ ?_
   | refine LeO.bind ?_ (fun _ => ?_)
set_option maxHeartbeats 8000000 in
set_option maxRecDepth 100000 in
theorem fasciclelaw11_Refs.calls (k : Nat) (A0 : Option Addr) (c0 : Nat) (l0 : List (S33)) (r : List (S135)) (w : World) (hr0 : Kd.C k33 w A0 l0.length l0) (hc0 : l0.length ≤ c0) (h : fasciclelaw11_Refs.f k l0 = some r) :
  Calls Try.prog 96 #[.slice A0 l0.length c0] w fun e w' => ∃ v0_ : Value, e = .returned (v0_) ∧ Kd.R k135 135 w' w.heap.size (fun _ => True) v0_ r ∧ Below w.heap.size w w' := by
 have hu33 := Try.underlying33
 have HR0 := Aside0.mk hr0
 have HC0 := Aside0.mk hc0
 clear hr0 hc0
 have HB := Aside0.mk (Below.refl w.heap.size w)
 have H : (fasciclelaw11_Refs.l0 k ([] : List (S135)) l0 (l0.length : Int) 0) = some r := h
 clear h
 have H' := Aside0.mk H
 clear H
 go_enter Try.func96, Try.ntmps96
 go_wp2
 go_loopg [3, 8] k (fun kq v3 v8 w' => ∃ (x3_1 : List (S135)) (x8_1 : Int), v8 = .int .i64 x8_1 ∧ Aside0 (fasciclelaw11_Refs.l0 kq x3_1 l0 (l0.length : Int) x8_1 = some r) ∧ Aside0 (kq ≤ k) ∧ Aside0 (Kd.R k135 135 w' w.heap.size (fun _ => True) v3 x3_1) ∧ Aside0 (Below w.heap.size w w'))
 case atStart => exact ⟨(([] : List (S135))), (0), (by first | rfl | (simp; done) | (simp [*]; done) | (simp; exact (fun l : List UInt8 => (by cases l <;> rfl : l.isEmpty = !(l != ([] : List UInt8)))) _)), H', ⟨Nat.le_refl _⟩, ⟨by first | exact Kd.R_nil _ _ _ _ _ | exact Kd.N_nil _ _ _ _ _ | exact Kd.V_nil _ _ _ _ _ | exact Kd.Q_nil _ _ _ _ _ | exact Kd.S_nil _ _ _ _ _⟩, ⟨by repeat (first | (with_reducible first | exact HB.out | apply below_alloc | apply pw_below_drewN | apply below_drew1) | exact HB.out)⟩⟩
 case round =>
  clear H'
  obtain ⟨x3_1, x8_1, rfl, HA, HK1, HO_3, HB⟩ := hrel
  cases gk with
  | zero => exact absurd HA.out (by simp [fasciclelaw11_Refs.l0])
  | succ k1 =>
   have H := HA.out
   clear HA
   simp only [fasciclelaw11_Refs.l0] at H
   by_cases c2 : x8_1 < (l0.length : Int)
   ·
    rw [if_pos c2] at H
    have c2b0 : decide (x8_1 < (l0.length : Int)) = true := decide_eq_true c2
    clear c2
    by_cases c3 : 0 ≤ x8_1
    ·
     rw [if_pos c3] at H
     have c3b0 : decide (0 ≤ x8_1) = true := decide_eq_true c3
     clear c3
     by_cases c4 : x8_1 < (l0.length : Int)
     ·
      rw [if_pos c4] at H
      have c4b0 : decide (x8_1 < (l0.length : Int)) = true := decide_eq_true c4
      clear c4
      by_cases c5 : x3_1.length < 8796093022208
      ·
       rw [if_pos c5] at H
       have LMc5 := Aside0.mk c5
       clear c5
       obtain ⟨y187, hy187⟩ : ∃ y_ : List (S135), y_ = (x3_1 ++ [(⟨(rd_T33 l0 x8_1).f0, (rd_T33 l0 x8_1).f1⟩ : S135)]) := ⟨_, rfl⟩
       replace H : (fasciclelaw11_Refs.l0 k1 y187 l0 (l0.length : Int) (wrap64 (x8_1 + 1))) = some r := by first | (rw [hy187]; with_reducible exact H) | (have H2_ := (Option.bind_some _ _).symm.trans H; rw [hy187]; with_reducible exact H2_) | (have H2_ := (Option.bind_some _ _).symm.trans H; with_reducible exact H2_) | with_reducible exact H | (rw [hy187]; exact H) | exact H
       have Ny187 := Aside0.mk hy187
       clear hy187
       have H' := Aside0.mk H
       clear H
       have p185 : 0 ≤ (x8_1 : Int) := of_decide_eq_true (by first | (with_reducible assumption) | assumption)
       have q185 : x8_1 < (l0.length : Int) := of_decide_eq_true (by first | (with_reducible assumption) | assumption)
       obtain ⟨ad185, e185, hx185_0, hx185_1⟩ := at_T33 HR0.out x8_1 p185 q185
       cases e185
       replace hx185_0 := (HB.out.cell (World.block_lt_of_cell? w _ hx185_0)).trans hx185_0
       replace hx185_1 := (HB.out.cell (World.block_lt_of_cell? w _ hx185_1)).trans hx185_1
       replace p185 := eq_true p185
       replace q185 := eq_true q185
       go_wp2_with (first | ((with_reducible refine gate_dst (N := 5) rfl ?_); refine box_event ?hg (N := 5) ?hd (cs := #[.int .u64 0, .int .u32 0]) (t := 33) ?hr ?_; (case hd => rfl); (case hg => rfl); (case hr => first | (go_simp; done) | (go_simp; rfl)); intro gb186 hg w6 hbox hb; have n0_ := Aside0.mk (Kd.R_below (by (with_reducible repeat (first | apply Kd.R_alloc | apply Kd.R_drewN | apply Kd.R_drew)); exact HO_3.out) hb); have n1_ := Aside0.mk (below_step (by repeat with_reducible first | exact HB.out | apply below_alloc | apply pw_below_drewN | apply below_drew1) hb); have n2_ := Aside0.mk (hbox); have n3_ := Aside0.mk ((by rw [hg]; exact (below_size (by repeat with_reducible first | exact HB.out | apply below_alloc | apply pw_below_drewN | apply below_drew1)) : w.heap.size ≤ gb186)); have n4_ := Aside0.mk ((by rw [hg]; exact (below_size (by repeat with_reducible first | exact HB.out | apply below_alloc | apply pw_below_drewN | apply below_drew1)) : w.heap.size ≤ gb186)); clear HO_3; clear HB; have HO_3 := n0_; have HB := n1_; have BK186 := n2_; have GW186 := n3_; have GE186 := n4_; clear n0_ n1_ n2_ n3_ n4_; clear hb hbox hg; have hcz7_0 : w6.cell? ⟨gb186, 0, none⟩ = some (.int .u64 0) := (blk_cell BK186.out 0).trans rfl; have hcz7_1 : w6.cell? ⟨gb186, 1, none⟩ = some (.int .u32 0) := (blk_cell BK186.out 1).trans rfl; have hfz7_0 := blk_frozen BK186.out 0; have hfz7_1 := blk_frozen BK186.out 1) | ((with_reducible refine gate_builtin (b := .append) (xs := #[.tmp 12, .tmp 14]) rfl ?_); at_builtin; refine Kd.R_append k135 (w0 := w) w.heap.size rfl (.tmp 12) (.tmp 14) 72 135 (.agg #[(.int .u64 0), (.int .u32 0)]) 16 rfl Try.underlying72 info135 rfl (by decide) (by omega) u3 x3_1 (⟨(rd_T33 l0 x8_1).f0, (rd_T33 l0 x8_1).f1⟩ : S135) [.int .u64 ((rd_T33 l0 x8_1).f0), .int .u32 ((rd_T33 l0 x8_1).f1)] (fun _ => True) (fun _ => False) rfl (by first | (go_simp; done) | (go_simp; rfl)) ?aP (fun _ hk => hk.elim) ?aF ?aO ?aB ?aS ?aL ?_; (case aP => exact k135_mkM _ _ _ (⟨(rd_T33 l0 x8_1).f0, (rd_T33 l0 x8_1).f1⟩ : S135)); (case aB => exact (by repeat with_reducible first | exact HB.out | apply below_alloc | apply pw_below_drewN | apply below_drew1 | refine below_set ?_ GE186.out)); (case aF => exact (fun _ _ => trivial)); (case aO => exact (by (with_reducible repeat (first | apply Kd.R_alloc | apply Kd.R_drewN | apply Kd.R_drew)); exact Kd.R_mono (Kd.R_far (p := ⟨gb186, 1, none⟩) (Kd.R_far (p := ⟨gb186, 0, none⟩) (Kd.R_types HO_3.out BK186.out (by decide)) (fun _ hk => by first | exact hk.2 | exact hk) (.int .u64 ((rd_T33 l0 x8_1).f0))) (fun _ hk => by first | exact hk.2 | exact hk) (.int .u32 ((rd_T33 l0 x8_1).f1))) (fun _ hk => trivial))); (case aS => exact (below_size (by repeat with_reducible first | exact HB.out | apply below_alloc | apply pw_below_drewN | apply below_drew1 | refine below_set ?_ GE186.out))); (case aL => have := LMc5.out; omega); intro v188 w8 ho hb hg hat; rw [← Ny187.out] at ho; replace BK186 := Aside0.mk (blk_grown (g := gb186) (o := .cells #[.int .u64 ((rd_T33 l0 x8_1).f0), .int .u32 ((rd_T33 l0 x8_1).f1)] 33 (0, 0)) (by (with_reducible repeat (first | refine blk_drewN ?_ _ | refine blk_drew ?_ | refine blk_alloc ?_ _)); refine blk_put (cs := #[.int .u64 ((rd_T33 l0 x8_1).f0), .int .u32 0]) ?_ 1 _ rfl; refine blk_put (cs := #[.int .u64 0, .int .u32 0]) ?_ 0 _ rfl; (with_reducible repeat (first | refine blk_drewN ?_ _ | refine blk_drew ?_ | refine blk_alloc ?_ _)); exact BK186.out) hg (Kd.R_ne HO_3.out BK186.out (by decide))); replace HB := Aside0.mk (hb); have HO189 := Aside0.mk (ho); clear HO_3; clear ho hb hg hat))
       go_roundg k1
       case measure => have := HK1.out; omega
       case rel => exact ⟨(y187), (wrap64 (x8_1 + 1)), (by first | rfl | (simp; done) | (simp [*]; done) | (simp; exact (fun l : List UInt8 => (by cases l <;> rfl : l.isEmpty = !(l != ([] : List UInt8)))) _)), H', ⟨by have := HK1.out; omega⟩, ⟨by (with_reducible repeat (first | apply Kd.R_alloc | apply Kd.R_drewN | apply Kd.R_drew)); exact HO189.out⟩, ⟨by repeat (first | (with_reducible first | exact HB.out | apply below_alloc | apply pw_below_drewN | apply below_drew1 | refine below_set ?_ GE186.out) | exact HB.out)⟩⟩
      ·
       rw [if_neg c5] at H
       exact absurd H (by simp)
     ·
      rw [if_neg c4] at H
      exact absurd H (by simp)
    ·
     rw [if_neg c3] at H
     exact absurd H (by simp)
   ·
    rw [if_neg c2] at H
    have c2b0 : decide (x8_1 < (l0.length : Int)) = false := decide_eq_false c2
    clear c2
    obtain rfl := Option.some.inj H
    go_wp2
    go_ret
    exact ⟨_, by first | rfl | (simp [errW_none, errW_some] <;> rfl) | (simp [*, errW_none, errW_some] <;> rfl), by (with_reducible repeat (first | apply Kd.R_alloc | apply Kd.R_drewN | apply Kd.R_drew)); exact HO_3.out, by repeat (first | (with_reducible first | exact HB.out | apply below_alloc | apply pw_below_drewN | apply below_drew1) | exact HB.out)⟩
def fascicleref11_Text.l0 : Nat → ByteArray → List (S135) → Int → Int → Option (ByteArray)
 | 0, _, _, _, _ => none
 | k + 1, x3, x6, x7, x8 => if x8 < x7 then (if 0 ≤ x8 then (if x8 < (x6.length : Int) then ((fascicleref01_Num.f k ((rd_T135 x6 x8).f0) 8).bind fun t192 => (if x3.size + t192.size ≤ 9223372036854775807 then ((fascicleref01_Num.f k (IntKind.u64.wrap ((rd_T135 x6 x8).f1)) 4).bind fun t193 => (if (x3 ++ t192).size + t193.size ≤ 9223372036854775807 then (fascicleref11_Text.l0 k ((x3 ++ t192) ++ t193) x6 x7 (wrap64 (x8 + 1))) else (none))) else (none))) else (none)) else (none)) else (some x3)
def fascicleref11_Text.f (k : Nat) (l0 : List (S135)) : Option (ByteArray) := fascicleref11_Text.l0 k (⟨#[]⟩ : ByteArray) l0 (l0.length : Int) 0
theorem fascicleref11_Text.mono_l : ∀ k, (∀ y0 y1 y2 y3, LeO (fascicleref11_Text.l0 k y0 y1 y2 y3) (fascicleref11_Text.l0 (k + 1) y0 y1 y2 y3))
 | 0 => fun _ _ _ _ r h => by simp [fascicleref11_Text.l0] at h
 | k + 1 => by
  have ih0 := fascicleref11_Text.mono_l k
  ·
   intro y0 y1 y2 y3
   unfold fascicleref11_Text.l0
   repeat' first
   | (with_reducible exact ih0 _ _ _ _)
   | (with_reducible exact fascicleref01_Num.mono _ _ _)
   | (with_reducible exact LeO.refl _)
   | (with_reducible exact LeO.none _)
   | (with_reducible refine LeO.ite ?_ ?_)
   | (with_reducible refine LeO.bind ?_ (fun _ => ?_))
   | exact ih0 _ _ _ _
   | exact fascicleref01_Num.mono _ _ _
   | exact LeO.none _
   | refine LeO.ite ?_ ?_
   | refine LeO.bind ?_ (fun _ => ?_)
theorem fascicleref11_Text.mono : ∀ a0 k, LeO (fascicleref11_Text.f k a0) (fascicleref11_Text.f (k + 1) a0) := by
 intro a0 k
 have ih0 := fascicleref11_Text.mono_l k
 unfold fascicleref11_Text.f
 repeat' first
   | (with_reducible exact ih0 _ _ _ _)
   | (with_reducible exact fascicleref01_Num.mono _ _ _)
   | (with_reducible exact LeO.refl _)
   | (with_reducible exact LeO.none _)
   | (with_reducible refine LeO.ite ?_ ?_)
   | (with_reducible refine LeO.bind ?_ (fun _ => ?_))
   | exact ih0 _ _ _ _
   | exact fascicleref01_Num.mono _ _ _
   | exact LeO.none _
   | refine LeO.ite ?_ ?_
   | refine LeO.bind ?_ (fun _ => ?_)
def fascicleref11_Text.T5 : Bool × List (List Nat × List Nat) := (true, [([], []), ([], []), ([1], [1]), ([2], [2]), ([0, 3], [0, 3]), ([], []), ([5], [5]), ([6], [6]), ([7, 3], [7]), ([4, 8], [4, 8]), ([9, 8, 0, 1, 2, 3, 4, 5, 6, 7, 8, 9], [0, 9])])
def fascicleref11_Text.B5 : List Nat := [0, 0, 2, 6, 15, 0, 32, 96, 238, 511, 1023]
theorem fascicleref11_Text.tab5 : rtab .any (opsOf Try.f97 5) = fascicleref11_Text.T5 := by kernel_rfl
theorem fascicleref11_Text.bits5 : waitsOk fascicleref11_Text.T5.2 fascicleref11_Text.B5 = true := by kernel_rfl
set_option maxHeartbeats 8000000 in
set_option maxRecDepth 100000 in
theorem fascicleref11_Text.calls (k : Nat) (A0 : Option Addr) (c0 : Nat) (l0 : List (S135)) (r : ByteArray) (w : World) (hr0 : Kd.C k135 w A0 l0.length l0) (hc0 : l0.length ≤ c0) (h : fascicleref11_Text.f k l0 = some r) :
  Calls Try.prog 97 #[.slice A0 l0.length c0] w fun e w' => e = .returned (.string r) ∧ Below w.heap.size w w' := by
 have hu135 := Try.underlying135
 have HR0 := Aside0.mk hr0
 have HC0 := Aside0.mk hc0
 clear hr0 hc0
 have HB := Aside0.mk (Below.refl w.heap.size w)
 have H : (fascicleref11_Text.l0 k (⟨#[]⟩ : ByteArray) l0 (l0.length : Int) 0) = some r := h
 clear h
 have H' := Aside0.mk H
 clear H
 go_enter Try.func97, Try.ntmps97
 go_wp2
 go_loopg [3, 8] k (fun kq v3 v8 w' => ∃ (x3_1 : ByteArray) (x8_1 : Int), v3 = .string x3_1 ∧ v8 = .int .i64 x8_1 ∧ Aside0 (fascicleref11_Text.l0 kq x3_1 l0 (l0.length : Int) x8_1 = some r) ∧ Aside0 (kq ≤ k) ∧ Aside0 (Below w.heap.size w w'))
 case atStart => exact ⟨((⟨#[]⟩ : ByteArray)), (0), (by first | rfl | (simp; done) | (simp [*]; done) | (simp; exact (fun l : List UInt8 => (by cases l <;> rfl : l.isEmpty = !(l != ([] : List UInt8)))) _)), (by first | rfl | (simp; done) | (simp [*]; done) | (simp; exact (fun l : List UInt8 => (by cases l <;> rfl : l.isEmpty = !(l != ([] : List UInt8)))) _)), H', ⟨Nat.le_refl _⟩, ⟨by repeat (first | (with_reducible first | exact HB.out | apply below_alloc | apply pw_below_drewN | apply below_drew1) | exact HB.out)⟩⟩
 case round =>
  clear H'
  obtain ⟨x3_1, x8_1, rfl, rfl, HA, HK1, HB⟩ := hrel
  cases gk with
  | zero => exact absurd HA.out (by simp [fascicleref11_Text.l0])
  | succ k1 =>
   have H := HA.out
   clear HA
   simp only [fascicleref11_Text.l0] at H
   by_cases c2 : x8_1 < (l0.length : Int)
   ·
    rw [if_pos c2] at H
    have c2b0 : decide (x8_1 < (l0.length : Int)) = true := decide_eq_true c2
    clear c2
    by_cases c3 : 0 ≤ x8_1
    ·
     rw [if_pos c3] at H
     have c3b0 : decide (0 ≤ x8_1) = true := decide_eq_true c3
     clear c3
     by_cases c4 : x8_1 < (l0.length : Int)
     ·
      rw [if_pos c4] at H
      have c4b0 : decide (x8_1 < (l0.length : Int)) = true := decide_eq_true c4
      clear c4
      replace H := Option.bind_eq_some_iff.mp H
      obtain ⟨t192, A50, H⟩ := H
      replace H : (if x3_1.size + t192.size ≤ 9223372036854775807 then ((fascicleref01_Num.f k1 (IntKind.u64.wrap ((rd_T135 l0 x8_1).f1)) 4).bind fun t193 => (if (x3_1 ++ t192).size + t193.size ≤ 9223372036854775807 then (fascicleref11_Text.l0 k1 ((x3_1 ++ t192) ++ t193) l0 (l0.length : Int) (wrap64 (x8_1 + 1))) else (none))) else (none)) = some r := H
      have A5 := Aside0.mk A50
      clear A50
      by_cases c6 : x3_1.size + t192.size ≤ 9223372036854775807
      ·
       rw [if_pos c6] at H
       have c6b0 := eq_true c6
       have c6b1 : decide (x3_1.size + t192.size ≤ 9223372036854775807) = true := decide_eq_true c6
       try have c6b2 : (9223372036854775807 < x3_1.size + t192.size) = False := eq_false (Nat.not_lt.2 c6)
       try (have c6b4 := Nat.not_lt.2 c6; simp [ByteArray.size_append, -Nat.not_lt] at c6b4; (try simp only [show ∀ x : UInt8, (⟨#[x]⟩ : ByteArray).size = 1 from fun _ => rfl, show ∀ x y : UInt8, (⟨#[x, y]⟩ : ByteArray).size = 2 from fun _ _ => rfl] at c6b4); have c6b5 := eq_false c6b4)
       replace H := Option.bind_eq_some_iff.mp H
       obtain ⟨t193, A70, H⟩ := H
       replace H : (if (x3_1 ++ t192).size + t193.size ≤ 9223372036854775807 then (fascicleref11_Text.l0 k1 ((x3_1 ++ t192) ++ t193) l0 (l0.length : Int) (wrap64 (x8_1 + 1))) else (none)) = some r := H
       have A7 := Aside0.mk A70
       clear A70
       by_cases c8 : (x3_1 ++ t192).size + t193.size ≤ 9223372036854775807
       ·
        rw [if_pos c8] at H
        have c8b0 := eq_true c8
        have c8b1 : decide ((x3_1 ++ t192).size + t193.size ≤ 9223372036854775807) = true := decide_eq_true c8
        try have c8b2 : (9223372036854775807 < (x3_1 ++ t192).size + t193.size) = False := eq_false (Nat.not_lt.2 c8)
        try (have c8b4 := Nat.not_lt.2 c8; simp [ByteArray.size_append, -Nat.not_lt] at c8b4; (try simp only [show ∀ x : UInt8, (⟨#[x]⟩ : ByteArray).size = 1 from fun _ => rfl, show ∀ x y : UInt8, (⟨#[x, y]⟩ : ByteArray).size = 2 from fun _ _ => rfl] at c8b4); have c8b5 := eq_false c8b4)
        have H' := Aside0.mk H
        clear H
        have p190 : 0 ≤ (x8_1 : Int) := of_decide_eq_true (by first | (with_reducible assumption) | assumption)
        have q190 : x8_1 < (l0.length : Int) := of_decide_eq_true (by first | (with_reducible assumption) | assumption)
        obtain ⟨ad190, e190, hx190_0, hx190_1⟩ := at_T135 HR0.out x8_1 p190 q190
        cases e190
        replace hx190_0 := (HB.out.cell (World.block_lt_of_cell? w _ hx190_0)).trans hx190_0
        replace hx190_1 := (HB.out.cell (World.block_lt_of_cell? w _ hx190_1)).trans hx190_1
        replace p190 := eq_true p190
        replace q190 := eq_true q190
        try go_wp2_with (first | ((with_reducible refine gate_dst (N := 5) rfl ?_); refine box_event ?hg (N := 5) ?hd (cs := #[.int .u64 0, .int .u32 0]) (t := 135) ?hr ?_; (case hd => rfl); (case hg => rfl); (case hr => first | (go_simp; done) | (go_simp; rfl)); intro gb191 hg w9 hbox hb; have n0_ := Aside0.mk (below_step (by repeat with_reducible first | exact HB.out | apply below_alloc | apply pw_below_drewN | apply below_drew1) hb); have n1_ := Aside0.mk (hbox); have n2_ := Aside0.mk ((by rw [hg]; exact (below_size (by repeat with_reducible first | exact HB.out | apply below_alloc | apply pw_below_drewN | apply below_drew1)) : w.heap.size ≤ gb191)); have n3_ := Aside0.mk ((by rw [hg]; exact (below_size (by repeat with_reducible first | exact HB.out | apply below_alloc | apply pw_below_drewN | apply below_drew1)) : w.heap.size ≤ gb191)); clear HB; have HB := n0_; have BK191 := n1_; have GW191 := n2_; have GE191 := n3_; clear n0_ n1_ n2_ n3_; clear hb hbox hg; have hcz10_0 : w9.cell? ⟨gb191, 0, none⟩ = some (.int .u64 0) := (blk_cell BK191.out 0).trans rfl; have hcz10_1 : w9.cell? ⟨gb191, 1, none⟩ = some (.int .u32 0) := (blk_cell BK191.out 1).trans rfl; have hfz10_0 := blk_frozen BK191.out 0; have hfz10_1 := blk_frozen BK191.out 1))
        have n0_ : Aside0 (((w9.setCell ⟨gb191, 0, none⟩ (.int .u64 ((rd_T135 l0 x8_1).f0))).setCell ⟨gb191, 1, none⟩ (.int .u32 ((rd_T135 l0 x8_1).f1))).heap[gb191]? = some (.cells #[.int .u64 ((rd_T135 l0 x8_1).f0), .int .u32 ((rd_T135 l0 x8_1).f1)] 135 (0, 0))) := ⟨by (with_reducible repeat (first | refine blk_drewN ?_ _ | refine blk_drew ?_ | refine blk_alloc ?_ _)); refine blk_put (cs := #[.int .u64 ((rd_T135 l0 x8_1).f0), .int .u32 0]) ?_ 1 _ rfl; refine blk_put (cs := #[.int .u64 0, .int .u32 0]) ?_ 0 _ rfl; (with_reducible repeat (first | refine blk_drewN ?_ _ | refine blk_drew ?_ | refine blk_alloc ?_ _)); exact BK191.out⟩
        have n1_ : Aside0 (Below w.heap.size w ((w9.setCell ⟨gb191, 0, none⟩ (.int .u64 ((rd_T135 l0 x8_1).f0))).setCell ⟨gb191, 1, none⟩ (.int .u32 ((rd_T135 l0 x8_1).f1)))) := ⟨by repeat (first | (with_reducible first | exact HB.out | apply below_alloc | apply pw_below_drewN | apply below_drew1 | refine below_set ?_ GE191.out) | exact HB.out)⟩
        (try clear BK191)
        (try clear HB)
        generalize ((w9.setCell ⟨gb191, 0, none⟩ (.int .u64 ((rd_T135 l0 x8_1).f0))).setCell ⟨gb191, 1, none⟩ (.int .u32 ((rd_T135 l0 x8_1).f1))) = w11 at n0_ n1_ ⊢
        have BK191 := n0_
        have HB := n1_
        clear n0_ n1_
        have n0_ := Aside0.mk (blk_drew BK191.out)
        have n1_ := Aside0.mk (below_drew1 HB.out)
        clear BK191
        clear HB
        have BK191 := n0_
        have HB := n1_
        clear n0_ n1_
        refine start_ (n := 11) (S := fun w' => w'.cell? ⟨gb191, 0, none⟩ = some (.int .u64 ((rd_T135 l0 x8_1).f0)) ∧ w'.cell? ⟨gb191, 1, none⟩ = some (.int .u32 ((rd_T135 l0 x8_1).f1))) (ds := []) #[false, false, false, false, false, false, false, false, false, false, false] (by kernel_rfl) rfl rfl ⟨(blk_cell BK191.out 0).trans rfl, (blk_cell BK191.out 1).trans rfl⟩ (fun hHeld => ?_); refine with_tabW fascicleref11_Text.tab5 fascicleref11_Text.bits5 (fun HT_ HW_ => ?_)
        generalize w11.drew = w12 at BK191 HB hHeld ⊢
        refine pure_ (i := 0) (N := some 12) (v := ?_) (a' := ?_) #[true, false, false, false, false, false, false, false, false, false, false] rfl rfl (any_of HT_.out (by kernel_rfl)) (fun _ _ _ h => h) (Or.inl ⟨by rfl, ?_⟩) ?_ ?_
        rotate_left
        ·
         intro w'
         go_simp
         with_reducible rfl
        rotate_left
        ·
         simp only [Act.put, List.setIfInBounds_toArray, List.set_cons_zero, List.set_cons_succ, i64_w, i32_w]
         rfl
        refine pure_ (i := 1) (N := some 13) (v := ?_) (a' := ?_) #[true, true, false, false, false, false, false, false, false, false, false] rfl rfl (any_of HT_.out (by kernel_rfl)) (fun _ _ _ h => h) (Or.inl ⟨by rfl, ?_⟩) ?_ ?_
        rotate_left
        ·
         intro w'
         go_simp
         with_reducible rfl
        rotate_left
        ·
         simp only [Act.put, List.setIfInBounds_toArray, List.set_cons_zero, List.set_cons_succ, i64_w, i32_w]
         rfl
        refine pure_ (i := 5) (N := some 17) (v := ?_) (a' := ?_) #[true, true, false, false, false, true, false, false, false, false, false] rfl rfl (any_of HT_.out (by kernel_rfl)) (fun _ _ _ h => h) (Or.inl ⟨by rfl, ?_⟩) ?_ ?_
        rotate_left
        ·
         intro w'
         go_simp
         with_reducible rfl
        rotate_left
        ·
         simp only [Act.put, List.setIfInBounds_toArray, List.set_cons_zero, List.set_cons_succ, i64_w, i32_w]
         rfl
        refine take_ (i := 2) (N := some 14) (v := ?_) (a' := ?_) #[true, true, true, false, false, true, false, false, false, false, false] rfl rfl (take_ofW HT_.out HW_.out (by kernel_rfl)) (fun _ _ _ h => h) (Or.inl ⟨by rfl, ?_⟩) hHeld ?_ ?_
        rotate_left
        ·
         rintro w' ⟨s0, s1⟩
         go_simp
         with_reducible rfl
        rotate_left
        ·
         simp only [Act.put, List.setIfInBounds_toArray, List.set_cons_zero, List.set_cons_succ, i64_w, i32_w]
         rfl
        refine take_ (i := 6) (N := some 18) (v := ?_) (a' := ?_) #[true, true, true, false, false, true, true, false, false, false, false] rfl rfl (take_ofW HT_.out HW_.out (by kernel_rfl)) (fun _ _ _ h => h) (Or.inl ⟨by rfl, ?_⟩) hHeld ?_ ?_
        rotate_left
        ·
         rintro w' ⟨s0, s1⟩
         go_simp
         with_reducible rfl
        rotate_left
        ·
         simp only [Act.put, List.setIfInBounds_toArray, List.set_cons_zero, List.set_cons_succ, i64_w, i32_w]
         rfl
        refine pure_ (i := 7) (N := some 19) (v := ?_) (a' := ?_) #[true, true, true, false, false, true, true, true, false, false, false] rfl rfl (any_of HT_.out (by kernel_rfl)) (fun _ _ _ h => h) (Or.inl ⟨by rfl, ?_⟩) ?_ ?_
        rotate_left
        ·
         intro w'
         go_simp
         with_reducible rfl
        rotate_left
        ·
         simp only [Act.put, List.setIfInBounds_toArray, List.set_cons_zero, List.set_cons_succ, i64_w, i32_w]
         rfl
        refine one_ (i := 3) (N := some 15) #[true, true, true, true, false, true, true, true, false, false, false] rfl rfl (one_of HT_.out (by kernel_rfl)) (by decide) (fun K hK => ?_)
        refine goes_ Try.func63 (by kernel_rfl) rfl #[.int .u64 ((rd_T135 l0 x8_1).f0), .int .i64 8] (by rfl) rfl rfl (by (try simp only [List.map_toArray, List.map_cons, List.map_nil]); first | done | rfl) ?_
        with_reducible refine (fascicleref01_Num.calls k1 ((rd_T135 l0 x8_1).f0) 8 t192 _ A5.out).mono ?_
        rintro e w13 ⟨rfl, hb⟩
        refine ⟨_, rfl, ?_⟩
        have n0_ := Aside0.mk (blk_below (g := gb191) (o := .cells #[.int .u64 ((rd_T135 l0 x8_1).f0), .int .u32 ((rd_T135 l0 x8_1).f1)] 135 (0, 0)) (by (with_reducible repeat (first | refine blk_drewN ?_ _ | refine blk_drew ?_ | refine blk_alloc ?_ _)); exact BK191.out) hb)
        have n1_ := Aside0.mk (below_step (by repeat with_reducible first | exact HB.out | apply below_alloc | apply pw_below_drewN | apply below_drew1 | refine below_set ?_ GE191.out) hb)
        clear BK191
        clear HB
        have BK191 := n0_
        have HB := n1_
        clear n0_ n1_
        (try clear hb)
        (try clear hb2)
        (try clear hk)
        (try clear hi)
        refine hK.out _ _ ⟨(blk_cell BK191.out 0).trans rfl, (blk_cell BK191.out 1).trans rfl⟩ (fun hHeld => ?_)
        clear hK K
        refine norm_ (a' := ?_) ?_ ?_
        rotate_left
        ·
         show Act.put _ (some 15) _ = _
         simp only [Act.put, List.setIfInBounds_toArray, List.set_cons_zero, List.set_cons_succ, i64_w, i32_w]
         rfl
        refine pure_ (i := 4) (N := some 16) (v := ?_) (a' := ?_) #[true, true, true, true, true, true, true, true, false, false, false] rfl rfl (any_of HT_.out (by kernel_rfl)) (fun _ _ _ h => h) (Or.inl ⟨by rfl, ?_⟩) ?_ ?_
        rotate_left
        ·
         intro w'
         go_simp
         with_reducible rfl
        rotate_left
        ·
         simp only [Act.put, List.setIfInBounds_toArray, List.set_cons_zero, List.set_cons_succ, i64_w, i32_w]
         rfl
        refine one_ (i := 8) (N := some 20) #[true, true, true, true, true, true, true, true, true, false, false] rfl rfl (one_of HT_.out (by kernel_rfl)) (by decide) (fun K hK => ?_)
        refine goes_ Try.func63 (by kernel_rfl) rfl #[.int .u64 (IntKind.u64.wrap ((rd_T135 l0 x8_1).f1)), .int .i64 4] (by rfl) rfl rfl (by (try simp only [List.map_toArray, List.map_cons, List.map_nil]); first | done | rfl) ?_
        with_reducible refine (fascicleref01_Num.calls k1 (IntKind.u64.wrap ((rd_T135 l0 x8_1).f1)) 4 t193 _ A7.out).mono ?_
        rintro e w14 ⟨rfl, hb⟩
        refine ⟨_, rfl, ?_⟩
        have n0_ := Aside0.mk (blk_below (g := gb191) (o := .cells #[.int .u64 ((rd_T135 l0 x8_1).f0), .int .u32 ((rd_T135 l0 x8_1).f1)] 135 (0, 0)) (by (with_reducible repeat (first | refine blk_drewN ?_ _ | refine blk_drew ?_ | refine blk_alloc ?_ _)); exact BK191.out) hb)
        have n1_ := Aside0.mk (below_step (by repeat with_reducible first | exact HB.out | apply below_alloc | apply pw_below_drewN | apply below_drew1 | refine below_set ?_ GE191.out) hb)
        clear BK191
        clear HB
        have BK191 := n0_
        have HB := n1_
        clear n0_ n1_
        (try clear hb)
        (try clear hb2)
        (try clear hk)
        (try clear hi)
        refine hK.out _ _ ⟨(blk_cell BK191.out 0).trans rfl, (blk_cell BK191.out 1).trans rfl⟩ (fun hHeld => ?_)
        clear hK K
        refine norm_ (a' := ?_) ?_ ?_
        rotate_left
        ·
         show Act.put _ (some 20) _ = _
         simp only [Act.put, List.setIfInBounds_toArray, List.set_cons_zero, List.set_cons_succ, i64_w, i32_w]
         rfl
        refine pure_ (i := 9) (N := some 21) (v := ?_) (a' := ?_) #[true, true, true, true, true, true, true, true, true, true, false] rfl rfl (any_of HT_.out (by kernel_rfl)) (fun _ _ _ h => h) (Or.inl ⟨by rfl, ?_⟩) ?_ ?_
        rotate_left
        ·
         intro w'
         go_simp
         with_reducible rfl
        rotate_left
        ·
         simp only [Act.put, List.setIfInBounds_toArray, List.set_cons_zero, List.set_cons_succ, i64_w, i32_w]
         rfl
        refine pure_ (i := 10) (N := some 3) (v := ?_) (a' := ?_) #[true, true, true, true, true, true, true, true, true, true, true] rfl rfl (any_of HT_.out (by kernel_rfl)) (fun _ _ _ h => h) (Or.inl ⟨by rfl, ?_⟩) ?_ ?_
        rotate_left
        ·
         intro w'
         go_simp
         with_reducible rfl
        rotate_left
        ·
         simp only [Act.put, List.setIfInBounds_toArray, List.set_cons_zero, List.set_cons_succ, i64_w, i32_w]
         rfl
        refine done_ (done_of HT_.out (by kernel_rfl)) ?_
        try go_wp2
        go_roundg k1
        case measure => have := HK1.out; omega
        case rel => exact ⟨((x3_1 ++ t192) ++ t193), (wrap64 (x8_1 + 1)), (by first | rfl | (simp; done) | (simp [*]; done) | (simp; exact (fun l : List UInt8 => (by cases l <;> rfl : l.isEmpty = !(l != ([] : List UInt8)))) _)), (by first | rfl | (simp; done) | (simp [*]; done) | (simp; exact (fun l : List UInt8 => (by cases l <;> rfl : l.isEmpty = !(l != ([] : List UInt8)))) _)), H', ⟨by have := HK1.out; omega⟩, ⟨by repeat (first | (with_reducible first | exact HB.out | apply below_alloc | apply pw_below_drewN | apply below_drew1 | refine below_set ?_ GE191.out) | exact HB.out)⟩⟩
       ·
        rw [if_neg c8] at H
        exact absurd H (by simp)
      ·
       rw [if_neg c6] at H
       exact absurd H (by simp)
     ·
      rw [if_neg c4] at H
      exact absurd H (by simp)
    ·
     rw [if_neg c3] at H
     exact absurd H (by simp)
   ·
    rw [if_neg c2] at H
    have c2b0 : decide (x8_1 < (l0.length : Int)) = false := decide_eq_false c2
    clear c2
    obtain rfl := Option.some.inj H
    go_wp2
    go_ret
    exact ⟨by first | rfl | (simp [errW_none, errW_some] <;> rfl) | (simp [*, errW_none, errW_some] <;> rfl), by repeat (first | (with_reducible first | exact HB.out | apply below_alloc | apply pw_below_drewN | apply below_drew1) | exact HB.out)⟩
def fascicleref09_Seal.f (k : Nat) (a0 : ByteArray) : Option (ByteArray) := (fascicleref04_Sum.f k 0 a0).bind fun t194 => ((fascicleref01_Num.f k t194 8).bind fun t195 => (if a0.size + t195.size ≤ 9223372036854775807 then ((fascicleref05_Stuff.f k (a0 ++ t195)).bind fun t196 => (if t196.size + 1 ≤ 9223372036854775807 then (some (t196 ++ (⟨#[0]⟩ : ByteArray))) else (none))) else (none)))
theorem fascicleref09_Seal.mono : ∀ a0 k, LeO (fascicleref09_Seal.f k a0) (fascicleref09_Seal.f (k + 1) a0) := by
 intro a0 k
 unfold fascicleref09_Seal.f
 repeat' first
   | (with_reducible exact fascicleref01_Num.mono _ _ _)
   | (with_reducible exact fascicleref04_Sum.mono _ _ _)
   | (with_reducible exact fascicleref05_Stuff.mono _ _)
   | (with_reducible exact LeO.refl _)
   | (with_reducible exact LeO.none _)
   | (with_reducible refine LeO.ite ?_ ?_)
   | (with_reducible refine LeO.bind ?_ (fun _ => ?_))
   | exact fascicleref01_Num.mono _ _ _
   | exact fascicleref04_Sum.mono _ _ _
   | exact fascicleref05_Stuff.mono _ _
   | exact LeO.none _
   | refine LeO.ite ?_ ?_
   | refine LeO.bind ?_ (fun _ => ?_)
set_option maxHeartbeats 8000000 in
set_option maxRecDepth 100000 in
theorem fascicleref09_Seal.calls (k : Nat) (a0 : ByteArray) (r : ByteArray) (w : World) (h : fascicleref09_Seal.f k a0 = some r) :
  Calls Try.prog 22 #[.string a0] w fun e w' => e = .returned (.string r) ∧ Below w.heap.size w w' := by
 have HB := Aside0.mk (Below.refl w.heap.size w)
 have H : ((fascicleref04_Sum.f k 0 a0).bind fun t194 => ((fascicleref01_Num.f k t194 8).bind fun t195 => (if a0.size + t195.size ≤ 9223372036854775807 then ((fascicleref05_Stuff.f k (a0 ++ t195)).bind fun t196 => (if t196.size + 1 ≤ 9223372036854775807 then (some (t196 ++ (⟨#[0]⟩ : ByteArray))) else (none))) else (none)))) = some r := h
 clear h
 replace H := Option.bind_eq_some_iff.mp H
 obtain ⟨t194, A20, H⟩ := H
 replace H : ((fascicleref01_Num.f k t194 8).bind fun t195 => (if a0.size + t195.size ≤ 9223372036854775807 then ((fascicleref05_Stuff.f k (a0 ++ t195)).bind fun t196 => (if t196.size + 1 ≤ 9223372036854775807 then (some (t196 ++ (⟨#[0]⟩ : ByteArray))) else (none))) else (none))) = some r := H
 have A2 := Aside0.mk A20
 clear A20
 replace H := Option.bind_eq_some_iff.mp H
 obtain ⟨t195, A30, H⟩ := H
 replace H : (if a0.size + t195.size ≤ 9223372036854775807 then ((fascicleref05_Stuff.f k (a0 ++ t195)).bind fun t196 => (if t196.size + 1 ≤ 9223372036854775807 then (some (t196 ++ (⟨#[0]⟩ : ByteArray))) else (none))) else (none)) = some r := H
 have A3 := Aside0.mk A30
 clear A30
 by_cases c4 : a0.size + t195.size ≤ 9223372036854775807
 ·
  rw [if_pos c4] at H
  have c4b0 := eq_true c4
  have c4b1 : decide (a0.size + t195.size ≤ 9223372036854775807) = true := decide_eq_true c4
  try have c4b2 : (9223372036854775807 < a0.size + t195.size) = False := eq_false (Nat.not_lt.2 c4)
  try (have c4b4 := Nat.not_lt.2 c4; simp [ByteArray.size_append, -Nat.not_lt] at c4b4; (try simp only [show ∀ x : UInt8, (⟨#[x]⟩ : ByteArray).size = 1 from fun _ => rfl, show ∀ x y : UInt8, (⟨#[x, y]⟩ : ByteArray).size = 2 from fun _ _ => rfl] at c4b4); have c4b5 := eq_false c4b4)
  replace H := Option.bind_eq_some_iff.mp H
  obtain ⟨t196, A50, H⟩ := H
  replace H : (if t196.size + 1 ≤ 9223372036854775807 then (some (t196 ++ (⟨#[0]⟩ : ByteArray))) else (none)) = some r := H
  have A5 := Aside0.mk A50
  clear A50
  by_cases c6 : t196.size + 1 ≤ 9223372036854775807
  ·
   rw [if_pos c6] at H
   have c6b0 := eq_true c6
   have c6b1 : decide (t196.size + 1 ≤ 9223372036854775807) = true := decide_eq_true c6
   try have c6b2 : (9223372036854775807 < t196.size + 1) = False := eq_false (Nat.not_lt.2 c6)
   try (have c6b4 := Nat.not_lt.2 c6; simp [ByteArray.size_append, -Nat.not_lt] at c6b4; (try simp only [show ∀ x : UInt8, (⟨#[x]⟩ : ByteArray).size = 1 from fun _ => rfl, show ∀ x y : UInt8, (⟨#[x, y]⟩ : ByteArray).size = 2 from fun _ _ => rfl] at c6b4); have c6b5 := eq_false c6b4)
   obtain rfl := Option.some.inj H
   go_enter Try.func22, Try.ntmps22
   go_wp2_with (first | ((with_reducible refine gate_callee (f := 57) rfl ?_); refine goesL_ (some 5) rfl rfl Try.func57 (by kernel_rfl) rfl #[.int .u64 0, .string a0] rfl (by (try simp only [List.map_toArray, List.map_cons, List.map_nil]); first | done | rfl) ?_; (with_reducible refine (fascicleref04_Sum.calls k 0 a0 t194 _ A2.out).mono ?_); rintro e w7 ⟨rfl, hb⟩; refine ⟨_, rfl, ?_⟩; replace HB := Aside0.mk (below_step (by repeat with_reducible first | exact HB.out | apply below_alloc | apply pw_below_drewN | apply below_drew1) hb); (try clear hb)) | ((with_reducible refine gate_callee (f := 63) rfl ?_); refine goesL_ (some 6) rfl rfl Try.func63 (by kernel_rfl) rfl #[.int .u64 t194, .int .i64 8] rfl (by (try simp only [List.map_toArray, List.map_cons, List.map_nil]); first | done | rfl) ?_; (with_reducible refine (fascicleref01_Num.calls k t194 8 t195 _ A3.out).mono ?_); rintro e w8 ⟨rfl, hb⟩; refine ⟨_, rfl, ?_⟩; replace HB := Aside0.mk (below_step (by repeat with_reducible first | exact HB.out | apply below_alloc | apply pw_below_drewN | apply below_drew1) hb); (try clear hb)) | ((with_reducible refine gate_callee (f := 62) rfl ?_); refine goesL_ (some 8) rfl rfl Try.func62 (by kernel_rfl) rfl #[.string (a0 ++ t195)] rfl (by (try simp only [List.map_toArray, List.map_cons, List.map_nil]); first | done | rfl) ?_; (with_reducible refine (fascicleref05_Stuff.calls k (a0 ++ t195) t196 _ A5.out).mono ?_); rintro e w9 ⟨rfl, hb⟩; refine ⟨_, rfl, ?_⟩; replace HB := Aside0.mk (below_step (by repeat with_reducible first | exact HB.out | apply below_alloc | apply pw_below_drewN | apply below_drew1) hb); (try clear hb)))
   go_ret
   exact ⟨by first | rfl | (simp [errW_none, errW_some] <;> rfl) | (simp [*, errW_none, errW_some] <;> rfl), by repeat (first | (with_reducible first | exact HB.out | apply below_alloc | apply pw_below_drewN | apply below_drew1) | exact HB.out)⟩
  ·
   rw [if_neg c6] at H
   exact absurd H (by simp)
 ·
  rw [if_neg c4] at H
  exact absurd H (by simp)
def footer_Most.f (a0 : Int) : Option (Int) := (fence_Count.f (mx 0 a0)).bind fun t197 => ((frame_Size.f (wrap64 ((wrap64 (9 + (wrap64 (12 * (mx 0 a0))))) + (wrap64 (8 * t197))))).bind fun t198 => (some t198))
set_option maxHeartbeats 8000000 in
set_option maxRecDepth 100000 in
theorem footer_Most.calls (a0 : Int) (r : Int) (w : World) (h : footer_Most.f a0 = some r) :
  Calls Try.prog 14 #[.int .i64 a0] w fun e w' => e = .returned (.int .i64 r) ∧ Below w.heap.size w w' := by
 have HB := Aside0.mk (Below.refl w.heap.size w)
 have H : ((fence_Count.f (mx 0 a0)).bind fun t197 => ((frame_Size.f (wrap64 ((wrap64 (9 + (wrap64 (12 * (mx 0 a0))))) + (wrap64 (8 * t197))))).bind fun t198 => (some t198))) = some r := h
 clear h
 obtain ⟨ji2, hji2⟩ : ∃ j_ : Int, (mx 0 a0) = j_ := ⟨_, rfl⟩
 replace H : ((fence_Count.f (ji2)).bind fun t197 => ((frame_Size.f (wrap64 ((wrap64 (9 + (wrap64 (12 * (ji2))))) + (wrap64 (8 * t197))))).bind fun t198 => (some t198))) = some r := by first | (rw [hji2] at H; exact H) | (simp only [hji2] at H ⊢; exact H)
 (try (have hji2l : 0 ≤ ji2 := by (rw [← hji2]; unfold mx; (repeat' split) <;> omega)))
 (try (have hji2m : 0 ≤ ji2 := by omega))
 have hji2_ : (if 0 < a0 then a0 else 0) = ji2 := hji2
 replace H := Option.bind_eq_some_iff.mp H
 obtain ⟨t197, A30, H⟩ := H
 replace H : ((frame_Size.f (wrap64 ((wrap64 (9 + (wrap64 (12 * (ji2))))) + (wrap64 (8 * t197))))).bind fun t198 => (some t198)) = some r := H
 have A3 := Aside0.mk A30
 clear A30
 replace H := Option.bind_eq_some_iff.mp H
 obtain ⟨t198, A40, H⟩ := H
 replace H : (some t198) = some r := H
 have A4 := Aside0.mk A40
 clear A40
 obtain rfl := Option.some.inj H
 go_enter Try.func14, Try.ntmps14
 go_wp2_with (first | ((with_reducible refine gate_callee (f := 43) rfl ?_); refine goesL_ (some 9) rfl rfl Try.func43 (by kernel_rfl) rfl #[.int .i64 ji2] rfl (by (try simp only [List.map_toArray, List.map_cons, List.map_nil]); first | done | (simp only [hji2]; rfl) | rfl | (simp only [List.length_drop, List.length_take]; rfl)) ?_; (with_reducible refine (fence_Count.calls ji2 t197 _ A3.out).mono ?_); rintro e w5 ⟨rfl, hb⟩; refine ⟨_, rfl, ?_⟩; replace HB := Aside0.mk (below_step (by repeat with_reducible first | exact HB.out | apply below_alloc | apply pw_below_drewN | apply below_drew1) hb); (try clear hb)) | ((with_reducible refine gate_callee (f := 23) rfl ?_); refine goesL_ (some 12) rfl rfl Try.func23 (by kernel_rfl) rfl #[.int .i64 (wrap64 ((wrap64 (9 + (wrap64 (12 * (ji2))))) + (wrap64 (8 * t197))))] rfl (by (try simp only [List.map_toArray, List.map_cons, List.map_nil]); first | done | (simp only [hji2]; rfl) | rfl | (simp only [List.length_drop, List.length_take]; rfl)) ?_; (with_reducible refine (frame_Size.calls (wrap64 ((wrap64 (9 + (wrap64 (12 * (ji2))))) + (wrap64 (8 * t197)))) t198 _ A4.out).mono ?_); rintro e w6 ⟨rfl, hb⟩; refine ⟨_, rfl, ?_⟩; replace HB := Aside0.mk (below_step (by repeat with_reducible first | exact HB.out | apply below_alloc | apply pw_below_drewN | apply below_drew1) hb); (try clear hb)))
 go_ret
 exact ⟨by first | rfl | (simp [errW_none, errW_some] <;> rfl) | (simp only [← hji2]; first | rfl | (simp [errW_none, errW_some] <;> rfl)) | (simp [*, errW_none, errW_some] <;> rfl), by repeat (first | (with_reducible first | exact HB.out | apply below_alloc | apply pw_below_drewN | apply below_drew1) | exact HB.out)⟩
def fasciclelaw13_lives.f  : Option (Bool) := (footer_Most.f 1).bind fun t199 => (some (t199 == 39))
set_option maxHeartbeats 8000000 in
set_option maxRecDepth 100000 in
theorem fasciclelaw13_lives.calls  (r : Bool) (w : World) (h : fasciclelaw13_lives.f  = some r) :
  Calls Try.prog 13 #[] w fun e w' => e = .returned (.bool r) ∧ Below w.heap.size w w' := by
 have HB := Aside0.mk (Below.refl w.heap.size w)
 have H : ((footer_Most.f 1).bind fun t199 => (some (t199 == 39))) = some r := h
 clear h
 replace H := Option.bind_eq_some_iff.mp H
 obtain ⟨t199, A10, H⟩ := H
 replace H : (some (t199 == 39)) = some r := H
 have A1 := Aside0.mk A10
 clear A10
 obtain rfl := Option.some.inj H
 go_enter Try.func13, Try.ntmps13
 go_wp2_with (first | ((with_reducible refine gate_callee (f := 14) rfl ?_); refine goesL_ (some 1) rfl rfl Try.func14 (by kernel_rfl) rfl #[.int .i64 1] rfl (by (try simp only [List.map_toArray, List.map_cons, List.map_nil]); first | done | rfl) ?_; (with_reducible refine (footer_Most.calls 1 t199 _ A1.out).mono ?_); rintro e w2 ⟨rfl, hb⟩; refine ⟨_, rfl, ?_⟩; replace HB := Aside0.mk (below_step (by repeat with_reducible first | exact HB.out | apply below_alloc | apply pw_below_drewN | apply below_drew1) hb); (try clear hb)))
 go_ret
 exact ⟨by first | rfl | (simp [errW_none, errW_some] <;> rfl) | (simp [*, errW_none, errW_some] <;> rfl), by repeat (first | (with_reducible first | exact HB.out | apply below_alloc | apply pw_below_drewN | apply below_drew1) | exact HB.out)⟩
end Go.Proofs.Ytekanmieppnpeaa.G
end
section
namespace Go.Proofs.Ytekanmieppnpeaa.G
open Go.RowKit Go.Proofs.YtekanmieppnpeaaW.PrintWords Go.Proofs.YtekanmieppnpeaaW.PrintLast Go.Proofs.YtekanmieppnpeaaW.PrintMore
attribute [local go_sem] max2_int min2_int max_two min_two max_three min_three max_four min_four   -- for this text's walks alone
def fasciclelaw13_same.f (k : Nat) (a0_0 : Int) (l0_1 : List (S33)) (a1_0 : Int) (l1_1 : List (S135)) : Option (Bool) := if a0_0 = a1_0 then ((fasciclelaw11_Same.f k l0_1 l1_1).bind fun t272 => (some t272)) else (some false)
theorem fasciclelaw13_same.mono : ∀ a0 a1 a2 a3 k, LeO (fasciclelaw13_same.f k a0 a1 a2 a3) (fasciclelaw13_same.f (k + 1) a0 a1 a2 a3) := by
 intro a0 a1 a2 a3 k
 unfold fasciclelaw13_same.f
 repeat' first
   | (with_reducible exact fasciclelaw11_Same.mono _ _ _)
   | (with_reducible exact LeO.refl _)
   | (with_reducible exact LeO.none _)
   | (with_reducible refine LeO.ite ?_ ?_)
   | (with_reducible refine LeO.bind ?_ (fun _ => ?_))
   | exact fasciclelaw11_Same.mono _ _ _
   | exact LeO.none _
   | refine LeO.ite ?_ ?_
   | refine LeO.bind ?_ (fun _ => ?_)
set_option maxHeartbeats 8000000 in
set_option maxRecDepth 100000 in
theorem fasciclelaw13_same.calls (k : Nat) (a0_0 : Int) (A0_1 : Option Addr) (c0_1 : Nat) (l0_1 : List (S33)) (a1_0 : Int) (A1_1 : Option Addr) (c1_1 : Nat) (l1_1 : List (S135)) (r : Bool) (w : World) (hr0_1 : Kd.C k33 w A0_1 l0_1.length l0_1) (hc0_1 : l0_1.length ≤ c0_1) (hr1_1 : Kd.C k135 w A1_1 l1_1.length l1_1) (hc1_1 : l1_1.length ≤ c1_1) (h : fasciclelaw13_same.f k a0_0 l0_1 a1_0 l1_1 = some r) :
  Calls Try.prog 37 #[.agg #[.int .u32 a0_0, .slice A0_1 l0_1.length c0_1], .agg #[.int .u32 a1_0, .slice A1_1 l1_1.length c1_1]] w fun e w' => e = .returned (.bool r) ∧ Below w.heap.size w w' := by
 have hu29 := Try.underlying29
 have hu74 := Try.underlying74
 have HR0_1 := Aside0.mk hr0_1
 have HC0_1 := Aside0.mk hc0_1
 clear hr0_1 hc0_1
 have HR1_1 := Aside0.mk hr1_1
 have HC1_1 := Aside0.mk hc1_1
 clear hr1_1 hc1_1
 have HB := Aside0.mk (Below.refl w.heap.size w)
 have H : (if a0_0 = a1_0 then ((fasciclelaw11_Same.f k l0_1 l1_1).bind fun t272 => (some t272)) else (some false)) = some r := h
 clear h
 by_cases c3 : a0_0 = a1_0
 ·
  rw [if_pos c3] at H
  have c3b0 : (a0_0 == a1_0) = true := beq_iff_eq.mpr c3
  have c3b1 : (a0_0 != a1_0) = false := bne_eq_false_iff_eq.mpr c3
  clear c3
  replace H := Option.bind_eq_some_iff.mp H
  obtain ⟨t272, A40, H⟩ := H
  replace H : (some t272) = some r := H
  have A4 := Aside0.mk A40
  clear A40
  obtain rfl := Option.some.inj H
  go_enter Try.func37, Try.ntmps37
  go_wp2_with (first | ((with_reducible refine gate_dst (N := 2) rfl ?_); refine box_event ?hg (N := 2) ?hd (cs := #[.int .u32 a0_0, .slice A0_1 l0_1.length c0_1]) (t := 29) ?hr ?_; (case hd => rfl); (case hg => rfl); (case hr => first | (go_simp; done) | (go_simp; rfl)); intro gb270 hg w5 hbox hb; have n0_ := Aside0.mk (below_step (by repeat with_reducible first | exact HB.out | apply below_alloc | apply pw_below_drewN | apply below_drew1) hb); have n1_ := Aside0.mk (hbox); have n2_ := Aside0.mk ((by rw [hg]; exact (below_size (by repeat with_reducible first | exact HB.out | apply below_alloc | apply pw_below_drewN | apply below_drew1)) : w.heap.size ≤ gb270)); have n3_ := Aside0.mk ((by rw [hg]; exact (below_size (by repeat with_reducible first | exact HB.out | apply below_alloc | apply pw_below_drewN | apply below_drew1)) : w.heap.size ≤ gb270)); clear HB; have HB := n0_; have BK270 := n1_; have GW270 := n2_; have GE270 := n3_; clear n0_ n1_ n2_ n3_; clear hb hbox hg) | ((with_reducible refine gate_dst (N := 3) rfl ?_); refine box_event ?hg (N := 3) ?hd (cs := #[.int .u32 a1_0, .slice A1_1 l1_1.length c1_1]) (t := 74) ?hr ?_; (case hd => rfl); (case hg => rfl); (case hr => first | (go_simp; done) | (go_simp; rfl)); intro gb271 hg w6 hbox hb; have n0_ := Aside0.mk (blk_below (g := gb270) (o := .cells #[.int .u32 a0_0, .slice A0_1 l0_1.length c0_1] 29 (0, 0)) (by (with_reducible repeat (first | refine blk_drewN ?_ _ | refine blk_drew ?_ | refine blk_alloc ?_ _)); exact BK270.out) hb); have n1_ := Aside0.mk (below_step (by repeat with_reducible first | exact HB.out | apply below_alloc | apply pw_below_drewN | apply below_drew1 | refine below_set ?_ GE270.out) hb); have n2_ := Aside0.mk (hbox); have n3_ := Aside0.mk ((by rw [hg]; exact (below_size (by repeat with_reducible first | exact HB.out | apply below_alloc | apply pw_below_drewN | apply below_drew1 | refine below_set ?_ GE270.out)) : w.heap.size ≤ gb271)); have n4_ := Aside0.mk ((by rw [hg]; exact (below_size (by repeat with_reducible first | exact HB.out | apply below_alloc | apply pw_below_drewN | apply below_drew1 | refine below_set ?_ GE270.out)) : w.heap.size ≤ gb271)); have n5_ := Aside0.mk ((by rw [hg]; exact Nat.ne_of_lt (blk_lt (g := gb270) (o := .cells #[.int .u32 a0_0, .slice A0_1 l0_1.length c0_1] 29 (0, 0)) (by (with_reducible repeat (first | refine blk_drewN ?_ _ | refine blk_drew ?_ | refine blk_alloc ?_ _)); exact BK270.out)) : gb270 ≠ gb271)); have n6_ := Aside0.mk ((by rw [hg]; exact Nat.ne_of_gt (blk_lt (g := gb270) (o := .cells #[.int .u32 a0_0, .slice A0_1 l0_1.length c0_1] 29 (0, 0)) (by (with_reducible repeat (first | refine blk_drewN ?_ _ | refine blk_drew ?_ | refine blk_alloc ?_ _)); exact BK270.out)) : gb271 ≠ gb270)); clear BK270; clear HB; have BK270 := n0_; have HB := n1_; have BK271 := n2_; have GW271 := n3_; have GE271 := n4_; have NB270_271 := n5_; have NB271_270 := n6_; clear n0_ n1_ n2_ n3_ n4_ n5_ n6_; clear hb hbox hg; have hnb7 := NB270_271.out; have hnc7 := NB271_270.out; have hcz8_0 : w6.cell? ⟨gb270, 0, none⟩ = some (.int .u32 a0_0) := (blk_cell BK270.out 0).trans rfl; have hcz8_1 : w6.cell? ⟨gb270, 1, none⟩ = some (.slice A0_1 l0_1.length c0_1) := (blk_cell BK270.out 1).trans rfl; have hfz8_0 := blk_frozen BK270.out 0; have hfz8_1 := blk_frozen BK270.out 1; have hcz9_0 : w6.cell? ⟨gb271, 0, none⟩ = some (.int .u32 a1_0) := (blk_cell BK271.out 0).trans rfl; have hcz9_1 : w6.cell? ⟨gb271, 1, none⟩ = some (.slice A1_1 l1_1.length c1_1) := (blk_cell BK271.out 1).trans rfl; have hfz9_0 := blk_frozen BK271.out 0; have hfz9_1 := blk_frozen BK271.out 1) | (go_at_call 91; (with_reducible refine (fasciclelaw11_Same.calls k _ _ l0_1 _ _ l1_1 t272 _ ?side1 ?side2 ?side3 ?side4 A4.out).mono ?_); (case side1 => repeat (first | exact (Kd.C_below HR0_1.out HB.out) | (with_reducible refine Kd.C_alloc ?_ _) | (with_reducible refine Kd.C_drewN ?_ _) | (with_reducible refine Kd.C_drew ?_))); (case side2 => exact HC0_1.out); (case side3 => repeat (first | exact (Kd.C_below HR1_1.out HB.out) | (with_reducible refine Kd.C_alloc ?_ _) | (with_reducible refine Kd.C_drewN ?_ _) | (with_reducible refine Kd.C_drew ?_))); (case side4 => exact HC1_1.out); rintro e w' ⟨rfl, ⟨nd, rfl⟩⟩))
  go_ret
  exact ⟨by first | rfl | (simp [errW_none, errW_some] <;> rfl) | (simp [*, errW_none, errW_some] <;> rfl), by repeat (first | (with_reducible first | exact HB.out | apply below_alloc | apply pw_below_drewN | apply below_drew1 | refine below_set ?_ GE270.out | refine below_set ?_ GE271.out) | exact HB.out)⟩
 ·
  rw [if_neg c3] at H
  have c3b0 : (a0_0 == a1_0) = false := beq_eq_false_iff_ne.mpr c3
  have c3b1 : (a0_0 != a1_0) = true := bne_iff_ne.mpr c3
  obtain rfl := Option.some.inj H
  go_enter Try.func37, Try.ntmps37
  go_wp2_with (first | ((with_reducible refine gate_dst (N := 2) rfl ?_); refine box_event ?hg (N := 2) ?hd (cs := #[.int .u32 a0_0, .slice A0_1 l0_1.length c0_1]) (t := 29) ?hr ?_; (case hd => rfl); (case hg => rfl); (case hr => first | (go_simp; done) | (go_simp; rfl)); intro gb270 hg w10 hbox hb; have n0_ := Aside0.mk (below_step (by repeat with_reducible first | exact HB.out | apply below_alloc | apply pw_below_drewN | apply below_drew1) hb); have n1_ := Aside0.mk (hbox); have n2_ := Aside0.mk ((by rw [hg]; exact (below_size (by repeat with_reducible first | exact HB.out | apply below_alloc | apply pw_below_drewN | apply below_drew1)) : w.heap.size ≤ gb270)); have n3_ := Aside0.mk ((by rw [hg]; exact (below_size (by repeat with_reducible first | exact HB.out | apply below_alloc | apply pw_below_drewN | apply below_drew1)) : w.heap.size ≤ gb270)); clear HB; have HB := n0_; have BK270 := n1_; have GW270 := n2_; have GE270 := n3_; clear n0_ n1_ n2_ n3_; clear hb hbox hg) | ((with_reducible refine gate_dst (N := 3) rfl ?_); refine box_event ?hg (N := 3) ?hd (cs := #[.int .u32 a1_0, .slice A1_1 l1_1.length c1_1]) (t := 74) ?hr ?_; (case hd => rfl); (case hg => rfl); (case hr => first | (go_simp; done) | (go_simp; rfl)); intro gb271 hg w11 hbox hb; have n0_ := Aside0.mk (blk_below (g := gb270) (o := .cells #[.int .u32 a0_0, .slice A0_1 l0_1.length c0_1] 29 (0, 0)) (by (with_reducible repeat (first | refine blk_drewN ?_ _ | refine blk_drew ?_ | refine blk_alloc ?_ _)); exact BK270.out) hb); have n1_ := Aside0.mk (below_step (by repeat with_reducible first | exact HB.out | apply below_alloc | apply pw_below_drewN | apply below_drew1 | refine below_set ?_ GE270.out) hb); have n2_ := Aside0.mk (hbox); have n3_ := Aside0.mk ((by rw [hg]; exact (below_size (by repeat with_reducible first | exact HB.out | apply below_alloc | apply pw_below_drewN | apply below_drew1 | refine below_set ?_ GE270.out)) : w.heap.size ≤ gb271)); have n4_ := Aside0.mk ((by rw [hg]; exact (below_size (by repeat with_reducible first | exact HB.out | apply below_alloc | apply pw_below_drewN | apply below_drew1 | refine below_set ?_ GE270.out)) : w.heap.size ≤ gb271)); have n5_ := Aside0.mk ((by rw [hg]; exact Nat.ne_of_lt (blk_lt (g := gb270) (o := .cells #[.int .u32 a0_0, .slice A0_1 l0_1.length c0_1] 29 (0, 0)) (by (with_reducible repeat (first | refine blk_drewN ?_ _ | refine blk_drew ?_ | refine blk_alloc ?_ _)); exact BK270.out)) : gb270 ≠ gb271)); have n6_ := Aside0.mk ((by rw [hg]; exact Nat.ne_of_gt (blk_lt (g := gb270) (o := .cells #[.int .u32 a0_0, .slice A0_1 l0_1.length c0_1] 29 (0, 0)) (by (with_reducible repeat (first | refine blk_drewN ?_ _ | refine blk_drew ?_ | refine blk_alloc ?_ _)); exact BK270.out)) : gb271 ≠ gb270)); clear BK270; clear HB; have BK270 := n0_; have HB := n1_; have BK271 := n2_; have GW271 := n3_; have GE271 := n4_; have NB270_271 := n5_; have NB271_270 := n6_; clear n0_ n1_ n2_ n3_ n4_ n5_ n6_; clear hb hbox hg; have hnb12 := NB270_271.out; have hnc12 := NB271_270.out; have hcz13_0 : w11.cell? ⟨gb270, 0, none⟩ = some (.int .u32 a0_0) := (blk_cell BK270.out 0).trans rfl; have hcz13_1 : w11.cell? ⟨gb270, 1, none⟩ = some (.slice A0_1 l0_1.length c0_1) := (blk_cell BK270.out 1).trans rfl; have hfz13_0 := blk_frozen BK270.out 0; have hfz13_1 := blk_frozen BK270.out 1; have hcz14_0 : w11.cell? ⟨gb271, 0, none⟩ = some (.int .u32 a1_0) := (blk_cell BK271.out 0).trans rfl; have hcz14_1 : w11.cell? ⟨gb271, 1, none⟩ = some (.slice A1_1 l1_1.length c1_1) := (blk_cell BK271.out 1).trans rfl; have hfz14_0 := blk_frozen BK271.out 0; have hfz14_1 := blk_frozen BK271.out 1))
  go_ret
  exact ⟨by first | rfl | (simp [errW_none, errW_some] <;> rfl) | (simp [*, errW_none, errW_some] <;> rfl), by repeat (first | (with_reducible first | exact HB.out | apply below_alloc | apply pw_below_drewN | apply below_drew1 | refine below_set ?_ GE270.out | refine below_set ?_ GE271.out) | exact HB.out)⟩
end Go.Proofs.Ytekanmieppnpeaa.G
end
section
namespace Go.Proofs.Ytekanmieppnpeaa.G
open Go.RowKit Go.Proofs.YtekanmieppnpeaaW.PrintWords Go.Proofs.YtekanmieppnpeaaW.PrintLast Go.Proofs.YtekanmieppnpeaaW.PrintMore
attribute [local go_sem] max2_int min2_int max_two min_two max_three min_three max_four min_four   -- for this text's walks alone
def fasciclelaw13_ref.f (k : Nat) (a0_0 : Int) (l0_1 : List (S33)) : Option (Int × (List (S135))) := (fasciclelaw11_Refs.f k l0_1).bind fun t279 => (some (a0_0, t279))
theorem fasciclelaw13_ref.mono : ∀ a0 a1 k, LeO (fasciclelaw13_ref.f k a0 a1) (fasciclelaw13_ref.f (k + 1) a0 a1) := by
 intro a0 a1 k
 unfold fasciclelaw13_ref.f
 repeat' first
   | (with_reducible exact fasciclelaw11_Refs.mono _ _)
   | (with_reducible exact LeO.refl _)
   | (with_reducible exact LeO.none _)
   | (with_reducible refine LeO.ite ?_ ?_)
   | (with_reducible refine LeO.bind ?_ (fun _ => ?_))
   | exact fasciclelaw11_Refs.mono _ _
   | exact LeO.none _
   | refine LeO.ite ?_ ?_
   | refine LeO.bind ?_ (fun _ => ?_)
set_option maxHeartbeats 8000000 in
set_option maxRecDepth 100000 in
theorem fasciclelaw13_ref.calls (k : Nat) (a0_0 : Int) (A0_1 : Option Addr) (c0_1 : Nat) (l0_1 : List (S33)) (r1 : Int) (r2 : List (S135)) (w : World) (hr0_1 : Kd.C k33 w A0_1 l0_1.length l0_1) (hc0_1 : l0_1.length ≤ c0_1) (h : fasciclelaw13_ref.f k a0_0 l0_1 = some (r1, r2)) :
  Calls Try.prog 40 #[.agg #[.int .u32 a0_0, .slice A0_1 l0_1.length c0_1]] w fun e w' => ∃ v1_ : Value, e = .returned (.agg #[.int .u32 r1, v1_]) ∧ Kd.R k135 135 w' w.heap.size (fun _ => True) v1_ r2 ∧ Below w.heap.size w w' := by
 have hu29 := Try.underlying29
 have hu74 := Try.underlying74
 have HR0_1 := Aside0.mk hr0_1
 have HC0_1 := Aside0.mk hc0_1
 clear hr0_1 hc0_1
 have HB := Aside0.mk (Below.refl w.heap.size w)
 have H : ((fasciclelaw11_Refs.f k l0_1).bind fun t279 => (some (a0_0, t279))) = some (r1, r2) := h
 clear h
 replace H := Option.bind_eq_some_iff.mp H
 obtain ⟨t279, A20, H⟩ := H
 replace H : (some (a0_0, t279)) = some (r1, r2) := H
 have A2 := Aside0.mk A20
 clear A20
 simp only [Option.some.injEq, Prod.mk.injEq] at H
 obtain ⟨rfl, rfl⟩ := H
 go_enter Try.func40, Try.ntmps40
 try go_wp2_with (first | ((with_reducible refine gate_dst (N := 1) rfl ?_); refine box_event ?hg (N := 1) ?hd (cs := #[.int .u32 a0_0, .slice A0_1 l0_1.length c0_1]) (t := 29) ?hr ?_; (case hd => rfl); (case hg => rfl); (case hr => first | (go_simp; done) | (go_simp; rfl)); intro gb277 hg w3 hbox hb; have n0_ := Aside0.mk (below_step (by repeat with_reducible first | exact HB.out | apply below_alloc | apply pw_below_drewN | apply below_drew1) hb); have n1_ := Aside0.mk (hbox); have n2_ := Aside0.mk ((by rw [hg]; exact (below_size (by repeat with_reducible first | exact HB.out | apply below_alloc | apply pw_below_drewN | apply below_drew1)) : w.heap.size ≤ gb277)); have n3_ := Aside0.mk ((by rw [hg]; exact (below_size (by repeat with_reducible first | exact HB.out | apply below_alloc | apply pw_below_drewN | apply below_drew1)) : w.heap.size ≤ gb277)); clear HB; have HB := n0_; have BK277 := n1_; have GW277 := n2_; have GE277 := n3_; clear n0_ n1_ n2_ n3_; clear hb hbox hg) | ((with_reducible refine gate_dst (N := 2) rfl ?_); refine box_event ?hg (N := 2) ?hd (cs := #[.int .u32 0, .slice none 0 0]) (t := 74) ?hr ?_; (case hd => rfl); (case hg => rfl); (case hr => first | (go_simp; done) | (go_simp; rfl)); intro gb278 hg w4 hbox hb; have n0_ := Aside0.mk (blk_below (g := gb277) (o := .cells #[.int .u32 a0_0, .slice A0_1 l0_1.length c0_1] 29 (0, 0)) (by (with_reducible repeat (first | refine blk_drewN ?_ _ | refine blk_drew ?_ | refine blk_alloc ?_ _)); exact BK277.out) hb); have n1_ := Aside0.mk (below_step (by repeat with_reducible first | exact HB.out | apply below_alloc | apply pw_below_drewN | apply below_drew1 | refine below_set ?_ GE277.out) hb); have n2_ := Aside0.mk (hbox); have n3_ := Aside0.mk ((by rw [hg]; exact (below_size (by repeat with_reducible first | exact HB.out | apply below_alloc | apply pw_below_drewN | apply below_drew1 | refine below_set ?_ GE277.out)) : w.heap.size ≤ gb278)); have n4_ := Aside0.mk ((by rw [hg]; exact (below_size (by repeat with_reducible first | exact HB.out | apply below_alloc | apply pw_below_drewN | apply below_drew1 | refine below_set ?_ GE277.out)) : w.heap.size ≤ gb278)); have n5_ := Aside0.mk ((by rw [hg]; exact Nat.ne_of_lt (blk_lt (g := gb277) (o := .cells #[.int .u32 a0_0, .slice A0_1 l0_1.length c0_1] 29 (0, 0)) (by (with_reducible repeat (first | refine blk_drewN ?_ _ | refine blk_drew ?_ | refine blk_alloc ?_ _)); exact BK277.out)) : gb277 ≠ gb278)); have n6_ := Aside0.mk ((by rw [hg]; exact Nat.ne_of_gt (blk_lt (g := gb277) (o := .cells #[.int .u32 a0_0, .slice A0_1 l0_1.length c0_1] 29 (0, 0)) (by (with_reducible repeat (first | refine blk_drewN ?_ _ | refine blk_drew ?_ | refine blk_alloc ?_ _)); exact BK277.out)) : gb278 ≠ gb277)); clear BK277; clear HB; have BK277 := n0_; have HB := n1_; have BK278 := n2_; have GW278 := n3_; have GE278 := n4_; have NB277_278 := n5_; have NB278_277 := n6_; clear n0_ n1_ n2_ n3_ n4_ n5_ n6_; clear hb hbox hg))
 have n0_ := Aside0.mk (blk_drew BK277.out)
 have n1_ := Aside0.mk (blk_drew BK278.out)
 have n2_ := Aside0.mk (below_drew1 HB.out)
 clear BK277
 clear BK278
 clear HB
 have BK277 := n0_
 have BK278 := n1_
 have HB := n2_
 clear n0_ n1_ n2_
 refine start_ (n := 7) (S := fun w' => w'.cell? ⟨gb277, 0, none⟩ = some (.int .u32 a0_0) ∧ w'.cell? ⟨gb277, 1, none⟩ = some (.slice A0_1 l0_1.length c0_1)) (ds := []) #[false, false, false, false, false, false, false] (by kernel_rfl) rfl rfl ⟨(blk_cell BK277.out 0).trans rfl, (blk_cell BK277.out 1).trans rfl⟩ (fun hHeld => ?_)
 generalize w4.drew = w5 at BK277 BK278 HB hHeld ⊢
 refine pure_ (i := 0) (N := some 3) (v := ?_) (a' := ?_) #[true, false, false, false, false, false, false] rfl rfl (by kernel_rfl) (fun _ _ _ h => h) (Or.inl ⟨by rfl, ?_⟩) ?_ ?_
 rotate_left
 ·
  intro w'
  go_simp
  with_reducible rfl
 rotate_left
 ·
  simp only [Act.put, List.setIfInBounds_toArray, List.set_cons_zero, List.set_cons_succ, i64_w, i32_w]
  rfl
 refine pure_ (i := 2) (N := some 5) (v := ?_) (a' := ?_) #[true, false, true, false, false, false, false] rfl rfl (by kernel_rfl) (fun _ _ _ h => h) (Or.inl ⟨by rfl, ?_⟩) ?_ ?_
 rotate_left
 ·
  intro w'
  go_simp
  with_reducible rfl
 rotate_left
 ·
  simp only [Act.put, List.setIfInBounds_toArray, List.set_cons_zero, List.set_cons_succ, i64_w, i32_w]
  rfl
 refine take_ (i := 1) (N := some 4) (v := ?_) (a' := ?_) #[true, true, true, false, false, false, false] rfl rfl (by kernel_rfl) (fun _ _ _ h => h) (Or.inl ⟨by rfl, ?_⟩) hHeld ?_ ?_
 rotate_left
 ·
  rintro w' ⟨s0, s1⟩
  go_simp
  with_reducible rfl
 rotate_left
 ·
  simp only [Act.put, List.setIfInBounds_toArray, List.set_cons_zero, List.set_cons_succ, i64_w, i32_w]
  rfl
 refine take_ (i := 3) (N := some 6) (v := ?_) (a' := ?_) #[true, true, true, true, false, false, false] rfl rfl (by kernel_rfl) (fun _ _ _ h => h) (Or.inl ⟨by rfl, ?_⟩) hHeld ?_ ?_
 rotate_left
 ·
  rintro w' ⟨s0, s1⟩
  go_simp
  with_reducible rfl
 rotate_left
 ·
  simp only [Act.put, List.setIfInBounds_toArray, List.set_cons_zero, List.set_cons_succ, i64_w, i32_w]
  rfl
 refine one_ (i := 4) (N := some 7) #[true, true, true, true, true, false, false] rfl rfl (by kernel_rfl) (by decide) (fun K hK => ?_)
 refine goes_ Try.func96 (by kernel_rfl) rfl #[.slice A0_1 l0_1.length c0_1] (by rfl) rfl rfl (by (try simp only [List.map_toArray, List.map_cons, List.map_nil]); first | done | rfl) ?_
 with_reducible refine (fasciclelaw11_Refs.calls k _ _ l0_1 t279 _ ?side1 ?side2 A2.out).mono ?_
 (case side1 => repeat (first | exact (Kd.C_below HR0_1.out HB.out) | (with_reducible refine Kd.C_alloc ?_ _) | (with_reducible refine Kd.C_drewN ?_ _) | (with_reducible refine Kd.C_drew ?_)))
 (case side2 => exact HC0_1.out)
 rintro e w6 ⟨v280, rfl, ho0, hb⟩
 refine ⟨_, rfl, ?_⟩
 have n0_ := Aside0.mk (Kd.R_lower ho0 (below_size (by repeat with_reducible first | exact HB.out | apply below_alloc | apply pw_below_drewN | apply below_drew1 | refine below_set ?_ GE277.out | refine below_set ?_ GE278.out)))
 have n1_ := Aside0.mk (blk_below (g := gb277) (o := .cells #[.int .u32 a0_0, .slice A0_1 l0_1.length c0_1] 29 (0, 0)) (by (with_reducible repeat (first | refine blk_drewN ?_ _ | refine blk_drew ?_ | refine blk_alloc ?_ _)); exact BK277.out) hb)
 have n2_ := Aside0.mk (blk_below (g := gb278) (o := .cells #[.int .u32 0, .slice none 0 0] 74 (0, 0)) (by (with_reducible repeat (first | refine blk_drewN ?_ _ | refine blk_drew ?_ | refine blk_alloc ?_ _)); exact BK278.out) hb)
 have n3_ := Aside0.mk (below_step (by repeat with_reducible first | exact HB.out | apply below_alloc | apply pw_below_drewN | apply below_drew1 | refine below_set ?_ GE277.out | refine below_set ?_ GE278.out) hb)
 clear BK277
 clear BK278
 clear HB
 have HO281 := n0_
 have BK277 := n1_
 have BK278 := n2_
 have HB := n3_
 clear n0_ n1_ n2_ n3_
 (try clear hb)
 (try clear hb2)
 (try clear hk)
 (try clear hi)
 (try clear ho0)
 obtain ⟨Ao7, co7, eo7⟩ := Kd.R_slice HO281.out
 (first | subst eo7 | (injection eo7 with f1_ f2_ f3_; have f4_ := f1_.symm; have f5_ := f3_.symm; clear f1_ f2_ f3_; subst f4_; subst f5_))
 refine hK.out _ _ ⟨(blk_cell BK277.out 0).trans rfl, (blk_cell BK277.out 1).trans rfl⟩ (fun hHeld => ?_)
 clear hK K
 refine norm_ (a' := ?_) ?_ ?_
 rotate_left
 ·
  show Act.put _ (some 7) _ = _
  simp only [Act.put, List.setIfInBounds_toArray, List.set_cons_zero, List.set_cons_succ, i64_w, i32_w]
  rfl
 refine pure_ (i := 5) (N := some 8) (v := ?_) (a' := ?_) #[true, true, true, true, true, true, false] rfl rfl (by kernel_rfl) (fun _ _ _ h => h) (Or.inl ⟨by rfl, ?_⟩) ?_ ?_
 rotate_left
 ·
  intro w'
  go_simp
  with_reducible rfl
 rotate_left
 ·
  simp only [Act.put, List.setIfInBounds_toArray, List.set_cons_zero, List.set_cons_succ, i64_w, i32_w]
  rfl
 refine one_ (i := 6) (N := none) #[true, true, true, true, true, true, true] rfl rfl (by kernel_rfl) (by decide) (fun K hK => ?_)
 have hs8 : w6.cell? ⟨gb278, 0, none⟩ = some (.int .u32 0) := (blk_cell BK278.out 0).trans rfl
 have hfs8 := blk_frozen BK278.out 0
 have hns8_0 := NB277_278.out
 have hms8_0 := NB278_277.out
 have hs9 : w6.cell? ⟨gb278, 1, none⟩ = some (.slice none 0 0) := (blk_cell BK278.out 1).trans rfl
 have hfs9 := blk_frozen BK278.out 1
 have hns9_0 := NB277_278.out
 have hms9_0 := NB278_277.out
 refine skip_ (w1 := ?_) (by rfl) rfl ?_ ?_
 rotate_left
 ·
  go_simp
  rfl
 refine hK.out _ _ ⟨((cell_far (p := ⟨gb278, _, none⟩) NB277_278.out _).trans (((cell_far (p := ⟨gb278, _, none⟩) NB277_278.out _).trans (hHeld.1)))), ((cell_far (p := ⟨gb278, _, none⟩) NB277_278.out _).trans (((cell_far (p := ⟨gb278, _, none⟩) NB277_278.out _).trans (hHeld.2))))⟩ (fun hHeld => ?_)
 clear hK K
 refine done_ (by kernel_rfl) ?_
 try go_wp2
 refine bodyPost_ret (results_cell_row rfl _ _ gb278 74 #[.int .u32 a0_0, .slice Ao7 t279.length co7] (0, 0) _ rfl (by (with_reducible repeat (first | refine blk_drewN ?_ _ | refine blk_drew ?_ | refine blk_alloc ?_ _)); refine blk_put (cs := #[.int .u32 a0_0, .slice none 0 0]) ?_ 1 _ rfl; refine blk_put (cs := #[.int .u32 0, .slice none 0 0]) ?_ 0 _ rfl; (with_reducible repeat (first | refine blk_drewN ?_ _ | refine blk_drew ?_ | refine blk_alloc ?_ _)); exact BK278.out) Try.underlying74 rfl (by kernel_rfl)) rfl ?_
 exact ⟨_, by first | rfl | (simp [errW_none, errW_some] <;> rfl) | (simp [*, errW_none, errW_some] <;> rfl), by (with_reducible repeat (first | apply Kd.R_alloc | apply Kd.R_drewN | apply Kd.R_drew)); exact Kd.R_mono (Kd.R_far (p := ⟨gb278, 1, none⟩) (Kd.R_far (p := ⟨gb278, 0, none⟩) (Kd.R_types HO281.out BK278.out (by decide)) (fun _ hk => by first | exact hk.2 | exact hk) (.int .u32 a0_0)) (fun _ hk => by first | exact hk.2 | exact hk) (.slice Ao7 t279.length co7)) (fun _ hk => trivial), by repeat (first | (with_reducible first | exact HB.out | apply below_alloc | apply pw_below_drewN | apply below_drew1 | refine below_set ?_ GE277.out | refine below_set ?_ GE278.out) | exact HB.out)⟩
def fascicleref13_Text.f (k : Nat) (a0_0 : Int) (l0_1 : List (S135)) : Option (ByteArray) := (fascicleref01_Num.f k (IntKind.u64.wrap ((l0_1.length : Int))) 4).bind fun t283 => (if 1 + t283.size ≤ 9223372036854775807 then ((fascicleref01_Num.f k (IntKind.u64.wrap (a0_0)) 4).bind fun t284 => (if ((⟨#[4]⟩ : ByteArray) ++ t283).size + t284.size ≤ 9223372036854775807 then ((fascicleref11_Text.f k l0_1).bind fun t285 => (if (((⟨#[4]⟩ : ByteArray) ++ t283) ++ t284).size + t285.size ≤ 9223372036854775807 then ((fascicleref12_Of.f k l0_1).bind fun t286 => ((fascicleref12_Text.f k t286).bind fun t289 => (if ((((⟨#[4]⟩ : ByteArray) ++ t283) ++ t284) ++ t285).size + t289.size ≤ 9223372036854775807 then ((fascicleref09_Seal.f k (((((⟨#[4]⟩ : ByteArray) ++ t283) ++ t284) ++ t285) ++ t289)).bind fun t290 => (some t290)) else (none)))) else (none))) else (none))) else (none))
theorem fascicleref13_Text.mono : ∀ a0 a1 k, LeO (fascicleref13_Text.f k a0 a1) (fascicleref13_Text.f (k + 1) a0 a1) := by
 intro a0 a1 k
 unfold fascicleref13_Text.f
 repeat' first
   | (with_reducible exact fascicleref01_Num.mono _ _ _)
   | (with_reducible exact fascicleref09_Seal.mono _ _)
   | (with_reducible exact fascicleref11_Text.mono _ _)
   | (with_reducible exact fascicleref12_Of.mono _ _)
   | (with_reducible exact fascicleref12_Text.mono _ _)
   | (with_reducible exact LeO.refl _)
   | (with_reducible exact LeO.none _)
   | (with_reducible refine LeO.ite ?_ ?_)
   | (with_reducible refine LeO.bind ?_ (fun _ => ?_))
   | exact fascicleref01_Num.mono _ _ _
   | exact fascicleref09_Seal.mono _ _
   | exact fascicleref11_Text.mono _ _
   | exact fascicleref12_Of.mono _ _
   | exact fascicleref12_Text.mono _ _
   | exact LeO.none _
   | refine LeO.ite ?_ ?_
   | refine LeO.bind ?_ (fun _ => ?_)
def fascicleref13_Text.T1 : Bool × List (List Nat × List Nat) := (true, [([], []), ([0], [0]), ([1], [1]), ([2], [2]), ([3], [3]), ([4], [4]), ([], []), ([6], [6]), ([7], [7]), ([8, 4], [8]), ([5, 9], [5, 9]), ([10, 9, 0, 1, 2, 3, 4, 5, 6, 7, 8, 9, 10], [10])])
def fascicleref13_Text.B1 : List Nat := [0, 1, 3, 7, 15, 31, 0, 64, 192, 479, 1023, 2047]
theorem fascicleref13_Text.tab1 : rtab .any (opsOf Try.f41 1) = fascicleref13_Text.T1 := by kernel_rfl
theorem fascicleref13_Text.bits1 : waitsOk fascicleref13_Text.T1.2 fascicleref13_Text.B1 = true := by kernel_rfl
def fascicleref13_Text.T2 : Bool × List (List Nat × List Nat) := (true, [([], []), ([], []), ([1], [1]), ([2], [2]), ([0, 3], [0, 3]), ([], []), ([5], [5]), ([6, 3], [6]), ([7, 7], [7]), ([4, 8], [4, 8]), ([9, 8], [9]), ([10, 10, 0, 1, 2, 3, 4, 5, 6, 7, 8, 9, 10], [10])])
def fascicleref13_Text.B2 : List Nat := [0, 0, 2, 6, 15, 0, 32, 110, 238, 511, 1023, 2047]
theorem fascicleref13_Text.tab2 : rtab .any (opsOf Try.f41 2) = fascicleref13_Text.T2 := by kernel_rfl
theorem fascicleref13_Text.bits2 : waitsOk fascicleref13_Text.T2.2 fascicleref13_Text.B2 = true := by kernel_rfl
set_option maxHeartbeats 8000000 in
set_option maxRecDepth 100000 in
theorem fascicleref13_Text.calls (k : Nat) (a0_0 : Int) (A0_1 : Option Addr) (c0_1 : Nat) (l0_1 : List (S135)) (r : ByteArray) (w : World) (hr0_1 : Kd.C k135 w A0_1 l0_1.length l0_1) (hc0_1 : l0_1.length ≤ c0_1) (h : fascicleref13_Text.f k a0_0 l0_1 = some r) :
  Calls Try.prog 41 #[.agg #[.int .u32 a0_0, .slice A0_1 l0_1.length c0_1]] w fun e w' => e = .returned (.string r) ∧ Below w.heap.size w w' := by
 have hu74 := Try.underlying74
 have HR0_1 := Aside0.mk hr0_1
 have HC0_1 := Aside0.mk hc0_1
 clear hr0_1 hc0_1
 have HB := Aside0.mk (Below.refl w.heap.size w)
 have H : ((fascicleref01_Num.f k (IntKind.u64.wrap ((l0_1.length : Int))) 4).bind fun t283 => (if 1 + t283.size ≤ 9223372036854775807 then ((fascicleref01_Num.f k (IntKind.u64.wrap (a0_0)) 4).bind fun t284 => (if ((⟨#[4]⟩ : ByteArray) ++ t283).size + t284.size ≤ 9223372036854775807 then ((fascicleref11_Text.f k l0_1).bind fun t285 => (if (((⟨#[4]⟩ : ByteArray) ++ t283) ++ t284).size + t285.size ≤ 9223372036854775807 then ((fascicleref12_Of.f k l0_1).bind fun t286 => ((fascicleref12_Text.f k t286).bind fun t289 => (if ((((⟨#[4]⟩ : ByteArray) ++ t283) ++ t284) ++ t285).size + t289.size ≤ 9223372036854775807 then ((fascicleref09_Seal.f k (((((⟨#[4]⟩ : ByteArray) ++ t283) ++ t284) ++ t285) ++ t289)).bind fun t290 => (some t290)) else (none)))) else (none))) else (none))) else (none))) = some r := h
 clear h
 replace H := Option.bind_eq_some_iff.mp H
 obtain ⟨t283, A20, H⟩ := H
 replace H : (if 1 + t283.size ≤ 9223372036854775807 then ((fascicleref01_Num.f k (IntKind.u64.wrap (a0_0)) 4).bind fun t284 => (if ((⟨#[4]⟩ : ByteArray) ++ t283).size + t284.size ≤ 9223372036854775807 then ((fascicleref11_Text.f k l0_1).bind fun t285 => (if (((⟨#[4]⟩ : ByteArray) ++ t283) ++ t284).size + t285.size ≤ 9223372036854775807 then ((fascicleref12_Of.f k l0_1).bind fun t286 => ((fascicleref12_Text.f k t286).bind fun t289 => (if ((((⟨#[4]⟩ : ByteArray) ++ t283) ++ t284) ++ t285).size + t289.size ≤ 9223372036854775807 then ((fascicleref09_Seal.f k (((((⟨#[4]⟩ : ByteArray) ++ t283) ++ t284) ++ t285) ++ t289)).bind fun t290 => (some t290)) else (none)))) else (none))) else (none))) else (none)) = some r := H
 have A2 := Aside0.mk A20
 clear A20
 by_cases c3 : 1 + t283.size ≤ 9223372036854775807
 ·
  rw [if_pos c3] at H
  have c3b0 := eq_true c3
  have c3b1 : decide (1 + t283.size ≤ 9223372036854775807) = true := decide_eq_true c3
  try have c3b2 : (9223372036854775807 < 1 + t283.size) = False := eq_false (Nat.not_lt.2 c3)
  try (have c3b4 := Nat.not_lt.2 c3; simp [ByteArray.size_append, -Nat.not_lt] at c3b4; (try simp only [show ∀ x : UInt8, (⟨#[x]⟩ : ByteArray).size = 1 from fun _ => rfl, show ∀ x y : UInt8, (⟨#[x, y]⟩ : ByteArray).size = 2 from fun _ _ => rfl] at c3b4); have c3b5 := eq_false c3b4)
  replace H := Option.bind_eq_some_iff.mp H
  obtain ⟨t284, A40, H⟩ := H
  replace H : (if ((⟨#[4]⟩ : ByteArray) ++ t283).size + t284.size ≤ 9223372036854775807 then ((fascicleref11_Text.f k l0_1).bind fun t285 => (if (((⟨#[4]⟩ : ByteArray) ++ t283) ++ t284).size + t285.size ≤ 9223372036854775807 then ((fascicleref12_Of.f k l0_1).bind fun t286 => ((fascicleref12_Text.f k t286).bind fun t289 => (if ((((⟨#[4]⟩ : ByteArray) ++ t283) ++ t284) ++ t285).size + t289.size ≤ 9223372036854775807 then ((fascicleref09_Seal.f k (((((⟨#[4]⟩ : ByteArray) ++ t283) ++ t284) ++ t285) ++ t289)).bind fun t290 => (some t290)) else (none)))) else (none))) else (none)) = some r := H
  have A4 := Aside0.mk A40
  clear A40
  by_cases c5 : ((⟨#[4]⟩ : ByteArray) ++ t283).size + t284.size ≤ 9223372036854775807
  ·
   rw [if_pos c5] at H
   have c5b0 := eq_true c5
   have c5b1 : decide (((⟨#[4]⟩ : ByteArray) ++ t283).size + t284.size ≤ 9223372036854775807) = true := decide_eq_true c5
   try have c5b2 : (9223372036854775807 < ((⟨#[4]⟩ : ByteArray) ++ t283).size + t284.size) = False := eq_false (Nat.not_lt.2 c5)
   try (have c5b4 := Nat.not_lt.2 c5; simp [ByteArray.size_append, -Nat.not_lt] at c5b4; (try simp only [show ∀ x : UInt8, (⟨#[x]⟩ : ByteArray).size = 1 from fun _ => rfl, show ∀ x y : UInt8, (⟨#[x, y]⟩ : ByteArray).size = 2 from fun _ _ => rfl] at c5b4); have c5b5 := eq_false c5b4)
   replace H := Option.bind_eq_some_iff.mp H
   obtain ⟨t285, A60, H⟩ := H
   replace H : (if (((⟨#[4]⟩ : ByteArray) ++ t283) ++ t284).size + t285.size ≤ 9223372036854775807 then ((fascicleref12_Of.f k l0_1).bind fun t286 => ((fascicleref12_Text.f k t286).bind fun t289 => (if ((((⟨#[4]⟩ : ByteArray) ++ t283) ++ t284) ++ t285).size + t289.size ≤ 9223372036854775807 then ((fascicleref09_Seal.f k (((((⟨#[4]⟩ : ByteArray) ++ t283) ++ t284) ++ t285) ++ t289)).bind fun t290 => (some t290)) else (none)))) else (none)) = some r := H
   have A6 := Aside0.mk A60
   clear A60
   by_cases c7 : (((⟨#[4]⟩ : ByteArray) ++ t283) ++ t284).size + t285.size ≤ 9223372036854775807
   ·
    rw [if_pos c7] at H
    have c7b0 := eq_true c7
    have c7b1 : decide ((((⟨#[4]⟩ : ByteArray) ++ t283) ++ t284).size + t285.size ≤ 9223372036854775807) = true := decide_eq_true c7
    try have c7b2 : (9223372036854775807 < (((⟨#[4]⟩ : ByteArray) ++ t283) ++ t284).size + t285.size) = False := eq_false (Nat.not_lt.2 c7)
    try (have c7b4 := Nat.not_lt.2 c7; simp [ByteArray.size_append, -Nat.not_lt] at c7b4; (try simp only [show ∀ x : UInt8, (⟨#[x]⟩ : ByteArray).size = 1 from fun _ => rfl, show ∀ x y : UInt8, (⟨#[x, y]⟩ : ByteArray).size = 2 from fun _ _ => rfl] at c7b4); have c7b5 := eq_false c7b4)
    replace H := Option.bind_eq_some_iff.mp H
    obtain ⟨t286, A80, H⟩ := H
    replace H : ((fascicleref12_Text.f k t286).bind fun t289 => (if ((((⟨#[4]⟩ : ByteArray) ++ t283) ++ t284) ++ t285).size + t289.size ≤ 9223372036854775807 then ((fascicleref09_Seal.f k (((((⟨#[4]⟩ : ByteArray) ++ t283) ++ t284) ++ t285) ++ t289)).bind fun t290 => (some t290)) else (none))) = some r := H
    have A8 := Aside0.mk A80
    clear A80
    replace H := Option.bind_eq_some_iff.mp H
    obtain ⟨t289, A90, H⟩ := H
    replace H : (if ((((⟨#[4]⟩ : ByteArray) ++ t283) ++ t284) ++ t285).size + t289.size ≤ 9223372036854775807 then ((fascicleref09_Seal.f k (((((⟨#[4]⟩ : ByteArray) ++ t283) ++ t284) ++ t285) ++ t289)).bind fun t290 => (some t290)) else (none)) = some r := H
    have A9 := Aside0.mk A90
    clear A90
    by_cases c10 : ((((⟨#[4]⟩ : ByteArray) ++ t283) ++ t284) ++ t285).size + t289.size ≤ 9223372036854775807
    ·
     rw [if_pos c10] at H
     have c10b0 := eq_true c10
     have c10b1 : decide (((((⟨#[4]⟩ : ByteArray) ++ t283) ++ t284) ++ t285).size + t289.size ≤ 9223372036854775807) = true := decide_eq_true c10
     try have c10b2 : (9223372036854775807 < ((((⟨#[4]⟩ : ByteArray) ++ t283) ++ t284) ++ t285).size + t289.size) = False := eq_false (Nat.not_lt.2 c10)
     try (have c10b4 := Nat.not_lt.2 c10; simp [ByteArray.size_append, -Nat.not_lt] at c10b4; (try simp only [show ∀ x : UInt8, (⟨#[x]⟩ : ByteArray).size = 1 from fun _ => rfl, show ∀ x y : UInt8, (⟨#[x, y]⟩ : ByteArray).size = 2 from fun _ _ => rfl] at c10b4); have c10b5 := eq_false c10b4)
     replace H := Option.bind_eq_some_iff.mp H
     obtain ⟨t290, A110, H⟩ := H
     replace H : (some t290) = some r := H
     have A11 := Aside0.mk A110
     clear A110
     obtain rfl := Option.some.inj H
     go_enter Try.func41, Try.ntmps41
     try go_wp2_with (first | ((with_reducible refine gate_dst (N := 1) rfl ?_); refine box_event ?hg (N := 1) ?hd (cs := #[.int .u32 a0_0, .slice A0_1 l0_1.length c0_1]) (t := 74) ?hr ?_; (case hd => rfl); (case hg => rfl); (case hr => first | (go_simp; done) | (go_simp; rfl)); intro gb282 hg w12 hbox hb; have n0_ := Aside0.mk (below_step (by repeat with_reducible first | exact HB.out | apply below_alloc | apply pw_below_drewN | apply below_drew1) hb); have n1_ := Aside0.mk (hbox); have n2_ := Aside0.mk ((by rw [hg]; exact (below_size (by repeat with_reducible first | exact HB.out | apply below_alloc | apply pw_below_drewN | apply below_drew1)) : w.heap.size ≤ gb282)); have n3_ := Aside0.mk ((by rw [hg]; exact (below_size (by repeat with_reducible first | exact HB.out | apply below_alloc | apply pw_below_drewN | apply below_drew1)) : w.heap.size ≤ gb282)); clear HB; have HB := n0_; have BK282 := n1_; have GW282 := n2_; have GE282 := n3_; clear n0_ n1_ n2_ n3_; clear hb hbox hg))
     have n0_ := Aside0.mk (blk_drew BK282.out)
     have n1_ := Aside0.mk (below_drew1 HB.out)
     clear BK282
     clear HB
     have BK282 := n0_
     have HB := n1_
     clear n0_ n1_
     refine start_ (n := 12) (S := fun w' => w'.cell? ⟨gb282, 0, none⟩ = some (.int .u32 a0_0) ∧ w'.cell? ⟨gb282, 1, none⟩ = some (.slice A0_1 l0_1.length c0_1)) (ds := []) #[false, false, false, false, false, false, false, false, false, false, false, false] (by kernel_rfl) rfl rfl ⟨(blk_cell BK282.out 0).trans rfl, (blk_cell BK282.out 1).trans rfl⟩ (fun hHeld => ?_); refine with_tabW fascicleref13_Text.tab1 fascicleref13_Text.bits1 (fun HT_ HW_ => ?_)
     generalize w12.drew = w13 at BK282 HB hHeld ⊢
     refine pure_ (i := 0) (N := some 4) (v := ?_) (a' := ?_) #[true, false, false, false, false, false, false, false, false, false, false, false] rfl rfl (any_of HT_.out (by kernel_rfl)) (fun _ _ _ h => h) (Or.inl ⟨by rfl, ?_⟩) ?_ ?_
     rotate_left
     ·
      intro w'
      go_simp
      with_reducible rfl
     rotate_left
     ·
      simp only [Act.put, List.setIfInBounds_toArray, List.set_cons_zero, List.set_cons_succ, i64_w, i32_w]
      rfl
     refine pure_ (i := 6) (N := some 10) (v := ?_) (a' := ?_) #[true, false, false, false, false, false, true, false, false, false, false, false] rfl rfl (any_of HT_.out (by kernel_rfl)) (fun _ _ _ h => h) (Or.inl ⟨by rfl, ?_⟩) ?_ ?_
     rotate_left
     ·
      intro w'
      go_simp
      with_reducible rfl
     rotate_left
     ·
      simp only [Act.put, List.setIfInBounds_toArray, List.set_cons_zero, List.set_cons_succ, i64_w, i32_w]
      rfl
     refine take_ (i := 1) (N := some 5) (v := ?_) (a' := ?_) #[true, true, false, false, false, false, true, false, false, false, false, false] rfl rfl (take_ofW HT_.out HW_.out (by kernel_rfl)) (fun _ _ _ h => h) (Or.inl ⟨by rfl, ?_⟩) hHeld ?_ ?_
     rotate_left
     ·
      rintro w' ⟨s0, s1⟩
      go_simp
      with_reducible rfl
     rotate_left
     ·
      simp only [Act.put, List.setIfInBounds_toArray, List.set_cons_zero, List.set_cons_succ, i64_w, i32_w]
      rfl
     refine pure_ (i := 2) (N := some 6) (v := ?_) (a' := ?_) #[true, true, true, false, false, false, true, false, false, false, false, false] rfl rfl (any_of HT_.out (by kernel_rfl)) (fun _ _ _ h => h) (Or.inl ⟨by rfl, ?_⟩) ?_ ?_
     rotate_left
     ·
      intro w'
      go_simp
      with_reducible rfl
     rotate_left
     ·
      simp only [Act.put, List.setIfInBounds_toArray, List.set_cons_zero, List.set_cons_succ, i64_w, i32_w]
      rfl
     refine pure_ (i := 3) (N := some 7) (v := ?_) (a' := ?_) #[true, true, true, true, false, false, true, false, false, false, false, false] rfl rfl (any_of HT_.out (by kernel_rfl)) (fun _ _ _ h => h) (Or.inl ⟨by rfl, ?_⟩) ?_ ?_
     rotate_left
     ·
      intro w'
      go_simp
      with_reducible rfl
     rotate_left
     ·
      simp only [Act.put, List.setIfInBounds_toArray, List.set_cons_zero, List.set_cons_succ, i64_w, i32_w]
      rfl
     refine take_ (i := 7) (N := some 11) (v := ?_) (a' := ?_) #[true, true, true, true, false, false, true, true, false, false, false, false] rfl rfl (take_ofW HT_.out HW_.out (by kernel_rfl)) (fun _ _ _ h => h) (Or.inl ⟨by rfl, ?_⟩) hHeld ?_ ?_
     rotate_left
     ·
      rintro w' ⟨s0, s1⟩
      go_simp
      with_reducible rfl
     rotate_left
     ·
      simp only [Act.put, List.setIfInBounds_toArray, List.set_cons_zero, List.set_cons_succ, i64_w, i32_w]
      rfl
     refine pure_ (i := 8) (N := some 12) (v := ?_) (a' := ?_) #[true, true, true, true, false, false, true, true, true, false, false, false] rfl rfl (any_of HT_.out (by kernel_rfl)) (fun _ _ _ h => h) (Or.inl ⟨by rfl, ?_⟩) ?_ ?_
     rotate_left
     ·
      intro w'
      go_simp
      with_reducible rfl
     rotate_left
     ·
      simp only [Act.put, List.setIfInBounds_toArray, List.set_cons_zero, List.set_cons_succ, i64_w, i32_w]
      rfl
     refine one_ (i := 4) (N := some 8) #[true, true, true, true, true, false, true, true, true, false, false, false] rfl rfl (one_of HT_.out (by kernel_rfl)) (by decide) (fun K hK => ?_)
     refine goes_ Try.func63 (by kernel_rfl) rfl #[.int .u64 (IntKind.u64.wrap ((l0_1.length : Int))), .int .i64 4] (by rfl) rfl rfl (by (try simp only [List.map_toArray, List.map_cons, List.map_nil]); first | done | rfl) ?_
     with_reducible refine (fascicleref01_Num.calls k (IntKind.u64.wrap ((l0_1.length : Int))) 4 t283 _ A2.out).mono ?_
     rintro e w14 ⟨rfl, hb⟩
     refine ⟨_, rfl, ?_⟩
     have n0_ := Aside0.mk (blk_below (g := gb282) (o := .cells #[.int .u32 a0_0, .slice A0_1 l0_1.length c0_1] 74 (0, 0)) (by (with_reducible repeat (first | refine blk_drewN ?_ _ | refine blk_drew ?_ | refine blk_alloc ?_ _)); exact BK282.out) hb)
     have n1_ := Aside0.mk (below_step (by repeat with_reducible first | exact HB.out | apply below_alloc | apply pw_below_drewN | apply below_drew1 | refine below_set ?_ GE282.out) hb)
     clear BK282
     clear HB
     have BK282 := n0_
     have HB := n1_
     clear n0_ n1_
     (try clear hb)
     (try clear hb2)
     (try clear hk)
     (try clear hi)
     refine hK.out _ _ ⟨(blk_cell BK282.out 0).trans rfl, (blk_cell BK282.out 1).trans rfl⟩ (fun hHeld => ?_)
     clear hK K
     refine norm_ (a' := ?_) ?_ ?_
     rotate_left
     ·
      show Act.put _ (some 8) _ = _
      simp only [Act.put, List.setIfInBounds_toArray, List.set_cons_zero, List.set_cons_succ, i64_w, i32_w]
      rfl
     refine pure_ (i := 5) (N := some 9) (v := ?_) (a' := ?_) #[true, true, true, true, true, true, true, true, true, false, false, false] rfl rfl (any_of HT_.out (by kernel_rfl)) (fun _ _ _ h => h) (Or.inl ⟨by rfl, ?_⟩) ?_ ?_
     rotate_left
     ·
      intro w'
      go_simp
      with_reducible rfl
     rotate_left
     ·
      simp only [Act.put, List.setIfInBounds_toArray, List.set_cons_zero, List.set_cons_succ, i64_w, i32_w]
      rfl
     refine one_ (i := 9) (N := some 13) #[true, true, true, true, true, true, true, true, true, true, false, false] rfl rfl (one_of HT_.out (by kernel_rfl)) (by decide) (fun K hK => ?_)
     refine goes_ Try.func63 (by kernel_rfl) rfl #[.int .u64 (IntKind.u64.wrap (a0_0)), .int .i64 4] (by rfl) rfl rfl (by (try simp only [List.map_toArray, List.map_cons, List.map_nil]); first | done | rfl) ?_
     with_reducible refine (fascicleref01_Num.calls k (IntKind.u64.wrap (a0_0)) 4 t284 _ A4.out).mono ?_
     rintro e w15 ⟨rfl, hb⟩
     refine ⟨_, rfl, ?_⟩
     have n0_ := Aside0.mk (blk_below (g := gb282) (o := .cells #[.int .u32 a0_0, .slice A0_1 l0_1.length c0_1] 74 (0, 0)) (by (with_reducible repeat (first | refine blk_drewN ?_ _ | refine blk_drew ?_ | refine blk_alloc ?_ _)); exact BK282.out) hb)
     have n1_ := Aside0.mk (below_step (by repeat with_reducible first | exact HB.out | apply below_alloc | apply pw_below_drewN | apply below_drew1 | refine below_set ?_ GE282.out) hb)
     clear BK282
     clear HB
     have BK282 := n0_
     have HB := n1_
     clear n0_ n1_
     (try clear hb)
     (try clear hb2)
     (try clear hk)
     (try clear hi)
     refine hK.out _ _ ⟨(blk_cell BK282.out 0).trans rfl, (blk_cell BK282.out 1).trans rfl⟩ (fun hHeld => ?_)
     clear hK K
     refine norm_ (a' := ?_) ?_ ?_
     rotate_left
     ·
      show Act.put _ (some 13) _ = _
      simp only [Act.put, List.setIfInBounds_toArray, List.set_cons_zero, List.set_cons_succ, i64_w, i32_w]
      rfl
     refine pure_ (i := 10) (N := some 14) (v := ?_) (a' := ?_) #[true, true, true, true, true, true, true, true, true, true, true, false] rfl rfl (any_of HT_.out (by kernel_rfl)) (fun _ _ _ h => h) (Or.inl ⟨by rfl, ?_⟩) ?_ ?_
     rotate_left
     ·
      intro w'
      go_simp
      with_reducible rfl
     rotate_left
     ·
      simp only [Act.put, List.setIfInBounds_toArray, List.set_cons_zero, List.set_cons_succ, i64_w, i32_w]
      rfl
     refine pure_ (i := 11) (N := some 3) (v := ?_) (a' := ?_) #[true, true, true, true, true, true, true, true, true, true, true, true] rfl rfl (any_of HT_.out (by kernel_rfl)) (fun _ _ _ h => h) (Or.inl ⟨by rfl, ?_⟩) ?_ ?_
     rotate_left
     ·
      intro w'
      go_simp
      with_reducible rfl
     rotate_left
     ·
      simp only [Act.put, List.setIfInBounds_toArray, List.set_cons_zero, List.set_cons_succ, i64_w, i32_w]
      rfl
     refine done_ (done_of HT_.out (by kernel_rfl)) ?_
     try go_wp2
     have n0_ := Aside0.mk (blk_drew BK282.out)
     have n1_ := Aside0.mk (below_drew1 HB.out)
     clear BK282
     clear HB
     have BK282 := n0_
     have HB := n1_
     clear n0_ n1_
     refine start_ (n := 12) (S := fun w' => w'.cell? ⟨gb282, 0, none⟩ = some (.int .u32 a0_0) ∧ w'.cell? ⟨gb282, 1, none⟩ = some (.slice A0_1 l0_1.length c0_1)) (ds := []) #[false, false, false, false, false, false, false, false, false, false, false, false] (by kernel_rfl) rfl rfl ⟨(blk_cell BK282.out 0).trans rfl, (blk_cell BK282.out 1).trans rfl⟩ (fun hHeld => ?_); refine with_tabW fascicleref13_Text.tab2 fascicleref13_Text.bits2 (fun HT_ HW_ => ?_)
     generalize w15.drew = w16 at BK282 HB hHeld ⊢
     refine pure_ (i := 0) (N := some 15) (v := ?_) (a' := ?_) #[true, false, false, false, false, false, false, false, false, false, false, false] rfl rfl (any_of HT_.out (by kernel_rfl)) (fun _ _ _ h => h) (Or.inl ⟨by rfl, ?_⟩) ?_ ?_
     rotate_left
     ·
      intro w'
      go_simp
      with_reducible rfl
     rotate_left
     ·
      simp only [Act.put, List.setIfInBounds_toArray, List.set_cons_zero, List.set_cons_succ, i64_w, i32_w]
      rfl
     refine pure_ (i := 1) (N := some 16) (v := ?_) (a' := ?_) #[true, true, false, false, false, false, false, false, false, false, false, false] rfl rfl (any_of HT_.out (by kernel_rfl)) (fun _ _ _ h => h) (Or.inl ⟨by rfl, ?_⟩) ?_ ?_
     rotate_left
     ·
      intro w'
      go_simp
      with_reducible rfl
     rotate_left
     ·
      simp only [Act.put, List.setIfInBounds_toArray, List.set_cons_zero, List.set_cons_succ, i64_w, i32_w]
      rfl
     refine pure_ (i := 5) (N := some 20) (v := ?_) (a' := ?_) #[true, true, false, false, false, true, false, false, false, false, false, false] rfl rfl (any_of HT_.out (by kernel_rfl)) (fun _ _ _ h => h) (Or.inl ⟨by rfl, ?_⟩) ?_ ?_
     rotate_left
     ·
      intro w'
      go_simp
      with_reducible rfl
     rotate_left
     ·
      simp only [Act.put, List.setIfInBounds_toArray, List.set_cons_zero, List.set_cons_succ, i64_w, i32_w]
      rfl
     refine take_ (i := 2) (N := some 17) (v := ?_) (a' := ?_) #[true, true, true, false, false, true, false, false, false, false, false, false] rfl rfl (take_ofW HT_.out HW_.out (by kernel_rfl)) (fun _ _ _ h => h) (Or.inl ⟨by rfl, ?_⟩) hHeld ?_ ?_
     rotate_left
     ·
      rintro w' ⟨s0, s1⟩
      go_simp
      with_reducible rfl
     rotate_left
     ·
      simp only [Act.put, List.setIfInBounds_toArray, List.set_cons_zero, List.set_cons_succ, i64_w, i32_w]
      rfl
     refine take_ (i := 6) (N := some 21) (v := ?_) (a' := ?_) #[true, true, true, false, false, true, true, false, false, false, false, false] rfl rfl (take_ofW HT_.out HW_.out (by kernel_rfl)) (fun _ _ _ h => h) (Or.inl ⟨by rfl, ?_⟩) hHeld ?_ ?_
     rotate_left
     ·
      rintro w' ⟨s0, s1⟩
      go_simp
      with_reducible rfl
     rotate_left
     ·
      simp only [Act.put, List.setIfInBounds_toArray, List.set_cons_zero, List.set_cons_succ, i64_w, i32_w]
      rfl
     refine one_ (i := 3) (N := some 18) #[true, true, true, true, false, true, true, false, false, false, false, false] rfl rfl (one_of HT_.out (by kernel_rfl)) (by decide) (fun K hK => ?_)
     refine goes_ Try.func97 (by kernel_rfl) rfl #[.slice A0_1 l0_1.length c0_1] (by rfl) rfl rfl (by (try simp only [List.map_toArray, List.map_cons, List.map_nil]); first | done | rfl) ?_
     with_reducible refine (fascicleref11_Text.calls k _ _ l0_1 t285 _ ?side1 ?side2 A6.out).mono ?_
     (case side1 => repeat (first | exact (Kd.C_below HR0_1.out HB.out) | (with_reducible refine Kd.C_alloc ?_ _) | (with_reducible refine Kd.C_drewN ?_ _) | (with_reducible refine Kd.C_drew ?_)))
     (case side2 => exact HC0_1.out)
     rintro e w17 ⟨rfl, hb⟩
     refine ⟨_, rfl, ?_⟩
     have n0_ := Aside0.mk (blk_below (g := gb282) (o := .cells #[.int .u32 a0_0, .slice A0_1 l0_1.length c0_1] 74 (0, 0)) (by (with_reducible repeat (first | refine blk_drewN ?_ _ | refine blk_drew ?_ | refine blk_alloc ?_ _)); exact BK282.out) hb)
     have n1_ := Aside0.mk (below_step (by repeat with_reducible first | exact HB.out | apply below_alloc | apply pw_below_drewN | apply below_drew1 | refine below_set ?_ GE282.out) hb)
     clear BK282
     clear HB
     have BK282 := n0_
     have HB := n1_
     clear n0_ n1_
     (try clear hb)
     (try clear hb2)
     (try clear hk)
     (try clear hi)
     refine hK.out _ _ ⟨(blk_cell BK282.out 0).trans rfl, (blk_cell BK282.out 1).trans rfl⟩ (fun hHeld => ?_)
     clear hK K
     refine norm_ (a' := ?_) ?_ ?_
     rotate_left
     ·
      show Act.put _ (some 18) _ = _
      simp only [Act.put, List.setIfInBounds_toArray, List.set_cons_zero, List.set_cons_succ, i64_w, i32_w]
      rfl
     refine pure_ (i := 4) (N := some 19) (v := ?_) (a' := ?_) #[true, true, true, true, true, true, true, false, false, false, false, false] rfl rfl (any_of HT_.out (by kernel_rfl)) (fun _ _ _ h => h) (Or.inl ⟨by rfl, ?_⟩) ?_ ?_
     rotate_left
     ·
      intro w'
      go_simp
      with_reducible rfl
     rotate_left
     ·
      simp only [Act.put, List.setIfInBounds_toArray, List.set_cons_zero, List.set_cons_succ, i64_w, i32_w]
      rfl
     refine one_ (i := 7) (N := some 22) #[true, true, true, true, true, true, true, true, false, false, false, false] rfl rfl (one_of HT_.out (by kernel_rfl)) (by decide) (fun K hK => ?_)
     refine goes_ Try.func90 (by kernel_rfl) rfl #[.slice A0_1 l0_1.length c0_1] (by rfl) rfl rfl (by (try simp only [List.map_toArray, List.map_cons, List.map_nil]); first | done | rfl) ?_
     with_reducible refine (fascicleref12_Of.calls k _ _ l0_1 t286 _ ?side1 ?side2 A8.out).mono ?_
     (case side1 => repeat (first | exact (Kd.C_below HR0_1.out HB.out) | (with_reducible refine Kd.C_alloc ?_ _) | (with_reducible refine Kd.C_drewN ?_ _) | (with_reducible refine Kd.C_drew ?_)))
     (case side2 => exact HC0_1.out)
     rintro e w18 ⟨v287, rfl, ho0, hb⟩
     refine ⟨_, rfl, ?_⟩
     have n0_ := Aside0.mk (Kd.R_lower ho0 (below_size (by repeat with_reducible first | exact HB.out | apply below_alloc | apply pw_below_drewN | apply below_drew1 | refine below_set ?_ GE282.out)))
     have n1_ := Aside0.mk (blk_below (g := gb282) (o := .cells #[.int .u32 a0_0, .slice A0_1 l0_1.length c0_1] 74 (0, 0)) (by (with_reducible repeat (first | refine blk_drewN ?_ _ | refine blk_drew ?_ | refine blk_alloc ?_ _)); exact BK282.out) hb)
     have n2_ := Aside0.mk (below_step (by repeat with_reducible first | exact HB.out | apply below_alloc | apply pw_below_drewN | apply below_drew1 | refine below_set ?_ GE282.out) hb)
     clear BK282
     clear HB
     have HO288 := n0_
     have BK282 := n1_
     have HB := n2_
     clear n0_ n1_ n2_
     (try clear hb)
     (try clear hb2)
     (try clear hk)
     (try clear hi)
     (try clear ho0)
     obtain ⟨Ao19, co19, eo19⟩ := Kd.R_slice HO288.out
     (first | subst eo19 | (injection eo19 with f1_ f2_ f3_; have f4_ := f1_.symm; have f5_ := f3_.symm; clear f1_ f2_ f3_; subst f4_; subst f5_))
     refine hK.out _ _ ⟨(blk_cell BK282.out 0).trans rfl, (blk_cell BK282.out 1).trans rfl⟩ (fun hHeld => ?_)
     clear hK K
     refine norm_ (a' := ?_) ?_ ?_
     rotate_left
     ·
      show Act.put _ (some 22) _ = _
      simp only [Act.put, List.setIfInBounds_toArray, List.set_cons_zero, List.set_cons_succ, i64_w, i32_w]
      rfl
     refine one_ (i := 8) (N := some 23) #[true, true, true, true, true, true, true, true, true, false, false, false] rfl rfl (one_of HT_.out (by kernel_rfl)) (by decide) (fun K hK => ?_)
     refine goes_ Try.func89 (by kernel_rfl) rfl #[.slice Ao19 t286.length co19] (by rfl) rfl rfl (by (try simp only [List.map_toArray, List.map_cons, List.map_nil]); first | done | rfl) ?_
     with_reducible refine (fascicleref12_Text.calls k _ _ t286 t289 _ ?side1 ?side2 A9.out).mono ?_
     (case side1 => repeat (first | exact (Kd.R_reads' HO288.out).2.2 | (with_reducible refine Kd.C_alloc ?_ _) | (with_reducible refine Kd.C_drewN ?_ _) | (with_reducible refine Kd.C_drew ?_)))
     (case side2 => exact (Kd.R_reads' HO288.out).2.1)
     rintro e w20 ⟨rfl, hb⟩
     refine ⟨_, rfl, ?_⟩
     have n0_ := Aside0.mk (Kd.R_below (by (with_reducible repeat (first | apply Kd.R_alloc | apply Kd.R_drewN | apply Kd.R_drew)); exact HO288.out) hb)
     have n1_ := Aside0.mk (blk_below (g := gb282) (o := .cells #[.int .u32 a0_0, .slice A0_1 l0_1.length c0_1] 74 (0, 0)) (by (with_reducible repeat (first | refine blk_drewN ?_ _ | refine blk_drew ?_ | refine blk_alloc ?_ _)); exact BK282.out) hb)
     have n2_ := Aside0.mk (below_step (by repeat with_reducible first | exact HB.out | apply below_alloc | apply pw_below_drewN | apply below_drew1 | refine below_set ?_ GE282.out) hb)
     clear HO288
     clear BK282
     clear HB
     have HO288 := n0_
     have BK282 := n1_
     have HB := n2_
     clear n0_ n1_ n2_
     (try clear hb)
     (try clear hb2)
     (try clear hk)
     (try clear hi)
     refine hK.out _ _ ⟨(blk_cell BK282.out 0).trans rfl, (blk_cell BK282.out 1).trans rfl⟩ (fun hHeld => ?_)
     clear hK K
     refine norm_ (a' := ?_) ?_ ?_
     rotate_left
     ·
      show Act.put _ (some 23) _ = _
      simp only [Act.put, List.setIfInBounds_toArray, List.set_cons_zero, List.set_cons_succ, i64_w, i32_w]
      rfl
     refine pure_ (i := 9) (N := some 24) (v := ?_) (a' := ?_) #[true, true, true, true, true, true, true, true, true, true, false, false] rfl rfl (any_of HT_.out (by kernel_rfl)) (fun _ _ _ h => h) (Or.inl ⟨by rfl, ?_⟩) ?_ ?_
     rotate_left
     ·
      intro w'
      go_simp
      with_reducible rfl
     rotate_left
     ·
      simp only [Act.put, List.setIfInBounds_toArray, List.set_cons_zero, List.set_cons_succ, i64_w, i32_w]
      rfl
     refine one_ (i := 10) (N := some 25) #[true, true, true, true, true, true, true, true, true, true, true, false] rfl rfl (one_of HT_.out (by kernel_rfl)) (by decide) (fun K hK => ?_)
     refine goes_ Try.func22 (by kernel_rfl) rfl #[.string (((((⟨#[4]⟩ : ByteArray) ++ t283) ++ t284) ++ t285) ++ t289)] (by rfl) rfl rfl (by (try simp only [List.map_toArray, List.map_cons, List.map_nil]); first | done | rfl) ?_
     with_reducible refine (fascicleref09_Seal.calls k (((((⟨#[4]⟩ : ByteArray) ++ t283) ++ t284) ++ t285) ++ t289) t290 _ A11.out).mono ?_
     rintro e w21 ⟨rfl, hb⟩
     refine ⟨_, rfl, ?_⟩
     have n0_ := Aside0.mk (Kd.R_below (by (with_reducible repeat (first | apply Kd.R_alloc | apply Kd.R_drewN | apply Kd.R_drew)); exact HO288.out) hb)
     have n1_ := Aside0.mk (blk_below (g := gb282) (o := .cells #[.int .u32 a0_0, .slice A0_1 l0_1.length c0_1] 74 (0, 0)) (by (with_reducible repeat (first | refine blk_drewN ?_ _ | refine blk_drew ?_ | refine blk_alloc ?_ _)); exact BK282.out) hb)
     have n2_ := Aside0.mk (below_step (by repeat with_reducible first | exact HB.out | apply below_alloc | apply pw_below_drewN | apply below_drew1 | refine below_set ?_ GE282.out) hb)
     clear HO288
     clear BK282
     clear HB
     have HO288 := n0_
     have BK282 := n1_
     have HB := n2_
     clear n0_ n1_ n2_
     (try clear hb)
     (try clear hb2)
     (try clear hk)
     (try clear hi)
     refine hK.out _ _ ⟨(blk_cell BK282.out 0).trans rfl, (blk_cell BK282.out 1).trans rfl⟩ (fun hHeld => ?_)
     clear hK K
     refine norm_ (a' := ?_) ?_ ?_
     rotate_left
     ·
      show Act.put _ (some 25) _ = _
      simp only [Act.put, List.setIfInBounds_toArray, List.set_cons_zero, List.set_cons_succ, i64_w, i32_w]
      rfl
     refine pure_ (i := 11) (N := some 2) (v := ?_) (a' := ?_) #[true, true, true, true, true, true, true, true, true, true, true, true] rfl rfl (any_of HT_.out (by kernel_rfl)) (fun _ _ _ h => h) (Or.inl ⟨by rfl, ?_⟩) ?_ ?_
     rotate_left
     ·
      intro w'
      go_simp
      with_reducible rfl
     rotate_left
     ·
      simp only [Act.put, List.setIfInBounds_toArray, List.set_cons_zero, List.set_cons_succ, i64_w, i32_w]
      rfl
     refine done_ (done_of HT_.out (by kernel_rfl)) ?_
     try go_wp2
     go_ret
     exact ⟨by first | rfl | (simp [errW_none, errW_some] <;> rfl) | (simp [*, errW_none, errW_some] <;> rfl), by repeat (first | (with_reducible first | exact HB.out | apply below_alloc | apply pw_below_drewN | apply below_drew1 | refine below_set ?_ GE282.out) | exact HB.out)⟩
    ·
     rw [if_neg c10] at H
     exact absurd H (by simp)
   ·
    rw [if_neg c7] at H
    exact absurd H (by simp)
  ·
   rw [if_neg c5] at H
   exact absurd H (by simp)
 ·
  rw [if_neg c3] at H
  exact absurd H (by simp)
end Go.Proofs.Ytekanmieppnpeaa.G
end
section
namespace Go.Proofs.Ytekanmieppnpeaa.Tb
open Go Go.RowKit Go.Proofs.YtekanmieppnpeaaW.PrintWords Go.Proofs.YtekanmieppnpeaaW.PrintLast Go.Proofs.YtekanmieppnpeaaW.PrintMore Go.Proofs.Ytekanmieppnpeaa.Sep Go.Proofs.Ytekanmieppnpeaa.G
abbrev E1 := S33
abbrev kE : Kd E1 := k33
def orI (a b : Int) : Int := if a ≠ 0 then a else b
def cmpE (x y : Int × Int) : Int := orI (Go.Lib.compareInt x.1 y.1) (Go.Lib.compareInt x.2 y.2)
def cfE (x y : E1) : Int := cmpE (x.f0, x.f1) (y.f0, y.f1)
def lessE (x y : E1) : Prop := x.f0 < y.f0 ∨ x.f0 = y.f0 ∧ x.f1 < y.f1
instance (x y : E1) : Decidable (lessE x y) := by unfold lessE; infer_instance
theorem cfE_lt {x y : E1} (h : lessE x y) : cfE x y = -1 := by
 unfold cfE cmpE orI Go.Lib.compareInt
 rcases h with h | ⟨h1, h2⟩
 ·
  simp [h]
 ·
  simp [h1, h2]
theorem cfE_gt {x y : E1} (h : lessE y x) : cfE x y = 1 := by
 unfold cfE cmpE orI Go.Lib.compareInt
 rcases h with h | ⟨h1, h2⟩
 ·
  have : ¬ x.f0 < y.f0 := by omega
  simp [h, this]
 ·
  have : ¬ x.f1 < y.f1 := by omega
  simp [h1, h2, this]
theorem lessE_tri (x y : E1) : lessE x y ∨ x = y ∨ lessE y x := by
 unfold lessE
 by_cases h1 : x.f0 < y.f0
 ·
  exact .inl (.inl h1)
 by_cases h2 : y.f0 < x.f0
 ·
  exact .inr (.inr (.inl h2))
 by_cases h3 : x.f1 < y.f1
 ·
  exact .inl (.inr ⟨by omega, h3⟩)
 by_cases h4 : y.f1 < x.f1
 ·
  exact .inr (.inr (.inr ⟨by omega, h4⟩))
 ·
  refine .inr (.inl ?_)
  cases x; cases y
  simp only at h1 h2 h3 h4
  congr 1 <;> omega
theorem cfE_same (x : E1) : cfE x x = 0 := by
 unfold cfE cmpE orI Go.Lib.compareInt
 simp
instance : DecidableEq E1 := fun x y => decidable_of_iff (x.f0 = y.f0 ∧ x.f1 = y.f1) ⟨fun h => by cases x; cases y; simp only at h; rw [h.1, h.2], fun h => by rw [h]; exact ⟨rfl, rfl⟩⟩
end Go.Proofs.Ytekanmieppnpeaa.Tb
end
section
namespace Go.Proofs.Ytekanmieppnpeaa.Tb
open Go Go.RowKit Go.Proofs.Ytekanmieppnpeaa.G Go.Proofs.YtekanmieppnpeaaW.PrintWords Go.Proofs.YtekanmieppnpeaaW.PrintLast Go.Proofs.YtekanmieppnpeaaW.PrintMore Go.Proofs.Ytekanmieppnpeaa.PureKit
theorem ev_eq {α : Type} {g : Nat → Option α} {a b : α} (h : Ev g a) (e : a = b) : Ev g b := e ▸ h
theorem rdE (l : List E1) (i : Nat) (x : E1) (h : l[i]? = some x) : rd_T33 l (i : Int) = x := by
 unfold rd_T33
 rw [Int.toNat_natCast, List.getD_eq_getElem?_getD, h]; rfl
theorem inc64 {i : Nat} (h : i < 1000000000) : wrap64 ((i : Int) + 1) = ((i + 1 : Nat) : Int) := by rw [w64 (by omega) (by omega)]; omega
theorem dec64 {i : Nat} (h : i < 1000000000) : wrap64 (((i + 1 : Nat) : Int) - 1) = (i : Int) := by rw [w64 (by omega) (by omega)]; omega
theorem drop_at {α : Type} {l : List α} {i : Nat} {x : α} (h : l[i]? = some x) : l.drop i = x :: l.drop (i + 1) := by
 have hl := (List.getElem?_eq_some_iff.1 h).1
 rw [List.drop_eq_getElem_cons hl]
 congr 1
 exact (List.getElem?_eq_some_iff.1 h).2
def riseN (l : List E1) : Nat → Nat → Bool
 | 0, _ => true
 | d + 1, i => match l[i]?, l[i + 1]? with
  | some x, some y => if lessE x y then riseN l d (i + 1) else false
  | _, _ => true
def riseE (l : List E1) : Bool := riseN l (l.length - 1) 0
theorem cmp64 (x y : Int) : cmp_Compare_uint64.f x y = some (Go.Lib.compareInt x y) := by
 unfold cmp_Compare_uint64.f cmp_isNaN_uint64.f Go.Lib.compareInt
 simp only [bne_self_eq_false, Option.bind_some, Bool.false_eq_true, if_false]
 split
 ·
  rfl
 ·
  split <;> first | rfl | omega
theorem cmp32 (x y : Int) : cmp_Compare_uint32.f x y = some (Go.Lib.compareInt x y) := by
 unfold cmp_Compare_uint32.f cmp_isNaN_uint32.f Go.Lib.compareInt
 simp only [bne_self_eq_false, Option.bind_some, Bool.false_eq_true, if_false]
 split
 ·
  rfl
 ·
  split <;> first | rfl | omega
theorem or_ev (a b : Int) : Ev (fun k => cmp_Or_int.f k [a, b]) (orI a b) := by
 unfold cmp_Or_int.f orI
 by_cases ha : a = 0
 ·
  subst ha
  refine Ev.step (f := fun k => cmp_Or_int.l0 k 0 [0, b] 2 1) (fun k => by simp only [cmp_Or_int.l0]; rw [if_pos (by simp), if_pos (by decide), if_pos (by simp), if_pos (show rd [0, b] 0 = 0 from rfl), show wrap64 (0 + 1) = 1 from inc64 (i := 0) (by decide)]; rfl) ?_
  by_cases hb : b = 0
  ·
   subst hb
   refine Ev.step (f := fun k => cmp_Or_int.l0 k 0 [0, 0] 2 2) (fun k => by simp only [cmp_Or_int.l0]; rw [if_pos (by decide), if_pos (by decide), if_pos (by simp), if_pos (show rd [0, 0] 1 = 0 from rfl), show wrap64 (1 + 1) = 2 from inc64 (i := 1) (by decide)]) ?_
   refine Ev.step (f := fun k => some 0) (fun k => by simp only [cmp_Or_int.l0]; rfl) (ev_eq (Ev.now _) (by simp))
  ·
   refine Ev.step (f := fun k => some b) (fun k => ?_) (ev_eq (Ev.now _) (by simp))
   simp only [cmp_Or_int.l0]
   rw [if_pos (by decide), if_pos (by decide), if_pos (by simp), show rd [0, b] 1 = b from rfl, if_neg hb]
 ·
  refine Ev.step (f := fun k => some a) (fun k => ?_) (ev_eq (Ev.now _) (by simp [ha]))
  simp only [cmp_Or_int.l0]
  rw [if_pos (by simp), if_pos (by decide), if_pos (by simp), show rd [a, b] 0 = a from rfl, if_neg ha]
theorem compare_ev (x y : E1) : Ev (fun k => table_Compare.f k x.f0 x.f1 y.f0 y.f1) (cfE x y) := by
 refine Ev.congr (f := fun k => (cmp_Or_int.f k [Go.Lib.compareInt x.f0 y.f0, Go.Lib.compareInt x.f1 y.f1]).bind fun t => some t) (fun k => ?_) (Ev.bind (f := fun _ t => some t) (or_ev _ _) (Ev.now _))
 unfold table_Compare.f
 rw [cmp64, Option.bind_some, cmp32, Option.bind_some]
theorem rise_loop (l : List E1) (hl : l.length ≤ 1000000) : ∀ (d i : Nat), i + 1 + d = l.length → Ev (fun k => table_Rising.l0 k l ((i + 1 : Nat) : Int)) (riseN l d i)
 | 0, i, h => by
  refine Ev.step (f := fun _ => some true) (fun k => ?_) (Ev.now _)
  unfold table_Rising.l0
  rw [if_neg (by omega)]
 | d + 1, i, h => by
  obtain ⟨x, hx⟩ : ∃ x, l[i]? = some x := ⟨_, List.getElem?_eq_getElem (by omega)⟩
  obtain ⟨y, hy⟩ : ∃ y, l[i + 1]? = some y := ⟨_, List.getElem?_eq_getElem (by omega)⟩
  refine Ev.step (f := fun k => (table_Compare.f k x.f0 x.f1 y.f0 y.f1).bind fun t => if t ≥ 0 then some false else table_Rising.l0 k l ((i + 1 + 1 : Nat) : Int)) (fun k => ?_) (Ev.bind (f := fun k t => if t ≥ 0 then some false else table_Rising.l0 k l ((i + 1 + 1 : Nat) : Int)) (compare_ev x y) ?_)
  ·
   simp only [table_Rising.l0]
   rw [dec64 (by omega), if_pos (by omega), if_pos (by omega), if_pos (by omega), if_pos (by omega), rdE l i x hx, rdE l (i + 1) y hy, inc64 (by omega)]
  ·
   unfold riseN
   rw [hx, hy]
   dsimp only
   by_cases hxy : lessE x y
   ·
    refine Ev.congr (f := fun k => table_Rising.l0 k l ((i + 1 + 1 : Nat) : Int)) (fun k => ?_) (ev_eq (rise_loop l hl d (i + 1) (by omega)) (if_pos hxy).symm)
    rw [cfE_lt hxy, if_neg (by decide)]
   ·
    refine Ev.congr (f := fun k => some false) (fun k => ?_) (ev_eq (Ev.now _) (if_neg hxy).symm)
    rcases lessE_tri x y with h1 | h1 | h1
    ·
     exact absurd h1 hxy
    ·
     rw [h1, cfE_same, if_pos (by decide)]
    ·
     rw [cfE_gt h1, if_pos (by decide)]
theorem rise_ev (l : List E1) (hl : l.length ≤ 1000000) : Ev (fun k => table_Rising.f k l) (riseE l) := by
 by_cases h : l.length = 0
 ·
  refine Ev.step (f := fun _ => some true) (fun k => ?_) (ev_eq (Ev.now _) (by unfold riseE; rw [h]; rfl))
  unfold table_Rising.f table_Rising.l0
  rw [if_neg (by omega)]
 ·
  exact rise_loop l hl (l.length - 1) 0 (by omega)
end Go.Proofs.Ytekanmieppnpeaa.Tb
end
section
namespace Go.Proofs.Ytekanmieppnpeaa.Tb
open Go Go.RowKit Go.Proofs.YtekanmieppnpeaaW.PrintWords Go.Proofs.YtekanmieppnpeaaW.PrintLast Go.Proofs.YtekanmieppnpeaaW.PrintMore Go.Proofs.Ytekanmieppnpeaa.Sep Go.Proofs.Ytekanmieppnpeaa.G Go.Proofs.Ytekanmieppnpeaa.PureKit
set_option maxHeartbeats 4000000
set_option maxRecDepth 100000
theorem above_call (w0 w : World) (gf n c : Nat) (used : Int) (A : Option Addr) (x : E1) (ps : List HP) (hs : Sep.Sep w0 w (blk gf #[.int .u32 used, .slice A n c] 29 :: ps)) :
  Calls Try.prog 47 #[.agg #[.int .u64 x.f0, .int .u32 x.f1], .pointer (some ⟨gf, 0, none⟩)] w fun e w' => e = .returned (.bool (decide (x.f1 ≥ used))) ∧ Sep.Sep w0 w' (blk gf #[.int .u32 used, .slice A n c] 29 :: ps) := by
 have h1 := hs.alloc #[.int .u64 x.f0, .int .u32 x.f1] 33
 have hS := Aside0.mk h1
 have hc0 : (w.alloc (.cells #[.int .u64 x.f0, .int .u32 x.f1] 33 (0, 0))).cell? ⟨gf, 0, none⟩ = some (.int .u32 used) := (h1.pick1.cell 0).trans rfl
 have hc1 : (w.alloc (.cells #[.int .u64 x.f0, .int .u32 x.f1] 33 (0, 0))).cell? ⟨w.heap.size, 1, none⟩ = some (.int .u32 x.f1) := (h1.cell 1).trans rfl
 clear hs h1
 go_enter Try.func47, Try.ntmps47
 go_wp2_with (fail)
 go_ret
 exact ⟨rfl, hS.out.tail⟩
theorem index_call (w0 w : World) (fid : FuncId) (caps : Array Value) (A : Option Addr) (c : Nat) (l : List E1) (q : E1 → Bool) (ps : List HP)
  (hent : ∀ (args : Array Value) (w : World), (callFunc fid args).run Try.prog w = .ok (.enter fid args) w)
  (hs : Sep.Sep w0 w ps) (hC : kE.C w0 A l.length l) (hl : l.length ≤ 1000000)
  (hcl : ∀ (W : World) (x : E1), Sep.Sep w0 W ps → Calls Try.prog fid (#[.agg #[.int .u64 x.f0, .int .u32 x.f1]] ++ caps) W fun e W' => e = .returned (.bool (q x)) ∧ Sep.Sep w0 W' ps) :
  Calls Try.prog 108 #[.slice A l.length c, .func (.func fid) #[] caps] w fun e w' => ∃ r : Int, e = .returned (.int .i64 r) ∧ decide (r ≥ 0) = l.any q ∧ Sep.Sep w0 w' ps := by
 have hS := Aside0.mk hs
 have hCL := Aside0.mk hcl
 have hCA := Aside0.mk hC
 have hlA := Aside0.mk hl
 clear hs hC hcl hl
 go_enter Try.func108, Try.ntmps108
 go_wp2_with (fail)
 go_loopg [8] l.length (fun kq v8 w' => ∃ (i : Nat), v8 = .int .i64 i ∧ Aside0 (i + kq = l.length) ∧ Aside0 ((l.take i).any q = false) ∧ Aside0 (Sep.Sep w0 w' ps))
 case atStart => exact ⟨0, rfl, ⟨by omega⟩, ⟨rfl⟩, hS⟩
 case round =>
  obtain ⟨i, rfl, hA, hN, hS⟩ := hrel
  by_cases hil : i < l.length
  ·
   obtain ⟨k1, rfl⟩ : ∃ k1, gk = k1 + 1 := ⟨gk - 1, by have := hA.out; omega⟩
   have hd : decide ((i : Int) < (l.length : Int)) = true := decide_eq_true (by omega)
   have hd2 : decide (i < l.length) = true := decide_eq_true hil
   obtain ⟨ad, e0, hx0, hx1⟩ := at_T33 (Kd.C_below hCA.out hS.out.1) (i : Int) (by omega) (by omega)
   subst e0
   rw [Int.toNat_natCast] at hx0 hx1
   obtain ⟨x, hx⟩ : ∃ x, l[i]? = some x := ⟨_, List.getElem?_eq_getElem hil⟩
   rw [rdE l i x hx] at hx0 hx1
   have p0 : (0 : Int) ≤ (i : Int) := by omega
   have q0 : (i : Int) < (l.length : Int) := by omega
   have hcall := Aside0.mk (fun W (hW : Sep.Sep w0 W ps) => hCL.out W x hW)
   have htk : (l.take (i + 1)).any q = ((l.take i).any q || q x) := by
    rw [List.take_add_one, hx, List.any_append]; simp
   have htA := Aside0.mk htk
   have hq1 : wrap64 ((i : Int) + 1) = ((i + 1 : Nat) : Int) := inc64 (by have := hlA.out; omega)
   have hA' : Aside0 (i + 1 + k1 = l.length) := ⟨by have := hA.out; omega⟩
   have hxA := Aside0.mk (show l[i]? = some x from hx)
   clear hil htk hx
   go_wp2_with (fail)
   refine (hcall.out _ hS.out).mono ?_
   rintro e w1 ⟨rfl, h1⟩
   have hS1 := Aside0.mk h1
   clear h1
   cases hq : q x with
   | true =>
    have hany : l.any q = true := List.any_eq_true.2 ⟨x, List.mem_of_getElem? hxA.out, hq⟩
    go_wp2_with (fail)
    go_ret
    exact ⟨_, rfl, by rw [hany]; exact decide_eq_true (by omega), hS1.out⟩
   | false =>
    have hN' : Aside0 ((l.take (i + 1)).any q = false) := ⟨by rw [htA.out, hN.out, hq]; rfl⟩
    go_wp2_with (fail)
    go_roundg k1
    case measure => omega
    case rel => exact ⟨i + 1, by first | rw [hq1] | rfl, hA', hN', hS1⟩
  ·
   have hd : decide ((i : Int) < (l.length : Int)) = false := decide_eq_false (by omega)
   have hd2 : decide (i < l.length) = false := decide_eq_false hil
   have hany : l.any q = false := by
    have := hN.out
    rwa [List.take_of_length_le (by omega)] at this
   clear hil
   go_wp2_with (fail)
   go_ret
   exact ⟨-1, rfl, by rw [hany]; rfl, hS.out⟩
theorem contains_call (w0 w : World) (fid : FuncId) (caps : Array Value) (A : Option Addr) (c : Nat) (l : List E1) (q : E1 → Bool) (ps : List HP)
  (hent : ∀ (args : Array Value) (w : World), (callFunc fid args).run Try.prog w = .ok (.enter fid args) w)
  (hs : Sep.Sep w0 w ps) (hC : kE.C w0 A l.length l) (hl : l.length ≤ 1000000)
  (hcl : ∀ (W : World) (x : E1), Sep.Sep w0 W ps → Calls Try.prog fid (#[.agg #[.int .u64 x.f0, .int .u32 x.f1]] ++ caps) W fun e W' => e = .returned (.bool (q x)) ∧ Sep.Sep w0 W' ps) :
  Calls Try.prog 49 #[.slice A l.length c, .func (.func fid) #[] caps] w fun e w' => e = .returned (.bool (l.any q)) ∧ Sep.Sep w0 w' ps := by
 have hcall := Aside0.mk (index_call w0 w fid caps A c l q ps hent hs hC hl hcl)
 clear hs hC hcl hl
 go_enter Try.func49, Try.ntmps49
 go_wp2_with (fail)
 refine hcall.out.mono ?_
 rintro e w1 ⟨r, rfl, hr, h1⟩
 have hS1 := Aside0.mk h1
 have hrA := Aside0.mk hr
 clear h1 hr
 go_wp2_with (fail)
 go_ret
 exact ⟨by rw [← hrA.out]; rfl, hS1.out⟩
def checkF (used : Int) (l : List E1) : Int := if l.length = 0 then 4 else if riseE l = false then 8 else if (l.any fun x => decide (x.f1 ≥ used)) = true then 4 else 0
theorem check_call (w : World) (A : Option Addr) (c : Nat) (used : Int) (l : List E1) (hC : kE.C w A l.length l) (hc : l.length ≤ c) (hl : l.length ≤ 1000000) :
  Calls Try.prog 17 #[.agg #[.int .u32 used, .slice A l.length c]] w fun e w' => e = .returned (.int .i64 (checkF used l)) ∧ Below w.heap.size w w' := by
 have h1 := (Sep.start w).alloc #[.int .u32 used, .slice A l.length c] 29
 have hS := Aside0.mk h1
 have hCA := Aside0.mk hC
 have hmf : ∀ (fn : Fn) (first cap : Array Value) (w : World), (Instr.makeFunc fn first cap).run Try.prog w = .ok (.func fn first cap) w := fun _ _ _ _ => rfl
 obtain ⟨kr, hkr⟩ := (rise_ev l hl).rounds
 have hR := Aside0.mk (fun W (hb : Below w.heap.size w W) => table_Rising.calls kr A c l _ W (Kd.C_below hC hb) hc hkr)
 have hlA := Aside0.mk hl
 obtain ⟨R, hRe⟩ : ∃ R, riseE l = R := ⟨_, rfl⟩
 rw [hRe] at hR
 obtain ⟨B, hBe⟩ : ∃ B, (l.any fun x => decide (x.f1 ≥ used)) = B := ⟨_, rfl⟩
 have hCt := Aside0.mk (fun W (hW : Sep.Sep w W [blk w.heap.size #[.int .u32 used, .slice A l.length c] 29]) => contains_call w W 47 #[.pointer (some ⟨w.heap.size, 0, none⟩)] A c l (fun x => decide (x.f1 ≥ used)) _ Try.call47 hW hC hl (fun W2 x h2 => above_call w W2 w.heap.size l.length c used A x [] h2))
 rw [hBe] at hCt
 have hval : checkF used l = if l.length = 0 then 4 else if R = false then 8 else if B = true then 4 else 0 := by unfold checkF; rw [hRe, hBe]
 rw [hval]
 have hc0 : (w.alloc (.cells #[.int .u32 used, .slice A l.length c] 29 (0, 0))).cell? ⟨w.heap.size, 0, none⟩ = some (.int .u32 used) := (h1.cell 0).trans rfl
 have hc1 : (w.alloc (.cells #[.int .u32 used, .slice A l.length c] 29 (0, 0))).cell? ⟨w.heap.size, 1, none⟩ = some (.slice A l.length c) := (h1.cell 1).trans rfl
 clear h1 hC hc hkr hRe hBe hval hl
 by_cases h0 : l.length = 0
 ·
  have e1 : ((l.length : Int) == 0) = true := beq_iff_eq.2 (by omega)
  have e2 : (l.length == 0) = true := beq_iff_eq.2 h0
  have e3 : decide (l.length = 0) = true := decide_eq_true h0
  rw [if_pos h0]
  clear hR hCt h0
  go_enter Try.func17, Try.ntmps17
  go_wp2_with (fail)
  go_ret
  exact ⟨rfl, hS.out.1⟩
 ·
  rw [if_neg h0]
  have e1 : ((l.length : Int) == 0) = false := beq_eq_false_iff_ne.2 (by omega)
  have e2 : (l.length == 0) = false := beq_eq_false_iff_ne.2 h0
  have e3 : decide (l.length = 0) = false := decide_eq_false h0
  have e4 : decide ((l.length : Int) > 1048576) = false := decide_eq_false (by have := hlA.out; omega)
  have e5 : decide (l.length > 1048576) = false := decide_eq_false (by have := hlA.out; omega)
  go_enter Try.func17, Try.ntmps17
  clear h0
  go_wp2_with (fail)
  refine (hR.out _ hS.out.1).mono ?_
  rintro e w1 ⟨rfl, hb⟩
  have hS1 := Aside0.mk (hS.out.below hb)
  have hd1 : w1.cell? ⟨w.heap.size, 1, none⟩ = some (.slice A l.length c) := (hS1.out.cell 1).trans rfl
  clear hb
  cases R with
  | false =>
   go_wp2_with (fail)
   go_ret
   exact ⟨rfl, hS1.out.1⟩
  | true =>
   go_wp2_with (fail)
   refine (hCt.out _ hS1.out).mono ?_
   rintro e w2 ⟨rfl, h2⟩
   have hS2 := Aside0.mk h2
   clear h2
   cases B with
   | true =>
    go_wp2_with (fail)
    go_ret
    exact ⟨rfl, hS2.out.1⟩
   | false =>
    go_wp2_with (fail)
    go_ret
    exact ⟨rfl, hS2.out.1⟩
end Go.Proofs.Ytekanmieppnpeaa.Tb
namespace Go.Proofs.Ytekanmieppnpeaa.G
open Go Go.RowKit Go.Proofs.YtekanmieppnpeaaW.PrintWords Go.Proofs.YtekanmieppnpeaaW.PrintLast Go.Proofs.YtekanmieppnpeaaW.PrintMore Go.Proofs.Ytekanmieppnpeaa.Sep Go.Proofs.Ytekanmieppnpeaa.Tb
def footer_Check.f (a0_0 : Int) (l0_1 : List (S33)) : Option Int := if l0_1.length ≤ 1000000 then some (checkF a0_0 l0_1) else none
theorem footer_Check.calls (a0_0 : Int) (A0_1 : Option Addr) (c0_1 : Nat) (l0_1 : List (S33)) (r : Int) (w : World) (hr0_1 : Kd.C k33 w A0_1 l0_1.length l0_1) (hc0_1 : l0_1.length ≤ c0_1) (h : footer_Check.f a0_0 l0_1 = some r) :
  Calls Try.prog 17 #[.agg #[.int .u32 a0_0, .slice A0_1 l0_1.length c0_1]] w fun e w' => e = .returned (.int .i64 r) ∧ Below w.heap.size w w' := by
 unfold footer_Check.f at h
 split at h
 ·
  rename_i hl
  cases Option.some.inj h
  exact check_call w A0_1 c0_1 a0_0 l0_1 hr0_1 hc0_1 hl
 ·
  cases h
end Go.Proofs.Ytekanmieppnpeaa.G
end
section
namespace Go.Proofs.Ytekanmieppnpeaa.G
open Go.RowKit Go.Proofs.YtekanmieppnpeaaW.PrintWords Go.Proofs.YtekanmieppnpeaaW.PrintLast Go.Proofs.YtekanmieppnpeaaW.PrintMore
attribute [local go_sem] max2_int min2_int max_two min_two max_three min_three max_four min_four
theorem info5' : (Try.prog.info? 5).map (fun i => (i.zero, i.size, i.bytes)) = some (some (.int .u8 0), 1, 1) := by kernel_rfl
theorem C_none {d : Kd Int} {w : World} {l : List Int} (h : Kd.C d w none l.length l) : l = [] := by
 obtain ⟨_, _, h3⟩ := h
 rcases l with _ | ⟨x, l⟩
 ·
  rfl
 ·
  obtain ⟨ad, e, _⟩ := h3 (by simp)
  cases e
def bytes_Clone.f (l0 : List Int) : Option (List Int) := if l0.length < 140737488355328 then some l0 else none
set_option maxHeartbeats 1000000 in
set_option maxRecDepth 100000 in
theorem bytes_Clone.calls {n : Nat} (A0 : Option Addr) (c0 : Nat) (l0 : List Int) (r : List Int) (w : World) (hr0 : Kd.C (Kd.int .u8) w A0 l0.length l0) (hc0 : l0.length ≤ c0) (h : bytes_Clone.f l0 = some r)
  (hn : n = l0.length := by first | rfl | (simp only [List.length_drop, List.length_take]; rfl) | (simp only [List.length_drop, List.length_take]; (try simp only [decide_eq_true_eq, eq_iff_iff, iff_true] at *); omega)) :
  Calls Try.prog 111 #[.slice A0 n c0] w fun e w' => ∃ v0_ : Value, e = .returned (v0_) ∧ Kd.R (Kd.int .u8) 5 w' w.heap.size (fun _ => True) v0_ r ∧ Below w.heap.size w w' := by
 subst hn
 have HR0 := Aside0.mk hr0
 have HC0 := Aside0.mk hc0
 clear hr0 hc0
 unfold bytes_Clone.f at h
 by_cases hl : l0.length < 140737488355328
 ·
  rw [if_pos hl] at h
  obtain rfl := Option.some.inj h
  have LM := Aside0.mk hl
  clear h hl
  have HB := Aside0.mk (Below.refl w.heap.size w)
  cases A0 with
  | none =>
   obtain rfl := C_none HR0.out
   have hnil := fun (wx : World) => Lib.run_eql_slice_nil (P := Try.prog) wx 39 5 none 0 c0 0 0 Try.underlying39
   simp only [List.length_nil]
   go_enter Try.func111, Try.ntmps111
   go_wp2
   go_ret
   exact ⟨_, rfl, Kd.R_nil _ _ _ _ _, HB.out⟩
  | some ad =>
   have hnil := fun (wx : World) => Lib.run_eql_slice_nil (P := Try.prog) wx 39 5 (some ad) l0.length c0 0 0 Try.underlying39
   go_enter Try.func111, Try.ntmps111
   go_wp2_with (first | ((with_reducible refine gate_dst (N := 5) rfl ?_); refine Kd.R_lit (Kd.int .u8) _ 5 ?hg (N := 5) ?hd (xs := ([] : List Int)) (inner := []) (ok := fun _ => True) (okp := fun _ => True) ?hr ?hp (fun _ hk => hk) trivial (Below.refl _ _) (Nat.le_refl _) (by simp) ?_; (case hd => rfl); (case hg => rfl); (case hr => first | (go_simp; done) | (go_simp; rfl)); (case hp => exact (Reps.none _ _)); intro v221 w4 ho5 hb hg_ hnew_; clear hg_ hnew_; have n0_ := Aside0.mk (Kd.R_lower ho5 (below_size (by repeat (first | (with_reducible first | exact HB.out | apply below_alloc | apply pw_below_drewN | apply below_drew1) | exact HB.out)))); have n1_ := Aside0.mk (below_step (by repeat (first | (with_reducible first | exact HB.out | apply below_alloc | apply pw_below_drewN | apply below_drew1) | exact HB.out)) hb); clear HB; have HO222 := n0_; have HB := n1_; clear n0_ n1_; clear hb ho5) | ((with_reducible refine gate_builtin (b := .append) (xs := #[.tmp 5, .tmp 6]) rfl ?_); at_builtin; refine Kd.R_append_rows (Kd.int .u8) (w0 := w) w.heap.size rfl (.tmp 5) (.tmp 6) 39 5 (.int .u8 0) 1 rfl Try.underlying39 info5' rfl (by decide) (by omega) v221 [] l0 _ _ _ (fun _ => True) (fun _ => False) rfl rfl ?aO ?aR (fun _ _ h => h) (fun _ h => h.elim) ?aF ?aB ?aS ?aL ?_; (case aR => repeat (first | exact (Kd.C_below HR0.out HB.out) | (with_reducible refine Kd.C_alloc ?_ _) | (with_reducible refine Kd.C_drewN ?_ _) | (with_reducible refine Kd.C_drew ?_))); (case aB => exact (by repeat (first | (with_reducible first | exact HB.out | apply below_alloc | apply pw_below_drewN | apply below_drew1) | exact HB.out))); (case aF => exact (fun _ _ => trivial)); (case aO => exact (by (with_reducible repeat (first | apply Kd.R_alloc | apply Kd.R_drewN | apply Kd.R_drew)); exact HO222.out)); (case aS => exact (below_size (by repeat (first | (with_reducible first | exact HB.out | apply below_alloc | apply pw_below_drewN | apply below_drew1) | exact HB.out)))); (case aL => have := LM.out; simp; omega); intro v224 w6 ho hb hg hat; have n0_ := Aside0.mk (hb); have n1_ := Aside0.mk (ho); clear HB; clear HO222; have HB := n0_; have HO225 := n1_; clear n0_ n1_; clear ho hb hg hat))
   go_ret
   exact ⟨_, rfl, by simpa using HO225.out, HB.out⟩
 ·
  rw [if_neg hl] at h
  cases h
end Go.Proofs.Ytekanmieppnpeaa.G
end
section
namespace Go.Proofs.Ytekanmieppnpeaa.Sep
open Go Go.RowKit Go.Proofs.YtekanmieppnpeaaW.PrintWords Go.Proofs.YtekanmieppnpeaaW.PrintLast Go.Proofs.YtekanmieppnpeaaW.PrintMore Go.Proofs.Ytekanmieppnpeaa.PureKit
def buf (g : Nat) (l : List Int) : HP where
 p := fun w bs => ∃ v bs', bs = g :: bs' ∧ w.heap[g]? = some (.cells #[v] 100 (0, 0)) ∧ Kd.R (Kd.int .u8) 5 w 0 (fun k => k ∈ bs') v l
 loc := by
  rintro w w' bs ⟨v, bs', e, h1, h2⟩ hm
  exact ⟨v, bs', e, by rw [hm g (by rw [e]; simp)]; exact h1, Kd.R_move h2 (fun k hk => hm k (by rw [e]; exact List.mem_cons_of_mem _ hk))⟩
theorem Sep.buf_open {w0 w : World} {g : Nat} {l : List Int} {ps : List HP} (h : Sep w0 w (buf g l :: ps)) : ∃ v, Sep w0 w (blk g #[v] 100 :: row (Kd.int .u8) 5 v l :: ps) := by
 obtain ⟨hb, bs, ⟨b1, b2, e, ⟨v, bs', e1, h1, h2⟩, hs⟩, hn, hr⟩ := h
 exact ⟨v, hb, bs, ⟨[g], bs' ++ b2, by rw [e, e1]; simp, ⟨rfl, h1⟩, bs', b2, rfl, h2, hs⟩, hn, hr⟩
theorem Sep.buf_close {w0 w : World} {g : Nat} {l : List Int} {v : Value} {ps : List HP} (h : Sep w0 w (blk g #[v] 100 :: row (Kd.int .u8) 5 v l :: ps)) : Sep w0 w (buf g l :: ps) := by
 obtain ⟨hb, bs, ⟨b1, b2, e, ⟨e1, h1⟩, b3, b4, e2, h2, hs⟩, hn, hr⟩ := h
 exact ⟨hb, bs, ⟨g :: b3, b4, by rw [e, e1, e2]; simp, ⟨v, b3, rfl, h1, h2⟩, hs⟩, hn, hr⟩
theorem Sep.buf_new {w0 w : World} {ps : List HP} (h : Sep w0 w ps) : Sep w0 (w.alloc (.cells #[.slice none 0 0] 100 (0, 0))) (buf w.heap.size [] :: ps) :=
 Sep.buf_close (((h.alloc #[.slice none 0 0] 100).row_nil (Kd.int .u8) 5).perm (List.Perm.swap _ _ _))
def nbytes : Nat → Int → List Int
 | 0, _ => []
 | n + 1, x => x % 256 :: nbytes n (x / 256)
theorem nbytes_len : ∀ (n : Nat) (x : Int), (nbytes n x).length = n
 | 0, _ => rfl
 | n + 1, x => by simp [nbytes, nbytes_len n]
set_option maxHeartbeats 4000000 in
set_option maxRecDepth 100000 in
theorem buf_num (w0 w : World) (g : Nat) (l : List Int) (ps : List HP) (x m : Int) (n : Nat) (hm : m = n) (hs : Sep w0 w (buf g l :: ps)) (hx : 0 ≤ x) (hx' : x < 18446744073709551616) (hn : n ≤ 8) (hl : l.length ≤ 1000000000000) :
  Calls Try.prog 121 #[.pointer (some ⟨g, 0, none⟩), .int .u64 x, .int .i64 m] w fun e w' => e = .returned (.pointer (some ⟨g, 0, none⟩)) ∧ Sep w0 w' (buf g (l ++ nbytes n x) :: ps) := by
 subst hm
 have hS := Aside0.mk hs
 clear hs
 go_enter Try.func121, Try.ntmps121
 go_wp2
 go_loopg [1, 8] n (fun kq v1 v8 w' => ∃ (i : Nat) (y : Int) (l1 : List Int), v8 = .int .i64 i ∧ v1 = .int .u64 y ∧ Aside0 (0 ≤ y ∧ y < 18446744073709551616 ∧ i + kq = n ∧ l1.length = l.length + i ∧ l ++ nbytes n x = l1 ++ nbytes kq y) ∧ Aside0 (Sep w0 w' (buf g l1 :: ps)))
 case atStart => exact ⟨0, x, l, rfl, rfl, ⟨⟨hx, hx', by omega, by omega, rfl⟩⟩, hS⟩
 case round =>
  obtain ⟨i, y, l1, rfl, rfl, hA, hS⟩ := hrel
  by_cases hin : i < n
  ·
   obtain ⟨k1, rfl⟩ : ∃ k1, gk = k1 + 1 := ⟨gk - 1, by have := hA.out; omega⟩
   have hd : decide ((i : Int) < (n : Int)) = true := decide_eq_true (by omega)
   obtain ⟨v, hO⟩ := Sep.buf_open hS.out
   obtain ⟨bs, hR, hG⟩ := hO.tail.row_open
   obtain ⟨Av, cv, rfl⟩ := Kd.R_slice hR
   have hR := Aside0.mk hR
   have hc : wr.cell? ⟨g, 0, none⟩ = some (.slice Av l1.length cv) := (hO.cell 0).trans rfl
   obtain ⟨bs, hR, hG⟩ := (hO.perm (List.Perm.swap _ _ _)).row_open
   have hR := Aside0.mk hR
   have hG := Aside0.mk hG
   have hO := Aside0.mk hO
   go_wp2_with (first | ((with_reducible refine gate_builtin (b := .append) (xs := #[.tmp 14, .tmp 17]) rfl ?_); at_builtin; refine Kd.R_append (Kd.int .u8) (w0 := wr) 0 rfl (.tmp 14) (.tmp 17) 39 5 (.int .u8 0) 1 rfl Try.underlying39 (by kernel_rfl) rfl (by decide) (by decide) (.slice Av l1.length cv) l1 (y % 256) [.int .u8 (y % 256)] (fun k => k ∈ bs ∨ wr.heap.size ≤ k) (fun _ => False) rfl rfl rfl (fun _ h => h.elim) (fun _ h => .inr h) ?aO ?aB ?aS ?aL ?_; (case aO => exact Kd.R_mono hR.out (fun _ h => .inl h)); (case aB => exact Below.refl _ _); (case aS => exact Nat.zero_le _); (case aL => have := hA.out; omega); intro v1 w1 ho hb hg hat; obtain ⟨A1, c1, e1⟩ := Kd.R_slice ho; subst e1; have hO1 := Aside0.mk ((hG.out w1 _ _ ho hg).perm (List.Perm.swap _ _ _)); clear ho hb hg hat hc; have hc := (hO1.out.cell 0).trans rfl; have hz := hO1.out.frozen 0))
   go_roundg k1
   case measure => omega
   case rel =>
    refine ⟨i + 1, y / 256, l1 ++ [y % 256], by simp, rfl, ⟨?_⟩, ⟨?_⟩⟩
    ·
     obtain ⟨h0, h1, h2, h3, h4⟩ := hA.out
     refine ⟨by omega, by omega, by omega, by simp; omega, ?_⟩
     rw [h4]
     simp [nbytes]
    ·
     refine Sep.buf_close (v := .slice A1 (l1.length + 1) c1) ?_
     have := hO1.out.set 0 (.slice A1 (l1.length + 1) c1)
     simpa using this
  ·
   have hA' := hA.out
   obtain ⟨h0, h1, h2, h3, h4⟩ := hA'
   obtain rfl : gk = 0 := by omega
   have hd : decide ((i : Int) < (n : Int)) = false := decide_eq_false (by omega)
   rw [show nbytes 0 y = [] from rfl, List.append_nil] at h4
   go_wp2
   go_ret
   exact ⟨rfl, by rw [h4]; exact hS.out⟩
set_option maxHeartbeats 4000000 in
theorem buf_Byte (w0 w : World) (g : Nat) (l : List Int) (ps : List HP) (x : Int) (hs : Sep w0 w (buf g l :: ps)) (hx : 0 ≤ x) (hx' : x ≤ 255) (hl : l.length ≤ 1000000000000) :
  Calls Try.prog 66 #[.pointer (some ⟨g, 0, none⟩), .int .u8 x] w fun e w' => e = .returned (.pointer (some ⟨g, 0, none⟩)) ∧ Sep w0 w' (buf g (l ++ [x]) :: ps) := by
 have hS := Aside0.mk hs
 clear hs
 go_enter Try.func66, Try.ntmps66
 go_wp2_with (first | ((with_reducible refine gate_callee (f := 121) rfl ?_); refine goesL_ (some 8) rfl rfl Try.func121 (by kernel_rfl) rfl #[.pointer (some ⟨g, 0, none⟩), .int .u64 x, .int .i64 1] rfl (by (try simp only [List.map_toArray, List.map_cons, List.map_nil]); first | done | rfl) ?_; (with_reducible refine (buf_num w0 _ g l ps x 1 1 rfl hS.out hx (by omega) (by decide) hl).mono ?_); rintro e w1 ⟨rfl, h1⟩; refine ⟨_, rfl, ?_⟩; have hS1 := Aside0.mk h1; clear h1))
 go_ret
 have h2 := hS1.out
 rw [show nbytes 1 x = [x] by simp [nbytes]; omega] at h2
 exact ⟨rfl, h2⟩
set_option maxHeartbeats 4000000 in
theorem buf_Bytes (w0 w : World) (g : Nat) (l : List Int) (ps : List HP) (hs : Sep w0 w (buf g l :: ps)) (hl : l.length ≤ 1000000000000) :
  Calls Try.prog 61 #[.pointer (some ⟨g, 0, none⟩)] w fun e w' => ∃ v, e = .returned v ∧ Sep w0 w' (row (Kd.int .u8) 5 v l :: buf g l :: ps) := by
 obtain ⟨v, hO⟩ := Sep.buf_open hs
 obtain ⟨bs, hR⟩ := hO.tail.row_R
 obtain ⟨Av, cv, rfl⟩ := Kd.R_slice hR
 have hr := Kd.R_reads' hR
 have hS := Aside0.mk hs
 have hc : w.cell? ⟨g, 0, none⟩ = some (.slice Av l.length cv) := (hO.cell 0).trans rfl
 have hr := Aside0.mk hr
 clear hs hO hR
 go_enter Try.func61, Try.ntmps61
 go_wp2_with (first | ((with_reducible refine gate_callee (f := 111) rfl ?_); refine goesL_ (some 7) rfl rfl Try.func111 (by kernel_rfl) rfl #[.slice Av l.length cv] rfl (by (try simp only [List.map_toArray, List.map_cons, List.map_nil]); first | done | rfl) ?_; (with_reducible refine (G.bytes_Clone.calls Av cv l l _ hr.out.2.2 hr.out.2.1 (by unfold G.bytes_Clone.f; exact if_pos (by omega)) rfl).mono ?_); rintro e w1 ⟨v1, rfl, ho, hb⟩; refine ⟨_, rfl, ?_⟩; have hS1 := Aside0.mk (Sep.row_new hS.out hb ho); clear ho hb))
 go_ret
 exact ⟨_, rfl, hS1.out⟩
end Go.Proofs.Ytekanmieppnpeaa.Sep
namespace Go.Proofs.Ytekanmieppnpeaa.G
open Go Go.RowKit Go.Proofs.YtekanmieppnpeaaW.PrintWords Go.Proofs.YtekanmieppnpeaaW.PrintLast Go.Proofs.YtekanmieppnpeaaW.PrintMore Go.Proofs.Ytekanmieppnpeaa.PureKit Go.Proofs.Ytekanmieppnpeaa.Sep
set_option maxHeartbeats 4000000 in
theorem buf_Eight (w0 w : World) (g : Nat) (l : List Int) (ps : List HP) (x : Int) (hs : Sep.Sep w0 w (buf g l :: ps)) (hx : 0 ≤ x) (hx' : x < 18446744073709551616) (hl : l.length ≤ 1000000000000) :
  Calls Try.prog 59 #[.pointer (some ⟨g, 0, none⟩), .int .u64 x] w fun e w' => e = .returned (.pointer (some ⟨g, 0, none⟩)) ∧ Sep.Sep w0 w' (buf g (l ++ nbytes 8 x) :: ps) := by
 have hS := Aside0.mk hs
 clear hs
 go_enter Try.func59, Try.ntmps59
 go_wp2_with (first | ((with_reducible refine gate_callee (f := 121) rfl ?_); refine goesL_ (some 7) rfl rfl Try.func121 (by kernel_rfl) rfl #[.pointer (some ⟨g, 0, none⟩), .int .u64 x, .int .i64 8] rfl (by (try simp only [List.map_toArray, List.map_cons, List.map_nil]); first | done | rfl) ?_; (with_reducible refine (buf_num w0 _ g l ps x 8 8 rfl hS.out hx hx' (by decide) hl).mono ?_); rintro e w1 ⟨rfl, h1⟩; refine ⟨_, rfl, ?_⟩; have hS1 := Aside0.mk h1; clear h1))
 go_ret
 exact ⟨rfl, hS1.out⟩
end Go.Proofs.Ytekanmieppnpeaa.G
namespace Go.Proofs.Ytekanmieppnpeaa.Sep
open Go Go.RowKit Go.Proofs.YtekanmieppnpeaaW.PrintWords Go.Proofs.YtekanmieppnpeaaW.PrintLast Go.Proofs.YtekanmieppnpeaaW.PrintMore Go.Proofs.Ytekanmieppnpeaa.PureKit
end Go.Proofs.Ytekanmieppnpeaa.Sep
namespace Go.Proofs.Ytekanmieppnpeaa.Sep
open Go Go.RowKit Go.Proofs.YtekanmieppnpeaaW.PrintWords Go.Proofs.YtekanmieppnpeaaW.PrintLast Go.Proofs.YtekanmieppnpeaaW.PrintMore Go.Proofs.Ytekanmieppnpeaa.PureKit
set_option maxHeartbeats 4000000 in
set_option maxRecDepth 100000 in
theorem buf_Raw (w0 w : World) (g : Nat) (l : List Int) (ps : List HP) (A : Option Addr) (n c : Nat) (xs : List Int) (hs : Sep w0 w (buf g l :: ps)) (hr : Kd.C (Kd.int .u8) w A xs.length xs) (hn : n = xs.length) (hl : l.length ≤ 1000000000000) (hx : xs.length ≤ 100000000000) :
  Calls Try.prog 58 #[.pointer (some ⟨g, 0, none⟩), .slice A n c] w fun e w' => e = .returned (.pointer (some ⟨g, 0, none⟩)) ∧ Sep w0 w' (buf g (l ++ xs) :: ps) := by
 subst hn
 have hS := Aside0.mk hs
 obtain ⟨v, hO⟩ := Sep.buf_open hs
 obtain ⟨bs, hR, hG⟩ := hO.tail.row_open
 obtain ⟨Av, cv, rfl⟩ := Kd.R_slice hR
 have hc : w.cell? ⟨g, 0, none⟩ = some (.slice Av l.length cv) := (hO.cell 0).trans rfl
 obtain ⟨bs, hR, hG⟩ := (hO.perm (List.Perm.swap _ _ _)).row_open
 have hR := Aside0.mk hR
 have hG := Aside0.mk hG
 have hO := Aside0.mk hO
 have hX := Aside0.mk hr
 clear hs hr
 go_enter Try.func58, Try.ntmps58
 go_wp2_with (first | ((with_reducible refine gate_builtin (b := .append) (xs := #[.tmp 9, .tmp 10]) rfl ?_); at_builtin; refine Kd.R_append_rows (Kd.int .u8) (w0 := w) 0 rfl (.tmp 9) (.tmp 10) 39 5 (.int .u8 0) 1 rfl Try.underlying39 (by kernel_rfl) rfl (by decide) (by decide) (.slice Av l.length cv) l xs A xs.length c (fun k => k ∈ bs ∨ w.heap.size ≤ k) (fun _ => False) rfl rfl ?aO ?aR (fun _ _ h => h) (fun _ h => h.elim) (fun _ h => .inr h) ?aB ?aS ?aL ?_; (case aO => exact Kd.R_mono hR.out (fun _ h => .inl h)); (case aR => exact hX.out); (case aB => exact Below.refl _ _); (case aS => exact Nat.zero_le _); (case aL => omega); intro v1 w1 ho hb hg hat; obtain ⟨A1, c1, e1⟩ := Kd.R_slice ho; subst e1; have hO1 := Aside0.mk ((hG.out w1 _ _ ho hg).perm (List.Perm.swap _ _ _)); clear ho hb hg hat hc; have hc := (hO1.out.cell 0).trans rfl; have hz := hO1.out.frozen 0))
 go_ret
 refine ⟨rfl, ?_⟩
 refine Sep.buf_close (v := .slice A1 (l ++ xs).length c1) ?_
 have := hO1.out.set 0 (.slice A1 (l ++ xs).length c1)
 simpa using this
end Go.Proofs.Ytekanmieppnpeaa.Sep
end
section
namespace Go.Proofs.Ytekanmieppnpeaa.Tb
open Go Go.RowKit Go.Proofs.YtekanmieppnpeaaW.PrintWords Go.Proofs.YtekanmieppnpeaaW.PrintLast Go.Proofs.YtekanmieppnpeaaW.PrintMore Go.Proofs.Ytekanmieppnpeaa.PureKit Go.Proofs.Ytekanmieppnpeaa.Sep Go.Proofs.Ytekanmieppnpeaa.G
set_option maxHeartbeats 4000000
set_option maxRecDepth 100000
theorem buf_FourT (w0 w : World) (g : Nat) (l : List Int) (ps : List HP) (x : Int) (hs : Sep.Sep w0 w (buf g l :: ps)) (hx : 0 ≤ x) (hx' : x ≤ 4294967295) (hl : l.length ≤ 1000000000000) :
  Calls Try.prog 92 #[.pointer (some ⟨g, 0, none⟩), .int .u32 x] w fun e w' => e = .returned (.pointer (some ⟨g, 0, none⟩)) ∧ Sep.Sep w0 w' (buf g (l ++ nbytes 4 x) :: ps) := by
 have hS := Aside0.mk hs
 clear hs
 go_enter Try.func92, Try.ntmps92
 go_wp2_with (first | ((with_reducible refine gate_callee (f := 121) rfl ?_); refine goesL_ (some 8) rfl rfl Try.func121 (by kernel_rfl) rfl #[.pointer (some ⟨g, 0, none⟩), .int .u64 x, .int .i64 4] rfl (by (try simp only [List.map_toArray, List.map_cons, List.map_nil]); first | done | rfl) ?_; (with_reducible refine (buf_num w0 _ g l ps x 4 4 rfl hS.out hx (by omega) (by decide) hl).mono ?_); rintro e w1 ⟨rfl, h1⟩; refine ⟨_, rfl, ?_⟩; have hS1 := Aside0.mk h1; clear h1))
 go_ret
 exact ⟨rfl, hS1.out⟩
def OkE (x : E1) : Prop := 0 ≤ x.f0 ∧ x.f0 < 18446744073709551616 ∧ 0 ≤ x.f1 ∧ x.f1 ≤ 4294967295
def tbytes (l : List E1) : List Int := l.flatMap fun x => nbytes 8 x.f0 ++ nbytes 4 x.f1
def fbytes (l : List Int) : List Int := l.flatMap fun x => nbytes 8 x
theorem tbytes_len (l : List E1) : (tbytes l).length = 12 * l.length := by
 induction l with
 | nil => rfl
 | cons x l ih => unfold tbytes at *; rw [List.flatMap_cons, List.length_append, List.length_append, nbytes_len, nbytes_len, ih, List.length_cons]; omega
theorem fbytes_len (l : List Int) : (fbytes l).length = 8 * l.length := by
 induction l with
 | nil => rfl
 | cons x l ih => unfold fbytes at *; rw [List.flatMap_cons, List.length_append, nbytes_len, ih, List.length_cons]; omega
theorem tbytes_snoc (l : List E1) (i : Nat) (x : E1) (hx : l[i]? = some x) : tbytes (l.take (i + 1)) = tbytes (l.take i) ++ nbytes 8 x.f0 ++ nbytes 4 x.f1 := by
 rw [List.take_add_one, hx]; simp [tbytes]
theorem fbytes_snoc (l : List Int) (i : Nat) (x : Int) (hx : l[i]? = some x) : fbytes (l.take (i + 1)) = fbytes (l.take i) ++ nbytes 8 x := by
 rw [List.take_add_one, hx]; simp [fbytes]
theorem rdT (l : List E1) (i : Nat) (x : E1) (h : l[i]? = some x) : rd_T33 l (i : Int) = x := by
 unfold rd_T33
 rw [Int.toNat_natCast, List.getD_eq_getElem?_getD, h]; rfl
theorem table_Put (w0 w : World) (g : Nat) (b : List Int) (A : Option Addr) (c : Nat) (l : List E1) (ps : List HP) (hs : Sep.Sep w0 w (buf g b :: ps)) (hC : kE.C w0 A l.length l) (hl : l.length ≤ 1000000) (hb : b.length ≤ 1000000) (hok : ∀ x ∈ l, OkE x) :
  Calls Try.prog 93 #[.pointer (some ⟨g, 0, none⟩), .slice A l.length c] w fun e w' => e = .returned (.tuple #[]) ∧ Sep.Sep w0 w' (buf g (b ++ tbytes l) :: ps) := by
 have hS := Aside0.mk hs
 have hCA := Aside0.mk hC
 have hlA := Aside0.mk hl
 have hbA := Aside0.mk hb
 have hoA := Aside0.mk hok
 clear hs hC hl hb hok
 go_enter Try.func93, Try.ntmps93
 go_wp2_with (fail)
 go_loopg [8] l.length (fun kq v8 w' => ∃ (i : Nat), v8 = .int .i64 i ∧ Aside0 (i + kq = l.length) ∧ Aside0 (Sep.Sep w0 w' (buf g (b ++ tbytes (l.take i)) :: ps)))
 case atStart => exact ⟨0, rfl, ⟨by omega⟩, ⟨by have := hS.out; simpa [tbytes] using this⟩⟩
 case round =>
  clear hS
  obtain ⟨i, rfl, hA, hS⟩ := hrel
  by_cases hil : i < l.length
  ·
   obtain ⟨k1, rfl⟩ : ∃ k1, gk = k1 + 1 := ⟨gk - 1, by have := hA.out; omega⟩
   have hd : decide ((i : Int) < (l.length : Int)) = true := decide_eq_true (by omega)
   have hd2 : decide (i < l.length) = true := decide_eq_true hil
   obtain ⟨ad, e0, hx0, hx1⟩ := at_T33 (Kd.C_below hCA.out hS.out.1) (i : Int) (by omega) (by omega)
   subst e0
   rw [Int.toNat_natCast] at hx0 hx1
   obtain ⟨x, hx⟩ : ∃ x, l[i]? = some x := ⟨_, List.getElem?_eq_getElem hil⟩
   rw [rdT l i x hx] at hx0 hx1
   have p0 : (0 : Int) ≤ (i : Int) := by omega
   have q0 : (i : Int) < (l.length : Int) := by omega
   have hq1 : wrap64 ((i : Int) + 1) = ((i + 1 : Nat) : Int) := by rw [w64 (by omega) (by have := hlA.out; omega)]; omega
   have hA' : Aside0 (i + 1 + k1 = l.length) := ⟨by have := hA.out; omega⟩
   have hox := Aside0.mk (hoA.out x (List.mem_of_getElem? hx))
   have hlen : Aside0 ((b ++ tbytes (l.take i)).length + 8 ≤ 1000000000000) := ⟨by rw [List.length_append, tbytes_len, List.length_take]; have := hbA.out; have := hlA.out; omega⟩
   have hsn := Aside0.mk (tbytes_snoc l i x hx)
   have hS2 := Aside0.mk (hS.out.alloc #[.int .u64 x.f0, .int .u32 x.f1] 33).pick1
   clear hil hx
   go_wp2_with (fail)
   generalize wr.alloc (.cells #[.int .u64 x.f0, .int .u32 x.f1] 33) = wq at hS2 ⊢
   generalize hge : wr.heap.size = ge at *
   have hc_0 : wq.cell? ⟨ge, 0, none⟩ = some (.int .u64 x.f0) := (hS2.out.pick1.cell 0).trans rfl
   have hc_1 : wq.cell? ⟨ge, 1, none⟩ = some (.int .u32 x.f1) := (hS2.out.pick1.cell 1).trans rfl
   have hS := Aside0.mk hS2.out.drew
   clear hS2 hge hx0 hx1
   refine start_ (n := 7) (S := fun w' => w'.cell? ⟨ge, 0, none⟩ = some (.int .u64 x.f0) ∧ w'.cell? ⟨ge, 1, none⟩ = some (.int .u32 x.f1)) (ds := []) #[false, false, false, false, false, false, false] (by kernel_rfl) rfl rfl ⟨hc_0, hc_1⟩ (fun hHeld => ?_)
   generalize wq.drew = wq at hS hHeld ⊢
   refine pure_ (i := 0) (N := some 12) (v := ?_) (a' := ?_) #[true, false, false, false, false, false, false] rfl rfl (by kernel_rfl) (fun _ _ _ h => h) (Or.inl ⟨by rfl, ?_⟩) ?_ ?_
   rotate_left
   ·
    intro w'
    go_simp
    with_reducible rfl
   rotate_left
   ·
    simp only [Act.put, List.setIfInBounds_toArray, List.set_cons_zero, List.set_cons_succ, i64_w, i32_w]
    rfl
   refine pure_ (i := 1) (N := some 13) (v := ?_) (a' := ?_) #[true, true, false, false, false, false, false] rfl rfl (by kernel_rfl) (fun _ _ _ h => h) (Or.inl ⟨by rfl, ?_⟩) ?_ ?_
   rotate_left
   ·
    intro w'
    go_simp
    with_reducible rfl
   rotate_left
   ·
    simp only [Act.put, List.setIfInBounds_toArray, List.set_cons_zero, List.set_cons_succ, i64_w, i32_w]
    rfl
   refine pure_ (i := 4) (N := some 16) (v := ?_) (a' := ?_) #[true, true, false, false, true, false, false] rfl rfl (by kernel_rfl) (fun _ _ _ h => h) (Or.inl ⟨by rfl, ?_⟩) ?_ ?_
   rotate_left
   ·
    intro w'
    go_simp
    with_reducible rfl
   rotate_left
   ·
    simp only [Act.put, List.setIfInBounds_toArray, List.set_cons_zero, List.set_cons_succ, i64_w, i32_w]
    rfl
   refine take_ (i := 2) (N := some 14) (v := ?_) (a' := ?_) #[true, true, true, false, true, false, false] rfl rfl (by kernel_rfl) (fun _ _ _ h => h) (Or.inl ⟨by rfl, ?_⟩) hHeld ?_ ?_
   rotate_left
   ·
    rintro w' ⟨s0, s1⟩
    go_simp
    with_reducible rfl
   rotate_left
   ·
    simp only [Act.put, List.setIfInBounds_toArray, List.set_cons_zero, List.set_cons_succ, i64_w, i32_w]
    rfl
   refine take_ (i := 5) (N := some 17) (v := ?_) (a' := ?_) #[true, true, true, false, true, true, false] rfl rfl (by kernel_rfl) (fun _ _ _ h => h) (Or.inl ⟨by rfl, ?_⟩) hHeld ?_ ?_
   rotate_left
   ·
    rintro w' ⟨s0, s1⟩
    go_simp
    with_reducible rfl
   rotate_left
   ·
    simp only [Act.put, List.setIfInBounds_toArray, List.set_cons_zero, List.set_cons_succ, i64_w, i32_w]
    rfl
   refine one_ (i := 3) (N := some 15) #[true, true, true, true, true, true, false] rfl rfl (by kernel_rfl) (by decide) (fun K hK => ?_)
   refine goes_ Try.func59 (by kernel_rfl) rfl #[.pointer (some ⟨g, 0, none⟩), .int .u64 x.f0] (by rfl) rfl rfl (by (try simp only [List.map_toArray, List.map_cons, List.map_nil]); first | done | rfl) ?_
   refine (buf_Eight w0 _ g _ _ _ hS.out hox.out.1 hox.out.2.1 (by have := hlen.out; omega)).mono ?_
   rintro e wq ⟨rfl, h1⟩
   refine ⟨_, rfl, ?_⟩
   have hS := Aside0.mk h1
   clear h1
   refine hK.out _ _ ⟨(hS.out.pick1.cell 0).trans rfl, (hS.out.pick1.cell 1).trans rfl⟩ (fun hHeld => ?_)
   clear hK K
   refine norm_ (a' := ?_) ?_ ?_
   rotate_left
   ·
    show Act.put _ (some 15) _ = _
    simp only [Act.put, List.setIfInBounds_toArray, List.set_cons_zero, List.set_cons_succ, i64_w, i32_w]
    rfl
   refine one_ (i := 6) (N := some 18) #[true, true, true, true, true, true, true] rfl rfl (by kernel_rfl) (by decide) (fun K hK => ?_)
   refine goes_ Try.func92 (by kernel_rfl) rfl #[.pointer (some ⟨g, 0, none⟩), .int .u32 x.f1] (by rfl) rfl rfl (by (try simp only [List.map_toArray, List.map_cons, List.map_nil]); first | done | rfl) ?_
   refine (buf_FourT w0 _ g _ _ _ hS.out hox.out.2.2.1 hox.out.2.2.2 (by have := hlen.out; rw [List.length_append, nbytes_len]; omega)).mono ?_
   rintro e wq ⟨rfl, h1⟩
   refine ⟨_, rfl, ?_⟩
   have hS := Aside0.mk h1
   clear h1
   refine hK.out _ _ ⟨(hS.out.pick1.cell 0).trans rfl, (hS.out.pick1.cell 1).trans rfl⟩ (fun hHeld => ?_)
   clear hK K
   refine norm_ (a' := ?_) ?_ ?_
   rotate_left
   ·
    show Act.put _ (some 18) _ = _
    simp only [Act.put, List.setIfInBounds_toArray, List.set_cons_zero, List.set_cons_succ, i64_w, i32_w]
    rfl
   refine done_ (by kernel_rfl) ?_
   have hS3 : Aside0 (Sep.Sep w0 wq (buf g (b ++ tbytes (l.take (i + 1))) :: ps)) := ⟨by
    have := hS.out.pick1.tail
    rw [hsn.out]
    simpa [List.append_assoc] using this⟩
   clear hc_0 hc_1
   go_wp2_with (fail)
   go_roundg k1
   case measure => omega
   case rel => exact ⟨i + 1, by first | rw [hq1] | rfl, hA', hS3⟩
  ·
   have hd : decide ((i : Int) < (l.length : Int)) = false := decide_eq_false (by omega)
   have hd2 : decide (i < l.length) = false := decide_eq_false hil
   have hil2 : l.take i = l := List.take_of_length_le (by omega)
   clear hil
   go_wp2_with (fail)
   go_end0
   exact ⟨rfl, by have := hS.out; rw [hil2] at this; exact this⟩
theorem fence_Put (w0 w : World) (g : Nat) (b : List Int) (A : Option Addr) (c n : Nat) (l : List Int) (hn : n = l.length) (ps : List HP) (hs : Sep.Sep w0 w (buf g b :: ps)) (hC : ∀ W, Sep.Sep w0 W ps → Kd.C (Kd.int .u64) W A l.length l) (hl : l.length ≤ 1000000) (hb : b.length ≤ 100000000) (hok : ∀ x ∈ l, 0 ≤ x ∧ x < 18446744073709551616) :
  Calls Try.prog 94 #[.pointer (some ⟨g, 0, none⟩), .slice A n c] w fun e w' => e = .returned (.tuple #[]) ∧ Sep.Sep w0 w' (buf g (b ++ fbytes l) :: ps) := by
 subst hn
 have hS := Aside0.mk hs
 have hCA := Aside0.mk hC
 have hlA := Aside0.mk hl
 have hbA := Aside0.mk hb
 have hoA := Aside0.mk hok
 clear hs hC hl hb hok
 go_enter Try.func94, Try.ntmps94
 go_wp2_with (fail)
 go_loopg [8] l.length (fun kq v8 w' => ∃ (i : Nat), v8 = .int .i64 i ∧ Aside0 (i + kq = l.length) ∧ Aside0 (Sep.Sep w0 w' (buf g (b ++ fbytes (l.take i)) :: ps)))
 case atStart => exact ⟨0, rfl, ⟨by omega⟩, ⟨by have := hS.out; simpa [fbytes] using this⟩⟩
 case round =>
  clear hS
  obtain ⟨i, rfl, hA, hS⟩ := hrel
  by_cases hil : i < l.length
  ·
   obtain ⟨k1, rfl⟩ : ∃ k1, gk = k1 + 1 := ⟨gk - 1, by have := hA.out; omega⟩
   have hd : decide ((i : Int) < (l.length : Int)) = true := decide_eq_true (by omega)
   have hd2 : decide (i < l.length) = true := decide_eq_true hil
   obtain ⟨ad, e0, hx0⟩ := Kd.at_int (hCA.out _ hS.out.tail) (i : Int) (by omega) (by omega)
   subst e0
   rw [Int.toNat_natCast] at hx0
   obtain ⟨x, hx⟩ : ∃ x, l[i]? = some x := ⟨_, List.getElem?_eq_getElem hil⟩
   have hrx : rd l (i : Int) = x := by rw [rd_at l i hil]; exact (List.getElem?_eq_some_iff.1 hx).2
   rw [hrx] at hx0
   have p0 : (0 : Int) ≤ (i : Int) := by omega
   have q0 : (i : Int) < (l.length : Int) := by omega
   have hq1 : wrap64 ((i : Int) + 1) = ((i + 1 : Nat) : Int) := by rw [w64 (by omega) (by have := hlA.out; omega)]; omega
   have hA' : Aside0 (i + 1 + k1 = l.length) := ⟨by have := hA.out; omega⟩
   have hox := Aside0.mk (hoA.out x (List.mem_of_getElem? hx))
   have hlen : Aside0 ((b ++ fbytes (l.take i)).length + 8 ≤ 1000000000000) := ⟨by rw [List.length_append, fbytes_len, List.length_take]; have := hbA.out; have := hlA.out; omega⟩
   have hsn := Aside0.mk (fbytes_snoc l i x hx)
   clear hil hx hrx
   go_wp2_with (first | ((with_reducible refine gate_callee (f := 59) rfl ?_); refine goesL_ (some 14) rfl rfl Try.func59 (by kernel_rfl) rfl #[.pointer (some ⟨g, 0, none⟩), .int .u64 x] rfl (by (try simp only [List.map_toArray, List.map_cons, List.map_nil]); first | done | rfl) ?_; (with_reducible refine (buf_Eight w0 _ g _ _ _ hS.out hox.out.1 hox.out.2 (by have := hlen.out; omega)).mono ?_); rintro e w1 ⟨rfl, h1⟩; refine ⟨_, rfl, ?_⟩; have hS1 : Aside0 (Sep.Sep w0 w1 (buf g (b ++ fbytes (l.take (i + 1))) :: ps)) := ⟨by rw [hsn.out, ← List.append_assoc]; exact h1⟩; clear h1))
   go_roundg k1
   case measure => omega
   case rel => exact ⟨i + 1, by first | rw [hq1] | rfl, hA', hS1⟩
  ·
   have hd : decide ((i : Int) < (l.length : Int)) = false := decide_eq_false (by omega)
   have hd2 : decide (i < l.length) = false := decide_eq_false hil
   have hil2 : l.take i = l := List.take_of_length_le (by omega)
   clear hil
   go_wp2_with (fail)
   go_end0
   exact ⟨rfl, by have := hS.out; rw [hil2] at this; exact this⟩
end Go.Proofs.Ytekanmieppnpeaa.Tb
end
section
namespace Go.Proofs.Ytekanmieppnpeaa.Sep
open Go Go.RowKit Go.Proofs.YtekanmieppnpeaaW.PrintWords Go.Proofs.YtekanmieppnpeaaW.PrintLast Go.Proofs.YtekanmieppnpeaaW.PrintMore Go.Proofs.Ytekanmieppnpeaa.PureKit
def cur (g : Nat) (l : List Int) (at_ : Nat) (live : Bool) : HP where
 p := fun w bs => ∃ A c bs', bs = g :: bs' ∧ w.heap[g]? = some (.cells #[.slice A l.length c, .int .i64 at_, .bool live] 149 (0, 0)) ∧ Kd.R (Kd.int .u8) 5 w 0 (fun k => k ∈ bs') (.slice A l.length c) l
 loc := by
  rintro w w' bs ⟨A, c, bs', e, h1, h2⟩ hm
  exact ⟨A, c, bs', e, by rw [hm g (by rw [e]; simp)]; exact h1, Kd.R_move h2 (fun k hk => hm k (by rw [e]; exact List.mem_cons_of_mem _ hk))⟩
theorem Sep.cur_open {w0 w : World} {g at_ : Nat} {l : List Int} {live : Bool} {ps : List HP} (h : Sep w0 w (cur g l at_ live :: ps)) :
  ∃ A c, Sep w0 w (blk g #[.slice A l.length c, .int .i64 at_, .bool live] 149 :: row (Kd.int .u8) 5 (.slice A l.length c) l :: ps) := by
 obtain ⟨hb, bs, ⟨b1, b2, e, ⟨A, c, bs', e1, h1, h2⟩, hs⟩, hn, hr⟩ := h
 exact ⟨A, c, hb, bs, ⟨[g], bs' ++ b2, by rw [e, e1]; simp, ⟨rfl, h1⟩, bs', b2, rfl, h2, hs⟩, hn, hr⟩
theorem Sep.cur_close {w0 w : World} {g at_ c : Nat} {l : List Int} {live : Bool} {A : Option Addr} {ps : List HP} (h : Sep w0 w (blk g #[.slice A l.length c, .int .i64 at_, .bool live] 149 :: row (Kd.int .u8) 5 (.slice A l.length c) l :: ps)) : Sep w0 w (cur g l at_ live :: ps) := by
 obtain ⟨hb, bs, ⟨b1, b2, e, ⟨e1, h1⟩, b3, b4, e2, h2, hs⟩, hn, hr⟩ := h
 exact ⟨hb, bs, ⟨g :: b3, b4, by rw [e, e1, e2]; simp, ⟨A, c, b3, rfl, h1, h2⟩, hs⟩, hn, hr⟩
def fault (g : Nat) (e : Int) : PanicEntry := { v := .iface 151 (.agg #[.pointer (some ⟨g, 0, none⟩), .int .i64 e]), recovered := false }
set_option maxHeartbeats 4000000 in
theorem cur_dead (w0 w : World) (g at_ : Nat) (l : List Int) (live : Bool) (ps : List HP) (hs : Sep w0 w (cur g l at_ live :: ps)) :
  Calls Try.prog 123 #[.pointer (some ⟨g, 0, none⟩)] w fun e w' => e = .returned (.bool (!live)) ∧ Sep w0 w' (cur g l at_ live :: ps) := by
 have hS := Aside0.mk hs
 obtain ⟨A, c, hO⟩ := Sep.cur_open hs
 have hc0 : w.cell? ⟨g, 0, none⟩ = some (.slice A l.length c) := (hO.cell 0).trans rfl
 have hc1 : w.cell? ⟨g, 1, none⟩ = some (.int .i64 at_) := (hO.cell 1).trans rfl
 have hc2 : w.cell? ⟨g, 2, none⟩ = some (.bool live) := (hO.cell 2).trans rfl
 clear hs hO
 go_enter Try.func123, Try.ntmps123
 go_wp2
 go_ret
 exact ⟨rfl, hS.out⟩
set_option maxHeartbeats 4000000 in
theorem cur_Fail (w0 w : World) (g at_ : Nat) (l : List Int) (ps : List HP) (x : Int) (hs : Sep w0 w (cur g l at_ true :: ps)) (hx : x ≠ 0) :
  Calls Try.prog 71 #[.pointer (some ⟨g, 0, none⟩), .int .i64 x] w fun e w' => e = .panicked [fault g x] ∧ Sep w0 w' (cur g l at_ true :: ps) := by
 have hS := Aside0.mk hs
 clear hs
 have hd : (x != 0) = true := bne_iff_ne.2 hx
 go_enter Try.func71, Try.ntmps71
 go_wp2_with (first | ((with_reducible refine gate_callee (f := 123) rfl ?_); refine goesL_ (some 5) rfl rfl Try.func123 (by kernel_rfl) rfl #[.pointer (some ⟨g, 0, none⟩)] rfl (by (try simp only [List.map_toArray, List.map_cons, List.map_nil]); first | done | rfl) ?_; (with_reducible refine (cur_dead w0 _ g at_ l true ps hS.out).mono ?_); rintro e w1 ⟨rfl, h1⟩; refine ⟨_, rfl, ?_⟩; have hS1 := Aside0.mk h1; clear h1))
 exact ⟨rfl, rfl, hS1.out⟩
set_option maxHeartbeats 4000000 in
set_option maxRecDepth 100000 in
theorem cur_Take_short (w0 w : World) (g at_ : Nat) (l : List Int) (ps : List HP) (n : Int) (hs : Sep w0 w (cur g l at_ true :: ps)) (hn : 0 < n) (hat : at_ ≤ l.length) (hl : l.length ≤ 1000000000000) (hsh : n > (l.length : Int) - at_) :
  Calls Try.prog 142 #[.pointer (some ⟨g, 0, none⟩), .int .i64 n] w fun e w' => e = .panicked [fault g 2] ∧ Sep w0 w' (cur g l at_ true :: ps) := by
 have hS := Aside0.mk hs
 clear hs
 have hd : decide (n ≤ 0) = false := decide_eq_false (by omega)
 have hd2 : decide (n > (l.length : Int) - (at_ : Int)) = true := decide_eq_true hsh
 go_enter Try.func142, Try.ntmps142
 go_wp2_with (first | ((with_reducible refine gate_callee (f := 123) rfl ?_); refine goesL_ (some 6) rfl rfl Try.func123 (by kernel_rfl) rfl #[.pointer (some ⟨g, 0, none⟩)] rfl (by (try simp only [List.map_toArray, List.map_cons, List.map_nil]); first | done | rfl) ?_; (with_reducible refine (cur_dead w0 _ g at_ l true ps hS.out).mono ?_); rintro e w1 ⟨rfl, h1⟩; refine ⟨_, rfl, ?_⟩; have hS1 := Aside0.mk h1; clear h1))
 obtain ⟨A, c, hO⟩ := Sep.cur_open hS1.out
 have hc0 : w1.cell? ⟨g, 0, none⟩ = some (.slice A l.length c) := (hO.cell 0).trans rfl
 have hc1 : w1.cell? ⟨g, 1, none⟩ = some (.int .i64 at_) := (hO.cell 1).trans rfl
 have hc2 : w1.cell? ⟨g, 2, none⟩ = some (.bool true) := (hO.cell 2).trans rfl
 have hO := Aside0.mk hO
 repeat (go_quiet (fail); try go_wp2)
 refine ⟨rfl, rfl, ?_⟩
 exact ⟨rfl, hS1.out.drewN _⟩
theorem info8 : (Try.prog.info? 5).map (fun i => (i.zero, i.size, i.bytes)) = some (some (.int .u8 0), 1, 1) := by kernel_rfl
set_option maxHeartbeats 4000000 in
set_option maxRecDepth 100000 in
theorem cur_Take_some (w0 w : World) (g at_ : Nat) (l : List Int) (ps : List HP) (m : Nat) (n : Int) (hm : n = m) (hs : Sep w0 w (cur g l at_ true :: ps)) (hn : 0 < m) (hl : l.length ≤ 1000000000000) (hsh : at_ + m ≤ l.length) :
  Calls Try.prog 142 #[.pointer (some ⟨g, 0, none⟩), .int .i64 n] w fun e w' => ∃ v, e = .returned v ∧ Sep w0 w' (row (Kd.int .u8) 5 v ((l.take (at_ + m)).drop at_) :: cur g l (at_ + m) true :: ps) := by
 have hS := Aside0.mk hs
 clear hs
 subst hm
 have hd : decide ((m : Int) ≤ 0) = false := decide_eq_false (by omega)
 have hd2 : decide ((m : Int) > (l.length : Int) - (at_ : Int)) = false := decide_eq_false (by omega)
 go_enter Try.func142, Try.ntmps142
 go_wp2_with (first | ((with_reducible refine gate_callee (f := 123) rfl ?_); refine goesL_ (some 6) rfl rfl Try.func123 (by kernel_rfl) rfl #[.pointer (some ⟨g, 0, none⟩)] rfl (by (try simp only [List.map_toArray, List.map_cons, List.map_nil]); first | done | rfl) ?_; (with_reducible refine (cur_dead w0 _ g at_ l true ps hS.out).mono ?_); rintro e w1 ⟨rfl, h1⟩; refine ⟨_, rfl, ?_⟩; have hS1 := Aside0.mk h1; clear h1))
 obtain ⟨A, c, hO⟩ := Sep.cur_open hS1.out
 have hc0 : w1.cell? ⟨g, 0, none⟩ = some (.slice A l.length c) := (hO.cell 0).trans rfl
 have hc1 : w1.cell? ⟨g, 1, none⟩ = some (.int .i64 at_) := (hO.cell 1).trans rfl
 have hz1 := hO.frozen 1
 have hO := Aside0.mk hO
 go_quiet (fail)
 go_wp2
 have hS2 : Sep w0 ((w1.drewN nq).setCell ⟨g, 1, none⟩ (.int .i64 ((at_ : Int) + (m : Int)))) (cur g l (at_ + m) true :: ps) := by
  refine Sep.cur_close (A := A) (c := c) ?_
  have := (hO.out.drewN nq).set 1 (.int .i64 ((at_ : Int) + (m : Int)))
  simpa using this
 clear hc0 hc1 hz1 hO
 generalize (w1.drewN nq).setCell ⟨g, 1, none⟩ (.int .i64 ((at_ : Int) + (m : Int))) = w2 at hS2 ⊢
 obtain ⟨A2, c2, hO2⟩ := hS2.drew.cur_open
 obtain ⟨bs, hR⟩ := hO2.tail.row_R
 have hr := Kd.R_reads' hR
 have hc0 : w2.drew.cell? ⟨g, 0, none⟩ = some (.slice A2 l.length c2) := (hO2.cell 0).trans rfl
 have hc1 : w2.drew.cell? ⟨g, 1, none⟩ = some (.int .i64 ((at_ : Int) + (m : Int))) := by have := hO2.cell 1; simpa using this
 obtain ⟨i0, hi0, _, hsz, _⟩ := info_parts info8
 have hcut := cut_mid (P := Try.prog) 39 5 .i64 .i64 Try.underlying39 hi0 1 hsz A2 l.length c2 (at_ : Int) ((at_ : Int) + (m : Int)) (by omega) (by omega) (by omega) hr.2.1
 have hC := Kd.C_mid (lo := at_) (hi := at_ + m) (c := c2) hr.2.2 (by omega) (by omega) hr.2.1
 obtain ⟨A3, hA3⟩ : ∃ A3, A3 = (if c2 = at_ then A2 else A2.map (·.add (at_ * 1))) := ⟨_, rfl⟩
 rw [show ((at_ : Int) + (m : Int)).toNat - (at_ : Int).toNat = m by omega, show (at_ : Int).toNat = at_ by omega, ← hA3] at hcut
 have hlen : ((l.take (at_ + m)).drop at_).length = m := by rw [List.length_drop, List.length_take]; omega
 have hC := Aside0.mk (show Kd.C (Kd.int .u8) w2.drew A3 ((l.take (at_ + m)).drop at_).length ((l.take (at_ + m)).drop at_) by rw [hA3]; exact hC)
 have hcl := Aside0.mk hr.2.1
 have hS2 := Aside0.mk hS2.drew
 have hwat : wrap64 (at_ : Int) = (at_ : Int) := w64 (by omega) (by omega)
 clear hO2 hR hr hA3
 refine start_ (n := 17) (S := fun w' => w'.cell? ⟨g, 0, none⟩ = some (.slice A2 l.length c2) ∧ w'.cell? ⟨g, 1, none⟩ = some (.int .i64 ((at_ : Int) + (m : Int)))) (ds := [15]) #[false, false, false, false, false, false, false, false, false, false, false, false, false, false, false, false, false] (by kernel_rfl) rfl rfl ⟨hc0, hc1⟩ (fun hHeld => ?_)
 refine pure_ (i := 0) (N := some 33) (v := ?_) (a' := ?_) #[true, false, false, false, false, false, false, false, false, false, false, false, false, false, false, false, false] rfl rfl (by kernel_rfl) (fun _ _ _ h => h) (Or.inl ⟨by rfl, ?_⟩) ?_ ?_
 rotate_left
 ·
  intro w'
  go_simp
  with_reducible rfl
 rotate_left
 ·
  simp only [Act.put, List.setIfInBounds_toArray, List.set_cons_zero, List.set_cons_succ, i64_w, i32_w]
  rfl
 refine pure_ (i := 1) (N := some 34) (v := ?_) (a' := ?_) #[true, true, false, false, false, false, false, false, false, false, false, false, false, false, false, false, false] rfl rfl (by kernel_rfl) (fun _ _ _ h => h) (Or.inl ⟨by rfl, ?_⟩) ?_ ?_
 rotate_left
 ·
  intro w'
  go_simp
  with_reducible rfl
 rotate_left
 ·
  simp only [Act.put, List.setIfInBounds_toArray, List.set_cons_zero, List.set_cons_succ, i64_w, i32_w]
  rfl
 refine pure_ (i := 2) (N := some 35) (v := ?_) (a' := ?_) #[true, true, true, false, false, false, false, false, false, false, false, false, false, false, false, false, false] rfl rfl (by kernel_rfl) (fun _ _ _ h => h) (Or.inl ⟨by rfl, ?_⟩) ?_ ?_
 rotate_left
 ·
  intro w'
  go_simp
  with_reducible rfl
 rotate_left
 ·
  simp only [Act.put, List.setIfInBounds_toArray, List.set_cons_zero, List.set_cons_succ, i64_w, i32_w]
  rfl
 refine pure_ (i := 4) (N := some 37) (v := ?_) (a' := ?_) #[true, true, true, false, true, false, false, false, false, false, false, false, false, false, false, false, false] rfl rfl (by kernel_rfl) (fun _ _ _ h => h) (Or.inl ⟨by rfl, ?_⟩) ?_ ?_
 rotate_left
 ·
  intro w'
  go_simp
  with_reducible rfl
 rotate_left
 ·
  simp only [Act.put, List.setIfInBounds_toArray, List.set_cons_zero, List.set_cons_succ, i64_w, i32_w]
  rfl
 refine pure_ (i := 5) (N := some 38) (v := ?_) (a' := ?_) #[true, true, true, false, true, true, false, false, false, false, false, false, false, false, false, false, false] rfl rfl (by kernel_rfl) (fun _ _ _ h => h) (Or.inl ⟨by rfl, ?_⟩) ?_ ?_
 rotate_left
 ·
  intro w'
  go_simp
  with_reducible rfl
 rotate_left
 ·
  simp only [Act.put, List.setIfInBounds_toArray, List.set_cons_zero, List.set_cons_succ, i64_w, i32_w]
  rfl
 refine pure_ (i := 6) (N := some 39) (v := ?_) (a' := ?_) #[true, true, true, false, true, true, true, false, false, false, false, false, false, false, false, false, false] rfl rfl (by kernel_rfl) (fun _ _ _ h => h) (Or.inl ⟨by rfl, ?_⟩) ?_ ?_
 rotate_left
 ·
  intro w'
  go_simp
  with_reducible rfl
 rotate_left
 ·
  simp only [Act.put, List.setIfInBounds_toArray, List.set_cons_zero, List.set_cons_succ, i64_w, i32_w]
  rfl
 refine pure_ (i := 8) (N := some 41) (v := ?_) (a' := ?_) #[true, true, true, false, true, true, true, false, true, false, false, false, false, false, false, false, false] rfl rfl (by kernel_rfl) (fun _ _ _ h => h) (Or.inl ⟨by rfl, ?_⟩) ?_ ?_
 rotate_left
 ·
  intro w'
  go_simp
  with_reducible rfl
 rotate_left
 ·
  simp only [Act.put, List.setIfInBounds_toArray, List.set_cons_zero, List.set_cons_succ, i64_w, i32_w]
  rfl
 refine pure_ (i := 10) (N := some 43) (v := ?_) (a' := ?_) #[true, true, true, false, true, true, true, false, true, false, true, false, false, false, false, false, false] rfl rfl (by kernel_rfl) (fun _ _ _ h => h) (Or.inl ⟨by rfl, ?_⟩) ?_ ?_
 rotate_left
 ·
  intro w'
  go_simp
  with_reducible rfl
 rotate_left
 ·
  simp only [Act.put, List.setIfInBounds_toArray, List.set_cons_zero, List.set_cons_succ, i64_w, i32_w]
  rfl
 refine pure_ (i := 11) (N := some 44) (v := ?_) (a' := ?_) #[true, true, true, false, true, true, true, false, true, false, true, true, false, false, false, false, false] rfl rfl (by kernel_rfl) (fun _ _ _ h => h) (Or.inl ⟨by rfl, ?_⟩) ?_ ?_
 rotate_left
 ·
  intro w'
  go_simp
  with_reducible rfl
 rotate_left
 ·
  simp only [Act.put, List.setIfInBounds_toArray, List.set_cons_zero, List.set_cons_succ, i64_w, i32_w]
  rfl
 refine pure_ (i := 12) (N := some 45) (v := ?_) (a' := ?_) #[true, true, true, false, true, true, true, false, true, false, true, true, true, false, false, false, false] rfl rfl (by kernel_rfl) (fun _ _ _ h => h) (Or.inl ⟨by rfl, ?_⟩) ?_ ?_
 rotate_left
 ·
  intro w'
  go_simp
  with_reducible rfl
 rotate_left
 ·
  simp only [Act.put, List.setIfInBounds_toArray, List.set_cons_zero, List.set_cons_succ, i64_w, i32_w]
  rfl
 refine take_ (i := 3) (N := some 36) (v := ?_) (a' := ?_) #[true, true, true, true, true, true, true, false, true, false, true, true, true, false, false, false, false] rfl rfl (by kernel_rfl) (fun _ _ _ h => h) (Or.inl ⟨by rfl, ?_⟩) hHeld ?_ ?_
 rotate_left
 ·
  rintro w' ⟨s0, s1⟩
  go_simp
  with_reducible rfl
 rotate_left
 ·
  simp only [Act.put, List.setIfInBounds_toArray, List.set_cons_zero, List.set_cons_succ, i64_w, i32_w]
  rfl
 refine take_ (i := 7) (N := some 40) (v := ?_) (a' := ?_) #[true, true, true, true, true, true, true, true, true, false, true, true, true, false, false, false, false] rfl rfl (by kernel_rfl) (fun _ _ _ h => h) (Or.inl ⟨by rfl, ?_⟩) hHeld ?_ ?_
 rotate_left
 ·
  rintro w' ⟨s0, s1⟩
  go_simp
  with_reducible rfl
 rotate_left
 ·
  simp only [Act.put, List.setIfInBounds_toArray, List.set_cons_zero, List.set_cons_succ, i64_w, i32_w]
  rfl
 refine pure_ (i := 9) (N := some 42) (v := ?_) (a' := ?_) #[true, true, true, true, true, true, true, true, true, true, true, true, true, false, false, false, false] rfl rfl (by kernel_rfl) (fun _ _ _ h => h) (Or.inl ⟨by rfl, ?_⟩) ?_ ?_
 rotate_left
 ·
  intro w'
  go_simp
  with_reducible rfl
 rotate_left
 ·
  simp only [Act.put, List.setIfInBounds_toArray, List.set_cons_zero, List.set_cons_succ, i64_w, i32_w]
  rfl
 refine take_ (i := 13) (N := some 46) (v := ?_) (a' := ?_) #[true, true, true, true, true, true, true, true, true, true, true, true, true, true, false, false, false] rfl rfl (by kernel_rfl) (fun _ _ _ h => h) (Or.inl ⟨by rfl, ?_⟩) hHeld ?_ ?_
 rotate_left
 ·
  rintro w' ⟨s0, s1⟩
  go_simp
  with_reducible rfl
 rotate_left
 ·
  simp only [Act.put, List.setIfInBounds_toArray, List.set_cons_zero, List.set_cons_succ, i64_w, i32_w]
  rfl
 refine pure_ (i := 14) (N := some 47) (v := ?_) (a' := ?_) #[true, true, true, true, true, true, true, true, true, true, true, true, true, true, true, false, false] rfl rfl (by kernel_rfl) (fun _ _ _ h => h) (Or.inl ⟨by rfl, ?_⟩) ?_ ?_
 rotate_left
 ·
  intro w'
  go_simp
  with_reducible rfl
 rotate_left
 ·
  simp only [Act.put, List.setIfInBounds_toArray, List.set_cons_zero, List.set_cons_succ, i64_w, i32_w]
  rfl
 refine last_ (i := 15) (N := some 48) #[true, true, true, true, true, true, true, true, true, true, true, true, true, true, true, true, false] rfl rfl (by kernel_rfl) (by decide) (fun K hK => ?_)
 refine goes_ Try.func111 (by kernel_rfl) rfl #[.slice A3 m (c2 - at_)] (by rfl) rfl rfl (by (try simp only [List.map_toArray, List.map_cons, List.map_nil]); first | done | rfl) ?_
 refine (G.bytes_Clone.calls (n := m) A3 (c2 - at_) ((l.take (at_ + m)).drop at_) _ _ hC.out (by rw [hlen]; have := hcl.out; omega) (by unfold G.bytes_Clone.f; exact if_pos (by omega)) hlen.symm).mono ?_
 rintro e w3 ⟨v3, rfl, ho, hb⟩
 refine ⟨_, rfl, ?_⟩
 have hS3 := Aside0.mk (Sep.row_new hS2.out hb ho)
 clear ho hb
 refine hK.out _ _ ?_
 clear hK K
 refine norm_ (a' := ?_) ?_ ?_
 rotate_left
 ·
  show Act.put _ (some 48) _ = _
  simp only [Act.put, List.setIfInBounds_toArray, List.set_cons_zero, List.set_cons_succ, i64_w, i32_w]
  rfl
 refine pure_ (i := 16) (N := some 4) (v := ?_) (a' := ?_) #[true, true, true, true, true, true, true, true, true, true, true, true, true, true, true, true, true] rfl rfl (by kernel_rfl) (fun _ _ _ h => h) (Or.inl ⟨by rfl, ?_⟩) ?_ ?_
 rotate_left
 ·
  intro w'
  go_simp
  with_reducible rfl
 rotate_left
 ·
  simp only [Act.put, List.setIfInBounds_toArray, List.set_cons_zero, List.set_cons_succ, i64_w, i32_w]
  rfl
 refine done_ (by kernel_rfl) ?_
 go_wp2
 go_ret
 exact ⟨_, rfl, hS3.out⟩
end Go.Proofs.Ytekanmieppnpeaa.Sep
namespace Go.Proofs.Ytekanmieppnpeaa.Sep
open Go Go.RowKit Go.Proofs.YtekanmieppnpeaaW.PrintWords Go.Proofs.YtekanmieppnpeaaW.PrintLast Go.Proofs.YtekanmieppnpeaaW.PrintMore Go.Proofs.Ytekanmieppnpeaa.PureKit
def lev : List Int → Int
 | [] => 0
 | b :: bs => b + 256 * lev bs
theorem lev_append : ∀ (a b : List Int), lev (a ++ b) = lev a + 256 ^ a.length * lev b
 | [], b => by simp [lev]
 | x :: xs, b => by
  simp only [List.cons_append, lev, lev_append xs b, List.length_cons, Int.pow_succ]
  rw [Int.mul_add, Int.add_assoc, ← Int.mul_assoc, Int.mul_comm 256 (256 ^ xs.length)]
theorem lev_take (ys : List Int) (i : Nat) (h : i < ys.length) (hb : Bytes ys) : lev (ys.take (i + 1)) = lev (ys.take i) + ys[i] * 256 ^ i := by
 rw [List.take_succ_eq_append_getElem h, lev_append, List.length_take, Nat.min_eq_left (by omega)]
 simp [lev, Int.mul_comm]
theorem lev_bound : ∀ (a : List Int), Bytes a → 0 ≤ lev a ∧ lev a < 256 ^ a.length
 | [], _ => by simp [lev]
 | x :: xs, h => by
  have := lev_bound xs h.tail
  have hx := h.head
  simp only [lev, List.length_cons, Int.pow_succ]
  omega
theorem or_step (X y : Int) (i : Nat) (hi : i < 8) (h0 : 0 ≤ X) (h1 : X < 256 ^ i) (hy0 : 0 ≤ y) (hy1 : y ≤ 255) : bits BinOp.or IntKind.u64 X (IntKind.u64.wrap (y * 2 ^ (8 * i))) = X + y * 256 ^ i := by
 obtain ⟨a, rfl⟩ := Int.eq_ofNat_of_zero_le h0
 obtain ⟨b, rfl⟩ := Int.eq_ofNat_of_zero_le hy0
 have hp : (256 : Int) ^ i = ((2 ^ (8 * i) : Nat) : Int) := by rw [Nat.pow_mul]; simp
 have hq : (2 : Int) ^ (8 * i) = ((2 ^ (8 * i) : Nat) : Int) := by simp
 have hle : 2 ^ (8 * i) ≤ 2 ^ 56 := Nat.pow_le_pow_right (by omega) (by omega)
 rw [hp] at h1 ⊢
 rw [hq]
 generalize hP : 2 ^ (8 * i) = P at *
 have ha : a < P := by omega
 have hbP : b * P ≤ 255 * 2 ^ 56 := Nat.mul_le_mul (by omega) hle
 have hm : (b : Int) * (P : Int) = ((b * P : Nat) : Int) := by simp
 rw [hm, wu64 (by omega) (by omega), bits_or_u64_nat a (b * P) (by omega) (by omega)]
 have := Nat.two_pow_add_eq_or_of_lt (i := 8 * i) (b := a) (by rw [hP]; exact ha) b
 rw [hP] at this
 rw [Nat.or_comm, Nat.mul_comm b P, ← this]
 omega
set_option maxHeartbeats 4000000 in
set_option maxRecDepth 100000 in
theorem cur_num_short (w0 w : World) (g at_ : Nat) (l : List Int) (ps : List HP) (n : Int) (hs : Sep w0 w (cur g l at_ true :: ps)) (hn : 0 < n) (hat : at_ ≤ l.length) (hl : l.length ≤ 1000000000000) (hsh : n > (l.length : Int) - at_) :
  Calls Try.prog 113 #[.pointer (some ⟨g, 0, none⟩), .int .i64 n] w fun e w' => e = .panicked [fault g 2] ∧ Sep w0 w' (cur g l at_ true :: ps) := by
 have hS := Aside0.mk hs
 clear hs
 go_enter Try.func113, Try.ntmps113
 go_wp2_with (fail)
 refine (cur_Take_short w0 _ g at_ l ps n hS.out hn hat hl hsh).mono ?_
 rintro e w1 ⟨rfl, h1⟩
 exact ⟨rfl, rfl, h1⟩
set_option maxHeartbeats 4000000 in
set_option maxRecDepth 100000 in
theorem cur_num_some (w0 w : World) (g at_ : Nat) (l : List Int) (ps : List HP) (m : Nat) (n : Int) (hm : n = m) (hs : Sep w0 w (cur g l at_ true :: ps)) (hb : Bytes l) (hn : 0 < m) (hm8 : m ≤ 8) (hl : l.length ≤ 1000000000000) (hsh : at_ + m ≤ l.length) :
  Calls Try.prog 113 #[.pointer (some ⟨g, 0, none⟩), .int .i64 n] w fun e w' => e = .returned (.int .u64 (lev ((l.take (at_ + m)).drop at_))) ∧ Sep w0 w' (cur g l (at_ + m) true :: ps) := by
 have hS := Aside0.mk hs
 clear hs
 have hlen : ((l.take (at_ + m)).drop at_).length = m := by rw [List.length_drop, List.length_take]; omega
 have hby : Bytes ((l.take (at_ + m)).drop at_) := (hb.take _).drop _
 generalize hys : (l.take (at_ + m)).drop at_ = ys at *
 go_enter Try.func113, Try.ntmps113
 go_wp2_with (first | ((with_reducible refine gate_callee (f := 142) rfl ?_); refine goesL_ (some 10) rfl rfl Try.func142 (by kernel_rfl) rfl #[.pointer (some ⟨g, 0, none⟩), .int .i64 n] rfl (by (try simp only [List.map_toArray, List.map_cons, List.map_nil]); first | done | rfl) ?_; (with_reducible refine (cur_Take_some w0 _ g at_ l ps m n hm hS.out hn hl hsh).mono ?_); rintro e w1 ⟨v1, rfl, h1⟩; refine ⟨_, rfl, ?_⟩; rw [hys] at h1; obtain ⟨bs1, hR1⟩ := h1.row_R; obtain ⟨A1, c1, e1⟩ := Kd.R_slice hR1; subst e1; have hS1 := Aside0.mk h1; clear h1 hR1))
 go_loopg [5, 12] m (fun kq v5 v12 w' => ∃ (i : Nat), v5 = .int .u64 (lev (ys.take i)) ∧ v12 = .int .i64 i ∧ Aside0 (i + kq = m) ∧ Aside0 (Sep w0 w' (row (Kd.int .u8) 5 (.slice A1 ys.length c1) ys :: cur g l (at_ + m) true :: ps)))
 case atStart => exact ⟨0, by simp [lev], rfl, ⟨by omega⟩, hS1⟩
 case round =>
  obtain ⟨i, rfl, rfl, hA, hS⟩ := hrel
  by_cases hin : i < m
  ·
   have hd : decide ((i : Int) < (ys.length : Int)) = true := decide_eq_true (by omega)
   obtain ⟨k1, rfl⟩ : ∃ k1, gk = k1 + 1 := ⟨gk - 1, by have := hA.out; omega⟩
   obtain ⟨bs, hR⟩ := hS.out.row_R
   have hC := (Kd.R_reads' hR).2.2
   obtain ⟨ad, e0, hx⟩ := Kd.at_int hC (i : Int) (by omega) (by omega)
   cases e0
   simp only [Int.toNat_natCast] at hx
   rw [rd_at ys i (by omega)] at hx
   have hyb := hby ys[i] (List.getElem_mem (by omega))
   obtain ⟨y, hy⟩ : ∃ y, ys[i]'(by omega) = y := ⟨_, rfl⟩
   rw [hy] at hx hyb
   have hy := Aside0.mk hy
   have p0 : ((0 : Int) ≤ (i : Int)) = True := eq_true (by omega)
   have q0 : ((i : Int) < (ys.length : Int)) = True := eq_true (by omega)
   generalize hX : lev (ys.take i) = X
   have hX := Aside0.mk hX
   go_wp2
   go_roundg k1
   case measure => omega
   case rel =>
    have hXX := hX.out
    have hlv := lev_take ys i (by omega) hby
    have hbd := lev_bound (ys.take i) (hby.take _)
    rw [List.length_take, Nat.min_eq_left (by omega)] at hbd
    rw [hXX] at hlv hbd
    rw [hy.out] at hlv
    refine ⟨i + 1, ?_, by simp, ⟨by have := hA.out; omega⟩, hS⟩
    rw [hlv, or_step X y i (by omega) hbd.1 hbd.2 hyb.1 hyb.2]
  ·
   have him : i = m := by have := hA.out; omega
   have hd : decide ((i : Int) < (ys.length : Int)) = false := decide_eq_false (by omega)
   go_wp2
   go_ret
   refine ⟨?_, hS.out.tail⟩
   rw [List.take_of_length_le (by omega)]
   rfl
end Go.Proofs.Ytekanmieppnpeaa.Sep
namespace Go.Proofs.Ytekanmieppnpeaa.Sep
open Go Go.RowKit Go.Proofs.YtekanmieppnpeaaW.PrintWords Go.Proofs.YtekanmieppnpeaaW.PrintLast Go.Proofs.YtekanmieppnpeaaW.PrintMore Go.Proofs.Ytekanmieppnpeaa.PureKit
set_option maxHeartbeats 4000000 in
theorem cur_Byte_short (w0 w : World) (g at_ : Nat) (l : List Int) (ps : List HP) (hs : Sep w0 w (cur g l at_ true :: ps)) (hl : l.length ≤ 1000000000000) (hsh : at_ = l.length) :
  Calls Try.prog 70 #[.pointer (some ⟨g, 0, none⟩)] w fun e w' => e = .panicked [fault g 2] ∧ Sep w0 w' (cur g l at_ true :: ps) := by
 have hS := Aside0.mk hs
 clear hs
 go_enter Try.func70, Try.ntmps70
 go_wp2_with (fail)
 refine (cur_num_short w0 _ g at_ l ps 1 hS.out (by decide) (by omega) hl (by omega)).mono ?_
 rintro e w1 ⟨rfl, h1⟩
 exact ⟨rfl, rfl, h1⟩
set_option maxHeartbeats 4000000 in
theorem cur_Byte_some (w0 w : World) (g at_ : Nat) (l : List Int) (ps : List HP) (hs : Sep w0 w (cur g l at_ true :: ps)) (hb : Bytes l) (hl : l.length ≤ 1000000000000) (hsh : at_ < l.length) :
  Calls Try.prog 70 #[.pointer (some ⟨g, 0, none⟩)] w fun e w' => e = .returned (.int .u8 l[at_]) ∧ Sep w0 w' (cur g l (at_ + 1) true :: ps) := by
 have hS := Aside0.mk hs
 clear hs
 have h1 : (l.take (at_ + 1)).drop at_ = [l[at_]] := by
  rw [List.take_succ_eq_append_getElem hsh, List.drop_left' (by rw [List.length_take]; omega)]
 have hx := hb _ (List.getElem_mem hsh)
 generalize l[at_] = y at *
 go_enter Try.func70, Try.ntmps70
 go_wp2_with (first | ((with_reducible refine gate_callee (f := 113) rfl ?_); refine goesL_ (some 4) rfl rfl Try.func113 (by kernel_rfl) rfl #[.pointer (some ⟨g, 0, none⟩), .int .i64 1] rfl (by (try simp only [List.map_toArray, List.map_cons, List.map_nil]); first | done | rfl) ?_; (with_reducible refine (cur_num_some w0 _ g at_ l ps 1 1 rfl hS.out hb (by decide) (by decide) hl (by omega)).mono ?_); rintro e w1 ⟨rfl, h2⟩; refine ⟨_, rfl, ?_⟩; rw [h1, show lev [y] = y by simp [lev]]; have hS1 := Aside0.mk h2; clear h2))
 go_ret
 exact ⟨rfl, hS1.out⟩
set_option maxHeartbeats 4000000 in
theorem cur_Left (w0 w : World) (g at_ : Nat) (l : List Int) (ps : List HP) (hs : Sep w0 w (cur g l at_ true :: ps)) (hat : at_ ≤ l.length) (hl : l.length ≤ 1000000000000) :
  Calls Try.prog 124 #[.pointer (some ⟨g, 0, none⟩)] w fun e w' => e = .returned (.int .i64 ((l.length : Int) - at_)) ∧ Sep w0 w' (cur g l at_ true :: ps) := by
 have hS := Aside0.mk hs
 clear hs
 go_enter Try.func124, Try.ntmps124
 go_wp2_with (first | ((with_reducible refine gate_callee (f := 123) rfl ?_); refine goesL_ (some 4) rfl rfl Try.func123 (by kernel_rfl) rfl #[.pointer (some ⟨g, 0, none⟩)] rfl (by (try simp only [List.map_toArray, List.map_cons, List.map_nil]); first | done | rfl) ?_; (with_reducible refine (cur_dead w0 _ g at_ l true ps hS.out).mono ?_); rintro e w1 ⟨rfl, h1⟩; refine ⟨_, rfl, ?_⟩; have hS1 := Aside0.mk h1; clear h1))
 obtain ⟨A, c, hO⟩ := Sep.cur_open hS1.out
 have hc0 : w1.cell? ⟨g, 0, none⟩ = some (.slice A l.length c) := (hO.cell 0).trans rfl
 have hc1 : w1.cell? ⟨g, 1, none⟩ = some (.int .i64 at_) := (hO.cell 1).trans rfl
 clear hO
 repeat (go_quiet (fail); try go_wp2)
 go_ret
 refine ⟨?_, hS1.out.drewN _⟩
 show Ending.returned (Value.int .i64 (IntKind.i64.wrap ((l.length : Int) - (at_ : Int)))) = _
 rw [i64_w, w64 (by omega) (by omega)]
set_option maxHeartbeats 4000000 in
theorem cur_End_ok (w0 w : World) (g at_ : Nat) (l : List Int) (ps : List HP) (hs : Sep w0 w (cur g l at_ true :: ps)) (hat : at_ = l.length) (hl : l.length ≤ 1000000000000) :
  Calls Try.prog 73 #[.pointer (some ⟨g, 0, none⟩)] w fun e w' => e = .returned (.tuple #[]) ∧ Sep w0 w' (cur g l at_ true :: ps) := by
 have hS := Aside0.mk hs
 clear hs
 have hd : decide ((l.length : Int) - (at_ : Int) > 0) = false := decide_eq_false (by omega)
 go_enter Try.func73, Try.ntmps73
 go_wp2_with (first | ((with_reducible refine gate_callee (f := 124) rfl ?_); refine goesL_ (some 3) rfl rfl Try.func124 (by kernel_rfl) rfl #[.pointer (some ⟨g, 0, none⟩)] rfl (by (try simp only [List.map_toArray, List.map_cons, List.map_nil]); first | done | rfl) ?_; (with_reducible refine (cur_Left w0 _ g at_ l ps hS.out (by omega) hl).mono ?_); rintro e w1 ⟨rfl, h1⟩; refine ⟨_, rfl, ?_⟩; have hS1 := Aside0.mk h1; clear h1))
 go_end0
 exact ⟨rfl, hS1.out⟩
set_option maxHeartbeats 4000000 in
theorem cur_End_long (w0 w : World) (g at_ : Nat) (l : List Int) (ps : List HP) (hs : Sep w0 w (cur g l at_ true :: ps)) (hat : at_ < l.length) (hl : l.length ≤ 1000000000000) :
  Calls Try.prog 73 #[.pointer (some ⟨g, 0, none⟩)] w fun e w' => e = .panicked [fault g 3] ∧ Sep w0 w' (cur g l at_ true :: ps) := by
 have hS := Aside0.mk hs
 clear hs
 have hd : decide ((l.length : Int) - (at_ : Int) > 0) = true := decide_eq_true (by omega)
 go_enter Try.func73, Try.ntmps73
 go_wp2_with (first | ((with_reducible refine gate_callee (f := 124) rfl ?_); refine goesL_ (some 3) rfl rfl Try.func124 (by kernel_rfl) rfl #[.pointer (some ⟨g, 0, none⟩)] rfl (by (try simp only [List.map_toArray, List.map_cons, List.map_nil]); first | done | rfl) ?_; (with_reducible refine (cur_Left w0 _ g at_ l ps hS.out (by omega) hl).mono ?_); rintro e w1 ⟨rfl, h1⟩; refine ⟨_, rfl, ?_⟩; have hS1 := Aside0.mk h1; clear h1))
 refine (cur_Fail w0 _ g at_ l ps 3 hS1.out (by decide)).mono ?_
 rintro e w2 ⟨rfl, h2⟩
 exact ⟨rfl, rfl, h2⟩
end Go.Proofs.Ytekanmieppnpeaa.Sep
end
