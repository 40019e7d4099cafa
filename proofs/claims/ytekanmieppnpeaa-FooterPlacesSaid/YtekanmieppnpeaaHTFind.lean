/- table.Find, walked: two searches by halves. -/
import Derived.Test.YtekanmieppnpeaaHSearch
import Derived.Test.YtekanmieppnpeaaHTable11
set_option linter.unusedVariables false
set_option linter.unusedSimpArgs false
namespace Go.Proofs.Ytekanmieppnpeaa.Tb
open Go Go.RowKit Go.Proofs.YtekanmieppnpeaaW.PrintWords Go.Proofs.YtekanmieppnpeaaW.PrintLast Go.Proofs.YtekanmieppnpeaaW.PrintMore Go.Proofs.Ytekanmieppnpeaa.Sep Go.Proofs.Ytekanmieppnpeaa.G Go.Proofs.Ytekanmieppnpeaa.PureKit
set_option maxHeartbeats 4000000
set_option maxRecDepth 100000

theorem find_ge (w0 w : World) (gl gh : Nat) (A : Option Addr) (c : Nat) (l : List E1) (hash : Int) (i : Nat) (ps : List HP)
    (hs : Sep.Sep w0 w (blk gl #[.slice A l.length c] 27 :: blk gh #[.int .u64 hash] 30 :: ps)) (hC : kE.C w0 A l.length l) (hi : i < l.length) :
    Calls Try.prog 106 #[.int .i64 (i : Int), .pointer (some ⟨gl, 0, none⟩), .pointer (some ⟨gh, 0, none⟩)] w fun e w' => e = .returned (.bool (decide ((rd_T33 l (i : Int)).f0 ≥ hash))) ∧ Sep.Sep w0 w' (blk gl #[.slice A l.length c] 27 :: blk gh #[.int .u64 hash] 30 :: ps) := by
  have hS := Aside0.mk hs
  obtain ⟨ad, e0, hx0, -⟩ := at_T33 (Kd.C_below hC hs.1) (i : Int) (by omega) (by omega)
  cases e0
  rw [Int.toNat_natCast] at hx0
  have hc0 : w.cell? ⟨gl, 0, none⟩ = some (.slice (some ad) l.length c) := (hs.cell 0).trans rfl
  have hc1 : w.cell? ⟨gh, 0, none⟩ = some (.int .u64 hash) := (hs.pick1.cell 0).trans rfl
  have p0 : ((0 : Int) ≤ (i : Int)) = True := eq_true (by omega)
  have q0 : ((i : Int) < (l.length : Int)) = True := eq_true (by omega)
  obtain ⟨y, hy⟩ : ∃ y, (rd_T33 l (i : Int)).f0 = y := ⟨_, rfl⟩
  rw [hy] at hx0 ⊢
  clear hs hC hy
  go_enter Try.func106, Try.ntmps106
  go_wp2_with (fail)
  repeat (go_quiet (fail); try go_wp2)
  go_ret
  exact ⟨rfl, by first | exact hS.out.drewN _ | exact hS.out⟩
theorem find_gt (w0 w : World) (gl gf gh : Nat) (A : Option Addr) (c : Nat) (l : List E1) (from_ : Nat) (hash : Int) (i : Nat) (ps : List HP)
    (hs : Sep.Sep w0 w (blk gl #[.slice A l.length c] 27 :: blk gh #[.int .u64 hash] 30 :: blk gf #[.int .i64 (from_ : Int)] 3 :: ps)) (hC : kE.C w0 A l.length l) (hi : from_ + i < l.length) (hl : l.length ≤ 100000000) :
    Calls Try.prog 107 #[.int .i64 (i : Int), .pointer (some ⟨gl, 0, none⟩), .pointer (some ⟨gf, 0, none⟩), .pointer (some ⟨gh, 0, none⟩)] w fun e w' => e = .returned (.bool (decide ((rd_T33 l ((from_ + i : Nat) : Int)).f0 > hash))) ∧ Sep.Sep w0 w' (blk gl #[.slice A l.length c] 27 :: blk gh #[.int .u64 hash] 30 :: blk gf #[.int .i64 (from_ : Int)] 3 :: ps) := by
  have hS := Aside0.mk hs
  obtain ⟨z, hz⟩ : ∃ z, wrap64 ((from_ : Int) + (i : Int)) = z := ⟨_, rfl⟩
  have hzi : z = ((from_ + i : Nat) : Int) := by rw [← hz, w64 (by omega) (by omega)]; omega
  have hzw : IntKind.i64.wrap ((from_ : Int) + (i : Int)) = z := (i64_w _).trans hz
  obtain ⟨ad, e0, hx0, -⟩ := at_T33 (Kd.C_below hC hs.1) z (by omega) (by omega)
  cases e0
  have hc0 : w.cell? ⟨gl, 0, none⟩ = some (.slice (some ad) l.length c) := (hs.cell 0).trans rfl
  have hc1 : w.cell? ⟨gh, 0, none⟩ = some (.int .u64 hash) := (hs.pick1.cell 0).trans rfl
  have hc2 : w.cell? ⟨gf, 0, none⟩ = some (.int .i64 (from_ : Int)) := (hs.pick2.cell 0).trans rfl
  have p0 : ((0 : Int) ≤ z) = True := eq_true (by omega)
  have q0 : (z < (l.length : Int)) = True := eq_true (by omega)
  rw [← hzi]
  obtain ⟨y, hy⟩ : ∃ y, (rd_T33 l z).f0 = y := ⟨_, rfl⟩
  rw [hy] at hx0 ⊢
  clear hs hC hy hzi hi hl
  go_enter Try.func107, Try.ntmps107
  go_wp2_with (fail)
  repeat (go_quiet (fail); try go_wp2)
  go_ret
  exact ⟨rfl, by first | exact hS.out.drewN _ | exact hS.out⟩

def geB (l : List E1) (hash : Int) (i : Nat) : Bool := decide ((rd_T33 l (i : Int)).f0 ≥ hash)
def gtB (l : List E1) (hash : Int) (f i : Nat) : Bool := decide ((rd_T33 l ((f + i : Nat) : Int)).f0 > hash)
def findF (l : List E1) (hash : Int) : Nat := bsr (geB l hash) l.length 0 l.length
def findN (l : List E1) (hash : Int) : Nat := bsr (gtB l hash (findF l hash)) (l.length - findF l hash) 0 (l.length - findF l hash)
theorem bsr_le' (q : Nat → Bool) : ∀ (d i j : Nat), i ≤ j → bsr q d i j ≤ j
  | 0, i, j, h => h
  | d + 1, i, j, h => by
    unfold bsr
    split
    · split
      · exact Nat.le_trans (bsr_le' q d _ _ (by omega)) (by omega)
      · exact bsr_le' q d _ _ (by omega)
    · exact h

theorem find_call (w : World) (A : Option Addr) (c : Nat) (l : List E1) (hash : Int) (hC : kE.C w A l.length l) (hl : l.length ≤ 100000000) :
    Calls Try.prog 46 #[.slice A l.length c, .int .u64 hash] w fun e w' => e = .returned (.tuple #[.int .i64 (findF l hash : Nat), .int .i64 ((findF l hash + findN l hash : Nat) : Int)]) ∧ Below w.heap.size w w' := by
  have hCA := Aside0.mk hC
  have hlA := Aside0.mk hl
  have hsz : ∀ (W : World) (o : Obj), (W.alloc o).heap.size = W.heap.size + 1 := fun W o => by show (W.heap.push _).size = _; simp
  have hS0 := (((Sep.start w).alloc #[.slice A l.length c] 27).alloc #[.int .u64 hash] 30).alloc #[.int .i64 0] 3
  rw [hsz, hsz] at hS0
  have hS : Aside0 (Sep.Sep w (((w.alloc (.cells #[.slice A l.length c] 27)).alloc (.cells #[.int .u64 hash] 30)).alloc (.cells #[.int .i64 0] 3)) [blk w.heap.size #[.slice A l.length c] 27, blk (w.heap.size + 1) #[.int .u64 hash] 30, blk (w.heap.size + 1 + 1) #[.int .i64 0] 3]) := ⟨hS0.perm (List.reverse_perm _).symm⟩
  obtain ⟨f, hf⟩ : ∃ f, findF l hash = f := ⟨_, rfl⟩
  obtain ⟨n, hn⟩ : ∃ n, findN l hash = n := ⟨_, rfl⟩
  have hfl : f ≤ l.length := by rw [← hf]; exact bsr_le' _ _ _ _ (Nat.zero_le _)
  have hnl : n ≤ l.length - f := by rw [← hn, findN, hf]; exact bsr_le' _ _ _ _ (Nat.zero_le _)
  have hg1 := Aside0.mk (fun W (h : Sep.Sep w W [blk w.heap.size #[.slice A l.length c] 27, blk (w.heap.size + 1) #[.int .u64 hash] 30, blk (w.heap.size + 1 + 1) #[.int .i64 0] 3]) => search_calls w W 106 #[.pointer (some ⟨w.heap.size, 0, none⟩), .pointer (some ⟨w.heap.size + 1, 0, none⟩)] _ l.length (geB l hash) Try.call106 h (by omega) (fun W2 i h2 hi =>
    find_ge w W2 w.heap.size (w.heap.size + 1) A c l hash i _ h2 hCA.out hi))
  have hg2 := Aside0.mk (fun W (h : Sep.Sep w W [blk w.heap.size #[.slice A l.length c] 27, blk (w.heap.size + 1) #[.int .u64 hash] 30, blk (w.heap.size + 1 + 1) #[.int .i64 (f : Int)] 3]) => search_calls w W 107 #[.pointer (some ⟨w.heap.size, 0, none⟩), .pointer (some ⟨w.heap.size + 1 + 1, 0, none⟩), .pointer (some ⟨w.heap.size + 1, 0, none⟩)] _ (l.length - f) (gtB l hash f) Try.call107 h (by omega) (fun W2 i h2 hi =>
    find_gt w W2 w.heap.size (w.heap.size + 1 + 1) (w.heap.size + 1) A c l f hash i _ h2 hCA.out (by omega) hl))
  rw [show bsr (geB l hash) l.length 0 l.length = f from hf] at hg1
  rw [show bsr (gtB l hash f) (l.length - f) 0 (l.length - f) = n from by rw [← hn, findN, hf]] at hg2
  rw [hf, hn]
  have hmf : ∀ (fn : Fn) (first cap : Array Value) (w : World), (Instr.makeFunc fn first cap).run Try.prog w = .ok (.func fn first cap) w := fun _ _ _ _ => rfl
  obtain ⟨s, hs⟩ : ∃ s, wrap64 ((l.length : Int) - (f : Int)) = s := ⟨_, rfl⟩
  have hsi : s = ((l.length - f : Nat) : Int) := by rw [← hs, w64 (by omega) (by omega)]; omega
  have hsw : IntKind.i64.wrap ((l.length : Int) - (f : Int)) = s := (i64_w _).trans hs
  obtain ⟨u, hu⟩ : ∃ u, wrap64 ((f : Int) + (n : Int)) = u := ⟨_, rfl⟩
  have hui : u = ((f + n : Nat) : Int) := by rw [← hu, w64 (by omega) (by omega)]; omega
  have huw : IntKind.i64.wrap ((f : Int) + (n : Int)) = u := (i64_w _).trans hu
  rw [← hsi] at hg2
  rw [← hui]
  clear hC hl hS0 hsz hf hn hfl hnl hsi hui
  go_enter Try.func46, Try.ntmps46
  go_wp2_with (fail)
  refine (hg1.out _ hS.out).mono ?_
  rintro e w1 ⟨rfl, h1⟩
  have hc2 : w1.cell? ⟨w.heap.size + 1 + 1, 0, none⟩ = some (.int .i64 0) := (h1.pick2.cell 0).trans rfl
  have hf2 : w1.frozen? ⟨w.heap.size + 1 + 1, 0, none⟩ = false := h1.pick2.frozen 0
  have hS1 : Aside0 (Sep.Sep w (w1.setCell ⟨w.heap.size + 1 + 1, 0, none⟩ (.int .i64 (f : Int))) [blk w.heap.size #[.slice A l.length c] 27, blk (w.heap.size + 1) #[.int .u64 hash] 30, blk (w.heap.size + 1 + 1) #[.int .i64 (f : Int)] 3]) := ⟨(h1.pick2.set 0 (.int .i64 (f : Int))).put2⟩
  clear h1
  go_wp2_with (fail)
  generalize w1.setCell ⟨w.heap.size + 1 + 1, 0, none⟩ (.int .i64 (f : Int)) = wq at hS1 ⊢
  clear hc2 hf2
  have hc0 : wq.cell? ⟨w.heap.size, 0, none⟩ = some (.slice A l.length c) := (hS1.out.cell 0).trans rfl
  have hc2 : wq.cell? ⟨w.heap.size + 1 + 1, 0, none⟩ = some (.int .i64 (f : Int)) := (hS1.out.pick2.cell 0).trans rfl
  have hS := Aside0.mk hS1.out.drew
  refine start_ (n := 9) (S := fun w' => w'.cell? ⟨w.heap.size, 0, none⟩ = some (.slice A l.length c) ∧ w'.cell? ⟨w.heap.size + 1 + 1, 0, none⟩ = some (.int .i64 (f : Int))) (ds := []) #[false, false, false, false, false, false, false, false, false] (by kernel_rfl) rfl rfl ⟨hc0, hc2⟩ (fun hHeld => ?_)
  refine pure_ (i := 5) (N := some 15) (v := ?_) (a' := ?_) #[false, false, false, false, false, true, false, false, false] rfl rfl (by kernel_rfl) (fun _ _ _ h => h) (Or.inl ⟨by rfl, ?_⟩) ?_ ?_
  rotate_left
  · intro w'
    go_simp
    with_reducible rfl
  rotate_left
  · simp only [Act.put, List.setIfInBounds_toArray, List.set_cons_zero, List.set_cons_succ, i64_w, i32_w]
    rfl
  refine take_ (i := 0) (N := some 10) (v := ?_) (a' := ?_) #[true, false, false, false, false, true, false, false, false] rfl rfl (by kernel_rfl) (fun _ _ _ h => h) (Or.inl ⟨by rfl, ?_⟩) hHeld ?_ ?_
  rotate_left
  · rintro w' ⟨s0, s1⟩
    go_simp
    with_reducible rfl
  rotate_left
  · simp only [Act.put, List.setIfInBounds_toArray, List.set_cons_zero, List.set_cons_succ, i64_w, i32_w]
    rfl
  refine take_ (i := 1) (N := some 11) (v := ?_) (a' := ?_) #[true, true, false, false, false, true, false, false, false] rfl rfl (by kernel_rfl) (fun _ _ _ h => h) (Or.inl ⟨by rfl, ?_⟩) hHeld ?_ ?_
  rotate_left
  · rintro w' ⟨s0, s1⟩
    go_simp
    with_reducible rfl
  rotate_left
  · simp only [Act.put, List.setIfInBounds_toArray, List.set_cons_zero, List.set_cons_succ, i64_w, i32_w]
    rfl
  refine pure_ (i := 2) (N := some 12) (v := ?_) (a' := ?_) #[true, true, true, false, false, true, false, false, false] rfl rfl (by kernel_rfl) (fun _ _ _ h => h) (Or.inl ⟨by rfl, ?_⟩) ?_ ?_
  rotate_left
  · intro w'
    go_simp
    with_reducible rfl
  rotate_left
  · simp only [Act.put, List.setIfInBounds_toArray, List.set_cons_zero, List.set_cons_succ, i64_w, i32_w]
    rfl
  refine take_ (i := 3) (N := some 13) (v := ?_) (a' := ?_) #[true, true, true, true, false, true, false, false, false] rfl rfl (by kernel_rfl) (fun _ _ _ h => h) (Or.inl ⟨by rfl, ?_⟩) hHeld ?_ ?_
  rotate_left
  · rintro w' ⟨s0, s1⟩
    go_simp
    with_reducible rfl
  rotate_left
  · simp only [Act.put, List.setIfInBounds_toArray, List.set_cons_zero, List.set_cons_succ, i64_w, i32_w]
    rfl
  refine pure_ (i := 4) (N := some 14) (v := ?_) (a' := ?_) #[true, true, true, true, true, true, false, false, false] rfl rfl (by kernel_rfl) (fun _ _ _ h => h) (Or.inl ⟨by rfl, ?_⟩) ?_ ?_
  rotate_left
  · intro w'
    go_simp
    with_reducible rfl
  rotate_left
  · simp only [Act.put, List.setIfInBounds_toArray, List.set_cons_zero, List.set_cons_succ, i64_w, i32_w]
    rfl
  refine one_ (i := 6) (N := some 16) #[true, true, true, true, true, true, true, false, false] rfl rfl (by kernel_rfl) (by decide) (fun K hK => ?_)
  refine goes_ Try.func102 (by kernel_rfl) rfl #[.int .i64 s, .func (.func 107) #[] #[.pointer (some ⟨w.heap.size, 0, none⟩), .pointer (some ⟨w.heap.size + 1 + 1, 0, none⟩), .pointer (some ⟨w.heap.size + 1, 0, none⟩)]] (by rfl) rfl rfl (by (try simp only [List.map_toArray, List.map_cons, List.map_nil]); first | done | rfl) ?_
  refine (hg2.out _ hS.out).mono ?_
  rintro e w2 ⟨rfl, h2⟩
  refine ⟨_, rfl, ?_⟩
  have hS := Aside0.mk h2
  clear h2
  refine hK.out _ _ ⟨(hS.out.cell 0).trans rfl, (hS.out.pick2.cell 0).trans rfl⟩ (fun hHeld => ?_)
  clear hK K
  refine norm_ (a' := ?_) ?_ ?_
  rotate_left
  · show Act.put _ (some 16) _ = _
    simp only [Act.put, List.setIfInBounds_toArray, List.set_cons_zero, List.set_cons_succ, i64_w, i32_w]
    rfl
  refine pure_ (i := 7) (N := some 17) (v := ?_) (a' := ?_) #[true, true, true, true, true, true, true, true, false] rfl rfl (by kernel_rfl) (fun _ _ _ h => h) (Or.inl ⟨by rfl, ?_⟩) ?_ ?_
  rotate_left
  · intro w'
    go_simp
    with_reducible rfl
  rotate_left
  · simp only [Act.put, List.setIfInBounds_toArray, List.set_cons_zero, List.set_cons_succ, i64_w, i32_w]
    rfl
  refine pure_ (i := 8) (N := some 5) (v := ?_) (a' := ?_) #[true, true, true, true, true, true, true, true, true] rfl rfl (by kernel_rfl) (fun _ _ _ h => h) (Or.inl ⟨by rfl, ?_⟩) ?_ ?_
  rotate_left
  · intro w'
    go_simp
    with_reducible rfl
  rotate_left
  · simp only [Act.put, List.setIfInBounds_toArray, List.set_cons_zero, List.set_cons_succ, i64_w, i32_w]
    rfl
  refine done_ (by kernel_rfl) ?_
  have hS2 := Aside0.mk hS.out
  have hk2 : w2.cell? ⟨w.heap.size + 1 + 1, 0, none⟩ = some (.int .i64 (f : Int)) := (hS2.out.pick2.cell 0).trans rfl
  have hk3 : w2.frozen? ⟨w.heap.size + 1 + 1, 0, none⟩ = false := hS2.out.pick2.frozen 0
  clear hc0 hc2
  go_wp2_with (fail)
  have h3 := hS2.out.pick2.set 0 (.int .i64 (f : Int))
  have hcr : (w2.setCell ⟨w.heap.size + 1 + 1, 0, none⟩ (.int .i64 (f : Int))).cell? ⟨w.heap.size + 1 + 1, 0, none⟩ = some (.int .i64 (f : Int)) := (h3.cell 0).trans rfl
  try simp only [Exit.inBlock, Exit.then]
  refine bodyPost_ret (v := .tuple #[.int .i64 (f : Int), .int .i64 u]) ?_ rfl ?_
  · simp [results, Try.results46, asAddr, loadVar, isAgg, underlying, Try.underlying3, Result.andThen, hcr]
  · exact ⟨rfl, h3.1⟩
end Go.Proofs.Ytekanmieppnpeaa.Tb
namespace Go.Proofs.Ytekanmieppnpeaa.G
open Go Go.RowKit Go.Proofs.YtekanmieppnpeaaW.PrintWords Go.Proofs.YtekanmieppnpeaaW.PrintLast Go.Proofs.YtekanmieppnpeaaW.PrintMore Go.Proofs.Ytekanmieppnpeaa.Sep Go.Proofs.Ytekanmieppnpeaa.Tb
def table_Find.f (l0 : List (S33)) (a1 : Int) : Option (Int × Int) := if l0.length ≤ 100000000 then some (((findF l0 a1 : Nat) : Int), ((findF l0 a1 + findN l0 a1 : Nat) : Int)) else none
theorem table_Find.calls (A0 : Option Addr) (c0 : Nat) (l0 : List (S33)) (a1 : Int) (r1 r2 : Int) (w : World) (hr0 : Kd.C k33 w A0 l0.length l0) (hc0 : l0.length ≤ c0) (h : table_Find.f l0 a1 = some (r1, r2)) :
    Calls Try.prog 46 #[.slice A0 l0.length c0, .int .u64 a1] w fun e w' => e = .returned (.tuple #[.int .i64 r1, .int .i64 r2]) ∧ Below w.heap.size w w' := by
  unfold table_Find.f at h
  split at h
  · rename_i hl
    cases Option.some.inj h
    exact find_call w A0 c0 l0 a1 hr0 hl
  · cases h
end Go.Proofs.Ytekanmieppnpeaa.G
