/- fence.Range: its closures. -/
import Derived.Test.YtnmdckgaljldhaaHSearch
set_option linter.unusedVariables false
set_option linter.unusedSimpArgs false
namespace Go.Proofs.Ytnmdckgaljldhaa.Sep
open Go Go.RowKit Go.Proofs.YtnmdckgaljldhaaW.PrintWords Go.Proofs.YtnmdckgaljldhaaW.PrintLast Go.Proofs.YtnmdckgaljldhaaW.PrintMore Go.Proofs.Ytnmdckgaljldhaa.PureKit

set_option maxHeartbeats 4000000 in
set_option maxRecDepth 100000 in
theorem range_ge (w0 w : World) (gf gh : Nat) (A : Option Addr) (c : Nat) (fs : List Int) (hash : Int) (i : Nat) (ps : List HP)
    (hs : Sep w0 w (blk gf #[.slice A fs.length c] 26 :: blk gh #[.int .u64 hash] 39 :: ps)) (hC : Kd.C (Kd.int .u64) w0 A fs.length fs) (hi : i < fs.length) :
    Calls Try.prog 95 #[.int .i64 (i : Int), .pointer (some ⟨gf, 0, none⟩), .pointer (some ⟨gh, 0, none⟩)] w fun e w' => e = .returned (.bool (decide (fs[i] ≥ hash))) ∧ Sep w0 w' (blk gf #[.slice A fs.length c] 26 :: blk gh #[.int .u64 hash] 39 :: ps) := by
  have hS := Aside0.mk hs
  obtain ⟨ad, e0, hx0⟩ := Kd.at_int (Kd.C_below hC hs.1) (i : Int) (by omega) (by omega)
  cases e0
  rw [Int.toNat_natCast, rd_at fs i hi] at hx0
  have hc0 : w.cell? ⟨gf, 0, none⟩ = some (.slice (some ad) fs.length c) := (hs.cell 0).trans rfl
  have hc1 : w.cell? ⟨gh, 0, none⟩ = some (.int .u64 hash) := (hs.pick1.cell 0).trans rfl
  have p0 : ((0 : Int) ≤ (i : Int)) = True := eq_true (by omega)
  have q0 : ((i : Int) < (fs.length : Int)) = True := eq_true (by omega)
  obtain ⟨y, hy⟩ : ∃ y, fs[i] = y := ⟨_, rfl⟩
  rw [hy] at hx0 ⊢
  clear hs hC hy
  go_enter Try.func95, Try.ntmps95
  go_wp2_with (fail)
  repeat (go_quiet (fail); try go_wp2)
  go_ret
  exact ⟨rfl, by first | exact hS.out.drewN _ | exact hS.out⟩

set_option maxHeartbeats 4000000 in
set_option maxRecDepth 100000 in
theorem range_gt (w0 w : World) (gf gh : Nat) (A : Option Addr) (c : Nat) (fs : List Int) (hash : Int) (i : Nat) (ps : List HP)
    (hs : Sep w0 w (blk gf #[.slice A fs.length c] 26 :: blk gh #[.int .u64 hash] 39 :: ps)) (hC : Kd.C (Kd.int .u64) w0 A fs.length fs) (hi : i < fs.length) :
    Calls Try.prog 96 #[.int .i64 (i : Int), .pointer (some ⟨gf, 0, none⟩), .pointer (some ⟨gh, 0, none⟩)] w fun e w' => e = .returned (.bool (decide (fs[i] > hash))) ∧ Sep w0 w' (blk gf #[.slice A fs.length c] 26 :: blk gh #[.int .u64 hash] 39 :: ps) := by
  have hS := Aside0.mk hs
  obtain ⟨ad, e0, hx0⟩ := Kd.at_int (Kd.C_below hC hs.1) (i : Int) (by omega) (by omega)
  cases e0
  rw [Int.toNat_natCast, rd_at fs i hi] at hx0
  have hc0 : w.cell? ⟨gf, 0, none⟩ = some (.slice (some ad) fs.length c) := (hs.cell 0).trans rfl
  have hc1 : w.cell? ⟨gh, 0, none⟩ = some (.int .u64 hash) := (hs.pick1.cell 0).trans rfl
  have p0 : ((0 : Int) ≤ (i : Int)) = True := eq_true (by omega)
  have q0 : ((i : Int) < (fs.length : Int)) = True := eq_true (by omega)
  obtain ⟨y, hy⟩ : ∃ y, fs[i] = y := ⟨_, rfl⟩
  rw [hy] at hx0 ⊢
  clear hs hC hy
  go_enter Try.func96, Try.ntmps96
  go_wp2_with (fail)
  repeat (go_quiet (fail); try go_wp2)
  go_ret
  exact ⟨rfl, by first | exact hS.out.drewN _ | exact hS.out⟩

def atge (fs : List Int) (hash : Int) (i : Nat) : Bool := decide (rd fs (i : Int) ≥ hash)
def atgt (fs : List Int) (hash : Int) (i : Nat) : Bool := decide (rd fs (i : Int) > hash)
/-- Where entries of a Hash can stand. -/
def frange (fs : List Int) (n hash : Int) : Int × Int :=
  if bsr (atgt fs hash) fs.length 0 fs.length = 0 then (0, 0) else (16 * mx 0 ((bsr (atge fs hash) fs.length 0 fs.length : Nat) - 1), mn n (16 * (bsr (atgt fs hash) fs.length 0 fs.length : Nat)))
theorem bsr_le (q : Nat → Bool) : ∀ (d i j : Nat), i ≤ j → bsr q d i j ≤ j
  | 0, i, j, h => h
  | d + 1, i, j, h => by
    unfold bsr
    split
    · split
      · exact Nat.le_trans (bsr_le q d _ _ (by omega)) (by omega)
      · exact bsr_le q d _ _ (by omega)
    · exact h

attribute [local go_sem] max2_int min2_int max_two min_two
set_option maxHeartbeats 4000000 in
set_option maxRecDepth 100000 in
theorem fence_range (w : World) (A : Option Addr) (c : Nat) (fs : List Int) (n hash : Int) (hC : Kd.C (Kd.int .u64) w A fs.length fs) (hl : fs.length ≤ 100000000) :
    Calls Try.prog 55 #[.slice A fs.length c, .int .i64 n, .int .u64 hash] w fun e w' => e = .returned (.tuple #[.int .i64 (frange fs n hash).1, .int .i64 (frange fs n hash).2]) ∧ Below w.heap.size w w' := by
  have hCA := Aside0.mk hC
  have hsz : ∀ (W : World) (o : Obj), (W.alloc o).heap.size = W.heap.size + 1 := fun W o => by show (W.heap.push _).size = _; simp
  have hS0 := ((Sep.start w).alloc #[.slice A fs.length c] 26).alloc #[.int .u64 hash] 39
  rw [hsz] at hS0
  have hS := Aside0.mk hS0.put1
  obtain ⟨b, hb⟩ : ∃ b, bsr (atge fs hash) fs.length 0 fs.length = b := ⟨_, rfl⟩
  obtain ⟨u, hu⟩ : ∃ u, bsr (atgt fs hash) fs.length 0 fs.length = u := ⟨_, rfl⟩
  have hfr : frange fs n hash = if u = 0 then (0, 0) else (16 * mx 0 ((b : Int) - 1), mn n (16 * (u : Int))) := by unfold frange; rw [hb, hu]
  have hble : b ≤ fs.length := by rw [← hb]; exact bsr_le _ _ _ _ (Nat.zero_le _)
  have hule : u ≤ fs.length := by rw [← hu]; exact bsr_le _ _ _ _ (Nat.zero_le _)
  have hg1 := Aside0.mk (fun W (h : Sep w W [blk w.heap.size #[.slice A fs.length c] 26, blk (w.heap.size + 1) #[.int .u64 hash] 39]) => search_calls w W 95 #[.pointer (some ⟨w.heap.size, 0, none⟩), .pointer (some ⟨w.heap.size + 1, 0, none⟩)] _ fs.length (atge fs hash) Try.call95 h (by omega) (fun W2 i h2 hi => by
    have := range_ge w W2 w.heap.size (w.heap.size + 1) A c fs hash i [] h2 hCA.out hi
    rw [← rd_at fs i hi] at this
    exact this))
  have hg2 := Aside0.mk (fun W (h : Sep w W [blk w.heap.size #[.slice A fs.length c] 26, blk (w.heap.size + 1) #[.int .u64 hash] 39]) => search_calls w W 96 #[.pointer (some ⟨w.heap.size, 0, none⟩), .pointer (some ⟨w.heap.size + 1, 0, none⟩)] _ fs.length (atgt fs hash) Try.call96 h (by omega) (fun W2 i h2 hi => by
    have := range_gt w W2 w.heap.size (w.heap.size + 1) A c fs hash i [] h2 hCA.out hi
    rw [← rd_at fs i hi] at this
    exact this))
  rw [hb] at hg1
  rw [hu] at hg2
  obtain ⟨⟨r1, r2⟩, hr⟩ : ∃ r : Int × Int, frange fs n hash = r := ⟨_, rfl⟩
  rw [hr] at hfr ⊢
  have hrA := Aside0.mk hfr
  have hmf : ∀ (fn : Fn) (first cap : Array Value) (w : World), (Instr.makeFunc fn first cap).run Try.prog w = .ok (.func fn first cap) w := fun _ _ _ _ => rfl
  have hlA := Aside0.mk hl
  have hbA := Aside0.mk hble
  have huA := Aside0.mk hule
  clear hC hS0 hb hu hfr hl hble hule hr
  go_enter Try.func55, Try.ntmps55
  go_wp2_with (fail)
  refine (hg1.out _ hS.out).mono ?_
  rintro e w1 ⟨rfl, h1⟩
  have hc0 : w1.cell? ⟨w.heap.size, 0, none⟩ = some (.slice A fs.length c) := (h1.cell 0).trans rfl
  have hS1 := Aside0.mk h1
  clear h1
  go_wp2_with (fail)
  refine (hg2.out _ hS1.out).mono ?_
  rintro e w2 ⟨rfl, h2⟩
  have hS2 := Aside0.mk h2
  clear h2 hc0
  by_cases hu0 : u = 0
  · have hrr := hrA.out
    rw [if_pos hu0] at hrr
    cases hrr
    subst hu0
    go_wp2_with (fail)
    go_ret2
    exact ⟨by first | rfl | simp, hS2.out.1⟩
  · have hd : ((u : Int) == 0) = false := beq_eq_false_iff_ne.2 (by omega)
    have hd2 : decide (u = 0) = false := decide_eq_false hu0
    have hd3 : (u == 0) = false := beq_eq_false_iff_ne.2 hu0
    obtain ⟨M, hM⟩ : ∃ M, mx 0 ((b : Int) - 1) = M := ⟨_, rfl⟩
    obtain ⟨Q, hQ⟩ : ∃ Q, mn n (16 * (u : Int)) = Q := ⟨_, rfl⟩
    have hrr := hrA.out
    rw [if_neg hu0, hM, hQ] at hrr
    cases hrr
    have w1 : wrap64 ((b : Int) - 1) = (b : Int) - 1 := w64 (by omega) (by have := hbA.out; have := hlA.out; omega)
    have w2' : wrap64 (16 * (u : Int)) = 16 * (u : Int) := w64 (by omega) (by have := huA.out; have := hlA.out; omega)
    have m1 : (if (0 : Int) < (b : Int) - 1 then (b : Int) - 1 else 0) = M := hM
    have m2 : (if (1 : Int) < (b : Int) then (b : Int) - 1 else 0) = M := by rw [← hM]; unfold mx; split <;> split <;> omega
    have m3 : (if 1 < b then (b : Int) - 1 else 0) = M := by rw [← hM]; unfold mx; split <;> split <;> omega
    have n1 : (if 16 * (u : Int) < n then 16 * (u : Int) else n) = r2 := hQ
    have w3 : wrap64 (16 * M) = 16 * M := by
      have := hbA.out
      have := hlA.out
      rw [← hM]
      unfold mx
      split <;> exact w64 (by omega) (by omega)
    clear hM hQ hu0
    go_wp2_with (fail)
    go_ret2
    exact ⟨by first | rfl | (simp [w3]; done) | (rw [w3]; rfl), hS2.out.1⟩

end Go.Proofs.Ytnmdckgaljldhaa.Sep
namespace Go.Proofs.Ytnmdckgaljldhaa.G
open Go Go.RowKit Go.Proofs.YtnmdckgaljldhaaW.PrintWords Go.Proofs.YtnmdckgaljldhaaW.PrintLast Go.Proofs.YtnmdckgaljldhaaW.PrintMore Go.Proofs.Ytnmdckgaljldhaa.PureKit Go.Proofs.Ytnmdckgaljldhaa.Sep
def fence_Range.f (l0 : List Int) (a1 a2 : Int) : Option (Int × Int) := if l0.length ≤ 100000000 then some (frange l0 a1 a2) else none
theorem fence_Range.calls (A0 : Option Addr) (c0 : Nat) (l0 : List Int) (a1 a2 : Int) (r1 r2 : Int) (w : World) (hr0 : Kd.C (Kd.int .u64) w A0 l0.length l0) (hc0 : l0.length ≤ c0) (h : fence_Range.f l0 a1 a2 = some (r1, r2)) :
    Calls Try.prog 55 #[.slice A0 l0.length c0, .int .i64 a1, .int .u64 a2] w fun e w' => e = .returned (.tuple #[.int .i64 r1, .int .i64 r2]) ∧ Below w.heap.size w w' := by
  unfold fence_Range.f at h
  split at h
  · rename_i hh
    have hf := Option.some.inj h
    have := fence_range w A0 c0 l0 a1 a2 hr0 hh
    rw [hf] at this
    exact this
  · cases h

end Go.Proofs.Ytnmdckgaljldhaa.G
