/- wear: what a Note comes to, told by the document and by a gauge. -/
import Derived.Test.YtlakjninlpiedaaHPlays3
set_option linter.unusedVariables false
set_option linter.unusedSimpArgs false
namespace Go.Proofs.Ytlakjninlpiedaa.Fw
open Go Go.RowKit Go.Proofs.YtlakjninlpiedaaW.PrintWords Go.Proofs.YtlakjninlpiedaaW.PrintLast Go.Proofs.YtlakjninlpiedaaW.PrintMore Go.Proofs.Ytlakjninlpiedaa.Fl Go.Proofs.Ytlakjninlpiedaa.Sep Go.Proofs.Ytlakjninlpiedaa.G Go.Proofs.Ytlakjninlpiedaa.GY
set_option maxHeartbeats 4000000
set_option maxRecDepth 100000
attribute [local go_sem] run_f64bits run_frombits max2_int min2_int

def nE (s t k x : Nat) : Int := if s ≤ k then 1 else if 9007199254740992 < t + x then 7 else 0
def nT (s t k x : Nat) : Nat := if s ≤ k then t else if 9007199254740992 < t + x then t else t + x
def nF (f : Nat → Nat) (s t k x : Nat) : Nat → Nat := if s ≤ k then f else if 9007199254740992 < t + x then f else upd f k (f k + x)
theorem nCs {f : Nat → Nat} {s t k x : Nat} (h : Cs f s t) : Cs (nF f s t k x) s (nT s t k x) := by
  unfold nF nT
  by_cases h1 : s ≤ k
  · rw [if_pos h1, if_pos h1]; exact h
  · rw [if_neg h1, if_neg h1]
    by_cases h2 : 9007199254740992 < t + x
    · rw [if_pos h2, if_pos h2]; exact h
    · rw [if_neg h2, if_neg h2]; exact h.step (by omega) (by omega)

theorem wear_Note (w0 w : World) (g : Nat) (e : Int) (s b n t : Nat) (f : Nat → Nat) (ps : List HP) (k x : Nat) (hs : Sep.Sep w0 w (gg g e s b n t f ++ ps)) (hs32 : s < 4294967296) (hJ : Cs f s t) (hn : n < 1000000000000) :
    Calls Try.prog 19 #[.pointer (some ⟨g, 0, none⟩), .int .u32 (k : Int), .int .u64 (x : Int)] w fun r w' => ∃ n', n' ≤ n + 1 ∧ r = .returned (.int .i64 (nE s t k x)) ∧ Sep.Sep w0 w' (gg g e s b n' (nT s t k x) (nF f s t k x) ++ ps) := by
  unfold nE nT nF
  by_cases h1 : s ≤ k
  · rw [if_pos h1, if_pos h1, if_pos h1]
    refine (wear_Note_arg w0 w g e s b n t f ps k x hs h1).mono ?_
    rintro r w' ⟨rfl, rfl⟩
    exact ⟨n, by omega, rfl, hs⟩
  · rw [if_neg h1, if_neg h1, if_neg h1]
    by_cases h2 : 9007199254740992 < t + x
    · rw [if_pos h2, if_pos h2, if_pos h2]
      refine (wear_Note_full w0 w g e s b n t f ps k x hs (by omega) hJ.2.2 h2).mono ?_
      rintro r w' ⟨rfl, rfl⟩
      exact ⟨n, by omega, rfl, hs⟩
    · rw [if_neg h2, if_neg h2, if_neg h2]
      refine (wear_Note_ok w0 w g e s b n t f ps k x hs (by omega) hs32 (by omega) (by have := hJ.le k; omega) hn).mono ?_
      rintro r w' ⟨rfl, h⟩
      exact ⟨n + 1, Nat.le_refl _, rfl, h⟩

abbrev urow (A : Option Addr) (s c : Nat) (xs : List Int) : HP := row (Kd.int .u64) 32 (.slice A s c) xs
theorem urow_C {w0 w : World} {A : Option Addr} {s c : Nat} {xs : List Int} {ps : List HP} (h : Sep.Sep w0 w (urow A s c xs :: ps)) : s ≤ c ∧ Kd.C (Kd.int .u64) w A s xs := by
  obtain ⟨bs, hR⟩ := h.row_R
  obtain ⟨rfl, h1, h2⟩ := Kd.R_reads' hR
  exact ⟨h1, h2⟩
theorem ref_Note (w0 w : World) (A : Option Addr) (c : Nat) (xs : List Int) (f : Nat → Nat) (s t k x : Nat) (ps : List HP) (h : Sep.Sep w0 w (urow A s c xs :: ps)) (hR : Rw xs f s) (hs : s ≤ 65536) (hJ : Cs f s t) (hk : k < 4294967296) :
    Calls Try.prog 49 #[.slice A s c, .int .u32 (k : Int), .int .u64 (x : Int)] w fun r w' => ∃ A' c' xs', r = .returned (.tuple #[.slice A' s c', .int .i64 (nE s t k x)]) ∧ Rw xs' (nF f s t k x) s ∧ Sep.Sep w0 w' (urow A' s c' xs' :: ps) := by
  obtain ⟨hc, hC⟩ := urow_C h
  unfold nE nF
  by_cases h1 : s ≤ k
  · rw [if_pos h1, if_pos h1]
    refine (ref_Note_arg A c s k x w hs h1 hk).mono ?_
    rintro r w' ⟨rfl, rfl⟩
    exact ⟨A, c, xs, rfl, hR, h⟩
  · rw [if_neg h1, if_neg h1]
    by_cases h2 : 9007199254740992 < t + x
    · rw [if_pos h2, if_pos h2]
      refine (ref_Note_full A c xs f s t k x w hC hR hc hs hJ (by omega) h2).mono ?_
      rintro r w' ⟨rfl, hd⟩
      exact ⟨A, c, xs, rfl, hR, h.below hd.below⟩
    · rw [if_neg h2, if_neg h2]
      refine (ref_Note_ok A c xs f s t k x w hC hR hc hs hJ (by omega) (by omega)).mono ?_
      rintro r w' ⟨v, rfl, ho, hb⟩
      have hR' := hR.set (k := k) (v := f k + x) (by omega)
      obtain ⟨A', c', rfl⟩ := Kd.R_slice ho
      have hl := hR'.1
      rw [hl] at ho ⊢
      exact ⟨A', c', _, rfl, hR', Sep.row_new h.tail hb ho⟩

theorem run_mk (s : Nat) (hs : s ≤ 65536) : ∀ W : World, (Instr.makeSlice 62 (.int .u32 (s : Int)) (.int .u32 (s : Int))).run Try.prog W = .ok (.slice (some ⟨W.heap.size, 0, none⟩) s s) (W.alloc (.cells (madeCells #[.int .u64 0] s) 32)) := by
  intro W
  have hinfo : (Try.prog.info? 32).map (fun i => (i.zero, i.size, i.bytes)) = some (some (.int .u64 0), 1, 8) := by kernel_rfl
  obtain ⟨i0, hi, hzz⟩ := Option.map_eq_some_iff.1 hinfo
  simp only [Prod.mk.injEq] at hzz
  obtain ⟨hz0, hz1, hz2⟩ := hzz
  have hr := run_make (P := Try.prog) W 62 32 i0 (.int .u64 0) Try.underlying62 hi hz0 .u32 .u32 (s : Int) (s : Int) (by omega) (by omega) (by rw [hz2]; omega) (by omega)
  simp only [Int.toNat_natCast] at hr
  rw [hz1, Nat.mul_one] at hr
  exact hr
theorem mk_row {w0 w : World} {ps : List HP} (h : Sep.Sep w0 w ps) (s : Nat) (hs : s ≤ 65536) :
    Sep.Sep w0 (w.alloc (.cells (madeCells #[.int .u64 0] s) 32)) (urow (some ⟨w.heap.size, 0, none⟩) s s (List.replicate s 0) :: ps) := by
  refine Sep.row_new (ok := fun _ => True) h (below_alloc (Below.refl _ _) _) ⟨fun _ _ => trivial, (madeCells (Value.int .u64 0).cells (s * 1)).toList, ?_, ?_⟩
  · have h2 := World.ownsRow_lit (base := w.heap.size) (e := 32) (size := 1) w (madeCells #[.int .u64 0] s) s (Nat.le_refl _) (by unfold maxLen; omega) (by simp [size_madeCells])
    rw [List.length_replicate, Nat.mul_one]
    exact h2
  · exact Kd.reps_made (z := .int .u64 0) (R := (Kd.int .u64).M _ _ _) rfl (by decide) rfl s

theorem bits_eq (x : Nat) : ((bitsv x : Int) != (bitsv x : Int)) = false := by simp
theorem ref_Total (A : Option Addr) (c : Nat) (xs : List Int) (f : Nat → Nat) (s t : Nat) (w : World) (hC : Kd.C (Kd.int .u64) w A s xs) (hR : Rw xs f s) (hc : s ≤ c) (hs : s ≤ 65536) (hJ : Cs f s t) :
    Calls Try.prog 50 #[.slice A s c] w fun r w' => r = .returned (.int .u64 (t : Int)) ∧ Drawn0 w w' := by
  have hT := tot_f hR hs hJ
  have hl := hR.1
  subst hl
  exact fascicleref29_Total.calls _ A c xs t w hC hc hT
theorem ref_Least (A : Option Addr) (c : Nat) (xs : List Int) (f : Nat → Nat) (s : Nat) (w : World) (hC : Kd.C (Kd.int .u64) w A s xs) (hR : Rw xs f s) (hc : s ≤ c) (hs0 : 1 ≤ s) (hs : s ≤ 65536) :
    Calls Try.prog 51 #[.slice A s c] w fun r w' => (∃ k : Nat, r = .returned (.int .u32 (k : Int)) ∧ Ls f s k) ∧ Drawn0 w w' := by
  obtain ⟨k, hT, hL⟩ := least_f hR hs0 hs
  have hl := hR.1
  subst hl
  refine (fascicleref29_Least.calls _ A c xs k w hC hc hT).mono ?_
  rintro r w' ⟨rfl, hd⟩
  exact ⟨⟨k, rfl, hL⟩, hd⟩
end Go.Proofs.Ytlakjninlpiedaa.Fw
