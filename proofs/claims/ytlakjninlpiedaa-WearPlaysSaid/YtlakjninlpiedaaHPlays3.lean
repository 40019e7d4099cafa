/- wear: a gauge's copy. -/
import Derived.Test.YtlakjninlpiedaaHPlays2
set_option linter.unusedVariables false
set_option linter.unusedSimpArgs false
namespace Go.Proofs.Ytlakjninlpiedaa.Fw
open Go Go.RowKit Go.Proofs.YtlakjninlpiedaaW.PrintWords Go.Proofs.YtlakjninlpiedaaW.PrintLast Go.Proofs.YtlakjninlpiedaaW.PrintMore Go.Proofs.Ytlakjninlpiedaa.Fl Go.Proofs.Ytlakjninlpiedaa.Sep Go.Proofs.Ytlakjninlpiedaa.G Go.Proofs.Ytlakjninlpiedaa.GY
set_option maxHeartbeats 4000000
set_option maxRecDepth 100000
attribute [local go_sem] run_f64bits run_frombits max2_int min2_int

theorem maps_Clone (w : World) (b : Nat) (es : Array MapEntry) (clock : Nat) (hb : w.heap[b]? = some (.map es clock)) :
    Calls Try.prog 83 #[.map (some b)] w fun e w' => e = .returned (.map (some w.heap.size)) ∧ w' = w.alloc (.map es clock) := by
  have hq := fun w => run_eql_map_nil_sl (P := Try.prog) w 105 _ _ (some b) Try.underlying105
  go_enter Try.func83, Try.ntmps83
  go_wp2_with (fail)
  rw [run_callFunc_extern Try.func103 (by kernel_rfl) (by kernel_rfl) (by kernel_rfl) (e := Extern.MapsClone.clone) (by kernel_rfl), run_maps_clone_sl w 105 hb]
  simp only [Result.andThen]
  rw [Oper.upon_value]
  go_wp2_with (fail)
  rw [run_typeAssert_map_sl _ 105 20 _ _ _ Try.underlying105]
  simp only [Result.andThen]
  rw [Oper.upon_value]
  go_wp2_with (fail)
  go_ret
  exact ⟨rfl, rfl⟩
theorem Sep.mp_clone {w0 w : World} {b n : Nat} {f : Nat → Nat} {ps : List HP} (h : Sep.Sep w0 w (mpp b n f :: ps)) :
    ∃ es clock, w.heap[b]? = some (.map es clock) ∧ Sep.Sep w0 (w.alloc (.map es clock)) (mpp w.heap.size n f :: mpp b n f :: ps) := by
  obtain ⟨⟨D, ⟨es, clock, hb, F, hs, hD⟩, hf⟩, -, -⟩ := h.mp_at
  refine ⟨es, clock, hb, ?_⟩
  have hbl := below_alloc (Below.refl w.heap.size w) (.map es clock)
  have := Sep.step (ps := []) (qs := [mpp w.heap.size n f]) (rs := mpp b n f :: ps) h ⟨hbl.os, hbl.tape, hbl.output, hbl.size, fun j hj => absurd hj (Nat.not_lt_zero j)⟩
    (fun b1 h1 _ _ => ⟨[w.heap.size], ⟨[w.heap.size], [], rfl, ⟨rfl, D, ⟨es, clock, (MapKept.heap_alloc w _).1, F, hs, hD⟩, hf⟩, rfl⟩, by simp, fun b hb => by
      rw [List.mem_singleton.1 hb]; exact ⟨.inr (Nat.le_refl _), (show w.heap.size < (w.heap.push _).size from by simp)⟩, fun j hj _ => hbl.block j hj⟩)
  exact this

theorem wear_Copy (w0 w : World) (g : Nat) (e : Int) (s b n t : Nat) (f : Nat → Nat) (ps : List HP) (hs : Sep.Sep w0 w (gg g e s b n t f ++ ps)) :
    Calls Try.prog 48 #[.pointer (some ⟨g, 0, none⟩)] w fun r w' => ∃ g2 b2, r = .returned (.pointer (some ⟨g2, 0, none⟩)) ∧ Sep.Sep w0 w' (gg g2 e s b2 n t f ++ (gg g e s b n t f ++ ps)) := by
  have hu := Try.underlying107
  have hu2 := Try.underlying24
  have hc_0 : w.cell? ⟨g, 0, none⟩ = some (.int .u8 e) := ((hs).cell 0).trans rfl; have hc_1 : w.cell? ⟨g, 1, none⟩ = some (.int .u32 (s : Int)) := ((hs).cell 1).trans rfl; have hc_2 : w.cell? ⟨g, 2, none⟩ = some (.map (some b)) := ((hs).cell 2).trans rfl; have hc_3 : w.cell? ⟨g, 3, none⟩ = some (.int .u64 (t : Int)) := ((hs).cell 3).trans rfl
  have hS := Aside0.mk hs
  clear hs
  go_enter Try.func48, Try.ntmps48
  go_wp2_with (fail)
  refine start_ (n := 16) (S := fun w' => w'.cell? ⟨g, 0, none⟩ = some (.int .u8 e) ∧ w'.cell? ⟨g, 1, none⟩ = some (.int .u32 (s : Int)) ∧ w'.cell? ⟨g, 2, none⟩ = some (.map (some b)) ∧ w'.cell? ⟨g, 3, none⟩ = some (.int .u64 (t : Int))) (ds := [14]) #[false, false, false, false, false, false, false, false, false, false, false, false, false, false, false, false] (by kernel_rfl) rfl rfl ⟨hc_0, hc_1, hc_2, hc_3⟩ (fun hHeld => ?_)
  refine pure_ (i := 0) (N := some 3) (v := ?_) (a' := ?_) #[true, false, false, false, false, false, false, false, false, false, false, false, false, false, false, false] rfl rfl (by kernel_rfl) (fun _ _ _ h => h) (Or.inl ⟨by rfl, ?_⟩) ?_ ?_
  rotate_left
  · intro w'
    go_simp
    with_reducible rfl
  rotate_left
  · simp only [Act.put, List.setIfInBounds_toArray, List.set_cons_zero, List.set_cons_succ, i64_w, i32_w]
    rfl
  refine pure_ (i := 1) (N := some 4) (v := ?_) (a' := ?_) #[true, true, false, false, false, false, false, false, false, false, false, false, false, false, false, false] rfl rfl (by kernel_rfl) (fun _ _ _ h => h) (Or.inl ⟨by rfl, ?_⟩) ?_ ?_
  rotate_left
  · intro w'
    go_simp
    with_reducible rfl
  rotate_left
  · simp only [Act.put, List.setIfInBounds_toArray, List.set_cons_zero, List.set_cons_succ, i64_w, i32_w]
    rfl
  refine pure_ (i := 2) (N := some 5) (v := ?_) (a' := ?_) #[true, true, true, false, false, false, false, false, false, false, false, false, false, false, false, false] rfl rfl (by kernel_rfl) (fun _ _ _ h => h) (Or.inl ⟨by rfl, ?_⟩) ?_ ?_
  rotate_left
  · intro w'
    go_simp
    with_reducible rfl
  rotate_left
  · simp only [Act.put, List.setIfInBounds_toArray, List.set_cons_zero, List.set_cons_succ, i64_w, i32_w]
    rfl
  refine pure_ (i := 4) (N := some 7) (v := ?_) (a' := ?_) #[true, true, true, false, true, false, false, false, false, false, false, false, false, false, false, false] rfl rfl (by kernel_rfl) (fun _ _ _ h => h) (Or.inl ⟨by rfl, ?_⟩) ?_ ?_
  rotate_left
  · intro w'
    go_simp
    with_reducible rfl
  rotate_left
  · simp only [Act.put, List.setIfInBounds_toArray, List.set_cons_zero, List.set_cons_succ, i64_w, i32_w]
    rfl
  refine pure_ (i := 5) (N := some 8) (v := ?_) (a' := ?_) #[true, true, true, false, true, true, false, false, false, false, false, false, false, false, false, false] rfl rfl (by kernel_rfl) (fun _ _ _ h => h) (Or.inl ⟨by rfl, ?_⟩) ?_ ?_
  rotate_left
  · intro w'
    go_simp
    with_reducible rfl
  rotate_left
  · simp only [Act.put, List.setIfInBounds_toArray, List.set_cons_zero, List.set_cons_succ, i64_w, i32_w]
    rfl
  refine pure_ (i := 6) (N := some 9) (v := ?_) (a' := ?_) #[true, true, true, false, true, true, true, false, false, false, false, false, false, false, false, false] rfl rfl (by kernel_rfl) (fun _ _ _ h => h) (Or.inl ⟨by rfl, ?_⟩) ?_ ?_
  rotate_left
  · intro w'
    go_simp
    with_reducible rfl
  rotate_left
  · simp only [Act.put, List.setIfInBounds_toArray, List.set_cons_zero, List.set_cons_succ, i64_w, i32_w]
    rfl
  refine pure_ (i := 9) (N := some 12) (v := ?_) (a' := ?_) #[true, true, true, false, true, true, true, false, false, true, false, false, false, false, false, false] rfl rfl (by kernel_rfl) (fun _ _ _ h => h) (Or.inl ⟨by rfl, ?_⟩) ?_ ?_
  rotate_left
  · intro w'
    go_simp
    with_reducible rfl
  rotate_left
  · simp only [Act.put, List.setIfInBounds_toArray, List.set_cons_zero, List.set_cons_succ, i64_w, i32_w]
    rfl
  refine pure_ (i := 10) (N := some 13) (v := ?_) (a' := ?_) #[true, true, true, false, true, true, true, false, false, true, true, false, false, false, false, false] rfl rfl (by kernel_rfl) (fun _ _ _ h => h) (Or.inl ⟨by rfl, ?_⟩) ?_ ?_
  rotate_left
  · intro w'
    go_simp
    with_reducible rfl
  rotate_left
  · simp only [Act.put, List.setIfInBounds_toArray, List.set_cons_zero, List.set_cons_succ, i64_w, i32_w]
    rfl
  refine pure_ (i := 11) (N := some 14) (v := ?_) (a' := ?_) #[true, true, true, false, true, true, true, false, false, true, true, true, false, false, false, false] rfl rfl (by kernel_rfl) (fun _ _ _ h => h) (Or.inl ⟨by rfl, ?_⟩) ?_ ?_
  rotate_left
  · intro w'
    go_simp
    with_reducible rfl
  rotate_left
  · simp only [Act.put, List.setIfInBounds_toArray, List.set_cons_zero, List.set_cons_succ, i64_w, i32_w]
    rfl
  refine take_ (i := 3) (N := some 6) (v := ?_) (a' := ?_) #[true, true, true, true, true, true, true, false, false, true, true, true, false, false, false, false] rfl rfl (by kernel_rfl) (fun _ _ _ h => h) (Or.inl ⟨by rfl, ?_⟩) hHeld ?_ ?_
  rotate_left
  · rintro w' ⟨s0, s1, s2, s3⟩
    go_simp
    with_reducible rfl
  rotate_left
  · simp only [Act.put, List.setIfInBounds_toArray, List.set_cons_zero, List.set_cons_succ, i64_w, i32_w]
    rfl
  refine take_ (i := 7) (N := some 10) (v := ?_) (a' := ?_) #[true, true, true, true, true, true, true, true, false, true, true, true, false, false, false, false] rfl rfl (by kernel_rfl) (fun _ _ _ h => h) (Or.inl ⟨by rfl, ?_⟩) hHeld ?_ ?_
  rotate_left
  · rintro w' ⟨s0, s1, s2, s3⟩
    go_simp
    with_reducible rfl
  rotate_left
  · simp only [Act.put, List.setIfInBounds_toArray, List.set_cons_zero, List.set_cons_succ, i64_w, i32_w]
    rfl
  refine take_ (i := 12) (N := some 15) (v := ?_) (a' := ?_) #[true, true, true, true, true, true, true, true, false, true, true, true, true, false, false, false] rfl rfl (by kernel_rfl) (fun _ _ _ h => h) (Or.inl ⟨by rfl, ?_⟩) hHeld ?_ ?_
  rotate_left
  · rintro w' ⟨s0, s1, s2, s3⟩
    go_simp
    with_reducible rfl
  rotate_left
  · simp only [Act.put, List.setIfInBounds_toArray, List.set_cons_zero, List.set_cons_succ, i64_w, i32_w]
    rfl
  refine one_ (i := 8) (N := some 11) #[true, true, true, true, true, true, true, true, true, true, true, true, true, false, false, false] rfl rfl (by kernel_rfl) (by decide) (fun K hK => ?_)
  refine goes_ Try.func83 (by kernel_rfl) rfl #[.map (some b)] (by rfl) rfl rfl (by (try simp only [List.map_toArray, List.map_cons, List.map_nil]); first | done | rfl) ?_
  obtain ⟨es, clock, hb, h1⟩ := Sep.mp_clone (hS.out.drew.pick1)
  refine (maps_Clone _ b es clock hb).mono ?_
  rintro r w1 ⟨rfl, rfl⟩
  refine ⟨_, rfl, ?_⟩
  have hS1 := Aside0.mk h1.pick2
  clear h1 hb
  refine hK.out _ _ ⟨hS1.out.cell 0, hS1.out.cell 1, hS1.out.cell 2, hS1.out.cell 3⟩ (fun hHeld => ?_)
  clear hK K
  refine norm_ (a' := ?_) ?_ ?_
  rotate_left
  · show Act.put _ (some 11) _ = _
    simp only [Act.put, List.setIfInBounds_toArray, List.set_cons_zero, List.set_cons_succ, i64_w, i32_w]
    rfl
  refine pure_ (i := 13) (N := some 16) (v := ?_) (a' := ?_) #[true, true, true, true, true, true, true, true, true, true, true, true, true, true, false, false] rfl rfl (by kernel_rfl) (fun _ _ _ h => h) (Or.inl ⟨by rfl, ?_⟩) ?_ ?_
  rotate_left
  · intro w'
    go_simp
    with_reducible rfl
  rotate_left
  · simp only [Act.put, List.setIfInBounds_toArray, List.set_cons_zero, List.set_cons_succ, i64_w, i32_w]
    rfl
  refine last_ (i := 14) (N := some 17) #[true, true, true, true, true, true, true, true, true, true, true, true, true, true, true, false] rfl rfl (by kernel_rfl) (by decide) (fun K hK => ?_)
  refine value_ (w1 := ?_) (v := ?_) (by rfl) rfl ?_ ?_
  rotate_left 2
  · go_simp
    constructor
    · rfl
    · rfl
  refine hK.out _ _ ?_
  clear hK K
  refine norm_ (a' := ?_) ?_ ?_
  rotate_left
  · show Act.put _ (some 17) _ = _
    simp only [Act.put, List.setIfInBounds_toArray, List.set_cons_zero, List.set_cons_succ, i64_w, i32_w]
    rfl
  refine pure_ (i := 15) (N := some 2) (v := ?_) (a' := ?_) #[true, true, true, true, true, true, true, true, true, true, true, true, true, true, true, true] rfl rfl (by kernel_rfl) (fun _ _ _ h => h) (Or.inl ⟨by rfl, ?_⟩) ?_ ?_
  rotate_left
  · intro w'
    go_simp
    with_reducible rfl
  rotate_left
  · simp only [Act.put, List.setIfInBounds_toArray, List.set_cons_zero, List.set_cons_succ, i64_w, i32_w]
    rfl
  refine done_ (by kernel_rfl) ?_
  have hsz : (w.drew.alloc (.map es clock)).heap.size = w.heap.size + 1 := by show (w.heap.push _).size = _; simp
  have h2 := hS1.out.alloc #[.int .u8 e, .int .u32 (s : Int), .map (some w.heap.size), .int .u64 (t : Int)] 107
  rw [hsz] at h2
  have hS2 := Aside0.mk (h2.perm (List.Perm.cons _ (List.Perm.swap _ _ _)))
  clear h2 hsz hS1 hS hc_0 hc_1 hc_2 hc_3
  go_wp2_with (fail)
  go_ret
  exact ⟨_, _, rfl, hS2.out⟩
end Go.Proofs.Ytlakjninlpiedaa.Fw
