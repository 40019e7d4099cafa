/- record.Size: how many bytes a record's body has. -/
import Derived.Test.YtmlodmpkcbncjaaHBody
import Derived.Test.YtmlodmpkcbncjaaHVal
import Derived.Test.YtmlodmpkcbncjaaGx6
set_option linter.unusedVariables false
set_option linter.unusedSimpArgs false
namespace Go.Proofs.Ytmlodmpkcbncjaa.G
open Go Go.RowKit Go.Proofs.YtmlodmpkcbncjaaW.PrintWords Go.Proofs.YtmlodmpkcbncjaaW.PrintLast Go.Proofs.YtmlodmpkcbncjaaW.PrintMore Go.Proofs.Ytmlodmpkcbncjaa.PureKit Go.Proofs.Ytmlodmpkcbncjaa.Sep

theorem varint_Size_l0 : ∀ (k x n : Nat), x < 128 ^ k → n + k ≤ 100 → varint_Size.l0 (k + 1) (x : Int) (n : Int) = some ((n : Int) + (venc x).length - 1) := by
  intro k
  induction k with
  | zero =>
    intro x n hx hn
    have : x = 0 := by simpa using hx
    subst this
    simp [varint_Size.l0, venc_small]
  | succ k ih =>
    intro x n hx hn
    unfold varint_Size.l0
    by_cases h : x < 128
    · rw [if_neg (by omega), venc_small h]
      simp
    · rw [if_pos (by omega), venc_big h, show ((x : Int) / 128) = ((x / 128 : Nat) : Int) by omega, w64 (by omega) (by omega), show ((n : Int) + 1) = ((n + 1 : Nat) : Int) by omega,
        ih (x / 128) (n + 1) (by rw [Nat.div_lt_iff_lt_mul (by omega), ← Nat.pow_succ]; exact hx) (by omega)]
      simp
      omega
theorem varint_Size_ev (x : Nat) (hx : x < 18446744073709551616) : varint_Size.f 11 (x : Int) = some ((venc x).length : Int) := by
  have := varint_Size_l0 10 x 1 (Nat.lt_of_lt_of_le hx (by decide)) (by decide)
  unfold varint_Size.f
  rw [show (1 : Int) = ((1 : Nat) : Int) from rfl, this]
  congr 1
  omega

theorem venc_len10 (x : Nat) (hx : x < 18446744073709551616) : (venc x).length ≤ 10 := venc_len 10 x (Nat.lt_of_lt_of_le hx (by decide)) (by decide)
def record_Size.f (a0_0 : Bool) (a0_1 : Int) (a0_2 a0_3 : ByteArray) : Option Int :=
  if 0 ≤ a0_1 ∧ a0_1 < 18446744073709551616 then (if rcheck a0_0 a0_2 a0_3 = 0 then some ((rbody a0_0 a0_1 a0_2 a0_3).length : Int) else some 0) else none

set_option maxHeartbeats 4000000 in
set_option maxRecDepth 100000 in
theorem size_text (s : ByteArray) (w : World) (hs : s.size ≤ 10000000) :
    Calls Try.prog 81 #[.string s] w fun e w' => e = .returned (.int .i64 (((venc s.size).length : Int) + s.size)) ∧ Below w.heap.size w w' := by
  have hev := varint_Size_ev s.size (by omega)
  have hvl := venc_len10 s.size (by omega)
  have hwx : IntKind.u64.wrap (s.size : Int) = (s.size : Int) := wu64 (by omega) (by omega)
  have hw2 : IntKind.i64.wrap (((venc s.size).length : Int) + (s.size : Int)) = ((venc s.size).length : Int) + (s.size : Int) := by rw [i64_w, w64 (by omega) (by omega)]
  go_enter Try.func81, Try.ntmps81
  go_wp2_with (first | ((with_reducible refine gate_callee (f := 82) rfl ?_); refine goesL_ (some 6) rfl rfl Try.func82 (by kernel_rfl) rfl #[.int .u64 (s.size : Int)] rfl (by (try simp only [List.map_toArray, List.map_cons, List.map_nil]); first | done | rfl) ?_; (with_reducible refine (varint_Size.calls 11 (s.size : Int) _ _ hev).mono ?_); rintro e w1 ⟨rfl, h1⟩; refine ⟨_, rfl, ?_⟩; have hB1 := Aside0.mk h1; clear h1))
  go_ret
  exact ⟨by first | rfl | (rw [hw2]), hB1.out.below⟩

set_option maxHeartbeats 4000000 in
set_option maxRecDepth 100000 in
theorem record_Size.calls (a0_0 : Bool) (a0_1 : Int) (a0_2 a0_3 : ByteArray) (r : Int) (w : World) (h : record_Size.f a0_0 a0_1 a0_2 a0_3 = some r) :
    Calls Try.prog 55 #[.agg #[.bool a0_0, .int .u64 a0_1, .string a0_2, .string a0_3]] w fun e w' => e = .returned (.int .i64 r) ∧ Below w.heap.size w w' := by
  have hu44 := Try.underlying44
  have hS := Aside0.mk (Sep.start w)
  have hev := record_Check_ev a0_0 a0_1 a0_2 a0_3
  by_cases hU : 0 ≤ a0_1 ∧ a0_1 < 18446744073709551616
  case neg =>
    unfold record_Size.f at h
    rw [if_neg hU] at h
    cases h
  by_cases hck : rcheck a0_0 a0_2 a0_3 = 0
  case neg =>
    obtain rfl : r = 0 := by
      unfold record_Size.f at h
      rw [if_pos hU, if_neg hck] at h
      cases h
      rfl
    clear h
    have hb2 : (rcheck a0_0 a0_2 a0_3 != 0) = true := bne_iff_ne.2 hck
    have hb3 : (rcheck a0_0 a0_2 a0_3 == 0) = false := beq_eq_false_iff_ne.2 hck
    generalize rcheck a0_0 a0_2 a0_3 = rc at *
    go_enter Try.func55, Try.ntmps55
    go_wp2_with (first | ((with_reducible refine gate_dst (N := 1) rfl ?_); refine Sep.box_event ?hg (N := 1) ?hd (cs := #[.bool a0_0, .int .u64 a0_1, .string a0_2, .string a0_3]) (t := 44) hS.out ?hr ?_; (case hd => rfl); (case hg => rfl); (case hr => first | (go_simp; done) | (go_simp; rfl)); intro g0 wb0 hsb0; have hcb0_0 : wb0.cell? ⟨g0, 0, none⟩ = some (.bool a0_0) := ((hsb0).cell 0).trans rfl; have hcb0_1 : wb0.cell? ⟨g0, 1, none⟩ = some (.int .u64 a0_1) := ((hsb0).cell 1).trans rfl; have hcb0_2 : wb0.cell? ⟨g0, 2, none⟩ = some (.string a0_2) := ((hsb0).cell 2).trans rfl; have hcb0_3 : wb0.cell? ⟨g0, 3, none⟩ = some (.string a0_3) := ((hsb0).cell 3).trans rfl; have hSb0 := Aside0.mk hsb0; clear hsb0) | ((with_reducible refine gate_callee (f := 54) rfl ?_); refine goesL_ (some 6) rfl rfl Try.func54 (by kernel_rfl) rfl #[.agg #[.bool a0_0, .int .u64 a0_1, .string a0_2, .string a0_3]] rfl (by (try simp only [List.map_toArray, List.map_cons, List.map_nil]); first | done | rfl) ?_; (with_reducible refine (record_Check.calls 1 a0_0 a0_1 a0_2 a0_3 _ _ hev).mono ?_); rintro e w1 ⟨rfl, h1⟩; refine ⟨_, rfl, ?_⟩; have hS1 := Aside0.mk (hSb0.out.below h1); clear h1))
    go_ret
    exact ⟨rfl, hS1.out.1⟩
  · obtain rfl : r = ((rbody a0_0 a0_1 a0_2 a0_3).length : Int) := by
      unfold record_Size.f at h
      rw [if_pos hU, if_pos hck] at h
      cases h
      rfl
    clear h
    rw [hck] at hev
    have hks : a0_2.size ≤ 4096 := by
      unfold rcheck at hck
      split at hck
      · omega
      · split at hck <;> omega
    have hvs : a0_3.size ≤ 1048576 := by
      unfold rcheck at hck
      split at hck
      · omega
      · split at hck
        · omega
        · split at hck
          · omega
          · split at hck <;> omega
    have hn : a0_1 = (a0_1.toNat : Int) := by omega
    have hevS := varint_Size_ev a0_1.toNat (by omega)
    rw [← hn] at hevS
    have hnA := Aside0.mk hn
    clear hn
    have hvl := venc_len10 a0_1.toNat (by omega)
    have hkl := venc_len10 a0_2.size (by omega)
    have hvl2 := venc_len10 a0_3.size (by omega)
    have hsk := sby_len a0_2
    have hsv := sby_len a0_3
    clear hck
    generalize hL1 : (venc a0_1.toNat).length = L1 at hevS hvl
    have hL1A := Aside0.mk hL1
    clear hL1
    cases a0_0
    · go_enter Try.func55, Try.ntmps55
      go_wp2_with (first | ((with_reducible refine gate_dst (N := 1) rfl ?_); refine Sep.box_event ?hg (N := 1) ?hd (cs := #[.bool false, .int .u64 a0_1, .string a0_2, .string a0_3]) (t := 44) hS.out ?hr ?_; (case hd => rfl); (case hg => rfl); (case hr => first | (go_simp; done) | (go_simp; rfl)); intro g0 wb0 hsb0; have hcb0_0 : wb0.cell? ⟨g0, 0, none⟩ = some (.bool false) := ((hsb0).cell 0).trans rfl; have hcb0_1 : wb0.cell? ⟨g0, 1, none⟩ = some (.int .u64 a0_1) := ((hsb0).cell 1).trans rfl; have hcb0_2 : wb0.cell? ⟨g0, 2, none⟩ = some (.string a0_2) := ((hsb0).cell 2).trans rfl; have hcb0_3 : wb0.cell? ⟨g0, 3, none⟩ = some (.string a0_3) := ((hsb0).cell 3).trans rfl; have hSb0 := Aside0.mk hsb0; clear hsb0) | ((with_reducible refine gate_callee (f := 54) rfl ?_); refine goesL_ (some 6) rfl rfl Try.func54 (by kernel_rfl) rfl #[.agg #[.bool false, .int .u64 a0_1, .string a0_2, .string a0_3]] rfl (by (try simp only [List.map_toArray, List.map_cons, List.map_nil]); first | done | rfl) ?_; (with_reducible refine (record_Check.calls 1 false a0_1 a0_2 a0_3 _ _ hev).mono ?_); rintro e w1 ⟨rfl, h1⟩; refine ⟨_, rfl, ?_⟩; have hS1 := Aside0.mk (hSb0.out.below h1).drew; clear h1))
      have hq := hS1.out
      have hc1_0 : w1.drew.cell? ⟨g0, 0, none⟩ = some (.bool false) := ((hq).cell 0).trans rfl; have hc1_1 : w1.drew.cell? ⟨g0, 1, none⟩ = some (.int .u64 a0_1) := ((hq).cell 1).trans rfl; have hc1_2 : w1.drew.cell? ⟨g0, 2, none⟩ = some (.string a0_2) := ((hq).cell 2).trans rfl; have hc1_3 : w1.drew.cell? ⟨g0, 3, none⟩ = some (.string a0_3) := ((hq).cell 3).trans rfl
      clear hq
      refine start_ (n := 10) (S := fun w' => w'.cell? ⟨g0, 1, none⟩ = some (.int .u64 a0_1) ∧ w'.cell? ⟨g0, 2, none⟩ = some (.string a0_2)) (ds := []) #[false, false, false, false, false, false, false, false, false, false] (by kernel_rfl) rfl rfl ⟨hc1_1, hc1_2⟩ (fun hHeld => ?_)
      refine pure_ (i := 0) (N := some 8) (v := ?_) (a' := ?_) #[true, false, false, false, false, false, false, false, false, false] rfl rfl (by kernel_rfl) (fun _ _ _ h => h) (Or.inl ⟨by rfl, ?_⟩) ?_ ?_
      rotate_left
      · intro w'
        go_simp
        with_reducible rfl
      rotate_left
      · simp only [Act.put, List.setIfInBounds_toArray, List.set_cons_zero, List.set_cons_succ, i64_w, i32_w]
        rfl
      refine pure_ (i := 4) (N := some 12) (v := ?_) (a' := ?_) #[true, false, false, false, true, false, false, false, false, false] rfl rfl (by kernel_rfl) (fun _ _ _ h => h) (Or.inl ⟨by rfl, ?_⟩) ?_ ?_
      rotate_left
      · intro w'
        go_simp
        with_reducible rfl
      rotate_left
      · simp only [Act.put, List.setIfInBounds_toArray, List.set_cons_zero, List.set_cons_succ, i64_w, i32_w]
        rfl
      refine pure_ (i := 5) (N := some 13) (v := ?_) (a' := ?_) #[true, false, false, false, true, true, false, false, false, false] rfl rfl (by kernel_rfl) (fun _ _ _ h => h) (Or.inl ⟨by rfl, ?_⟩) ?_ ?_
      rotate_left
      · intro w'
        go_simp
        with_reducible rfl
      rotate_left
      · simp only [Act.put, List.setIfInBounds_toArray, List.set_cons_zero, List.set_cons_succ, i64_w, i32_w]
        rfl
      refine take_ (i := 1) (N := some 9) (v := ?_) (a' := ?_) #[true, true, false, false, true, true, false, false, false, false] rfl rfl (by kernel_rfl) (fun _ _ _ h => h) (Or.inl ⟨by rfl, ?_⟩) hHeld ?_ ?_
      rotate_left
      · rintro w' ⟨s0, s1⟩
        go_simp
        with_reducible rfl
      rotate_left
      · simp only [Act.put, List.setIfInBounds_toArray, List.set_cons_zero, List.set_cons_succ, i64_w, i32_w]
        rfl
      refine take_ (i := 6) (N := some 14) (v := ?_) (a' := ?_) #[true, true, false, false, true, true, true, false, false, false] rfl rfl (by kernel_rfl) (fun _ _ _ h => h) (Or.inl ⟨by rfl, ?_⟩) hHeld ?_ ?_
      rotate_left
      · rintro w' ⟨s0, s1⟩
        go_simp
        with_reducible rfl
      rotate_left
      · simp only [Act.put, List.setIfInBounds_toArray, List.set_cons_zero, List.set_cons_succ, i64_w, i32_w]
        rfl
      refine one_ (i := 2) (N := some 10) #[true, true, true, false, true, true, true, false, false, false] rfl rfl (by kernel_rfl) (by decide) (fun K hK => ?_)
      refine goes_ Try.func82 (by kernel_rfl) rfl #[.int .u64 a0_1] (by rfl) rfl rfl (by (try simp only [List.map_toArray, List.map_cons, List.map_nil]); first | done | rfl) ?_
      refine (varint_Size.calls 11 a0_1 _ _ hevS).mono ?_
      rintro e w2 ⟨rfl, h1⟩
      refine ⟨_, rfl, ?_⟩
      have hS2 := Aside0.mk (hS1.out.below h1.below)
      have hq := hS2.out
      have hc2_0 : w2.cell? ⟨g0, 0, none⟩ = some (.bool false) := ((hq).cell 0).trans rfl; have hc2_1 : w2.cell? ⟨g0, 1, none⟩ = some (.int .u64 a0_1) := ((hq).cell 1).trans rfl; have hc2_2 : w2.cell? ⟨g0, 2, none⟩ = some (.string a0_2) := ((hq).cell 2).trans rfl; have hc2_3 : w2.cell? ⟨g0, 3, none⟩ = some (.string a0_3) := ((hq).cell 3).trans rfl
      clear hq h1
      refine hK.out _ _ ⟨hc2_1, hc2_2⟩ (fun hHeld => ?_)
      clear hK K
      refine norm_ (a' := ?_) ?_ ?_
      rotate_left
      · show Act.put _ (some 10) _ = _
        simp only [Act.put, List.setIfInBounds_toArray, List.set_cons_zero, List.set_cons_succ, i64_w, i32_w]
        rfl
      refine pure_ (i := 3) (N := some 11) (v := ?_) (a' := ?_) #[true, true, true, true, true, true, true, false, false, false] rfl rfl (by kernel_rfl) (fun _ _ _ h => h) (Or.inl ⟨by rfl, ?_⟩) ?_ ?_
      rotate_left
      · intro w'
        go_simp
        with_reducible rfl
      rotate_left
      · simp only [Act.put, List.setIfInBounds_toArray, List.set_cons_zero, List.set_cons_succ, i64_w, i32_w]
        rfl
      refine one_ (i := 7) (N := some 15) #[true, true, true, true, true, true, true, true, false, false] rfl rfl (by kernel_rfl) (by decide) (fun K hK => ?_)
      refine goesV_ Try.func81 (by kernel_rfl) rfl #[.string a0_2] #[] (by rfl) rfl rfl (by rfl) (by (try simp only [List.map_toArray, List.map_cons, List.map_nil]); first | done | rfl) ?_
      refine (size_text a0_2 _ (by omega)).mono ?_
      rintro e w3 ⟨rfl, h1⟩
      refine ⟨_, rfl, ?_⟩
      have hS3 := Aside0.mk (hS2.out.below h1)
      have hq := hS3.out
      have hc3_0 : w3.cell? ⟨g0, 0, none⟩ = some (.bool false) := ((hq).cell 0).trans rfl; have hc3_1 : w3.cell? ⟨g0, 1, none⟩ = some (.int .u64 a0_1) := ((hq).cell 1).trans rfl; have hc3_2 : w3.cell? ⟨g0, 2, none⟩ = some (.string a0_2) := ((hq).cell 2).trans rfl; have hc3_3 : w3.cell? ⟨g0, 3, none⟩ = some (.string a0_3) := ((hq).cell 3).trans rfl
      clear hq h1
      refine hK.out _ _ ⟨hc3_1, hc3_2⟩ (fun hHeld => ?_)
      clear hK K
      refine norm_ (a' := ?_) ?_ ?_
      rotate_left
      · show Act.put _ (some 15) _ = _
        simp only [Act.put, List.setIfInBounds_toArray, List.set_cons_zero, List.set_cons_succ, i64_w, i32_w]
        rfl
      refine pure_ (i := 8) (N := some 16) (v := ?_) (a' := ?_) #[true, true, true, true, true, true, true, true, true, false] rfl rfl (by kernel_rfl) (fun _ _ _ h => h) (Or.inl ⟨by rfl, ?_⟩) ?_ ?_
      rotate_left
      · intro w'
        go_simp
        with_reducible rfl
      rotate_left
      · simp only [Act.put, List.setIfInBounds_toArray, List.set_cons_zero, List.set_cons_succ, i64_w, i32_w]
        rfl
      refine pure_ (i := 9) (N := some 4) (v := ?_) (a' := ?_) #[true, true, true, true, true, true, true, true, true, true] rfl rfl (by kernel_rfl) (fun _ _ _ h => h) (Or.inl ⟨by rfl, ?_⟩) ?_ ?_
      rotate_left
      · intro w'
        go_simp
        with_reducible rfl
      rotate_left
      · simp only [Act.put, List.setIfInBounds_toArray, List.set_cons_zero, List.set_cons_succ, i64_w, i32_w]
        rfl
      refine done_ (by kernel_rfl) ?_
      have hq1 : wrap64 (wrap64 (1 + (L1 : Int)) + (((venc a0_2.size).length : Int) + (a0_2.size : Int))) = 1 + (L1 : Int) + (((venc a0_2.size).length : Int) + (a0_2.size : Int)) := by
        rw [w64 (x := 1 + (L1 : Int)) (by omega) (by omega), w64 (by omega) (by omega)]
      rw [hq1]
      have hq2 : wrap64 (1 + (L1 : Int) + (((venc a0_2.size).length : Int) + (a0_2.size : Int)) + (((venc a0_3.size).length : Int) + (a0_3.size : Int))) = 1 + (L1 : Int) + (((venc a0_2.size).length : Int) + (a0_2.size : Int)) + (((venc a0_3.size).length : Int) + (a0_3.size : Int)) := w64 (by omega) (by omega)
      go_wp2_with (first | ((with_reducible refine gate_dst (N := 24) rfl ?_); refine goesVL_ (some 24) rfl rfl Try.func81 (by kernel_rfl) rfl #[.string a0_3] #[] rfl (by rfl) (by (try simp only [List.map_toArray, List.map_cons, List.map_nil]); first | done | rfl) ?_; (refine (size_text a0_3 _ (by omega)).mono ?_); rintro e w4 ⟨rfl, h1⟩; refine ⟨_, rfl, ?_⟩; have hS4 := Aside0.mk (hS3.out.below h1); clear h1))
      go_ret
      refine ⟨?_, hS4.out.1⟩
      have hL := hL1A.out
      simp only [rbody, List.length_cons, List.length_append, hL, hsk, hsv, Bool.false_eq_true, if_false]
      show Ending.returned (Value.int .i64 (1 + (L1 : Int) + (((venc a0_2.size).length : Int) + (a0_2.size : Int)) + (((venc a0_3.size).length : Int) + (a0_3.size : Int)))) = _
      congr 2
      push_cast
      omega
    · go_enter Try.func55, Try.ntmps55
      go_wp2_with (first | ((with_reducible refine gate_dst (N := 1) rfl ?_); refine Sep.box_event ?hg (N := 1) ?hd (cs := #[.bool true, .int .u64 a0_1, .string a0_2, .string a0_3]) (t := 44) hS.out ?hr ?_; (case hd => rfl); (case hg => rfl); (case hr => first | (go_simp; done) | (go_simp; rfl)); intro g0 wb0 hsb0; have hcb0_0 : wb0.cell? ⟨g0, 0, none⟩ = some (.bool true) := ((hsb0).cell 0).trans rfl; have hcb0_1 : wb0.cell? ⟨g0, 1, none⟩ = some (.int .u64 a0_1) := ((hsb0).cell 1).trans rfl; have hcb0_2 : wb0.cell? ⟨g0, 2, none⟩ = some (.string a0_2) := ((hsb0).cell 2).trans rfl; have hcb0_3 : wb0.cell? ⟨g0, 3, none⟩ = some (.string a0_3) := ((hsb0).cell 3).trans rfl; have hSb0 := Aside0.mk hsb0; clear hsb0) | ((with_reducible refine gate_callee (f := 54) rfl ?_); refine goesL_ (some 6) rfl rfl Try.func54 (by kernel_rfl) rfl #[.agg #[.bool true, .int .u64 a0_1, .string a0_2, .string a0_3]] rfl (by (try simp only [List.map_toArray, List.map_cons, List.map_nil]); first | done | rfl) ?_; (with_reducible refine (record_Check.calls 1 true a0_1 a0_2 a0_3 _ _ hev).mono ?_); rintro e w1 ⟨rfl, h1⟩; refine ⟨_, rfl, ?_⟩; have hS1 := Aside0.mk (hSb0.out.below h1).drew; clear h1))
      have hq := hS1.out
      have hc1_0 : w1.drew.cell? ⟨g0, 0, none⟩ = some (.bool true) := ((hq).cell 0).trans rfl; have hc1_1 : w1.drew.cell? ⟨g0, 1, none⟩ = some (.int .u64 a0_1) := ((hq).cell 1).trans rfl; have hc1_2 : w1.drew.cell? ⟨g0, 2, none⟩ = some (.string a0_2) := ((hq).cell 2).trans rfl; have hc1_3 : w1.drew.cell? ⟨g0, 3, none⟩ = some (.string a0_3) := ((hq).cell 3).trans rfl
      clear hq
      refine start_ (n := 10) (S := fun w' => w'.cell? ⟨g0, 1, none⟩ = some (.int .u64 a0_1) ∧ w'.cell? ⟨g0, 2, none⟩ = some (.string a0_2)) (ds := []) #[false, false, false, false, false, false, false, false, false, false] (by kernel_rfl) rfl rfl ⟨hc1_1, hc1_2⟩ (fun hHeld => ?_)
      refine pure_ (i := 0) (N := some 8) (v := ?_) (a' := ?_) #[true, false, false, false, false, false, false, false, false, false] rfl rfl (by kernel_rfl) (fun _ _ _ h => h) (Or.inl ⟨by rfl, ?_⟩) ?_ ?_
      rotate_left
      · intro w'
        go_simp
        with_reducible rfl
      rotate_left
      · simp only [Act.put, List.setIfInBounds_toArray, List.set_cons_zero, List.set_cons_succ, i64_w, i32_w]
        rfl
      refine pure_ (i := 4) (N := some 12) (v := ?_) (a' := ?_) #[true, false, false, false, true, false, false, false, false, false] rfl rfl (by kernel_rfl) (fun _ _ _ h => h) (Or.inl ⟨by rfl, ?_⟩) ?_ ?_
      rotate_left
      · intro w'
        go_simp
        with_reducible rfl
      rotate_left
      · simp only [Act.put, List.setIfInBounds_toArray, List.set_cons_zero, List.set_cons_succ, i64_w, i32_w]
        rfl
      refine pure_ (i := 5) (N := some 13) (v := ?_) (a' := ?_) #[true, false, false, false, true, true, false, false, false, false] rfl rfl (by kernel_rfl) (fun _ _ _ h => h) (Or.inl ⟨by rfl, ?_⟩) ?_ ?_
      rotate_left
      · intro w'
        go_simp
        with_reducible rfl
      rotate_left
      · simp only [Act.put, List.setIfInBounds_toArray, List.set_cons_zero, List.set_cons_succ, i64_w, i32_w]
        rfl
      refine take_ (i := 1) (N := some 9) (v := ?_) (a' := ?_) #[true, true, false, false, true, true, false, false, false, false] rfl rfl (by kernel_rfl) (fun _ _ _ h => h) (Or.inl ⟨by rfl, ?_⟩) hHeld ?_ ?_
      rotate_left
      · rintro w' ⟨s0, s1⟩
        go_simp
        with_reducible rfl
      rotate_left
      · simp only [Act.put, List.setIfInBounds_toArray, List.set_cons_zero, List.set_cons_succ, i64_w, i32_w]
        rfl
      refine take_ (i := 6) (N := some 14) (v := ?_) (a' := ?_) #[true, true, false, false, true, true, true, false, false, false] rfl rfl (by kernel_rfl) (fun _ _ _ h => h) (Or.inl ⟨by rfl, ?_⟩) hHeld ?_ ?_
      rotate_left
      · rintro w' ⟨s0, s1⟩
        go_simp
        with_reducible rfl
      rotate_left
      · simp only [Act.put, List.setIfInBounds_toArray, List.set_cons_zero, List.set_cons_succ, i64_w, i32_w]
        rfl
      refine one_ (i := 2) (N := some 10) #[true, true, true, false, true, true, true, false, false, false] rfl rfl (by kernel_rfl) (by decide) (fun K hK => ?_)
      refine goes_ Try.func82 (by kernel_rfl) rfl #[.int .u64 a0_1] (by rfl) rfl rfl (by (try simp only [List.map_toArray, List.map_cons, List.map_nil]); first | done | rfl) ?_
      refine (varint_Size.calls 11 a0_1 _ _ hevS).mono ?_
      rintro e w2 ⟨rfl, h1⟩
      refine ⟨_, rfl, ?_⟩
      have hS2 := Aside0.mk (hS1.out.below h1.below)
      have hq := hS2.out
      have hc2_0 : w2.cell? ⟨g0, 0, none⟩ = some (.bool true) := ((hq).cell 0).trans rfl; have hc2_1 : w2.cell? ⟨g0, 1, none⟩ = some (.int .u64 a0_1) := ((hq).cell 1).trans rfl; have hc2_2 : w2.cell? ⟨g0, 2, none⟩ = some (.string a0_2) := ((hq).cell 2).trans rfl; have hc2_3 : w2.cell? ⟨g0, 3, none⟩ = some (.string a0_3) := ((hq).cell 3).trans rfl
      clear hq h1
      refine hK.out _ _ ⟨hc2_1, hc2_2⟩ (fun hHeld => ?_)
      clear hK K
      refine norm_ (a' := ?_) ?_ ?_
      rotate_left
      · show Act.put _ (some 10) _ = _
        simp only [Act.put, List.setIfInBounds_toArray, List.set_cons_zero, List.set_cons_succ, i64_w, i32_w]
        rfl
      refine pure_ (i := 3) (N := some 11) (v := ?_) (a' := ?_) #[true, true, true, true, true, true, true, false, false, false] rfl rfl (by kernel_rfl) (fun _ _ _ h => h) (Or.inl ⟨by rfl, ?_⟩) ?_ ?_
      rotate_left
      · intro w'
        go_simp
        with_reducible rfl
      rotate_left
      · simp only [Act.put, List.setIfInBounds_toArray, List.set_cons_zero, List.set_cons_succ, i64_w, i32_w]
        rfl
      refine one_ (i := 7) (N := some 15) #[true, true, true, true, true, true, true, true, false, false] rfl rfl (by kernel_rfl) (by decide) (fun K hK => ?_)
      refine goesV_ Try.func81 (by kernel_rfl) rfl #[.string a0_2] #[] (by rfl) rfl rfl (by rfl) (by (try simp only [List.map_toArray, List.map_cons, List.map_nil]); first | done | rfl) ?_
      refine (size_text a0_2 _ (by omega)).mono ?_
      rintro e w3 ⟨rfl, h1⟩
      refine ⟨_, rfl, ?_⟩
      have hS3 := Aside0.mk (hS2.out.below h1)
      have hq := hS3.out
      have hc3_0 : w3.cell? ⟨g0, 0, none⟩ = some (.bool true) := ((hq).cell 0).trans rfl; have hc3_1 : w3.cell? ⟨g0, 1, none⟩ = some (.int .u64 a0_1) := ((hq).cell 1).trans rfl; have hc3_2 : w3.cell? ⟨g0, 2, none⟩ = some (.string a0_2) := ((hq).cell 2).trans rfl; have hc3_3 : w3.cell? ⟨g0, 3, none⟩ = some (.string a0_3) := ((hq).cell 3).trans rfl
      clear hq h1
      refine hK.out _ _ ⟨hc3_1, hc3_2⟩ (fun hHeld => ?_)
      clear hK K
      refine norm_ (a' := ?_) ?_ ?_
      rotate_left
      · show Act.put _ (some 15) _ = _
        simp only [Act.put, List.setIfInBounds_toArray, List.set_cons_zero, List.set_cons_succ, i64_w, i32_w]
        rfl
      refine pure_ (i := 8) (N := some 16) (v := ?_) (a' := ?_) #[true, true, true, true, true, true, true, true, true, false] rfl rfl (by kernel_rfl) (fun _ _ _ h => h) (Or.inl ⟨by rfl, ?_⟩) ?_ ?_
      rotate_left
      · intro w'
        go_simp
        with_reducible rfl
      rotate_left
      · simp only [Act.put, List.setIfInBounds_toArray, List.set_cons_zero, List.set_cons_succ, i64_w, i32_w]
        rfl
      refine pure_ (i := 9) (N := some 4) (v := ?_) (a' := ?_) #[true, true, true, true, true, true, true, true, true, true] rfl rfl (by kernel_rfl) (fun _ _ _ h => h) (Or.inl ⟨by rfl, ?_⟩) ?_ ?_
      rotate_left
      · intro w'
        go_simp
        with_reducible rfl
      rotate_left
      · simp only [Act.put, List.setIfInBounds_toArray, List.set_cons_zero, List.set_cons_succ, i64_w, i32_w]
        rfl
      refine done_ (by kernel_rfl) ?_
      have hq1 : wrap64 (wrap64 (1 + (L1 : Int)) + (((venc a0_2.size).length : Int) + (a0_2.size : Int))) = 1 + (L1 : Int) + (((venc a0_2.size).length : Int) + (a0_2.size : Int)) := by
        rw [w64 (x := 1 + (L1 : Int)) (by omega) (by omega), w64 (by omega) (by omega)]
      rw [hq1]
      go_wp2
      go_ret
      refine ⟨?_, hS3.out.1⟩
      have hL := hL1A.out
      simp only [rbody, List.length_cons, List.length_append, hL, hsk, if_true, List.length_nil]
      show Ending.returned (Value.int .i64 (1 + (L1 : Int) + (((venc a0_2.size).length : Int) + (a0_2.size : Int)))) = _
      congr 2
      push_cast
      omega

end Go.Proofs.Ytmlodmpkcbncjaa.G
