/- record.Body: a record's bytes. -/
import Derived.Test.YtmlodmpkcbncjaaHRaw
import Derived.Test.YtmlodmpkcbncjaaGx3
set_option linter.unusedVariables false
set_option linter.unusedSimpArgs false
namespace Go.Proofs.Ytmlodmpkcbncjaa.G
open Go Go.RowKit Go.Proofs.YtmlodmpkcbncjaaW.PrintWords Go.Proofs.YtmlodmpkcbncjaaW.PrintLast Go.Proofs.YtmlodmpkcbncjaaW.PrintMore Go.Proofs.Ytmlodmpkcbncjaa.PureKit Go.Proofs.Ytmlodmpkcbncjaa.Sep

def rcheck (d : Bool) (k v : ByteArray) : Int :=
  if k.size = 0 then 4 else if k.size > 4096 then 3 else if d = true ∧ v.size ≠ 0 then 4 else if v.size > 1048576 then 3 else 0
theorem size_nil (s : ByteArray) : s.toList = ([] : List UInt8) ↔ s.size = 0 := by
  rw [Lib.toList_data, Array.toList_eq_nil_iff]
  exact ⟨fun h => by simp [ByteArray.size, h], fun h => Array.eq_empty_of_size_eq_zero h⟩
theorem record_Check_ev (d : Bool) (s : Int) (k v : ByteArray) : record_Check.f 1 d s k v = some (rcheck d k v) := by
  have h1 := size_nil k
  have h2 := size_nil v
  unfold record_Check.f rcheck
  simp only [record_Check.j0, h1]
  by_cases hk : k.size = 0
  · rw [if_pos hk, if_pos hk]
  rw [if_neg hk, if_neg hk]
  by_cases hl : k.size > 4096
  · rw [if_pos (by omega), if_pos hl]
  rw [if_neg (by omega), if_neg hl]
  cases d
  · simp only [Bool.false_eq_true, if_false, false_and]
    by_cases hv : v.size > 1048576
    · rw [if_pos (by omega), if_pos hv]
    · rw [if_neg (by omega), if_neg hv]
  · simp only [if_true, true_and]
    by_cases hv : v.size = 0
    · rw [if_neg (by rw [bne_iff_ne, ne_eq, h2]; exact fun h => h hv), if_neg (by omega), if_neg (by omega), if_neg (by omega)]
    · rw [if_pos (by rw [bne_iff_ne, ne_eq, h2]; exact hv), if_pos hv]
def rbody (d : Bool) (s : Int) (k v : ByteArray) : List Int :=
  (if d = true then 3 else 2) :: (venc s.toNat ++ (venc k.size ++ (sby k ++ (if d = true then [] else venc v.size ++ sby v))))
def record_Body.f (a0_0 : Bool) (a0_1 : Int) (a0_2 a0_3 : ByteArray) : Option (List Int × Int) :=
  if 0 ≤ a0_1 ∧ a0_1 < 18446744073709551616 then (if rcheck a0_0 a0_2 a0_3 = 0 then some (rbody a0_0 a0_1 a0_2 a0_3, 0) else some ([], rcheck a0_0 a0_2 a0_3)) else none

set_option maxHeartbeats 4000000 in
set_option maxRecDepth 100000 in
theorem record_Body.calls (a0_0 : Bool) (a0_1 : Int) (a0_2 a0_3 : ByteArray) (r0 : List Int) (r1 : Int) (w : World) (h : record_Body.f a0_0 a0_1 a0_2 a0_3 = some (r0, r1)) :
    Calls Try.prog 48 #[.agg #[.bool a0_0, .int .u64 a0_1, .string a0_2, .string a0_3]] w fun e w' => ∃ v0_ : Value, e = .returned (.tuple #[v0_, .int .i64 r1]) ∧ Kd.R (Kd.int .u8) 5 w' w.heap.size (fun _ => True) v0_ r0 ∧ Below w.heap.size w w' := by
  have hu44 := Try.underlying44
  have hS := Aside0.mk (Sep.start w)
  by_cases hU : 0 ≤ a0_1 ∧ a0_1 < 18446744073709551616
  case neg =>
    unfold record_Body.f at h
    rw [if_neg hU] at h
    cases h
  by_cases hck : rcheck a0_0 a0_2 a0_3 = 0
  case neg =>
    obtain ⟨rfl, rfl⟩ : r0 = [] ∧ r1 = rcheck a0_0 a0_2 a0_3 := by
      unfold record_Body.f at h
      rw [if_pos hU, if_neg hck] at h
      cases h
      exact ⟨rfl, rfl⟩
    clear h
    have hb2 : (rcheck a0_0 a0_2 a0_3 != 0) = true := bne_iff_ne.2 hck
    have hb3 : (rcheck a0_0 a0_2 a0_3 == 0) = false := beq_eq_false_iff_ne.2 hck
    have hev := record_Check_ev a0_0 a0_1 a0_2 a0_3
    generalize rcheck a0_0 a0_2 a0_3 = rc at *
    go_enter Try.func48, Try.ntmps48
    go_wp2_with (first | ((with_reducible refine gate_dst (N := 1) rfl ?_); refine Sep.box_event ?hg (N := 1) ?hd (cs := #[.bool a0_0, .int .u64 a0_1, .string a0_2, .string a0_3]) (t := 44) hS.out ?hr ?_; (case hd => rfl); (case hg => rfl); (case hr => first | (go_simp; done) | (go_simp; rfl)); intro g0 wb0 hsb0; have hcb0_0 : wb0.cell? ⟨g0, 0, none⟩ = some (.bool a0_0) := ((hsb0).cell 0).trans rfl; have hcb0_1 : wb0.cell? ⟨g0, 1, none⟩ = some (.int .u64 a0_1) := ((hsb0).cell 1).trans rfl; have hcb0_2 : wb0.cell? ⟨g0, 2, none⟩ = some (.string a0_2) := ((hsb0).cell 2).trans rfl; have hcb0_3 : wb0.cell? ⟨g0, 3, none⟩ = some (.string a0_3) := ((hsb0).cell 3).trans rfl; have hSb0 := Aside0.mk hsb0; clear hsb0) | ((with_reducible refine gate_callee (f := 54) rfl ?_); refine goesL_ (some 8) rfl rfl Try.func54 (by kernel_rfl) rfl #[.agg #[.bool a0_0, .int .u64 a0_1, .string a0_2, .string a0_3]] rfl (by (try simp only [List.map_toArray, List.map_cons, List.map_nil]); first | done | rfl) ?_; (with_reducible refine (record_Check.calls 1 a0_0 a0_1 a0_2 a0_3 _ _ hev).mono ?_); rintro e w1 ⟨rfl, h1⟩; refine ⟨_, rfl, ?_⟩; have hS1 := Aside0.mk (hSb0.out.below h1); clear h1))
    go_ret2
    exact ⟨_, rfl, Kd.R_nil _ _ _ _ _, hS1.out.1⟩
  · obtain ⟨rfl, rfl⟩ : r0 = rbody a0_0 a0_1 a0_2 a0_3 ∧ r1 = 0 := by
      unfold record_Body.f at h
      rw [if_pos hU, if_pos hck] at h
      cases h
      exact ⟨rfl, rfl⟩
    clear h
    have hev := record_Check_ev a0_0 a0_1 a0_2 a0_3
    rw [hck] at hev
    have hks : a0_2.size ≤ 4096 := by
      unfold rcheck at hck
      split at hck
      · omega
      · split at hck <;> omega
    have hvs : a0_3.size ≤ 1048576 := by
      unfold rcheck at hck
      split at hck
      · omega
      · split at hck
        · omega
        · split at hck
          · omega
          · split at hck <;> omega
    have hn := Aside0.mk (show a0_1 = (a0_1.toNat : Int) by omega)
    have hvl : (venc a0_1.toNat).length ≤ 10 := venc_len 10 a0_1.toNat (by omega) (by decide)
    have hkl : (venc a0_2.size).length ≤ 10 := venc_len 10 a0_2.size (by omega) (by decide)
    have hvl2 : (venc a0_3.size).length ≤ 10 := venc_len 10 a0_3.size (by omega) (by decide)
    have hsk := sby_len a0_2
    have hsv := sby_len a0_3
    clear hck
    cases a0_0
    · go_enter Try.func48, Try.ntmps48
      go_wp2_with (first | ((with_reducible refine gate_dst (N := 1) rfl ?_); refine Sep.box_event ?hg (N := 1) ?hd (cs := #[.bool false, .int .u64 a0_1, .string a0_2, .string a0_3]) (t := 44) hS.out ?hr ?_; (case hd => rfl); (case hg => rfl); (case hr => first | (go_simp; done) | (go_simp; rfl)); intro g0 wb0 hsb0; have hcb0_0 : wb0.cell? ⟨g0, 0, none⟩ = some (.bool false) := ((hsb0).cell 0).trans rfl; have hcb0_1 : wb0.cell? ⟨g0, 1, none⟩ = some (.int .u64 a0_1) := ((hsb0).cell 1).trans rfl; have hcb0_2 : wb0.cell? ⟨g0, 2, none⟩ = some (.string a0_2) := ((hsb0).cell 2).trans rfl; have hcb0_3 : wb0.cell? ⟨g0, 3, none⟩ = some (.string a0_3) := ((hsb0).cell 3).trans rfl; have hSb0 := Aside0.mk hsb0; clear hsb0) | ((with_reducible refine gate_callee (f := 54) rfl ?_); refine goesL_ (some 8) rfl rfl Try.func54 (by kernel_rfl) rfl #[.agg #[.bool false, .int .u64 a0_1, .string a0_2, .string a0_3]] rfl (by (try simp only [List.map_toArray, List.map_cons, List.map_nil]); first | done | rfl) ?_; (with_reducible refine (record_Check.calls 1 false a0_1 a0_2 a0_3 _ _ hev).mono ?_); rintro e w1 ⟨rfl, h1⟩; refine ⟨_, rfl, ?_⟩; have hS1 := Aside0.mk ((hSb0.out.below h1).buf_new); have hq := hS1.out; have hc1_0 : (w1.alloc (.cells #[.slice none 0 0] 48 (0, 0))).cell? ⟨g0, 0, none⟩ = some (.bool false) := ((hq.pick1).cell 0).trans rfl; have hc1_1 : (w1.alloc (.cells #[.slice none 0 0] 48 (0, 0))).cell? ⟨g0, 1, none⟩ = some (.int .u64 a0_1) := ((hq.pick1).cell 1).trans rfl; have hc1_2 : (w1.alloc (.cells #[.slice none 0 0] 48 (0, 0))).cell? ⟨g0, 2, none⟩ = some (.string a0_2) := ((hq.pick1).cell 2).trans rfl; have hc1_3 : (w1.alloc (.cells #[.slice none 0 0] 48 (0, 0))).cell? ⟨g0, 3, none⟩ = some (.string a0_3) := ((hq.pick1).cell 3).trans rfl; clear hq h1) | ((with_reducible refine gate_callee (f := 26) rfl ?_); refine goesL_ (some 15) rfl rfl Try.func26 (by kernel_rfl) rfl #[.pointer (some ⟨w1.heap.size, 0, none⟩), .int .u8 2] rfl (by (try simp only [List.map_toArray, List.map_cons, List.map_nil]); first | done | rfl) ?_; (with_reducible refine (buf_Byte w _ w1.heap.size [] _ 2 hS1.out (by decide) (by decide) (by decide)).mono ?_); rintro e w2 ⟨rfl, hq⟩; refine ⟨_, rfl, ?_⟩; have hS2 := Aside0.mk hq; have hc2_0 : w2.cell? ⟨g0, 0, none⟩ = some (.bool false) := ((hq.pick1).cell 0).trans rfl; have hc2_1 : w2.cell? ⟨g0, 1, none⟩ = some (.int .u64 a0_1) := ((hq.pick1).cell 1).trans rfl; have hc2_2 : w2.cell? ⟨g0, 2, none⟩ = some (.string a0_2) := ((hq.pick1).cell 2).trans rfl; have hc2_3 : w2.cell? ⟨g0, 3, none⟩ = some (.string a0_3) := ((hq.pick1).cell 3).trans rfl; clear hq) | ((with_reducible refine gate_callee (f := 78) rfl ?_); refine goesL_ (some 18) rfl rfl Try.func78 (by kernel_rfl) rfl #[.pointer (some ⟨w1.heap.size, 0, none⟩), .int .u64 a0_1] rfl (by (try simp only [List.map_toArray, List.map_cons, List.map_nil]); first | done | rfl) ?_; (with_reducible refine (varint_Put w _ w1.heap.size _ _ a0_1.toNat a0_1 hn.out hS2.out (by omega) (by simp)).mono ?_); rintro e w3 ⟨rfl, hq⟩; refine ⟨_, rfl, ?_⟩; have hS3 := Aside0.mk hq; have hc3_0 : w3.cell? ⟨g0, 0, none⟩ = some (.bool false) := ((hq.pick1).cell 0).trans rfl; have hc3_1 : w3.cell? ⟨g0, 1, none⟩ = some (.int .u64 a0_1) := ((hq.pick1).cell 1).trans rfl; have hc3_2 : w3.cell? ⟨g0, 2, none⟩ = some (.string a0_2) := ((hq.pick1).cell 2).trans rfl; have hc3_3 : w3.cell? ⟨g0, 3, none⟩ = some (.string a0_3) := ((hq.pick1).cell 3).trans rfl; clear hq) | ((with_reducible refine gate_callee (f := 79) rfl ?_); refine goesL_ (some 21) rfl rfl Try.func79 (by kernel_rfl) rfl #[.pointer (some ⟨w1.heap.size, 0, none⟩), .string a0_2] rfl (by (try simp only [List.map_toArray, List.map_cons, List.map_nil]); first | done | rfl) ?_; (with_reducible refine (varint_PutText w _ w1.heap.size _ _ a0_2 hS3.out (by omega) (by simp; omega)).mono ?_); rintro e w4 ⟨rfl, hq⟩; refine ⟨_, rfl, ?_⟩; have hS4 := Aside0.mk hq; have hc4_0 : w4.cell? ⟨g0, 0, none⟩ = some (.bool false) := ((hq.pick1).cell 0).trans rfl; have hc4_1 : w4.cell? ⟨g0, 1, none⟩ = some (.int .u64 a0_1) := ((hq.pick1).cell 1).trans rfl; have hc4_2 : w4.cell? ⟨g0, 2, none⟩ = some (.string a0_2) := ((hq.pick1).cell 2).trans rfl; have hc4_3 : w4.cell? ⟨g0, 3, none⟩ = some (.string a0_3) := ((hq.pick1).cell 3).trans rfl; clear hq) | ((with_reducible refine gate_callee (f := 79) rfl ?_); refine goesL_ (some 27) rfl rfl Try.func79 (by kernel_rfl) rfl #[.pointer (some ⟨w1.heap.size, 0, none⟩), .string a0_3] rfl (by (try simp only [List.map_toArray, List.map_cons, List.map_nil]); first | done | rfl) ?_; (with_reducible refine (varint_PutText w _ w1.heap.size _ _ a0_3 hS4.out (by omega) (by simp; omega)).mono ?_); rintro e w5 ⟨rfl, hq⟩; refine ⟨_, rfl, ?_⟩; have hS5 := Aside0.mk hq; clear hq) | ((with_reducible refine gate_callee (f := 31) rfl ?_); refine goesL_ (some 28) rfl rfl Try.func31 (by kernel_rfl) rfl #[.pointer (some ⟨w1.heap.size, 0, none⟩)] rfl (by (try simp only [List.map_toArray, List.map_cons, List.map_nil]); first | done | rfl) ?_; (with_reducible refine (buf_Bytes w _ w1.heap.size _ _ hS5.out (by simp; omega)).mono ?_); rintro e w6 ⟨v6, rfl, hq⟩; refine ⟨_, rfl, ?_⟩; have hS6 := Aside0.mk hq; clear hq))
      go_ret2
      refine ⟨_, rfl, ?_⟩
      have := hS6.out.row_out
      simpa [rbody] using this
    · go_enter Try.func48, Try.ntmps48
      go_wp2_with (first | ((with_reducible refine gate_dst (N := 1) rfl ?_); refine Sep.box_event ?hg (N := 1) ?hd (cs := #[.bool true, .int .u64 a0_1, .string a0_2, .string a0_3]) (t := 44) hS.out ?hr ?_; (case hd => rfl); (case hg => rfl); (case hr => first | (go_simp; done) | (go_simp; rfl)); intro g0 wb0 hsb0; have hcb0_0 : wb0.cell? ⟨g0, 0, none⟩ = some (.bool true) := ((hsb0).cell 0).trans rfl; have hcb0_1 : wb0.cell? ⟨g0, 1, none⟩ = some (.int .u64 a0_1) := ((hsb0).cell 1).trans rfl; have hcb0_2 : wb0.cell? ⟨g0, 2, none⟩ = some (.string a0_2) := ((hsb0).cell 2).trans rfl; have hcb0_3 : wb0.cell? ⟨g0, 3, none⟩ = some (.string a0_3) := ((hsb0).cell 3).trans rfl; have hSb0 := Aside0.mk hsb0; clear hsb0) | ((with_reducible refine gate_callee (f := 54) rfl ?_); refine goesL_ (some 8) rfl rfl Try.func54 (by kernel_rfl) rfl #[.agg #[.bool true, .int .u64 a0_1, .string a0_2, .string a0_3]] rfl (by (try simp only [List.map_toArray, List.map_cons, List.map_nil]); first | done | rfl) ?_; (with_reducible refine (record_Check.calls 1 true a0_1 a0_2 a0_3 _ _ hev).mono ?_); rintro e w1 ⟨rfl, h1⟩; refine ⟨_, rfl, ?_⟩; have hS1 := Aside0.mk ((hSb0.out.below h1).buf_new); have hq := hS1.out; have hc1_0 : (w1.alloc (.cells #[.slice none 0 0] 48 (0, 0))).cell? ⟨g0, 0, none⟩ = some (.bool true) := ((hq.pick1).cell 0).trans rfl; have hc1_1 : (w1.alloc (.cells #[.slice none 0 0] 48 (0, 0))).cell? ⟨g0, 1, none⟩ = some (.int .u64 a0_1) := ((hq.pick1).cell 1).trans rfl; have hc1_2 : (w1.alloc (.cells #[.slice none 0 0] 48 (0, 0))).cell? ⟨g0, 2, none⟩ = some (.string a0_2) := ((hq.pick1).cell 2).trans rfl; have hc1_3 : (w1.alloc (.cells #[.slice none 0 0] 48 (0, 0))).cell? ⟨g0, 3, none⟩ = some (.string a0_3) := ((hq.pick1).cell 3).trans rfl; clear hq h1) | ((with_reducible refine gate_callee (f := 26) rfl ?_); refine goesL_ (some 15) rfl rfl Try.func26 (by kernel_rfl) rfl #[.pointer (some ⟨w1.heap.size, 0, none⟩), .int .u8 3] rfl (by (try simp only [List.map_toArray, List.map_cons, List.map_nil]); first | done | rfl) ?_; (with_reducible refine (buf_Byte w _ w1.heap.size [] _ 3 hS1.out (by decide) (by decide) (by decide)).mono ?_); rintro e w2 ⟨rfl, hq⟩; refine ⟨_, rfl, ?_⟩; have hS2 := Aside0.mk hq; have hc2_0 : w2.cell? ⟨g0, 0, none⟩ = some (.bool true) := ((hq.pick1).cell 0).trans rfl; have hc2_1 : w2.cell? ⟨g0, 1, none⟩ = some (.int .u64 a0_1) := ((hq.pick1).cell 1).trans rfl; have hc2_2 : w2.cell? ⟨g0, 2, none⟩ = some (.string a0_2) := ((hq.pick1).cell 2).trans rfl; have hc2_3 : w2.cell? ⟨g0, 3, none⟩ = some (.string a0_3) := ((hq.pick1).cell 3).trans rfl; clear hq) | ((with_reducible refine gate_callee (f := 78) rfl ?_); refine goesL_ (some 18) rfl rfl Try.func78 (by kernel_rfl) rfl #[.pointer (some ⟨w1.heap.size, 0, none⟩), .int .u64 a0_1] rfl (by (try simp only [List.map_toArray, List.map_cons, List.map_nil]); first | done | rfl) ?_; (with_reducible refine (varint_Put w _ w1.heap.size _ _ a0_1.toNat a0_1 hn.out hS2.out (by omega) (by simp)).mono ?_); rintro e w3 ⟨rfl, hq⟩; refine ⟨_, rfl, ?_⟩; have hS3 := Aside0.mk hq; have hc3_0 : w3.cell? ⟨g0, 0, none⟩ = some (.bool true) := ((hq.pick1).cell 0).trans rfl; have hc3_1 : w3.cell? ⟨g0, 1, none⟩ = some (.int .u64 a0_1) := ((hq.pick1).cell 1).trans rfl; have hc3_2 : w3.cell? ⟨g0, 2, none⟩ = some (.string a0_2) := ((hq.pick1).cell 2).trans rfl; have hc3_3 : w3.cell? ⟨g0, 3, none⟩ = some (.string a0_3) := ((hq.pick1).cell 3).trans rfl; clear hq) | ((with_reducible refine gate_callee (f := 79) rfl ?_); refine goesL_ (some 21) rfl rfl Try.func79 (by kernel_rfl) rfl #[.pointer (some ⟨w1.heap.size, 0, none⟩), .string a0_2] rfl (by (try simp only [List.map_toArray, List.map_cons, List.map_nil]); first | done | rfl) ?_; (with_reducible refine (varint_PutText w _ w1.heap.size _ _ a0_2 hS3.out (by omega) (by simp; omega)).mono ?_); rintro e w4 ⟨rfl, hq⟩; refine ⟨_, rfl, ?_⟩; have hS4 := Aside0.mk hq; have hc4_0 : w4.cell? ⟨g0, 0, none⟩ = some (.bool true) := ((hq.pick1).cell 0).trans rfl; have hc4_1 : w4.cell? ⟨g0, 1, none⟩ = some (.int .u64 a0_1) := ((hq.pick1).cell 1).trans rfl; have hc4_2 : w4.cell? ⟨g0, 2, none⟩ = some (.string a0_2) := ((hq.pick1).cell 2).trans rfl; have hc4_3 : w4.cell? ⟨g0, 3, none⟩ = some (.string a0_3) := ((hq.pick1).cell 3).trans rfl; clear hq) | ((with_reducible refine gate_callee (f := 31) rfl ?_); refine goesL_ (some 28) rfl rfl Try.func31 (by kernel_rfl) rfl #[.pointer (some ⟨w1.heap.size, 0, none⟩)] rfl (by (try simp only [List.map_toArray, List.map_cons, List.map_nil]); first | done | rfl) ?_; (with_reducible refine (buf_Bytes w _ w1.heap.size _ _ hS4.out (by simp; omega)).mono ?_); rintro e w6 ⟨v6, rfl, hq⟩; refine ⟨_, rfl, ?_⟩; have hS6 := Aside0.mk hq; clear hq))
      go_ret2
      refine ⟨_, rfl, ?_⟩
      have := hS6.out.row_out
      simpa [rbody] using this

end Go.Proofs.Ytmlodmpkcbncjaa.G
