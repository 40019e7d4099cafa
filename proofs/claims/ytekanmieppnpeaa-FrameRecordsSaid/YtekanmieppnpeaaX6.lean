/- Texts of a claim, one behind the other (shake.py): what it does not use is left out. -/
import Derived.Test.YtekanmieppnpeaaX5
set_option linter.unusedVariables false
set_option linter.unusedSimpArgs false
set_option maxHeartbeats 16000000
set_option maxRecDepth 100000
section
namespace Go.Proofs.Ytekanmieppnpeaa.G
theorem iE (l : List UInt8) : l.isEmpty = !(l != ([] : List UInt8)) := by cases l <;> rfl
end Go.Proofs.Ytekanmieppnpeaa.G
end
section
namespace Go.Proofs.Ytekanmieppnpeaa.G
open Go Go.RowKit Go.Proofs.YtekanmieppnpeaaW.PrintWords Go.Proofs.YtekanmieppnpeaaW.PrintLast Go.Proofs.YtekanmieppnpeaaW.PrintMore Go.Proofs.Ytekanmieppnpeaa.PureKit Go.Proofs.Ytekanmieppnpeaa.Sep
def rcheck (d : Bool) (k v : ByteArray) : Int :=
 if k.size = 0 then 4 else if k.size > 4096 then 3 else if d = true ∧ v.size ≠ 0 then 4 else if v.size > 1048576 then 3 else 0
theorem size_nil (s : ByteArray) : s.toList = ([] : List UInt8) ↔ s.size = 0 := by
 rw [Lib.toList_data, Array.toList_eq_nil_iff]
 exact ⟨fun h => by simp [ByteArray.size, h], fun h => Array.eq_empty_of_size_eq_zero h⟩
theorem record_Check_ev (d : Bool) (s : Int) (k v : ByteArray) : record_Check.f 1 d s k v = some (rcheck d k v) := by
 have h1 := size_nil k
 have h2 := size_nil v
 unfold record_Check.f rcheck
 simp only [record_Check.j0, h1]
 by_cases hk : k.size = 0
 ·
  rw [if_pos hk, if_pos hk]
 rw [if_neg hk, if_neg hk]
 by_cases hl : k.size > 4096
 ·
  rw [if_pos (by omega), if_pos hl]
 rw [if_neg (by omega), if_neg hl]
 cases d
 ·
  simp only [Bool.false_eq_true, if_false, false_and]
  by_cases hv : v.size > 1048576
  ·
   rw [if_pos (by omega), if_pos hv]
  ·
   rw [if_neg (by omega), if_neg hv]
 ·
  simp only [if_true, true_and]
  by_cases hv : v.size = 0
  ·
   rw [if_neg (by rw [bne_iff_ne, ne_eq, h2]; exact fun h => h hv), if_neg (by omega), if_neg (by omega), if_neg (by omega)]
  ·
   rw [if_pos (by rw [bne_iff_ne, ne_eq, h2]; exact hv), if_pos hv]
def rbody (d : Bool) (s : Int) (k v : ByteArray) : List Int :=
 (if d = true then 3 else 2) :: (venc s.toNat ++ (venc k.size ++ (sby k ++ (if d = true then [] else venc v.size ++ sby v))))
def record_Body.f (a0_0 : Bool) (a0_1 : Int) (a0_2 a0_3 : ByteArray) : Option (List Int × Int) :=
 if 0 ≤ a0_1 ∧ a0_1 < 18446744073709551616 then (if rcheck a0_0 a0_2 a0_3 = 0 then some (rbody a0_0 a0_1 a0_2 a0_3, 0) else some ([], rcheck a0_0 a0_2 a0_3)) else none
theorem record_Body.calls (a0_0 : Bool) (a0_1 : Int) (a0_2 a0_3 : ByteArray) (r0 : List Int) (r1 : Int) (w : World) (h : record_Body.f a0_0 a0_1 a0_2 a0_3 = some (r0, r1)) :
  Calls Try.prog 78 #[.agg #[.bool a0_0, .int .u64 a0_1, .string a0_2, .string a0_3]] w fun e w' => ∃ v0_ : Value, e = .returned (.tuple #[v0_, .int .i64 r1]) ∧ Kd.R (Kd.int .u8) 5 w' w.heap.size (fun _ => True) v0_ r0 ∧ Below w.heap.size w w' := by
 have hu44 := Try.underlying59
 have hS := Aside0.mk (Sep.start w)
 by_cases hU : 0 ≤ a0_1 ∧ a0_1 < 18446744073709551616
 case neg =>
  unfold record_Body.f at h
  rw [if_neg hU] at h
  cases h
 by_cases hck : rcheck a0_0 a0_2 a0_3 = 0
 case neg =>
  obtain ⟨rfl, rfl⟩ : r0 = [] ∧ r1 = rcheck a0_0 a0_2 a0_3 := by
   unfold record_Body.f at h
   rw [if_pos hU, if_neg hck] at h
   cases h
   exact ⟨rfl, rfl⟩
  clear h
  have hb2 : (rcheck a0_0 a0_2 a0_3 != 0) = true := bne_iff_ne.2 hck
  have hb3 : (rcheck a0_0 a0_2 a0_3 == 0) = false := beq_eq_false_iff_ne.2 hck
  have hev := record_Check_ev a0_0 a0_1 a0_2 a0_3
  generalize rcheck a0_0 a0_2 a0_3 = rc at *
  go_enter Try.func78, Try.ntmps78
  go_wp2_with (first | ((with_reducible refine gate_dst (N := 1) rfl ?_); refine Sep.box_event ?hg (N := 1) ?hd (cs := #[.bool a0_0, .int .u64 a0_1, .string a0_2, .string a0_3]) (t := 59) hS.out ?hr ?_; (case hd => rfl); (case hg => rfl); (case hr => first | (go_simp; done) | (go_simp; rfl)); intro g0 wb0 hsb0; have hcb0_0 : wb0.cell? ⟨g0, 0, none⟩ = some (.bool a0_0) := ((hsb0).cell 0).trans rfl; have hcb0_1 : wb0.cell? ⟨g0, 1, none⟩ = some (.int .u64 a0_1) := ((hsb0).cell 1).trans rfl; have hcb0_2 : wb0.cell? ⟨g0, 2, none⟩ = some (.string a0_2) := ((hsb0).cell 2).trans rfl; have hcb0_3 : wb0.cell? ⟨g0, 3, none⟩ = some (.string a0_3) := ((hsb0).cell 3).trans rfl; have hSb0 := Aside0.mk hsb0; clear hsb0) | ((with_reducible refine gate_callee (f := 127) rfl ?_); refine goesL_ (some 8) rfl rfl Try.func127 (by kernel_rfl) rfl #[.agg #[.bool a0_0, .int .u64 a0_1, .string a0_2, .string a0_3]] rfl (by (try simp only [List.map_toArray, List.map_cons, List.map_nil]); first | done | rfl) ?_; (with_reducible refine (record_Check.calls 1 a0_0 a0_1 a0_2 a0_3 _ _ hev).mono ?_); rintro e w1 ⟨rfl, h1⟩; refine ⟨_, rfl, ?_⟩; have hS1 := Aside0.mk (hSb0.out.below h1); clear h1))
  go_ret2
  exact ⟨_, rfl, Kd.R_nil _ _ _ _ _, hS1.out.1⟩
 ·
  obtain ⟨rfl, rfl⟩ : r0 = rbody a0_0 a0_1 a0_2 a0_3 ∧ r1 = 0 := by
   unfold record_Body.f at h
   rw [if_pos hU, if_pos hck] at h
   cases h
   exact ⟨rfl, rfl⟩
  clear h
  have hev := record_Check_ev a0_0 a0_1 a0_2 a0_3
  rw [hck] at hev
  have hks : a0_2.size ≤ 4096 := by
   unfold rcheck at hck
   split at hck
   ·
    omega
   ·
    split at hck <;> omega
  have hvs : a0_3.size ≤ 1048576 := by
   unfold rcheck at hck
   split at hck
   ·
    omega
   ·
    split at hck
    ·
     omega
    ·
     split at hck
     ·
      omega
     ·
      split at hck <;> omega
  have hn := Aside0.mk (show a0_1 = (a0_1.toNat : Int) by omega)
  have hvl : (venc a0_1.toNat).length ≤ 10 := venc_len 10 a0_1.toNat (by omega) (by decide)
  have hkl : (venc a0_2.size).length ≤ 10 := venc_len 10 a0_2.size (by omega) (by decide)
  have hvl2 : (venc a0_3.size).length ≤ 10 := venc_len 10 a0_3.size (by omega) (by decide)
  have hsk := sby_len a0_2
  have hsv := sby_len a0_3
  clear hck
  cases a0_0
  ·
   go_enter Try.func78, Try.ntmps78
   go_wp2_with (first | ((with_reducible refine gate_dst (N := 1) rfl ?_); refine Sep.box_event ?hg (N := 1) ?hd (cs := #[.bool false, .int .u64 a0_1, .string a0_2, .string a0_3]) (t := 59) hS.out ?hr ?_; (case hd => rfl); (case hg => rfl); (case hr => first | (go_simp; done) | (go_simp; rfl)); intro g0 wb0 hsb0; have hcb0_0 : wb0.cell? ⟨g0, 0, none⟩ = some (.bool false) := ((hsb0).cell 0).trans rfl; have hcb0_1 : wb0.cell? ⟨g0, 1, none⟩ = some (.int .u64 a0_1) := ((hsb0).cell 1).trans rfl; have hcb0_2 : wb0.cell? ⟨g0, 2, none⟩ = some (.string a0_2) := ((hsb0).cell 2).trans rfl; have hcb0_3 : wb0.cell? ⟨g0, 3, none⟩ = some (.string a0_3) := ((hsb0).cell 3).trans rfl; have hSb0 := Aside0.mk hsb0; clear hsb0) | ((with_reducible refine gate_callee (f := 127) rfl ?_); refine goesL_ (some 8) rfl rfl Try.func127 (by kernel_rfl) rfl #[.agg #[.bool false, .int .u64 a0_1, .string a0_2, .string a0_3]] rfl (by (try simp only [List.map_toArray, List.map_cons, List.map_nil]); first | done | rfl) ?_; (with_reducible refine (record_Check.calls 1 false a0_1 a0_2 a0_3 _ _ hev).mono ?_); rintro e w1 ⟨rfl, h1⟩; refine ⟨_, rfl, ?_⟩; have hS1 := Aside0.mk ((hSb0.out.below h1).buf_new); have hq := hS1.out; have hc1_0 : (w1.alloc (.cells #[.slice none 0 0] 100 (0, 0))).cell? ⟨g0, 0, none⟩ = some (.bool false) := ((hq.pick1).cell 0).trans rfl; have hc1_1 : (w1.alloc (.cells #[.slice none 0 0] 100 (0, 0))).cell? ⟨g0, 1, none⟩ = some (.int .u64 a0_1) := ((hq.pick1).cell 1).trans rfl; have hc1_2 : (w1.alloc (.cells #[.slice none 0 0] 100 (0, 0))).cell? ⟨g0, 2, none⟩ = some (.string a0_2) := ((hq.pick1).cell 2).trans rfl; have hc1_3 : (w1.alloc (.cells #[.slice none 0 0] 100 (0, 0))).cell? ⟨g0, 3, none⟩ = some (.string a0_3) := ((hq.pick1).cell 3).trans rfl; clear hq h1) | ((with_reducible refine gate_callee (f := 66) rfl ?_); refine goesL_ (some 15) rfl rfl Try.func66 (by kernel_rfl) rfl #[.pointer (some ⟨w1.heap.size, 0, none⟩), .int .u8 2] rfl (by (try simp only [List.map_toArray, List.map_cons, List.map_nil]); first | done | rfl) ?_; (with_reducible refine (buf_Byte w _ w1.heap.size [] _ 2 hS1.out (by decide) (by decide) (by decide)).mono ?_); rintro e w2 ⟨rfl, hq⟩; refine ⟨_, rfl, ?_⟩; have hS2 := Aside0.mk hq; have hc2_0 : w2.cell? ⟨g0, 0, none⟩ = some (.bool false) := ((hq.pick1).cell 0).trans rfl; have hc2_1 : w2.cell? ⟨g0, 1, none⟩ = some (.int .u64 a0_1) := ((hq.pick1).cell 1).trans rfl; have hc2_2 : w2.cell? ⟨g0, 2, none⟩ = some (.string a0_2) := ((hq.pick1).cell 2).trans rfl; have hc2_3 : w2.cell? ⟨g0, 3, none⟩ = some (.string a0_3) := ((hq.pick1).cell 3).trans rfl; clear hq) | ((with_reducible refine gate_callee (f := 67) rfl ?_); refine goesL_ (some 18) rfl rfl Try.func67 (by kernel_rfl) rfl #[.pointer (some ⟨w1.heap.size, 0, none⟩), .int .u64 a0_1] rfl (by (try simp only [List.map_toArray, List.map_cons, List.map_nil]); first | done | rfl) ?_; (with_reducible refine (varint_Put w _ w1.heap.size _ _ a0_1.toNat a0_1 hn.out hS2.out (by omega) (by simp)).mono ?_); rintro e w3 ⟨rfl, hq⟩; refine ⟨_, rfl, ?_⟩; have hS3 := Aside0.mk hq; have hc3_0 : w3.cell? ⟨g0, 0, none⟩ = some (.bool false) := ((hq.pick1).cell 0).trans rfl; have hc3_1 : w3.cell? ⟨g0, 1, none⟩ = some (.int .u64 a0_1) := ((hq.pick1).cell 1).trans rfl; have hc3_2 : w3.cell? ⟨g0, 2, none⟩ = some (.string a0_2) := ((hq.pick1).cell 2).trans rfl; have hc3_3 : w3.cell? ⟨g0, 3, none⟩ = some (.string a0_3) := ((hq.pick1).cell 3).trans rfl; clear hq) | ((with_reducible refine gate_callee (f := 128) rfl ?_); refine goesL_ (some 21) rfl rfl Try.func128 (by kernel_rfl) rfl #[.pointer (some ⟨w1.heap.size, 0, none⟩), .string a0_2] rfl (by (try simp only [List.map_toArray, List.map_cons, List.map_nil]); first | done | rfl) ?_; (with_reducible refine (varint_PutText w _ w1.heap.size _ _ a0_2 hS3.out (by omega) (by simp; omega)).mono ?_); rintro e w4 ⟨rfl, hq⟩; refine ⟨_, rfl, ?_⟩; have hS4 := Aside0.mk hq; have hc4_0 : w4.cell? ⟨g0, 0, none⟩ = some (.bool false) := ((hq.pick1).cell 0).trans rfl; have hc4_1 : w4.cell? ⟨g0, 1, none⟩ = some (.int .u64 a0_1) := ((hq.pick1).cell 1).trans rfl; have hc4_2 : w4.cell? ⟨g0, 2, none⟩ = some (.string a0_2) := ((hq.pick1).cell 2).trans rfl; have hc4_3 : w4.cell? ⟨g0, 3, none⟩ = some (.string a0_3) := ((hq.pick1).cell 3).trans rfl; clear hq) | ((with_reducible refine gate_callee (f := 128) rfl ?_); refine goesL_ (some 27) rfl rfl Try.func128 (by kernel_rfl) rfl #[.pointer (some ⟨w1.heap.size, 0, none⟩), .string a0_3] rfl (by (try simp only [List.map_toArray, List.map_cons, List.map_nil]); first | done | rfl) ?_; (with_reducible refine (varint_PutText w _ w1.heap.size _ _ a0_3 hS4.out (by omega) (by simp; omega)).mono ?_); rintro e w5 ⟨rfl, hq⟩; refine ⟨_, rfl, ?_⟩; have hS5 := Aside0.mk hq; clear hq) | ((with_reducible refine gate_callee (f := 61) rfl ?_); refine goesL_ (some 28) rfl rfl Try.func61 (by kernel_rfl) rfl #[.pointer (some ⟨w1.heap.size, 0, none⟩)] rfl (by (try simp only [List.map_toArray, List.map_cons, List.map_nil]); first | done | rfl) ?_; (with_reducible refine (buf_Bytes w _ w1.heap.size _ _ hS5.out (by simp; omega)).mono ?_); rintro e w6 ⟨v6, rfl, hq⟩; refine ⟨_, rfl, ?_⟩; have hS6 := Aside0.mk hq; clear hq))
   go_ret2
   refine ⟨_, rfl, ?_⟩
   have := hS6.out.row_out
   simpa [rbody] using this
  ·
   go_enter Try.func78, Try.ntmps78
   go_wp2_with (first | ((with_reducible refine gate_dst (N := 1) rfl ?_); refine Sep.box_event ?hg (N := 1) ?hd (cs := #[.bool true, .int .u64 a0_1, .string a0_2, .string a0_3]) (t := 59) hS.out ?hr ?_; (case hd => rfl); (case hg => rfl); (case hr => first | (go_simp; done) | (go_simp; rfl)); intro g0 wb0 hsb0; have hcb0_0 : wb0.cell? ⟨g0, 0, none⟩ = some (.bool true) := ((hsb0).cell 0).trans rfl; have hcb0_1 : wb0.cell? ⟨g0, 1, none⟩ = some (.int .u64 a0_1) := ((hsb0).cell 1).trans rfl; have hcb0_2 : wb0.cell? ⟨g0, 2, none⟩ = some (.string a0_2) := ((hsb0).cell 2).trans rfl; have hcb0_3 : wb0.cell? ⟨g0, 3, none⟩ = some (.string a0_3) := ((hsb0).cell 3).trans rfl; have hSb0 := Aside0.mk hsb0; clear hsb0) | ((with_reducible refine gate_callee (f := 127) rfl ?_); refine goesL_ (some 8) rfl rfl Try.func127 (by kernel_rfl) rfl #[.agg #[.bool true, .int .u64 a0_1, .string a0_2, .string a0_3]] rfl (by (try simp only [List.map_toArray, List.map_cons, List.map_nil]); first | done | rfl) ?_; (with_reducible refine (record_Check.calls 1 true a0_1 a0_2 a0_3 _ _ hev).mono ?_); rintro e w1 ⟨rfl, h1⟩; refine ⟨_, rfl, ?_⟩; have hS1 := Aside0.mk ((hSb0.out.below h1).buf_new); have hq := hS1.out; have hc1_0 : (w1.alloc (.cells #[.slice none 0 0] 100 (0, 0))).cell? ⟨g0, 0, none⟩ = some (.bool true) := ((hq.pick1).cell 0).trans rfl; have hc1_1 : (w1.alloc (.cells #[.slice none 0 0] 100 (0, 0))).cell? ⟨g0, 1, none⟩ = some (.int .u64 a0_1) := ((hq.pick1).cell 1).trans rfl; have hc1_2 : (w1.alloc (.cells #[.slice none 0 0] 100 (0, 0))).cell? ⟨g0, 2, none⟩ = some (.string a0_2) := ((hq.pick1).cell 2).trans rfl; have hc1_3 : (w1.alloc (.cells #[.slice none 0 0] 100 (0, 0))).cell? ⟨g0, 3, none⟩ = some (.string a0_3) := ((hq.pick1).cell 3).trans rfl; clear hq h1) | ((with_reducible refine gate_callee (f := 66) rfl ?_); refine goesL_ (some 15) rfl rfl Try.func66 (by kernel_rfl) rfl #[.pointer (some ⟨w1.heap.size, 0, none⟩), .int .u8 3] rfl (by (try simp only [List.map_toArray, List.map_cons, List.map_nil]); first | done | rfl) ?_; (with_reducible refine (buf_Byte w _ w1.heap.size [] _ 3 hS1.out (by decide) (by decide) (by decide)).mono ?_); rintro e w2 ⟨rfl, hq⟩; refine ⟨_, rfl, ?_⟩; have hS2 := Aside0.mk hq; have hc2_0 : w2.cell? ⟨g0, 0, none⟩ = some (.bool true) := ((hq.pick1).cell 0).trans rfl; have hc2_1 : w2.cell? ⟨g0, 1, none⟩ = some (.int .u64 a0_1) := ((hq.pick1).cell 1).trans rfl; have hc2_2 : w2.cell? ⟨g0, 2, none⟩ = some (.string a0_2) := ((hq.pick1).cell 2).trans rfl; have hc2_3 : w2.cell? ⟨g0, 3, none⟩ = some (.string a0_3) := ((hq.pick1).cell 3).trans rfl; clear hq) | ((with_reducible refine gate_callee (f := 67) rfl ?_); refine goesL_ (some 18) rfl rfl Try.func67 (by kernel_rfl) rfl #[.pointer (some ⟨w1.heap.size, 0, none⟩), .int .u64 a0_1] rfl (by (try simp only [List.map_toArray, List.map_cons, List.map_nil]); first | done | rfl) ?_; (with_reducible refine (varint_Put w _ w1.heap.size _ _ a0_1.toNat a0_1 hn.out hS2.out (by omega) (by simp)).mono ?_); rintro e w3 ⟨rfl, hq⟩; refine ⟨_, rfl, ?_⟩; have hS3 := Aside0.mk hq; have hc3_0 : w3.cell? ⟨g0, 0, none⟩ = some (.bool true) := ((hq.pick1).cell 0).trans rfl; have hc3_1 : w3.cell? ⟨g0, 1, none⟩ = some (.int .u64 a0_1) := ((hq.pick1).cell 1).trans rfl; have hc3_2 : w3.cell? ⟨g0, 2, none⟩ = some (.string a0_2) := ((hq.pick1).cell 2).trans rfl; have hc3_3 : w3.cell? ⟨g0, 3, none⟩ = some (.string a0_3) := ((hq.pick1).cell 3).trans rfl; clear hq) | ((with_reducible refine gate_callee (f := 128) rfl ?_); refine goesL_ (some 21) rfl rfl Try.func128 (by kernel_rfl) rfl #[.pointer (some ⟨w1.heap.size, 0, none⟩), .string a0_2] rfl (by (try simp only [List.map_toArray, List.map_cons, List.map_nil]); first | done | rfl) ?_; (with_reducible refine (varint_PutText w _ w1.heap.size _ _ a0_2 hS3.out (by omega) (by simp; omega)).mono ?_); rintro e w4 ⟨rfl, hq⟩; refine ⟨_, rfl, ?_⟩; have hS4 := Aside0.mk hq; have hc4_0 : w4.cell? ⟨g0, 0, none⟩ = some (.bool true) := ((hq.pick1).cell 0).trans rfl; have hc4_1 : w4.cell? ⟨g0, 1, none⟩ = some (.int .u64 a0_1) := ((hq.pick1).cell 1).trans rfl; have hc4_2 : w4.cell? ⟨g0, 2, none⟩ = some (.string a0_2) := ((hq.pick1).cell 2).trans rfl; have hc4_3 : w4.cell? ⟨g0, 3, none⟩ = some (.string a0_3) := ((hq.pick1).cell 3).trans rfl; clear hq) | ((with_reducible refine gate_callee (f := 61) rfl ?_); refine goesL_ (some 28) rfl rfl Try.func61 (by kernel_rfl) rfl #[.pointer (some ⟨w1.heap.size, 0, none⟩)] rfl (by (try simp only [List.map_toArray, List.map_cons, List.map_nil]); first | done | rfl) ?_; (with_reducible refine (buf_Bytes w _ w1.heap.size _ _ hS4.out (by simp; omega)).mono ?_); rintro e w6 ⟨v6, rfl, hq⟩; refine ⟨_, rfl, ?_⟩; have hS6 := Aside0.mk hq; clear hq))
   go_ret2
   refine ⟨_, rfl, ?_⟩
   have := hS6.out.row_out
   simpa [rbody] using this
end Go.Proofs.Ytekanmieppnpeaa.G
end
section
namespace Go.Proofs.Ytekanmieppnpeaa.Sep
open Go Go.RowKit Go.Proofs.Ytekanmieppnpeaa.G Go.Proofs.YtekanmieppnpeaaW.PrintWords Go.Proofs.YtekanmieppnpeaaW.PrintLast Go.Proofs.YtekanmieppnpeaaW.PrintMore Go.Proofs.Ytekanmieppnpeaa.PureKit
theorem p128 (i : Nat) : (128 : Int) ^ i = ((128 ^ i : Nat) : Int) := by simp
theorem vgo_venc : ∀ (k i y : Nat) (post : List Int) (acc : Int) (a : Nat), i + k = 10 → y * 128 ^ i < 18446744073709551616 → (0 < i → y ≠ 0) →
  vgo k i (venc y ++ post) acc a = .ok (acc + (y : Int) * 128 ^ i) (a + (venc y).length) := by
 intro k
 induction k with
 | zero =>
  intro i y post acc a hi hy h0
  have : i = 10 := by omega
  subst this
  have h10 : 128 ^ 10 = 18446744073709551616 * 64 := by decide
  have := h0 (by decide)
  rw [h10] at hy
  omega
 | succ k ih =>
  intro i y post acc a hi hy h0
  have h9 : i = 9 → y < 2 := by
   intro h
   subst h
   have h9 : 128 ^ 9 = 9223372036854775808 := by decide
   rw [h9] at hy
   omega
  by_cases h : y < 128
  ·
   rw [venc_small h]
   simp only [List.cons_append, List.nil_append, vgo, List.length_cons, List.length_nil]
   rw [if_neg (by omega), if_neg (by omega), if_neg (by omega)]
  ·
   rw [venc_big h]
   simp only [List.cons_append, vgo, List.length_cons]
   have hp : 128 ^ (i + 1) = 128 ^ i * 128 := by rw [Nat.pow_succ]
   have hle : y / 128 * 128 ^ (i + 1) ≤ y * 128 ^ i := by
    rw [hp, Nat.mul_comm (128 ^ i) 128, ← Nat.mul_assoc]
    exact Nat.mul_le_mul_right _ (Nat.div_mul_le_self _ _)
   rw [if_neg (by omega), if_pos (by omega), ih (i + 1) (y / 128) post _ (a + 1) (by omega) (by omega) (by omega)]
   congr 1
   ·
    rw [Int.pow_succ, p128]
    generalize 128 ^ i = P
    have e1 : (y : Int) = ((y % 128 : Nat) : Int) + ((y / 128 : Nat) : Int) * 128 := by omega
    have e2 : ((y % 128 + 128 : Nat) : Int) - 128 = ((y % 128 : Nat) : Int) := by omega
    rw [e2]
    conv => rhs; rw [e1]
    rw [Int.add_mul, Int.mul_comm (P : Int) 128, ← Int.mul_assoc, Int.add_assoc]
   ·
    omega
theorem vget_at {l : List Int} {a x : Nat} {post : List Int} (h : l.drop a = venc x ++ post) (hx : x < 18446744073709551616) : vget l a = .ok (x : Int) (a + (venc x).length) := by
 unfold vget
 rw [h, vgo_venc 10 0 x post 0 a (by decide) (by omega) (by omega)]
 simp
theorem tmod128 (b : Int) (h : 0 ≤ b) : Int.tmod b 128 = b % 128 := Int.tmod_eq_emod_of_nonneg h
theorem value_l0 (l : List Int) (hb : Bytes l) (hl : l.length ≤ 8) : ∀ (j : Nat), j ≤ l.length → Ev (fun k => fascicleref01_Value.l0 k (strOfNums l) (lev (l.drop j)) ((j : Int) - 1)) (lev l) := by
 intro j
 induction j with
 | zero =>
  intro _
  refine Ev.step (f := fun _ => some (lev l)) (fun k => ?_) (Ev.now _)
  simp only [fascicleref01_Value.l0]
  rw [if_neg (by omega)]
  rfl
 | succ j ih =>
  intro hj
  have hj1 : j < l.length := by omega
  refine Ev.step (fun k => ?_) (ih (by omega))
  simp only [fascicleref01_Value.l0]
  have hx := hb _ (List.getElem_mem hj1)
  have hd := List.drop_eq_getElem_cons hj1
  have hbd := lev_bound (l.drop (j + 1)) (hb.drop _)
  have hle : (256 : Int) ^ (l.drop (j + 1)).length ≤ 256 ^ 7 := by
   have := Nat.pow_le_pow_right (show 0 < 256 by decide) (show (l.drop (j + 1)).length ≤ 7 by rw [List.length_drop]; omega)
   exact_mod_cast this
  have h7 : (256 : Int) ^ 7 = 72057594037927936 := by decide
  rw [if_pos (by omega), if_pos (by omega), if_pos (by rw [nums_size]; omega), show (((j + 1 : Nat) : Int) - 1) = (j : Int) by omega, bt_nums l hb j hj1]
  rw [wu64 (x := lev (l.drop (j + 1)) * 256) (by omega) (by omega), wu64 (x := l[j]) (by omega) (by omega), wu64 (by omega) (by omega), w64 (by omega) (by omega), hd]
  congr 1
  show lev (l.drop (j + 1)) * 256 + l[j] = l[j] + 256 * lev (l.drop (j + 1))
  omega
theorem value_f (l : List Int) (hb : Bytes l) (hl : l.length ≤ 8) : Ev (fun k => fascicleref01_Value.f k (strOfNums l)) (lev l) := by
 have := value_l0 l hb hl l.length (Nat.le_refl _)
 refine Ev.congr (fun k => ?_) this
 unfold fascicleref01_Value.f
 rw [nums_size, w64 (by omega) (by omega), List.drop_length]
 rfl
theorem take_none (s : List Int) (at_ n : Int) (hn : n ≤ 0) : Ev (fun k => fascicleref01_Take.f k (strOfNums s) at_ 0 n) (strOfNums s, at_, 0, strOfNums []) := by
 refine Ev.step (f := fun _ => some (strOfNums s, at_, 0, strOfNums [])) (fun k => ?_) (Ev.now _)
 unfold fascicleref01_Take.f
 rw [if_pos rfl, decide_eq_true hn]
 rfl
theorem take_short (s : List Int) (at_ n : Int) (hn : 0 < n) (hs : n > s.length) : Ev (fun k => fascicleref01_Take.f k (strOfNums s) at_ 0 n) (strOfNums s, at_, 2, strOfNums []) := by
 refine Ev.step (f := fun _ => some (strOfNums s, at_, 2, strOfNums [])) (fun k => ?_) (Ev.now _)
 unfold fascicleref01_Take.f
 rw [if_pos rfl, decide_eq_false (by omega)]
 simp only [fascicleref01_Take.j0]
 rw [if_neg (by decide), if_pos (by rw [nums_size]; omega)]
 rfl
theorem take_some (s : List Int) (at_ : Int) (n : Nat) (hn : 0 < n) (hs : n ≤ s.length) (h0 : 0 ≤ at_) (h1 : at_ + n ≤ 1000000000000000) : Ev (fun k => fascicleref01_Take.f k (strOfNums s) at_ 0 n) (strOfNums (s.drop n), at_ + n, 0, strOfNums (s.take n)) := by
 refine Ev.step (f := fun _ => some (strOfNums (s.drop n), at_ + n, 0, strOfNums (s.take n))) (fun k => ?_) (Ev.now _)
 unfold fascicleref01_Take.f
 rw [if_pos rfl, decide_eq_false (by omega)]
 simp only [fascicleref01_Take.j0]
 rw [if_neg (by decide), if_neg (by rw [nums_size]; omega), if_pos (by omega), if_pos (by rw [nums_size]; omega), w64 (by omega) (by omega), nums_size, nums_extract, nums_extract, Int.toNat_natCast, List.take_length, List.drop_zero]
theorem getn_short (s : List Int) (at_ n : Int) (hn : 0 < n) (hs : n > s.length) : Ev (fun k => fascicleref01_Get.f k (strOfNums s) at_ 0 n) (strOfNums s, at_, 2, 0) := by
 unfold fascicleref01_Get.f
 refine Ev.bind (take_short s at_ n hn hs) ?_
 exact Ev.bind (value_f [] Bytes.nil (by decide)) (Ev.now _)
theorem getn_some (s : List Int) (at_ : Int) (n : Nat) (hn : 0 < n) (hn8 : n ≤ 8) (hb : Bytes s) (hs : n ≤ s.length) (h0 : 0 ≤ at_) (h1 : at_ + n ≤ 1000000000000000) : Ev (fun k => fascicleref01_Get.f k (strOfNums s) at_ 0 n) (strOfNums (s.drop n), at_ + n, 0, lev (s.take n)) := by
 unfold fascicleref01_Get.f
 refine Ev.bind (take_some s at_ n hn hs h0 h1) ?_
 exact Ev.bind (value_f (s.take n) (hb.take _) (by rw [List.length_take]; omega)) (Ev.now _)
def refat (l : List Int) (r : Res Int) : ByteArray × Int × Int × Int :=
 match r with
 | .ok x a => (strOfNums (l.drop a), a, 0, x)
 | .bad e a => (strOfNums (l.drop a), a, e, 0)
theorem refget_l0 (l : List Int) (hb : Bytes l) (hl : l.length ≤ 1000000000000) : ∀ (k i : Nat) (a : Nat) (x : Int), i + k = 10 → a ≤ l.length → 0 ≤ x → x < 128 ^ i →
  Ev (fun n => fascicleref02_Get.l0 n x (IntKind.u64.wrap (128 ^ i)) (i : Int) (strOfNums (l.drop a)) (a : Int) 0) (refat l (vgo k i (l.drop a) x a)) := by
 intro k
 induction k with
 | zero =>
  intro i a x hi ha h0 h1
  refine Ev.step (f := fun _ => some (refat l (vgo 0 i (l.drop a) x a))) (fun n => ?_) (Ev.now _)
  simp only [fascicleref02_Get.l0]
  rw [if_neg (by omega)]
  rfl
 | succ k ih =>
  intro i a x hi ha h0 h1
  refine Ev.step (f := ?ff1) (fun n => ?hs1) ?ht1
  case hs1 =>
   simp only [fascicleref02_Get.l0]
   rw [if_pos (by omega)]
   try exact rfl
  by_cases hin : a < l.length
  case neg =>
   rw [List.drop_eq_nil_of_le (by omega)]
   refine Ev.bind (getn_short [] (a : Int) 1 (by decide) (by decide)) ?_
   refine Ev.congr (f := fun _ => some (refat l (.bad 2 a))) (fun n => ?_) (Ev.now _)
   dsimp only
   rw [if_neg (by decide), refat, List.drop_eq_nil_of_le (by omega)]
  have hdr := List.drop_eq_getElem_cons hin
  have hbb := hb _ (List.getElem_mem hin)
  have hget := getn_some (l.drop a) (a : Int) 1 (by decide) (by decide) (hb.drop _) (by rw [List.length_drop]; omega) (by omega) (by omega)
  rw [List.drop_drop] at hget
  have h1t : (l.drop a).take 1 = [l[a]] := by rw [hdr]; rfl
  rw [h1t, show lev [l[a]] = l[a] by simp [lev]] at hget
  have hget : Ev (fun k => fascicleref01_Get.f k (strOfNums (l.drop a)) (a : Int) 0 1) (strOfNums (l.drop (a + 1)), (a : Int) + 1, 0, l[a]) := hget
  refine Ev.bind hget ?_
  clear hget
  rw [hdr]
  generalize l[a] = b at *
  simp only [if_true]
  have h9p : (128 : Int) ^ 9 = 9223372036854775808 := by decide
  unfold vgo
  refine Ev.congr (f := fun n => fascicleref02_Get.j1 n x (IntKind.u64.wrap (128 ^ i)) (i : Int) b (i : Int) (decide (i = 9 ∧ 1 < b)) (strOfNums (l.drop (a + 1))) ((a : Int) + 1) 0) (fun n => ?_) ?_
  ·
   by_cases h9 : i = 9
   ·
    rw [if_pos (by omega)]
    congr 1
    exact decide_eq_decide.2 (by omega)
   ·
    rw [if_neg (by omega), decide_eq_false (by omega)]
  by_cases c1 : i = 9 ∧ 1 < b
  ·
   rw [if_pos c1, decide_eq_true c1]
   refine Ev.step (f := fun _ => some (refat l (.bad 3 (a + 1)))) (fun n => ?_) (Ev.now _)
   simp only [fascicleref02_Get.j1, if_true]
   rfl
  rw [if_neg c1, decide_eq_false c1]
  have hpw : (0 : Int) < 128 ^ i := Int.pow_pos (by decide)
  have hup : i < 9 → (128 : Int) ^ (i + 1) ≤ 128 ^ 9 := fun h => by
   have := Nat.pow_le_pow_right (show 0 < 128 by decide) (show i + 1 ≤ 9 by omega)
   exact_mod_cast this
  have hi9 : (128 : Int) ^ i ≤ 128 ^ 9 := by
   have := Nat.pow_le_pow_right (show 0 < 128 by decide) (show i ≤ 9 by omega)
   exact_mod_cast this
  have hp : (0 : Int) ≤ b % 128 * 128 ^ i := Int.mul_nonneg (by omega) (Int.le_of_lt hpw)
  have hp2 : b % 128 * 128 ^ i ≤ 127 * 128 ^ i := Int.mul_le_mul_of_nonneg_right (by omega) (Int.le_of_lt hpw)
  have hp3 : i = 9 → b % 128 * 128 ^ i ≤ 1 * 128 ^ i := fun h => Int.mul_le_mul_of_nonneg_right (by omega) (Int.le_of_lt hpw)
  rw [pow128] at hup
  have hw1 : IntKind.u64.wrap (128 ^ i) = 128 ^ i := wu64 (by omega) (by omega)
  have hw2 : IntKind.u64.wrap (b % 128 * 128 ^ i) = b % 128 * 128 ^ i := wu64 hp (by omega)
  have hw3 : IntKind.u64.wrap (x + b % 128 * 128 ^ i) = x + b % 128 * 128 ^ i := wu64 (by omega) (by omega)
  rw [hw1]
  refine Ev.step (f := ?ff2) (fun n => ?hs2) ?ht2
  case hs2 =>
   simp only [fascicleref02_Get.j1]
   rw [if_neg (by decide), tmod128 b (by omega), hw2, hw3]
   try exact rfl
  by_cases c2 : 128 ≤ b
  ·
   rw [if_pos c2]
   simp only [ge_iff_le, if_pos c2]
   have := ih (i + 1) (a + 1) (x + (b - 128) * 128 ^ i) (by omega) (by omega) (by rw [show b - 128 = b % 128 by omega]; omega) (by rw [show b - 128 = b % 128 by omega, pow128]; omega)
   refine Ev.congr (fun n => ?_) this
   rw [w64 (by omega) (by omega), show b % 128 = b - 128 by omega, Int.pow_succ]
   rfl
  rw [if_neg c2]
  simp only [ge_iff_le, if_neg c2]
  by_cases c3 : b = 0 ∧ 0 < i
  ·
   rw [if_pos c3]
   refine Ev.congr (f := fun _ => some (refat l (.bad 4 (a + 1)))) (fun n => ?_) (Ev.now _)
   rw [if_pos c3.1, if_pos (by omega)]
   rfl
  rw [if_neg c3]
  refine Ev.congr (f := fun _ => some (refat l (.ok (x + b * 128 ^ i) (a + 1)))) (fun n => ?_) (Ev.now _)
  rw [show b % 128 = b by omega]
  by_cases hb0 : b = 0
  ·
   rw [if_pos hb0, if_neg (by omega)]
   rfl
  ·
   rw [if_neg hb0]
   rfl
theorem refget_f (l : List Int) (a : Nat) (hb : Bytes l) (hl : l.length ≤ 1000000000000) (ha : a ≤ l.length) : Ev (fun n => fascicleref02_Get.f n (strOfNums (l.drop a)) (a : Int) 0) (refat l (vget l a)) := by
 have := refget_l0 l hb hl 10 0 a 0 (by decide) ha (by decide) (by decide)
 exact this
end Go.Proofs.Ytekanmieppnpeaa.Sep
end
section
namespace Go.Proofs.Ytekanmieppnpeaa.Sep
open Go Go.RowKit Go.Proofs.Ytekanmieppnpeaa.G Go.Proofs.YtekanmieppnpeaaW.PrintWords Go.Proofs.YtekanmieppnpeaaW.PrintLast Go.Proofs.YtekanmieppnpeaaW.PrintMore Go.Proofs.Ytekanmieppnpeaa.PureKit
theorem vtext_at {l : List Int} {a lo hi : Nat} {s : ByteArray} {post : List Int} (h : l.drop a = venc s.size ++ (sby s ++ post)) (hlo : lo ≤ s.size) (hhi : s.size ≤ hi) (hs : s.size < 18446744073709551616) : vtext l a lo hi = .ok s (a + (venc s.size).length + s.size) := by
 have hsl := sby_len s
 have hlen := congrArg List.length h
 simp only [List.length_drop, List.length_append, hsl] at hlen
 have hdd : l.drop (a + (venc s.size).length) = sby s ++ post := by
  rw [← List.drop_drop, h, List.drop_left]
 have hne : s.size = 0 ∨ 0 < s.size := by omega
 have hvl : 0 < (venc s.size).length := by
  by_cases h : s.size < 128
  ·
   rw [venc_small h]; simp
  ·
   rw [venc_big h]; simp
 unfold vtext
 rw [vget_at h hs]
 simp only [Int.toNat_natCast]
 rw [if_neg (by omega), if_neg (by omega), if_pos (by omega)]
 have ht : (l.take (a + (venc s.size).length + s.size)).drop (a + (venc s.size).length) = sby s := by
  rw [← List.take_drop, hdd, ← hsl, List.take_left]
 rw [ht, nums_sby]
end Go.Proofs.Ytekanmieppnpeaa.Sep
end
section
namespace Go.Proofs.Ytekanmieppnpeaa.Sep
open Go Go.RowKit Go.Proofs.Ytekanmieppnpeaa.G Go.Proofs.YtekanmieppnpeaaW.PrintWords Go.Proofs.YtekanmieppnpeaaW.PrintLast Go.Proofs.YtekanmieppnpeaaW.PrintMore Go.Proofs.Ytekanmieppnpeaa.PureKit
theorem venc_len10' (x : Nat) (hx : x < 18446744073709551616) : (venc x).length ≤ 10 := venc_len 10 x (Nat.lt_of_lt_of_le hx (by decide)) (by decide)
theorem tmod128n (b : Int) (h : 0 ≤ b) : Int.tmod b 128 = b % 128 := Int.tmod_eq_emod_of_nonneg h
theorem refnum_f : ∀ (d x : Nat), x < 128 ^ d → x < 18446744073709551616 → Ev (fun k => fascicleref02_Num.f k (x : Int)) (strOfNums (venc x)) := by
 intro d
 induction d with
 | zero =>
  intro x hx _
  have : x = 0 := by simpa using hx
  subst this
  refine Ev.step (f := fun _ => some (strOfNums (venc 0))) (fun k => ?_) (Ev.now _)
  simp only [fascicleref02_Num.f]
  rw [if_pos (by decide), venc_small (by decide)]
  rfl
 | succ d ih =>
  intro x hx hx2
  by_cases h : x < 128
  ·
   refine Ev.step (f := fun _ => some (strOfNums (venc x))) (fun k => ?_) (Ev.now _)
   simp only [fascicleref02_Num.f]
   rw [if_pos (by omega), venc_small h, show (x : Int) % 256 = (x : Int) by omega]
  ·
   have hr := ih (x / 128) (by rw [Nat.div_lt_iff_lt_mul (by omega), ← Nat.pow_succ]; exact hx) (by omega)
   have e1 : Int.tmod (x : Int) 128 = ((x % 128 : Nat) : Int) := by rw [tmod128n _ (by omega)]; omega
   have e2 : Int.tdiv (x : Int) 128 = ((x / 128 : Nat) : Int) := by rw [Int.tdiv_eq_ediv_of_nonneg (by omega)]; omega
   have hlen := venc_len10' (x / 128) (by omega)
   refine Ev.step (f := fun k => (fascicleref02_Num.f k ((x / 128 : Nat) : Int)).bind fun t => if (strOfNums [((x % 128 + 128 : Nat) : Int)]).size + t.size ≤ 9223372036854775807 then some (strOfNums [((x % 128 + 128 : Nat) : Int)] ++ t) else none) (fun k => ?_) (Ev.bind hr (Ev.congr (fun _ => ?_) (Ev.now _)))
   ·
    simp only [fascicleref02_Num.f]
    rw [if_neg (by omega), e1, e2, wu64 (x := 128 + ((x % 128 : Nat) : Int)) (by omega) (by omega), wu64 (x := ((x / 128 : Nat) : Int)) (by omega) (by omega), show (128 + ((x % 128 : Nat) : Int)) % 256 = ((x % 128 + 128 : Nat) : Int) by omega]
    rfl
   ·
    rw [if_pos (by rw [nums_size, nums_size]; simp only [List.length_cons, List.length_nil]; omega), PureKit.nums_append, venc_big h]
    rfl
theorem refnum (x : Nat) (hx : x < 18446744073709551616) : Ev (fun k => fascicleref02_Num.f k (x : Int)) (strOfNums (venc x)) := refnum_f 10 x (Nat.lt_of_lt_of_le hx (by decide)) hx
end Go.Proofs.Ytekanmieppnpeaa.Sep
end
section
namespace Go.Proofs.Ytekanmieppnpeaa.Sep
open Go Go.RowKit Go.Proofs.Ytekanmieppnpeaa.G Go.Proofs.YtekanmieppnpeaaW.PrintWords Go.Proofs.YtekanmieppnpeaaW.PrintLast Go.Proofs.YtekanmieppnpeaaW.PrintMore Go.Proofs.Ytekanmieppnpeaa.PureKit
theorem reftext (s : ByteArray) (hs : s.size ≤ 1000000000000) : Ev (fun k => fascicleref02_Text.f k s) (strOfNums (venc s.size ++ sby s)) := by
 have hl := venc_len10' s.size (by omega)
 unfold fascicleref02_Text.f
 rw [wu64 (by omega) (by omega)]
 refine Ev.bind (refnum s.size (by omega)) ?_
 refine Ev.congr (fun _ => ?_) (Ev.now _)
 rw [if_pos (by rw [nums_size]; omega), ← PureKit.nums_append, nums_sby]
def refatT (l : List Int) (r : Res ByteArray) : ByteArray × Int × Int × ByteArray :=
 match r with
 | .ok s a => (strOfNums (l.drop a), a, 0, s)
 | .bad e a => (strOfNums (l.drop a), a, e, strOfNums [])
theorem mx0 (n : Nat) : mx 0 (n : Int) = (n : Int) := by unfold mx; split <;> omega
theorem refget_bad (S : ByteArray) (at_ e : Int) (he : e ≠ 0) : Ev (fun n => fascicleref02_Get.f n S at_ e) (S, at_, e, 0) := by
 have hg : Ev (fun k => fascicleref01_Get.f k S at_ e 1) (S, at_, e, 0) := by
  unfold fascicleref01_Get.f
  refine Ev.bind (a := (S, at_, e, strOfNums [])) ?_ (Ev.bind (value_f [] Bytes.nil (by decide)) (Ev.now _))
  refine Ev.step (f := fun _ => some (S, at_, e, strOfNums [])) (fun k => ?_) (Ev.now _)
  unfold fascicleref01_Take.f
  rw [if_neg he]
  rfl
 unfold fascicleref02_Get.f
 refine Ev.step (f := ?ff1) (fun n => ?hs1) ?ht1
 case hs1 =>
  simp only [fascicleref02_Get.l0]
  rw [if_pos (by decide)]
  try exact rfl
 refine Ev.bind hg ?_
 refine Ev.congr (fun n => ?_) (Ev.now _)
 dsimp only
 rw [if_neg he]
theorem refgett_bad (S : ByteArray) (at_ e lo hi : Int) (he : e ≠ 0) : Ev (fun n => fascicleref02_GetText.f n S at_ e lo hi) (S, at_, e, strOfNums []) := by
 unfold fascicleref02_GetText.f
 refine Ev.bind (refget_bad S at_ e he) ?_
 refine Ev.congr (f := fun n => fascicleref02_GetText.j0 n lo 0 false S at_ e) (fun n => by dsimp only; rw [if_neg he]) ?_
 refine Ev.step (f := fun n => fascicleref02_GetText.j1 n lo 0 S at_ e) (fun n => by simp only [fascicleref02_GetText.j0]; rw [if_neg (by decide)]) ?_
 refine Ev.step (f := fun n => fascicleref02_GetText.j2 n 0 false S at_ e) (fun n => by simp only [fascicleref02_GetText.j1]; rw [if_neg he]) ?_
 refine Ev.step (f := fun n => some (S, at_, e, strOfNums [])) (fun n => ?_) (Ev.now _)
 simp only [fascicleref02_GetText.j2]
 rw [if_neg (by decide), if_neg he]
 rfl
theorem refgett_f (l : List Int) (a lo hi : Nat) (hb : Bytes l) (hl : l.length ≤ 1000000000000) (ha : a ≤ l.length) (hlo : lo ≤ 1000000000) (hhi : hi ≤ 1000000000) : Ev (fun n => fascicleref02_GetText.f n (strOfNums (l.drop a)) (a : Int) 0 (lo : Int) (hi : Int)) (refatT l (vtext l a lo hi)) := by
 have hg := refget_f l a hb hl ha
 unfold fascicleref02_GetText.f vtext
 cases hv : vget l a with
 | bad e a1 =>
  have hg : Ev (fun n => fascicleref02_Get.f n (strOfNums (l.drop a)) (a : Int) 0) (strOfNums (l.drop a1), (a1 : Int), e, 0) := by rw [hv] at hg; exact hg
  have he := (vget_bad hb ha hv).1
  refine Ev.bind hg ?_
  simp only [refatT]
  refine Ev.congr (f := fun n => fascicleref02_GetText.j0 n lo 0 false (strOfNums (l.drop a1)) a1 e) (fun n => by rw [if_neg he]) ?_
  refine Ev.step (f := fun n => fascicleref02_GetText.j1 n lo 0 (strOfNums (l.drop a1)) a1 e) (fun n => by simp only [fascicleref02_GetText.j0]; rw [if_neg (by decide)]) ?_
  refine Ev.step (f := fun n => fascicleref02_GetText.j2 n 0 false (strOfNums (l.drop a1)) a1 e) (fun n => by simp only [fascicleref02_GetText.j1]; rw [if_neg he]) ?_
  refine Ev.step (f := fun n => some (strOfNums (l.drop a1), (a1 : Int), e, strOfNums [])) (fun n => ?_) (Ev.now _)
  simp only [fascicleref02_GetText.j2]
  rw [if_neg (by decide), if_neg he]
  rfl
 | ok n a1 =>
  have hok := vget_ok hb ha hv
  have hg : Ev (fun n => fascicleref02_Get.f n (strOfNums (l.drop a)) (a : Int) 0) (strOfNums (l.drop a1), (a1 : Int), 0, n) := by rw [hv] at hg; exact hg
  refine Ev.bind hg ?_
  dsimp only
  rw [mx0, wu64 (x := (hi : Int)) (by omega) (by omega)]
  refine Ev.congr (f := fun m => fascicleref02_GetText.j0 m lo n (decide (n > (hi : Int))) (strOfNums (l.drop a1)) a1 0) (fun m => by rw [if_pos rfl]) ?_
  by_cases c1 : n > (hi : Int)
  ·
   rw [if_pos c1, decide_eq_true c1]
   refine Ev.step (f := fun m => fascicleref02_GetText.j1 m lo n (strOfNums (l.drop a1)) a1 3) (fun m => by simp only [fascicleref02_GetText.j0, if_true, fascicleref01_Fail.f]; rfl) ?_
   refine Ev.step (f := fun m => fascicleref02_GetText.j2 m n false (strOfNums (l.drop a1)) a1 3) (fun m => by simp only [fascicleref02_GetText.j1]; rw [if_neg (by decide)]) ?_
   refine Ev.step (f := fun m => some (strOfNums (l.drop a1), (a1 : Int), 3, strOfNums [])) (fun m => ?_) (Ev.now _)
   simp only [fascicleref02_GetText.j2]
   rw [if_neg (by decide), if_neg (by decide)]
   rfl
  rw [if_neg c1, decide_eq_false c1]
  refine Ev.step (f := fun m => fascicleref02_GetText.j1 m lo n (strOfNums (l.drop a1)) a1 0) (fun m => by simp only [fascicleref02_GetText.j0]; rw [if_neg (by decide)]) ?_
  refine Ev.step (f := fun m => fascicleref02_GetText.j2 m n (decide (n < (lo : Int))) (strOfNums (l.drop a1)) a1 0) (fun m => by simp only [fascicleref02_GetText.j1]; rw [if_pos trivial, mx0, wu64 (x := (lo : Int)) (by omega) (by omega)]) ?_
  by_cases c2 : n < (lo : Int)
  ·
   rw [if_pos c2, decide_eq_true c2]
   refine Ev.step (f := fun m => some (strOfNums (l.drop a1), (a1 : Int), 4, strOfNums [])) (fun m => ?_) (Ev.now _)
   simp only [fascicleref02_GetText.j2, if_true, fascicleref01_Fail.f, Option.bind_some]
   rw [if_neg (by decide)]
   rfl
  rw [if_neg c2, decide_eq_false c2]
  have hw : wrap64 n = n := w64 (by omega) (by omega)
  refine Ev.step (f := fun m => (fascicleref01_Take.f m (strOfNums (l.drop a1)) a1 0 n).bind fun t => some (t.1, t.2.1, t.2.2.1, t.2.2.2)) (fun m => by simp only [fascicleref02_GetText.j2]; rw [if_neg (by decide), if_pos trivial, hw]) ?_
  by_cases c0 : n = 0
  ·
   subst c0
   rw [if_pos (by simpa using hok.2.2.2)]
   refine Ev.bind (take_none (l.drop a1) a1 0 (by decide)) ?_
   refine Ev.congr (fun m => ?_) (Ev.now _)
   simp [refatT, drop_take_nil]
  have hn : n = (n.toNat : Int) := by omega
  by_cases c3 : a1 + n.toNat ≤ l.length
  ·
   rw [if_pos c3]
   have ht := take_some (l.drop a1) (a1 : Int) n.toNat (by omega) (by rw [List.length_drop]; omega) (by omega) (by omega)
   rw [← hn] at ht
   refine Ev.bind ht ?_
   refine Ev.congr (fun m => ?_) (Ev.now _)
   simp only [refatT]
   rw [List.drop_drop, List.take_drop]
   congr 3
   omega
  ·
   rw [if_neg c3]
   refine Ev.bind (take_short (l.drop a1) (a1 : Int) n (by omega) (by rw [List.length_drop]; omega)) ?_
   exact Ev.now _
end Go.Proofs.Ytekanmieppnpeaa.Sep
end
section
namespace Go.Proofs.Ytekanmieppnpeaa.Sep
open Go Go.RowKit Go.Proofs.Ytekanmieppnpeaa.G Go.Proofs.YtekanmieppnpeaaW.PrintWords Go.Proofs.YtekanmieppnpeaaW.PrintLast Go.Proofs.YtekanmieppnpeaaW.PrintMore Go.Proofs.Ytekanmieppnpeaa.PureKit
theorem refcheck (d : Bool) (s : Int) (k v : ByteArray) : Ev (fun n => fascicleref07_Check.f n d s k v) (rcheck d k v) := by
 refine Ev.step (f := fun _ => some (rcheck d k v)) (fun n => ?_) (Ev.now _)
 unfold fascicleref07_Check.f rcheck
 simp only [fascicleref07_Check.j0]
 by_cases hk : k.size = 0
 ·
  rw [if_pos (by omega), if_pos hk]
 rw [if_neg (by omega), if_neg hk]
 by_cases hl : k.size > 4096
 ·
  rw [if_pos (by omega), if_pos hl]
 rw [if_neg (by omega), if_neg hl]
 cases d
 ·
  simp only [Bool.false_eq_true, if_false, false_and]
  by_cases hv : v.size > 1048576
  ·
   rw [if_pos (by omega), if_pos hv]
  ·
   rw [if_neg (by omega), if_neg hv]
 ·
  simp only [if_true, true_and]
  by_cases hv : v.size = 0
  ·
   rw [if_neg (by rw [decide_eq_true_eq]; omega), if_neg (by omega), if_neg (by omega), if_neg (by omega)]
  ·
   rw [if_pos (by rw [decide_eq_true_eq]; omega), if_pos hv]
theorem rcheck_ok {d : Bool} {k v : ByteArray} (h : rcheck d k v = 0) : 1 ≤ k.size ∧ k.size ≤ 4096 ∧ (d = true → v.size = 0) ∧ v.size ≤ 1048576 := by
 unfold rcheck at h
 split at h
 ·
  omega
 split at h
 ·
  omega
 split at h
 ·
  omega
 rename_i h3
 split at h
 ·
  omega
 refine ⟨by omega, by omega, fun hd => ?_, by omega⟩
 by_cases hv : v.size = 0
 ·
  exact hv
 ·
  exact absurd ⟨hd, hv⟩ h3
theorem size0 {v : ByteArray} (h : v.size = 0) : v = ⟨#[]⟩ := by
 apply ByteArray.ext
 exact Array.eq_empty_of_size_eq_zero h
theorem refbody (d : Bool) (s : Int) (k v : ByteArray) (h0 : 0 ≤ s) (h1 : s < 18446744073709551616) (hk : k.size ≤ 1000000000) (hv : v.size ≤ 1000000000) : Ev (fun n => fascicleref07_Body.f n d s k v) (strOfNums (rbody d s k v)) := by
 have hn := refnum s.toNat (by omega)
 rw [show ((s.toNat : Nat) : Int) = s by omega] at hn
 have hsl := venc_len10' s.toNat (by omega)
 have hkl := venc_len10' k.size (by omega)
 have hvl := venc_len10' v.size (by omega)
 have hsk := sby_len k
 have hsv := sby_len v
 have e3 : (⟨#[3]⟩ : ByteArray) = strOfNums [3] := rfl
 have e2 : (⟨#[2]⟩ : ByteArray) = strOfNums [2] := rfl
 unfold fascicleref07_Body.f rbody
 cases d
 ·
  simp only [Bool.false_eq_true, if_false]
  refine Ev.bind hn ?_
  refine Ev.congr (f := ?ff1) (fun n => ?hs1) ?ht1
  case hs1 =>
   rw [if_pos (by rw [nums_size]; omega)]
   try exact rfl
  refine Ev.bind (reftext k (by omega)) ?_
  refine Ev.congr (f := ?ff2) (fun n => ?hs2) ?ht2
  case hs2 =>
   rw [e2, PureKit.nums_append, nums_size, nums_size, if_pos (by simp; omega)]
   try exact rfl
  refine Ev.bind (reftext v (by omega)) ?_
  refine Ev.congr (fun n => ?_) (Ev.now _)
  rw [PureKit.nums_append, nums_size, nums_size, if_pos (by simp; omega), PureKit.nums_append]
  congr 2
  simp
 ·
  simp only [if_true]
  refine Ev.bind hn ?_
  refine Ev.congr (f := ?ff3) (fun n => ?hs3) ?ht3
  case hs3 =>
   rw [if_pos (by rw [nums_size]; omega)]
   try exact rfl
  refine Ev.bind (reftext k (by omega)) ?_
  refine Ev.congr (fun n => ?_) (Ev.now _)
  rw [e3, PureKit.nums_append, nums_size, nums_size, if_pos (by simp; omega), PureKit.nums_append]
  congr 2
  simp
theorem rbody_bytes (d : Bool) (s : Int) (k v : ByteArray) : Bytes (rbody d s k v) := by
 have hv : ∀ x, Bytes (venc x) := fun x => by
  induction x using Nat.strongRecOn with
  | _ x ih =>
  by_cases h : x < 128
  ·
   rw [venc_small h]; exact Bytes.cons (by omega) Bytes.nil
  ·
   rw [venc_big h]; exact Bytes.cons (by omega) (ih (x / 128) (by omega))
 unfold rbody
 refine Bytes.cons (by split <;> omega) ((hv _).append ((hv _).append ((sby_bytes _).append ?_)))
 split
 ·
  exact Bytes.nil
 ·
  exact (hv _).append (sby_bytes _)
theorem rread_rbody (d : Bool) (s : Int) (k v : ByteArray) (h0 : 0 ≤ s) (h1 : s < 18446744073709551616) (hc : rcheck d k v = 0) : rread (rbody d s k v) = .ok (d, s, k, v) (rbody d s k v).length := by
 obtain ⟨hk1, hk2, hd, hv⟩ := rcheck_ok hc
 have hsk := sby_len k
 have hsv := sby_len v
 generalize hl : rbody d s k v = l
 have hl' := hl
 unfold rbody at hl
 have hd1 : l.drop 1 = venc s.toNat ++ (venc k.size ++ (sby k ++ (if d = true then [] else venc v.size ++ sby v))) := by rw [← hl]; rfl
 have hlen := congrArg List.length hl
 simp only [List.length_cons, List.length_append, hsk] at hlen
 have hg1 := vget_at (a := 1) hd1 (by omega)
 rw [show ((s.toNat : Nat) : Int) = s by omega] at hg1
 have hd2 : l.drop (1 + (venc s.toNat).length) = venc k.size ++ (sby k ++ (if d = true then [] else venc v.size ++ sby v)) := by
  rw [← List.drop_drop, hd1, List.drop_left]
 have hg2 := vtext_at (lo := 1) (hi := 4096) hd2 hk1 hk2 (by omega)
 have hd3 : l.drop (1 + (venc s.toNat).length + (venc k.size).length + k.size) = if d = true then [] else venc v.size ++ sby v := by
  rw [← List.drop_drop, ← List.drop_drop, hd2, List.drop_left, ← hsk, List.drop_left]
 rw [← hl]
 simp only [rread]
 rw [hl, if_neg (by split <;> omega), hg1]
 simp only []
 rw [hg2]
 simp only []
 cases d
 ·
  simp only [Bool.false_eq_true, if_false, List.length_append, hsv] at hlen hd3 ⊢
  rw [show ((2 : Int) == 3) = false from rfl, rread1, if_neg (by decide)]
  have hg3 := vtext_at (lo := 0) (hi := 1048576) (post := []) (by rw [List.append_nil]; exact hd3) (Nat.zero_le _) hv (by omega)
  rw [hg3]
  simp only []
  rw [rread2, if_neg (by omega)]
  congr 1
  omega
 ·
  simp only [if_true, List.length_nil] at hlen ⊢
  have hv0 := size0 (hd rfl)
  subst hv0
  rw [show ((3 : Int) == 3) = true from rfl, rread1, if_pos rfl, rread2, if_neg (by omega)]
  congr 1
  omega
end Go.Proofs.Ytekanmieppnpeaa.Sep
end
section
namespace Go.Proofs.Ytekanmieppnpeaa.G
open Go Go.RowKit Go.Proofs.YtekanmieppnpeaaW.PrintWords Go.Proofs.YtekanmieppnpeaaW.PrintLast Go.Proofs.YtekanmieppnpeaaW.PrintMore Go.Proofs.Ytekanmieppnpeaa.PureKit Go.Proofs.Ytekanmieppnpeaa.Sep Go.Proofs.Ytekanmieppnpeaa.Rol Go.Proofs.Ytekanmieppnpeaa.LCobs
theorem rbody_len (d : Bool) (s : Int) (k v : ByteArray) (hs : 0 ≤ s) (hs2 : s < 18446744073709551616) (hk : k.size ≤ 10000) (hv : v.size ≤ 10000) : (rbody d s k v).length ≤ 20100 := by
 unfold rbody
 have h1 := venc_len 10 s.toNat (Nat.lt_of_lt_of_le (show s.toNat < 18446744073709551616 by omega) (by decide)) (by decide)
 have h2 := venc_len 10 k.size (Nat.lt_of_lt_of_le (show k.size < 18446744073709551616 by omega) (by decide)) (by decide)
 have h3 := venc_len 10 v.size (Nat.lt_of_lt_of_le (show v.size < 18446744073709551616 by omega) (by decide)) (by decide)
 have h4 := sby_len k
 have h5 := sby_len v
 split <;> simp <;> omega
def frame_PutRecord.f (a0_0 : Bool) (a0_1 : Int) (a0_2 a0_3 : ByteArray) : Option (List Int × Int) :=
 if 0 ≤ a0_1 ∧ a0_1 < 18446744073709551616 ∧ a0_2.size ≤ 10000 ∧ a0_3.size ≤ 10000 then (if rcheck a0_0 a0_2 a0_3 = 0 then some (sealed (rbody a0_0 a0_1 a0_2 a0_3) ++ [0], 0) else some ([], rcheck a0_0 a0_2 a0_3)) else none
theorem frame_PutRecord.calls (a0_0 : Bool) (a0_1 : Int) (a0_2 a0_3 : ByteArray) (r0 : List Int) (r1 : Int) (w : World) (h : frame_PutRecord.f a0_0 a0_1 a0_2 a0_3 = some (r0, r1)) :
  Calls Try.prog 30 #[.agg #[.bool a0_0, .int .u64 a0_1, .string a0_2, .string a0_3]] w fun e w' => ∃ v0_ : Value, e = .returned (.tuple #[v0_, .int .i64 r1]) ∧ Kd.R (Kd.int .u8) 5 w' w.heap.size (fun _ => True) v0_ r0 ∧ Below w.heap.size w w' := by
 have hu44 := Try.underlying59
 unfold frame_PutRecord.f at h
 split at h
 case isFalse => cases h
 rename_i hin
 obtain ⟨h0, h1, h2, h3⟩ := hin
 have hbd : record_Body.f a0_0 a0_1 a0_2 a0_3 = if rcheck a0_0 a0_2 a0_3 = 0 then some (rbody a0_0 a0_1 a0_2 a0_3, 0) else some ([], rcheck a0_0 a0_2 a0_3) := by
  unfold record_Body.f
  rw [if_pos ⟨h0, h1⟩]
 have hbyA := Aside0.mk (rbody_bytes a0_0 a0_1 a0_2 a0_3)
 have hlnA := Aside0.mk (rbody_len a0_0 a0_1 a0_2 a0_3 h0 h1 h2 h3)
 clear h0 h1 h2 h3
 by_cases hc : rcheck a0_0 a0_2 a0_3 = 0
 ·
  rw [if_pos hc] at h hbd
  obtain ⟨rfl, rfl⟩ : sealed (rbody a0_0 a0_1 a0_2 a0_3) ++ [0] = r0 ∧ (0 : Int) = r1 := by cases h; exact ⟨rfl, rfl⟩
  obtain ⟨B, hB⟩ : ∃ B, rbody a0_0 a0_1 a0_2 a0_3 = B := ⟨_, rfl⟩
  rw [hB] at hbd hbyA hlnA ⊢
  have hbd := Aside0.mk hbd
  clear h hc hB
  have hS := Aside0.mk (Sep.start w)
  go_enter Try.func30, Try.ntmps30
  go_wp2_with (fail)
  have hS1 := Aside0.mk (hS.out.alloc #[.bool a0_0, .int .u64 a0_1, .string a0_2, .string a0_3] 59)
  refine (record_Body.calls a0_0 a0_1 a0_2 a0_3 _ _ _ hbd.out).mono ?_
  rintro e w1 ⟨v1, rfl, ho1, hb1⟩
  obtain ⟨A1, c1, rfl⟩ := Kd.R_slice ho1
  have hr1 := Aside0.mk (Kd.R_reads' ho1)
  have hS2 := Aside0.mk (Sep.row_new hS1.out hb1 ho1)
  clear ho1 hb1
  go_wp2_with (fail)
  refine (frame_seal _ A1 c1 _ B rfl hr1.out.2.2 hr1.out.2.1 hbyA.out (by have := hlnA.out; omega)).mono ?_
  rintro e w2 ⟨v2, rfl, ho2, hb2⟩
  have hS3 := Aside0.mk (Sep.row_new hS2.out hb2 ho2)
  clear ho2 hb2
  go_wp2_with (fail)
  go_ret2
  obtain ⟨g1, g2⟩ := hS3.out.row_out
  exact ⟨_, rfl, g1, g2⟩
 ·
  rw [if_neg hc] at h hbd
  obtain ⟨rfl, rfl⟩ : [] = r0 ∧ rcheck a0_0 a0_2 a0_3 = r1 := by cases h; exact ⟨rfl, rfl⟩
  obtain ⟨E, hE⟩ : ∃ E, rcheck a0_0 a0_2 a0_3 = E := ⟨_, rfl⟩
  rw [hE] at hc hbd ⊢
  have hbd := Aside0.mk hbd
  have e1 : (E != 0) = true := bne_iff_ne.2 hc
  clear h hc hE
  have hS := Aside0.mk (Sep.start w)
  go_enter Try.func30, Try.ntmps30
  go_wp2_with (fail)
  have hS1 := Aside0.mk (hS.out.alloc #[.bool a0_0, .int .u64 a0_1, .string a0_2, .string a0_3] 59)
  refine (record_Body.calls a0_0 a0_1 a0_2 a0_3 _ _ _ hbd.out).mono ?_
  rintro e w1 ⟨v1, rfl, ho1, hb1⟩
  obtain ⟨A1, c1, rfl⟩ := Kd.R_slice ho1
  have hS2 := Aside0.mk (Sep.row_new hS1.out hb1 ho1)
  clear ho1 hb1
  go_wp2_with (fail)
  go_ret2
  exact ⟨_, rfl, Kd.R_nil _ _ _ _ _, hS2.out.1⟩
end Go.Proofs.Ytekanmieppnpeaa.G
end
section
namespace Go.Proofs.Ytekanmieppnpeaa.G
open Go.RowKit Go.Proofs.YtekanmieppnpeaaW.PrintWords Go.Proofs.YtekanmieppnpeaaW.PrintLast Go.Proofs.YtekanmieppnpeaaW.PrintMore
attribute [local go_sem] max2_int min2_int max_two min_two max_three min_three max_four min_four   -- for this text's walks alone
attribute [local go_sem high] eqA59
mutual
def fasciclelaw09_FrameRecords.j0 : Nat → List Int → Bool → Bool → Int → ByteArray → ByteArray → Option (Bool)
 | 0, _, _, _, _, _, _ => none
 | k + 1, x1, x25, x309000, x309001, x309002, x309003 => if x25 = true then ((fasciclelaw09_lives.f).bind fun t314 => (some t314)) else ((frame_PutRecord.f x309000 x309001 x309002 x309003).bind fun bt315 => ((fascicleref07_Check.f k x309000 x309001 x309002 x309003).bind fun t319 => (if bt315.2 = t319 then (if bt315.2 = 0 then (if 0 ≤ (mx 0 (wrap64 ((bt315.1.length : Int) - 1))) then (if (mx 0 (wrap64 ((bt315.1.length : Int) - 1))) ≤ (bt315.1.length : Int) then ((frame_GetRecord.f (bt315.1.take ((mx 0 (wrap64 ((bt315.1.length : Int) - 1))) : Int).toNat)).bind fun bt324 => ((fascicleref09_Record.f k x309000 x309001 x309002 x309003).bind fun t330 => (if (strOfNums bt315.1).toList = t330.toList then (if bt324.2.2.2.2 = 0 then (fasciclelaw09_FrameRecords.j1 k x1 bt315.1 bt315.2 (!(bt324.1 == x309000) || (!(bt324.2.1 == x309001) || (!(bt324.2.2.1.toList == x309002.toList) || (!(bt324.2.2.2.1.toList == x309003.toList)))))) else (fasciclelaw09_FrameRecords.j1 k x1 bt315.1 bt315.2 true)) else (fasciclelaw09_FrameRecords.j1 k x1 bt315.1 bt315.2 true)))) else (none)) else (none)) else ((frame_GetRecord.f x1).bind fun bt343 => ((fascicleref09_GetRecord.f k (strOfNums x1)).bind fun bt349 => (if (bt343.1 == bt349.1 && (bt343.2.1 == bt349.2.1 && (bt343.2.2.1.toList == bt349.2.2.1.toList && (bt343.2.2.2.1.toList == bt349.2.2.2.1.toList)))) = true then (if bt343.2.2.2.2 = bt349.2.2.2.2 then (some ((bt315.1.length : Int) == 0)) else (some false)) else (some false))))) else (some false))))
def fasciclelaw09_FrameRecords.j1 : Nat → List Int → List Int → Int → Bool → Option (Bool)
 | 0, _, _, _, _ => none
 | k + 1, x1, x5, x6, x61 => if x61 = true then (some false) else ((frame_GetRecord.f x1).bind fun bt331 => ((fascicleref09_GetRecord.f k (strOfNums x1)).bind fun bt337 => (if (bt331.1 == bt337.1 && (bt331.2.1 == bt337.2.1 && (bt331.2.2.1.toList == bt337.2.2.1.toList && (bt331.2.2.2.1.toList == bt337.2.2.2.1.toList)))) = true then (if bt331.2.2.2.2 = bt337.2.2.2.2 then (if x6 = 0 then (some true) else (some ((x5.length : Int) == 0))) else (some false)) else (some false))))
end
def fasciclelaw09_FrameRecords.f (k : Nat) (a0_0 : Bool) (a0_1 : Int) (a0_2 : ByteArray) (a0_3 : ByteArray) (l1 : List Int) : Option (Bool) := (fasciclelaw09_lives.f).bind fun t309 => (if t309 = true then ((fasciclelaw07_Few.f k (([(⟨a0_0, a0_1, a0_2, a0_3⟩ : S59)] : List (S59))) 1 600).bind fun t313 => (if t313 = true then (fasciclelaw09_FrameRecords.j0 k l1 (decide ((l1.length : Int) > 600)) a0_0 a0_1 a0_2 a0_3) else (fasciclelaw09_FrameRecords.j0 k l1 true a0_0 a0_1 a0_2 a0_3))) else (fasciclelaw09_FrameRecords.j0 k l1 true a0_0 a0_1 a0_2 a0_3))
theorem fasciclelaw09_FrameRecords.mono_l : ∀ k, (∀ y0 y1 y2 y3 y4 y5, LeO (fasciclelaw09_FrameRecords.j0 k y0 y1 y2 y3 y4 y5) (fasciclelaw09_FrameRecords.j0 (k + 1) y0 y1 y2 y3 y4 y5)) ∧ (∀ y0 y1 y2 y3, LeO (fasciclelaw09_FrameRecords.j1 k y0 y1 y2 y3) (fasciclelaw09_FrameRecords.j1 (k + 1) y0 y1 y2 y3))
 | 0 => ⟨fun _ _ _ _ _ _ r h => by simp [fasciclelaw09_FrameRecords.j0] at h, fun _ _ _ _ r h => by simp [fasciclelaw09_FrameRecords.j1] at h⟩
 | k + 1 => by
  obtain ⟨ih0, ih1⟩ := fasciclelaw09_FrameRecords.mono_l k
  refine ⟨?_, ?_⟩
  ·
   intro y0 y1 y2 y3 y4 y5
   unfold fasciclelaw09_FrameRecords.j0
   repeat' first
   | (with_reducible exact ih0 _ _ _ _ _ _)
   | (with_reducible exact ih1 _ _ _ _)
   | (with_reducible exact fasciclelaw07_Few.mono _ _ _ _)
   | (with_reducible exact fascicleref07_Check.mono _ _ _ _ _)
   | (with_reducible exact fascicleref09_GetRecord.mono _ _)
   | (with_reducible exact fascicleref09_Record.mono _ _ _ _ _)
   | (with_reducible exact LeO.refl _)
   | (with_reducible exact LeO.none _)
   | (with_reducible refine LeO.ite ?_ ?_)
   | (with_reducible refine LeO.bind ?_ (fun _ => ?_))
   | exact ih0 _ _ _ _ _ _
   | exact ih1 _ _ _ _
   | exact fasciclelaw07_Few.mono _ _ _ _
   | exact fascicleref07_Check.mono _ _ _ _ _
   | exact fascicleref09_GetRecord.mono _ _
   | exact fascicleref09_Record.mono _ _ _ _ _
   | exact LeO.none _
   | refine LeO.ite ?_ ?_
   | refine LeO.bind ?_ (fun _ => ?_)
  ·
   intro y0 y1 y2 y3
   unfold fasciclelaw09_FrameRecords.j1
   repeat' first
   | (with_reducible exact ih0 _ _ _ _ _ _)
   | (with_reducible exact ih1 _ _ _ _)
   | (with_reducible exact fasciclelaw07_Few.mono _ _ _ _)
   | (with_reducible exact fascicleref07_Check.mono _ _ _ _ _)
   | (with_reducible exact fascicleref09_GetRecord.mono _ _)
   | (with_reducible exact fascicleref09_Record.mono _ _ _ _ _)
   | (with_reducible exact LeO.refl _)
   | (with_reducible exact LeO.none _)
   | (with_reducible refine LeO.ite ?_ ?_)
   | (with_reducible refine LeO.bind ?_ (fun _ => ?_))
   | exact ih0 _ _ _ _ _ _
   | exact ih1 _ _ _ _
   | exact fasciclelaw07_Few.mono _ _ _ _
   | exact fascicleref07_Check.mono _ _ _ _ _
   | exact fascicleref09_GetRecord.mono _ _
   | exact fascicleref09_Record.mono _ _ _ _ _
   | exact LeO.none _
   | refine LeO.ite ?_ ?_
   | refine LeO.bind ?_ (fun _ => ?_)
theorem fasciclelaw09_FrameRecords.mono : ∀ a0 a1 a2 a3 a4 k, LeO (fasciclelaw09_FrameRecords.f k a0 a1 a2 a3 a4) (fasciclelaw09_FrameRecords.f (k + 1) a0 a1 a2 a3 a4) := by
 intro a0 a1 a2 a3 a4 k
 obtain ⟨ih0, ih1⟩ := fasciclelaw09_FrameRecords.mono_l k
 unfold fasciclelaw09_FrameRecords.f
 repeat' first
   | (with_reducible exact ih0 _ _ _ _ _ _)
   | (with_reducible exact ih1 _ _ _ _)
   | (with_reducible exact fasciclelaw07_Few.mono _ _ _ _)
   | (with_reducible exact fascicleref07_Check.mono _ _ _ _ _)
   | (with_reducible exact fascicleref09_GetRecord.mono _ _)
   | (with_reducible exact fascicleref09_Record.mono _ _ _ _ _)
   | (with_reducible exact LeO.refl _)
   | (with_reducible exact LeO.none _)
   | (with_reducible refine LeO.ite ?_ ?_)
   | (with_reducible refine LeO.bind ?_ (fun _ => ?_))
   | exact ih0 _ _ _ _ _ _
   | exact ih1 _ _ _ _
   | exact fasciclelaw07_Few.mono _ _ _ _
   | exact fascicleref07_Check.mono _ _ _ _ _
   | exact fascicleref09_GetRecord.mono _ _
   | exact fascicleref09_Record.mono _ _ _ _ _
   | exact LeO.none _
   | refine LeO.ite ?_ ?_
   | refine LeO.bind ?_ (fun _ => ?_)
def fasciclelaw09_FrameRecords.T8 : Bool × List (List Nat × List Nat) := (true, [([], []), ([0], [0]), ([], []), ([2], [2]), ([1, 3], [1, 3]), ([4, 3], [4]), ([5], [5]), ([6, 5], [5, 6]), ([5, 7], [5, 7]), ([8, 5], [8]), ([9], [9]), ([9], [9]), ([10, 11, 9], [9, 10, 11]), ([9, 12], [9, 12])])
def fasciclelaw09_FrameRecords.B8 : List Nat := [0, 1, 0, 4, 15, 31, 63, 127, 255, 511, 1023, 1023, 4095, 8191]
theorem fasciclelaw09_FrameRecords.tab8 : rtab .any (opsOf Try.f9 8) = fasciclelaw09_FrameRecords.T8 := by kernel_rfl
theorem fasciclelaw09_FrameRecords.bits8 : waitsOk fasciclelaw09_FrameRecords.T8.2 fasciclelaw09_FrameRecords.B8 = true := by kernel_rfl
theorem fasciclelaw09_FrameRecords.calls (k : Nat) (a0_0 : Bool) (a0_1 : Int) (a0_2 : ByteArray) (a0_3 : ByteArray) (A1 : Option Addr) (c1 : Nat) (l1 : List Int) (r : Bool) (w : World) (hr1 : Kd.C (Kd.int .u8) w A1 l1.length l1) (hc1 : l1.length ≤ c1) (h : fasciclelaw09_FrameRecords.f k a0_0 a0_1 a0_2 a0_3 l1 = some r) :
  Calls Try.prog 9 #[.agg #[.bool a0_0, .int .u64 a0_1, .string a0_2, .string a0_3], .slice A1 l1.length c1] w fun e w' => e = .returned (.bool r) ∧ Below w.heap.size w w' := by
 have hu59 := Try.underlying59
 have HR1 := Aside0.mk hr1
 have HC1 := Aside0.mk hc1
 clear hr1 hc1
 have HB := Aside0.mk (Below.refl w.heap.size w)
 have H : ((fasciclelaw09_lives.f).bind fun t309 => (if t309 = true then ((fasciclelaw07_Few.f k (([(⟨a0_0, a0_1, a0_2, a0_3⟩ : S59)] : List (S59))) 1 600).bind fun t313 => (if t313 = true then (fasciclelaw09_FrameRecords.j0 k l1 (decide ((l1.length : Int) > 600)) a0_0 a0_1 a0_2 a0_3) else (fasciclelaw09_FrameRecords.j0 k l1 true a0_0 a0_1 a0_2 a0_3))) else (fasciclelaw09_FrameRecords.j0 k l1 true a0_0 a0_1 a0_2 a0_3))) = some r := h
 clear h
 have HC3 := Aside0.mk H
 clear H
 go_enter Try.func9, Try.ntmps9
 go_upto_region 1 with (first | ((with_reducible refine gate_dst (N := 2) rfl ?_); (try (refine gate_guard (by rfl) ?_; dsimp only)); refine box_event ?hg (N := 2) ?hd (cs := #[.bool a0_0, .int .u64 a0_1, .string a0_2, .string a0_3]) (t := 59) ?hr ?_; (case hd => rfl); (case hg => rfl); (case hr => first | (go_simp; done) | (go_simp; rfl)); intro gb308 hg w4 hbox hb; have n0_ := Aside0.mk (below_step (by repeat with_reducible first | exact HB.out | apply below_alloc | apply pw_below_drewN | apply below_drew1) hb); have n1_ := Aside0.mk (hbox); have n2_ := Aside0.mk ((by rw [hg]; exact (below_size (by repeat with_reducible first | exact HB.out | apply below_alloc | apply pw_below_drewN | apply below_drew1)) : w.heap.size ≤ gb308)); have n3_ := Aside0.mk ((by rw [hg]; exact (below_size (by repeat with_reducible first | exact HB.out | apply below_alloc | apply pw_below_drewN | apply below_drew1)) : w.heap.size ≤ gb308)); clear HB; have HB := n0_; have BK308 := n1_; have GW308 := n2_; have GE308 := n3_; clear n0_ n1_ n2_ n3_; clear hb hbox hg))
 (try simp only [Act.put, sA, sB, sC])
 go_cut [25] (fun v25 wc => ∃ (kq : Nat) (x25_2 : Bool), v25 = .bool x25_2 ∧ Aside0 (fasciclelaw09_FrameRecords.j0 kq l1 x25_2 a0_0 a0_1 a0_2 a0_3 = some r) ∧ Aside0 (kq ≤ k) ∧ Aside0 (wc.heap[gb308]? = some (.cells #[.bool a0_0, .int .u64 a0_1, .string a0_2, .string a0_3] 59 (0, 0))) ∧ Aside0 (Below w.heap.size w wc))
 case first =>
  have H := HC3.out
  clear HC3
  replace H := Option.bind_eq_some_iff.mp H
  obtain ⟨t309, A50, H⟩ := H
  replace H : (if t309 = true then ((fasciclelaw07_Few.f k (([(⟨a0_0, a0_1, a0_2, a0_3⟩ : S59)] : List (S59))) 1 600).bind fun t313 => (if t313 = true then (fasciclelaw09_FrameRecords.j0 k l1 (decide ((l1.length : Int) > 600)) a0_0 a0_1 a0_2 a0_3) else (fasciclelaw09_FrameRecords.j0 k l1 true a0_0 a0_1 a0_2 a0_3))) else (fasciclelaw09_FrameRecords.j0 k l1 true a0_0 a0_1 a0_2 a0_3)) = some r := H
  have A5 := Aside0.mk A50
  clear A50
  by_cases c6 : t309 = true
  ·
   subst c6
   have H1 : ((fasciclelaw07_Few.f k (([(⟨a0_0, a0_1, a0_2, a0_3⟩ : S59)] : List (S59))) 1 600).bind fun t313 => (if t313 = true then (fasciclelaw09_FrameRecords.j0 k l1 (decide ((l1.length : Int) > 600)) a0_0 a0_1 a0_2 a0_3) else (fasciclelaw09_FrameRecords.j0 k l1 true a0_0 a0_1 a0_2 a0_3))) = some r := by rw [if_pos rfl] at H; exact H
   replace H := H1; clear H1
   obtain ⟨y310, hy310⟩ : ∃ y_ : List (S59), y_ = (([(⟨a0_0, a0_1, a0_2, a0_3⟩ : S59)] : List (S59))) := ⟨_, rfl⟩
   replace H : ((fasciclelaw07_Few.f k y310 1 600).bind fun t313 => (if t313 = true then (fasciclelaw09_FrameRecords.j0 k l1 (decide ((l1.length : Int) > 600)) a0_0 a0_1 a0_2 a0_3) else (fasciclelaw09_FrameRecords.j0 k l1 true a0_0 a0_1 a0_2 a0_3))) = some r := by first | (rw [hy310]; with_reducible exact H) | (have H2_ := (Option.bind_some _ _).symm.trans H; rw [hy310]; with_reducible exact H2_) | (have H2_ := (Option.bind_some _ _).symm.trans H; with_reducible exact H2_) | with_reducible exact H | (rw [hy310]; exact H) | exact H
   have Ny310 := Aside0.mk hy310
   clear hy310
   replace H := Option.bind_eq_some_iff.mp H
   obtain ⟨t313, A70, H⟩ := H
   replace H : (if t313 = true then (fasciclelaw09_FrameRecords.j0 k l1 (decide ((l1.length : Int) > 600)) a0_0 a0_1 a0_2 a0_3) else (fasciclelaw09_FrameRecords.j0 k l1 true a0_0 a0_1 a0_2 a0_3)) = some r := H
   have A7 := Aside0.mk A70
   clear A70
   by_cases c8 : t313 = true
   ·
    subst c8
    have H1 : (fasciclelaw09_FrameRecords.j0 k l1 (decide ((l1.length : Int) > 600)) a0_0 a0_1 a0_2 a0_3) = some r := by rw [if_pos rfl] at H; exact H
    replace H := H1; clear H1
    have H' := Aside0.mk H
    clear H
    go_wp2_with (first | ((with_reducible refine gate_callee (f := 18) rfl ?_); refine goesL_ (some 13) rfl rfl Try.func18 (by kernel_rfl) rfl #[] rfl (by (try simp only [mA, mB, mC]); first | done | rfl) ?_; (with_reducible refine (fasciclelaw09_lives.calls  true _ A5.out).mono ?_); rintro e w9 ⟨rfl, hb⟩; refine ⟨_, rfl, ?_⟩; replace BK308 := Aside0.mk (blk_below (g := gb308) (o := .cells #[.bool a0_0, .int .u64 a0_1, .string a0_2, .string a0_3] 59 (0, 0)) (by (with_reducible repeat (first | refine blk_drewN ?_ _ | refine blk_drew ?_ | refine blk_alloc ?_ _)); exact BK308.out) hb); replace HB := Aside0.mk (below_step (by repeat with_reducible first | exact HB.out | apply below_alloc | apply pw_below_drewN | apply below_drew1 | refine below_set ?_ GE308.out) hb); (try clear hb); have hcz10_0 : w9.cell? ⟨gb308, 0, none⟩ = some (.bool a0_0) := (blk_cell BK308.out 0).trans rfl; have hcz10_1 : w9.cell? ⟨gb308, 1, none⟩ = some (.int .u64 a0_1) := (blk_cell BK308.out 1).trans rfl; have hcz10_2 : w9.cell? ⟨gb308, 2, none⟩ = some (.string a0_2) := (blk_cell BK308.out 2).trans rfl; have hcz10_3 : w9.cell? ⟨gb308, 3, none⟩ = some (.string a0_3) := (blk_cell BK308.out 3).trans rfl; have hfz10_0 := blk_frozen BK308.out 0; have hfz10_1 := blk_frozen BK308.out 1; have hfz10_2 := blk_frozen BK308.out 2; have hfz10_3 := blk_frozen BK308.out 3) | ((with_reducible refine gate_dst (N := 17) rfl ?_); (try (refine gate_guard (by rfl) ?_; dsimp only)); refine Kd.R_lit k59 _ 59 ?hg (N := 17) ?hd (xs := ([(⟨a0_0, a0_1, a0_2, a0_3⟩ : S59)] : List (S59))) (inner := [.bool a0_0, .int .u64 a0_1, .string a0_2, .string a0_3]) (ok := fun _ => True) (okp := fun _ => True) ?hr ?hp (fun _ hk => hk) trivial (Below.refl _ _) (Nat.le_refl _) (by simp) ?_; (case hd => rfl); (case hg => rfl); (case hr => first | (go_simp; done) | (go_simp; rfl)); (case hp => exact (Reps.c4 (show Kd.M k59 _ _ _ (⟨a0_0, a0_1, a0_2, a0_3⟩ : S59) [.bool a0_0, .int .u64 a0_1, .string a0_2, .string a0_3] from (k59_mkM _ _ _ (⟨a0_0, a0_1, a0_2, a0_3⟩ : S59) )) (Reps.none _ _))); intro v311 w11 ho12 hb hg_ hnew_; clear hg_ hnew_; (first | rw [← Ny310.out] at ho12 | (simp only [Int.reduceToNat] at ho12; rw [← Ny310.out] at ho12)); have HO312 := Aside0.mk (Kd.R_lower (Kd.R_newB ho12 (g := gb308) (o := .cells #[.bool a0_0, .int .u64 a0_1, .string a0_2, .string a0_3] 59 (0, 0)) (by (with_reducible repeat (first | refine blk_drewN ?_ _ | refine blk_drew ?_ | refine blk_alloc ?_ _)); exact BK308.out)) (below_size (by repeat with_reducible first | exact HB.out | apply below_alloc | apply pw_below_drewN | apply below_drew1 | refine below_set ?_ GE308.out))); replace BK308 := Aside0.mk (blk_below (g := gb308) (o := .cells #[.bool a0_0, .int .u64 a0_1, .string a0_2, .string a0_3] 59 (0, 0)) (by (with_reducible repeat (first | refine blk_drewN ?_ _ | refine blk_drew ?_ | refine blk_alloc ?_ _)); exact BK308.out) hb); replace HB := Aside0.mk (below_step (by repeat with_reducible first | exact HB.out | apply below_alloc | apply pw_below_drewN | apply below_drew1 | refine below_set ?_ GE308.out) hb); clear hb ho12; obtain ⟨Ao13, co13, eo13⟩ := Kd.R_slice HO312.out; subst eo13) | (go_at_call 29; (with_reducible refine (fasciclelaw07_Few.calls k _ _ y310 1 600 true _ ?side1 ?side2 A7.out).mono ?_); (case side1 => repeat (first | exact (Kd.R_reads' HO312.out).2.2 | (with_reducible refine Kd.C_alloc ?_ _) | (with_reducible refine Kd.C_drewN ?_ _) | (with_reducible refine Kd.C_drew ?_))); (case side2 => exact (Kd.R_reads' HO312.out).2.1); rintro e w14 ⟨rfl, hb⟩; replace HO312 := Aside0.mk (Kd.R_below (by (with_reducible repeat (first | apply Kd.R_alloc | apply Kd.R_drewN | apply Kd.R_drew)); exact HO312.out) hb); replace BK308 := Aside0.mk (blk_below (g := gb308) (o := .cells #[.bool a0_0, .int .u64 a0_1, .string a0_2, .string a0_3] 59 (0, 0)) (by (with_reducible repeat (first | refine blk_drewN ?_ _ | refine blk_drew ?_ | refine blk_alloc ?_ _)); exact BK308.out) hb); replace HB := Aside0.mk (below_step (by repeat with_reducible first | exact HB.out | apply below_alloc | apply pw_below_drewN | apply below_drew1 | refine below_set ?_ GE308.out) hb); (try clear hb)))
    go_meet
    case rel => exact ⟨_, (decide ((l1.length : Int) > 600)), (by first | rfl | (simp; done) | (simp [*]; done) | (simp; exact iE _)), H', ⟨by first | omega | exact Nat.le_refl _⟩, ⟨by (with_reducible repeat (first | refine blk_drewN ?_ _ | refine blk_drew ?_ | refine blk_alloc ?_ _)); exact BK308.out⟩, ⟨by repeat (first | (with_reducible first | exact HB.out | apply below_alloc | apply pw_below_drewN | apply below_drew1 | refine below_set ?_ GE308.out) | exact HB.out)⟩⟩
   ·
    replace c8 := Bool.eq_false_iff.mpr c8
    subst c8
    have H1 : (fasciclelaw09_FrameRecords.j0 k l1 true a0_0 a0_1 a0_2 a0_3) = some r := by rw [if_neg (show ¬ (false = true) by decide)] at H; exact H
    replace H := H1; clear H1
    have H' := Aside0.mk H
    clear H
    go_wp2_with (first | ((with_reducible refine gate_callee (f := 18) rfl ?_); refine goesL_ (some 13) rfl rfl Try.func18 (by kernel_rfl) rfl #[] rfl (by (try simp only [mA, mB, mC]); first | done | rfl) ?_; (with_reducible refine (fasciclelaw09_lives.calls  true _ A5.out).mono ?_); rintro e w15 ⟨rfl, hb⟩; refine ⟨_, rfl, ?_⟩; replace BK308 := Aside0.mk (blk_below (g := gb308) (o := .cells #[.bool a0_0, .int .u64 a0_1, .string a0_2, .string a0_3] 59 (0, 0)) (by (with_reducible repeat (first | refine blk_drewN ?_ _ | refine blk_drew ?_ | refine blk_alloc ?_ _)); exact BK308.out) hb); replace HB := Aside0.mk (below_step (by repeat with_reducible first | exact HB.out | apply below_alloc | apply pw_below_drewN | apply below_drew1 | refine below_set ?_ GE308.out) hb); (try clear hb); have hcz16_0 : w15.cell? ⟨gb308, 0, none⟩ = some (.bool a0_0) := (blk_cell BK308.out 0).trans rfl; have hcz16_1 : w15.cell? ⟨gb308, 1, none⟩ = some (.int .u64 a0_1) := (blk_cell BK308.out 1).trans rfl; have hcz16_2 : w15.cell? ⟨gb308, 2, none⟩ = some (.string a0_2) := (blk_cell BK308.out 2).trans rfl; have hcz16_3 : w15.cell? ⟨gb308, 3, none⟩ = some (.string a0_3) := (blk_cell BK308.out 3).trans rfl; have hfz16_0 := blk_frozen BK308.out 0; have hfz16_1 := blk_frozen BK308.out 1; have hfz16_2 := blk_frozen BK308.out 2; have hfz16_3 := blk_frozen BK308.out 3) | ((with_reducible refine gate_dst (N := 17) rfl ?_); (try (refine gate_guard (by rfl) ?_; dsimp only)); refine Kd.R_lit k59 _ 59 ?hg (N := 17) ?hd (xs := ([(⟨a0_0, a0_1, a0_2, a0_3⟩ : S59)] : List (S59))) (inner := [.bool a0_0, .int .u64 a0_1, .string a0_2, .string a0_3]) (ok := fun _ => True) (okp := fun _ => True) ?hr ?hp (fun _ hk => hk) trivial (Below.refl _ _) (Nat.le_refl _) (by simp) ?_; (case hd => rfl); (case hg => rfl); (case hr => first | (go_simp; done) | (go_simp; rfl)); (case hp => exact (Reps.c4 (show Kd.M k59 _ _ _ (⟨a0_0, a0_1, a0_2, a0_3⟩ : S59) [.bool a0_0, .int .u64 a0_1, .string a0_2, .string a0_3] from (k59_mkM _ _ _ (⟨a0_0, a0_1, a0_2, a0_3⟩ : S59) )) (Reps.none _ _))); intro v311 w17 ho18 hb hg_ hnew_; clear hg_ hnew_; (first | rw [← Ny310.out] at ho18 | (simp only [Int.reduceToNat] at ho18; rw [← Ny310.out] at ho18)); have HO312 := Aside0.mk (Kd.R_lower (Kd.R_newB ho18 (g := gb308) (o := .cells #[.bool a0_0, .int .u64 a0_1, .string a0_2, .string a0_3] 59 (0, 0)) (by (with_reducible repeat (first | refine blk_drewN ?_ _ | refine blk_drew ?_ | refine blk_alloc ?_ _)); exact BK308.out)) (below_size (by repeat with_reducible first | exact HB.out | apply below_alloc | apply pw_below_drewN | apply below_drew1 | refine below_set ?_ GE308.out))); replace BK308 := Aside0.mk (blk_below (g := gb308) (o := .cells #[.bool a0_0, .int .u64 a0_1, .string a0_2, .string a0_3] 59 (0, 0)) (by (with_reducible repeat (first | refine blk_drewN ?_ _ | refine blk_drew ?_ | refine blk_alloc ?_ _)); exact BK308.out) hb); replace HB := Aside0.mk (below_step (by repeat with_reducible first | exact HB.out | apply below_alloc | apply pw_below_drewN | apply below_drew1 | refine below_set ?_ GE308.out) hb); clear hb ho18; obtain ⟨Ao19, co19, eo19⟩ := Kd.R_slice HO312.out; subst eo19) | (go_at_call 29; (with_reducible refine (fasciclelaw07_Few.calls k _ _ y310 1 600 false _ ?side1 ?side2 A7.out).mono ?_); (case side1 => repeat (first | exact (Kd.R_reads' HO312.out).2.2 | (with_reducible refine Kd.C_alloc ?_ _) | (with_reducible refine Kd.C_drewN ?_ _) | (with_reducible refine Kd.C_drew ?_))); (case side2 => exact (Kd.R_reads' HO312.out).2.1); rintro e w20 ⟨rfl, hb⟩; replace HO312 := Aside0.mk (Kd.R_below (by (with_reducible repeat (first | apply Kd.R_alloc | apply Kd.R_drewN | apply Kd.R_drew)); exact HO312.out) hb); replace BK308 := Aside0.mk (blk_below (g := gb308) (o := .cells #[.bool a0_0, .int .u64 a0_1, .string a0_2, .string a0_3] 59 (0, 0)) (by (with_reducible repeat (first | refine blk_drewN ?_ _ | refine blk_drew ?_ | refine blk_alloc ?_ _)); exact BK308.out) hb); replace HB := Aside0.mk (below_step (by repeat with_reducible first | exact HB.out | apply below_alloc | apply pw_below_drewN | apply below_drew1 | refine below_set ?_ GE308.out) hb); (try clear hb)))
    go_meet
    case rel => exact ⟨_, (true), (by first | rfl | (simp; done) | (simp [*]; done) | (simp; exact iE _)), H', ⟨by first | omega | exact Nat.le_refl _⟩, ⟨by (with_reducible repeat (first | refine blk_drewN ?_ _ | refine blk_drew ?_ | refine blk_alloc ?_ _)); exact BK308.out⟩, ⟨by repeat (first | (with_reducible first | exact HB.out | apply below_alloc | apply pw_below_drewN | apply below_drew1 | refine below_set ?_ GE308.out) | exact HB.out)⟩⟩
  ·
   replace c6 := Bool.eq_false_iff.mpr c6
   subst c6
   have H1 : (fasciclelaw09_FrameRecords.j0 k l1 true a0_0 a0_1 a0_2 a0_3) = some r := by rw [if_neg (show ¬ (false = true) by decide)] at H; exact H
   replace H := H1; clear H1
   have H' := Aside0.mk H
   clear H
   go_wp2_with (first | ((with_reducible refine gate_callee (f := 18) rfl ?_); refine goesL_ (some 13) rfl rfl Try.func18 (by kernel_rfl) rfl #[] rfl (by (try simp only [mA, mB, mC]); first | done | rfl) ?_; (with_reducible refine (fasciclelaw09_lives.calls  false _ A5.out).mono ?_); rintro e w21 ⟨rfl, hb⟩; refine ⟨_, rfl, ?_⟩; replace BK308 := Aside0.mk (blk_below (g := gb308) (o := .cells #[.bool a0_0, .int .u64 a0_1, .string a0_2, .string a0_3] 59 (0, 0)) (by (with_reducible repeat (first | refine blk_drewN ?_ _ | refine blk_drew ?_ | refine blk_alloc ?_ _)); exact BK308.out) hb); replace HB := Aside0.mk (below_step (by repeat with_reducible first | exact HB.out | apply below_alloc | apply pw_below_drewN | apply below_drew1 | refine below_set ?_ GE308.out) hb); (try clear hb)))
   go_meet
   case rel => exact ⟨_, (true), (by first | rfl | (simp; done) | (simp [*]; done) | (simp; exact iE _)), H', ⟨by first | omega | exact Nat.le_refl _⟩, ⟨by (with_reducible repeat (first | refine blk_drewN ?_ _ | refine blk_drew ?_ | refine blk_alloc ?_ _)); exact BK308.out⟩, ⟨by repeat (first | (with_reducible first | exact HB.out | apply below_alloc | apply pw_below_drewN | apply below_drew1 | refine below_set ?_ GE308.out) | exact HB.out)⟩⟩
 case rest =>
  clear HC3
  (try clear c1); (try clear p2); (try clear c4); (try clear c6); (try clear c8); (try clear c9); (try clear c18); (try clear hcz10_0); (try clear hcz10_1); (try clear hcz10_2); (try clear hcz10_3); (try clear hcz16_0); (try clear hcz16_1); (try clear hcz16_2); (try clear hcz16_3); (try clear hfz10_0); (try clear hfz10_1); (try clear hfz10_2); (try clear hfz10_3); (try clear hfz16_0); (try clear hfz16_1); (try clear hfz16_2); (try clear hfz16_3)
  obtain ⟨kq, x25_2, rfl, HA, HJ2, BK308, HB⟩ := hcut
  cases kq with
  | zero => exact absurd HA.out (by simp [fasciclelaw09_FrameRecords.j0])
  | succ kj2 =>
   have H := HA.out
   clear HA
   simp only [fasciclelaw09_FrameRecords.j0] at H
   by_cases c22 : x25_2 = true
   ·
    subst c22
    have H1 : ((fasciclelaw09_lives.f).bind fun t314 => (some t314)) = some r := by rw [if_pos rfl] at H; exact H
    replace H := H1; clear H1
    replace H := Option.bind_eq_some_iff.mp H
    obtain ⟨t314, A230, H⟩ := H
    replace H : (some t314) = some r := H
    have A23 := Aside0.mk A230
    clear A230
    obtain rfl := Option.some.inj H
    go_wp2_with (first | ((with_reducible refine gate_callee (f := 18) rfl ?_); refine goesL_ (some 26) rfl rfl Try.func18 (by kernel_rfl) rfl #[] rfl (by (try simp only [mA, mB, mC]); first | done | rfl) ?_; (with_reducible refine (fasciclelaw09_lives.calls  t314 _ A23.out).mono ?_); rintro e w24 ⟨rfl, hb⟩; refine ⟨_, rfl, ?_⟩; replace BK308 := Aside0.mk (blk_below (g := gb308) (o := .cells #[.bool a0_0, .int .u64 a0_1, .string a0_2, .string a0_3] 59 (0, 0)) (by (with_reducible repeat (first | refine blk_drewN ?_ _ | refine blk_drew ?_ | refine blk_alloc ?_ _)); exact BK308.out) hb); replace HB := Aside0.mk (below_step (by repeat with_reducible first | exact HB.out | apply below_alloc | apply pw_below_drewN | apply below_drew1 | refine below_set ?_ GE308.out) hb); (try clear hb)))
    go_ret
    exact ⟨by first | rfl | (simp <;> rfl) | (simp [*] <;> rfl), by repeat (first | (with_reducible first | exact HB.out | apply below_alloc | apply pw_below_drewN | apply below_drew1 | refine below_set ?_ GE308.out) | exact HB.out)⟩
   ·
    replace c22 := Bool.eq_false_iff.mpr c22
    subst c22
    have H1 : ((frame_PutRecord.f a0_0 a0_1 a0_2 a0_3).bind fun bt315 => ((fascicleref07_Check.f kj2 a0_0 a0_1 a0_2 a0_3).bind fun t319 => (if bt315.2 = t319 then (if bt315.2 = 0 then (if 0 ≤ (mx 0 (wrap64 ((bt315.1.length : Int) - 1))) then (if (mx 0 (wrap64 ((bt315.1.length : Int) - 1))) ≤ (bt315.1.length : Int) then ((frame_GetRecord.f (bt315.1.take ((mx 0 (wrap64 ((bt315.1.length : Int) - 1))) : Int).toNat)).bind fun bt324 => ((fascicleref09_Record.f kj2 a0_0 a0_1 a0_2 a0_3).bind fun t330 => (if (strOfNums bt315.1).toList = t330.toList then (if bt324.2.2.2.2 = 0 then (fasciclelaw09_FrameRecords.j1 kj2 l1 bt315.1 bt315.2 (!(bt324.1 == a0_0) || (!(bt324.2.1 == a0_1) || (!(bt324.2.2.1.toList == a0_2.toList) || (!(bt324.2.2.2.1.toList == a0_3.toList)))))) else (fasciclelaw09_FrameRecords.j1 kj2 l1 bt315.1 bt315.2 true)) else (fasciclelaw09_FrameRecords.j1 kj2 l1 bt315.1 bt315.2 true)))) else (none)) else (none)) else ((frame_GetRecord.f l1).bind fun bt343 => ((fascicleref09_GetRecord.f kj2 (strOfNums l1)).bind fun bt349 => (if (bt343.1 == bt349.1 && (bt343.2.1 == bt349.2.1 && (bt343.2.2.1.toList == bt349.2.2.1.toList && (bt343.2.2.2.1.toList == bt349.2.2.2.1.toList)))) = true then (if bt343.2.2.2.2 = bt349.2.2.2.2 then (some ((bt315.1.length : Int) == 0)) else (some false)) else (some false))))) else (some false)))) = some r := by rw [if_neg (show ¬ (false = true) by decide)] at H; exact H
    replace H := H1; clear H1
    replace H := Option.bind_eq_some_iff.mp H
    obtain ⟨⟨t315, t318⟩, A250, H⟩ := H
    replace H : ((fascicleref07_Check.f kj2 a0_0 a0_1 a0_2 a0_3).bind fun t319 => (if t318 = t319 then (if t318 = 0 then (if 0 ≤ (mx 0 (wrap64 ((t315.length : Int) - 1))) then (if (mx 0 (wrap64 ((t315.length : Int) - 1))) ≤ (t315.length : Int) then ((frame_GetRecord.f (t315.take ((mx 0 (wrap64 ((t315.length : Int) - 1))) : Int).toNat)).bind fun bt324 => ((fascicleref09_Record.f kj2 a0_0 a0_1 a0_2 a0_3).bind fun t330 => (if (strOfNums t315).toList = t330.toList then (if bt324.2.2.2.2 = 0 then (fasciclelaw09_FrameRecords.j1 kj2 l1 t315 t318 (!(bt324.1 == a0_0) || (!(bt324.2.1 == a0_1) || (!(bt324.2.2.1.toList == a0_2.toList) || (!(bt324.2.2.2.1.toList == a0_3.toList)))))) else (fasciclelaw09_FrameRecords.j1 kj2 l1 t315 t318 true)) else (fasciclelaw09_FrameRecords.j1 kj2 l1 t315 t318 true)))) else (none)) else (none)) else ((frame_GetRecord.f l1).bind fun bt343 => ((fascicleref09_GetRecord.f kj2 (strOfNums l1)).bind fun bt349 => (if (bt343.1 == bt349.1 && (bt343.2.1 == bt349.2.1 && (bt343.2.2.1.toList == bt349.2.2.1.toList && (bt343.2.2.2.1.toList == bt349.2.2.2.1.toList)))) = true then (if bt343.2.2.2.2 = bt349.2.2.2.2 then (some ((t315.length : Int) == 0)) else (some false)) else (some false))))) else (some false))) = some r := H
    have A25 := Aside0.mk A250
    clear A250
    replace H := Option.bind_eq_some_iff.mp H
    obtain ⟨t319, A260, H⟩ := H
    replace H : (if t318 = t319 then (if t318 = 0 then (if 0 ≤ (mx 0 (wrap64 ((t315.length : Int) - 1))) then (if (mx 0 (wrap64 ((t315.length : Int) - 1))) ≤ (t315.length : Int) then ((frame_GetRecord.f (t315.take ((mx 0 (wrap64 ((t315.length : Int) - 1))) : Int).toNat)).bind fun bt324 => ((fascicleref09_Record.f kj2 a0_0 a0_1 a0_2 a0_3).bind fun t330 => (if (strOfNums t315).toList = t330.toList then (if bt324.2.2.2.2 = 0 then (fasciclelaw09_FrameRecords.j1 kj2 l1 t315 t318 (!(bt324.1 == a0_0) || (!(bt324.2.1 == a0_1) || (!(bt324.2.2.1.toList == a0_2.toList) || (!(bt324.2.2.2.1.toList == a0_3.toList)))))) else (fasciclelaw09_FrameRecords.j1 kj2 l1 t315 t318 true)) else (fasciclelaw09_FrameRecords.j1 kj2 l1 t315 t318 true)))) else (none)) else (none)) else ((frame_GetRecord.f l1).bind fun bt343 => ((fascicleref09_GetRecord.f kj2 (strOfNums l1)).bind fun bt349 => (if (bt343.1 == bt349.1 && (bt343.2.1 == bt349.2.1 && (bt343.2.2.1.toList == bt349.2.2.1.toList && (bt343.2.2.2.1.toList == bt349.2.2.2.1.toList)))) = true then (if bt343.2.2.2.2 = bt349.2.2.2.2 then (some ((t315.length : Int) == 0)) else (some false)) else (some false))))) else (some false)) = some r := H
    have A26 := Aside0.mk A260
    clear A260
    by_cases c27 : t318 = t319
    ·
     rw [if_pos c27] at H
     have c27b0 : (t318 == t319) = true := beq_iff_eq.mpr c27
     have c27b1 : (t318 != t319) = false := bne_eq_false_iff_eq.mpr c27
     clear c27
     by_cases c28 : t318 = 0
     ·
      rw [if_pos c28] at H
      have c28b0 : (t318 == 0) = true := beq_iff_eq.mpr c28
      have c28b1 : (t318 != 0) = false := bne_eq_false_iff_eq.mpr c28
      clear c28
      obtain ⟨ji29, hji29⟩ : ∃ j_ : Int, (mx 0 (wrap64 ((t315.length : Int) - 1))) = j_ := ⟨_, rfl⟩
      replace H : (if 0 ≤ (ji29) then (if (ji29) ≤ (t315.length : Int) then ((frame_GetRecord.f (t315.take ((ji29) : Int).toNat)).bind fun bt324 => ((fascicleref09_Record.f kj2 a0_0 a0_1 a0_2 a0_3).bind fun t330 => (if (strOfNums t315).toList = t330.toList then (if bt324.2.2.2.2 = 0 then (fasciclelaw09_FrameRecords.j1 kj2 l1 t315 t318 (!(bt324.1 == a0_0) || (!(bt324.2.1 == a0_1) || (!(bt324.2.2.1.toList == a0_2.toList) || (!(bt324.2.2.2.1.toList == a0_3.toList)))))) else (fasciclelaw09_FrameRecords.j1 kj2 l1 t315 t318 true)) else (fasciclelaw09_FrameRecords.j1 kj2 l1 t315 t318 true)))) else (none)) else (none)) = some r := by first | (rw [hji29] at H; exact H) | (simp only [hji29] at H ⊢; exact H)
      (try rw [hji29] at A25)
      (try rw [hji29] at A26)
      (try (have hji29l : 0 ≤ ji29 := by (rw [← hji29]; unfold mx; (repeat' split) <;> omega)))
      (try (have hji29m : 0 ≤ ji29 := by omega))
      have hji29_ : (if 0 < (wrap64 ((t315.length : Int) - 1)) then (wrap64 ((t315.length : Int) - 1)) else 0) = ji29 := hji29
      by_cases c30 : 0 ≤ (ji29)
      ·
       rw [if_pos c30] at H
       have c30b0 := eq_true c30
       have c30b1 : decide (0 ≤ (ji29)) = true := decide_eq_true c30
       clear c30
       by_cases c31 : (ji29) ≤ (t315.length : Int)
       ·
        rw [if_pos c31] at H
        have c31b0 := eq_true c31
        have c31b1 : decide ((ji29) ≤ (t315.length : Int)) = true := decide_eq_true c31
        clear c31
        obtain ⟨y320, hy320⟩ : ∃ y_ : List Int, y_ = (t315.take ((ji29) : Int).toNat) := ⟨_, rfl⟩
        replace H : ((frame_GetRecord.f y320).bind fun bt324 => ((fascicleref09_Record.f kj2 a0_0 a0_1 a0_2 a0_3).bind fun t330 => (if (strOfNums t315).toList = t330.toList then (if bt324.2.2.2.2 = 0 then (fasciclelaw09_FrameRecords.j1 kj2 l1 t315 t318 (!(bt324.1 == a0_0) || (!(bt324.2.1 == a0_1) || (!(bt324.2.2.1.toList == a0_2.toList) || (!(bt324.2.2.2.1.toList == a0_3.toList)))))) else (fasciclelaw09_FrameRecords.j1 kj2 l1 t315 t318 true)) else (fasciclelaw09_FrameRecords.j1 kj2 l1 t315 t318 true)))) = some r := by first | (rw [hy320]; with_reducible exact H) | (have H2_ := (Option.bind_some _ _).symm.trans H; rw [hy320]; with_reducible exact H2_) | (have H2_ := (Option.bind_some _ _).symm.trans H; with_reducible exact H2_) | with_reducible exact H | (rw [hy320]; exact H) | exact H
        have Ny320 := Aside0.mk hy320
        clear hy320
        replace H := Option.bind_eq_some_iff.mp H
        obtain ⟨⟨t324, t325, t326, t327, t328⟩, A320, H⟩ := H
        replace H : ((fascicleref09_Record.f kj2 a0_0 a0_1 a0_2 a0_3).bind fun t330 => (if (strOfNums t315).toList = t330.toList then (if t328 = 0 then (fasciclelaw09_FrameRecords.j1 kj2 l1 t315 t318 (!(t324 == a0_0) || (!(t325 == a0_1) || (!(t326.toList == a0_2.toList) || (!(t327.toList == a0_3.toList)))))) else (fasciclelaw09_FrameRecords.j1 kj2 l1 t315 t318 true)) else (fasciclelaw09_FrameRecords.j1 kj2 l1 t315 t318 true))) = some r := H
        have A32 := Aside0.mk A320
        clear A320
        have HC33 := Aside0.mk H
        clear H
        have hcz34_0 : wc.cell? ⟨gb308, 0, none⟩ = some (.bool a0_0) := (blk_cell BK308.out 0).trans rfl
        have hcz34_1 : wc.cell? ⟨gb308, 1, none⟩ = some (.int .u64 a0_1) := (blk_cell BK308.out 1).trans rfl
        have hcz34_2 : wc.cell? ⟨gb308, 2, none⟩ = some (.string a0_2) := (blk_cell BK308.out 2).trans rfl
        have hcz34_3 : wc.cell? ⟨gb308, 3, none⟩ = some (.string a0_3) := (blk_cell BK308.out 3).trans rfl
        have hfz34_0 := blk_frozen BK308.out 0
        have hfz34_1 := blk_frozen BK308.out 1
        have hfz34_2 := blk_frozen BK308.out 2
        have hfz34_3 := blk_frozen BK308.out 3
        go_upto_region 8 with (first | ((with_reducible refine gate_callee (f := 30) rfl ?_); refine goesL_ (some 29) rfl rfl Try.func30 (by kernel_rfl) rfl #[.agg #[.bool a0_0, .int .u64 a0_1, .string a0_2, .string a0_3]] rfl (by (try simp only [mA, mB, mC]); first | done | rfl) ?_; (with_reducible refine (frame_PutRecord.calls a0_0 a0_1 a0_2 a0_3 t315 t318 _ A25.out).mono ?_); rintro e w35 ⟨v316, rfl, ho0, hb⟩; refine ⟨_, rfl, ?_⟩; have HO317 := Aside0.mk (Kd.R_lower ho0 (below_size (by repeat with_reducible first | exact HB.out | apply below_alloc | apply pw_below_drewN | apply below_drew1 | refine below_set ?_ GE308.out))); replace BK308 := Aside0.mk (blk_below (g := gb308) (o := .cells #[.bool a0_0, .int .u64 a0_1, .string a0_2, .string a0_3] 59 (0, 0)) (by (with_reducible repeat (first | refine blk_drewN ?_ _ | refine blk_drew ?_ | refine blk_alloc ?_ _)); exact BK308.out) hb); replace HB := Aside0.mk (below_step (by repeat with_reducible first | exact HB.out | apply below_alloc | apply pw_below_drewN | apply below_drew1 | refine below_set ?_ GE308.out) hb); (try clear hb); (try clear ho0); have hcz36_0 : w35.cell? ⟨gb308, 0, none⟩ = some (.bool a0_0) := (blk_cell BK308.out 0).trans rfl; have hcz36_1 : w35.cell? ⟨gb308, 1, none⟩ = some (.int .u64 a0_1) := (blk_cell BK308.out 1).trans rfl; have hcz36_2 : w35.cell? ⟨gb308, 2, none⟩ = some (.string a0_2) := (blk_cell BK308.out 2).trans rfl; have hcz36_3 : w35.cell? ⟨gb308, 3, none⟩ = some (.string a0_3) := (blk_cell BK308.out 3).trans rfl; have hfz36_0 := blk_frozen BK308.out 0; have hfz36_1 := blk_frozen BK308.out 1; have hfz36_2 := blk_frozen BK308.out 2; have hfz36_3 := blk_frozen BK308.out 3) | ((with_reducible refine gate_callee (f := 31) rfl ?_); refine goesL_ (some 34) rfl rfl Try.func31 (by kernel_rfl) rfl #[.agg #[.bool a0_0, .int .u64 a0_1, .string a0_2, .string a0_3]] rfl (by (try simp only [mA, mB, mC]); first | done | rfl) ?_; (with_reducible refine (fascicleref07_Check.calls kj2 a0_0 a0_1 a0_2 a0_3 t319 _ A26.out).mono ?_); rintro e w37 ⟨rfl, hb⟩; refine ⟨_, rfl, ?_⟩; replace HO317 := Aside0.mk (Kd.R_below (by (with_reducible repeat (first | apply Kd.R_alloc | apply Kd.R_drewN | apply Kd.R_drew)); exact HO317.out) hb); replace BK308 := Aside0.mk (blk_below (g := gb308) (o := .cells #[.bool a0_0, .int .u64 a0_1, .string a0_2, .string a0_3] 59 (0, 0)) (by (with_reducible repeat (first | refine blk_drewN ?_ _ | refine blk_drew ?_ | refine blk_alloc ?_ _)); exact BK308.out) hb); replace HB := Aside0.mk (below_step (by repeat with_reducible first | exact HB.out | apply below_alloc | apply pw_below_drewN | apply below_drew1 | refine below_set ?_ GE308.out) hb); (try clear hb); obtain ⟨Ao38, co38, eo38⟩ := Kd.R_slice HO317.out; subst eo38; have q39 : ((ji29) : Int) ≤ ((t315.length : Int) : Int) := of_decide_eq_true (by first | (with_reducible assumption) | assumption); obtain ⟨i039, hi039, _, hsz39, _⟩ := info_parts info5; have hroom39 : t315.length ≤ co38 := (Kd.R_reads' HO317.out).2.1; have hC39 : Kd.C (Kd.int .u8) _ Ao38 t315.length t315 := (Kd.R_reads' HO317.out).2.2; have hcut39 := cut_to (P := Try.prog) 39 5 .i64 Try.underlying39 hi039 Ao38 t315.length co38 (ji29) (of_decide_eq_true (by first | (with_reducible assumption) | assumption)) q39 hroom39; have hr39 := Kd.C_take (m := ((ji29) : Int).toNat) hC39 (by omega); have hy39 : y320.length = ((ji29) : Int).toNat := (by rw [Ny320.out, List.length_take]; omega); rw [← Ny320.out] at hr39; rw [← hy39] at hcut39; have HR323 := Aside0.mk hr39; have HC323 := Aside0.mk (show y320.length ≤ co38 from by omega); clear hr39 hC39 hroom39 hi039 hsz39; have KY39 := Aside0.mk hy39; clear hy39; have KL39 := Aside0.mk (show ((ji29) : Int).toNat ≤ t315.length from by omega); replace q39 := eq_true q39) | ((with_reducible refine gate_callee (f := 32) rfl ?_); refine goesL_ (some 45) rfl rfl Try.func32 (by kernel_rfl) rfl #[.slice Ao38 y320.length co38] rfl (by (try simp only [mA, mB, mC]); first | done | rfl) ?_; (with_reducible refine (frame_GetRecord.calls _ _ y320 t324 t325 t326 t327 t328 _ ?side1 ?side2 A32.out).mono ?_); (case side1 => repeat (first | exact (by repeat (first | (with_reducible exact HR323.out) | (with_reducible refine Kd.C_alloc ?_ _) | (with_reducible refine Kd.C_drewN ?_ _) | (with_reducible refine Kd.C_drew ?_) | exact HR323.out)) | (with_reducible refine Kd.C_alloc ?_ _) | (with_reducible refine Kd.C_drewN ?_ _) | (with_reducible refine Kd.C_drew ?_))); (case side2 => exact HC323.out); rintro e w40 ⟨rfl, hb⟩; refine ⟨_, rfl, ?_⟩; replace HO317 := Aside0.mk (Kd.R_below (by (with_reducible repeat (first | apply Kd.R_alloc | apply Kd.R_drewN | apply Kd.R_drew)); exact HO317.out) hb); replace BK308 := Aside0.mk (blk_below (g := gb308) (o := .cells #[.bool a0_0, .int .u64 a0_1, .string a0_2, .string a0_3] 59 (0, 0)) (by (with_reducible repeat (first | refine blk_drewN ?_ _ | refine blk_drew ?_ | refine blk_alloc ?_ _)); exact BK308.out) hb); replace HR323 := Aside0.mk (Kd.C_below (by repeat (first | (with_reducible exact HR323.out) | (with_reducible refine Kd.C_alloc ?_ _) | (with_reducible refine Kd.C_drewN ?_ _) | (with_reducible refine Kd.C_drew ?_) | exact HR323.out)) hb); replace HB := Aside0.mk (below_step (by repeat with_reducible first | exact HB.out | apply below_alloc | apply pw_below_drewN | apply below_drew1 | refine below_set ?_ GE308.out) hb); (try clear hb)) | ((with_reducible refine gate_dst (N := 7) rfl ?_); (try (refine gate_guard (by rfl) ?_; dsimp only)); refine box_event ?hg (N := 7) ?hd (cs := #[.bool false, .int .u64 0, .string ⟨#[]⟩, .string ⟨#[]⟩]) (t := 59) ?hr ?_; (case hd => rfl); (case hg => rfl); (case hr => first | (go_simp; done) | (go_simp; rfl)); intro gb329 hg w41 hbox hb; have n0_ := Aside0.mk (Kd.R_below (by (with_reducible repeat (first | apply Kd.R_alloc | apply Kd.R_drewN | apply Kd.R_drew)); exact HO317.out) hb); have n1_ := Aside0.mk (blk_below (g := gb308) (o := .cells #[.bool a0_0, .int .u64 a0_1, .string a0_2, .string a0_3] 59 (0, 0)) (by (with_reducible repeat (first | refine blk_drewN ?_ _ | refine blk_drew ?_ | refine blk_alloc ?_ _)); exact BK308.out) hb); have n2_ := Aside0.mk (Kd.C_below (by repeat (first | (with_reducible exact HR323.out) | (with_reducible refine Kd.C_alloc ?_ _) | (with_reducible refine Kd.C_drewN ?_ _) | (with_reducible refine Kd.C_drew ?_) | exact HR323.out)) hb); have n3_ := Aside0.mk (below_step (by repeat with_reducible first | exact HB.out | apply below_alloc | apply pw_below_drewN | apply below_drew1 | refine below_set ?_ GE308.out) hb); have n4_ := Aside0.mk (hbox); have n5_ := Aside0.mk ((by rw [hg]; exact (below_size (by repeat with_reducible first | exact HB.out | apply below_alloc | apply pw_below_drewN | apply below_drew1 | refine below_set ?_ GE308.out)) : w.heap.size ≤ gb329)); have n6_ := Aside0.mk ((by rw [hg]; exact (below_size (by repeat with_reducible first | exact HB.out | apply below_alloc | apply pw_below_drewN | apply below_drew1 | refine below_set ?_ GE308.out)) : w.heap.size ≤ gb329)); have n7_ := Aside0.mk ((by rw [hg]; exact Nat.ne_of_lt (blk_lt (g := gb308) (o := .cells #[.bool a0_0, .int .u64 a0_1, .string a0_2, .string a0_3] 59 (0, 0)) (by (with_reducible repeat (first | refine blk_drewN ?_ _ | refine blk_drew ?_ | refine blk_alloc ?_ _)); exact BK308.out)) : gb308 ≠ gb329)); have n8_ := Aside0.mk ((by rw [hg]; exact Nat.ne_of_gt (blk_lt (g := gb308) (o := .cells #[.bool a0_0, .int .u64 a0_1, .string a0_2, .string a0_3] 59 (0, 0)) (by (with_reducible repeat (first | refine blk_drewN ?_ _ | refine blk_drew ?_ | refine blk_alloc ?_ _)); exact BK308.out)) : gb329 ≠ gb308)); clear HO317; clear BK308; clear HR323; clear HB; have HO317 := n0_; have BK308 := n1_; have HR323 := n2_; have HB := n3_; have BK329 := n4_; have GW329 := n5_; have GE329 := n6_; have NB308_329 := n7_; have NB329_308 := n8_; clear n0_ n1_ n2_ n3_ n4_ n5_ n6_ n7_ n8_; clear hb hbox hg; have hnb42 := NB329_308.out; have hnc42 := NB308_329.out; have hcz43_0 : w41.cell? ⟨gb329, 0, none⟩ = some (.bool false) := (blk_cell BK329.out 0).trans rfl; have hcz43_1 : w41.cell? ⟨gb329, 1, none⟩ = some (.int .u64 0) := (blk_cell BK329.out 1).trans rfl; have hcz43_2 : w41.cell? ⟨gb329, 2, none⟩ = some (.string ⟨#[]⟩) := (blk_cell BK329.out 2).trans rfl; have hcz43_3 : w41.cell? ⟨gb329, 3, none⟩ = some (.string ⟨#[]⟩) := (blk_cell BK329.out 3).trans rfl; have hfz43_0 := blk_frozen BK329.out 0; have hfz43_1 := blk_frozen BK329.out 1; have hfz43_2 := blk_frozen BK329.out 2; have hfz43_3 := blk_frozen BK329.out 3))
        (try simp only [Act.put, sA, sB, sC])
        go_cut [61] (fun v61 wc => ∃ (kq : Nat) (x61_32 : Bool), v61 = .bool x61_32 ∧ Aside0 (fasciclelaw09_FrameRecords.j1 kq l1 t315 t318 x61_32 = some r) ∧ Aside0 (kq ≤ kj2) ∧ Aside0 (Kd.R (Kd.int .u8) 5 wc w.heap.size (fun _ => True) (.slice Ao38 t315.length co38) t315) ∧ Aside0 (wc.heap[gb308]? = some (.cells #[.bool a0_0, .int .u64 a0_1, .string a0_2, .string a0_3] 59 (0, 0))) ∧ Aside0 (wc.heap[gb329]? = some (.cells #[.bool t324, .int .u64 t325, .string t326, .string t327] 59 (0, 0))) ∧ Aside0 (Below w.heap.size w wc))
        case first =>
         have H := HC33.out
         clear HC33
         replace H := Option.bind_eq_some_iff.mp H
         obtain ⟨t330, A440, H⟩ := H
         replace H : (if (strOfNums t315).toList = t330.toList then (if t328 = 0 then (fasciclelaw09_FrameRecords.j1 kj2 l1 t315 t318 (!(t324 == a0_0) || (!(t325 == a0_1) || (!(t326.toList == a0_2.toList) || (!(t327.toList == a0_3.toList)))))) else (fasciclelaw09_FrameRecords.j1 kj2 l1 t315 t318 true)) else (fasciclelaw09_FrameRecords.j1 kj2 l1 t315 t318 true)) = some r := H
         have A44 := Aside0.mk A440
         clear A440
         by_cases c45 : (strOfNums t315).toList = t330.toList
         ·
          rw [if_pos c45] at H
          have c45b0 : ((strOfNums t315).toList == t330.toList) = true := beq_iff_eq.mpr c45
          have c45b1 : ((strOfNums t315).toList != t330.toList) = false := bne_eq_false_iff_eq.mpr c45
          clear c45
          (first | rw [c45b0] | (simp only [i64_w, i32_w]; rw [c45b0]) | skip)
          by_cases c46 : t328 = 0
          ·
           rw [if_pos c46] at H
           have c46b0 : (t328 == 0) = true := beq_iff_eq.mpr c46
           have c46b1 : (t328 != 0) = false := bne_eq_false_iff_eq.mpr c46
           clear c46
           have H' := Aside0.mk H
           clear H
           try go_wp2
           have n0_ : Aside0 (Kd.R (Kd.int .u8) 5 ((((w41.setCell ⟨gb329, 0, none⟩ (.bool t324)).setCell ⟨gb329, 1, none⟩ (.int .u64 t325)).setCell ⟨gb329, 2, none⟩ (.string t326)).setCell ⟨gb329, 3, none⟩ (.string t327)) w.heap.size (fun _ => True) (.slice Ao38 t315.length co38) t315) := ⟨by (with_reducible repeat (first | apply Kd.R_alloc | apply Kd.R_drewN | apply Kd.R_drew)); exact Kd.R_mono (Kd.R_far (p := ⟨gb329, 3, none⟩) (Kd.R_far (p := ⟨gb329, 2, none⟩) (Kd.R_far (p := ⟨gb329, 1, none⟩) (Kd.R_far (p := ⟨gb329, 0, none⟩) (Kd.R_types HO317.out BK329.out (by decide)) (fun _ hk => by first | exact hk.2 | exact hk) (.bool t324)) (fun _ hk => by first | exact hk.2 | exact hk) (.int .u64 t325)) (fun _ hk => by first | exact hk.2 | exact hk) (.string t326)) (fun _ hk => by first | exact hk.2 | exact hk) (.string t327)) (fun _ hk => trivial)⟩
           have n1_ : Aside0 (((((w41.setCell ⟨gb329, 0, none⟩ (.bool t324)).setCell ⟨gb329, 1, none⟩ (.int .u64 t325)).setCell ⟨gb329, 2, none⟩ (.string t326)).setCell ⟨gb329, 3, none⟩ (.string t327)).heap[gb308]? = some (.cells #[.bool a0_0, .int .u64 a0_1, .string a0_2, .string a0_3] 59 (0, 0))) := ⟨by (with_reducible repeat (first | refine blk_drewN ?_ _ | refine blk_drew ?_ | refine blk_alloc ?_ _)); refine blk_far ?_ NB308_329.out _; refine blk_far ?_ NB308_329.out _; refine blk_far ?_ NB308_329.out _; refine blk_far ?_ NB308_329.out _; (with_reducible repeat (first | refine blk_drewN ?_ _ | refine blk_drew ?_ | refine blk_alloc ?_ _)); exact BK308.out⟩
           have n2_ : Aside0 (((((w41.setCell ⟨gb329, 0, none⟩ (.bool t324)).setCell ⟨gb329, 1, none⟩ (.int .u64 t325)).setCell ⟨gb329, 2, none⟩ (.string t326)).setCell ⟨gb329, 3, none⟩ (.string t327)).heap[gb329]? = some (.cells #[.bool t324, .int .u64 t325, .string t326, .string t327] 59 (0, 0))) := ⟨by (with_reducible repeat (first | refine blk_drewN ?_ _ | refine blk_drew ?_ | refine blk_alloc ?_ _)); refine blk_put (cs := #[.bool t324, .int .u64 t325, .string t326, .string ⟨#[]⟩]) ?_ 3 _ rfl; refine blk_put (cs := #[.bool t324, .int .u64 t325, .string ⟨#[]⟩, .string ⟨#[]⟩]) ?_ 2 _ rfl; refine blk_put (cs := #[.bool t324, .int .u64 0, .string ⟨#[]⟩, .string ⟨#[]⟩]) ?_ 1 _ rfl; refine blk_put (cs := #[.bool false, .int .u64 0, .string ⟨#[]⟩, .string ⟨#[]⟩]) ?_ 0 _ rfl; (with_reducible repeat (first | refine blk_drewN ?_ _ | refine blk_drew ?_ | refine blk_alloc ?_ _)); exact BK329.out⟩
           have n3_ : Aside0 (Below w.heap.size w ((((w41.setCell ⟨gb329, 0, none⟩ (.bool t324)).setCell ⟨gb329, 1, none⟩ (.int .u64 t325)).setCell ⟨gb329, 2, none⟩ (.string t326)).setCell ⟨gb329, 3, none⟩ (.string t327))) := ⟨by repeat (first | (with_reducible first | exact HB.out | apply below_alloc | apply pw_below_drewN | apply below_drew1 | refine below_set ?_ GE308.out | refine below_set ?_ GE329.out) | exact HB.out)⟩
           (try clear HO317)
           (try clear BK308)
           (try clear BK329)
           (try clear HB)
           generalize ((((w41.setCell ⟨gb329, 0, none⟩ (.bool t324)).setCell ⟨gb329, 1, none⟩ (.int .u64 t325)).setCell ⟨gb329, 2, none⟩ (.string t326)).setCell ⟨gb329, 3, none⟩ (.string t327)) = w47 at n0_ n1_ n2_ n3_ ⊢
           have HO317 := n0_
           have BK308 := n1_
           have BK329 := n2_
           have HB := n3_
           clear n0_ n1_ n2_ n3_
           have n0_ := Aside0.mk (Kd.R_drew HO317.out)
           have n1_ := Aside0.mk (blk_drew BK308.out)
           have n2_ := Aside0.mk (blk_drew BK329.out)
           have n3_ := Aside0.mk (below_drew1 HB.out)
           clear HO317
           clear BK308
           clear BK329
           clear HB
           have HO317 := n0_
           have BK308 := n1_
           have BK329 := n2_
           have HB := n3_
           clear n0_ n1_ n2_ n3_
           refine start_ (n := 14) (S := fun w' => w'.cell? ⟨gb308, 0, none⟩ = some (.bool a0_0) ∧ w'.cell? ⟨gb308, 1, none⟩ = some (.int .u64 a0_1) ∧ w'.cell? ⟨gb308, 2, none⟩ = some (.string a0_2) ∧ w'.cell? ⟨gb308, 3, none⟩ = some (.string a0_3) ∧ w'.cell? ⟨gb329, 0, none⟩ = some (.bool t324) ∧ w'.cell? ⟨gb329, 1, none⟩ = some (.int .u64 t325) ∧ w'.cell? ⟨gb329, 2, none⟩ = some (.string t326) ∧ w'.cell? ⟨gb329, 3, none⟩ = some (.string t327) ∧ (convert 39 9 (.slice Ao38 t315.length co38)).run Try.prog w' = .ok (.string (strOfNums t315)) w') (ds := []) #[false, false, false, false, false, false, false, false, false, false, false, false, false, false] (by kernel_rfl) rfl rfl ⟨(blk_cell BK308.out 0).trans rfl, (blk_cell BK308.out 1).trans rfl, (blk_cell BK308.out 2).trans rfl, (blk_cell BK308.out 3).trans rfl, (blk_cell BK329.out 0).trans rfl, (blk_cell BK329.out 1).trans rfl, (blk_cell BK329.out 2).trans rfl, (blk_cell BK329.out 3).trans rfl, (own_string (P := Try.prog) Try.underlying39 Try.underlying5 Try.underlying9 (Kd.own_of_R HO317.out))⟩ (fun hHeld => ?_); refine with_tabW fasciclelaw09_FrameRecords.tab8 fasciclelaw09_FrameRecords.bits8 (fun HT_ HW_ => ?_)
           generalize w47.drew = w48 at HO317 BK308 BK329 HB hHeld ⊢
           refine pure_ (i := 0) (N := some 48) (v := ?_) (a' := ?_) #[true, false, false, false, false, false, false, false, false, false, false, false, false, false] rfl rfl (any_of HT_.out (by kernel_rfl)) (fun _ _ _ h => h) (Or.inl ⟨by rfl, ?_⟩) ?_ ?_
           rotate_left
           · intro w'; go_simp; with_reducible rfl
           rotate_left
           · simp only [Act.put, sA, sB, sC, i64_w, i32_w]; rfl
           refine take_ (i := 1) (N := some 49) (v := ?_) (a' := ?_) #[true, true, false, false, false, false, false, false, false, false, false, false, false, false] rfl rfl (take_ofW HT_.out HW_.out (by kernel_rfl)) (fun _ _ _ h => h) (Or.inl ⟨by rfl, ?_⟩) hHeld ?_ ?_
           rotate_left
           ·
            rintro w' ⟨s0, s1, s2, s3, s4, s5, s6, s7, s8⟩
            go_simp
            with_reducible rfl
           rotate_left
           · simp only [Act.put, sA, sB, sC, i64_w, i32_w]; rfl
           refine take_ (i := 2) (N := some 50) (v := ?_) (a' := ?_) #[true, true, true, false, false, false, false, false, false, false, false, false, false, false] rfl rfl (take_ofW HT_.out HW_.out (by kernel_rfl)) (fun _ _ _ h => h) (Or.inl ⟨by rfl, ?_⟩) hHeld ?_ ?_
           rotate_left
           ·
            rintro w' ⟨s0, s1, s2, s3, s4, s5, s6, s7, s8⟩
            go_simp
            with_reducible rfl
           rotate_left
           · simp only [Act.put, sA, sB, sC, i64_w, i32_w]; rfl
           refine one_ (i := 3) (N := some 51) #[true, true, true, true, false, false, false, false, false, false, false, false, false, false] rfl rfl (one_of HT_.out (by kernel_rfl)) (by decide) (fun K hK => ?_)
           refine goes_ Try.func33 (by kernel_rfl) rfl #[.agg #[.bool a0_0, .int .u64 a0_1, .string a0_2, .string a0_3]] (by rfl) rfl rfl (by (try simp only [mA, mB, mC]); first | done | rfl) ?_
           with_reducible refine (fascicleref09_Record.calls kj2 a0_0 a0_1 a0_2 a0_3 t330 _ A44.out).mono ?_
           rintro e w49 ⟨rfl, hb⟩
           refine ⟨_, rfl, ?_⟩
           have n0_ := Aside0.mk (Kd.R_below (by (with_reducible repeat (first | apply Kd.R_alloc | apply Kd.R_drewN | apply Kd.R_drew)); exact HO317.out) hb)
           have n1_ := Aside0.mk (blk_below (g := gb308) (o := .cells #[.bool a0_0, .int .u64 a0_1, .string a0_2, .string a0_3] 59 (0, 0)) (by (with_reducible repeat (first | refine blk_drewN ?_ _ | refine blk_drew ?_ | refine blk_alloc ?_ _)); exact BK308.out) hb)
           have n2_ := Aside0.mk (blk_below (g := gb329) (o := .cells #[.bool t324, .int .u64 t325, .string t326, .string t327] 59 (0, 0)) (by (with_reducible repeat (first | refine blk_drewN ?_ _ | refine blk_drew ?_ | refine blk_alloc ?_ _)); exact BK329.out) hb)
           have n3_ := Aside0.mk (below_step (by repeat with_reducible first | exact HB.out | apply below_alloc | apply pw_below_drewN | apply below_drew1 | refine below_set ?_ GE308.out | refine below_set ?_ GE329.out) hb)
           clear HO317
           clear BK308
           clear BK329
           clear HB
           have HO317 := n0_
           have BK308 := n1_
           have BK329 := n2_
           have HB := n3_
           clear n0_ n1_ n2_ n3_
           (try clear hb)
           (try clear hb2)
           (try clear hk)
           (try clear hi)
           refine hK.out _ _ ⟨(blk_cell BK308.out 0).trans rfl, (blk_cell BK308.out 1).trans rfl, (blk_cell BK308.out 2).trans rfl, (blk_cell BK308.out 3).trans rfl, (blk_cell BK329.out 0).trans rfl, (blk_cell BK329.out 1).trans rfl, (blk_cell BK329.out 2).trans rfl, (blk_cell BK329.out 3).trans rfl, (own_string (P := Try.prog) Try.underlying39 Try.underlying5 Try.underlying9 (Kd.own_of_R HO317.out))⟩ (fun hHeld => ?_)
           clear hK K
           refine norm_ (a' := ?_) ?_ ?_
           rotate_left
           · show Act.put _ (some 51) _ = _; simp only [Act.put, sA, sB, sC, i64_w, i32_w]; rfl
           refine pure_ (i := 4) (N := some 52) (v := ?_) (a' := ?_) #[true, true, true, true, true, false, false, false, false, false, false, false, false, false] rfl rfl (any_of HT_.out (by kernel_rfl)) (fun _ _ _ h => h) (Or.inl ⟨by rfl, ?_⟩) ?_ ?_
           rotate_left
           · intro w'; go_simp; with_reducible rfl
           rotate_left
           · simp only [Act.put, sA, sB, sC, i64_w, i32_w]; rfl
           refine pure_ (i := 5) (N := some 53) (v := ?_) (a' := ?_) #[true, true, true, true, true, true, false, false, false, false, false, false, false, false] rfl rfl (any_of HT_.out (by kernel_rfl)) (fun _ _ _ h => h) (Or.inl ⟨by rfl, ?_⟩) ?_ ?_
           rotate_left
           · intro w'; go_simp; with_reducible rfl
           rotate_left
           · simp only [Act.put, sA, sB, sC, i64_w, i32_w]; rfl
           refine pure_ (i := 6) (N := some 54) (v := ?_) (a' := ?_) #[true, true, true, true, true, true, true, false, false, false, false, false, false, false] rfl rfl (any_of HT_.out (by kernel_rfl)) (fun _ _ _ h => h) (Or.inl ⟨by rfl, ?_⟩) ?_ ?_
           rotate_left
           · intro w'; go_simp; with_reducible rfl
           rotate_left
           · simp only [Act.put, sA, sB, sC, i64_w, i32_w]; rfl
           refine pure_ (i := 7) (N := some 55) (v := ?_) (a' := ?_) #[true, true, true, true, true, true, true, true, false, false, false, false, false, false] rfl rfl (any_of HT_.out (by kernel_rfl)) (fun _ _ _ h => h) (Or.inl ⟨by rfl, ?_⟩) ?_ ?_
           rotate_left
           · intro w'; go_simp; with_reducible rfl
           rotate_left
           · simp only [Act.put, sA, sB, sC, i64_w, i32_w]; rfl
           refine pure_ (i := 8) (N := some 56) (v := ?_) (a' := ?_) #[true, true, true, true, true, true, true, true, true, false, false, false, false, false] rfl rfl (any_of HT_.out (by kernel_rfl)) (fun _ _ _ h => h) (Or.inl ⟨by rfl, ?_⟩) ?_ ?_
           rotate_left
           · intro w'; go_simp; with_reducible rfl
           rotate_left
           · simp only [Act.put, sA, sB, sC, i64_w, i32_w]; rfl
           refine pure_ (i := 9) (N := some 57) (v := ?_) (a' := ?_) #[true, true, true, true, true, true, true, true, true, true, false, false, false, false] rfl rfl (any_of HT_.out (by kernel_rfl)) (fun _ _ _ h => h) (Or.inl ⟨by rfl, ?_⟩) ?_ ?_
           rotate_left
           · intro w'; go_simp; with_reducible rfl
           rotate_left
           · simp only [Act.put, sA, sB, sC, i64_w, i32_w]; rfl
           refine take_ (i := 10) (N := some 58) (v := ?_) (a' := ?_) #[true, true, true, true, true, true, true, true, true, true, true, false, false, false] rfl rfl (take_ofW HT_.out HW_.out (by kernel_rfl)) (fun _ _ _ h => h) (Or.inl ⟨by rfl, ?_⟩) hHeld ?_ ?_
           rotate_left
           ·
            rintro w' ⟨s0, s1, s2, s3, s4, s5, s6, s7, s8⟩
            go_simp
            with_reducible rfl
           rotate_left
           · simp only [Act.put, sA, sB, sC, i64_w, i32_w]; rfl
           refine take_ (i := 11) (N := some 59) (v := ?_) (a' := ?_) #[true, true, true, true, true, true, true, true, true, true, true, true, false, false] rfl rfl (take_ofW HT_.out HW_.out (by kernel_rfl)) (fun _ _ _ h => h) (Or.inl ⟨by rfl, ?_⟩) hHeld ?_ ?_
           rotate_left
           ·
            rintro w' ⟨s0, s1, s2, s3, s4, s5, s6, s7, s8⟩
            go_simp
            with_reducible rfl
           rotate_left
           · simp only [Act.put, sA, sB, sC, i64_w, i32_w]; rfl
           refine pure_ (i := 12) (N := some 60) (v := ?_) (a' := ?_) #[true, true, true, true, true, true, true, true, true, true, true, true, true, false] rfl rfl (any_of HT_.out (by kernel_rfl)) (fun _ _ _ h => h) (Or.inl ⟨by rfl, ?_⟩) ?_ ?_
           rotate_left
           · intro w'; go_simp; with_reducible rfl
           rotate_left
           · simp only [Act.put, sA, sB, sC, i64_w, i32_w]; rfl
           refine pure_ (i := 13) (N := some 61) (v := ?_) (a' := ?_) #[true, true, true, true, true, true, true, true, true, true, true, true, true, true] rfl rfl (any_of HT_.out (by kernel_rfl)) (fun _ _ _ h => h) (Or.inl ⟨by rfl, ?_⟩) ?_ ?_
           rotate_left
           · intro w'; go_simp; with_reducible rfl
           rotate_left
           · simp only [Act.put, sA, sB, sC, i64_w, i32_w]; rfl
           refine done_ (done_of HT_.out (by kernel_rfl)) ?_
           try go_wp2
           go_meet
           case rel => exact ⟨_, ((!(t324 == a0_0) || (!(t325 == a0_1) || (!(t326.toList == a0_2.toList) || (!(t327.toList == a0_3.toList)))))), (by first | rfl | (simp; done) | (simp [*]; done) | (simp; exact iE _)), H', ⟨by have := HJ2.out; first | omega | exact Nat.le_refl _⟩, ⟨by (with_reducible repeat (first | apply Kd.R_alloc | apply Kd.R_drewN | apply Kd.R_drew)); exact HO317.out⟩, ⟨by (with_reducible repeat (first | refine blk_drewN ?_ _ | refine blk_drew ?_ | refine blk_alloc ?_ _)); exact BK308.out⟩, ⟨by (with_reducible repeat (first | refine blk_drewN ?_ _ | refine blk_drew ?_ | refine blk_alloc ?_ _)); exact BK329.out⟩, ⟨by repeat (first | (with_reducible first | exact HB.out | apply below_alloc | apply pw_below_drewN | apply below_drew1 | refine below_set ?_ GE308.out | refine below_set ?_ GE329.out) | exact HB.out)⟩⟩
          ·
           rw [if_neg c46] at H
           have c46b0 : (t328 == 0) = false := beq_eq_false_iff_ne.mpr c46
           have c46b1 : (t328 != 0) = true := bne_iff_ne.mpr c46
           have H' := Aside0.mk H
           clear H
           try go_wp2
           have n0_ : Aside0 (Kd.R (Kd.int .u8) 5 ((((w41.setCell ⟨gb329, 0, none⟩ (.bool t324)).setCell ⟨gb329, 1, none⟩ (.int .u64 t325)).setCell ⟨gb329, 2, none⟩ (.string t326)).setCell ⟨gb329, 3, none⟩ (.string t327)) w.heap.size (fun _ => True) (.slice Ao38 t315.length co38) t315) := ⟨by (with_reducible repeat (first | apply Kd.R_alloc | apply Kd.R_drewN | apply Kd.R_drew)); exact Kd.R_mono (Kd.R_far (p := ⟨gb329, 3, none⟩) (Kd.R_far (p := ⟨gb329, 2, none⟩) (Kd.R_far (p := ⟨gb329, 1, none⟩) (Kd.R_far (p := ⟨gb329, 0, none⟩) (Kd.R_types HO317.out BK329.out (by decide)) (fun _ hk => by first | exact hk.2 | exact hk) (.bool t324)) (fun _ hk => by first | exact hk.2 | exact hk) (.int .u64 t325)) (fun _ hk => by first | exact hk.2 | exact hk) (.string t326)) (fun _ hk => by first | exact hk.2 | exact hk) (.string t327)) (fun _ hk => trivial)⟩
           have n1_ : Aside0 (((((w41.setCell ⟨gb329, 0, none⟩ (.bool t324)).setCell ⟨gb329, 1, none⟩ (.int .u64 t325)).setCell ⟨gb329, 2, none⟩ (.string t326)).setCell ⟨gb329, 3, none⟩ (.string t327)).heap[gb308]? = some (.cells #[.bool a0_0, .int .u64 a0_1, .string a0_2, .string a0_3] 59 (0, 0))) := ⟨by (with_reducible repeat (first | refine blk_drewN ?_ _ | refine blk_drew ?_ | refine blk_alloc ?_ _)); refine blk_far ?_ NB308_329.out _; refine blk_far ?_ NB308_329.out _; refine blk_far ?_ NB308_329.out _; refine blk_far ?_ NB308_329.out _; (with_reducible repeat (first | refine blk_drewN ?_ _ | refine blk_drew ?_ | refine blk_alloc ?_ _)); exact BK308.out⟩
           have n2_ : Aside0 (((((w41.setCell ⟨gb329, 0, none⟩ (.bool t324)).setCell ⟨gb329, 1, none⟩ (.int .u64 t325)).setCell ⟨gb329, 2, none⟩ (.string t326)).setCell ⟨gb329, 3, none⟩ (.string t327)).heap[gb329]? = some (.cells #[.bool t324, .int .u64 t325, .string t326, .string t327] 59 (0, 0))) := ⟨by (with_reducible repeat (first | refine blk_drewN ?_ _ | refine blk_drew ?_ | refine blk_alloc ?_ _)); refine blk_put (cs := #[.bool t324, .int .u64 t325, .string t326, .string ⟨#[]⟩]) ?_ 3 _ rfl; refine blk_put (cs := #[.bool t324, .int .u64 t325, .string ⟨#[]⟩, .string ⟨#[]⟩]) ?_ 2 _ rfl; refine blk_put (cs := #[.bool t324, .int .u64 0, .string ⟨#[]⟩, .string ⟨#[]⟩]) ?_ 1 _ rfl; refine blk_put (cs := #[.bool false, .int .u64 0, .string ⟨#[]⟩, .string ⟨#[]⟩]) ?_ 0 _ rfl; (with_reducible repeat (first | refine blk_drewN ?_ _ | refine blk_drew ?_ | refine blk_alloc ?_ _)); exact BK329.out⟩
           have n3_ : Aside0 (Below w.heap.size w ((((w41.setCell ⟨gb329, 0, none⟩ (.bool t324)).setCell ⟨gb329, 1, none⟩ (.int .u64 t325)).setCell ⟨gb329, 2, none⟩ (.string t326)).setCell ⟨gb329, 3, none⟩ (.string t327))) := ⟨by repeat (first | (with_reducible first | exact HB.out | apply below_alloc | apply pw_below_drewN | apply below_drew1 | refine below_set ?_ GE308.out | refine below_set ?_ GE329.out) | exact HB.out)⟩
           (try clear HO317)
           (try clear BK308)
           (try clear BK329)
           (try clear HB)
           generalize ((((w41.setCell ⟨gb329, 0, none⟩ (.bool t324)).setCell ⟨gb329, 1, none⟩ (.int .u64 t325)).setCell ⟨gb329, 2, none⟩ (.string t326)).setCell ⟨gb329, 3, none⟩ (.string t327)) = w51 at n0_ n1_ n2_ n3_ ⊢
           have HO317 := n0_
           have BK308 := n1_
           have BK329 := n2_
           have HB := n3_
           clear n0_ n1_ n2_ n3_
           have n0_ := Aside0.mk (Kd.R_drew HO317.out)
           have n1_ := Aside0.mk (blk_drew BK308.out)
           have n2_ := Aside0.mk (blk_drew BK329.out)
           have n3_ := Aside0.mk (below_drew1 HB.out)
           clear HO317
           clear BK308
           clear BK329
           clear HB
           have HO317 := n0_
           have BK308 := n1_
           have BK329 := n2_
           have HB := n3_
           clear n0_ n1_ n2_ n3_
           refine start_ (n := 14) (S := fun w' => w'.cell? ⟨gb308, 0, none⟩ = some (.bool a0_0) ∧ w'.cell? ⟨gb308, 1, none⟩ = some (.int .u64 a0_1) ∧ w'.cell? ⟨gb308, 2, none⟩ = some (.string a0_2) ∧ w'.cell? ⟨gb308, 3, none⟩ = some (.string a0_3) ∧ (convert 39 9 (.slice Ao38 t315.length co38)).run Try.prog w' = .ok (.string (strOfNums t315)) w') (ds := []) #[false, false, false, false, false, false, false, false, false, false, false, false, false, false] (by kernel_rfl) rfl rfl ⟨(blk_cell BK308.out 0).trans rfl, (blk_cell BK308.out 1).trans rfl, (blk_cell BK308.out 2).trans rfl, (blk_cell BK308.out 3).trans rfl, (own_string (P := Try.prog) Try.underlying39 Try.underlying5 Try.underlying9 (Kd.own_of_R HO317.out))⟩ (fun hHeld => ?_); refine with_tabW fasciclelaw09_FrameRecords.tab8 fasciclelaw09_FrameRecords.bits8 (fun HT_ HW_ => ?_)
           generalize w51.drew = w52 at HO317 BK308 BK329 HB hHeld ⊢
           refine pure_ (i := 0) (N := some 48) (v := ?_) (a' := ?_) #[true, false, false, false, false, false, false, false, false, false, false, false, false, false] rfl rfl (any_of HT_.out (by kernel_rfl)) (fun _ _ _ h => h) (Or.inl ⟨by rfl, ?_⟩) ?_ ?_
           rotate_left
           · intro w'; go_simp; with_reducible rfl
           rotate_left
           · simp only [Act.put, sA, sB, sC, i64_w, i32_w]; rfl
           refine take_ (i := 1) (N := some 49) (v := ?_) (a' := ?_) #[true, true, false, false, false, false, false, false, false, false, false, false, false, false] rfl rfl (take_ofW HT_.out HW_.out (by kernel_rfl)) (fun _ _ _ h => h) (Or.inl ⟨by rfl, ?_⟩) hHeld ?_ ?_
           rotate_left
           ·
            rintro w' ⟨s0, s1, s2, s3, s4⟩
            go_simp
            with_reducible rfl
           rotate_left
           · simp only [Act.put, sA, sB, sC, i64_w, i32_w]; rfl
           refine take_ (i := 2) (N := some 50) (v := ?_) (a' := ?_) #[true, true, true, false, false, false, false, false, false, false, false, false, false, false] rfl rfl (take_ofW HT_.out HW_.out (by kernel_rfl)) (fun _ _ _ h => h) (Or.inl ⟨by rfl, ?_⟩) hHeld ?_ ?_
           rotate_left
           ·
            rintro w' ⟨s0, s1, s2, s3, s4⟩
            go_simp
            with_reducible rfl
           rotate_left
           · simp only [Act.put, sA, sB, sC, i64_w, i32_w]; rfl
           refine one_ (i := 3) (N := some 51) #[true, true, true, true, false, false, false, false, false, false, false, false, false, false] rfl rfl (one_of HT_.out (by kernel_rfl)) (by decide) (fun K hK => ?_)
           refine goes_ Try.func33 (by kernel_rfl) rfl #[.agg #[.bool a0_0, .int .u64 a0_1, .string a0_2, .string a0_3]] (by rfl) rfl rfl (by (try simp only [mA, mB, mC]); first | done | rfl) ?_
           with_reducible refine (fascicleref09_Record.calls kj2 a0_0 a0_1 a0_2 a0_3 t330 _ A44.out).mono ?_
           rintro e w53 ⟨rfl, hb⟩
           refine ⟨_, rfl, ?_⟩
           have n0_ := Aside0.mk (Kd.R_below (by (with_reducible repeat (first | apply Kd.R_alloc | apply Kd.R_drewN | apply Kd.R_drew)); exact HO317.out) hb)
           have n1_ := Aside0.mk (blk_below (g := gb308) (o := .cells #[.bool a0_0, .int .u64 a0_1, .string a0_2, .string a0_3] 59 (0, 0)) (by (with_reducible repeat (first | refine blk_drewN ?_ _ | refine blk_drew ?_ | refine blk_alloc ?_ _)); exact BK308.out) hb)
           have n2_ := Aside0.mk (blk_below (g := gb329) (o := .cells #[.bool t324, .int .u64 t325, .string t326, .string t327] 59 (0, 0)) (by (with_reducible repeat (first | refine blk_drewN ?_ _ | refine blk_drew ?_ | refine blk_alloc ?_ _)); exact BK329.out) hb)
           have n3_ := Aside0.mk (below_step (by repeat with_reducible first | exact HB.out | apply below_alloc | apply pw_below_drewN | apply below_drew1 | refine below_set ?_ GE308.out | refine below_set ?_ GE329.out) hb)
           clear HO317
           clear BK308
           clear BK329
           clear HB
           have HO317 := n0_
           have BK308 := n1_
           have BK329 := n2_
           have HB := n3_
           clear n0_ n1_ n2_ n3_
           (try clear hb)
           (try clear hb2)
           (try clear hk)
           (try clear hi)
           refine hK.out _ _ ⟨(blk_cell BK308.out 0).trans rfl, (blk_cell BK308.out 1).trans rfl, (blk_cell BK308.out 2).trans rfl, (blk_cell BK308.out 3).trans rfl, (own_string (P := Try.prog) Try.underlying39 Try.underlying5 Try.underlying9 (Kd.own_of_R HO317.out))⟩ (fun hHeld => ?_)
           clear hK K
           refine norm_ (a' := ?_) ?_ ?_
           rotate_left
           · show Act.put _ (some 51) _ = _; simp only [Act.put, sA, sB, sC, i64_w, i32_w]; rfl
           refine pure_ (i := 4) (N := some 52) (v := ?_) (a' := ?_) #[true, true, true, true, true, false, false, false, false, false, false, false, false, false] rfl rfl (any_of HT_.out (by kernel_rfl)) (fun _ _ _ h => h) (Or.inl ⟨by rfl, ?_⟩) ?_ ?_
           rotate_left
           · intro w'; go_simp; with_reducible rfl
           rotate_left
           · simp only [Act.put, sA, sB, sC, i64_w, i32_w]; rfl
           refine pure_ (i := 5) (N := some 53) (v := ?_) (a' := ?_) #[true, true, true, true, true, true, false, false, false, false, false, false, false, false] rfl rfl (any_of HT_.out (by kernel_rfl)) (fun _ _ _ h => h) (Or.inl ⟨by rfl, ?_⟩) ?_ ?_
           rotate_left
           · intro w'; go_simp; with_reducible rfl
           rotate_left
           · simp only [Act.put, sA, sB, sC, i64_w, i32_w]; rfl
           refine pure_ (i := 6) (N := some 54) (v := ?_) (a' := ?_) #[true, true, true, true, true, true, true, false, false, false, false, false, false, false] rfl rfl (any_of HT_.out (by kernel_rfl)) (fun _ _ _ h => h) (Or.inl ⟨by rfl, ?_⟩) ?_ ?_
           rotate_left
           · intro w'; go_simp; with_reducible rfl
           rotate_left
           · simp only [Act.put, sA, sB, sC, i64_w, i32_w]; rfl
           refine pure_ (i := 7) (N := some 55) (v := ?_) (a' := ?_) #[true, true, true, true, true, true, true, true, false, false, false, false, false, false] rfl rfl (any_of HT_.out (by kernel_rfl)) (fun _ _ _ h => h) (Or.inl ⟨by rfl, ?_⟩) ?_ ?_
           rotate_left
           · intro w'; go_simp; with_reducible rfl
           rotate_left
           · simp only [Act.put, sA, sB, sC, i64_w, i32_w]; rfl
           refine pure_ (i := 8) (N := some 56) (v := ?_) (a' := ?_) #[true, true, true, true, true, true, true, true, true, false, false, false, false, false] rfl rfl (any_of HT_.out (by kernel_rfl)) (fun _ _ _ h => h) (Or.inl ⟨by rfl, ?_⟩) ?_ ?_
           rotate_left
           · intro w'; go_simp; with_reducible rfl
           rotate_left
           · simp only [Act.put, sA, sB, sC, i64_w, i32_w]; rfl
           refine pure_ (i := 9) (N := some 57) (v := ?_) (a' := ?_) #[true, true, true, true, true, true, true, true, true, true, false, false, false, false] rfl rfl (any_of HT_.out (by kernel_rfl)) (fun _ _ _ h => h) (Or.inl ⟨by rfl, ?_⟩) ?_ ?_
           rotate_left
           · intro w'; go_simp; with_reducible rfl
           rotate_left
           · simp only [Act.put, sA, sB, sC, i64_w, i32_w]; rfl
           refine pure_ (i := 10) (N := some 58) (v := undef) (a' := ?_) #[true, true, true, true, true, true, true, true, true, true, true, false, false, false] rfl rfl (any_of HT_.out (by kernel_rfl)) (fun _ _ _ h => h) (Or.inr ⟨by rfl, rfl⟩) ?_ ?_
           rotate_left
           · simp only [Act.put, sA, sB, sC, i64_w, i32_w]; rfl
           refine pure_ (i := 11) (N := some 59) (v := undef) (a' := ?_) #[true, true, true, true, true, true, true, true, true, true, true, true, false, false] rfl rfl (any_of HT_.out (by kernel_rfl)) (fun _ _ _ h => h) (Or.inr ⟨by rfl, rfl⟩) ?_ ?_
           rotate_left
           · simp only [Act.put, sA, sB, sC, i64_w, i32_w]; rfl
           refine pure_ (i := 12) (N := some 60) (v := undef) (a' := ?_) #[true, true, true, true, true, true, true, true, true, true, true, true, true, false] rfl rfl (any_of HT_.out (by kernel_rfl)) (fun _ _ _ h => h) (Or.inr ⟨by rfl, rfl⟩) ?_ ?_
           rotate_left
           · simp only [Act.put, sA, sB, sC, i64_w, i32_w]; rfl
           refine pure_ (i := 13) (N := some 61) (v := ?_) (a' := ?_) #[true, true, true, true, true, true, true, true, true, true, true, true, true, true] rfl rfl (any_of HT_.out (by kernel_rfl)) (fun _ _ _ h => h) (Or.inl ⟨by rfl, ?_⟩) ?_ ?_
           rotate_left
           · intro w'; go_simp; with_reducible rfl
           rotate_left
           · simp only [Act.put, sA, sB, sC, i64_w, i32_w]; rfl
           refine done_ (done_of HT_.out (by kernel_rfl)) ?_
           try go_wp2
           go_meet
           case rel => exact ⟨_, (true), (by first | rfl | (simp; done) | (simp [*]; done) | (simp; exact iE _)), H', ⟨by have := HJ2.out; first | omega | exact Nat.le_refl _⟩, ⟨by (with_reducible repeat (first | apply Kd.R_alloc | apply Kd.R_drewN | apply Kd.R_drew)); exact HO317.out⟩, ⟨by (with_reducible repeat (first | refine blk_drewN ?_ _ | refine blk_drew ?_ | refine blk_alloc ?_ _)); exact BK308.out⟩, ⟨by (with_reducible repeat (first | refine blk_drewN ?_ _ | refine blk_drew ?_ | refine blk_alloc ?_ _)); exact BK329.out⟩, ⟨by repeat (first | (with_reducible first | exact HB.out | apply below_alloc | apply pw_below_drewN | apply below_drew1 | refine below_set ?_ GE308.out | refine below_set ?_ GE329.out) | exact HB.out)⟩⟩
         ·
          rw [if_neg c45] at H
          have c45b0 : ((strOfNums t315).toList == t330.toList) = false := beq_eq_false_iff_ne.mpr c45
          have c45b1 : ((strOfNums t315).toList != t330.toList) = true := bne_iff_ne.mpr c45
          (first | rw [c45b0] | (simp only [i64_w, i32_w]; rw [c45b0]) | skip)
          have H' := Aside0.mk H
          clear H
          try go_wp2
          have n0_ : Aside0 (Kd.R (Kd.int .u8) 5 ((((w41.setCell ⟨gb329, 0, none⟩ (.bool t324)).setCell ⟨gb329, 1, none⟩ (.int .u64 t325)).setCell ⟨gb329, 2, none⟩ (.string t326)).setCell ⟨gb329, 3, none⟩ (.string t327)) w.heap.size (fun _ => True) (.slice Ao38 t315.length co38) t315) := ⟨by (with_reducible repeat (first | apply Kd.R_alloc | apply Kd.R_drewN | apply Kd.R_drew)); exact Kd.R_mono (Kd.R_far (p := ⟨gb329, 3, none⟩) (Kd.R_far (p := ⟨gb329, 2, none⟩) (Kd.R_far (p := ⟨gb329, 1, none⟩) (Kd.R_far (p := ⟨gb329, 0, none⟩) (Kd.R_types HO317.out BK329.out (by decide)) (fun _ hk => by first | exact hk.2 | exact hk) (.bool t324)) (fun _ hk => by first | exact hk.2 | exact hk) (.int .u64 t325)) (fun _ hk => by first | exact hk.2 | exact hk) (.string t326)) (fun _ hk => by first | exact hk.2 | exact hk) (.string t327)) (fun _ hk => trivial)⟩
          have n1_ : Aside0 (((((w41.setCell ⟨gb329, 0, none⟩ (.bool t324)).setCell ⟨gb329, 1, none⟩ (.int .u64 t325)).setCell ⟨gb329, 2, none⟩ (.string t326)).setCell ⟨gb329, 3, none⟩ (.string t327)).heap[gb308]? = some (.cells #[.bool a0_0, .int .u64 a0_1, .string a0_2, .string a0_3] 59 (0, 0))) := ⟨by (with_reducible repeat (first | refine blk_drewN ?_ _ | refine blk_drew ?_ | refine blk_alloc ?_ _)); refine blk_far ?_ NB308_329.out _; refine blk_far ?_ NB308_329.out _; refine blk_far ?_ NB308_329.out _; refine blk_far ?_ NB308_329.out _; (with_reducible repeat (first | refine blk_drewN ?_ _ | refine blk_drew ?_ | refine blk_alloc ?_ _)); exact BK308.out⟩
          have n2_ : Aside0 (((((w41.setCell ⟨gb329, 0, none⟩ (.bool t324)).setCell ⟨gb329, 1, none⟩ (.int .u64 t325)).setCell ⟨gb329, 2, none⟩ (.string t326)).setCell ⟨gb329, 3, none⟩ (.string t327)).heap[gb329]? = some (.cells #[.bool t324, .int .u64 t325, .string t326, .string t327] 59 (0, 0))) := ⟨by (with_reducible repeat (first | refine blk_drewN ?_ _ | refine blk_drew ?_ | refine blk_alloc ?_ _)); refine blk_put (cs := #[.bool t324, .int .u64 t325, .string t326, .string ⟨#[]⟩]) ?_ 3 _ rfl; refine blk_put (cs := #[.bool t324, .int .u64 t325, .string ⟨#[]⟩, .string ⟨#[]⟩]) ?_ 2 _ rfl; refine blk_put (cs := #[.bool t324, .int .u64 0, .string ⟨#[]⟩, .string ⟨#[]⟩]) ?_ 1 _ rfl; refine blk_put (cs := #[.bool false, .int .u64 0, .string ⟨#[]⟩, .string ⟨#[]⟩]) ?_ 0 _ rfl; (with_reducible repeat (first | refine blk_drewN ?_ _ | refine blk_drew ?_ | refine blk_alloc ?_ _)); exact BK329.out⟩
          have n3_ : Aside0 (Below w.heap.size w ((((w41.setCell ⟨gb329, 0, none⟩ (.bool t324)).setCell ⟨gb329, 1, none⟩ (.int .u64 t325)).setCell ⟨gb329, 2, none⟩ (.string t326)).setCell ⟨gb329, 3, none⟩ (.string t327))) := ⟨by repeat (first | (with_reducible first | exact HB.out | apply below_alloc | apply pw_below_drewN | apply below_drew1 | refine below_set ?_ GE308.out | refine below_set ?_ GE329.out) | exact HB.out)⟩
          (try clear HO317)
          (try clear BK308)
          (try clear BK329)
          (try clear HB)
          generalize ((((w41.setCell ⟨gb329, 0, none⟩ (.bool t324)).setCell ⟨gb329, 1, none⟩ (.int .u64 t325)).setCell ⟨gb329, 2, none⟩ (.string t326)).setCell ⟨gb329, 3, none⟩ (.string t327)) = w55 at n0_ n1_ n2_ n3_ ⊢
          have HO317 := n0_
          have BK308 := n1_
          have BK329 := n2_
          have HB := n3_
          clear n0_ n1_ n2_ n3_
          have n0_ := Aside0.mk (Kd.R_drew HO317.out)
          have n1_ := Aside0.mk (blk_drew BK308.out)
          have n2_ := Aside0.mk (blk_drew BK329.out)
          have n3_ := Aside0.mk (below_drew1 HB.out)
          clear HO317
          clear BK308
          clear BK329
          clear HB
          have HO317 := n0_
          have BK308 := n1_
          have BK329 := n2_
          have HB := n3_
          clear n0_ n1_ n2_ n3_
          refine start_ (n := 14) (S := fun w' => w'.cell? ⟨gb308, 0, none⟩ = some (.bool a0_0) ∧ w'.cell? ⟨gb308, 1, none⟩ = some (.int .u64 a0_1) ∧ w'.cell? ⟨gb308, 2, none⟩ = some (.string a0_2) ∧ w'.cell? ⟨gb308, 3, none⟩ = some (.string a0_3) ∧ (convert 39 9 (.slice Ao38 t315.length co38)).run Try.prog w' = .ok (.string (strOfNums t315)) w') (ds := []) #[false, false, false, false, false, false, false, false, false, false, false, false, false, false] (by kernel_rfl) rfl rfl ⟨(blk_cell BK308.out 0).trans rfl, (blk_cell BK308.out 1).trans rfl, (blk_cell BK308.out 2).trans rfl, (blk_cell BK308.out 3).trans rfl, (own_string (P := Try.prog) Try.underlying39 Try.underlying5 Try.underlying9 (Kd.own_of_R HO317.out))⟩ (fun hHeld => ?_); refine with_tabW fasciclelaw09_FrameRecords.tab8 fasciclelaw09_FrameRecords.bits8 (fun HT_ HW_ => ?_)
          generalize w55.drew = w56 at HO317 BK308 BK329 HB hHeld ⊢
          refine pure_ (i := 0) (N := some 48) (v := ?_) (a' := ?_) #[true, false, false, false, false, false, false, false, false, false, false, false, false, false] rfl rfl (any_of HT_.out (by kernel_rfl)) (fun _ _ _ h => h) (Or.inl ⟨by rfl, ?_⟩) ?_ ?_
          rotate_left
          · intro w'; go_simp; with_reducible rfl
          rotate_left
          · simp only [Act.put, sA, sB, sC, i64_w, i32_w]; rfl
          refine take_ (i := 1) (N := some 49) (v := ?_) (a' := ?_) #[true, true, false, false, false, false, false, false, false, false, false, false, false, false] rfl rfl (take_ofW HT_.out HW_.out (by kernel_rfl)) (fun _ _ _ h => h) (Or.inl ⟨by rfl, ?_⟩) hHeld ?_ ?_
          rotate_left
          ·
           rintro w' ⟨s0, s1, s2, s3, s4⟩
           go_simp
           with_reducible rfl
          rotate_left
          · simp only [Act.put, sA, sB, sC, i64_w, i32_w]; rfl
          refine take_ (i := 2) (N := some 50) (v := ?_) (a' := ?_) #[true, true, true, false, false, false, false, false, false, false, false, false, false, false] rfl rfl (take_ofW HT_.out HW_.out (by kernel_rfl)) (fun _ _ _ h => h) (Or.inl ⟨by rfl, ?_⟩) hHeld ?_ ?_
          rotate_left
          ·
           rintro w' ⟨s0, s1, s2, s3, s4⟩
           go_simp
           with_reducible rfl
          rotate_left
          · simp only [Act.put, sA, sB, sC, i64_w, i32_w]; rfl
          refine one_ (i := 3) (N := some 51) #[true, true, true, true, false, false, false, false, false, false, false, false, false, false] rfl rfl (one_of HT_.out (by kernel_rfl)) (by decide) (fun K hK => ?_)
          refine goes_ Try.func33 (by kernel_rfl) rfl #[.agg #[.bool a0_0, .int .u64 a0_1, .string a0_2, .string a0_3]] (by rfl) rfl rfl (by (try simp only [mA, mB, mC]); first | done | rfl) ?_
          with_reducible refine (fascicleref09_Record.calls kj2 a0_0 a0_1 a0_2 a0_3 t330 _ A44.out).mono ?_
          rintro e w57 ⟨rfl, hb⟩
          refine ⟨_, rfl, ?_⟩
          have n0_ := Aside0.mk (Kd.R_below (by (with_reducible repeat (first | apply Kd.R_alloc | apply Kd.R_drewN | apply Kd.R_drew)); exact HO317.out) hb)
          have n1_ := Aside0.mk (blk_below (g := gb308) (o := .cells #[.bool a0_0, .int .u64 a0_1, .string a0_2, .string a0_3] 59 (0, 0)) (by (with_reducible repeat (first | refine blk_drewN ?_ _ | refine blk_drew ?_ | refine blk_alloc ?_ _)); exact BK308.out) hb)
          have n2_ := Aside0.mk (blk_below (g := gb329) (o := .cells #[.bool t324, .int .u64 t325, .string t326, .string t327] 59 (0, 0)) (by (with_reducible repeat (first | refine blk_drewN ?_ _ | refine blk_drew ?_ | refine blk_alloc ?_ _)); exact BK329.out) hb)
          have n3_ := Aside0.mk (below_step (by repeat with_reducible first | exact HB.out | apply below_alloc | apply pw_below_drewN | apply below_drew1 | refine below_set ?_ GE308.out | refine below_set ?_ GE329.out) hb)
          clear HO317
          clear BK308
          clear BK329
          clear HB
          have HO317 := n0_
          have BK308 := n1_
          have BK329 := n2_
          have HB := n3_
          clear n0_ n1_ n2_ n3_
          (try clear hb)
          (try clear hb2)
          (try clear hk)
          (try clear hi)
          refine hK.out _ _ ⟨(blk_cell BK308.out 0).trans rfl, (blk_cell BK308.out 1).trans rfl, (blk_cell BK308.out 2).trans rfl, (blk_cell BK308.out 3).trans rfl, (own_string (P := Try.prog) Try.underlying39 Try.underlying5 Try.underlying9 (Kd.own_of_R HO317.out))⟩ (fun hHeld => ?_)
          clear hK K
          refine norm_ (a' := ?_) ?_ ?_
          rotate_left
          · show Act.put _ (some 51) _ = _; simp only [Act.put, sA, sB, sC, i64_w, i32_w]; rfl
          refine pure_ (i := 4) (N := some 52) (v := ?_) (a' := ?_) #[true, true, true, true, true, false, false, false, false, false, false, false, false, false] rfl rfl (any_of HT_.out (by kernel_rfl)) (fun _ _ _ h => h) (Or.inl ⟨by rfl, ?_⟩) ?_ ?_
          rotate_left
          · intro w'; go_simp; with_reducible rfl
          rotate_left
          · simp only [Act.put, sA, sB, sC, i64_w, i32_w]; rfl
          refine pure_ (i := 5) (N := some 53) (v := ?_) (a' := ?_) #[true, true, true, true, true, true, false, false, false, false, false, false, false, false] rfl rfl (any_of HT_.out (by kernel_rfl)) (fun _ _ _ h => h) (Or.inl ⟨by rfl, ?_⟩) ?_ ?_
          rotate_left
          · intro w'; go_simp; with_reducible rfl
          rotate_left
          · simp only [Act.put, sA, sB, sC, i64_w, i32_w]; rfl
          refine pure_ (i := 6) (N := some 54) (v := undef) (a' := ?_) #[true, true, true, true, true, true, true, false, false, false, false, false, false, false] rfl rfl (any_of HT_.out (by kernel_rfl)) (fun _ _ _ h => h) (Or.inr ⟨by rfl, rfl⟩) ?_ ?_
          rotate_left
          · simp only [Act.put, sA, sB, sC, i64_w, i32_w]; rfl
          refine pure_ (i := 7) (N := some 55) (v := undef) (a' := ?_) #[true, true, true, true, true, true, true, true, false, false, false, false, false, false] rfl rfl (any_of HT_.out (by kernel_rfl)) (fun _ _ _ h => h) (Or.inr ⟨by rfl, rfl⟩) ?_ ?_
          rotate_left
          · simp only [Act.put, sA, sB, sC, i64_w, i32_w]; rfl
          refine pure_ (i := 8) (N := some 56) (v := ?_) (a' := ?_) #[true, true, true, true, true, true, true, true, true, false, false, false, false, false] rfl rfl (any_of HT_.out (by kernel_rfl)) (fun _ _ _ h => h) (Or.inl ⟨by rfl, ?_⟩) ?_ ?_
          rotate_left
          · intro w'; go_simp; with_reducible rfl
          rotate_left
          · simp only [Act.put, sA, sB, sC, i64_w, i32_w]; rfl
          refine pure_ (i := 9) (N := some 57) (v := ?_) (a' := ?_) #[true, true, true, true, true, true, true, true, true, true, false, false, false, false] rfl rfl (any_of HT_.out (by kernel_rfl)) (fun _ _ _ h => h) (Or.inl ⟨by rfl, ?_⟩) ?_ ?_
          rotate_left
          · intro w'; go_simp; with_reducible rfl
          rotate_left
          · simp only [Act.put, sA, sB, sC, i64_w, i32_w]; rfl
          refine pure_ (i := 10) (N := some 58) (v := undef) (a' := ?_) #[true, true, true, true, true, true, true, true, true, true, true, false, false, false] rfl rfl (any_of HT_.out (by kernel_rfl)) (fun _ _ _ h => h) (Or.inr ⟨by rfl, rfl⟩) ?_ ?_
          rotate_left
          · simp only [Act.put, sA, sB, sC, i64_w, i32_w]; rfl
          refine pure_ (i := 11) (N := some 59) (v := undef) (a' := ?_) #[true, true, true, true, true, true, true, true, true, true, true, true, false, false] rfl rfl (any_of HT_.out (by kernel_rfl)) (fun _ _ _ h => h) (Or.inr ⟨by rfl, rfl⟩) ?_ ?_
          rotate_left
          · simp only [Act.put, sA, sB, sC, i64_w, i32_w]; rfl
          refine pure_ (i := 12) (N := some 60) (v := undef) (a' := ?_) #[true, true, true, true, true, true, true, true, true, true, true, true, true, false] rfl rfl (any_of HT_.out (by kernel_rfl)) (fun _ _ _ h => h) (Or.inr ⟨by rfl, rfl⟩) ?_ ?_
          rotate_left
          · simp only [Act.put, sA, sB, sC, i64_w, i32_w]; rfl
          refine pure_ (i := 13) (N := some 61) (v := ?_) (a' := ?_) #[true, true, true, true, true, true, true, true, true, true, true, true, true, true] rfl rfl (any_of HT_.out (by kernel_rfl)) (fun _ _ _ h => h) (Or.inl ⟨by rfl, ?_⟩) ?_ ?_
          rotate_left
          · intro w'; go_simp; with_reducible rfl
          rotate_left
          · simp only [Act.put, sA, sB, sC, i64_w, i32_w]; rfl
          refine done_ (done_of HT_.out (by kernel_rfl)) ?_
          try go_wp2
          go_meet
          case rel => exact ⟨_, (true), (by first | rfl | (simp; done) | (simp [*]; done) | (simp; exact iE _)), H', ⟨by have := HJ2.out; first | omega | exact Nat.le_refl _⟩, ⟨by (with_reducible repeat (first | apply Kd.R_alloc | apply Kd.R_drewN | apply Kd.R_drew)); exact HO317.out⟩, ⟨by (with_reducible repeat (first | refine blk_drewN ?_ _ | refine blk_drew ?_ | refine blk_alloc ?_ _)); exact BK308.out⟩, ⟨by (with_reducible repeat (first | refine blk_drewN ?_ _ | refine blk_drew ?_ | refine blk_alloc ?_ _)); exact BK329.out⟩, ⟨by repeat (first | (with_reducible first | exact HB.out | apply below_alloc | apply pw_below_drewN | apply below_drew1 | refine below_set ?_ GE308.out | refine below_set ?_ GE329.out) | exact HB.out)⟩⟩
        case rest =>
         clear HC33
         (try clear c1); (try clear c2); (try clear p2); (try clear c3); (try clear q3); (try clear c4); (try clear p6); (try clear c18); (try clear c22); (try clear c27); (try clear c27b0); (try clear c27b1); (try clear c28); (try clear c28b0); (try clear c28b1); (try clear c30); (try clear c30b0); (try clear c30b1); (try clear c31); (try clear c31b0); (try clear c31b1); (try clear c32); (try clear c33); (try clear q39); (try clear c42); (try clear c45); (try clear c45b0); (try clear c45b1); (try clear c46); (try clear c46b0); (try clear c46b1); (try clear hcz16_2); (try clear hcz16_3); (try clear hcz34_0); (try clear hcz34_1); (try clear hcz34_2); (try clear hcz34_3); (try clear hcz36_0); (try clear hcz36_1); (try clear hcz36_2); (try clear hcz36_3); (try clear hcz43_0); (try clear hcz43_1); (try clear hcz43_2); (try clear hcz43_3); (try clear hfz10_0); (try clear hfz10_1); (try clear hfz10_2); (try clear hfz10_3); (try clear hfz16_0); (try clear hfz16_1); (try clear hfz16_2); (try clear hfz16_3); (try clear hfz34_0); (try clear hfz34_1); (try clear hfz34_2); (try clear hfz34_3); (try clear hfz36_0); (try clear hfz36_1); (try clear hfz36_2); (try clear hfz36_3); (try clear hfz43_0); (try clear hfz43_1); (try clear hfz43_2); (try clear hfz43_3); (try clear q39)
         obtain ⟨kq, x61_32, rfl, HA, HJ32, HO_5, BK308, BK329, HB⟩ := hcut
         cases kq with
         | zero => exact absurd HA.out (by simp [fasciclelaw09_FrameRecords.j1])
         | succ kj32 =>
          have H := HA.out
          clear HA
          simp only [fasciclelaw09_FrameRecords.j1] at H
          by_cases c59 : x61_32 = true
          ·
           subst c59
           have H1 : (some false) = some r := by rw [if_pos rfl] at H; exact H
           replace H := H1; clear H1
           obtain rfl := Option.some.inj H
           go_wp2
           go_ret
           exact ⟨by first | rfl | (simp <;> rfl) | (simp only [← hji29]; first | rfl | (simp <;> rfl)) | (simp [*] <;> rfl), by repeat (first | (with_reducible first | exact HB.out | apply below_alloc | apply pw_below_drewN | apply below_drew1 | refine below_set ?_ GE308.out | refine below_set ?_ GE329.out) | exact HB.out)⟩
          ·
           replace c59 := Bool.eq_false_iff.mpr c59
           subst c59
           have H1 : ((frame_GetRecord.f l1).bind fun bt331 => ((fascicleref09_GetRecord.f kj32 (strOfNums l1)).bind fun bt337 => (if (bt331.1 == bt337.1 && (bt331.2.1 == bt337.2.1 && (bt331.2.2.1.toList == bt337.2.2.1.toList && (bt331.2.2.2.1.toList == bt337.2.2.2.1.toList)))) = true then (if bt331.2.2.2.2 = bt337.2.2.2.2 then (if t318 = 0 then (some true) else (some ((t315.length : Int) == 0))) else (some false)) else (some false)))) = some r := by rw [if_neg (show ¬ (false = true) by decide)] at H; exact H
           replace H := H1; clear H1
           replace H := Option.bind_eq_some_iff.mp H
           obtain ⟨⟨t331, t332, t333, t334, t335⟩, A600, H⟩ := H
           replace H : ((fascicleref09_GetRecord.f kj32 (strOfNums l1)).bind fun bt337 => (if (t331 == bt337.1 && (t332 == bt337.2.1 && (t333.toList == bt337.2.2.1.toList && (t334.toList == bt337.2.2.2.1.toList)))) = true then (if t335 = bt337.2.2.2.2 then (if t318 = 0 then (some true) else (some ((t315.length : Int) == 0))) else (some false)) else (some false))) = some r := H
           have A60 := Aside0.mk A600
           clear A600
           replace H := Option.bind_eq_some_iff.mp H
           obtain ⟨⟨t337, t338, t339, t340, t341⟩, A610, H⟩ := H
           replace H : (if (t331 == t337 && (t332 == t338 && (t333.toList == t339.toList && (t334.toList == t340.toList)))) = true then (if t335 = t341 then (if t318 = 0 then (some true) else (some ((t315.length : Int) == 0))) else (some false)) else (some false)) = some r := H
           have A61 := Aside0.mk A610
           clear A610
           by_cases c62 : (t331 == t337 && (t332 == t338 && (t333.toList == t339.toList && (t334.toList == t340.toList)))) = true
           ·
            rw [if_pos c62] at H
            have c62b0 : (t331 == t337 && (t332 == t338 && (t333.toList == t339.toList && (t334.toList == t340.toList)))) = true := c62
            (try (have c62b1 : decide (t331 = t337 && (t332 == t338 && (t333.toList == t339.toList && (t334.toList == t340.toList)))) = true := by simpa using c62))
            (try (have c62b2 : (t331 == t337 && (t332 == t338 && (t333.toList == t339.toList && (t334.toList == t340.toList)))) = true := by simpa using c62))
            clear c62
            by_cases c63 : t335 = t341
            ·
             rw [if_pos c63] at H
             have c63b0 : (t335 == t341) = true := beq_iff_eq.mpr c63
             have c63b1 : (t335 != t341) = false := bne_eq_false_iff_eq.mpr c63
             clear c63
             by_cases c64 : t318 = 0
             ·
              rw [if_pos c64] at H
              have c64b0 : (t318 == 0) = true := beq_iff_eq.mpr c64
              have c64b1 : (t318 != 0) = false := bne_eq_false_iff_eq.mpr c64
              clear c64
              obtain rfl := Option.some.inj H
              go_wp2_with (first | ((with_reducible refine gate_callee (f := 32) rfl ?_); refine goesL_ (some 64) rfl rfl Try.func32 (by kernel_rfl) rfl #[.slice A1 l1.length c1] rfl (by (try simp only [mA, mB, mC]); first | done | rfl) ?_; (with_reducible refine (frame_GetRecord.calls _ _ l1 t331 t332 t333 t334 t335 _ ?side1 ?side2 A60.out).mono ?_); (case side1 => repeat (first | exact (Kd.C_below HR1.out HB.out) | (with_reducible refine Kd.C_alloc ?_ _) | (with_reducible refine Kd.C_drewN ?_ _) | (with_reducible refine Kd.C_drew ?_))); (case side2 => exact HC1.out); rintro e w65 ⟨rfl, hb⟩; refine ⟨_, rfl, ?_⟩; replace HO_5 := Aside0.mk (Kd.R_below (by (with_reducible repeat (first | apply Kd.R_alloc | apply Kd.R_drewN | apply Kd.R_drew)); exact HO_5.out) hb); replace BK308 := Aside0.mk (blk_below (g := gb308) (o := .cells #[.bool a0_0, .int .u64 a0_1, .string a0_2, .string a0_3] 59 (0, 0)) (by (with_reducible repeat (first | refine blk_drewN ?_ _ | refine blk_drew ?_ | refine blk_alloc ?_ _)); exact BK308.out) hb); replace BK329 := Aside0.mk (blk_below (g := gb329) (o := .cells #[.bool t324, .int .u64 t325, .string t326, .string t327] 59 (0, 0)) (by (with_reducible repeat (first | refine blk_drewN ?_ _ | refine blk_drew ?_ | refine blk_alloc ?_ _)); exact BK329.out) hb); replace HB := Aside0.mk (below_step (by repeat with_reducible first | exact HB.out | apply below_alloc | apply pw_below_drewN | apply below_drew1 | refine below_set ?_ GE308.out | refine below_set ?_ GE329.out) hb); (try clear hb)) | ((with_reducible refine gate_dst (N := 9) rfl ?_); (try (refine gate_guard (by rfl) ?_; dsimp only)); refine box_event ?hg (N := 9) ?hd (cs := #[.bool false, .int .u64 0, .string ⟨#[]⟩, .string ⟨#[]⟩]) (t := 59) ?hr ?_; (case hd => rfl); (case hg => rfl); (case hr => first | (go_simp; done) | (go_simp; rfl)); intro gb336 hg w66 hbox hb; have n0_ := Aside0.mk (Kd.R_below (by (with_reducible repeat (first | apply Kd.R_alloc | apply Kd.R_drewN | apply Kd.R_drew)); exact HO_5.out) hb); have n1_ := Aside0.mk (blk_below (g := gb308) (o := .cells #[.bool a0_0, .int .u64 a0_1, .string a0_2, .string a0_3] 59 (0, 0)) (by (with_reducible repeat (first | refine blk_drewN ?_ _ | refine blk_drew ?_ | refine blk_alloc ?_ _)); exact BK308.out) hb); have n2_ := Aside0.mk (blk_below (g := gb329) (o := .cells #[.bool t324, .int .u64 t325, .string t326, .string t327] 59 (0, 0)) (by (with_reducible repeat (first | refine blk_drewN ?_ _ | refine blk_drew ?_ | refine blk_alloc ?_ _)); exact BK329.out) hb); have n3_ := Aside0.mk (below_step (by repeat with_reducible first | exact HB.out | apply below_alloc | apply pw_below_drewN | apply below_drew1 | refine below_set ?_ GE308.out | refine below_set ?_ GE329.out) hb); have n4_ := Aside0.mk (hbox); have n5_ := Aside0.mk ((by rw [hg]; exact (below_size (by repeat with_reducible first | exact HB.out | apply below_alloc | apply pw_below_drewN | apply below_drew1 | refine below_set ?_ GE308.out | refine below_set ?_ GE329.out)) : w.heap.size ≤ gb336)); have n6_ := Aside0.mk ((by rw [hg]; exact (below_size (by repeat with_reducible first | exact HB.out | apply below_alloc | apply pw_below_drewN | apply below_drew1 | refine below_set ?_ GE308.out | refine below_set ?_ GE329.out)) : w.heap.size ≤ gb336)); have n7_ := Aside0.mk ((by rw [hg]; exact Nat.ne_of_lt (blk_lt (g := gb308) (o := .cells #[.bool a0_0, .int .u64 a0_1, .string a0_2, .string a0_3] 59 (0, 0)) (by (with_reducible repeat (first | refine blk_drewN ?_ _ | refine blk_drew ?_ | refine blk_alloc ?_ _)); exact BK308.out)) : gb308 ≠ gb336)); have n8_ := Aside0.mk ((by rw [hg]; exact Nat.ne_of_gt (blk_lt (g := gb308) (o := .cells #[.bool a0_0, .int .u64 a0_1, .string a0_2, .string a0_3] 59 (0, 0)) (by (with_reducible repeat (first | refine blk_drewN ?_ _ | refine blk_drew ?_ | refine blk_alloc ?_ _)); exact BK308.out)) : gb336 ≠ gb308)); have n9_ := Aside0.mk ((by rw [hg]; exact Nat.ne_of_lt (blk_lt (g := gb329) (o := .cells #[.bool t324, .int .u64 t325, .string t326, .string t327] 59 (0, 0)) (by (with_reducible repeat (first | refine blk_drewN ?_ _ | refine blk_drew ?_ | refine blk_alloc ?_ _)); exact BK329.out)) : gb329 ≠ gb336)); have n10_ := Aside0.mk ((by rw [hg]; exact Nat.ne_of_gt (blk_lt (g := gb329) (o := .cells #[.bool t324, .int .u64 t325, .string t326, .string t327] 59 (0, 0)) (by (with_reducible repeat (first | refine blk_drewN ?_ _ | refine blk_drew ?_ | refine blk_alloc ?_ _)); exact BK329.out)) : gb336 ≠ gb329)); clear HO_5; clear BK308; clear BK329; clear HB; have HO_5 := n0_; have BK308 := n1_; have BK329 := n2_; have HB := n3_; have BK336 := n4_; have GW336 := n5_; have GE336 := n6_; have NB308_336 := n7_; have NB336_308 := n8_; have NB329_336 := n9_; have NB336_329 := n10_; clear n0_ n1_ n2_ n3_ n4_ n5_ n6_ n7_ n8_ n9_ n10_; clear hb hbox hg; have hnb67 := NB336_308.out; have hnc67 := NB308_336.out; have hnb68 := NB336_329.out; have hnc68 := NB329_336.out; have hcz69_0 : w66.cell? ⟨gb336, 0, none⟩ = some (.bool false) := (blk_cell BK336.out 0).trans rfl; have hcz69_1 : w66.cell? ⟨gb336, 1, none⟩ = some (.int .u64 0) := (blk_cell BK336.out 1).trans rfl; have hcz69_2 : w66.cell? ⟨gb336, 2, none⟩ = some (.string ⟨#[]⟩) := (blk_cell BK336.out 2).trans rfl; have hcz69_3 : w66.cell? ⟨gb336, 3, none⟩ = some (.string ⟨#[]⟩) := (blk_cell BK336.out 3).trans rfl; have hfz69_0 := blk_frozen BK336.out 0; have hfz69_1 := blk_frozen BK336.out 1; have hfz69_2 := blk_frozen BK336.out 2; have hfz69_3 := blk_frozen BK336.out 3; have hcv70 := Kd.C_string (P := Try.prog) (A := A1) (c := c1) Try.underlying39 Try.underlying5 Try.underlying9 (Kd.C_below HR1.out HB.out); have hcv70b := fun (v0_ v1_ v2_ v3_ : Value) => Kd.C_string (P := Try.prog) (A := A1) (c := c1) Try.underlying39 Try.underlying5 Try.underlying9 (Kd.C_below HR1.out (below_set (g := gb336) (j := 3) (v := v3_) (below_set (g := gb336) (j := 2) (v := v2_) (below_set (g := gb336) (j := 1) (v := v1_) (below_set (g := gb336) (j := 0) (v := v0_) HB.out GE336.out) GE336.out) GE336.out) GE336.out))) | ((with_reducible refine gate_callee (f := 34) rfl ?_); refine goesL_ (some 70) rfl rfl Try.func34 (by kernel_rfl) rfl #[.string (strOfNums l1)] rfl (by (try simp only [mA, mB, mC]); first | done | rfl) ?_; (with_reducible refine (fascicleref09_GetRecord.calls kj32 (strOfNums l1) t337 t338 t339 t340 t341 _ A61.out).mono ?_); rintro e w71 ⟨rfl, hb⟩; refine ⟨_, rfl, ?_⟩; replace HO_5 := Aside0.mk (Kd.R_below (by (with_reducible repeat (first | apply Kd.R_alloc | apply Kd.R_drewN | apply Kd.R_drew)); exact (Kd.R_mono (Kd.R_far (p := ⟨gb336, 3, none⟩) (Kd.R_far (p := ⟨gb336, 2, none⟩) (Kd.R_far (p := ⟨gb336, 1, none⟩) (Kd.R_far (p := ⟨gb336, 0, none⟩) (Kd.R_types HO_5.out BK336.out (by decide)) (fun _ hk => by first | exact hk.2 | exact hk) (.bool t331)) (fun _ hk => by first | exact hk.2 | exact hk) (.int .u64 t332)) (fun _ hk => by first | exact hk.2 | exact hk) (.string t333)) (fun _ hk => by first | exact hk.2 | exact hk) (.string t334)) (fun _ h_ => h_.1))) hb); replace BK308 := Aside0.mk (blk_below (g := gb308) (o := .cells #[.bool a0_0, .int .u64 a0_1, .string a0_2, .string a0_3] 59 (0, 0)) (by (with_reducible repeat (first | refine blk_drewN ?_ _ | refine blk_drew ?_ | refine blk_alloc ?_ _)); refine blk_far ?_ NB308_336.out _; refine blk_far ?_ NB308_336.out _; refine blk_far ?_ NB308_336.out _; refine blk_far ?_ NB308_336.out _; (with_reducible repeat (first | refine blk_drewN ?_ _ | refine blk_drew ?_ | refine blk_alloc ?_ _)); exact BK308.out) hb); replace BK329 := Aside0.mk (blk_below (g := gb329) (o := .cells #[.bool t324, .int .u64 t325, .string t326, .string t327] 59 (0, 0)) (by (with_reducible repeat (first | refine blk_drewN ?_ _ | refine blk_drew ?_ | refine blk_alloc ?_ _)); refine blk_far ?_ NB329_336.out _; refine blk_far ?_ NB329_336.out _; refine blk_far ?_ NB329_336.out _; refine blk_far ?_ NB329_336.out _; (with_reducible repeat (first | refine blk_drewN ?_ _ | refine blk_drew ?_ | refine blk_alloc ?_ _)); exact BK329.out) hb); replace BK336 := Aside0.mk (blk_below (g := gb336) (o := .cells #[.bool t331, .int .u64 t332, .string t333, .string t334] 59 (0, 0)) (by (with_reducible repeat (first | refine blk_drewN ?_ _ | refine blk_drew ?_ | refine blk_alloc ?_ _)); refine blk_put (cs := #[.bool t331, .int .u64 t332, .string t333, .string ⟨#[]⟩]) ?_ 3 _ rfl; refine blk_put (cs := #[.bool t331, .int .u64 t332, .string ⟨#[]⟩, .string ⟨#[]⟩]) ?_ 2 _ rfl; refine blk_put (cs := #[.bool t331, .int .u64 0, .string ⟨#[]⟩, .string ⟨#[]⟩]) ?_ 1 _ rfl; refine blk_put (cs := #[.bool false, .int .u64 0, .string ⟨#[]⟩, .string ⟨#[]⟩]) ?_ 0 _ rfl; (with_reducible repeat (first | refine blk_drewN ?_ _ | refine blk_drew ?_ | refine blk_alloc ?_ _)); exact BK336.out) hb); replace HB := Aside0.mk (below_step (by repeat with_reducible first | exact HB.out | apply below_alloc | apply pw_below_drewN | apply below_drew1 | refine below_set ?_ GE308.out | refine below_set ?_ GE329.out | refine below_set ?_ GE336.out) hb); (try clear hb)) | ((with_reducible refine gate_dst (N := 11) rfl ?_); (try (refine gate_guard (by rfl) ?_; dsimp only)); refine box_event ?hg (N := 11) ?hd (cs := #[.bool false, .int .u64 0, .string ⟨#[]⟩, .string ⟨#[]⟩]) (t := 59) ?hr ?_; (case hd => rfl); (case hg => rfl); (case hr => first | (go_simp; done) | (go_simp; rfl)); intro gb342 hg w72 hbox hb; have n0_ := Aside0.mk (Kd.R_below (by (with_reducible repeat (first | apply Kd.R_alloc | apply Kd.R_drewN | apply Kd.R_drew)); exact HO_5.out) hb); have n1_ := Aside0.mk (blk_below (g := gb308) (o := .cells #[.bool a0_0, .int .u64 a0_1, .string a0_2, .string a0_3] 59 (0, 0)) (by (with_reducible repeat (first | refine blk_drewN ?_ _ | refine blk_drew ?_ | refine blk_alloc ?_ _)); exact BK308.out) hb); have n2_ := Aside0.mk (blk_below (g := gb329) (o := .cells #[.bool t324, .int .u64 t325, .string t326, .string t327] 59 (0, 0)) (by (with_reducible repeat (first | refine blk_drewN ?_ _ | refine blk_drew ?_ | refine blk_alloc ?_ _)); exact BK329.out) hb); have n3_ := Aside0.mk (blk_below (g := gb336) (o := .cells #[.bool t331, .int .u64 t332, .string t333, .string t334] 59 (0, 0)) (by (with_reducible repeat (first | refine blk_drewN ?_ _ | refine blk_drew ?_ | refine blk_alloc ?_ _)); exact BK336.out) hb); have n4_ := Aside0.mk (below_step (by repeat with_reducible first | exact HB.out | apply below_alloc | apply pw_below_drewN | apply below_drew1 | refine below_set ?_ GE308.out | refine below_set ?_ GE329.out | refine below_set ?_ GE336.out) hb); have n5_ := Aside0.mk (hbox); have n6_ := Aside0.mk ((by rw [hg]; exact (below_size (by repeat with_reducible first | exact HB.out | apply below_alloc | apply pw_below_drewN | apply below_drew1 | refine below_set ?_ GE308.out | refine below_set ?_ GE329.out | refine below_set ?_ GE336.out)) : w.heap.size ≤ gb342)); have n7_ := Aside0.mk ((by rw [hg]; exact (below_size (by repeat with_reducible first | exact HB.out | apply below_alloc | apply pw_below_drewN | apply below_drew1 | refine below_set ?_ GE308.out | refine below_set ?_ GE329.out | refine below_set ?_ GE336.out)) : w.heap.size ≤ gb342)); have n8_ := Aside0.mk ((by rw [hg]; exact Nat.ne_of_lt (blk_lt (g := gb308) (o := .cells #[.bool a0_0, .int .u64 a0_1, .string a0_2, .string a0_3] 59 (0, 0)) (by (with_reducible repeat (first | refine blk_drewN ?_ _ | refine blk_drew ?_ | refine blk_alloc ?_ _)); exact BK308.out)) : gb308 ≠ gb342)); have n9_ := Aside0.mk ((by rw [hg]; exact Nat.ne_of_gt (blk_lt (g := gb308) (o := .cells #[.bool a0_0, .int .u64 a0_1, .string a0_2, .string a0_3] 59 (0, 0)) (by (with_reducible repeat (first | refine blk_drewN ?_ _ | refine blk_drew ?_ | refine blk_alloc ?_ _)); exact BK308.out)) : gb342 ≠ gb308)); have n10_ := Aside0.mk ((by rw [hg]; exact Nat.ne_of_lt (blk_lt (g := gb329) (o := .cells #[.bool t324, .int .u64 t325, .string t326, .string t327] 59 (0, 0)) (by (with_reducible repeat (first | refine blk_drewN ?_ _ | refine blk_drew ?_ | refine blk_alloc ?_ _)); exact BK329.out)) : gb329 ≠ gb342)); have n11_ := Aside0.mk ((by rw [hg]; exact Nat.ne_of_gt (blk_lt (g := gb329) (o := .cells #[.bool t324, .int .u64 t325, .string t326, .string t327] 59 (0, 0)) (by (with_reducible repeat (first | refine blk_drewN ?_ _ | refine blk_drew ?_ | refine blk_alloc ?_ _)); exact BK329.out)) : gb342 ≠ gb329)); have n12_ := Aside0.mk ((by rw [hg]; exact Nat.ne_of_lt (blk_lt (g := gb336) (o := .cells #[.bool t331, .int .u64 t332, .string t333, .string t334] 59 (0, 0)) (by (with_reducible repeat (first | refine blk_drewN ?_ _ | refine blk_drew ?_ | refine blk_alloc ?_ _)); exact BK336.out)) : gb336 ≠ gb342)); have n13_ := Aside0.mk ((by rw [hg]; exact Nat.ne_of_gt (blk_lt (g := gb336) (o := .cells #[.bool t331, .int .u64 t332, .string t333, .string t334] 59 (0, 0)) (by (with_reducible repeat (first | refine blk_drewN ?_ _ | refine blk_drew ?_ | refine blk_alloc ?_ _)); exact BK336.out)) : gb342 ≠ gb336)); clear HO_5; clear BK308; clear BK329; clear BK336; clear HB; have HO_5 := n0_; have BK308 := n1_; have BK329 := n2_; have BK336 := n3_; have HB := n4_; have BK342 := n5_; have GW342 := n6_; have GE342 := n7_; have NB308_342 := n8_; have NB342_308 := n9_; have NB329_342 := n10_; have NB342_329 := n11_; have NB336_342 := n12_; have NB342_336 := n13_; clear n0_ n1_ n2_ n3_ n4_ n5_ n6_ n7_ n8_ n9_ n10_ n11_ n12_ n13_; clear hb hbox hg; have hnb73 := NB342_308.out; have hnc73 := NB308_342.out; have hnb74 := NB342_329.out; have hnc74 := NB329_342.out; have hnb75 := NB342_336.out; have hnc75 := NB336_342.out; have hcz76_0 : w72.cell? ⟨gb342, 0, none⟩ = some (.bool false) := (blk_cell BK342.out 0).trans rfl; have hcz76_1 : w72.cell? ⟨gb342, 1, none⟩ = some (.int .u64 0) := (blk_cell BK342.out 1).trans rfl; have hcz76_2 : w72.cell? ⟨gb342, 2, none⟩ = some (.string ⟨#[]⟩) := (blk_cell BK342.out 2).trans rfl; have hcz76_3 : w72.cell? ⟨gb342, 3, none⟩ = some (.string ⟨#[]⟩) := (blk_cell BK342.out 3).trans rfl; have hfz76_0 := blk_frozen BK342.out 0; have hfz76_1 := blk_frozen BK342.out 1; have hfz76_2 := blk_frozen BK342.out 2; have hfz76_3 := blk_frozen BK342.out 3; have hcz77_0 : w72.cell? ⟨gb336, 0, none⟩ = some (.bool t331) := (blk_cell BK336.out 0).trans rfl; have hcz77_1 : w72.cell? ⟨gb336, 1, none⟩ = some (.int .u64 t332) := (blk_cell BK336.out 1).trans rfl; have hcz77_2 : w72.cell? ⟨gb336, 2, none⟩ = some (.string t333) := (blk_cell BK336.out 2).trans rfl; have hcz77_3 : w72.cell? ⟨gb336, 3, none⟩ = some (.string t334) := (blk_cell BK336.out 3).trans rfl; have hfz77_0 := blk_frozen BK336.out 0; have hfz77_1 := blk_frozen BK336.out 1; have hfz77_2 := blk_frozen BK336.out 2; have hfz77_3 := blk_frozen BK336.out 3))
              go_ret
              exact ⟨by first | rfl | (simp <;> rfl) | (simp only [← hji29]; first | rfl | (simp <;> rfl)) | (simp [*] <;> rfl), by repeat (first | (with_reducible first | exact HB.out | apply below_alloc | apply pw_below_drewN | apply below_drew1 | refine below_set ?_ GE308.out | refine below_set ?_ GE329.out | refine below_set ?_ GE336.out | refine below_set ?_ GE342.out) | exact HB.out)⟩
             ·
              rw [if_neg c64] at H
              have c64b0 : (t318 == 0) = false := beq_eq_false_iff_ne.mpr c64
              have c64b1 : (t318 != 0) = true := bne_iff_ne.mpr c64
              obtain rfl := Option.some.inj H
              go_wp2_with (first | ((with_reducible refine gate_callee (f := 32) rfl ?_); refine goesL_ (some 64) rfl rfl Try.func32 (by kernel_rfl) rfl #[.slice A1 l1.length c1] rfl (by (try simp only [mA, mB, mC]); first | done | rfl) ?_; (with_reducible refine (frame_GetRecord.calls _ _ l1 t331 t332 t333 t334 t335 _ ?side1 ?side2 A60.out).mono ?_); (case side1 => repeat (first | exact (Kd.C_below HR1.out HB.out) | (with_reducible refine Kd.C_alloc ?_ _) | (with_reducible refine Kd.C_drewN ?_ _) | (with_reducible refine Kd.C_drew ?_))); (case side2 => exact HC1.out); rintro e w78 ⟨rfl, hb⟩; refine ⟨_, rfl, ?_⟩; replace HO_5 := Aside0.mk (Kd.R_below (by (with_reducible repeat (first | apply Kd.R_alloc | apply Kd.R_drewN | apply Kd.R_drew)); exact HO_5.out) hb); replace BK308 := Aside0.mk (blk_below (g := gb308) (o := .cells #[.bool a0_0, .int .u64 a0_1, .string a0_2, .string a0_3] 59 (0, 0)) (by (with_reducible repeat (first | refine blk_drewN ?_ _ | refine blk_drew ?_ | refine blk_alloc ?_ _)); exact BK308.out) hb); replace BK329 := Aside0.mk (blk_below (g := gb329) (o := .cells #[.bool t324, .int .u64 t325, .string t326, .string t327] 59 (0, 0)) (by (with_reducible repeat (first | refine blk_drewN ?_ _ | refine blk_drew ?_ | refine blk_alloc ?_ _)); exact BK329.out) hb); replace HB := Aside0.mk (below_step (by repeat with_reducible first | exact HB.out | apply below_alloc | apply pw_below_drewN | apply below_drew1 | refine below_set ?_ GE308.out | refine below_set ?_ GE329.out) hb); (try clear hb)) | ((with_reducible refine gate_dst (N := 9) rfl ?_); (try (refine gate_guard (by rfl) ?_; dsimp only)); refine box_event ?hg (N := 9) ?hd (cs := #[.bool false, .int .u64 0, .string ⟨#[]⟩, .string ⟨#[]⟩]) (t := 59) ?hr ?_; (case hd => rfl); (case hg => rfl); (case hr => first | (go_simp; done) | (go_simp; rfl)); intro gb336 hg w79 hbox hb; have n0_ := Aside0.mk (Kd.R_below (by (with_reducible repeat (first | apply Kd.R_alloc | apply Kd.R_drewN | apply Kd.R_drew)); exact HO_5.out) hb); have n1_ := Aside0.mk (blk_below (g := gb308) (o := .cells #[.bool a0_0, .int .u64 a0_1, .string a0_2, .string a0_3] 59 (0, 0)) (by (with_reducible repeat (first | refine blk_drewN ?_ _ | refine blk_drew ?_ | refine blk_alloc ?_ _)); exact BK308.out) hb); have n2_ := Aside0.mk (blk_below (g := gb329) (o := .cells #[.bool t324, .int .u64 t325, .string t326, .string t327] 59 (0, 0)) (by (with_reducible repeat (first | refine blk_drewN ?_ _ | refine blk_drew ?_ | refine blk_alloc ?_ _)); exact BK329.out) hb); have n3_ := Aside0.mk (below_step (by repeat with_reducible first | exact HB.out | apply below_alloc | apply pw_below_drewN | apply below_drew1 | refine below_set ?_ GE308.out | refine below_set ?_ GE329.out) hb); have n4_ := Aside0.mk (hbox); have n5_ := Aside0.mk ((by rw [hg]; exact (below_size (by repeat with_reducible first | exact HB.out | apply below_alloc | apply pw_below_drewN | apply below_drew1 | refine below_set ?_ GE308.out | refine below_set ?_ GE329.out)) : w.heap.size ≤ gb336)); have n6_ := Aside0.mk ((by rw [hg]; exact (below_size (by repeat with_reducible first | exact HB.out | apply below_alloc | apply pw_below_drewN | apply below_drew1 | refine below_set ?_ GE308.out | refine below_set ?_ GE329.out)) : w.heap.size ≤ gb336)); have n7_ := Aside0.mk ((by rw [hg]; exact Nat.ne_of_lt (blk_lt (g := gb308) (o := .cells #[.bool a0_0, .int .u64 a0_1, .string a0_2, .string a0_3] 59 (0, 0)) (by (with_reducible repeat (first | refine blk_drewN ?_ _ | refine blk_drew ?_ | refine blk_alloc ?_ _)); exact BK308.out)) : gb308 ≠ gb336)); have n8_ := Aside0.mk ((by rw [hg]; exact Nat.ne_of_gt (blk_lt (g := gb308) (o := .cells #[.bool a0_0, .int .u64 a0_1, .string a0_2, .string a0_3] 59 (0, 0)) (by (with_reducible repeat (first | refine blk_drewN ?_ _ | refine blk_drew ?_ | refine blk_alloc ?_ _)); exact BK308.out)) : gb336 ≠ gb308)); have n9_ := Aside0.mk ((by rw [hg]; exact Nat.ne_of_lt (blk_lt (g := gb329) (o := .cells #[.bool t324, .int .u64 t325, .string t326, .string t327] 59 (0, 0)) (by (with_reducible repeat (first | refine blk_drewN ?_ _ | refine blk_drew ?_ | refine blk_alloc ?_ _)); exact BK329.out)) : gb329 ≠ gb336)); have n10_ := Aside0.mk ((by rw [hg]; exact Nat.ne_of_gt (blk_lt (g := gb329) (o := .cells #[.bool t324, .int .u64 t325, .string t326, .string t327] 59 (0, 0)) (by (with_reducible repeat (first | refine blk_drewN ?_ _ | refine blk_drew ?_ | refine blk_alloc ?_ _)); exact BK329.out)) : gb336 ≠ gb329)); clear HO_5; clear BK308; clear BK329; clear HB; have HO_5 := n0_; have BK308 := n1_; have BK329 := n2_; have HB := n3_; have BK336 := n4_; have GW336 := n5_; have GE336 := n6_; have NB308_336 := n7_; have NB336_308 := n8_; have NB329_336 := n9_; have NB336_329 := n10_; clear n0_ n1_ n2_ n3_ n4_ n5_ n6_ n7_ n8_ n9_ n10_; clear hb hbox hg; have hnb80 := NB336_308.out; have hnc80 := NB308_336.out; have hnb81 := NB336_329.out; have hnc81 := NB329_336.out; have hcz82_0 : w79.cell? ⟨gb336, 0, none⟩ = some (.bool false) := (blk_cell BK336.out 0).trans rfl; have hcz82_1 : w79.cell? ⟨gb336, 1, none⟩ = some (.int .u64 0) := (blk_cell BK336.out 1).trans rfl; have hcz82_2 : w79.cell? ⟨gb336, 2, none⟩ = some (.string ⟨#[]⟩) := (blk_cell BK336.out 2).trans rfl; have hcz82_3 : w79.cell? ⟨gb336, 3, none⟩ = some (.string ⟨#[]⟩) := (blk_cell BK336.out 3).trans rfl; have hfz82_0 := blk_frozen BK336.out 0; have hfz82_1 := blk_frozen BK336.out 1; have hfz82_2 := blk_frozen BK336.out 2; have hfz82_3 := blk_frozen BK336.out 3; have hcv83 := Kd.C_string (P := Try.prog) (A := A1) (c := c1) Try.underlying39 Try.underlying5 Try.underlying9 (Kd.C_below HR1.out HB.out); have hcv83b := fun (v0_ v1_ v2_ v3_ : Value) => Kd.C_string (P := Try.prog) (A := A1) (c := c1) Try.underlying39 Try.underlying5 Try.underlying9 (Kd.C_below HR1.out (below_set (g := gb336) (j := 3) (v := v3_) (below_set (g := gb336) (j := 2) (v := v2_) (below_set (g := gb336) (j := 1) (v := v1_) (below_set (g := gb336) (j := 0) (v := v0_) HB.out GE336.out) GE336.out) GE336.out) GE336.out))) | ((with_reducible refine gate_callee (f := 34) rfl ?_); refine goesL_ (some 70) rfl rfl Try.func34 (by kernel_rfl) rfl #[.string (strOfNums l1)] rfl (by (try simp only [mA, mB, mC]); first | done | rfl) ?_; (with_reducible refine (fascicleref09_GetRecord.calls kj32 (strOfNums l1) t337 t338 t339 t340 t341 _ A61.out).mono ?_); rintro e w84 ⟨rfl, hb⟩; refine ⟨_, rfl, ?_⟩; replace HO_5 := Aside0.mk (Kd.R_below (by (with_reducible repeat (first | apply Kd.R_alloc | apply Kd.R_drewN | apply Kd.R_drew)); exact (Kd.R_mono (Kd.R_far (p := ⟨gb336, 3, none⟩) (Kd.R_far (p := ⟨gb336, 2, none⟩) (Kd.R_far (p := ⟨gb336, 1, none⟩) (Kd.R_far (p := ⟨gb336, 0, none⟩) (Kd.R_types HO_5.out BK336.out (by decide)) (fun _ hk => by first | exact hk.2 | exact hk) (.bool t331)) (fun _ hk => by first | exact hk.2 | exact hk) (.int .u64 t332)) (fun _ hk => by first | exact hk.2 | exact hk) (.string t333)) (fun _ hk => by first | exact hk.2 | exact hk) (.string t334)) (fun _ h_ => h_.1))) hb); replace BK308 := Aside0.mk (blk_below (g := gb308) (o := .cells #[.bool a0_0, .int .u64 a0_1, .string a0_2, .string a0_3] 59 (0, 0)) (by (with_reducible repeat (first | refine blk_drewN ?_ _ | refine blk_drew ?_ | refine blk_alloc ?_ _)); refine blk_far ?_ NB308_336.out _; refine blk_far ?_ NB308_336.out _; refine blk_far ?_ NB308_336.out _; refine blk_far ?_ NB308_336.out _; (with_reducible repeat (first | refine blk_drewN ?_ _ | refine blk_drew ?_ | refine blk_alloc ?_ _)); exact BK308.out) hb); replace BK329 := Aside0.mk (blk_below (g := gb329) (o := .cells #[.bool t324, .int .u64 t325, .string t326, .string t327] 59 (0, 0)) (by (with_reducible repeat (first | refine blk_drewN ?_ _ | refine blk_drew ?_ | refine blk_alloc ?_ _)); refine blk_far ?_ NB329_336.out _; refine blk_far ?_ NB329_336.out _; refine blk_far ?_ NB329_336.out _; refine blk_far ?_ NB329_336.out _; (with_reducible repeat (first | refine blk_drewN ?_ _ | refine blk_drew ?_ | refine blk_alloc ?_ _)); exact BK329.out) hb); replace BK336 := Aside0.mk (blk_below (g := gb336) (o := .cells #[.bool t331, .int .u64 t332, .string t333, .string t334] 59 (0, 0)) (by (with_reducible repeat (first | refine blk_drewN ?_ _ | refine blk_drew ?_ | refine blk_alloc ?_ _)); refine blk_put (cs := #[.bool t331, .int .u64 t332, .string t333, .string ⟨#[]⟩]) ?_ 3 _ rfl; refine blk_put (cs := #[.bool t331, .int .u64 t332, .string ⟨#[]⟩, .string ⟨#[]⟩]) ?_ 2 _ rfl; refine blk_put (cs := #[.bool t331, .int .u64 0, .string ⟨#[]⟩, .string ⟨#[]⟩]) ?_ 1 _ rfl; refine blk_put (cs := #[.bool false, .int .u64 0, .string ⟨#[]⟩, .string ⟨#[]⟩]) ?_ 0 _ rfl; (with_reducible repeat (first | refine blk_drewN ?_ _ | refine blk_drew ?_ | refine blk_alloc ?_ _)); exact BK336.out) hb); replace HB := Aside0.mk (below_step (by repeat with_reducible first | exact HB.out | apply below_alloc | apply pw_below_drewN | apply below_drew1 | refine below_set ?_ GE308.out | refine below_set ?_ GE329.out | refine below_set ?_ GE336.out) hb); (try clear hb)) | ((with_reducible refine gate_dst (N := 11) rfl ?_); (try (refine gate_guard (by rfl) ?_; dsimp only)); refine box_event ?hg (N := 11) ?hd (cs := #[.bool false, .int .u64 0, .string ⟨#[]⟩, .string ⟨#[]⟩]) (t := 59) ?hr ?_; (case hd => rfl); (case hg => rfl); (case hr => first | (go_simp; done) | (go_simp; rfl)); intro gb342 hg w85 hbox hb; have n0_ := Aside0.mk (Kd.R_below (by (with_reducible repeat (first | apply Kd.R_alloc | apply Kd.R_drewN | apply Kd.R_drew)); exact HO_5.out) hb); have n1_ := Aside0.mk (blk_below (g := gb308) (o := .cells #[.bool a0_0, .int .u64 a0_1, .string a0_2, .string a0_3] 59 (0, 0)) (by (with_reducible repeat (first | refine blk_drewN ?_ _ | refine blk_drew ?_ | refine blk_alloc ?_ _)); exact BK308.out) hb); have n2_ := Aside0.mk (blk_below (g := gb329) (o := .cells #[.bool t324, .int .u64 t325, .string t326, .string t327] 59 (0, 0)) (by (with_reducible repeat (first | refine blk_drewN ?_ _ | refine blk_drew ?_ | refine blk_alloc ?_ _)); exact BK329.out) hb); have n3_ := Aside0.mk (blk_below (g := gb336) (o := .cells #[.bool t331, .int .u64 t332, .string t333, .string t334] 59 (0, 0)) (by (with_reducible repeat (first | refine blk_drewN ?_ _ | refine blk_drew ?_ | refine blk_alloc ?_ _)); exact BK336.out) hb); have n4_ := Aside0.mk (below_step (by repeat with_reducible first | exact HB.out | apply below_alloc | apply pw_below_drewN | apply below_drew1 | refine below_set ?_ GE308.out | refine below_set ?_ GE329.out | refine below_set ?_ GE336.out) hb); have n5_ := Aside0.mk (hbox); have n6_ := Aside0.mk ((by rw [hg]; exact (below_size (by repeat with_reducible first | exact HB.out | apply below_alloc | apply pw_below_drewN | apply below_drew1 | refine below_set ?_ GE308.out | refine below_set ?_ GE329.out | refine below_set ?_ GE336.out)) : w.heap.size ≤ gb342)); have n7_ := Aside0.mk ((by rw [hg]; exact (below_size (by repeat with_reducible first | exact HB.out | apply below_alloc | apply pw_below_drewN | apply below_drew1 | refine below_set ?_ GE308.out | refine below_set ?_ GE329.out | refine below_set ?_ GE336.out)) : w.heap.size ≤ gb342)); have n8_ := Aside0.mk ((by rw [hg]; exact Nat.ne_of_lt (blk_lt (g := gb308) (o := .cells #[.bool a0_0, .int .u64 a0_1, .string a0_2, .string a0_3] 59 (0, 0)) (by (with_reducible repeat (first | refine blk_drewN ?_ _ | refine blk_drew ?_ | refine blk_alloc ?_ _)); exact BK308.out)) : gb308 ≠ gb342)); have n9_ := Aside0.mk ((by rw [hg]; exact Nat.ne_of_gt (blk_lt (g := gb308) (o := .cells #[.bool a0_0, .int .u64 a0_1, .string a0_2, .string a0_3] 59 (0, 0)) (by (with_reducible repeat (first | refine blk_drewN ?_ _ | refine blk_drew ?_ | refine blk_alloc ?_ _)); exact BK308.out)) : gb342 ≠ gb308)); have n10_ := Aside0.mk ((by rw [hg]; exact Nat.ne_of_lt (blk_lt (g := gb329) (o := .cells #[.bool t324, .int .u64 t325, .string t326, .string t327] 59 (0, 0)) (by (with_reducible repeat (first | refine blk_drewN ?_ _ | refine blk_drew ?_ | refine blk_alloc ?_ _)); exact BK329.out)) : gb329 ≠ gb342)); have n11_ := Aside0.mk ((by rw [hg]; exact Nat.ne_of_gt (blk_lt (g := gb329) (o := .cells #[.bool t324, .int .u64 t325, .string t326, .string t327] 59 (0, 0)) (by (with_reducible repeat (first | refine blk_drewN ?_ _ | refine blk_drew ?_ | refine blk_alloc ?_ _)); exact BK329.out)) : gb342 ≠ gb329)); have n12_ := Aside0.mk ((by rw [hg]; exact Nat.ne_of_lt (blk_lt (g := gb336) (o := .cells #[.bool t331, .int .u64 t332, .string t333, .string t334] 59 (0, 0)) (by (with_reducible repeat (first | refine blk_drewN ?_ _ | refine blk_drew ?_ | refine blk_alloc ?_ _)); exact BK336.out)) : gb336 ≠ gb342)); have n13_ := Aside0.mk ((by rw [hg]; exact Nat.ne_of_gt (blk_lt (g := gb336) (o := .cells #[.bool t331, .int .u64 t332, .string t333, .string t334] 59 (0, 0)) (by (with_reducible repeat (first | refine blk_drewN ?_ _ | refine blk_drew ?_ | refine blk_alloc ?_ _)); exact BK336.out)) : gb342 ≠ gb336)); clear HO_5; clear BK308; clear BK329; clear BK336; clear HB; have HO_5 := n0_; have BK308 := n1_; have BK329 := n2_; have BK336 := n3_; have HB := n4_; have BK342 := n5_; have GW342 := n6_; have GE342 := n7_; have NB308_342 := n8_; have NB342_308 := n9_; have NB329_342 := n10_; have NB342_329 := n11_; have NB336_342 := n12_; have NB342_336 := n13_; clear n0_ n1_ n2_ n3_ n4_ n5_ n6_ n7_ n8_ n9_ n10_ n11_ n12_ n13_; clear hb hbox hg; have hnb86 := NB342_308.out; have hnc86 := NB308_342.out; have hnb87 := NB342_329.out; have hnc87 := NB329_342.out; have hnb88 := NB342_336.out; have hnc88 := NB336_342.out; have hcz89_0 : w85.cell? ⟨gb342, 0, none⟩ = some (.bool false) := (blk_cell BK342.out 0).trans rfl; have hcz89_1 : w85.cell? ⟨gb342, 1, none⟩ = some (.int .u64 0) := (blk_cell BK342.out 1).trans rfl; have hcz89_2 : w85.cell? ⟨gb342, 2, none⟩ = some (.string ⟨#[]⟩) := (blk_cell BK342.out 2).trans rfl; have hcz89_3 : w85.cell? ⟨gb342, 3, none⟩ = some (.string ⟨#[]⟩) := (blk_cell BK342.out 3).trans rfl; have hfz89_0 := blk_frozen BK342.out 0; have hfz89_1 := blk_frozen BK342.out 1; have hfz89_2 := blk_frozen BK342.out 2; have hfz89_3 := blk_frozen BK342.out 3; have hcz90_0 : w85.cell? ⟨gb336, 0, none⟩ = some (.bool t331) := (blk_cell BK336.out 0).trans rfl; have hcz90_1 : w85.cell? ⟨gb336, 1, none⟩ = some (.int .u64 t332) := (blk_cell BK336.out 1).trans rfl; have hcz90_2 : w85.cell? ⟨gb336, 2, none⟩ = some (.string t333) := (blk_cell BK336.out 2).trans rfl; have hcz90_3 : w85.cell? ⟨gb336, 3, none⟩ = some (.string t334) := (blk_cell BK336.out 3).trans rfl; have hfz90_0 := blk_frozen BK336.out 0; have hfz90_1 := blk_frozen BK336.out 1; have hfz90_2 := blk_frozen BK336.out 2; have hfz90_3 := blk_frozen BK336.out 3))
              go_ret
              exact ⟨by first | rfl | (simp <;> rfl) | (simp only [← hji29]; first | rfl | (simp <;> rfl)) | (simp [*] <;> rfl), by repeat (first | (with_reducible first | exact HB.out | apply below_alloc | apply pw_below_drewN | apply below_drew1 | refine below_set ?_ GE308.out | refine below_set ?_ GE329.out | refine below_set ?_ GE336.out | refine below_set ?_ GE342.out) | exact HB.out)⟩
            ·
             rw [if_neg c63] at H
             have c63b0 : (t335 == t341) = false := beq_eq_false_iff_ne.mpr c63
             have c63b1 : (t335 != t341) = true := bne_iff_ne.mpr c63
             obtain rfl := Option.some.inj H
             go_wp2_with (first | ((with_reducible refine gate_callee (f := 32) rfl ?_); refine goesL_ (some 64) rfl rfl Try.func32 (by kernel_rfl) rfl #[.slice A1 l1.length c1] rfl (by (try simp only [mA, mB, mC]); first | done | rfl) ?_; (with_reducible refine (frame_GetRecord.calls _ _ l1 t331 t332 t333 t334 t335 _ ?side1 ?side2 A60.out).mono ?_); (case side1 => repeat (first | exact (Kd.C_below HR1.out HB.out) | (with_reducible refine Kd.C_alloc ?_ _) | (with_reducible refine Kd.C_drewN ?_ _) | (with_reducible refine Kd.C_drew ?_))); (case side2 => exact HC1.out); rintro e w91 ⟨rfl, hb⟩; refine ⟨_, rfl, ?_⟩; replace HO_5 := Aside0.mk (Kd.R_below (by (with_reducible repeat (first | apply Kd.R_alloc | apply Kd.R_drewN | apply Kd.R_drew)); exact HO_5.out) hb); replace BK308 := Aside0.mk (blk_below (g := gb308) (o := .cells #[.bool a0_0, .int .u64 a0_1, .string a0_2, .string a0_3] 59 (0, 0)) (by (with_reducible repeat (first | refine blk_drewN ?_ _ | refine blk_drew ?_ | refine blk_alloc ?_ _)); exact BK308.out) hb); replace BK329 := Aside0.mk (blk_below (g := gb329) (o := .cells #[.bool t324, .int .u64 t325, .string t326, .string t327] 59 (0, 0)) (by (with_reducible repeat (first | refine blk_drewN ?_ _ | refine blk_drew ?_ | refine blk_alloc ?_ _)); exact BK329.out) hb); replace HB := Aside0.mk (below_step (by repeat with_reducible first | exact HB.out | apply below_alloc | apply pw_below_drewN | apply below_drew1 | refine below_set ?_ GE308.out | refine below_set ?_ GE329.out) hb); (try clear hb)) | ((with_reducible refine gate_dst (N := 9) rfl ?_); (try (refine gate_guard (by rfl) ?_; dsimp only)); refine box_event ?hg (N := 9) ?hd (cs := #[.bool false, .int .u64 0, .string ⟨#[]⟩, .string ⟨#[]⟩]) (t := 59) ?hr ?_; (case hd => rfl); (case hg => rfl); (case hr => first | (go_simp; done) | (go_simp; rfl)); intro gb336 hg w92 hbox hb; have n0_ := Aside0.mk (Kd.R_below (by (with_reducible repeat (first | apply Kd.R_alloc | apply Kd.R_drewN | apply Kd.R_drew)); exact HO_5.out) hb); have n1_ := Aside0.mk (blk_below (g := gb308) (o := .cells #[.bool a0_0, .int .u64 a0_1, .string a0_2, .string a0_3] 59 (0, 0)) (by (with_reducible repeat (first | refine blk_drewN ?_ _ | refine blk_drew ?_ | refine blk_alloc ?_ _)); exact BK308.out) hb); have n2_ := Aside0.mk (blk_below (g := gb329) (o := .cells #[.bool t324, .int .u64 t325, .string t326, .string t327] 59 (0, 0)) (by (with_reducible repeat (first | refine blk_drewN ?_ _ | refine blk_drew ?_ | refine blk_alloc ?_ _)); exact BK329.out) hb); have n3_ := Aside0.mk (below_step (by repeat with_reducible first | exact HB.out | apply below_alloc | apply pw_below_drewN | apply below_drew1 | refine below_set ?_ GE308.out | refine below_set ?_ GE329.out) hb); have n4_ := Aside0.mk (hbox); have n5_ := Aside0.mk ((by rw [hg]; exact (below_size (by repeat with_reducible first | exact HB.out | apply below_alloc | apply pw_below_drewN | apply below_drew1 | refine below_set ?_ GE308.out | refine below_set ?_ GE329.out)) : w.heap.size ≤ gb336)); have n6_ := Aside0.mk ((by rw [hg]; exact (below_size (by repeat with_reducible first | exact HB.out | apply below_alloc | apply pw_below_drewN | apply below_drew1 | refine below_set ?_ GE308.out | refine below_set ?_ GE329.out)) : w.heap.size ≤ gb336)); have n7_ := Aside0.mk ((by rw [hg]; exact Nat.ne_of_lt (blk_lt (g := gb308) (o := .cells #[.bool a0_0, .int .u64 a0_1, .string a0_2, .string a0_3] 59 (0, 0)) (by (with_reducible repeat (first | refine blk_drewN ?_ _ | refine blk_drew ?_ | refine blk_alloc ?_ _)); exact BK308.out)) : gb308 ≠ gb336)); have n8_ := Aside0.mk ((by rw [hg]; exact Nat.ne_of_gt (blk_lt (g := gb308) (o := .cells #[.bool a0_0, .int .u64 a0_1, .string a0_2, .string a0_3] 59 (0, 0)) (by (with_reducible repeat (first | refine blk_drewN ?_ _ | refine blk_drew ?_ | refine blk_alloc ?_ _)); exact BK308.out)) : gb336 ≠ gb308)); have n9_ := Aside0.mk ((by rw [hg]; exact Nat.ne_of_lt (blk_lt (g := gb329) (o := .cells #[.bool t324, .int .u64 t325, .string t326, .string t327] 59 (0, 0)) (by (with_reducible repeat (first | refine blk_drewN ?_ _ | refine blk_drew ?_ | refine blk_alloc ?_ _)); exact BK329.out)) : gb329 ≠ gb336)); have n10_ := Aside0.mk ((by rw [hg]; exact Nat.ne_of_gt (blk_lt (g := gb329) (o := .cells #[.bool t324, .int .u64 t325, .string t326, .string t327] 59 (0, 0)) (by (with_reducible repeat (first | refine blk_drewN ?_ _ | refine blk_drew ?_ | refine blk_alloc ?_ _)); exact BK329.out)) : gb336 ≠ gb329)); clear HO_5; clear BK308; clear BK329; clear HB; have HO_5 := n0_; have BK308 := n1_; have BK329 := n2_; have HB := n3_; have BK336 := n4_; have GW336 := n5_; have GE336 := n6_; have NB308_336 := n7_; have NB336_308 := n8_; have NB329_336 := n9_; have NB336_329 := n10_; clear n0_ n1_ n2_ n3_ n4_ n5_ n6_ n7_ n8_ n9_ n10_; clear hb hbox hg; have hnb93 := NB336_308.out; have hnc93 := NB308_336.out; have hnb94 := NB336_329.out; have hnc94 := NB329_336.out; have hcz95_0 : w92.cell? ⟨gb336, 0, none⟩ = some (.bool false) := (blk_cell BK336.out 0).trans rfl; have hcz95_1 : w92.cell? ⟨gb336, 1, none⟩ = some (.int .u64 0) := (blk_cell BK336.out 1).trans rfl; have hcz95_2 : w92.cell? ⟨gb336, 2, none⟩ = some (.string ⟨#[]⟩) := (blk_cell BK336.out 2).trans rfl; have hcz95_3 : w92.cell? ⟨gb336, 3, none⟩ = some (.string ⟨#[]⟩) := (blk_cell BK336.out 3).trans rfl; have hfz95_0 := blk_frozen BK336.out 0; have hfz95_1 := blk_frozen BK336.out 1; have hfz95_2 := blk_frozen BK336.out 2; have hfz95_3 := blk_frozen BK336.out 3; have hcv96 := Kd.C_string (P := Try.prog) (A := A1) (c := c1) Try.underlying39 Try.underlying5 Try.underlying9 (Kd.C_below HR1.out HB.out); have hcv96b := fun (v0_ v1_ v2_ v3_ : Value) => Kd.C_string (P := Try.prog) (A := A1) (c := c1) Try.underlying39 Try.underlying5 Try.underlying9 (Kd.C_below HR1.out (below_set (g := gb336) (j := 3) (v := v3_) (below_set (g := gb336) (j := 2) (v := v2_) (below_set (g := gb336) (j := 1) (v := v1_) (below_set (g := gb336) (j := 0) (v := v0_) HB.out GE336.out) GE336.out) GE336.out) GE336.out))) | ((with_reducible refine gate_callee (f := 34) rfl ?_); refine goesL_ (some 70) rfl rfl Try.func34 (by kernel_rfl) rfl #[.string (strOfNums l1)] rfl (by (try simp only [mA, mB, mC]); first | done | rfl) ?_; (with_reducible refine (fascicleref09_GetRecord.calls kj32 (strOfNums l1) t337 t338 t339 t340 t341 _ A61.out).mono ?_); rintro e w97 ⟨rfl, hb⟩; refine ⟨_, rfl, ?_⟩; replace HO_5 := Aside0.mk (Kd.R_below (by (with_reducible repeat (first | apply Kd.R_alloc | apply Kd.R_drewN | apply Kd.R_drew)); exact (Kd.R_mono (Kd.R_far (p := ⟨gb336, 3, none⟩) (Kd.R_far (p := ⟨gb336, 2, none⟩) (Kd.R_far (p := ⟨gb336, 1, none⟩) (Kd.R_far (p := ⟨gb336, 0, none⟩) (Kd.R_types HO_5.out BK336.out (by decide)) (fun _ hk => by first | exact hk.2 | exact hk) (.bool t331)) (fun _ hk => by first | exact hk.2 | exact hk) (.int .u64 t332)) (fun _ hk => by first | exact hk.2 | exact hk) (.string t333)) (fun _ hk => by first | exact hk.2 | exact hk) (.string t334)) (fun _ h_ => h_.1))) hb); replace BK308 := Aside0.mk (blk_below (g := gb308) (o := .cells #[.bool a0_0, .int .u64 a0_1, .string a0_2, .string a0_3] 59 (0, 0)) (by (with_reducible repeat (first | refine blk_drewN ?_ _ | refine blk_drew ?_ | refine blk_alloc ?_ _)); refine blk_far ?_ NB308_336.out _; refine blk_far ?_ NB308_336.out _; refine blk_far ?_ NB308_336.out _; refine blk_far ?_ NB308_336.out _; (with_reducible repeat (first | refine blk_drewN ?_ _ | refine blk_drew ?_ | refine blk_alloc ?_ _)); exact BK308.out) hb); replace BK329 := Aside0.mk (blk_below (g := gb329) (o := .cells #[.bool t324, .int .u64 t325, .string t326, .string t327] 59 (0, 0)) (by (with_reducible repeat (first | refine blk_drewN ?_ _ | refine blk_drew ?_ | refine blk_alloc ?_ _)); refine blk_far ?_ NB329_336.out _; refine blk_far ?_ NB329_336.out _; refine blk_far ?_ NB329_336.out _; refine blk_far ?_ NB329_336.out _; (with_reducible repeat (first | refine blk_drewN ?_ _ | refine blk_drew ?_ | refine blk_alloc ?_ _)); exact BK329.out) hb); replace BK336 := Aside0.mk (blk_below (g := gb336) (o := .cells #[.bool t331, .int .u64 t332, .string t333, .string t334] 59 (0, 0)) (by (with_reducible repeat (first | refine blk_drewN ?_ _ | refine blk_drew ?_ | refine blk_alloc ?_ _)); refine blk_put (cs := #[.bool t331, .int .u64 t332, .string t333, .string ⟨#[]⟩]) ?_ 3 _ rfl; refine blk_put (cs := #[.bool t331, .int .u64 t332, .string ⟨#[]⟩, .string ⟨#[]⟩]) ?_ 2 _ rfl; refine blk_put (cs := #[.bool t331, .int .u64 0, .string ⟨#[]⟩, .string ⟨#[]⟩]) ?_ 1 _ rfl; refine blk_put (cs := #[.bool false, .int .u64 0, .string ⟨#[]⟩, .string ⟨#[]⟩]) ?_ 0 _ rfl; (with_reducible repeat (first | refine blk_drewN ?_ _ | refine blk_drew ?_ | refine blk_alloc ?_ _)); exact BK336.out) hb); replace HB := Aside0.mk (below_step (by repeat with_reducible first | exact HB.out | apply below_alloc | apply pw_below_drewN | apply below_drew1 | refine below_set ?_ GE308.out | refine below_set ?_ GE329.out | refine below_set ?_ GE336.out) hb); (try clear hb)) | ((with_reducible refine gate_dst (N := 11) rfl ?_); (try (refine gate_guard (by rfl) ?_; dsimp only)); refine box_event ?hg (N := 11) ?hd (cs := #[.bool false, .int .u64 0, .string ⟨#[]⟩, .string ⟨#[]⟩]) (t := 59) ?hr ?_; (case hd => rfl); (case hg => rfl); (case hr => first | (go_simp; done) | (go_simp; rfl)); intro gb342 hg w98 hbox hb; have n0_ := Aside0.mk (Kd.R_below (by (with_reducible repeat (first | apply Kd.R_alloc | apply Kd.R_drewN | apply Kd.R_drew)); exact HO_5.out) hb); have n1_ := Aside0.mk (blk_below (g := gb308) (o := .cells #[.bool a0_0, .int .u64 a0_1, .string a0_2, .string a0_3] 59 (0, 0)) (by (with_reducible repeat (first | refine blk_drewN ?_ _ | refine blk_drew ?_ | refine blk_alloc ?_ _)); exact BK308.out) hb); have n2_ := Aside0.mk (blk_below (g := gb329) (o := .cells #[.bool t324, .int .u64 t325, .string t326, .string t327] 59 (0, 0)) (by (with_reducible repeat (first | refine blk_drewN ?_ _ | refine blk_drew ?_ | refine blk_alloc ?_ _)); exact BK329.out) hb); have n3_ := Aside0.mk (blk_below (g := gb336) (o := .cells #[.bool t331, .int .u64 t332, .string t333, .string t334] 59 (0, 0)) (by (with_reducible repeat (first | refine blk_drewN ?_ _ | refine blk_drew ?_ | refine blk_alloc ?_ _)); exact BK336.out) hb); have n4_ := Aside0.mk (below_step (by repeat with_reducible first | exact HB.out | apply below_alloc | apply pw_below_drewN | apply below_drew1 | refine below_set ?_ GE308.out | refine below_set ?_ GE329.out | refine below_set ?_ GE336.out) hb); have n5_ := Aside0.mk (hbox); have n6_ := Aside0.mk ((by rw [hg]; exact (below_size (by repeat with_reducible first | exact HB.out | apply below_alloc | apply pw_below_drewN | apply below_drew1 | refine below_set ?_ GE308.out | refine below_set ?_ GE329.out | refine below_set ?_ GE336.out)) : w.heap.size ≤ gb342)); have n7_ := Aside0.mk ((by rw [hg]; exact (below_size (by repeat with_reducible first | exact HB.out | apply below_alloc | apply pw_below_drewN | apply below_drew1 | refine below_set ?_ GE308.out | refine below_set ?_ GE329.out | refine below_set ?_ GE336.out)) : w.heap.size ≤ gb342)); have n8_ := Aside0.mk ((by rw [hg]; exact Nat.ne_of_lt (blk_lt (g := gb308) (o := .cells #[.bool a0_0, .int .u64 a0_1, .string a0_2, .string a0_3] 59 (0, 0)) (by (with_reducible repeat (first | refine blk_drewN ?_ _ | refine blk_drew ?_ | refine blk_alloc ?_ _)); exact BK308.out)) : gb308 ≠ gb342)); have n9_ := Aside0.mk ((by rw [hg]; exact Nat.ne_of_gt (blk_lt (g := gb308) (o := .cells #[.bool a0_0, .int .u64 a0_1, .string a0_2, .string a0_3] 59 (0, 0)) (by (with_reducible repeat (first | refine blk_drewN ?_ _ | refine blk_drew ?_ | refine blk_alloc ?_ _)); exact BK308.out)) : gb342 ≠ gb308)); have n10_ := Aside0.mk ((by rw [hg]; exact Nat.ne_of_lt (blk_lt (g := gb329) (o := .cells #[.bool t324, .int .u64 t325, .string t326, .string t327] 59 (0, 0)) (by (with_reducible repeat (first | refine blk_drewN ?_ _ | refine blk_drew ?_ | refine blk_alloc ?_ _)); exact BK329.out)) : gb329 ≠ gb342)); have n11_ := Aside0.mk ((by rw [hg]; exact Nat.ne_of_gt (blk_lt (g := gb329) (o := .cells #[.bool t324, .int .u64 t325, .string t326, .string t327] 59 (0, 0)) (by (with_reducible repeat (first | refine blk_drewN ?_ _ | refine blk_drew ?_ | refine blk_alloc ?_ _)); exact BK329.out)) : gb342 ≠ gb329)); have n12_ := Aside0.mk ((by rw [hg]; exact Nat.ne_of_lt (blk_lt (g := gb336) (o := .cells #[.bool t331, .int .u64 t332, .string t333, .string t334] 59 (0, 0)) (by (with_reducible repeat (first | refine blk_drewN ?_ _ | refine blk_drew ?_ | refine blk_alloc ?_ _)); exact BK336.out)) : gb336 ≠ gb342)); have n13_ := Aside0.mk ((by rw [hg]; exact Nat.ne_of_gt (blk_lt (g := gb336) (o := .cells #[.bool t331, .int .u64 t332, .string t333, .string t334] 59 (0, 0)) (by (with_reducible repeat (first | refine blk_drewN ?_ _ | refine blk_drew ?_ | refine blk_alloc ?_ _)); exact BK336.out)) : gb342 ≠ gb336)); clear HO_5; clear BK308; clear BK329; clear BK336; clear HB; have HO_5 := n0_; have BK308 := n1_; have BK329 := n2_; have BK336 := n3_; have HB := n4_; have BK342 := n5_; have GW342 := n6_; have GE342 := n7_; have NB308_342 := n8_; have NB342_308 := n9_; have NB329_342 := n10_; have NB342_329 := n11_; have NB336_342 := n12_; have NB342_336 := n13_; clear n0_ n1_ n2_ n3_ n4_ n5_ n6_ n7_ n8_ n9_ n10_ n11_ n12_ n13_; clear hb hbox hg; have hnb99 := NB342_308.out; have hnc99 := NB308_342.out; have hnb100 := NB342_329.out; have hnc100 := NB329_342.out; have hnb101 := NB342_336.out; have hnc101 := NB336_342.out; have hcz102_0 : w98.cell? ⟨gb342, 0, none⟩ = some (.bool false) := (blk_cell BK342.out 0).trans rfl; have hcz102_1 : w98.cell? ⟨gb342, 1, none⟩ = some (.int .u64 0) := (blk_cell BK342.out 1).trans rfl; have hcz102_2 : w98.cell? ⟨gb342, 2, none⟩ = some (.string ⟨#[]⟩) := (blk_cell BK342.out 2).trans rfl; have hcz102_3 : w98.cell? ⟨gb342, 3, none⟩ = some (.string ⟨#[]⟩) := (blk_cell BK342.out 3).trans rfl; have hfz102_0 := blk_frozen BK342.out 0; have hfz102_1 := blk_frozen BK342.out 1; have hfz102_2 := blk_frozen BK342.out 2; have hfz102_3 := blk_frozen BK342.out 3; have hcz103_0 : w98.cell? ⟨gb336, 0, none⟩ = some (.bool t331) := (blk_cell BK336.out 0).trans rfl; have hcz103_1 : w98.cell? ⟨gb336, 1, none⟩ = some (.int .u64 t332) := (blk_cell BK336.out 1).trans rfl; have hcz103_2 : w98.cell? ⟨gb336, 2, none⟩ = some (.string t333) := (blk_cell BK336.out 2).trans rfl; have hcz103_3 : w98.cell? ⟨gb336, 3, none⟩ = some (.string t334) := (blk_cell BK336.out 3).trans rfl; have hfz103_0 := blk_frozen BK336.out 0; have hfz103_1 := blk_frozen BK336.out 1; have hfz103_2 := blk_frozen BK336.out 2; have hfz103_3 := blk_frozen BK336.out 3))
             go_ret
             exact ⟨by first | rfl | (simp <;> rfl) | (simp only [← hji29]; first | rfl | (simp <;> rfl)) | (simp [*] <;> rfl), by repeat (first | (with_reducible first | exact HB.out | apply below_alloc | apply pw_below_drewN | apply below_drew1 | refine below_set ?_ GE308.out | refine below_set ?_ GE329.out | refine below_set ?_ GE336.out | refine below_set ?_ GE342.out) | exact HB.out)⟩
           ·
            rw [if_neg c62] at H
            have c62b0 : (t331 == t337 && (t332 == t338 && (t333.toList == t339.toList && (t334.toList == t340.toList)))) = false := by simpa using c62
            (try (have c62b1 : decide (t331 = t337 && (t332 == t338 && (t333.toList == t339.toList && (t334.toList == t340.toList)))) = false := by simpa using c62))
            (try (have c62b2 : (t331 == t337 && (t332 == t338 && (t333.toList == t339.toList && (t334.toList == t340.toList)))) = false := by simpa using c62))
            (try (have c62b3 : ¬ (t331 = t337 && (t332 == t338 && (t333.toList == t339.toList && (t334.toList == t340.toList)))) := by simpa using c62))
            clear c62
            obtain rfl := Option.some.inj H
            go_wp2_with (first | ((with_reducible refine gate_callee (f := 32) rfl ?_); refine goesL_ (some 64) rfl rfl Try.func32 (by kernel_rfl) rfl #[.slice A1 l1.length c1] rfl (by (try simp only [mA, mB, mC]); first | done | rfl) ?_; (with_reducible refine (frame_GetRecord.calls _ _ l1 t331 t332 t333 t334 t335 _ ?side1 ?side2 A60.out).mono ?_); (case side1 => repeat (first | exact (Kd.C_below HR1.out HB.out) | (with_reducible refine Kd.C_alloc ?_ _) | (with_reducible refine Kd.C_drewN ?_ _) | (with_reducible refine Kd.C_drew ?_))); (case side2 => exact HC1.out); rintro e w104 ⟨rfl, hb⟩; refine ⟨_, rfl, ?_⟩; replace HO_5 := Aside0.mk (Kd.R_below (by (with_reducible repeat (first | apply Kd.R_alloc | apply Kd.R_drewN | apply Kd.R_drew)); exact HO_5.out) hb); replace BK308 := Aside0.mk (blk_below (g := gb308) (o := .cells #[.bool a0_0, .int .u64 a0_1, .string a0_2, .string a0_3] 59 (0, 0)) (by (with_reducible repeat (first | refine blk_drewN ?_ _ | refine blk_drew ?_ | refine blk_alloc ?_ _)); exact BK308.out) hb); replace BK329 := Aside0.mk (blk_below (g := gb329) (o := .cells #[.bool t324, .int .u64 t325, .string t326, .string t327] 59 (0, 0)) (by (with_reducible repeat (first | refine blk_drewN ?_ _ | refine blk_drew ?_ | refine blk_alloc ?_ _)); exact BK329.out) hb); replace HB := Aside0.mk (below_step (by repeat with_reducible first | exact HB.out | apply below_alloc | apply pw_below_drewN | apply below_drew1 | refine below_set ?_ GE308.out | refine below_set ?_ GE329.out) hb); (try clear hb)) | ((with_reducible refine gate_dst (N := 9) rfl ?_); (try (refine gate_guard (by rfl) ?_; dsimp only)); refine box_event ?hg (N := 9) ?hd (cs := #[.bool false, .int .u64 0, .string ⟨#[]⟩, .string ⟨#[]⟩]) (t := 59) ?hr ?_; (case hd => rfl); (case hg => rfl); (case hr => first | (go_simp; done) | (go_simp; rfl)); intro gb336 hg w105 hbox hb; have n0_ := Aside0.mk (Kd.R_below (by (with_reducible repeat (first | apply Kd.R_alloc | apply Kd.R_drewN | apply Kd.R_drew)); exact HO_5.out) hb); have n1_ := Aside0.mk (blk_below (g := gb308) (o := .cells #[.bool a0_0, .int .u64 a0_1, .string a0_2, .string a0_3] 59 (0, 0)) (by (with_reducible repeat (first | refine blk_drewN ?_ _ | refine blk_drew ?_ | refine blk_alloc ?_ _)); exact BK308.out) hb); have n2_ := Aside0.mk (blk_below (g := gb329) (o := .cells #[.bool t324, .int .u64 t325, .string t326, .string t327] 59 (0, 0)) (by (with_reducible repeat (first | refine blk_drewN ?_ _ | refine blk_drew ?_ | refine blk_alloc ?_ _)); exact BK329.out) hb); have n3_ := Aside0.mk (below_step (by repeat with_reducible first | exact HB.out | apply below_alloc | apply pw_below_drewN | apply below_drew1 | refine below_set ?_ GE308.out | refine below_set ?_ GE329.out) hb); have n4_ := Aside0.mk (hbox); have n5_ := Aside0.mk ((by rw [hg]; exact (below_size (by repeat with_reducible first | exact HB.out | apply below_alloc | apply pw_below_drewN | apply below_drew1 | refine below_set ?_ GE308.out | refine below_set ?_ GE329.out)) : w.heap.size ≤ gb336)); have n6_ := Aside0.mk ((by rw [hg]; exact (below_size (by repeat with_reducible first | exact HB.out | apply below_alloc | apply pw_below_drewN | apply below_drew1 | refine below_set ?_ GE308.out | refine below_set ?_ GE329.out)) : w.heap.size ≤ gb336)); have n7_ := Aside0.mk ((by rw [hg]; exact Nat.ne_of_lt (blk_lt (g := gb308) (o := .cells #[.bool a0_0, .int .u64 a0_1, .string a0_2, .string a0_3] 59 (0, 0)) (by (with_reducible repeat (first | refine blk_drewN ?_ _ | refine blk_drew ?_ | refine blk_alloc ?_ _)); exact BK308.out)) : gb308 ≠ gb336)); have n8_ := Aside0.mk ((by rw [hg]; exact Nat.ne_of_gt (blk_lt (g := gb308) (o := .cells #[.bool a0_0, .int .u64 a0_1, .string a0_2, .string a0_3] 59 (0, 0)) (by (with_reducible repeat (first | refine blk_drewN ?_ _ | refine blk_drew ?_ | refine blk_alloc ?_ _)); exact BK308.out)) : gb336 ≠ gb308)); have n9_ := Aside0.mk ((by rw [hg]; exact Nat.ne_of_lt (blk_lt (g := gb329) (o := .cells #[.bool t324, .int .u64 t325, .string t326, .string t327] 59 (0, 0)) (by (with_reducible repeat (first | refine blk_drewN ?_ _ | refine blk_drew ?_ | refine blk_alloc ?_ _)); exact BK329.out)) : gb329 ≠ gb336)); have n10_ := Aside0.mk ((by rw [hg]; exact Nat.ne_of_gt (blk_lt (g := gb329) (o := .cells #[.bool t324, .int .u64 t325, .string t326, .string t327] 59 (0, 0)) (by (with_reducible repeat (first | refine blk_drewN ?_ _ | refine blk_drew ?_ | refine blk_alloc ?_ _)); exact BK329.out)) : gb336 ≠ gb329)); clear HO_5; clear BK308; clear BK329; clear HB; have HO_5 := n0_; have BK308 := n1_; have BK329 := n2_; have HB := n3_; have BK336 := n4_; have GW336 := n5_; have GE336 := n6_; have NB308_336 := n7_; have NB336_308 := n8_; have NB329_336 := n9_; have NB336_329 := n10_; clear n0_ n1_ n2_ n3_ n4_ n5_ n6_ n7_ n8_ n9_ n10_; clear hb hbox hg; have hnb106 := NB336_308.out; have hnc106 := NB308_336.out; have hnb107 := NB336_329.out; have hnc107 := NB329_336.out; have hcz108_0 : w105.cell? ⟨gb336, 0, none⟩ = some (.bool false) := (blk_cell BK336.out 0).trans rfl; have hcz108_1 : w105.cell? ⟨gb336, 1, none⟩ = some (.int .u64 0) := (blk_cell BK336.out 1).trans rfl; have hcz108_2 : w105.cell? ⟨gb336, 2, none⟩ = some (.string ⟨#[]⟩) := (blk_cell BK336.out 2).trans rfl; have hcz108_3 : w105.cell? ⟨gb336, 3, none⟩ = some (.string ⟨#[]⟩) := (blk_cell BK336.out 3).trans rfl; have hfz108_0 := blk_frozen BK336.out 0; have hfz108_1 := blk_frozen BK336.out 1; have hfz108_2 := blk_frozen BK336.out 2; have hfz108_3 := blk_frozen BK336.out 3; have hcv109 := Kd.C_string (P := Try.prog) (A := A1) (c := c1) Try.underlying39 Try.underlying5 Try.underlying9 (Kd.C_below HR1.out HB.out); have hcv109b := fun (v0_ v1_ v2_ v3_ : Value) => Kd.C_string (P := Try.prog) (A := A1) (c := c1) Try.underlying39 Try.underlying5 Try.underlying9 (Kd.C_below HR1.out (below_set (g := gb336) (j := 3) (v := v3_) (below_set (g := gb336) (j := 2) (v := v2_) (below_set (g := gb336) (j := 1) (v := v1_) (below_set (g := gb336) (j := 0) (v := v0_) HB.out GE336.out) GE336.out) GE336.out) GE336.out))) | ((with_reducible refine gate_callee (f := 34) rfl ?_); refine goesL_ (some 70) rfl rfl Try.func34 (by kernel_rfl) rfl #[.string (strOfNums l1)] rfl (by (try simp only [mA, mB, mC]); first | done | rfl) ?_; (with_reducible refine (fascicleref09_GetRecord.calls kj32 (strOfNums l1) t337 t338 t339 t340 t341 _ A61.out).mono ?_); rintro e w110 ⟨rfl, hb⟩; refine ⟨_, rfl, ?_⟩; replace HO_5 := Aside0.mk (Kd.R_below (by (with_reducible repeat (first | apply Kd.R_alloc | apply Kd.R_drewN | apply Kd.R_drew)); exact (Kd.R_mono (Kd.R_far (p := ⟨gb336, 3, none⟩) (Kd.R_far (p := ⟨gb336, 2, none⟩) (Kd.R_far (p := ⟨gb336, 1, none⟩) (Kd.R_far (p := ⟨gb336, 0, none⟩) (Kd.R_types HO_5.out BK336.out (by decide)) (fun _ hk => by first | exact hk.2 | exact hk) (.bool t331)) (fun _ hk => by first | exact hk.2 | exact hk) (.int .u64 t332)) (fun _ hk => by first | exact hk.2 | exact hk) (.string t333)) (fun _ hk => by first | exact hk.2 | exact hk) (.string t334)) (fun _ h_ => h_.1))) hb); replace BK308 := Aside0.mk (blk_below (g := gb308) (o := .cells #[.bool a0_0, .int .u64 a0_1, .string a0_2, .string a0_3] 59 (0, 0)) (by (with_reducible repeat (first | refine blk_drewN ?_ _ | refine blk_drew ?_ | refine blk_alloc ?_ _)); refine blk_far ?_ NB308_336.out _; refine blk_far ?_ NB308_336.out _; refine blk_far ?_ NB308_336.out _; refine blk_far ?_ NB308_336.out _; (with_reducible repeat (first | refine blk_drewN ?_ _ | refine blk_drew ?_ | refine blk_alloc ?_ _)); exact BK308.out) hb); replace BK329 := Aside0.mk (blk_below (g := gb329) (o := .cells #[.bool t324, .int .u64 t325, .string t326, .string t327] 59 (0, 0)) (by (with_reducible repeat (first | refine blk_drewN ?_ _ | refine blk_drew ?_ | refine blk_alloc ?_ _)); refine blk_far ?_ NB329_336.out _; refine blk_far ?_ NB329_336.out _; refine blk_far ?_ NB329_336.out _; refine blk_far ?_ NB329_336.out _; (with_reducible repeat (first | refine blk_drewN ?_ _ | refine blk_drew ?_ | refine blk_alloc ?_ _)); exact BK329.out) hb); replace BK336 := Aside0.mk (blk_below (g := gb336) (o := .cells #[.bool t331, .int .u64 t332, .string t333, .string t334] 59 (0, 0)) (by (with_reducible repeat (first | refine blk_drewN ?_ _ | refine blk_drew ?_ | refine blk_alloc ?_ _)); refine blk_put (cs := #[.bool t331, .int .u64 t332, .string t333, .string ⟨#[]⟩]) ?_ 3 _ rfl; refine blk_put (cs := #[.bool t331, .int .u64 t332, .string ⟨#[]⟩, .string ⟨#[]⟩]) ?_ 2 _ rfl; refine blk_put (cs := #[.bool t331, .int .u64 0, .string ⟨#[]⟩, .string ⟨#[]⟩]) ?_ 1 _ rfl; refine blk_put (cs := #[.bool false, .int .u64 0, .string ⟨#[]⟩, .string ⟨#[]⟩]) ?_ 0 _ rfl; (with_reducible repeat (first | refine blk_drewN ?_ _ | refine blk_drew ?_ | refine blk_alloc ?_ _)); exact BK336.out) hb); replace HB := Aside0.mk (below_step (by repeat with_reducible first | exact HB.out | apply below_alloc | apply pw_below_drewN | apply below_drew1 | refine below_set ?_ GE308.out | refine below_set ?_ GE329.out | refine below_set ?_ GE336.out) hb); (try clear hb)) | ((with_reducible refine gate_dst (N := 11) rfl ?_); (try (refine gate_guard (by rfl) ?_; dsimp only)); refine box_event ?hg (N := 11) ?hd (cs := #[.bool false, .int .u64 0, .string ⟨#[]⟩, .string ⟨#[]⟩]) (t := 59) ?hr ?_; (case hd => rfl); (case hg => rfl); (case hr => first | (go_simp; done) | (go_simp; rfl)); intro gb342 hg w111 hbox hb; have n0_ := Aside0.mk (Kd.R_below (by (with_reducible repeat (first | apply Kd.R_alloc | apply Kd.R_drewN | apply Kd.R_drew)); exact HO_5.out) hb); have n1_ := Aside0.mk (blk_below (g := gb308) (o := .cells #[.bool a0_0, .int .u64 a0_1, .string a0_2, .string a0_3] 59 (0, 0)) (by (with_reducible repeat (first | refine blk_drewN ?_ _ | refine blk_drew ?_ | refine blk_alloc ?_ _)); exact BK308.out) hb); have n2_ := Aside0.mk (blk_below (g := gb329) (o := .cells #[.bool t324, .int .u64 t325, .string t326, .string t327] 59 (0, 0)) (by (with_reducible repeat (first | refine blk_drewN ?_ _ | refine blk_drew ?_ | refine blk_alloc ?_ _)); exact BK329.out) hb); have n3_ := Aside0.mk (blk_below (g := gb336) (o := .cells #[.bool t331, .int .u64 t332, .string t333, .string t334] 59 (0, 0)) (by (with_reducible repeat (first | refine blk_drewN ?_ _ | refine blk_drew ?_ | refine blk_alloc ?_ _)); exact BK336.out) hb); have n4_ := Aside0.mk (below_step (by repeat with_reducible first | exact HB.out | apply below_alloc | apply pw_below_drewN | apply below_drew1 | refine below_set ?_ GE308.out | refine below_set ?_ GE329.out | refine below_set ?_ GE336.out) hb); have n5_ := Aside0.mk (hbox); have n6_ := Aside0.mk ((by rw [hg]; exact (below_size (by repeat with_reducible first | exact HB.out | apply below_alloc | apply pw_below_drewN | apply below_drew1 | refine below_set ?_ GE308.out | refine below_set ?_ GE329.out | refine below_set ?_ GE336.out)) : w.heap.size ≤ gb342)); have n7_ := Aside0.mk ((by rw [hg]; exact (below_size (by repeat with_reducible first | exact HB.out | apply below_alloc | apply pw_below_drewN | apply below_drew1 | refine below_set ?_ GE308.out | refine below_set ?_ GE329.out | refine below_set ?_ GE336.out)) : w.heap.size ≤ gb342)); have n8_ := Aside0.mk ((by rw [hg]; exact Nat.ne_of_lt (blk_lt (g := gb308) (o := .cells #[.bool a0_0, .int .u64 a0_1, .string a0_2, .string a0_3] 59 (0, 0)) (by (with_reducible repeat (first | refine blk_drewN ?_ _ | refine blk_drew ?_ | refine blk_alloc ?_ _)); exact BK308.out)) : gb308 ≠ gb342)); have n9_ := Aside0.mk ((by rw [hg]; exact Nat.ne_of_gt (blk_lt (g := gb308) (o := .cells #[.bool a0_0, .int .u64 a0_1, .string a0_2, .string a0_3] 59 (0, 0)) (by (with_reducible repeat (first | refine blk_drewN ?_ _ | refine blk_drew ?_ | refine blk_alloc ?_ _)); exact BK308.out)) : gb342 ≠ gb308)); have n10_ := Aside0.mk ((by rw [hg]; exact Nat.ne_of_lt (blk_lt (g := gb329) (o := .cells #[.bool t324, .int .u64 t325, .string t326, .string t327] 59 (0, 0)) (by (with_reducible repeat (first | refine blk_drewN ?_ _ | refine blk_drew ?_ | refine blk_alloc ?_ _)); exact BK329.out)) : gb329 ≠ gb342)); have n11_ := Aside0.mk ((by rw [hg]; exact Nat.ne_of_gt (blk_lt (g := gb329) (o := .cells #[.bool t324, .int .u64 t325, .string t326, .string t327] 59 (0, 0)) (by (with_reducible repeat (first | refine blk_drewN ?_ _ | refine blk_drew ?_ | refine blk_alloc ?_ _)); exact BK329.out)) : gb342 ≠ gb329)); have n12_ := Aside0.mk ((by rw [hg]; exact Nat.ne_of_lt (blk_lt (g := gb336) (o := .cells #[.bool t331, .int .u64 t332, .string t333, .string t334] 59 (0, 0)) (by (with_reducible repeat (first | refine blk_drewN ?_ _ | refine blk_drew ?_ | refine blk_alloc ?_ _)); exact BK336.out)) : gb336 ≠ gb342)); have n13_ := Aside0.mk ((by rw [hg]; exact Nat.ne_of_gt (blk_lt (g := gb336) (o := .cells #[.bool t331, .int .u64 t332, .string t333, .string t334] 59 (0, 0)) (by (with_reducible repeat (first | refine blk_drewN ?_ _ | refine blk_drew ?_ | refine blk_alloc ?_ _)); exact BK336.out)) : gb342 ≠ gb336)); clear HO_5; clear BK308; clear BK329; clear BK336; clear HB; have HO_5 := n0_; have BK308 := n1_; have BK329 := n2_; have BK336 := n3_; have HB := n4_; have BK342 := n5_; have GW342 := n6_; have GE342 := n7_; have NB308_342 := n8_; have NB342_308 := n9_; have NB329_342 := n10_; have NB342_329 := n11_; have NB336_342 := n12_; have NB342_336 := n13_; clear n0_ n1_ n2_ n3_ n4_ n5_ n6_ n7_ n8_ n9_ n10_ n11_ n12_ n13_; clear hb hbox hg; have hnb112 := NB342_308.out; have hnc112 := NB308_342.out; have hnb113 := NB342_329.out; have hnc113 := NB329_342.out; have hnb114 := NB342_336.out; have hnc114 := NB336_342.out; have hcz115_0 : w111.cell? ⟨gb342, 0, none⟩ = some (.bool false) := (blk_cell BK342.out 0).trans rfl; have hcz115_1 : w111.cell? ⟨gb342, 1, none⟩ = some (.int .u64 0) := (blk_cell BK342.out 1).trans rfl; have hcz115_2 : w111.cell? ⟨gb342, 2, none⟩ = some (.string ⟨#[]⟩) := (blk_cell BK342.out 2).trans rfl; have hcz115_3 : w111.cell? ⟨gb342, 3, none⟩ = some (.string ⟨#[]⟩) := (blk_cell BK342.out 3).trans rfl; have hfz115_0 := blk_frozen BK342.out 0; have hfz115_1 := blk_frozen BK342.out 1; have hfz115_2 := blk_frozen BK342.out 2; have hfz115_3 := blk_frozen BK342.out 3; have hcz116_0 : w111.cell? ⟨gb336, 0, none⟩ = some (.bool t331) := (blk_cell BK336.out 0).trans rfl; have hcz116_1 : w111.cell? ⟨gb336, 1, none⟩ = some (.int .u64 t332) := (blk_cell BK336.out 1).trans rfl; have hcz116_2 : w111.cell? ⟨gb336, 2, none⟩ = some (.string t333) := (blk_cell BK336.out 2).trans rfl; have hcz116_3 : w111.cell? ⟨gb336, 3, none⟩ = some (.string t334) := (blk_cell BK336.out 3).trans rfl; have hfz116_0 := blk_frozen BK336.out 0; have hfz116_1 := blk_frozen BK336.out 1; have hfz116_2 := blk_frozen BK336.out 2; have hfz116_3 := blk_frozen BK336.out 3))
            go_ret
            exact ⟨by first | rfl | (simp <;> rfl) | (simp only [← hji29]; first | rfl | (simp <;> rfl)) | (simp [*] <;> rfl), by repeat (first | (with_reducible first | exact HB.out | apply below_alloc | apply pw_below_drewN | apply below_drew1 | refine below_set ?_ GE308.out | refine below_set ?_ GE329.out | refine below_set ?_ GE336.out | refine below_set ?_ GE342.out) | exact HB.out)⟩
       ·
        rw [if_neg c31] at H
        exact absurd H (by simp)
      ·
       rw [if_neg c30] at H
       exact absurd H (by simp)
     ·
      rw [if_neg c28] at H
      have c28b0 : (t318 == 0) = false := beq_eq_false_iff_ne.mpr c28
      have c28b1 : (t318 != 0) = true := bne_iff_ne.mpr c28
      replace H := Option.bind_eq_some_iff.mp H
      obtain ⟨⟨t343, t344, t345, t346, t347⟩, A1170, H⟩ := H
      replace H : ((fascicleref09_GetRecord.f kj2 (strOfNums l1)).bind fun bt349 => (if (t343 == bt349.1 && (t344 == bt349.2.1 && (t345.toList == bt349.2.2.1.toList && (t346.toList == bt349.2.2.2.1.toList)))) = true then (if t347 = bt349.2.2.2.2 then (some ((t315.length : Int) == 0)) else (some false)) else (some false))) = some r := H
      have A117 := Aside0.mk A1170
      clear A1170
      replace H := Option.bind_eq_some_iff.mp H
      obtain ⟨⟨t349, t350, t351, t352, t353⟩, A1180, H⟩ := H
      replace H : (if (t343 == t349 && (t344 == t350 && (t345.toList == t351.toList && (t346.toList == t352.toList)))) = true then (if t347 = t353 then (some ((t315.length : Int) == 0)) else (some false)) else (some false)) = some r := H
      have A118 := Aside0.mk A1180
      clear A1180
      by_cases c119 : (t343 == t349 && (t344 == t350 && (t345.toList == t351.toList && (t346.toList == t352.toList)))) = true
      ·
       rw [if_pos c119] at H
       have c119b0 : (t343 == t349 && (t344 == t350 && (t345.toList == t351.toList && (t346.toList == t352.toList)))) = true := c119
       (try (have c119b1 : decide (t343 = t349 && (t344 == t350 && (t345.toList == t351.toList && (t346.toList == t352.toList)))) = true := by simpa using c119))
       (try (have c119b2 : (t343 == t349 && (t344 == t350 && (t345.toList == t351.toList && (t346.toList == t352.toList)))) = true := by simpa using c119))
       clear c119
       by_cases c120 : t347 = t353
       ·
        rw [if_pos c120] at H
        have c120b0 : (t347 == t353) = true := beq_iff_eq.mpr c120
        have c120b1 : (t347 != t353) = false := bne_eq_false_iff_eq.mpr c120
        clear c120
        obtain rfl := Option.some.inj H
        have hcz121_0 : wc.cell? ⟨gb308, 0, none⟩ = some (.bool a0_0) := (blk_cell BK308.out 0).trans rfl
        have hcz121_1 : wc.cell? ⟨gb308, 1, none⟩ = some (.int .u64 a0_1) := (blk_cell BK308.out 1).trans rfl
        have hcz121_2 : wc.cell? ⟨gb308, 2, none⟩ = some (.string a0_2) := (blk_cell BK308.out 2).trans rfl
        have hcz121_3 : wc.cell? ⟨gb308, 3, none⟩ = some (.string a0_3) := (blk_cell BK308.out 3).trans rfl
        have hfz121_0 := blk_frozen BK308.out 0
        have hfz121_1 := blk_frozen BK308.out 1
        have hfz121_2 := blk_frozen BK308.out 2
        have hfz121_3 := blk_frozen BK308.out 3
        go_wp2_with (first | ((with_reducible refine gate_callee (f := 30) rfl ?_); refine goesL_ (some 29) rfl rfl Try.func30 (by kernel_rfl) rfl #[.agg #[.bool a0_0, .int .u64 a0_1, .string a0_2, .string a0_3]] rfl (by (try simp only [mA, mB, mC]); first | done | rfl) ?_; (with_reducible refine (frame_PutRecord.calls a0_0 a0_1 a0_2 a0_3 t315 t318 _ A25.out).mono ?_); rintro e w122 ⟨v316, rfl, ho0, hb⟩; refine ⟨_, rfl, ?_⟩; have HO317 := Aside0.mk (Kd.R_lower ho0 (below_size (by repeat with_reducible first | exact HB.out | apply below_alloc | apply pw_below_drewN | apply below_drew1 | refine below_set ?_ GE308.out))); replace BK308 := Aside0.mk (blk_below (g := gb308) (o := .cells #[.bool a0_0, .int .u64 a0_1, .string a0_2, .string a0_3] 59 (0, 0)) (by (with_reducible repeat (first | refine blk_drewN ?_ _ | refine blk_drew ?_ | refine blk_alloc ?_ _)); exact BK308.out) hb); replace HB := Aside0.mk (below_step (by repeat with_reducible first | exact HB.out | apply below_alloc | apply pw_below_drewN | apply below_drew1 | refine below_set ?_ GE308.out) hb); (try clear hb); (try clear ho0); have hcz123_0 : w122.cell? ⟨gb308, 0, none⟩ = some (.bool a0_0) := (blk_cell BK308.out 0).trans rfl; have hcz123_1 : w122.cell? ⟨gb308, 1, none⟩ = some (.int .u64 a0_1) := (blk_cell BK308.out 1).trans rfl; have hcz123_2 : w122.cell? ⟨gb308, 2, none⟩ = some (.string a0_2) := (blk_cell BK308.out 2).trans rfl; have hcz123_3 : w122.cell? ⟨gb308, 3, none⟩ = some (.string a0_3) := (blk_cell BK308.out 3).trans rfl; have hfz123_0 := blk_frozen BK308.out 0; have hfz123_1 := blk_frozen BK308.out 1; have hfz123_2 := blk_frozen BK308.out 2; have hfz123_3 := blk_frozen BK308.out 3) | ((with_reducible refine gate_callee (f := 31) rfl ?_); refine goesL_ (some 34) rfl rfl Try.func31 (by kernel_rfl) rfl #[.agg #[.bool a0_0, .int .u64 a0_1, .string a0_2, .string a0_3]] rfl (by (try simp only [mA, mB, mC]); first | done | rfl) ?_; (with_reducible refine (fascicleref07_Check.calls kj2 a0_0 a0_1 a0_2 a0_3 t319 _ A26.out).mono ?_); rintro e w124 ⟨rfl, hb⟩; refine ⟨_, rfl, ?_⟩; replace HO317 := Aside0.mk (Kd.R_below (by (with_reducible repeat (first | apply Kd.R_alloc | apply Kd.R_drewN | apply Kd.R_drew)); exact HO317.out) hb); replace BK308 := Aside0.mk (blk_below (g := gb308) (o := .cells #[.bool a0_0, .int .u64 a0_1, .string a0_2, .string a0_3] 59 (0, 0)) (by (with_reducible repeat (first | refine blk_drewN ?_ _ | refine blk_drew ?_ | refine blk_alloc ?_ _)); exact BK308.out) hb); replace HB := Aside0.mk (below_step (by repeat with_reducible first | exact HB.out | apply below_alloc | apply pw_below_drewN | apply below_drew1 | refine below_set ?_ GE308.out) hb); (try clear hb)) | ((with_reducible refine gate_callee (f := 32) rfl ?_); refine goesL_ (some 64) rfl rfl Try.func32 (by kernel_rfl) rfl #[.slice A1 l1.length c1] rfl (by (try simp only [mA, mB, mC]); first | done | rfl) ?_; (with_reducible refine (frame_GetRecord.calls _ _ l1 t343 t344 t345 t346 t347 _ ?side1 ?side2 A117.out).mono ?_); (case side1 => repeat (first | exact (Kd.C_below HR1.out HB.out) | (with_reducible refine Kd.C_alloc ?_ _) | (with_reducible refine Kd.C_drewN ?_ _) | (with_reducible refine Kd.C_drew ?_))); (case side2 => exact HC1.out); rintro e w125 ⟨rfl, hb⟩; refine ⟨_, rfl, ?_⟩; replace HO317 := Aside0.mk (Kd.R_below (by (with_reducible repeat (first | apply Kd.R_alloc | apply Kd.R_drewN | apply Kd.R_drew)); exact HO317.out) hb); replace BK308 := Aside0.mk (blk_below (g := gb308) (o := .cells #[.bool a0_0, .int .u64 a0_1, .string a0_2, .string a0_3] 59 (0, 0)) (by (with_reducible repeat (first | refine blk_drewN ?_ _ | refine blk_drew ?_ | refine blk_alloc ?_ _)); exact BK308.out) hb); replace HB := Aside0.mk (below_step (by repeat with_reducible first | exact HB.out | apply below_alloc | apply pw_below_drewN | apply below_drew1 | refine below_set ?_ GE308.out) hb); (try clear hb)) | ((with_reducible refine gate_dst (N := 9) rfl ?_); (try (refine gate_guard (by rfl) ?_; dsimp only)); refine box_event ?hg (N := 9) ?hd (cs := #[.bool false, .int .u64 0, .string ⟨#[]⟩, .string ⟨#[]⟩]) (t := 59) ?hr ?_; (case hd => rfl); (case hg => rfl); (case hr => first | (go_simp; done) | (go_simp; rfl)); intro gb348 hg w126 hbox hb; have n0_ := Aside0.mk (Kd.R_below (by (with_reducible repeat (first | apply Kd.R_alloc | apply Kd.R_drewN | apply Kd.R_drew)); exact HO317.out) hb); have n1_ := Aside0.mk (blk_below (g := gb308) (o := .cells #[.bool a0_0, .int .u64 a0_1, .string a0_2, .string a0_3] 59 (0, 0)) (by (with_reducible repeat (first | refine blk_drewN ?_ _ | refine blk_drew ?_ | refine blk_alloc ?_ _)); exact BK308.out) hb); have n2_ := Aside0.mk (below_step (by repeat with_reducible first | exact HB.out | apply below_alloc | apply pw_below_drewN | apply below_drew1 | refine below_set ?_ GE308.out) hb); have n3_ := Aside0.mk (hbox); have n4_ := Aside0.mk ((by rw [hg]; exact (below_size (by repeat with_reducible first | exact HB.out | apply below_alloc | apply pw_below_drewN | apply below_drew1 | refine below_set ?_ GE308.out)) : w.heap.size ≤ gb348)); have n5_ := Aside0.mk ((by rw [hg]; exact (below_size (by repeat with_reducible first | exact HB.out | apply below_alloc | apply pw_below_drewN | apply below_drew1 | refine below_set ?_ GE308.out)) : w.heap.size ≤ gb348)); have n6_ := Aside0.mk ((by rw [hg]; exact Nat.ne_of_lt (blk_lt (g := gb308) (o := .cells #[.bool a0_0, .int .u64 a0_1, .string a0_2, .string a0_3] 59 (0, 0)) (by (with_reducible repeat (first | refine blk_drewN ?_ _ | refine blk_drew ?_ | refine blk_alloc ?_ _)); exact BK308.out)) : gb308 ≠ gb348)); have n7_ := Aside0.mk ((by rw [hg]; exact Nat.ne_of_gt (blk_lt (g := gb308) (o := .cells #[.bool a0_0, .int .u64 a0_1, .string a0_2, .string a0_3] 59 (0, 0)) (by (with_reducible repeat (first | refine blk_drewN ?_ _ | refine blk_drew ?_ | refine blk_alloc ?_ _)); exact BK308.out)) : gb348 ≠ gb308)); clear HO317; clear BK308; clear HB; have HO317 := n0_; have BK308 := n1_; have HB := n2_; have BK348 := n3_; have GW348 := n4_; have GE348 := n5_; have NB308_348 := n6_; have NB348_308 := n7_; clear n0_ n1_ n2_ n3_ n4_ n5_ n6_ n7_; clear hb hbox hg; have hnb127 := NB348_308.out; have hnc127 := NB308_348.out; have hcz128_0 : w126.cell? ⟨gb348, 0, none⟩ = some (.bool false) := (blk_cell BK348.out 0).trans rfl; have hcz128_1 : w126.cell? ⟨gb348, 1, none⟩ = some (.int .u64 0) := (blk_cell BK348.out 1).trans rfl; have hcz128_2 : w126.cell? ⟨gb348, 2, none⟩ = some (.string ⟨#[]⟩) := (blk_cell BK348.out 2).trans rfl; have hcz128_3 : w126.cell? ⟨gb348, 3, none⟩ = some (.string ⟨#[]⟩) := (blk_cell BK348.out 3).trans rfl; have hfz128_0 := blk_frozen BK348.out 0; have hfz128_1 := blk_frozen BK348.out 1; have hfz128_2 := blk_frozen BK348.out 2; have hfz128_3 := blk_frozen BK348.out 3; have hcv129 := Kd.C_string (P := Try.prog) (A := A1) (c := c1) Try.underlying39 Try.underlying5 Try.underlying9 (Kd.C_below HR1.out HB.out); have hcv129b := fun (v0_ v1_ v2_ v3_ : Value) => Kd.C_string (P := Try.prog) (A := A1) (c := c1) Try.underlying39 Try.underlying5 Try.underlying9 (Kd.C_below HR1.out (below_set (g := gb348) (j := 3) (v := v3_) (below_set (g := gb348) (j := 2) (v := v2_) (below_set (g := gb348) (j := 1) (v := v1_) (below_set (g := gb348) (j := 0) (v := v0_) HB.out GE348.out) GE348.out) GE348.out) GE348.out))) | ((with_reducible refine gate_callee (f := 34) rfl ?_); refine goesL_ (some 70) rfl rfl Try.func34 (by kernel_rfl) rfl #[.string (strOfNums l1)] rfl (by (try simp only [mA, mB, mC]); first | done | rfl) ?_; (with_reducible refine (fascicleref09_GetRecord.calls kj2 (strOfNums l1) t349 t350 t351 t352 t353 _ A118.out).mono ?_); rintro e w130 ⟨rfl, hb⟩; refine ⟨_, rfl, ?_⟩; replace HO317 := Aside0.mk (Kd.R_below (by (with_reducible repeat (first | apply Kd.R_alloc | apply Kd.R_drewN | apply Kd.R_drew)); exact (Kd.R_mono (Kd.R_far (p := ⟨gb348, 3, none⟩) (Kd.R_far (p := ⟨gb348, 2, none⟩) (Kd.R_far (p := ⟨gb348, 1, none⟩) (Kd.R_far (p := ⟨gb348, 0, none⟩) (Kd.R_types HO317.out BK348.out (by decide)) (fun _ hk => by first | exact hk.2 | exact hk) (.bool t343)) (fun _ hk => by first | exact hk.2 | exact hk) (.int .u64 t344)) (fun _ hk => by first | exact hk.2 | exact hk) (.string t345)) (fun _ hk => by first | exact hk.2 | exact hk) (.string t346)) (fun _ h_ => h_.1))) hb); replace BK308 := Aside0.mk (blk_below (g := gb308) (o := .cells #[.bool a0_0, .int .u64 a0_1, .string a0_2, .string a0_3] 59 (0, 0)) (by (with_reducible repeat (first | refine blk_drewN ?_ _ | refine blk_drew ?_ | refine blk_alloc ?_ _)); refine blk_far ?_ NB308_348.out _; refine blk_far ?_ NB308_348.out _; refine blk_far ?_ NB308_348.out _; refine blk_far ?_ NB308_348.out _; (with_reducible repeat (first | refine blk_drewN ?_ _ | refine blk_drew ?_ | refine blk_alloc ?_ _)); exact BK308.out) hb); replace BK348 := Aside0.mk (blk_below (g := gb348) (o := .cells #[.bool t343, .int .u64 t344, .string t345, .string t346] 59 (0, 0)) (by (with_reducible repeat (first | refine blk_drewN ?_ _ | refine blk_drew ?_ | refine blk_alloc ?_ _)); refine blk_put (cs := #[.bool t343, .int .u64 t344, .string t345, .string ⟨#[]⟩]) ?_ 3 _ rfl; refine blk_put (cs := #[.bool t343, .int .u64 t344, .string ⟨#[]⟩, .string ⟨#[]⟩]) ?_ 2 _ rfl; refine blk_put (cs := #[.bool t343, .int .u64 0, .string ⟨#[]⟩, .string ⟨#[]⟩]) ?_ 1 _ rfl; refine blk_put (cs := #[.bool false, .int .u64 0, .string ⟨#[]⟩, .string ⟨#[]⟩]) ?_ 0 _ rfl; (with_reducible repeat (first | refine blk_drewN ?_ _ | refine blk_drew ?_ | refine blk_alloc ?_ _)); exact BK348.out) hb); replace HB := Aside0.mk (below_step (by repeat with_reducible first | exact HB.out | apply below_alloc | apply pw_below_drewN | apply below_drew1 | refine below_set ?_ GE308.out | refine below_set ?_ GE348.out) hb); (try clear hb)) | ((with_reducible refine gate_dst (N := 11) rfl ?_); (try (refine gate_guard (by rfl) ?_; dsimp only)); refine box_event ?hg (N := 11) ?hd (cs := #[.bool false, .int .u64 0, .string ⟨#[]⟩, .string ⟨#[]⟩]) (t := 59) ?hr ?_; (case hd => rfl); (case hg => rfl); (case hr => first | (go_simp; done) | (go_simp; rfl)); intro gb354 hg w131 hbox hb; have n0_ := Aside0.mk (Kd.R_below (by (with_reducible repeat (first | apply Kd.R_alloc | apply Kd.R_drewN | apply Kd.R_drew)); exact HO317.out) hb); have n1_ := Aside0.mk (blk_below (g := gb308) (o := .cells #[.bool a0_0, .int .u64 a0_1, .string a0_2, .string a0_3] 59 (0, 0)) (by (with_reducible repeat (first | refine blk_drewN ?_ _ | refine blk_drew ?_ | refine blk_alloc ?_ _)); exact BK308.out) hb); have n2_ := Aside0.mk (blk_below (g := gb348) (o := .cells #[.bool t343, .int .u64 t344, .string t345, .string t346] 59 (0, 0)) (by (with_reducible repeat (first | refine blk_drewN ?_ _ | refine blk_drew ?_ | refine blk_alloc ?_ _)); exact BK348.out) hb); have n3_ := Aside0.mk (below_step (by repeat with_reducible first | exact HB.out | apply below_alloc | apply pw_below_drewN | apply below_drew1 | refine below_set ?_ GE308.out | refine below_set ?_ GE348.out) hb); have n4_ := Aside0.mk (hbox); have n5_ := Aside0.mk ((by rw [hg]; exact (below_size (by repeat with_reducible first | exact HB.out | apply below_alloc | apply pw_below_drewN | apply below_drew1 | refine below_set ?_ GE308.out | refine below_set ?_ GE348.out)) : w.heap.size ≤ gb354)); have n6_ := Aside0.mk ((by rw [hg]; exact (below_size (by repeat with_reducible first | exact HB.out | apply below_alloc | apply pw_below_drewN | apply below_drew1 | refine below_set ?_ GE308.out | refine below_set ?_ GE348.out)) : w.heap.size ≤ gb354)); have n7_ := Aside0.mk ((by rw [hg]; exact Nat.ne_of_lt (blk_lt (g := gb308) (o := .cells #[.bool a0_0, .int .u64 a0_1, .string a0_2, .string a0_3] 59 (0, 0)) (by (with_reducible repeat (first | refine blk_drewN ?_ _ | refine blk_drew ?_ | refine blk_alloc ?_ _)); exact BK308.out)) : gb308 ≠ gb354)); have n8_ := Aside0.mk ((by rw [hg]; exact Nat.ne_of_gt (blk_lt (g := gb308) (o := .cells #[.bool a0_0, .int .u64 a0_1, .string a0_2, .string a0_3] 59 (0, 0)) (by (with_reducible repeat (first | refine blk_drewN ?_ _ | refine blk_drew ?_ | refine blk_alloc ?_ _)); exact BK308.out)) : gb354 ≠ gb308)); have n9_ := Aside0.mk ((by rw [hg]; exact Nat.ne_of_lt (blk_lt (g := gb348) (o := .cells #[.bool t343, .int .u64 t344, .string t345, .string t346] 59 (0, 0)) (by (with_reducible repeat (first | refine blk_drewN ?_ _ | refine blk_drew ?_ | refine blk_alloc ?_ _)); exact BK348.out)) : gb348 ≠ gb354)); have n10_ := Aside0.mk ((by rw [hg]; exact Nat.ne_of_gt (blk_lt (g := gb348) (o := .cells #[.bool t343, .int .u64 t344, .string t345, .string t346] 59 (0, 0)) (by (with_reducible repeat (first | refine blk_drewN ?_ _ | refine blk_drew ?_ | refine blk_alloc ?_ _)); exact BK348.out)) : gb354 ≠ gb348)); clear HO317; clear BK308; clear BK348; clear HB; have HO317 := n0_; have BK308 := n1_; have BK348 := n2_; have HB := n3_; have BK354 := n4_; have GW354 := n5_; have GE354 := n6_; have NB308_354 := n7_; have NB354_308 := n8_; have NB348_354 := n9_; have NB354_348 := n10_; clear n0_ n1_ n2_ n3_ n4_ n5_ n6_ n7_ n8_ n9_ n10_; clear hb hbox hg; have hnb132 := NB354_308.out; have hnc132 := NB308_354.out; have hnb133 := NB354_348.out; have hnc133 := NB348_354.out; have hcz134_0 : w131.cell? ⟨gb354, 0, none⟩ = some (.bool false) := (blk_cell BK354.out 0).trans rfl; have hcz134_1 : w131.cell? ⟨gb354, 1, none⟩ = some (.int .u64 0) := (blk_cell BK354.out 1).trans rfl; have hcz134_2 : w131.cell? ⟨gb354, 2, none⟩ = some (.string ⟨#[]⟩) := (blk_cell BK354.out 2).trans rfl; have hcz134_3 : w131.cell? ⟨gb354, 3, none⟩ = some (.string ⟨#[]⟩) := (blk_cell BK354.out 3).trans rfl; have hfz134_0 := blk_frozen BK354.out 0; have hfz134_1 := blk_frozen BK354.out 1; have hfz134_2 := blk_frozen BK354.out 2; have hfz134_3 := blk_frozen BK354.out 3; have hcz135_0 : w131.cell? ⟨gb348, 0, none⟩ = some (.bool t343) := (blk_cell BK348.out 0).trans rfl; have hcz135_1 : w131.cell? ⟨gb348, 1, none⟩ = some (.int .u64 t344) := (blk_cell BK348.out 1).trans rfl; have hcz135_2 : w131.cell? ⟨gb348, 2, none⟩ = some (.string t345) := (blk_cell BK348.out 2).trans rfl; have hcz135_3 : w131.cell? ⟨gb348, 3, none⟩ = some (.string t346) := (blk_cell BK348.out 3).trans rfl; have hfz135_0 := blk_frozen BK348.out 0; have hfz135_1 := blk_frozen BK348.out 1; have hfz135_2 := blk_frozen BK348.out 2; have hfz135_3 := blk_frozen BK348.out 3; obtain ⟨Ao136, co136, eo136⟩ := Kd.R_slice HO317.out; subst eo136))
        go_ret
        exact ⟨by first | rfl | (simp <;> rfl) | (simp [*] <;> rfl), by repeat (first | (with_reducible first | exact HB.out | apply below_alloc | apply pw_below_drewN | apply below_drew1 | refine below_set ?_ GE308.out | refine below_set ?_ GE348.out | refine below_set ?_ GE354.out) | exact HB.out)⟩
       ·
        rw [if_neg c120] at H
        have c120b0 : (t347 == t353) = false := beq_eq_false_iff_ne.mpr c120
        have c120b1 : (t347 != t353) = true := bne_iff_ne.mpr c120
        obtain rfl := Option.some.inj H
        have hcz137_0 : wc.cell? ⟨gb308, 0, none⟩ = some (.bool a0_0) := (blk_cell BK308.out 0).trans rfl
        have hcz137_1 : wc.cell? ⟨gb308, 1, none⟩ = some (.int .u64 a0_1) := (blk_cell BK308.out 1).trans rfl
        have hcz137_2 : wc.cell? ⟨gb308, 2, none⟩ = some (.string a0_2) := (blk_cell BK308.out 2).trans rfl
        have hcz137_3 : wc.cell? ⟨gb308, 3, none⟩ = some (.string a0_3) := (blk_cell BK308.out 3).trans rfl
        have hfz137_0 := blk_frozen BK308.out 0
        have hfz137_1 := blk_frozen BK308.out 1
        have hfz137_2 := blk_frozen BK308.out 2
        have hfz137_3 := blk_frozen BK308.out 3
        go_wp2_with (first | ((with_reducible refine gate_callee (f := 30) rfl ?_); refine goesL_ (some 29) rfl rfl Try.func30 (by kernel_rfl) rfl #[.agg #[.bool a0_0, .int .u64 a0_1, .string a0_2, .string a0_3]] rfl (by (try simp only [mA, mB, mC]); first | done | rfl) ?_; (with_reducible refine (frame_PutRecord.calls a0_0 a0_1 a0_2 a0_3 t315 t318 _ A25.out).mono ?_); rintro e w138 ⟨v316, rfl, ho0, hb⟩; refine ⟨_, rfl, ?_⟩; have HO317 := Aside0.mk (Kd.R_lower ho0 (below_size (by repeat with_reducible first | exact HB.out | apply below_alloc | apply pw_below_drewN | apply below_drew1 | refine below_set ?_ GE308.out))); replace BK308 := Aside0.mk (blk_below (g := gb308) (o := .cells #[.bool a0_0, .int .u64 a0_1, .string a0_2, .string a0_3] 59 (0, 0)) (by (with_reducible repeat (first | refine blk_drewN ?_ _ | refine blk_drew ?_ | refine blk_alloc ?_ _)); exact BK308.out) hb); replace HB := Aside0.mk (below_step (by repeat with_reducible first | exact HB.out | apply below_alloc | apply pw_below_drewN | apply below_drew1 | refine below_set ?_ GE308.out) hb); (try clear hb); (try clear ho0); have hcz139_0 : w138.cell? ⟨gb308, 0, none⟩ = some (.bool a0_0) := (blk_cell BK308.out 0).trans rfl; have hcz139_1 : w138.cell? ⟨gb308, 1, none⟩ = some (.int .u64 a0_1) := (blk_cell BK308.out 1).trans rfl; have hcz139_2 : w138.cell? ⟨gb308, 2, none⟩ = some (.string a0_2) := (blk_cell BK308.out 2).trans rfl; have hcz139_3 : w138.cell? ⟨gb308, 3, none⟩ = some (.string a0_3) := (blk_cell BK308.out 3).trans rfl; have hfz139_0 := blk_frozen BK308.out 0; have hfz139_1 := blk_frozen BK308.out 1; have hfz139_2 := blk_frozen BK308.out 2; have hfz139_3 := blk_frozen BK308.out 3) | ((with_reducible refine gate_callee (f := 31) rfl ?_); refine goesL_ (some 34) rfl rfl Try.func31 (by kernel_rfl) rfl #[.agg #[.bool a0_0, .int .u64 a0_1, .string a0_2, .string a0_3]] rfl (by (try simp only [mA, mB, mC]); first | done | rfl) ?_; (with_reducible refine (fascicleref07_Check.calls kj2 a0_0 a0_1 a0_2 a0_3 t319 _ A26.out).mono ?_); rintro e w140 ⟨rfl, hb⟩; refine ⟨_, rfl, ?_⟩; replace HO317 := Aside0.mk (Kd.R_below (by (with_reducible repeat (first | apply Kd.R_alloc | apply Kd.R_drewN | apply Kd.R_drew)); exact HO317.out) hb); replace BK308 := Aside0.mk (blk_below (g := gb308) (o := .cells #[.bool a0_0, .int .u64 a0_1, .string a0_2, .string a0_3] 59 (0, 0)) (by (with_reducible repeat (first | refine blk_drewN ?_ _ | refine blk_drew ?_ | refine blk_alloc ?_ _)); exact BK308.out) hb); replace HB := Aside0.mk (below_step (by repeat with_reducible first | exact HB.out | apply below_alloc | apply pw_below_drewN | apply below_drew1 | refine below_set ?_ GE308.out) hb); (try clear hb)) | ((with_reducible refine gate_callee (f := 32) rfl ?_); refine goesL_ (some 64) rfl rfl Try.func32 (by kernel_rfl) rfl #[.slice A1 l1.length c1] rfl (by (try simp only [mA, mB, mC]); first | done | rfl) ?_; (with_reducible refine (frame_GetRecord.calls _ _ l1 t343 t344 t345 t346 t347 _ ?side1 ?side2 A117.out).mono ?_); (case side1 => repeat (first | exact (Kd.C_below HR1.out HB.out) | (with_reducible refine Kd.C_alloc ?_ _) | (with_reducible refine Kd.C_drewN ?_ _) | (with_reducible refine Kd.C_drew ?_))); (case side2 => exact HC1.out); rintro e w141 ⟨rfl, hb⟩; refine ⟨_, rfl, ?_⟩; replace HO317 := Aside0.mk (Kd.R_below (by (with_reducible repeat (first | apply Kd.R_alloc | apply Kd.R_drewN | apply Kd.R_drew)); exact HO317.out) hb); replace BK308 := Aside0.mk (blk_below (g := gb308) (o := .cells #[.bool a0_0, .int .u64 a0_1, .string a0_2, .string a0_3] 59 (0, 0)) (by (with_reducible repeat (first | refine blk_drewN ?_ _ | refine blk_drew ?_ | refine blk_alloc ?_ _)); exact BK308.out) hb); replace HB := Aside0.mk (below_step (by repeat with_reducible first | exact HB.out | apply below_alloc | apply pw_below_drewN | apply below_drew1 | refine below_set ?_ GE308.out) hb); (try clear hb)) | ((with_reducible refine gate_dst (N := 9) rfl ?_); (try (refine gate_guard (by rfl) ?_; dsimp only)); refine box_event ?hg (N := 9) ?hd (cs := #[.bool false, .int .u64 0, .string ⟨#[]⟩, .string ⟨#[]⟩]) (t := 59) ?hr ?_; (case hd => rfl); (case hg => rfl); (case hr => first | (go_simp; done) | (go_simp; rfl)); intro gb348 hg w142 hbox hb; have n0_ := Aside0.mk (Kd.R_below (by (with_reducible repeat (first | apply Kd.R_alloc | apply Kd.R_drewN | apply Kd.R_drew)); exact HO317.out) hb); have n1_ := Aside0.mk (blk_below (g := gb308) (o := .cells #[.bool a0_0, .int .u64 a0_1, .string a0_2, .string a0_3] 59 (0, 0)) (by (with_reducible repeat (first | refine blk_drewN ?_ _ | refine blk_drew ?_ | refine blk_alloc ?_ _)); exact BK308.out) hb); have n2_ := Aside0.mk (below_step (by repeat with_reducible first | exact HB.out | apply below_alloc | apply pw_below_drewN | apply below_drew1 | refine below_set ?_ GE308.out) hb); have n3_ := Aside0.mk (hbox); have n4_ := Aside0.mk ((by rw [hg]; exact (below_size (by repeat with_reducible first | exact HB.out | apply below_alloc | apply pw_below_drewN | apply below_drew1 | refine below_set ?_ GE308.out)) : w.heap.size ≤ gb348)); have n5_ := Aside0.mk ((by rw [hg]; exact (below_size (by repeat with_reducible first | exact HB.out | apply below_alloc | apply pw_below_drewN | apply below_drew1 | refine below_set ?_ GE308.out)) : w.heap.size ≤ gb348)); have n6_ := Aside0.mk ((by rw [hg]; exact Nat.ne_of_lt (blk_lt (g := gb308) (o := .cells #[.bool a0_0, .int .u64 a0_1, .string a0_2, .string a0_3] 59 (0, 0)) (by (with_reducible repeat (first | refine blk_drewN ?_ _ | refine blk_drew ?_ | refine blk_alloc ?_ _)); exact BK308.out)) : gb308 ≠ gb348)); have n7_ := Aside0.mk ((by rw [hg]; exact Nat.ne_of_gt (blk_lt (g := gb308) (o := .cells #[.bool a0_0, .int .u64 a0_1, .string a0_2, .string a0_3] 59 (0, 0)) (by (with_reducible repeat (first | refine blk_drewN ?_ _ | refine blk_drew ?_ | refine blk_alloc ?_ _)); exact BK308.out)) : gb348 ≠ gb308)); clear HO317; clear BK308; clear HB; have HO317 := n0_; have BK308 := n1_; have HB := n2_; have BK348 := n3_; have GW348 := n4_; have GE348 := n5_; have NB308_348 := n6_; have NB348_308 := n7_; clear n0_ n1_ n2_ n3_ n4_ n5_ n6_ n7_; clear hb hbox hg; have hnb143 := NB348_308.out; have hnc143 := NB308_348.out; have hcz144_0 : w142.cell? ⟨gb348, 0, none⟩ = some (.bool false) := (blk_cell BK348.out 0).trans rfl; have hcz144_1 : w142.cell? ⟨gb348, 1, none⟩ = some (.int .u64 0) := (blk_cell BK348.out 1).trans rfl; have hcz144_2 : w142.cell? ⟨gb348, 2, none⟩ = some (.string ⟨#[]⟩) := (blk_cell BK348.out 2).trans rfl; have hcz144_3 : w142.cell? ⟨gb348, 3, none⟩ = some (.string ⟨#[]⟩) := (blk_cell BK348.out 3).trans rfl; have hfz144_0 := blk_frozen BK348.out 0; have hfz144_1 := blk_frozen BK348.out 1; have hfz144_2 := blk_frozen BK348.out 2; have hfz144_3 := blk_frozen BK348.out 3; have hcv145 := Kd.C_string (P := Try.prog) (A := A1) (c := c1) Try.underlying39 Try.underlying5 Try.underlying9 (Kd.C_below HR1.out HB.out); have hcv145b := fun (v0_ v1_ v2_ v3_ : Value) => Kd.C_string (P := Try.prog) (A := A1) (c := c1) Try.underlying39 Try.underlying5 Try.underlying9 (Kd.C_below HR1.out (below_set (g := gb348) (j := 3) (v := v3_) (below_set (g := gb348) (j := 2) (v := v2_) (below_set (g := gb348) (j := 1) (v := v1_) (below_set (g := gb348) (j := 0) (v := v0_) HB.out GE348.out) GE348.out) GE348.out) GE348.out))) | ((with_reducible refine gate_callee (f := 34) rfl ?_); refine goesL_ (some 70) rfl rfl Try.func34 (by kernel_rfl) rfl #[.string (strOfNums l1)] rfl (by (try simp only [mA, mB, mC]); first | done | rfl) ?_; (with_reducible refine (fascicleref09_GetRecord.calls kj2 (strOfNums l1) t349 t350 t351 t352 t353 _ A118.out).mono ?_); rintro e w146 ⟨rfl, hb⟩; refine ⟨_, rfl, ?_⟩; replace HO317 := Aside0.mk (Kd.R_below (by (with_reducible repeat (first | apply Kd.R_alloc | apply Kd.R_drewN | apply Kd.R_drew)); exact (Kd.R_mono (Kd.R_far (p := ⟨gb348, 3, none⟩) (Kd.R_far (p := ⟨gb348, 2, none⟩) (Kd.R_far (p := ⟨gb348, 1, none⟩) (Kd.R_far (p := ⟨gb348, 0, none⟩) (Kd.R_types HO317.out BK348.out (by decide)) (fun _ hk => by first | exact hk.2 | exact hk) (.bool t343)) (fun _ hk => by first | exact hk.2 | exact hk) (.int .u64 t344)) (fun _ hk => by first | exact hk.2 | exact hk) (.string t345)) (fun _ hk => by first | exact hk.2 | exact hk) (.string t346)) (fun _ h_ => h_.1))) hb); replace BK308 := Aside0.mk (blk_below (g := gb308) (o := .cells #[.bool a0_0, .int .u64 a0_1, .string a0_2, .string a0_3] 59 (0, 0)) (by (with_reducible repeat (first | refine blk_drewN ?_ _ | refine blk_drew ?_ | refine blk_alloc ?_ _)); refine blk_far ?_ NB308_348.out _; refine blk_far ?_ NB308_348.out _; refine blk_far ?_ NB308_348.out _; refine blk_far ?_ NB308_348.out _; (with_reducible repeat (first | refine blk_drewN ?_ _ | refine blk_drew ?_ | refine blk_alloc ?_ _)); exact BK308.out) hb); replace BK348 := Aside0.mk (blk_below (g := gb348) (o := .cells #[.bool t343, .int .u64 t344, .string t345, .string t346] 59 (0, 0)) (by (with_reducible repeat (first | refine blk_drewN ?_ _ | refine blk_drew ?_ | refine blk_alloc ?_ _)); refine blk_put (cs := #[.bool t343, .int .u64 t344, .string t345, .string ⟨#[]⟩]) ?_ 3 _ rfl; refine blk_put (cs := #[.bool t343, .int .u64 t344, .string ⟨#[]⟩, .string ⟨#[]⟩]) ?_ 2 _ rfl; refine blk_put (cs := #[.bool t343, .int .u64 0, .string ⟨#[]⟩, .string ⟨#[]⟩]) ?_ 1 _ rfl; refine blk_put (cs := #[.bool false, .int .u64 0, .string ⟨#[]⟩, .string ⟨#[]⟩]) ?_ 0 _ rfl; (with_reducible repeat (first | refine blk_drewN ?_ _ | refine blk_drew ?_ | refine blk_alloc ?_ _)); exact BK348.out) hb); replace HB := Aside0.mk (below_step (by repeat with_reducible first | exact HB.out | apply below_alloc | apply pw_below_drewN | apply below_drew1 | refine below_set ?_ GE308.out | refine below_set ?_ GE348.out) hb); (try clear hb)) | ((with_reducible refine gate_dst (N := 11) rfl ?_); (try (refine gate_guard (by rfl) ?_; dsimp only)); refine box_event ?hg (N := 11) ?hd (cs := #[.bool false, .int .u64 0, .string ⟨#[]⟩, .string ⟨#[]⟩]) (t := 59) ?hr ?_; (case hd => rfl); (case hg => rfl); (case hr => first | (go_simp; done) | (go_simp; rfl)); intro gb354 hg w147 hbox hb; have n0_ := Aside0.mk (Kd.R_below (by (with_reducible repeat (first | apply Kd.R_alloc | apply Kd.R_drewN | apply Kd.R_drew)); exact HO317.out) hb); have n1_ := Aside0.mk (blk_below (g := gb308) (o := .cells #[.bool a0_0, .int .u64 a0_1, .string a0_2, .string a0_3] 59 (0, 0)) (by (with_reducible repeat (first | refine blk_drewN ?_ _ | refine blk_drew ?_ | refine blk_alloc ?_ _)); exact BK308.out) hb); have n2_ := Aside0.mk (blk_below (g := gb348) (o := .cells #[.bool t343, .int .u64 t344, .string t345, .string t346] 59 (0, 0)) (by (with_reducible repeat (first | refine blk_drewN ?_ _ | refine blk_drew ?_ | refine blk_alloc ?_ _)); exact BK348.out) hb); have n3_ := Aside0.mk (below_step (by repeat with_reducible first | exact HB.out | apply below_alloc | apply pw_below_drewN | apply below_drew1 | refine below_set ?_ GE308.out | refine below_set ?_ GE348.out) hb); have n4_ := Aside0.mk (hbox); have n5_ := Aside0.mk ((by rw [hg]; exact (below_size (by repeat with_reducible first | exact HB.out | apply below_alloc | apply pw_below_drewN | apply below_drew1 | refine below_set ?_ GE308.out | refine below_set ?_ GE348.out)) : w.heap.size ≤ gb354)); have n6_ := Aside0.mk ((by rw [hg]; exact (below_size (by repeat with_reducible first | exact HB.out | apply below_alloc | apply pw_below_drewN | apply below_drew1 | refine below_set ?_ GE308.out | refine below_set ?_ GE348.out)) : w.heap.size ≤ gb354)); have n7_ := Aside0.mk ((by rw [hg]; exact Nat.ne_of_lt (blk_lt (g := gb308) (o := .cells #[.bool a0_0, .int .u64 a0_1, .string a0_2, .string a0_3] 59 (0, 0)) (by (with_reducible repeat (first | refine blk_drewN ?_ _ | refine blk_drew ?_ | refine blk_alloc ?_ _)); exact BK308.out)) : gb308 ≠ gb354)); have n8_ := Aside0.mk ((by rw [hg]; exact Nat.ne_of_gt (blk_lt (g := gb308) (o := .cells #[.bool a0_0, .int .u64 a0_1, .string a0_2, .string a0_3] 59 (0, 0)) (by (with_reducible repeat (first | refine blk_drewN ?_ _ | refine blk_drew ?_ | refine blk_alloc ?_ _)); exact BK308.out)) : gb354 ≠ gb308)); have n9_ := Aside0.mk ((by rw [hg]; exact Nat.ne_of_lt (blk_lt (g := gb348) (o := .cells #[.bool t343, .int .u64 t344, .string t345, .string t346] 59 (0, 0)) (by (with_reducible repeat (first | refine blk_drewN ?_ _ | refine blk_drew ?_ | refine blk_alloc ?_ _)); exact BK348.out)) : gb348 ≠ gb354)); have n10_ := Aside0.mk ((by rw [hg]; exact Nat.ne_of_gt (blk_lt (g := gb348) (o := .cells #[.bool t343, .int .u64 t344, .string t345, .string t346] 59 (0, 0)) (by (with_reducible repeat (first | refine blk_drewN ?_ _ | refine blk_drew ?_ | refine blk_alloc ?_ _)); exact BK348.out)) : gb354 ≠ gb348)); clear HO317; clear BK308; clear BK348; clear HB; have HO317 := n0_; have BK308 := n1_; have BK348 := n2_; have HB := n3_; have BK354 := n4_; have GW354 := n5_; have GE354 := n6_; have NB308_354 := n7_; have NB354_308 := n8_; have NB348_354 := n9_; have NB354_348 := n10_; clear n0_ n1_ n2_ n3_ n4_ n5_ n6_ n7_ n8_ n9_ n10_; clear hb hbox hg; have hnb148 := NB354_308.out; have hnc148 := NB308_354.out; have hnb149 := NB354_348.out; have hnc149 := NB348_354.out; have hcz150_0 : w147.cell? ⟨gb354, 0, none⟩ = some (.bool false) := (blk_cell BK354.out 0).trans rfl; have hcz150_1 : w147.cell? ⟨gb354, 1, none⟩ = some (.int .u64 0) := (blk_cell BK354.out 1).trans rfl; have hcz150_2 : w147.cell? ⟨gb354, 2, none⟩ = some (.string ⟨#[]⟩) := (blk_cell BK354.out 2).trans rfl; have hcz150_3 : w147.cell? ⟨gb354, 3, none⟩ = some (.string ⟨#[]⟩) := (blk_cell BK354.out 3).trans rfl; have hfz150_0 := blk_frozen BK354.out 0; have hfz150_1 := blk_frozen BK354.out 1; have hfz150_2 := blk_frozen BK354.out 2; have hfz150_3 := blk_frozen BK354.out 3; have hcz151_0 : w147.cell? ⟨gb348, 0, none⟩ = some (.bool t343) := (blk_cell BK348.out 0).trans rfl; have hcz151_1 : w147.cell? ⟨gb348, 1, none⟩ = some (.int .u64 t344) := (blk_cell BK348.out 1).trans rfl; have hcz151_2 : w147.cell? ⟨gb348, 2, none⟩ = some (.string t345) := (blk_cell BK348.out 2).trans rfl; have hcz151_3 : w147.cell? ⟨gb348, 3, none⟩ = some (.string t346) := (blk_cell BK348.out 3).trans rfl; have hfz151_0 := blk_frozen BK348.out 0; have hfz151_1 := blk_frozen BK348.out 1; have hfz151_2 := blk_frozen BK348.out 2; have hfz151_3 := blk_frozen BK348.out 3))
        go_ret
        exact ⟨by first | rfl | (simp <;> rfl) | (simp [*] <;> rfl), by repeat (first | (with_reducible first | exact HB.out | apply below_alloc | apply pw_below_drewN | apply below_drew1 | refine below_set ?_ GE308.out | refine below_set ?_ GE348.out | refine below_set ?_ GE354.out) | exact HB.out)⟩
      ·
       rw [if_neg c119] at H
       have c119b0 : (t343 == t349 && (t344 == t350 && (t345.toList == t351.toList && (t346.toList == t352.toList)))) = false := by simpa using c119
       (try (have c119b1 : decide (t343 = t349 && (t344 == t350 && (t345.toList == t351.toList && (t346.toList == t352.toList)))) = false := by simpa using c119))
       (try (have c119b2 : (t343 == t349 && (t344 == t350 && (t345.toList == t351.toList && (t346.toList == t352.toList)))) = false := by simpa using c119))
       (try (have c119b3 : ¬ (t343 = t349 && (t344 == t350 && (t345.toList == t351.toList && (t346.toList == t352.toList)))) := by simpa using c119))
       clear c119
       obtain rfl := Option.some.inj H
       have hcz152_0 : wc.cell? ⟨gb308, 0, none⟩ = some (.bool a0_0) := (blk_cell BK308.out 0).trans rfl
       have hcz152_1 : wc.cell? ⟨gb308, 1, none⟩ = some (.int .u64 a0_1) := (blk_cell BK308.out 1).trans rfl
       have hcz152_2 : wc.cell? ⟨gb308, 2, none⟩ = some (.string a0_2) := (blk_cell BK308.out 2).trans rfl
       have hcz152_3 : wc.cell? ⟨gb308, 3, none⟩ = some (.string a0_3) := (blk_cell BK308.out 3).trans rfl
       have hfz152_0 := blk_frozen BK308.out 0
       have hfz152_1 := blk_frozen BK308.out 1
       have hfz152_2 := blk_frozen BK308.out 2
       have hfz152_3 := blk_frozen BK308.out 3
       go_wp2_with (first | ((with_reducible refine gate_callee (f := 30) rfl ?_); refine goesL_ (some 29) rfl rfl Try.func30 (by kernel_rfl) rfl #[.agg #[.bool a0_0, .int .u64 a0_1, .string a0_2, .string a0_3]] rfl (by (try simp only [mA, mB, mC]); first | done | rfl) ?_; (with_reducible refine (frame_PutRecord.calls a0_0 a0_1 a0_2 a0_3 t315 t318 _ A25.out).mono ?_); rintro e w153 ⟨v316, rfl, ho0, hb⟩; refine ⟨_, rfl, ?_⟩; have HO317 := Aside0.mk (Kd.R_lower ho0 (below_size (by repeat with_reducible first | exact HB.out | apply below_alloc | apply pw_below_drewN | apply below_drew1 | refine below_set ?_ GE308.out))); replace BK308 := Aside0.mk (blk_below (g := gb308) (o := .cells #[.bool a0_0, .int .u64 a0_1, .string a0_2, .string a0_3] 59 (0, 0)) (by (with_reducible repeat (first | refine blk_drewN ?_ _ | refine blk_drew ?_ | refine blk_alloc ?_ _)); exact BK308.out) hb); replace HB := Aside0.mk (below_step (by repeat with_reducible first | exact HB.out | apply below_alloc | apply pw_below_drewN | apply below_drew1 | refine below_set ?_ GE308.out) hb); (try clear hb); (try clear ho0); have hcz154_0 : w153.cell? ⟨gb308, 0, none⟩ = some (.bool a0_0) := (blk_cell BK308.out 0).trans rfl; have hcz154_1 : w153.cell? ⟨gb308, 1, none⟩ = some (.int .u64 a0_1) := (blk_cell BK308.out 1).trans rfl; have hcz154_2 : w153.cell? ⟨gb308, 2, none⟩ = some (.string a0_2) := (blk_cell BK308.out 2).trans rfl; have hcz154_3 : w153.cell? ⟨gb308, 3, none⟩ = some (.string a0_3) := (blk_cell BK308.out 3).trans rfl; have hfz154_0 := blk_frozen BK308.out 0; have hfz154_1 := blk_frozen BK308.out 1; have hfz154_2 := blk_frozen BK308.out 2; have hfz154_3 := blk_frozen BK308.out 3) | ((with_reducible refine gate_callee (f := 31) rfl ?_); refine goesL_ (some 34) rfl rfl Try.func31 (by kernel_rfl) rfl #[.agg #[.bool a0_0, .int .u64 a0_1, .string a0_2, .string a0_3]] rfl (by (try simp only [mA, mB, mC]); first | done | rfl) ?_; (with_reducible refine (fascicleref07_Check.calls kj2 a0_0 a0_1 a0_2 a0_3 t319 _ A26.out).mono ?_); rintro e w155 ⟨rfl, hb⟩; refine ⟨_, rfl, ?_⟩; replace HO317 := Aside0.mk (Kd.R_below (by (with_reducible repeat (first | apply Kd.R_alloc | apply Kd.R_drewN | apply Kd.R_drew)); exact HO317.out) hb); replace BK308 := Aside0.mk (blk_below (g := gb308) (o := .cells #[.bool a0_0, .int .u64 a0_1, .string a0_2, .string a0_3] 59 (0, 0)) (by (with_reducible repeat (first | refine blk_drewN ?_ _ | refine blk_drew ?_ | refine blk_alloc ?_ _)); exact BK308.out) hb); replace HB := Aside0.mk (below_step (by repeat with_reducible first | exact HB.out | apply below_alloc | apply pw_below_drewN | apply below_drew1 | refine below_set ?_ GE308.out) hb); (try clear hb)) | ((with_reducible refine gate_callee (f := 32) rfl ?_); refine goesL_ (some 64) rfl rfl Try.func32 (by kernel_rfl) rfl #[.slice A1 l1.length c1] rfl (by (try simp only [mA, mB, mC]); first | done | rfl) ?_; (with_reducible refine (frame_GetRecord.calls _ _ l1 t343 t344 t345 t346 t347 _ ?side1 ?side2 A117.out).mono ?_); (case side1 => repeat (first | exact (Kd.C_below HR1.out HB.out) | (with_reducible refine Kd.C_alloc ?_ _) | (with_reducible refine Kd.C_drewN ?_ _) | (with_reducible refine Kd.C_drew ?_))); (case side2 => exact HC1.out); rintro e w156 ⟨rfl, hb⟩; refine ⟨_, rfl, ?_⟩; replace HO317 := Aside0.mk (Kd.R_below (by (with_reducible repeat (first | apply Kd.R_alloc | apply Kd.R_drewN | apply Kd.R_drew)); exact HO317.out) hb); replace BK308 := Aside0.mk (blk_below (g := gb308) (o := .cells #[.bool a0_0, .int .u64 a0_1, .string a0_2, .string a0_3] 59 (0, 0)) (by (with_reducible repeat (first | refine blk_drewN ?_ _ | refine blk_drew ?_ | refine blk_alloc ?_ _)); exact BK308.out) hb); replace HB := Aside0.mk (below_step (by repeat with_reducible first | exact HB.out | apply below_alloc | apply pw_below_drewN | apply below_drew1 | refine below_set ?_ GE308.out) hb); (try clear hb)) | ((with_reducible refine gate_dst (N := 9) rfl ?_); (try (refine gate_guard (by rfl) ?_; dsimp only)); refine box_event ?hg (N := 9) ?hd (cs := #[.bool false, .int .u64 0, .string ⟨#[]⟩, .string ⟨#[]⟩]) (t := 59) ?hr ?_; (case hd => rfl); (case hg => rfl); (case hr => first | (go_simp; done) | (go_simp; rfl)); intro gb348 hg w157 hbox hb; have n0_ := Aside0.mk (Kd.R_below (by (with_reducible repeat (first | apply Kd.R_alloc | apply Kd.R_drewN | apply Kd.R_drew)); exact HO317.out) hb); have n1_ := Aside0.mk (blk_below (g := gb308) (o := .cells #[.bool a0_0, .int .u64 a0_1, .string a0_2, .string a0_3] 59 (0, 0)) (by (with_reducible repeat (first | refine blk_drewN ?_ _ | refine blk_drew ?_ | refine blk_alloc ?_ _)); exact BK308.out) hb); have n2_ := Aside0.mk (below_step (by repeat with_reducible first | exact HB.out | apply below_alloc | apply pw_below_drewN | apply below_drew1 | refine below_set ?_ GE308.out) hb); have n3_ := Aside0.mk (hbox); have n4_ := Aside0.mk ((by rw [hg]; exact (below_size (by repeat with_reducible first | exact HB.out | apply below_alloc | apply pw_below_drewN | apply below_drew1 | refine below_set ?_ GE308.out)) : w.heap.size ≤ gb348)); have n5_ := Aside0.mk ((by rw [hg]; exact (below_size (by repeat with_reducible first | exact HB.out | apply below_alloc | apply pw_below_drewN | apply below_drew1 | refine below_set ?_ GE308.out)) : w.heap.size ≤ gb348)); have n6_ := Aside0.mk ((by rw [hg]; exact Nat.ne_of_lt (blk_lt (g := gb308) (o := .cells #[.bool a0_0, .int .u64 a0_1, .string a0_2, .string a0_3] 59 (0, 0)) (by (with_reducible repeat (first | refine blk_drewN ?_ _ | refine blk_drew ?_ | refine blk_alloc ?_ _)); exact BK308.out)) : gb308 ≠ gb348)); have n7_ := Aside0.mk ((by rw [hg]; exact Nat.ne_of_gt (blk_lt (g := gb308) (o := .cells #[.bool a0_0, .int .u64 a0_1, .string a0_2, .string a0_3] 59 (0, 0)) (by (with_reducible repeat (first | refine blk_drewN ?_ _ | refine blk_drew ?_ | refine blk_alloc ?_ _)); exact BK308.out)) : gb348 ≠ gb308)); clear HO317; clear BK308; clear HB; have HO317 := n0_; have BK308 := n1_; have HB := n2_; have BK348 := n3_; have GW348 := n4_; have GE348 := n5_; have NB308_348 := n6_; have NB348_308 := n7_; clear n0_ n1_ n2_ n3_ n4_ n5_ n6_ n7_; clear hb hbox hg; have hnb158 := NB348_308.out; have hnc158 := NB308_348.out; have hcz159_0 : w157.cell? ⟨gb348, 0, none⟩ = some (.bool false) := (blk_cell BK348.out 0).trans rfl; have hcz159_1 : w157.cell? ⟨gb348, 1, none⟩ = some (.int .u64 0) := (blk_cell BK348.out 1).trans rfl; have hcz159_2 : w157.cell? ⟨gb348, 2, none⟩ = some (.string ⟨#[]⟩) := (blk_cell BK348.out 2).trans rfl; have hcz159_3 : w157.cell? ⟨gb348, 3, none⟩ = some (.string ⟨#[]⟩) := (blk_cell BK348.out 3).trans rfl; have hfz159_0 := blk_frozen BK348.out 0; have hfz159_1 := blk_frozen BK348.out 1; have hfz159_2 := blk_frozen BK348.out 2; have hfz159_3 := blk_frozen BK348.out 3; have hcv160 := Kd.C_string (P := Try.prog) (A := A1) (c := c1) Try.underlying39 Try.underlying5 Try.underlying9 (Kd.C_below HR1.out HB.out); have hcv160b := fun (v0_ v1_ v2_ v3_ : Value) => Kd.C_string (P := Try.prog) (A := A1) (c := c1) Try.underlying39 Try.underlying5 Try.underlying9 (Kd.C_below HR1.out (below_set (g := gb348) (j := 3) (v := v3_) (below_set (g := gb348) (j := 2) (v := v2_) (below_set (g := gb348) (j := 1) (v := v1_) (below_set (g := gb348) (j := 0) (v := v0_) HB.out GE348.out) GE348.out) GE348.out) GE348.out))) | ((with_reducible refine gate_callee (f := 34) rfl ?_); refine goesL_ (some 70) rfl rfl Try.func34 (by kernel_rfl) rfl #[.string (strOfNums l1)] rfl (by (try simp only [mA, mB, mC]); first | done | rfl) ?_; (with_reducible refine (fascicleref09_GetRecord.calls kj2 (strOfNums l1) t349 t350 t351 t352 t353 _ A118.out).mono ?_); rintro e w161 ⟨rfl, hb⟩; refine ⟨_, rfl, ?_⟩; replace HO317 := Aside0.mk (Kd.R_below (by (with_reducible repeat (first | apply Kd.R_alloc | apply Kd.R_drewN | apply Kd.R_drew)); exact (Kd.R_mono (Kd.R_far (p := ⟨gb348, 3, none⟩) (Kd.R_far (p := ⟨gb348, 2, none⟩) (Kd.R_far (p := ⟨gb348, 1, none⟩) (Kd.R_far (p := ⟨gb348, 0, none⟩) (Kd.R_types HO317.out BK348.out (by decide)) (fun _ hk => by first | exact hk.2 | exact hk) (.bool t343)) (fun _ hk => by first | exact hk.2 | exact hk) (.int .u64 t344)) (fun _ hk => by first | exact hk.2 | exact hk) (.string t345)) (fun _ hk => by first | exact hk.2 | exact hk) (.string t346)) (fun _ h_ => h_.1))) hb); replace BK308 := Aside0.mk (blk_below (g := gb308) (o := .cells #[.bool a0_0, .int .u64 a0_1, .string a0_2, .string a0_3] 59 (0, 0)) (by (with_reducible repeat (first | refine blk_drewN ?_ _ | refine blk_drew ?_ | refine blk_alloc ?_ _)); refine blk_far ?_ NB308_348.out _; refine blk_far ?_ NB308_348.out _; refine blk_far ?_ NB308_348.out _; refine blk_far ?_ NB308_348.out _; (with_reducible repeat (first | refine blk_drewN ?_ _ | refine blk_drew ?_ | refine blk_alloc ?_ _)); exact BK308.out) hb); replace BK348 := Aside0.mk (blk_below (g := gb348) (o := .cells #[.bool t343, .int .u64 t344, .string t345, .string t346] 59 (0, 0)) (by (with_reducible repeat (first | refine blk_drewN ?_ _ | refine blk_drew ?_ | refine blk_alloc ?_ _)); refine blk_put (cs := #[.bool t343, .int .u64 t344, .string t345, .string ⟨#[]⟩]) ?_ 3 _ rfl; refine blk_put (cs := #[.bool t343, .int .u64 t344, .string ⟨#[]⟩, .string ⟨#[]⟩]) ?_ 2 _ rfl; refine blk_put (cs := #[.bool t343, .int .u64 0, .string ⟨#[]⟩, .string ⟨#[]⟩]) ?_ 1 _ rfl; refine blk_put (cs := #[.bool false, .int .u64 0, .string ⟨#[]⟩, .string ⟨#[]⟩]) ?_ 0 _ rfl; (with_reducible repeat (first | refine blk_drewN ?_ _ | refine blk_drew ?_ | refine blk_alloc ?_ _)); exact BK348.out) hb); replace HB := Aside0.mk (below_step (by repeat with_reducible first | exact HB.out | apply below_alloc | apply pw_below_drewN | apply below_drew1 | refine below_set ?_ GE308.out | refine below_set ?_ GE348.out) hb); (try clear hb)) | ((with_reducible refine gate_dst (N := 11) rfl ?_); (try (refine gate_guard (by rfl) ?_; dsimp only)); refine box_event ?hg (N := 11) ?hd (cs := #[.bool false, .int .u64 0, .string ⟨#[]⟩, .string ⟨#[]⟩]) (t := 59) ?hr ?_; (case hd => rfl); (case hg => rfl); (case hr => first | (go_simp; done) | (go_simp; rfl)); intro gb354 hg w162 hbox hb; have n0_ := Aside0.mk (Kd.R_below (by (with_reducible repeat (first | apply Kd.R_alloc | apply Kd.R_drewN | apply Kd.R_drew)); exact HO317.out) hb); have n1_ := Aside0.mk (blk_below (g := gb308) (o := .cells #[.bool a0_0, .int .u64 a0_1, .string a0_2, .string a0_3] 59 (0, 0)) (by (with_reducible repeat (first | refine blk_drewN ?_ _ | refine blk_drew ?_ | refine blk_alloc ?_ _)); exact BK308.out) hb); have n2_ := Aside0.mk (blk_below (g := gb348) (o := .cells #[.bool t343, .int .u64 t344, .string t345, .string t346] 59 (0, 0)) (by (with_reducible repeat (first | refine blk_drewN ?_ _ | refine blk_drew ?_ | refine blk_alloc ?_ _)); exact BK348.out) hb); have n3_ := Aside0.mk (below_step (by repeat with_reducible first | exact HB.out | apply below_alloc | apply pw_below_drewN | apply below_drew1 | refine below_set ?_ GE308.out | refine below_set ?_ GE348.out) hb); have n4_ := Aside0.mk (hbox); have n5_ := Aside0.mk ((by rw [hg]; exact (below_size (by repeat with_reducible first | exact HB.out | apply below_alloc | apply pw_below_drewN | apply below_drew1 | refine below_set ?_ GE308.out | refine below_set ?_ GE348.out)) : w.heap.size ≤ gb354)); have n6_ := Aside0.mk ((by rw [hg]; exact (below_size (by repeat with_reducible first | exact HB.out | apply below_alloc | apply pw_below_drewN | apply below_drew1 | refine below_set ?_ GE308.out | refine below_set ?_ GE348.out)) : w.heap.size ≤ gb354)); have n7_ := Aside0.mk ((by rw [hg]; exact Nat.ne_of_lt (blk_lt (g := gb308) (o := .cells #[.bool a0_0, .int .u64 a0_1, .string a0_2, .string a0_3] 59 (0, 0)) (by (with_reducible repeat (first | refine blk_drewN ?_ _ | refine blk_drew ?_ | refine blk_alloc ?_ _)); exact BK308.out)) : gb308 ≠ gb354)); have n8_ := Aside0.mk ((by rw [hg]; exact Nat.ne_of_gt (blk_lt (g := gb308) (o := .cells #[.bool a0_0, .int .u64 a0_1, .string a0_2, .string a0_3] 59 (0, 0)) (by (with_reducible repeat (first | refine blk_drewN ?_ _ | refine blk_drew ?_ | refine blk_alloc ?_ _)); exact BK308.out)) : gb354 ≠ gb308)); have n9_ := Aside0.mk ((by rw [hg]; exact Nat.ne_of_lt (blk_lt (g := gb348) (o := .cells #[.bool t343, .int .u64 t344, .string t345, .string t346] 59 (0, 0)) (by (with_reducible repeat (first | refine blk_drewN ?_ _ | refine blk_drew ?_ | refine blk_alloc ?_ _)); exact BK348.out)) : gb348 ≠ gb354)); have n10_ := Aside0.mk ((by rw [hg]; exact Nat.ne_of_gt (blk_lt (g := gb348) (o := .cells #[.bool t343, .int .u64 t344, .string t345, .string t346] 59 (0, 0)) (by (with_reducible repeat (first | refine blk_drewN ?_ _ | refine blk_drew ?_ | refine blk_alloc ?_ _)); exact BK348.out)) : gb354 ≠ gb348)); clear HO317; clear BK308; clear BK348; clear HB; have HO317 := n0_; have BK308 := n1_; have BK348 := n2_; have HB := n3_; have BK354 := n4_; have GW354 := n5_; have GE354 := n6_; have NB308_354 := n7_; have NB354_308 := n8_; have NB348_354 := n9_; have NB354_348 := n10_; clear n0_ n1_ n2_ n3_ n4_ n5_ n6_ n7_ n8_ n9_ n10_; clear hb hbox hg; have hnb163 := NB354_308.out; have hnc163 := NB308_354.out; have hnb164 := NB354_348.out; have hnc164 := NB348_354.out; have hcz165_0 : w162.cell? ⟨gb354, 0, none⟩ = some (.bool false) := (blk_cell BK354.out 0).trans rfl; have hcz165_1 : w162.cell? ⟨gb354, 1, none⟩ = some (.int .u64 0) := (blk_cell BK354.out 1).trans rfl; have hcz165_2 : w162.cell? ⟨gb354, 2, none⟩ = some (.string ⟨#[]⟩) := (blk_cell BK354.out 2).trans rfl; have hcz165_3 : w162.cell? ⟨gb354, 3, none⟩ = some (.string ⟨#[]⟩) := (blk_cell BK354.out 3).trans rfl; have hfz165_0 := blk_frozen BK354.out 0; have hfz165_1 := blk_frozen BK354.out 1; have hfz165_2 := blk_frozen BK354.out 2; have hfz165_3 := blk_frozen BK354.out 3; have hcz166_0 : w162.cell? ⟨gb348, 0, none⟩ = some (.bool t343) := (blk_cell BK348.out 0).trans rfl; have hcz166_1 : w162.cell? ⟨gb348, 1, none⟩ = some (.int .u64 t344) := (blk_cell BK348.out 1).trans rfl; have hcz166_2 : w162.cell? ⟨gb348, 2, none⟩ = some (.string t345) := (blk_cell BK348.out 2).trans rfl; have hcz166_3 : w162.cell? ⟨gb348, 3, none⟩ = some (.string t346) := (blk_cell BK348.out 3).trans rfl; have hfz166_0 := blk_frozen BK348.out 0; have hfz166_1 := blk_frozen BK348.out 1; have hfz166_2 := blk_frozen BK348.out 2; have hfz166_3 := blk_frozen BK348.out 3))
       go_ret
       exact ⟨by first | rfl | (simp <;> rfl) | (simp [*] <;> rfl), by repeat (first | (with_reducible first | exact HB.out | apply below_alloc | apply pw_below_drewN | apply below_drew1 | refine below_set ?_ GE308.out | refine below_set ?_ GE348.out | refine below_set ?_ GE354.out) | exact HB.out)⟩
    ·
     rw [if_neg c27] at H
     have c27b0 : (t318 == t319) = false := beq_eq_false_iff_ne.mpr c27
     have c27b1 : (t318 != t319) = true := bne_iff_ne.mpr c27
     obtain rfl := Option.some.inj H
     have hcz167_0 : wc.cell? ⟨gb308, 0, none⟩ = some (.bool a0_0) := (blk_cell BK308.out 0).trans rfl
     have hcz167_1 : wc.cell? ⟨gb308, 1, none⟩ = some (.int .u64 a0_1) := (blk_cell BK308.out 1).trans rfl
     have hcz167_2 : wc.cell? ⟨gb308, 2, none⟩ = some (.string a0_2) := (blk_cell BK308.out 2).trans rfl
     have hcz167_3 : wc.cell? ⟨gb308, 3, none⟩ = some (.string a0_3) := (blk_cell BK308.out 3).trans rfl
     have hfz167_0 := blk_frozen BK308.out 0
     have hfz167_1 := blk_frozen BK308.out 1
     have hfz167_2 := blk_frozen BK308.out 2
     have hfz167_3 := blk_frozen BK308.out 3
     go_wp2_with (first | ((with_reducible refine gate_callee (f := 30) rfl ?_); refine goesL_ (some 29) rfl rfl Try.func30 (by kernel_rfl) rfl #[.agg #[.bool a0_0, .int .u64 a0_1, .string a0_2, .string a0_3]] rfl (by (try simp only [mA, mB, mC]); first | done | rfl) ?_; (with_reducible refine (frame_PutRecord.calls a0_0 a0_1 a0_2 a0_3 t315 t318 _ A25.out).mono ?_); rintro e w168 ⟨v316, rfl, ho0, hb⟩; refine ⟨_, rfl, ?_⟩; have HO317 := Aside0.mk (Kd.R_lower ho0 (below_size (by repeat with_reducible first | exact HB.out | apply below_alloc | apply pw_below_drewN | apply below_drew1 | refine below_set ?_ GE308.out))); replace BK308 := Aside0.mk (blk_below (g := gb308) (o := .cells #[.bool a0_0, .int .u64 a0_1, .string a0_2, .string a0_3] 59 (0, 0)) (by (with_reducible repeat (first | refine blk_drewN ?_ _ | refine blk_drew ?_ | refine blk_alloc ?_ _)); exact BK308.out) hb); replace HB := Aside0.mk (below_step (by repeat with_reducible first | exact HB.out | apply below_alloc | apply pw_below_drewN | apply below_drew1 | refine below_set ?_ GE308.out) hb); (try clear hb); (try clear ho0); have hcz169_0 : w168.cell? ⟨gb308, 0, none⟩ = some (.bool a0_0) := (blk_cell BK308.out 0).trans rfl; have hcz169_1 : w168.cell? ⟨gb308, 1, none⟩ = some (.int .u64 a0_1) := (blk_cell BK308.out 1).trans rfl; have hcz169_2 : w168.cell? ⟨gb308, 2, none⟩ = some (.string a0_2) := (blk_cell BK308.out 2).trans rfl; have hcz169_3 : w168.cell? ⟨gb308, 3, none⟩ = some (.string a0_3) := (blk_cell BK308.out 3).trans rfl; have hfz169_0 := blk_frozen BK308.out 0; have hfz169_1 := blk_frozen BK308.out 1; have hfz169_2 := blk_frozen BK308.out 2; have hfz169_3 := blk_frozen BK308.out 3) | ((with_reducible refine gate_callee (f := 31) rfl ?_); refine goesL_ (some 34) rfl rfl Try.func31 (by kernel_rfl) rfl #[.agg #[.bool a0_0, .int .u64 a0_1, .string a0_2, .string a0_3]] rfl (by (try simp only [mA, mB, mC]); first | done | rfl) ?_; (with_reducible refine (fascicleref07_Check.calls kj2 a0_0 a0_1 a0_2 a0_3 t319 _ A26.out).mono ?_); rintro e w170 ⟨rfl, hb⟩; refine ⟨_, rfl, ?_⟩; replace HO317 := Aside0.mk (Kd.R_below (by (with_reducible repeat (first | apply Kd.R_alloc | apply Kd.R_drewN | apply Kd.R_drew)); exact HO317.out) hb); replace BK308 := Aside0.mk (blk_below (g := gb308) (o := .cells #[.bool a0_0, .int .u64 a0_1, .string a0_2, .string a0_3] 59 (0, 0)) (by (with_reducible repeat (first | refine blk_drewN ?_ _ | refine blk_drew ?_ | refine blk_alloc ?_ _)); exact BK308.out) hb); replace HB := Aside0.mk (below_step (by repeat with_reducible first | exact HB.out | apply below_alloc | apply pw_below_drewN | apply below_drew1 | refine below_set ?_ GE308.out) hb); (try clear hb)))
     go_ret
     exact ⟨by first | rfl | (simp <;> rfl) | (simp [*] <;> rfl), by repeat (first | (with_reducible first | exact HB.out | apply below_alloc | apply pw_below_drewN | apply below_drew1 | refine below_set ?_ GE308.out) | exact HB.out)⟩
def fasciclelaw09_FrameRecords.Pure : Prop := ∀ (a0_0 : Bool) (a0_1 : Int) (a0_2 : ByteArray) (a0_3 : ByteArray) (l1 : List Int), (Lit.int .u64 a0_1).wf = true → a0_2.size ≤ 9223372036854775807 → a0_3.size ≤ 9223372036854775807 → l1.length ≤ maxLen → l1.length * 1 ≤ 140737488351232 → (∀ y ∈ l1, ((Lit.int .u8 y).wf = true)) → ∃ k, fasciclelaw09_FrameRecords.f k a0_0 a0_1 a0_2 a0_3 l1 = some true
end Go.Proofs.Ytekanmieppnpeaa.G
end
section
namespace Go.Proofs.Ytekanmieppnpeaa.G
open Go Go.RowKit Go.Proofs.YtekanmieppnpeaaW.PrintWords Go.Proofs.YtekanmieppnpeaaW.PrintLast Go.Proofs.YtekanmieppnpeaaW.PrintMore Go.Proofs.Ytekanmieppnpeaa.PureKit Go.Proofs.Ytekanmieppnpeaa.Sep Go.Proofs.Ytekanmieppnpeaa.Rol
theorem mix4_l0 (x n : Nat) (hx : x < 18446744073709551616) (hn : n ≤ 64) : ∀ (d i : Nat), i + d = n → Ev (fun k => fascicleref04_mix.l0 k (x : Int) ((x / 2 ^ i : Nat) : Int) (n : Int) (i : Int)) ((wmix n x : Nat) : Int) := by
 intro d
 induction d with
 | zero =>
  intro i hi
  refine Ev.step (f := fun _ => some ((wmix n x : Nat) : Int)) (fun k => ?_) (Ev.now _)
  simp only [fascicleref04_mix.l0]
  rw [if_neg (by omega), show i = n by omega, bits_xor_u64_nat _ _ hx (Nat.lt_of_le_of_lt (Nat.div_le_self _ _) hx)]
  rfl
 | succ d ih =>
  intro i hi
  refine Ev.step (fun k => ?_) (ih (i + 1) (by omega))
  have hle : x / 2 ^ i ≤ x := Nat.div_le_self _ _
  simp only [fascicleref04_mix.l0]
  rw [Nat.pow_succ, ← Nat.div_div_eq_div_mul]
  generalize x / 2 ^ i = y at *
  rw [if_pos (by omega), Int.tdiv_eq_ediv_of_nonneg (by omega), wu64 (by omega) (by omega), w64 (by omega) (by omega)]
  congr 1
theorem mix4_ev (x n : Nat) (hx : x < 18446744073709551616) (hn : n ≤ 64) : Ev (fun k => fascicleref04_mix.f k (x : Int) (n : Int)) ((wmix n x : Nat) : Int) := by
 have h := mix4_l0 x n hx hn n 0 (by omega)
 rw [Nat.pow_zero, Nat.div_one] at h
 exact h
theorem value_ev (l : List Int) (hb : Bytes l) (hl : l.length ≤ 8) : Ev (fun k => fascicleref01_Value.f k (strOfNums l)) ((leb l : Nat) : Int) := by
 have h := value_l0 l hb hl l.length (Nat.le_refl _)
 rw [List.drop_length] at h
 unfold fascicleref01_Value.f
 rw [nums_size, w64 (by omega) (by omega)]
 exact h
theorem ref4_l2 (r : List Int) (hb : Bytes r) (hl : r.length ≤ 8) (h : Nat) (hh : h < 18446744073709551616) : ∀ (d i : Nat), i + d = r.length → Ev (fun k => fascicleref04_Sum.l2 k (strOfNums r) ((wbytes h (r.take i) : Nat) : Int) (i : Int)) ((wfin (wbytes h r) : Nat) : Int) := by
 intro d
 induction d with
 | zero =>
  intro i hi
  have hz := wbytes_lt h hh r
  obtain ⟨z, hz'⟩ : ∃ z, wbytes h r = z := ⟨_, rfl⟩
  rw [show i = r.length by omega, List.take_length, hz']
  rw [hz'] at hz
  obtain ⟨a1, h1⟩ : ∃ a, wmix 33 z * 14029467366897019727 % 18446744073709551616 = a := ⟨_, rfl⟩
  obtain ⟨a2, h2⟩ : ∃ a, wmix 29 a1 * 1609587929392839161 % 18446744073709551616 = a := ⟨_, rfl⟩
  have e1 := mix4_ev z 33 hz (by decide)
  have e2 := mix4_ev a1 29 (h1 ▸ mod_lt64 _) (by decide)
  have e3 := mix4_ev a2 32 (h2 ▸ mod_lt64 _) (by decide)
  have g1 : IntKind.u64.wrap (((wmix 33 z : Nat) : Int) * 14029467366897019727) = (a1 : Int) := by rw [← h1]; exact mul_step _ 14029467366897019727
  have g2 : IntKind.u64.wrap (((wmix 29 a1 : Nat) : Int) * 1609587929392839161) = (a2 : Int) := by rw [← h2]; exact mul_step _ 1609587929392839161
  have hf : wfin z = wmix 32 a2 := by rw [wfin, h1, h2]
  rw [hf]
  have step : Ev (fun k => (fascicleref04_mix.f k (z : Int) ((33 : Nat) : Int)).bind fun t => (fascicleref04_mix.f k (IntKind.u64.wrap (t * 14029467366897019727)) ((29 : Nat) : Int)).bind fun u => (fascicleref04_mix.f k (IntKind.u64.wrap (u * 1609587929392839161)) ((32 : Nat) : Int)).bind fun v => some v) ((wmix 32 a2 : Nat) : Int) := by
   refine Ev.bind e1 ?_
   rw [g1]
   refine Ev.bind e2 ?_
   rw [g2]
   exact Ev.bind e3 (Ev.now _)
  refine Ev.step (fun k => ?_) step
  simp only [fascicleref04_Sum.l2]
  rw [nums_size, if_neg (by omega)]
  rfl
 | succ d ih =>
  intro i hi
  have hu := wbytes_lt h hh (r.take i)
  have hnext := wbytes_take r h i (by omega)
  have hyb := hb r[i] (List.getElem_mem (by omega))
  have hbt := bt_nums r hb i (by omega)
  obtain ⟨u, hu'⟩ : ∃ u, wbytes h (r.take i) = u := ⟨_, rfl⟩
  rw [hu'] at hu hnext ⊢
  obtain ⟨y5, hy⟩ : ∃ y, r[i]'(by omega) = y := ⟨_, rfl⟩
  rw [hy] at hnext hyb hbt
  obtain ⟨b5, rfl⟩ := Int.eq_ofNat_of_zero_le hyb.1
  obtain ⟨q5, z5, t5, z6, g1, g2, g3, g4, g5, g6⟩ := wbyte_step u b5 hu
  have e1 := turn4_ev z5 11 g3 (by decide)
  rw [g4] at e1
  have hrec := ih (i + 1) (by omega)
  rw [hnext, g6] at hrec
  have step : Ev (fun k => (fascicleref04_turn.f k (z5 : Int) ((11 : Nat) : Int)).bind fun t => fascicleref04_Sum.l2 k (strOfNums r) (IntKind.u64.wrap (t * 11400714785074694791)) ((i + 1 : Nat) : Int)) ((wfin (wbytes h r) : Nat) : Int) := by
   refine Ev.bind e1 ?_
   rw [g5]
   exact hrec
  refine Ev.step (fun k => ?_) step
  simp only [fascicleref04_Sum.l2]
  rw [nums_size, if_pos (by omega), if_pos (by omega), hbt, wu64 (x := ((b5 : Nat) : Int)) (by omega) (by omega), g1, g2, w64 (by omega) (by omega)]
  rfl
theorem ref4_l1b (r : List Int) (hb : Bytes r) (hl : r.length < 4) (h : Nat) (hh : h < 18446744073709551616) : Ev (fun k => fascicleref04_Sum.l1 k (strOfNums r) (h : Int)) ((wfin (wbytes h r) : Nat) : Int) := by
 have h2 := ref4_l2 r hb (by omega) h hh r.length 0 (by omega)
 refine Ev.step (fun k => ?_) h2
 simp only [fascicleref04_Sum.l1]
 rw [nums_size, if_neg (by omega), List.take_zero]
 rfl
theorem ref4_l1 (r : List Int) (hb : Bytes r) (hl : r.length < 8) (h : Nat) (hh : h < 18446744073709551616) : Ev (fun k => fascicleref04_Sum.l1 k (strOfNums r) (h : Int)) ((wfin (wlast h r) : Nat) : Int) := by
 by_cases h4 : r.length < 4
 ·
  rw [wlast, if_pos h4]
  exact ref4_l1b r hb h4 h hh
 ·
  rw [wlast, if_neg h4]
  obtain ⟨y, q4, z, t, z1, z2, e1, e2, e3, e4, e5, e6, e7, e8⟩ := wfour_step h r hh hb
  have hv := value_ev (r.take 4) (hb.take _) (by rw [List.length_take]; omega)
  rw [e1] at hv
  have ht := turn4_ev z 23 e4 (by decide)
  rw [e5] at ht
  have hrec := ref4_l1b (r.drop 4) (hb.drop 4) (by rw [List.length_drop]; omega) z2 (by rw [← e8]; exact wfour_lt _ _)
  rw [e8]
  have step : Ev (fun k => (fascicleref01_Value.f k (strOfNums (r.take 4))).bind fun v => (fascicleref04_turn.f k (bits .xor .u64 (h : Int) (IntKind.u64.wrap (v * 11400714785074694791))) ((23 : Nat) : Int)).bind fun u => fascicleref04_Sum.l1 k (strOfNums (r.drop 4)) (IntKind.u64.wrap (IntKind.u64.wrap (u * 14029467366897019727) + 1609587929392839161))) ((wfin (wbytes z2 (r.drop 4)) : Nat) : Int) := by
   refine Ev.bind hv ?_
   rw [e2, e3]
   refine Ev.bind ht ?_
   rw [e6, e7]
   exact hrec
  refine Ev.step (fun k => ?_) step
  have hx1 : (strOfNums r).extract 0 4 = strOfNums (r.take 4) := by rw [nums_extract, List.drop_zero]
  have hx2 : (strOfNums r).extract 4 r.length = strOfNums (r.drop 4) := by rw [nums_extract, List.take_of_length_le (by omega)]
  simp only [fascicleref04_Sum.l1]
  rw [nums_size, if_pos (by omega), if_pos (by omega), if_pos (by omega), hx1, hx2]
  rfl
theorem wtail_small (h : Nat) (r : List Int) (hl : r.length < 8) : wtail h r = wlast h r := by
 unfold wtail
 rw [show r.length / 8 = 0 by omega]
 rfl
theorem wtail_step (h : Nat) (r : List Int) (hl : 8 ≤ r.length) : wtail h r = wtail (weight h r) (r.drop 8) := by
 unfold wtail
 rw [List.length_drop, show r.length / 8 = (r.length - 8) / 8 + 1 by omega, weights, List.drop_drop]
 congr 2
 omega
theorem ref4_l0 : ∀ (n : Nat) (r : List Int) (hb : Bytes r) (hn : r.length / 8 = n) (h : Nat) (hh : h < 18446744073709551616), Ev (fun k => fascicleref04_Sum.l0 k (strOfNums r) (h : Int)) ((wfin (wtail h r) : Nat) : Int) := by
 intro n
 induction n with
 | zero =>
  intro r hb hn h hh
  rw [wtail_small h r (by omega)]
  refine Ev.step (fun k => ?_) (ref4_l1 r hb (by omega) h hh)
  simp only [fascicleref04_Sum.l0]
  rw [nums_size, if_neg (by omega)]
 | succ n ih =>
  intro r hb hn h hh
  obtain ⟨y, wy, z, t, z1, z2, e1, e2, e3, e4, e5, e6, e7, e8, e9⟩ := weight_step h r hh hb
  have hv := value_ev (r.take 8) (hb.take _) (by rw [List.length_take]; omega)
  rw [e1] at hv
  have hi := into4_ev 0 y (by decide) e2
  rw [e3] at hi
  have ht := turn4_ev z 27 e5 (by decide)
  rw [e6] at ht
  have hrec := ih (r.drop 8) (hb.drop 8) (by rw [List.length_drop]; omega) z2 (by rw [← e9]; exact weight_lt _ _)
  rw [wtail_step h r (by omega), e9]
  have step : Ev (fun k => (fascicleref01_Value.f k (strOfNums (r.take 8))).bind fun v => (fascicleref04_into.f k ((0 : Nat) : Int) v).bind fun q => (fascicleref04_turn.f k (bits .xor .u64 (h : Int) q) ((27 : Nat) : Int)).bind fun u => fascicleref04_Sum.l0 k (strOfNums (r.drop 8)) (IntKind.u64.wrap (IntKind.u64.wrap (u * 11400714785074694791) + 9650029242287828579))) ((wfin (wtail z2 (r.drop 8)) : Nat) : Int) := by
   refine Ev.bind hv ?_
   refine Ev.bind hi ?_
   rw [e4]
   refine Ev.bind ht ?_
   rw [e7, e8]
   exact hrec
  refine Ev.step (fun k => ?_) step
  have hx1 : (strOfNums r).extract 0 8 = strOfNums (r.take 8) := by rw [nums_extract, List.drop_zero]
  have hx2 : (strOfNums r).extract 8 r.length = strOfNums (r.drop 8) := by rw [nums_extract, List.take_of_length_le (by omega)]
  simp only [fascicleref04_Sum.l0]
  rw [nums_size, if_pos (by omega), if_pos (by omega), if_pos (by omega), hx1, hx2]
  rfl
theorem ref4_ev (a : Int) (l : List Int) (h0 : 0 ≤ a) (h1 : a < 18446744073709551616) (hb : Bytes l) (hl : l.length ≤ 1000000000000) : Ev (fun k => fascicleref04_Sum.f k a (strOfNums l)) ((wsum a.toNat l : Nat) : Int) := by
 obtain ⟨s, rfl⟩ := Int.eq_ofNat_of_zero_le h0
 rw [Int.toNat_natCast]
 have hs : s < 18446744073709551616 := by omega
 unfold fascicleref04_Sum.f
 have hw : IntKind.u64.wrap ((l.length : Nat) : Int) = (l.length : Int) := wu64 (by omega) (by omega)
 have hq := wstart_lt s l
 have key : Ev (fun k => fascicleref04_Sum.j0 k (strOfNums (wrest l)) (l.length : Int) ((wstart s l : Nat) : Int)) ((wsum s l : Nat) : Int) := by
  rw [wsum]
  refine Ev.step (fun k => ?_) (ref4_l0 _ (wrest l) (hb.drop _) rfl ((wstart s l + l.length) % 18446744073709551616) (mod_lt64 _))
  simp only [fascicleref04_Sum.j0]
  rw [add_step]
 by_cases c : l.length < 32
 ·
  have e1 : wrest l = l := by unfold wrest; rw [show l.length / 32 = 0 by omega]; rfl
  have e2 : IntKind.u64.wrap ((s : Int) + 2870177450012600261) = ((wstart s l : Nat) : Int) := by
   rw [wstart, wbeg, if_pos c]
   exact add_step s 2870177450012600261
  rw [e1] at key
  refine Ev.congr (fun k => ?_) key
  rw [nums_size, if_neg (by omega), hw, e2]
 ·
  refine Ev.congr (fun k => ?_) key
  rw [nums_size, if_pos (by omega), hw]
  have hbg : fascicleref04_begin.f (s : Int) (strOfNums l) = some (((wout (wvs s l) : Nat) : Int), strOfNums (wrest l)) := by
   unfold fascicleref04_begin.f
   rw [if_pos ⟨h0, h1, by rw [nums_size]; exact hl⟩, sby_nums l hb, Int.toNat_natCast]
  rw [hbg, Option.bind_some, wstart, wbeg, if_neg c]
end Go.Proofs.Ytekanmieppnpeaa.G
end
section
namespace Go.Proofs.Ytekanmieppnpeaa.G
open Go Go.RowKit Go.Proofs.YtekanmieppnpeaaW.PrintWords Go.Proofs.YtekanmieppnpeaaW.PrintLast Go.Proofs.YtekanmieppnpeaaW.PrintMore Go.Proofs.Ytekanmieppnpeaa.PureKit Go.Proofs.Ytekanmieppnpeaa.Sep
theorem refn_l0 (n : Nat) (hn : n ≤ 8) : ∀ (d i : Nat) (x : Int) (a : List Int), i + d = n → 0 ≤ x → x < 18446744073709551616 → a.length + d ≤ 100 → Ev (fun k => fascicleref01_Num.l0 k x (strOfNums a) (n : Int) (i : Int)) (strOfNums (a ++ nbytes d x)) := by
 intro d
 induction d with
 | zero =>
  intro i x a hi h0 h1 ha
  refine Ev.step (f := fun _ => some (strOfNums (a ++ nbytes 0 x))) (fun k => ?_) (Ev.now _)
  simp only [fascicleref01_Num.l0]
  rw [if_neg (by omega), nbytes, List.append_nil]
 | succ d ih =>
  intro i x a hi h0 h1 ha
  refine Ev.step (fun k => ?_) (Ev.eq (ih (i + 1) (x / 256) (a ++ [x % 256]) (by omega) (by omega) (by omega) (by simp; omega)) (by simp [nbytes]))
  simp only [fascicleref01_Num.l0]
  rw [if_pos (by omega), Int.tmod_eq_emod_of_nonneg h0, Int.tdiv_eq_ediv_of_nonneg h0]
  simp only [Option.bind_some]
  rw [if_pos (by rw [nums_size, nums_size]; simp only [List.length_cons, List.length_nil]; omega), PureKit.nums_append, wu64 (by omega) (by omega), w64 (by omega) (by omega), show x % 256 % 256 = x % 256 by omega]
  rfl
theorem refn (n : Nat) (x : Int) (hn : n ≤ 8) (h0 : 0 ≤ x) (h1 : x < 18446744073709551616) : Ev (fun k => fascicleref01_Num.f k x (n : Int)) (strOfNums (nbytes n x)) := by
 have := refn_l0 n hn n 0 x [] (by omega) h0 h1 (by simp; omega)
 exact this
end Go.Proofs.Ytekanmieppnpeaa.G
end
section
namespace Go.Proofs.Ytekanmieppnpeaa.G
open Go Go.RowKit Go.Proofs.YtekanmieppnpeaaW.PrintWords Go.Proofs.YtekanmieppnpeaaW.PrintLast Go.Proofs.YtekanmieppnpeaaW.PrintMore Go.Proofs.Ytekanmieppnpeaa.PureKit Go.Proofs.Ytekanmieppnpeaa.Sep Go.Proofs.Ytekanmieppnpeaa.Rol Go.Proofs.Ytekanmieppnpeaa.LCobs
theorem sealed_bytes (l : List Int) (hb : Bytes l) : Bytes (sealed l) := stuffed_bytes _ (summed_bytes l hb)
theorem sealed_len (l : List Int) : (sealed l).length ≤ l.length + 8 + 1 + (l.length + 7) / 254 := by
 have := stuff_len (summed l)
 rw [summed_len] at this
 unfold sealed
 omega
theorem ref_seal (l : List Int) (hb : Bytes l) (hl : l.length ≤ 90000) : Ev (fun k => fascicleref09_Seal.f k (strOfNums l)) (strOfNums (sealed l ++ [0])) := by
 unfold fascicleref09_Seal.f
 have h1 := ref4_ev 0 l (by decide) (by decide) hb (by omega)
 have h2 := refn 8 ((wsum 0 l : Nat) : Int) (by decide) (by omega) (by have := wsum_lt 0 l; omega)
 have h3 := ref_stuff_f (summed l) (summed_bytes l hb) (by rw [summed_len]; omega)
 have hsl := sealed_len l
 refine Ev.bind h1 ?_
 refine Ev.bind h2 ?_
 have c1 : l.length + 8 ≤ 9223372036854775807 := by omega
 rw [nums_size, nums_size, nbytes_len]
 simp only [if_pos c1]
 rw [PureKit.nums_append]
 refine Ev.bind h3 ?_
 rw [nums_size, show stf (summed l) [] = sealed l from rfl, if_pos (by omega), nums_one0, PureKit.nums_append]
 exact Ev.now _
end Go.Proofs.Ytekanmieppnpeaa.G
end
section
namespace Go.Proofs.Ytekanmieppnpeaa.G
open Go Go.RowKit Go.Proofs.YtekanmieppnpeaaW.PrintWords Go.Proofs.YtekanmieppnpeaaW.PrintLast Go.Proofs.YtekanmieppnpeaaW.PrintMore Go.Proofs.Ytekanmieppnpeaa.PureKit Go.Proofs.Ytekanmieppnpeaa.Sep
theorem lev_nbytesN : ∀ (n y : Nat), lev (nbytes n (y : Int)) = ((y % 256 ^ n : Nat) : Int)
 | 0, y => by simp [nbytes, lev]
 | n + 1, y => by
  have hp : 256 ^ (n + 1) = 256 * 256 ^ n := by rw [Nat.pow_succ, Nat.mul_comm]
  have e := lev_nbytesN n (y / 256)
  have e4 : y % (256 * 256 ^ n) = y % 256 + 256 * (y / 256 % 256 ^ n) := Nat.mod_mul
  simp only [nbytes, lev]
  rw [show (y : Int) / 256 = ((y / 256 : Nat) : Int) by omega, e, hp, e4]
  generalize y / 256 % 256 ^ n = q
  omega
theorem lev_nbytes (n : Nat) (x : Int) (h : 0 ≤ x) : lev (nbytes n x) = x % ((256 ^ n : Nat) : Int) := by
 obtain ⟨y, rfl⟩ := Int.eq_ofNat_of_zero_le h
 have := lev_nbytesN n y
 rw [show ((y % 256 ^ n : Nat) : Int) = (y : Int) % ((256 ^ n : Nat) : Int) from rfl] at this
 exact this
theorem lev_leb : ∀ (l : List Int), Bytes l → lev l = ((Rol.leb l : Nat) : Int)
 | [], _ => rfl
 | b :: s, h => by
  have := lev_leb s h.tail
  have hb := h.head
  simp only [lev, Rol.leb]
  rw [this]
  omega
end Go.Proofs.Ytekanmieppnpeaa.G
end
section
namespace Go.Proofs.Ytekanmieppnpeaa.G
open Go Go.RowKit Go.Proofs.YtekanmieppnpeaaW.PrintWords Go.Proofs.YtekanmieppnpeaaW.PrintLast Go.Proofs.YtekanmieppnpeaaW.PrintMore Go.Proofs.Ytekanmieppnpeaa.PureKit Go.Proofs.Ytekanmieppnpeaa.Sep Go.Proofs.Ytekanmieppnpeaa.Rol Go.Proofs.Ytekanmieppnpeaa.LCobs
theorem ref_open (l : List Int) (hb : Bytes l) (hl : l.length ≤ 90000) : Ev (fun k => fascicleref09_Open.f k (strOfNums l)) (strOfNums (opnb l).1, (opnb l).2) := by
 unfold fascicleref09_Open.f
 have h1 : Ev (fun k => fascicleref05_Unstuff.f k (strOfNums l)) (strOfNums (unst l).1, (unst l).2) := ref_unstuff_f l hb (by omega)
 obtain ⟨hub, hul, _, hu1⟩ := unst_facts l hb
 refine Ev.bind h1 ?_
 unfold opnb
 generalize unst l = u at *
 obtain ⟨b, e⟩ := u
 dsimp only at hub hul hu1 ⊢
 by_cases he : e = 0
 ·
  subst he
  have z0 : ¬ ((0 : Int) ≠ 0) := by simp
  rw [nums_size, if_neg z0]
  simp only [if_true]
  by_cases h8 : b.length < 8
  ·
   have c1 : wrap64 ((b.length : Int) - 8) < 0 := by rw [w64 (by omega) (by omega)]; omega
   simp only [if_pos c1, if_pos h8]
   rw [nums_empty]
   exact Ev.now _
  ·
   obtain ⟨m, hm⟩ : ∃ m : Nat, b.length = m + 8 := ⟨b.length - 8, by omega⟩
   have hw : wrap64 ((b.length : Int) - 8) = (m : Int) := by rw [w64 (by omega) (by omega)]; omega
   have d1 : ¬ ((m : Int) < 0) := by omega
   have d2 : (0 : Int) ≤ (m : Int) := by omega
   have d3 : (m : Int) ≤ (b.length : Int) := by omega
   rw [hw]
   simp only [if_neg d1, if_pos d2, if_pos d3, if_neg h8]
   rw [Int.toNat_natCast, show b.length - 8 = m by omega]
   have hx1 : (strOfNums b).extract m b.length = strOfNums (b.drop m) := by rw [nums_extract, List.take_of_length_le (by omega)]
   have hx2 : (strOfNums b).extract 0 m = strOfNums (b.take m) := by rw [nums_extract, List.drop_zero]
   rw [hx1, hx2]
   have hv := value_ev (b.drop m) (hub.drop m) (by rw [List.length_drop]; omega)
   have hs := ref4_ev 0 (b.take m) (by decide) (by decide) (hub.take m) (by rw [List.length_take]; omega)
   rw [lev_leb _ (hub.drop m)]
   refine Ev.bind hv ?_
   refine Ev.bind hs ?_
   rw [show (0 : Int).toNat = 0 from rfl]
   by_cases hq : ((leb (b.drop m) : Nat) : Int) = ((wsum 0 (b.take m) : Nat) : Int)
   ·
    rw [if_pos hq, if_neg (by simpa using hq)]
    exact Ev.now _
   ·
    rw [if_neg hq, if_pos hq, nums_empty]
    exact Ev.now _
 ·
  have he2 : e ≠ 0 := he
  simp only [if_neg he]
  rw [if_pos he2, nums_empty]
  exact Ev.now _
theorem lev_sum (x : Nat) (h : x < 18446744073709551616) : lev (nbytes 8 (x : Int)) = (x : Int) := by
 rw [lev_nbytes 8 (x : Int) (by omega)]
 omega
theorem opnb_sealed (l : List Int) : opnb (sealed l) = (l, 0) := by
 unfold opnb sealed
 rw [unst_stf]
 dsimp only
 have hl := summed_len l
 have e1 : (summed l).take ((summed l).length - 8) = l := by rw [hl, Nat.add_sub_cancel]; unfold summed; exact List.take_left
 have e2 : (summed l).drop ((summed l).length - 8) = nbytes 8 ((wsum 0 l : Nat) : Int) := by rw [hl, Nat.add_sub_cancel]; unfold summed; exact List.drop_left
 rw [e1, e2, lev_sum _ (wsum_lt 0 l), if_neg (by simp), if_neg (by omega), if_neg (by simp)]
end Go.Proofs.Ytekanmieppnpeaa.G
end
