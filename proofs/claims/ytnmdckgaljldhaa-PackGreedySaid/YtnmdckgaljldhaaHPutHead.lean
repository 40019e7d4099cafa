/- frame.PutHead: a head's frame. -/
import Derived.Test.YtnmdckgaljldhaaMBuf
import Derived.Test.YtnmdckgaljldhaaHFrameSeal
import Derived.Test.YtnmdckgaljldhaaGx1
set_option linter.unusedVariables false
set_option linter.unusedSimpArgs false
namespace Go.Proofs.Ytnmdckgaljldhaa.G
open Go Go.RowKit Go.Proofs.YtnmdckgaljldhaaW.PrintWords Go.Proofs.YtnmdckgaljldhaaW.PrintLast Go.Proofs.YtnmdckgaljldhaaW.PrintMore Go.Proofs.Ytnmdckgaljldhaa.PureKit Go.Proofs.Ytnmdckgaljldhaa.Sep Go.Proofs.Ytnmdckgaljldhaa.Rol Go.Proofs.Ytnmdckgaljldhaa.LCobs

/-- A head's body. -/
def hbody (x : Int) (s n : Nat) : List Int := [1, 2, x] ++ venc s ++ venc n
theorem venc_bytes : ∀ (d x : Nat), x ≤ d → Bytes (venc x) := by
  intro d
  induction d with
  | zero => intro x h; rw [venc_small (by omega)]; exact Bytes.cons (by omega) Bytes.nil
  | succ d ih =>
    intro x h
    by_cases hs : x < 128
    · rw [venc_small hs]; exact Bytes.cons (by omega) Bytes.nil
    · rw [venc_big hs]; exact Bytes.cons (by omega) (ih _ (by omega))
theorem hbody_bytes (x : Int) (s n : Nat) (h0 : 0 ≤ x) (h1 : x ≤ 255) : Bytes (hbody x s n) := by
  unfold hbody
  exact Bytes.append (Bytes.append (Bytes.cons (by decide) (Bytes.cons (by decide) (Bytes.cons ⟨h0, h1⟩ Bytes.nil))) (venc_bytes _ _ (Nat.le_refl _))) (venc_bytes _ _ (Nat.le_refl _))
theorem hbody_len (x : Int) (s n : Nat) (hs : s < 4294967296) (hn : n < 4294967296) : (hbody x s n).length ≤ 13 := by
  have h1 := venc_len 5 s (Nat.lt_of_lt_of_le hs (by decide)) (by decide)
  have h2 := venc_len 5 n (Nat.lt_of_lt_of_le hn (by decide)) (by decide)
  unfold hbody
  simp only [List.length_append, List.length_cons, List.length_nil]
  omega
theorem check_ok {e s n : Int} (h0 : 12 ≤ e) (h1 : e ≤ 24) (h2 : 1 ≤ s) (h3 : s ≤ 65536) (h4 : n < s) : frame_check.f e s n = some 0 := by
  unfold frame_check.f config_Check.f
  rw [if_neg (by omega), if_neg (by omega), if_neg (by omega), if_neg (by omega)]
  simp only [Option.bind_some]
  first | (rw [if_pos rfl, if_neg (by omega)]; done) | (rw [if_neg (by decide), if_neg (by omega)]; done) | (simp; omega)
theorem check_no {e s n : Int} (h : ¬ (12 ≤ e ∧ e ≤ 24 ∧ 1 ≤ s ∧ s ≤ 65536 ∧ n < s)) : frame_check.f e s n = some 1 := by
  unfold frame_check.f config_Check.f
  by_cases a : e < 12
  · rw [if_pos a]; rfl
  by_cases b : e > 24
  · rw [if_neg a, if_pos b]; rfl
  by_cases c : s < 1
  · rw [if_neg a, if_neg b, if_pos c]; rfl
  by_cases d : s > 65536
  · rw [if_neg a, if_neg b, if_neg c, if_pos d]; rfl
  rw [if_neg a, if_neg b, if_neg c, if_neg d]
  simp only [Option.bind_some]
  first | (rw [if_pos rfl, if_pos (by omega)]; done) | (rw [if_neg (by decide), if_pos (by omega)]; done) | (simp; omega)

def frame_PutHead.f (a0_0 a0_1 a1 : Int) : Option (List Int × Int) :=
  if 0 ≤ a0_0 ∧ a0_0 ≤ 255 ∧ 0 ≤ a0_1 ∧ a0_1 < 4294967296 ∧ 0 ≤ a1 ∧ a1 < 4294967296 then
    (if 12 ≤ a0_0 ∧ a0_0 ≤ 24 ∧ 1 ≤ a0_1 ∧ a0_1 ≤ 65536 ∧ a1 < a0_1 then some (sealed (hbody a0_0 a0_1.toNat a1.toNat) ++ [0], 0) else some ([], 1)) else none

set_option maxHeartbeats 4000000 in
set_option maxRecDepth 100000 in
theorem frame_PutHead.calls (a0_0 a0_1 a1 : Int) (r0 : List Int) (r1 : Int) (w : World) (h : frame_PutHead.f a0_0 a0_1 a1 = some (r0, r1)) :
    Calls Try.prog 79 #[.agg #[.int .u8 a0_0, .int .u32 a0_1], .int .u32 a1] w fun e w' => ∃ v0_ : Value, e = .returned (.tuple #[v0_, .int .i64 r1]) ∧ Kd.R (Kd.int .u8) 5 w' w.heap.size (fun _ => True) v0_ r0 ∧ Below w.heap.size w w' := by
  unfold frame_PutHead.f at h
  split at h
  case isFalse => cases h
  rename_i hin
  obtain ⟨h0, h1, h2, h3, h4, h5⟩ := hin
  by_cases hok : 12 ≤ a0_0 ∧ a0_0 ≤ 24 ∧ 1 ≤ a0_1 ∧ a0_1 ≤ 65536 ∧ a1 < a0_1
  · rw [if_pos hok] at h
    obtain ⟨rfl, rfl⟩ : sealed (hbody a0_0 a0_1.toNat a1.toNat) ++ [0] = r0 ∧ (0 : Int) = r1 := by cases h; exact ⟨rfl, rfl⟩
    obtain ⟨s, rfl⟩ : ∃ s : Nat, a0_1 = s := ⟨a0_1.toNat, by omega⟩
    obtain ⟨n, rfl⟩ : ∃ n : Nat, a1 = n := ⟨a1.toNat, by omega⟩
    obtain ⟨k0, k1, k2, k3, k4⟩ := hok
    rw [Int.toNat_natCast, Int.toNat_natCast]
    have hck := Aside0.mk (check_ok k0 k1 k2 k3 k4)
    have hA := Aside0.mk (And.intro h0 (And.intro h1 (And.intro h3 h5)))
    have hbA := Aside0.mk (hbody_bytes a0_0 s n h0 h1)
    have hlA := Aside0.mk (hbody_len a0_0 s n (by omega) (by omega))
    have hvl := Aside0.mk (venc_len 5 s (Nat.lt_of_lt_of_le (show s < 4294967296 by omega) (by decide)) (by decide))
    have hvl2 := Aside0.mk (venc_len 5 n (Nat.lt_of_lt_of_le (show n < 4294967296 by omega) (by decide)) (by decide))
    have ws : IntKind.u64.wrap (s : Int) = (s : Int) := by rw [IntKind.wrap_u64]; omega
    have wn : IntKind.u64.wrap (n : Int) = (n : Int) := by rw [IntKind.wrap_u64]; omega
    have hS := Aside0.mk (Sep.start w)
    clear h h0 h1 h2 h3 h4 h5 k0 k1 k2 k3 k4
    go_enter Try.func79, Try.ntmps79
    go_wp2_with (fail)
    have hS1 := Aside0.mk (hS.out.alloc #[.int .u8 a0_0, .int .u32 (s : Int)] 49)
    refine (frame_check.calls a0_0 (s : Int) (n : Int) 0 _ hck.out).mono ?_
    rintro e w1 ⟨rfl, hb1⟩
    have hS2 := Aside0.mk (hS1.out.below hb1)
    clear hb1
    go_upto_region 5 with (fail)
    obtain ⟨gb, hgb⟩ : ∃ gb, w1.heap.size = gb := ⟨_, rfl⟩
    have hS3 := Aside0.mk hS2.out.buf_new
    rw [hgb] at hS3 ⊢
    generalize w1.alloc (.cells #[.slice none 0 0] 29 (0, 0)) = w2 at hS3 ⊢
    clear hgb
    go_wp2_with (fail)
    have hS := Aside0.mk hS3.out.drew
    have hc0 : w2.drew.cell? ⟨w.heap.size, 0, none⟩ = some (.int .u8 a0_0) := (hS.out.pick1.cell 0).trans rfl
    refine start_ (n := 5) (S := fun w' => w'.cell? ⟨w.heap.size, 0, none⟩ = some (.int .u8 a0_0)) (ds := []) #[false, false, false, false, false] (by kernel_rfl) rfl rfl (hc0) (fun hHeld => ?_)
    refine pure_ (i := 2) (N := some 16) (v := ?_) (a' := ?_) #[false, false, true, false, false] rfl rfl (by kernel_rfl) (fun _ _ _ h => h) (Or.inl ⟨by rfl, ?_⟩) ?_ ?_
    rotate_left
    · intro w'
      go_simp
      with_reducible rfl
    rotate_left
    · simp only [Act.put, List.setIfInBounds_toArray, List.set_cons_zero, List.set_cons_succ, i64_w, i32_w]
      rfl
    refine take_ (i := 3) (N := some 17) (v := ?_) (a' := ?_) #[false, false, true, true, false] rfl rfl (by kernel_rfl) (fun _ _ _ h => h) (Or.inl ⟨by rfl, ?_⟩) hHeld ?_ ?_
    rotate_left
    · intro w' s0
      go_simp
      with_reducible rfl
    rotate_left
    · simp only [Act.put, List.setIfInBounds_toArray, List.set_cons_zero, List.set_cons_succ, i64_w, i32_w]
      rfl
    refine one_ (i := 0) (N := some 14) #[true, false, true, true, false] rfl rfl (by kernel_rfl) (by decide) (fun K hK => ?_)
    refine goes_ Try.func113 (by kernel_rfl) rfl #[.pointer (some ⟨gb, 0, none⟩), .int .u8 1] (by rfl) rfl rfl (by (try simp only [List.map_toArray, List.map_cons, List.map_nil]); first | done | rfl) ?_
    refine (buf_Byte w _ gb [] _ 1 hS.out (by decide) (by decide) (by decide)).mono ?_
    rintro e w3 ⟨rfl, h1⟩
    refine ⟨_, rfl, ?_⟩
    have hS4 := Aside0.mk h1
    clear h1
    refine hK.out _ _ ((hS4.out.pick1.cell 0).trans rfl) (fun hHeld => ?_)
    clear hK K
    refine norm_ (a' := ?_) ?_ ?_
    rotate_left
    · show Act.put _ (some 14) _ = _
      simp only [Act.put, List.setIfInBounds_toArray, List.set_cons_zero, List.set_cons_succ, i64_w, i32_w]
      rfl
    refine one_ (i := 1) (N := some 15) #[true, true, true, true, false] rfl rfl (by kernel_rfl) (by decide) (fun K hK => ?_)
    refine goes_ Try.func113 (by kernel_rfl) rfl #[.pointer (some ⟨gb, 0, none⟩), .int .u8 2] (by rfl) rfl rfl (by (try simp only [List.map_toArray, List.map_cons, List.map_nil]); first | done | rfl) ?_
    refine (buf_Byte w _ gb _ _ 2 hS4.out (by decide) (by decide) (by decide)).mono ?_
    rintro e w4 ⟨rfl, h1⟩
    refine ⟨_, rfl, ?_⟩
    have hS5 := Aside0.mk h1
    clear h1
    refine hK.out _ _ ((hS5.out.pick1.cell 0).trans rfl) (fun hHeld => ?_)
    clear hK K
    refine norm_ (a' := ?_) ?_ ?_
    rotate_left
    · show Act.put _ (some 15) _ = _
      simp only [Act.put, List.setIfInBounds_toArray, List.set_cons_zero, List.set_cons_succ, i64_w, i32_w]
      rfl
    refine one_ (i := 4) (N := some 18) #[true, true, true, true, true] rfl rfl (by kernel_rfl) (by decide) (fun K hK => ?_)
    refine goes_ Try.func113 (by kernel_rfl) rfl #[.pointer (some ⟨gb, 0, none⟩), .int .u8 a0_0] (by rfl) rfl rfl (by (try simp only [List.map_toArray, List.map_cons, List.map_nil]); first | done | rfl) ?_
    refine (buf_Byte w _ gb _ _ a0_0 hS5.out hA.out.1 hA.out.2.1 (by decide)).mono ?_
    rintro e w5 ⟨rfl, h1⟩
    refine ⟨_, rfl, ?_⟩
    have hS6 := Aside0.mk h1
    clear h1
    refine hK.out _ _ ((hS6.out.pick1.cell 0).trans rfl) (fun hHeld => ?_)
    clear hK K
    refine norm_ (a' := ?_) ?_ ?_
    rotate_left
    · show Act.put _ (some 18) _ = _
      simp only [Act.put, List.setIfInBounds_toArray, List.set_cons_zero, List.set_cons_succ, i64_w, i32_w]
      rfl
    refine done_ (by kernel_rfl) ?_
    have hc1 : w5.cell? ⟨w.heap.size, 1, none⟩ = some (.int .u32 (s : Int)) := (hS6.out.pick1.cell 1).trans rfl
    clear hS hS1 hS2 hS3 hS4 hS5
    go_wp2_with (fail)
    refine (varint_Put w _ gb _ _ s _ rfl hS6.out (by have := hA.out.2.2.1; omega) (by simp only [List.length_append, List.length_cons, List.length_nil]; omega)).mono ?_
    rintro e w6 ⟨rfl, h1⟩
    have hS7 := Aside0.mk h1
    clear h1 hc1
    go_wp2_with (fail)
    refine (varint_Put w _ gb _ _ n _ rfl hS7.out (by have := hA.out.2.2.2; omega) (by have := hvl.out; simp only [List.length_append, List.length_cons, List.length_nil]; omega)).mono ?_
    rintro e w7 ⟨rfl, h1⟩
    have hS8 := Aside0.mk h1
    rw [show [] ++ [(1 : Int)] ++ [2] ++ [a0_0] ++ venc s ++ venc n = hbody a0_0 s n from rfl] at hS8
    clear h1 hS7 hS6
    go_wp2_with (fail)
    refine (buf_Bytes w _ gb _ _ hS8.out (by have := hlA.out; omega)).mono ?_
    rintro e w8 ⟨v8, rfl, h1⟩
    obtain ⟨bs8, hR8⟩ := h1.row_R
    obtain ⟨A8, c8, rfl⟩ := Kd.R_slice hR8
    have hr8 := Aside0.mk (Kd.R_reads' hR8)
    have hS9 := Aside0.mk h1
    clear h1 hR8
    go_wp2_with (fail)
    refine (frame_seal _ A8 c8 _ (hbody a0_0 s n) rfl hr8.out.2.2 hr8.out.2.1 hbA.out (by have := hlA.out; omega)).mono ?_
    rintro e w9 ⟨v9, rfl, ho9, hb9⟩
    have hS10 := Aside0.mk (Sep.row_new hS9.out hb9 ho9)
    clear ho9 hb9
    go_wp2_with (fail)
    go_ret2
    obtain ⟨h1, h2⟩ := hS10.out.row_out
    exact ⟨_, rfl, h1, h2⟩
  · rw [if_neg hok] at h
    obtain ⟨rfl, rfl⟩ : [] = r0 ∧ (1 : Int) = r1 := by cases h; exact ⟨rfl, rfl⟩
    have hck := Aside0.mk (check_no hok)
    clear h hok h0 h1 h2 h3 h4 h5
    have hS := Aside0.mk (Sep.start w)
    go_enter Try.func79, Try.ntmps79
    go_wp2_with (fail)
    have hS1 := Aside0.mk (hS.out.alloc #[.int .u8 a0_0, .int .u32 a0_1] 49)
    refine (frame_check.calls a0_0 a0_1 a1 1 _ hck.out).mono ?_
    rintro e w1 ⟨rfl, hb1⟩
    have hS2 := Aside0.mk (hS1.out.below hb1)
    clear hb1
    go_wp2_with (fail)
    go_ret2
    exact ⟨_, rfl, Kd.R_nil _ _ _ _ _, hS2.out.1⟩

end Go.Proofs.Ytnmdckgaljldhaa.G
