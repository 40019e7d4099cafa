/- footer.Put, walked. -/
import Derived.Test.YtekanmieppnpeaaHTPut
import Derived.Test.YtekanmieppnpeaaHFootCheck
import Derived.Test.YtekanmieppnpeaaHFenceOf
import Derived.Test.YtekanmieppnpeaaHFrameSeal
set_option linter.unusedVariables false
set_option linter.unusedSimpArgs false
namespace Go.Proofs.Ytekanmieppnpeaa.Tb
open Go Go.RowKit Go.Proofs.YtekanmieppnpeaaW.PrintWords Go.Proofs.YtekanmieppnpeaaW.PrintLast Go.Proofs.YtekanmieppnpeaaW.PrintMore Go.Proofs.Ytekanmieppnpeaa.Sep Go.Proofs.Ytekanmieppnpeaa.G Go.Proofs.Ytekanmieppnpeaa.PureKit Go.Proofs.Ytekanmieppnpeaa.Fe Go.Proofs.Ytekanmieppnpeaa.LCobs
set_option maxHeartbeats 4000000
set_option maxRecDepth 100000

theorem nbytes_bytesT : ∀ (n : Nat) (x : Int), Bytes (nbytes n x)
  | 0, _ => Bytes.nil
  | n + 1, x => Bytes.cons (by omega) (nbytes_bytesT n _)
theorem tbytes_bytes (l : List E1) : Bytes (tbytes l) := by
  intro y hy
  obtain ⟨x, -, hx⟩ := List.mem_flatMap.1 hy
  exact ((nbytes_bytesT 8 x.f0).append (nbytes_bytesT 4 x.f1)) y hx
theorem fbytes_bytes (l : List Int) : Bytes (fbytes l) := by
  intro y hy
  obtain ⟨x, -, hx⟩ := List.mem_flatMap.1 hy
  exact nbytes_bytesT 8 x y hx
theorem fencesE_lenT (l : List E1) : (fencesE l).length = chunks l.length := by unfold fencesE; rw [List.length_map, List.length_range]
theorem fencesE_ok {l : List E1} (hok : ∀ x ∈ l, OkE x) : ∀ y ∈ fencesE l, 0 ≤ y ∧ y < 18446744073709551616 := by
  intro y hy
  obtain ⟨k, hk, rfl⟩ := List.mem_map.1 hy
  have hkl : 16 * k < l.length := by have := List.mem_range.1 hk; unfold chunks at this; omega
  unfold fenceAt
  rw [rdT l (16 * k) _ (List.getElem?_eq_getElem hkl)]
  have := hok _ (List.getElem_mem hkl)
  exact ⟨this.1, this.2.1⟩
/-- A footer's body. -/
def footb (used : Int) (l : List E1) : List Int := [4] ++ nbytes 4 (l.length : Int) ++ nbytes 4 used ++ tbytes l ++ fbytes (fencesE l)
theorem footb_bytes (used : Int) (l : List E1) : Bytes (footb used l) := by
  unfold footb
  exact ((((Bytes.cons (by decide) Bytes.nil).append (nbytes_bytesT _ _)).append (nbytes_bytesT _ _)).append (tbytes_bytes l)).append (fbytes_bytes _)
theorem footb_len (used : Int) (l : List E1) (hl : l.length ≤ 1000) : (footb used l).length ≤ 20000 := by
  unfold footb
  simp only [List.length_append, List.length_cons, List.length_nil, nbytes_len, tbytes_len, fbytes_len, fencesE_lenT]
  unfold chunks
  omega
theorem foot_put (w : World) (A : Option Addr) (c : Nat) (used : Int) (l : List E1) (hC : kE.C w A l.length l) (hc : l.length ≤ c) (hl : l.length ≤ 1000) (hok : ∀ x ∈ l, OkE x) (hu : 0 ≤ used) (hu' : used ≤ 4294967295) :
    Calls Try.prog 38 #[.agg #[.int .u32 used, .slice A l.length c]] w fun e w' => ∃ v : Value, e = .returned (.tuple #[v, .int .i64 (checkF used l)]) ∧ Kd.R (Kd.int .u8) 5 w' w.heap.size (fun _ => True) v (if checkF used l = 0 then sealed (footb used l) ++ [0] else []) ∧ Below w.heap.size w w' := by
  have h1 := (Sep.start w).alloc #[.int .u32 used, .slice A l.length c] 29
  have hS := Aside0.mk h1
  have hCA := Aside0.mk hC
  have hcA := Aside0.mk hc
  have hoA := Aside0.mk hok
  have huA := Aside0.mk (And.intro hu hu')
  have hlA := Aside0.mk hl
  have hc0 : (w.alloc (.cells #[.int .u32 used, .slice A l.length c] 29 (0, 0))).cell? ⟨w.heap.size, 0, none⟩ = some (.int .u32 used) := (h1.cell 0).trans rfl
  have hc1 : (w.alloc (.cells #[.int .u32 used, .slice A l.length c] 29 (0, 0))).cell? ⟨w.heap.size, 1, none⟩ = some (.slice A l.length c) := (h1.cell 1).trans rfl
  obtain ⟨E, hE⟩ : ∃ E, checkF used l = E := ⟨_, rfl⟩
  have hck := Aside0.mk (fun W (hb : Below w.heap.size w W) => check_call W A c used l (Kd.C_below hC hb) hc (by omega))
  rw [hE] at hck ⊢
  have wl : IntKind.u32.wrap (l.length : Int) = (l.length : Int) := by rw [IntKind.wrap_u32]; omega
  have wl2 : (l.length : Int) % 4294967296 = (l.length : Int) := by omega
  clear h1 hC hc hok hu hu' hl hE
  by_cases hE0 : E = 0
  · subst hE0
    rw [if_pos rfl]
    go_enter Try.func38, Try.ntmps38
    go_wp2_with (fail)
    refine (hck.out _ hS.out.1).mono ?_
    rintro e w1 ⟨rfl, hb⟩
    have hS1 := Aside0.mk (hS.out.below hb)
    clear hb hc0 hc1 hS
    go_upto_region 5 with (fail)
    obtain ⟨gb, hgb⟩ : ∃ gb, w1.heap.size = gb := ⟨_, rfl⟩
    have hS3 := Aside0.mk hS1.out.buf_new
    rw [hgb] at hS3 ⊢
    generalize w1.alloc (.cells #[.slice none 0 0] 100 (0, 0)) = w2 at hS3 ⊢
    clear hgb
    go_wp2_with (fail)
    have hS := Aside0.mk hS3.out.drew
    have hc0 : w2.drew.cell? ⟨w.heap.size, 0, none⟩ = some (.int .u32 used) := (hS.out.pick1.cell 0).trans rfl
    have hc1 : w2.drew.cell? ⟨w.heap.size, 1, none⟩ = some (.slice A l.length c) := (hS.out.pick1.cell 1).trans rfl
    refine start_ (n := 9) (S := fun w' => w'.cell? ⟨w.heap.size, 0, none⟩ = some (.int .u32 used) ∧ w'.cell? ⟨w.heap.size, 1, none⟩ = some (.slice A l.length c)) (ds := []) #[false, false, false, false, false, false, false, false, false] (by kernel_rfl) rfl rfl ⟨hc0, hc1⟩ (fun hHeld => ?_)
    refine pure_ (i := 1) (N := some 12) (v := ?_) (a' := ?_) #[false, true, false, false, false, false, false, false, false] rfl rfl (by kernel_rfl) (fun _ _ _ h => h) (Or.inl ⟨by rfl, ?_⟩) ?_ ?_
    rotate_left
    · intro w'
      go_simp
      with_reducible rfl
    rotate_left
    · simp only [Act.put, List.setIfInBounds_toArray, List.set_cons_zero, List.set_cons_succ, i64_w, i32_w]
      rfl
    refine pure_ (i := 6) (N := some 17) (v := ?_) (a' := ?_) #[false, true, false, false, false, false, true, false, false] rfl rfl (by kernel_rfl) (fun _ _ _ h => h) (Or.inl ⟨by rfl, ?_⟩) ?_ ?_
    rotate_left
    · intro w'
      go_simp
      with_reducible rfl
    rotate_left
    · simp only [Act.put, List.setIfInBounds_toArray, List.set_cons_zero, List.set_cons_succ, i64_w, i32_w]
      rfl
    refine take_ (i := 2) (N := some 13) (v := ?_) (a' := ?_) #[false, true, true, false, false, false, true, false, false] rfl rfl (by kernel_rfl) (fun _ _ _ h => h) (Or.inl ⟨by rfl, ?_⟩) hHeld ?_ ?_
    rotate_left
    · rintro w' ⟨s0, s1⟩
      go_simp
      with_reducible rfl
    rotate_left
    · simp only [Act.put, List.setIfInBounds_toArray, List.set_cons_zero, List.set_cons_succ, i64_w, i32_w]
      rfl
    refine pure_ (i := 3) (N := some 14) (v := ?_) (a' := ?_) #[false, true, true, true, false, false, true, false, false] rfl rfl (by kernel_rfl) (fun _ _ _ h => h) (Or.inl ⟨by rfl, ?_⟩) ?_ ?_
    rotate_left
    · intro w'
      go_simp
      with_reducible rfl
    rotate_left
    · simp only [Act.put, List.setIfInBounds_toArray, List.set_cons_zero, List.set_cons_succ, i64_w, i32_w]
      rfl
    refine pure_ (i := 4) (N := some 15) (v := ?_) (a' := ?_) #[false, true, true, true, true, false, true, false, false] rfl rfl (by kernel_rfl) (fun _ _ _ h => h) (Or.inl ⟨by rfl, ?_⟩) ?_ ?_
    rotate_left
    · intro w'
      go_simp
      with_reducible rfl
    rotate_left
    · simp only [Act.put, List.setIfInBounds_toArray, List.set_cons_zero, List.set_cons_succ, i64_w, i32_w]
      rfl
    refine take_ (i := 7) (N := some 18) (v := ?_) (a' := ?_) #[false, true, true, true, true, false, true, true, false] rfl rfl (by kernel_rfl) (fun _ _ _ h => h) (Or.inl ⟨by rfl, ?_⟩) hHeld ?_ ?_
    rotate_left
    · rintro w' ⟨s0, s1⟩
      go_simp
      with_reducible rfl
    rotate_left
    · simp only [Act.put, List.setIfInBounds_toArray, List.set_cons_zero, List.set_cons_succ, i64_w, i32_w]
      rfl
    refine one_ (i := 0) (N := some 11) #[true, true, true, true, true, false, true, true, false] rfl rfl (by kernel_rfl) (by decide) (fun K hK => ?_)
    refine goes_ Try.func66 (by kernel_rfl) rfl #[.pointer (some ⟨gb, 0, none⟩), .int .u8 4] (by rfl) rfl rfl (by (try simp only [List.map_toArray, List.map_cons, List.map_nil]); first | done | rfl) ?_
    refine (buf_Byte w _ gb [] _ 4 hS.out (by decide) (by decide) (by decide)).mono ?_
    rintro e w3 ⟨rfl, h1⟩
    refine ⟨_, rfl, ?_⟩
    have hS4 := Aside0.mk h1
    clear h1
    refine hK.out _ _ ⟨(hS4.out.pick1.cell 0).trans rfl, (hS4.out.pick1.cell 1).trans rfl⟩ (fun hHeld => ?_)
    clear hK K
    refine norm_ (a' := ?_) ?_ ?_
    rotate_left
    · show Act.put _ (some 11) _ = _
      simp only [Act.put, List.setIfInBounds_toArray, List.set_cons_zero, List.set_cons_succ, i64_w, i32_w]
      rfl
    refine one_ (i := 5) (N := some 16) #[true, true, true, true, true, true, true, true, false] rfl rfl (by kernel_rfl) (by decide) (fun K hK => ?_)
    refine goes_ Try.func92 (by kernel_rfl) rfl #[.pointer (some ⟨gb, 0, none⟩), .int .u32 (l.length : Int)] (by rfl) rfl rfl (by (try simp only [List.map_toArray, List.map_cons, List.map_nil]); first | done | rfl) ?_
    refine (buf_FourT w _ gb _ _ (l.length : Int) hS4.out (by omega) (by have := hlA.out; omega) (by decide)).mono ?_
    rintro e w4 ⟨rfl, h1⟩
    refine ⟨_, rfl, ?_⟩
    have hS5 := Aside0.mk h1
    clear h1
    refine hK.out _ _ ⟨(hS5.out.pick1.cell 0).trans rfl, (hS5.out.pick1.cell 1).trans rfl⟩ (fun hHeld => ?_)
    clear hK K
    refine norm_ (a' := ?_) ?_ ?_
    rotate_left
    · show Act.put _ (some 16) _ = _
      simp only [Act.put, List.setIfInBounds_toArray, List.set_cons_zero, List.set_cons_succ, i64_w, i32_w]
      rfl
    refine one_ (i := 8) (N := some 19) #[true, true, true, true, true, true, true, true, true] rfl rfl (by kernel_rfl) (by decide) (fun K hK => ?_)
    refine goes_ Try.func92 (by kernel_rfl) rfl #[.pointer (some ⟨gb, 0, none⟩), .int .u32 used] (by rfl) rfl rfl (by (try simp only [List.map_toArray, List.map_cons, List.map_nil]); first | done | rfl) ?_
    refine (buf_FourT w _ gb _ _ used hS5.out huA.out.1 huA.out.2 (by rw [List.length_append, nbytes_len]; decide)).mono ?_
    rintro e w5 ⟨rfl, h1⟩
    refine ⟨_, rfl, ?_⟩
    have hS6 := Aside0.mk h1
    clear h1
    refine hK.out _ _ ⟨(hS6.out.pick1.cell 0).trans rfl, (hS6.out.pick1.cell 1).trans rfl⟩ (fun hHeld => ?_)
    clear hK K
    refine norm_ (a' := ?_) ?_ ?_
    rotate_left
    · show Act.put _ (some 19) _ = _
      simp only [Act.put, List.setIfInBounds_toArray, List.set_cons_zero, List.set_cons_succ, i64_w, i32_w]
      rfl
    refine done_ (by kernel_rfl) ?_
    have hc1 : w5.cell? ⟨w.heap.size, 1, none⟩ = some (.slice A l.length c) := (hS6.out.pick1.cell 1).trans rfl
    clear hS hS1 hS3 hS4 hS5 wl wl2
    go_wp2_with (fail)
    refine (table_Put w w5 gb _ A c l _ hS6.out hCA.out (by have := hlA.out; omega) (by simp only [List.length_append, List.length_cons, List.length_nil, nbytes_len]; omega) hoA.out).mono ?_
    rintro e w6 ⟨rfl, h1⟩
    have hc2 : w6.cell? ⟨w.heap.size, 1, none⟩ = some (.slice A l.length c) := (h1.pick1.cell 1).trans rfl
    have hS7 := Aside0.mk h1
    clear h1 hc1 hS6
    go_wp2_with (fail)
    refine (fence_Of A c l (by have := hlA.out; omega) hcA.out w6 (Kd.C_below hCA.out hS7.out.1)).mono ?_
    rintro e w7 ⟨v7, rfl, ho, hb⟩
    obtain ⟨A7, c7, rfl⟩ := Kd.R_slice ho
    have hS8 := Aside0.mk (Sep.row_new hS7.out hb ho).pick1
    clear ho hb hc2 hS7
    go_wp2_with (fail)
    refine (fence_Put w w7 gb _ A7 c7 _ (fencesE l) rfl _ hS8.out (fun W hW => by
      obtain ⟨bs, hR⟩ := hW.row_R
      obtain ⟨A', c', e', hle, hC'⟩ := Kd.R_reads hR
      injection e' with e1 e2 e3
      subst e1
      exact hC') (by rw [fencesE_lenT]; have := hlA.out; unfold chunks; omega) (by simp only [List.length_append, List.length_cons, List.length_nil, nbytes_len, tbytes_len]; have := hlA.out; omega) (fencesE_ok hoA.out)).mono ?_
    rintro e w8 ⟨rfl, h1⟩
    rw [show [] ++ [(4 : Int)] ++ nbytes 4 (l.length : Int) ++ nbytes 4 used ++ tbytes l ++ fbytes (fencesE l) = footb used l from rfl] at h1
    have hS9 := Aside0.mk h1
    clear h1 hS8
    have hbl := Aside0.mk (footb_len used l hlA.out)
    have hbb := Aside0.mk (footb_bytes used l)
    go_wp2_with (fail)
    refine (buf_Bytes w _ gb _ _ hS9.out (by have := hbl.out; omega)).mono ?_
    rintro e w9 ⟨v9, rfl, h1⟩
    obtain ⟨bs9, hR9⟩ := h1.row_R
    obtain ⟨A9, c9, rfl⟩ := Kd.R_slice hR9
    have hr9 := Aside0.mk (Kd.R_reads' hR9)
    have hS10 := Aside0.mk h1
    clear h1 hR9
    go_wp2_with (fail)
    refine (frame_seal _ A9 c9 _ (footb used l) rfl hr9.out.2.2 hr9.out.2.1 hbb.out (by have := hbl.out; omega)).mono ?_
    rintro e w10 ⟨v10, rfl, ho10, hb10⟩
    have hS11 := Aside0.mk (Sep.row_new hS10.out hb10 ho10)
    clear ho10 hb10
    go_wp2_with (fail)
    go_ret2
    obtain ⟨h1, h2⟩ := hS11.out.row_out
    exact ⟨_, rfl, h1, h2⟩
  · rw [if_neg hE0]
    have e1 : (E != 0) = true := bne_iff_ne.2 hE0
    have e2 : decide (E = 0) = false := decide_eq_false hE0
    have e3 : (E == 0) = false := beq_eq_false_iff_ne.2 hE0
    go_enter Try.func38, Try.ntmps38
    go_wp2_with (fail)
    refine (hck.out _ hS.out.1).mono ?_
    rintro e w1 ⟨rfl, hb⟩
    have hS1 := Aside0.mk (hS.out.below hb)
    clear hb hc0 hc1 hS
    go_wp2_with (fail)
    go_ret2
    exact ⟨_, rfl, Kd.R_nil _ _ _ _ _, hS1.out.1⟩
end Go.Proofs.Ytekanmieppnpeaa.Tb
