/- Texts of a claim, one behind the other (shake.py): what it does not use is left out. -/
import Derived.Test.YtekanmieppnpeaaY5
import Derived.Deep.Slices
import Derived.SizedLaws
import Derived.WideShapes
import Derived.ChangeArms
import Derived.DataReads
set_option linter.unusedVariables false
set_option linter.unusedSimpArgs false
section
namespace Go.Proofs.Ytekanmieppnpeaa.Tb
open Go Go.RowKit Go.Proofs.YtekanmieppnpeaaW.PrintWords Go.Proofs.YtekanmieppnpeaaW.PrintLast Go.Proofs.YtekanmieppnpeaaW.PrintMore Go.Proofs.Ytekanmieppnpeaa.Sep Go.Proofs.Ytekanmieppnpeaa.G Go.Proofs.Ytekanmieppnpeaa.PureKit Go.Proofs.Ytekanmieppnpeaa.Fe Go.Proofs.Ytekanmieppnpeaa.LCobs
set_option maxHeartbeats 4000000
set_option maxRecDepth 100000
theorem nbytes_bytesT : ∀ (n : Nat) (x : Int), Bytes (nbytes n x)
 | 0, _ => Bytes.nil
 | n + 1, x => Bytes.cons (by omega) (nbytes_bytesT n _)
theorem tbytes_bytes (l : List E1) : Bytes (tbytes l) := by
 intro y hy
 obtain ⟨x, -, hx⟩ := List.mem_flatMap.1 hy
 exact ((nbytes_bytesT 8 x.f0).append (nbytes_bytesT 4 x.f1)) y hx
theorem fbytes_bytes (l : List Int) : Bytes (fbytes l) := by
 intro y hy
 obtain ⟨x, -, hx⟩ := List.mem_flatMap.1 hy
 exact nbytes_bytesT 8 x y hx
theorem fencesE_lenT (l : List E1) : (fencesE l).length = chunks l.length := by unfold fencesE; rw [List.length_map, List.length_range]
theorem fencesE_ok {l : List E1} (hok : ∀ x ∈ l, OkE x) : ∀ y ∈ fencesE l, 0 ≤ y ∧ y < 18446744073709551616 := by
 intro y hy
 obtain ⟨k, hk, rfl⟩ := List.mem_map.1 hy
 have hkl : 16 * k < l.length := by have := List.mem_range.1 hk; unfold chunks at this; omega
 unfold fenceAt
 rw [rdT l (16 * k) _ (List.getElem?_eq_getElem hkl)]
 have := hok _ (List.getElem_mem hkl)
 exact ⟨this.1, this.2.1⟩
def footb (used : Int) (l : List E1) : List Int := [4] ++ nbytes 4 (l.length : Int) ++ nbytes 4 used ++ tbytes l ++ fbytes (fencesE l)
theorem footb_bytes (used : Int) (l : List E1) : Bytes (footb used l) := by
 unfold footb
 exact ((((Bytes.cons (by decide) Bytes.nil).append (nbytes_bytesT _ _)).append (nbytes_bytesT _ _)).append (tbytes_bytes l)).append (fbytes_bytes _)
theorem footb_len (used : Int) (l : List E1) (hl : l.length ≤ 1000) : (footb used l).length ≤ 20000 := by
 unfold footb
 simp only [List.length_append, List.length_cons, List.length_nil, nbytes_len, tbytes_len, fbytes_len, fencesE_lenT]
 unfold chunks
 omega
theorem foot_put (w : World) (A : Option Addr) (c : Nat) (used : Int) (l : List E1) (hC : kE.C w A l.length l) (hc : l.length ≤ c) (hl : l.length ≤ 1000) (hok : ∀ x ∈ l, OkE x) (hu : 0 ≤ used) (hu' : used ≤ 4294967295) :
  Calls Try.prog 38 #[.agg #[.int .u32 used, .slice A l.length c]] w fun e w' => ∃ v : Value, e = .returned (.tuple #[v, .int .i64 (checkF used l)]) ∧ Kd.R (Kd.int .u8) 5 w' w.heap.size (fun _ => True) v (if checkF used l = 0 then sealed (footb used l) ++ [0] else []) ∧ Below w.heap.size w w' := by
 have h1 := (Sep.start w).alloc #[.int .u32 used, .slice A l.length c] 29
 have hS := Aside0.mk h1
 have hCA := Aside0.mk hC
 have hcA := Aside0.mk hc
 have hoA := Aside0.mk hok
 have huA := Aside0.mk (And.intro hu hu')
 have hlA := Aside0.mk hl
 have hc0 : (w.alloc (.cells #[.int .u32 used, .slice A l.length c] 29 (0, 0))).cell? ⟨w.heap.size, 0, none⟩ = some (.int .u32 used) := (h1.cell 0).trans rfl
 have hc1 : (w.alloc (.cells #[.int .u32 used, .slice A l.length c] 29 (0, 0))).cell? ⟨w.heap.size, 1, none⟩ = some (.slice A l.length c) := (h1.cell 1).trans rfl
 obtain ⟨E, hE⟩ : ∃ E, checkF used l = E := ⟨_, rfl⟩
 have hck := Aside0.mk (fun W (hb : Below w.heap.size w W) => check_call W A c used l (Kd.C_below hC hb) hc (by omega))
 rw [hE] at hck ⊢
 have wl : IntKind.u32.wrap (l.length : Int) = (l.length : Int) := by rw [IntKind.wrap_u32]; omega
 have wl2 : (l.length : Int) % 4294967296 = (l.length : Int) := by omega
 clear h1 hC hc hok hu hu' hl hE
 by_cases hE0 : E = 0
 ·
  subst hE0
  rw [if_pos rfl]
  go_enter Try.func38, Try.ntmps38
  go_wp2_with (fail)
  refine (hck.out _ hS.out.1).mono ?_
  rintro e w1 ⟨rfl, hb⟩
  have hS1 := Aside0.mk (hS.out.below hb)
  clear hb hc0 hc1 hS
  go_upto_region 5 with (fail)
  obtain ⟨gb, hgb⟩ : ∃ gb, w1.heap.size = gb := ⟨_, rfl⟩
  have hS3 := Aside0.mk hS1.out.buf_new
  rw [hgb] at hS3 ⊢
  generalize w1.alloc (.cells #[.slice none 0 0] 100 (0, 0)) = w2 at hS3 ⊢
  clear hgb
  go_wp2_with (fail)
  have hS := Aside0.mk hS3.out.drew
  have hc0 : w2.drew.cell? ⟨w.heap.size, 0, none⟩ = some (.int .u32 used) := (hS.out.pick1.cell 0).trans rfl
  have hc1 : w2.drew.cell? ⟨w.heap.size, 1, none⟩ = some (.slice A l.length c) := (hS.out.pick1.cell 1).trans rfl
  refine start_ (n := 9) (S := fun w' => w'.cell? ⟨w.heap.size, 0, none⟩ = some (.int .u32 used) ∧ w'.cell? ⟨w.heap.size, 1, none⟩ = some (.slice A l.length c)) (ds := []) #[false, false, false, false, false, false, false, false, false] (by kernel_rfl) rfl rfl ⟨hc0, hc1⟩ (fun hHeld => ?_)
  refine pure_ (i := 1) (N := some 12) (v := ?_) (a' := ?_) #[false, true, false, false, false, false, false, false, false] rfl rfl (by kernel_rfl) (fun _ _ _ h => h) (Or.inl ⟨by rfl, ?_⟩) ?_ ?_
  rotate_left
  ·
   intro w'
   go_simp
   with_reducible rfl
  rotate_left
  ·
   simp only [Act.put, List.setIfInBounds_toArray, List.set_cons_zero, List.set_cons_succ, i64_w, i32_w]
   rfl
  refine pure_ (i := 6) (N := some 17) (v := ?_) (a' := ?_) #[false, true, false, false, false, false, true, false, false] rfl rfl (by kernel_rfl) (fun _ _ _ h => h) (Or.inl ⟨by rfl, ?_⟩) ?_ ?_
  rotate_left
  ·
   intro w'
   go_simp
   with_reducible rfl
  rotate_left
  ·
   simp only [Act.put, List.setIfInBounds_toArray, List.set_cons_zero, List.set_cons_succ, i64_w, i32_w]
   rfl
  refine take_ (i := 2) (N := some 13) (v := ?_) (a' := ?_) #[false, true, true, false, false, false, true, false, false] rfl rfl (by kernel_rfl) (fun _ _ _ h => h) (Or.inl ⟨by rfl, ?_⟩) hHeld ?_ ?_
  rotate_left
  ·
   rintro w' ⟨s0, s1⟩
   go_simp
   with_reducible rfl
  rotate_left
  ·
   simp only [Act.put, List.setIfInBounds_toArray, List.set_cons_zero, List.set_cons_succ, i64_w, i32_w]
   rfl
  refine pure_ (i := 3) (N := some 14) (v := ?_) (a' := ?_) #[false, true, true, true, false, false, true, false, false] rfl rfl (by kernel_rfl) (fun _ _ _ h => h) (Or.inl ⟨by rfl, ?_⟩) ?_ ?_
  rotate_left
  ·
   intro w'
   go_simp
   with_reducible rfl
  rotate_left
  ·
   simp only [Act.put, List.setIfInBounds_toArray, List.set_cons_zero, List.set_cons_succ, i64_w, i32_w]
   rfl
  refine pure_ (i := 4) (N := some 15) (v := ?_) (a' := ?_) #[false, true, true, true, true, false, true, false, false] rfl rfl (by kernel_rfl) (fun _ _ _ h => h) (Or.inl ⟨by rfl, ?_⟩) ?_ ?_
  rotate_left
  ·
   intro w'
   go_simp
   with_reducible rfl
  rotate_left
  ·
   simp only [Act.put, List.setIfInBounds_toArray, List.set_cons_zero, List.set_cons_succ, i64_w, i32_w]
   rfl
  refine take_ (i := 7) (N := some 18) (v := ?_) (a' := ?_) #[false, true, true, true, true, false, true, true, false] rfl rfl (by kernel_rfl) (fun _ _ _ h => h) (Or.inl ⟨by rfl, ?_⟩) hHeld ?_ ?_
  rotate_left
  ·
   rintro w' ⟨s0, s1⟩
   go_simp
   with_reducible rfl
  rotate_left
  ·
   simp only [Act.put, List.setIfInBounds_toArray, List.set_cons_zero, List.set_cons_succ, i64_w, i32_w]
   rfl
  refine one_ (i := 0) (N := some 11) #[true, true, true, true, true, false, true, true, false] rfl rfl (by kernel_rfl) (by decide) (fun K hK => ?_)
  refine goes_ Try.func66 (by kernel_rfl) rfl #[.pointer (some ⟨gb, 0, none⟩), .int .u8 4] (by rfl) rfl rfl (by (try simp only [List.map_toArray, List.map_cons, List.map_nil]); first | done | rfl) ?_
  refine (buf_Byte w _ gb [] _ 4 hS.out (by decide) (by decide) (by decide)).mono ?_
  rintro e w3 ⟨rfl, h1⟩
  refine ⟨_, rfl, ?_⟩
  have hS4 := Aside0.mk h1
  clear h1
  refine hK.out _ _ ⟨(hS4.out.pick1.cell 0).trans rfl, (hS4.out.pick1.cell 1).trans rfl⟩ (fun hHeld => ?_)
  clear hK K
  refine norm_ (a' := ?_) ?_ ?_
  rotate_left
  ·
   show Act.put _ (some 11) _ = _
   simp only [Act.put, List.setIfInBounds_toArray, List.set_cons_zero, List.set_cons_succ, i64_w, i32_w]
   rfl
  refine one_ (i := 5) (N := some 16) #[true, true, true, true, true, true, true, true, false] rfl rfl (by kernel_rfl) (by decide) (fun K hK => ?_)
  refine goes_ Try.func92 (by kernel_rfl) rfl #[.pointer (some ⟨gb, 0, none⟩), .int .u32 (l.length : Int)] (by rfl) rfl rfl (by (try simp only [List.map_toArray, List.map_cons, List.map_nil]); first | done | rfl) ?_
  refine (buf_FourT w _ gb _ _ (l.length : Int) hS4.out (by omega) (by have := hlA.out; omega) (by decide)).mono ?_
  rintro e w4 ⟨rfl, h1⟩
  refine ⟨_, rfl, ?_⟩
  have hS5 := Aside0.mk h1
  clear h1
  refine hK.out _ _ ⟨(hS5.out.pick1.cell 0).trans rfl, (hS5.out.pick1.cell 1).trans rfl⟩ (fun hHeld => ?_)
  clear hK K
  refine norm_ (a' := ?_) ?_ ?_
  rotate_left
  ·
   show Act.put _ (some 16) _ = _
   simp only [Act.put, List.setIfInBounds_toArray, List.set_cons_zero, List.set_cons_succ, i64_w, i32_w]
   rfl
  refine one_ (i := 8) (N := some 19) #[true, true, true, true, true, true, true, true, true] rfl rfl (by kernel_rfl) (by decide) (fun K hK => ?_)
  refine goes_ Try.func92 (by kernel_rfl) rfl #[.pointer (some ⟨gb, 0, none⟩), .int .u32 used] (by rfl) rfl rfl (by (try simp only [List.map_toArray, List.map_cons, List.map_nil]); first | done | rfl) ?_
  refine (buf_FourT w _ gb _ _ used hS5.out huA.out.1 huA.out.2 (by rw [List.length_append, nbytes_len]; decide)).mono ?_
  rintro e w5 ⟨rfl, h1⟩
  refine ⟨_, rfl, ?_⟩
  have hS6 := Aside0.mk h1
  clear h1
  refine hK.out _ _ ⟨(hS6.out.pick1.cell 0).trans rfl, (hS6.out.pick1.cell 1).trans rfl⟩ (fun hHeld => ?_)
  clear hK K
  refine norm_ (a' := ?_) ?_ ?_
  rotate_left
  ·
   show Act.put _ (some 19) _ = _
   simp only [Act.put, List.setIfInBounds_toArray, List.set_cons_zero, List.set_cons_succ, i64_w, i32_w]
   rfl
  refine done_ (by kernel_rfl) ?_
  have hc1 : w5.cell? ⟨w.heap.size, 1, none⟩ = some (.slice A l.length c) := (hS6.out.pick1.cell 1).trans rfl
  clear hS hS1 hS3 hS4 hS5 wl wl2
  go_wp2_with (fail)
  refine (table_Put w w5 gb _ A c l _ hS6.out hCA.out (by have := hlA.out; omega) (by simp only [List.length_append, List.length_cons, List.length_nil, nbytes_len]; omega) hoA.out).mono ?_
  rintro e w6 ⟨rfl, h1⟩
  have hc2 : w6.cell? ⟨w.heap.size, 1, none⟩ = some (.slice A l.length c) := (h1.pick1.cell 1).trans rfl
  have hS7 := Aside0.mk h1
  clear h1 hc1 hS6
  go_wp2_with (fail)
  refine (fence_Of A c l (by have := hlA.out; omega) hcA.out w6 (Kd.C_below hCA.out hS7.out.1)).mono ?_
  rintro e w7 ⟨v7, rfl, ho, hb⟩
  obtain ⟨A7, c7, rfl⟩ := Kd.R_slice ho
  have hS8 := Aside0.mk (Sep.row_new hS7.out hb ho).pick1
  clear ho hb hc2 hS7
  go_wp2_with (fail)
  refine (fence_Put w w7 gb _ A7 c7 _ (fencesE l) rfl _ hS8.out (fun W hW => by
   obtain ⟨bs, hR⟩ := hW.row_R
   obtain ⟨A', c', e', hle, hC'⟩ := Kd.R_reads hR
   injection e' with e1 e2 e3
   subst e1
   exact hC') (by rw [fencesE_lenT]; have := hlA.out; unfold chunks; omega) (by simp only [List.length_append, List.length_cons, List.length_nil, nbytes_len, tbytes_len]; have := hlA.out; omega) (fencesE_ok hoA.out)).mono ?_
  rintro e w8 ⟨rfl, h1⟩
  rw [show [] ++ [(4 : Int)] ++ nbytes 4 (l.length : Int) ++ nbytes 4 used ++ tbytes l ++ fbytes (fencesE l) = footb used l from rfl] at h1
  have hS9 := Aside0.mk h1
  clear h1 hS8
  have hbl := Aside0.mk (footb_len used l hlA.out)
  have hbb := Aside0.mk (footb_bytes used l)
  go_wp2_with (fail)
  refine (buf_Bytes w _ gb _ _ hS9.out (by have := hbl.out; omega)).mono ?_
  rintro e w9 ⟨v9, rfl, h1⟩
  obtain ⟨bs9, hR9⟩ := h1.row_R
  obtain ⟨A9, c9, rfl⟩ := Kd.R_slice hR9
  have hr9 := Aside0.mk (Kd.R_reads' hR9)
  have hS10 := Aside0.mk h1
  clear h1 hR9
  go_wp2_with (fail)
  refine (frame_seal _ A9 c9 _ (footb used l) rfl hr9.out.2.2 hr9.out.2.1 hbb.out (by have := hbl.out; omega)).mono ?_
  rintro e w10 ⟨v10, rfl, ho10, hb10⟩
  have hS11 := Aside0.mk (Sep.row_new hS10.out hb10 ho10)
  clear ho10 hb10
  go_wp2_with (fail)
  go_ret2
  obtain ⟨h1, h2⟩ := hS11.out.row_out
  exact ⟨_, rfl, h1, h2⟩
 ·
  rw [if_neg hE0]
  have e1 : (E != 0) = true := bne_iff_ne.2 hE0
  have e2 : decide (E = 0) = false := decide_eq_false hE0
  have e3 : (E == 0) = false := beq_eq_false_iff_ne.2 hE0
  go_enter Try.func38, Try.ntmps38
  go_wp2_with (fail)
  refine (hck.out _ hS.out.1).mono ?_
  rintro e w1 ⟨rfl, hb⟩
  have hS1 := Aside0.mk (hS.out.below hb)
  clear hb hc0 hc1 hS
  go_wp2_with (fail)
  go_ret2
  exact ⟨_, rfl, Kd.R_nil _ _ _ _ _, hS1.out.1⟩
end Go.Proofs.Ytekanmieppnpeaa.Tb
end
section
namespace Go.Proofs.Ytekanmieppnpeaa.G
open Go Go.RowKit Go.Proofs.YtekanmieppnpeaaW.PrintWords Go.Proofs.YtekanmieppnpeaaW.PrintLast Go.Proofs.YtekanmieppnpeaaW.PrintMore Go.Proofs.Ytekanmieppnpeaa.PureKit Go.Proofs.Ytekanmieppnpeaa.Sep Go.Proofs.Ytekanmieppnpeaa.LCobs Go.Proofs.Ytekanmieppnpeaa.Tb Go.Proofs.Ytekanmieppnpeaa.Fe
instance (x : E1) : Decidable (OkE x) := by unfold OkE; infer_instance
def okAll (l : List E1) : Bool := l.all fun x => decide (OkE x)
theorem okAll_iff (l : List E1) : okAll l = true ↔ ∀ x ∈ l, OkE x := by
 unfold okAll
 rw [List.all_eq_true]
 exact ⟨fun h x hx => of_decide_eq_true (h x hx), fun h x hx => decide_eq_true (h x hx)⟩
def putfoot (u : Int) (l : List E1) : List Int := if checkF u l = 0 then sealed (footb u l) ++ [0] else []
def footer_Put.f (a0_0 : Int) (l0_1 : List (S33)) : Option (List Int × Int) := if l0_1.length ≤ 1000 ∧ okAll l0_1 = true ∧ 0 ≤ a0_0 ∧ a0_0 ≤ 4294967295 then some (putfoot a0_0 l0_1, checkF a0_0 l0_1) else none
theorem footer_Put.calls (a0_0 : Int) (A0_1 : Option Addr) (c0_1 : Nat) (l0_1 : List (S33)) (r1 : List Int) (r2 : Int) (w : World) (hr0_1 : Kd.C k33 w A0_1 l0_1.length l0_1) (hc0_1 : l0_1.length ≤ c0_1) (h : footer_Put.f a0_0 l0_1 = some (r1, r2)) :
  Calls Try.prog 38 #[.agg #[.int .u32 a0_0, .slice A0_1 l0_1.length c0_1]] w fun e w' => ∃ v0_ : Value, e = .returned (.tuple #[v0_, .int .i64 r2]) ∧ Kd.R (Kd.int .u8) 5 w' w.heap.size (fun _ => True) v0_ r1 ∧ Below w.heap.size w w' := by
 unfold footer_Put.f at h
 split at h
 ·
  rename_i hh
  cases h
  exact foot_put w A0_1 c0_1 a0_0 l0_1 hr0_1 hc0_1 hh.1 ((okAll_iff _).1 hh.2.1) hh.2.2.1 hh.2.2.2
 ·
  cases h
end Go.Proofs.Ytekanmieppnpeaa.G
end
section
namespace Go.Proofs.Ytekanmieppnpeaa.G
open Go.RowKit Go.Proofs.YtekanmieppnpeaaW.PrintWords Go.Proofs.YtekanmieppnpeaaW.PrintLast Go.Proofs.YtekanmieppnpeaaW.PrintMore
attribute [local go_sem] max2_int min2_int max_two min_two max_three min_three max_four min_four   -- for this text's walks alone
mutual
def fasciclelaw13_FooterPuts.j0 : Nat → Bool → Int → List (S33) → Option (Bool)
 | 0, _, _, _ => none
 | k + 1, x14, x292000, x292001 => if x14 = true then ((fasciclelaw13_lives.f).bind fun t293 => (some t293)) else ((footer_Put.f x292000 x292001).bind fun bt294 => ((fasciclelaw13_ref.f k x292000 x292001).bind fun bt298 => ((fascicleref13_Check.f k bt298.1 bt298.2).bind fun t302 => (if bt294.2 = t302 then ((footer_Check.f x292000 x292001).bind fun t303 => (fasciclelaw13_FooterPuts.j1 k bt294.1 bt294.2 (t303 != bt294.2) x292000 x292001)) else (fasciclelaw13_FooterPuts.j1 k bt294.1 bt294.2 true x292000 x292001)))))
def fasciclelaw13_FooterPuts.j1 : Nat → List Int → Int → Bool → Int → List (S33) → Option (Bool)
 | 0, _, _, _, _, _ => none
 | k + 1, x3, x4, x31, x292000, x292001 => if x31 = true then (some false) else (if x4 = 0 then (if 0 ≤ (mx 0 (wrap64 ((x3.length : Int) - 1))) then (if (mx 0 (wrap64 ((x3.length : Int) - 1))) ≤ (x3.length : Int) then ((footer_Get.f (x3.take ((mx 0 (wrap64 ((x3.length : Int) - 1))) : Int).toNat)).bind fun bt308 => ((fasciclelaw13_ref.f k x292000 x292001).bind fun bt314 => ((fascicleref13_Text.f k bt314.1 bt314.2).bind fun t318 => (if (strOfNums x3).toList = t318.toList then ((footer_Most.f (x292001.length : Int)).bind fun t319 => (if (x3.length : Int) ≤ t319 then (if bt308.2.2 = 0 then ((fasciclelaw13_ref.f k x292000 x292001).bind fun bt320 => ((fasciclelaw13_same.f k bt308.1 bt308.2.1 bt320.1 bt320.2).bind fun t324 => (some t324))) else (some false)) else (some false))) else (some false))))) else (none)) else (none)) else (some ((x3.length : Int) == 0)))
end
def fasciclelaw13_FooterPuts.f (k : Nat) (a0_0 : Int) (l0_1 : List (S33)) : Option (Bool) := (fasciclelaw13_lives.f).bind fun t292 => (if t292 = true then (fasciclelaw13_FooterPuts.j0 k (decide ((l0_1.length : Int) > 100)) a0_0 l0_1) else (fasciclelaw13_FooterPuts.j0 k true a0_0 l0_1))
theorem fasciclelaw13_FooterPuts.mono_l : ∀ k, (∀ y0 y1 y2, LeO (fasciclelaw13_FooterPuts.j0 k y0 y1 y2) (fasciclelaw13_FooterPuts.j0 (k + 1) y0 y1 y2)) ∧ (∀ y0 y1 y2 y3 y4, LeO (fasciclelaw13_FooterPuts.j1 k y0 y1 y2 y3 y4) (fasciclelaw13_FooterPuts.j1 (k + 1) y0 y1 y2 y3 y4))
 | 0 => ⟨fun _ _ _ r h => by simp [fasciclelaw13_FooterPuts.j0] at h, fun _ _ _ _ _ r h => by simp [fasciclelaw13_FooterPuts.j1] at h⟩
 | k + 1 => by
  obtain ⟨ih0, ih1⟩ := fasciclelaw13_FooterPuts.mono_l k
  refine ⟨?_, ?_⟩
  ·
   intro y0 y1 y2
   unfold fasciclelaw13_FooterPuts.j0
   repeat' first
   | (with_reducible exact ih0 _ _ _)
   | (with_reducible exact ih1 _ _ _ _ _)
   | (with_reducible exact fasciclelaw13_ref.mono _ _ _)
   | (with_reducible exact fasciclelaw13_same.mono _ _ _ _ _)
   | (with_reducible exact fascicleref13_Check.mono _ _ _)
   | (with_reducible exact fascicleref13_Text.mono _ _ _)
   | (with_reducible exact LeO.refl _)
   | (with_reducible exact LeO.none _)
   | (with_reducible refine LeO.ite ?_ ?_)
   | (with_reducible refine LeO.bind ?_ (fun _ => ?_))
   | exact ih0 _ _ _
   | exact ih1 _ _ _ _ _
   | exact fasciclelaw13_ref.mono _ _ _
   | exact fasciclelaw13_same.mono _ _ _ _ _
   | exact fascicleref13_Check.mono _ _ _
   | exact fascicleref13_Text.mono _ _ _
   | exact LeO.none _
   | refine LeO.ite ?_ ?_
   | refine LeO.bind ?_ (fun _ => ?_)
  ·
   intro y0 y1 y2 y3 y4
   unfold fasciclelaw13_FooterPuts.j1
   repeat' first
   | (with_reducible exact ih0 _ _ _)
   | (with_reducible exact ih1 _ _ _ _ _)
   | (with_reducible exact fasciclelaw13_ref.mono _ _ _)
   | (with_reducible exact fasciclelaw13_same.mono _ _ _ _ _)
   | (with_reducible exact fascicleref13_Check.mono _ _ _)
   | (with_reducible exact fascicleref13_Text.mono _ _ _)
   | (with_reducible exact LeO.refl _)
   | (with_reducible exact LeO.none _)
   | (with_reducible refine LeO.ite ?_ ?_)
   | (with_reducible refine LeO.bind ?_ (fun _ => ?_))
   | exact ih0 _ _ _
   | exact ih1 _ _ _ _ _
   | exact fasciclelaw13_ref.mono _ _ _
   | exact fasciclelaw13_same.mono _ _ _ _ _
   | exact fascicleref13_Check.mono _ _ _
   | exact fascicleref13_Text.mono _ _ _
   | exact LeO.none _
   | refine LeO.ite ?_ ?_
   | refine LeO.bind ?_ (fun _ => ?_)
theorem fasciclelaw13_FooterPuts.mono : ∀ a0 a1 k, LeO (fasciclelaw13_FooterPuts.f k a0 a1) (fasciclelaw13_FooterPuts.f (k + 1) a0 a1) := by
 intro a0 a1 k
 obtain ⟨ih0, ih1⟩ := fasciclelaw13_FooterPuts.mono_l k
 unfold fasciclelaw13_FooterPuts.f
 repeat' first
   | (with_reducible exact ih0 _ _ _)
   | (with_reducible exact ih1 _ _ _ _ _)
   | (with_reducible exact fasciclelaw13_ref.mono _ _ _)
   | (with_reducible exact fasciclelaw13_same.mono _ _ _ _ _)
   | (with_reducible exact fascicleref13_Check.mono _ _ _)
   | (with_reducible exact fascicleref13_Text.mono _ _ _)
   | (with_reducible exact LeO.refl _)
   | (with_reducible exact LeO.none _)
   | (with_reducible refine LeO.ite ?_ ?_)
   | (with_reducible refine LeO.bind ?_ (fun _ => ?_))
   | exact ih0 _ _ _
   | exact ih1 _ _ _ _ _
   | exact fasciclelaw13_ref.mono _ _ _
   | exact fasciclelaw13_same.mono _ _ _ _ _
   | exact fascicleref13_Check.mono _ _ _
   | exact fascicleref13_Text.mono _ _ _
   | exact LeO.none _
   | refine LeO.ite ?_ ?_
   | refine LeO.bind ?_ (fun _ => ?_)
def fasciclelaw13_FooterPuts.T9 : Bool × List (List Nat × List Nat) := (true, [([], []), ([0], [0]), ([], []), ([2], [2]), ([3, 3], [3]), ([1, 4], [1, 4]), ([5, 4], [5]), ([6], [6]), ([7, 6], [6, 7]), ([6], [6]), ([9, 6], [6, 9]), ([10, 6], [6, 10]), ([11, 6, 6], [6, 11]), ([8, 12, 6], [6, 8, 12]), ([6, 13], [6, 13]), ([14, 12], [14]), ([15], [15]), ([16, 15], [15, 16]), ([15, 17], [15, 17]), ([18, 15], [18]), ([19], [19]), ([19], [19]), ([21, 19, 19], [19, 21]), ([20, 22, 22, 19], [19, 20, 22]), ([19, 23], [19, 23]), ([24, 23, 0, 1, 2, 3, 4, 5, 6, 7, 8, 9, 10, 11, 12, 13, 14, 15, 16, 17, 18, 19, 20, 21, 22, 23, 24], [24])])
def fasciclelaw13_FooterPuts.B9 : List Nat := [0, 1, 0, 4, 12, 31, 63, 127, 255, 127, 639, 1663, 3711, 8191, 16383, 32767, 65535, 131071, 262143, 524287, 1048575, 1048575, 3145727, 8388607, 16777215, 33554431]
theorem fasciclelaw13_FooterPuts.tab9 : rtab .any (opsOf Try.f11 9) = fasciclelaw13_FooterPuts.T9 := by kernel_rfl
theorem fasciclelaw13_FooterPuts.bits9 : waitsOk fasciclelaw13_FooterPuts.T9.2 fasciclelaw13_FooterPuts.B9 = true := by kernel_rfl
set_option maxHeartbeats 8000000 in
set_option maxRecDepth 100000 in
theorem fasciclelaw13_FooterPuts.calls (k : Nat) (a0_0 : Int) (A0_1 : Option Addr) (c0_1 : Nat) (l0_1 : List (S33)) (r : Bool) (w : World) (hr0_1 : Kd.C k33 w A0_1 l0_1.length l0_1) (hc0_1 : l0_1.length ≤ c0_1) (h : fasciclelaw13_FooterPuts.f k a0_0 l0_1 = some r) :
  Calls Try.prog 11 #[.agg #[.int .u32 a0_0, .slice A0_1 l0_1.length c0_1]] w fun e w' => e = .returned (.bool r) ∧ Below w.heap.size w w' := by
 have hu29 := Try.underlying29
 have HR0_1 := Aside0.mk hr0_1
 have HC0_1 := Aside0.mk hc0_1
 clear hr0_1 hc0_1
 have HB := Aside0.mk (Below.refl w.heap.size w)
 have H : ((fasciclelaw13_lives.f).bind fun t292 => (if t292 = true then (fasciclelaw13_FooterPuts.j0 k (decide ((l0_1.length : Int) > 100)) a0_0 l0_1) else (fasciclelaw13_FooterPuts.j0 k true a0_0 l0_1))) = some r := h
 clear h
 have HC2 := Aside0.mk H
 clear H
 go_enter Try.func11, Try.ntmps11
 go_upto_region 1 with (first | ((with_reducible refine gate_dst (N := 1) rfl ?_); (try (refine gate_guard (by rfl) ?_; dsimp only)); refine box_event ?hg (N := 1) ?hd (cs := #[.int .u32 a0_0, .slice A0_1 l0_1.length c0_1]) (t := 29) ?hr ?_; (case hd => rfl); (case hg => rfl); (case hr => first | (go_simp; done) | (go_simp; rfl)); intro gb291 hg w3 hbox hb; have n0_ := Aside0.mk (below_step (by repeat with_reducible first | exact HB.out | apply below_alloc | apply pw_below_drewN | apply below_drew1) hb); have n1_ := Aside0.mk (hbox); have n2_ := Aside0.mk ((by rw [hg]; exact (below_size (by repeat with_reducible first | exact HB.out | apply below_alloc | apply pw_below_drewN | apply below_drew1)) : w.heap.size ≤ gb291)); have n3_ := Aside0.mk ((by rw [hg]; exact (below_size (by repeat with_reducible first | exact HB.out | apply below_alloc | apply pw_below_drewN | apply below_drew1)) : w.heap.size ≤ gb291)); clear HB; have HB := n0_; have BK291 := n1_; have GW291 := n2_; have GE291 := n3_; clear n0_ n1_ n2_ n3_; clear hb hbox hg))
 (try simp only [Act.put, List.setIfInBounds_toArray, List.set_cons_zero, List.set_cons_succ])
 go_cut [14] (fun v14 wc => ∃ (kq : Nat) (x14_1 : Bool), v14 = .bool x14_1 ∧ Aside0 (fasciclelaw13_FooterPuts.j0 kq x14_1 a0_0 l0_1 = some r) ∧ Aside0 (kq ≤ k) ∧ Aside0 (wc.heap[gb291]? = some (.cells #[.int .u32 a0_0, (.slice A0_1 l0_1.length c0_1)] 29 (0, 0))) ∧ Aside0 (Below w.heap.size w wc))
 case first =>
  have H := HC2.out
  clear HC2
  replace H := Option.bind_eq_some_iff.mp H
  obtain ⟨t292, A40, H⟩ := H
  replace H : (if t292 = true then (fasciclelaw13_FooterPuts.j0 k (decide ((l0_1.length : Int) > 100)) a0_0 l0_1) else (fasciclelaw13_FooterPuts.j0 k true a0_0 l0_1)) = some r := H
  have A4 := Aside0.mk A40
  clear A40
  by_cases c5 : t292 = true
  ·
   subst c5
   have H1 : (fasciclelaw13_FooterPuts.j0 k (decide ((l0_1.length : Int) > 100)) a0_0 l0_1) = some r := by rw [if_pos rfl] at H; exact H
   clear H
   have H := H1
   clear H1
   have H' := Aside0.mk H
   clear H
   go_wp2_with (first | ((with_reducible refine gate_callee (f := 13) rfl ?_); refine goesL_ (some 7) rfl rfl Try.func13 (by kernel_rfl) rfl #[] rfl (by (try simp only [List.map_toArray, List.map_cons, List.map_nil]); first | done | rfl) ?_; (with_reducible refine (fasciclelaw13_lives.calls  true _ A4.out).mono ?_); rintro e w6 ⟨rfl, hb⟩; refine ⟨_, rfl, ?_⟩; replace BK291 := Aside0.mk (blk_below (g := gb291) (o := .cells #[.int .u32 a0_0, .slice A0_1 l0_1.length c0_1] 29 (0, 0)) (by (with_reducible repeat (first | refine blk_drewN ?_ _ | refine blk_drew ?_ | refine blk_alloc ?_ _)); exact BK291.out) hb); replace HB := Aside0.mk (below_step (by repeat with_reducible first | exact HB.out | apply below_alloc | apply pw_below_drewN | apply below_drew1 | refine below_set ?_ GE291.out) hb); (try clear hb); have hcz7_0 : w6.cell? ⟨gb291, 0, none⟩ = some (.int .u32 a0_0) := (blk_cell BK291.out 0).trans rfl; have hcz7_1 : w6.cell? ⟨gb291, 1, none⟩ = some (.slice A0_1 l0_1.length c0_1) := (blk_cell BK291.out 1).trans rfl; have hfz7_0 := blk_frozen BK291.out 0; have hfz7_1 := blk_frozen BK291.out 1))
   go_meet
   case rel => exact ⟨_, (decide ((l0_1.length : Int) > 100)), (by first | rfl | (simp; done) | (simp [*]; done) | (simp; exact (fun l : List UInt8 => (by cases l <;> rfl : l.isEmpty = !(l != ([] : List UInt8)))) _)), H', ⟨by first | omega | exact Nat.le_refl _⟩, ⟨by (with_reducible repeat (first | refine blk_drewN ?_ _ | refine blk_drew ?_ | refine blk_alloc ?_ _)); exact BK291.out⟩, ⟨by repeat (first | (with_reducible first | exact HB.out | apply below_alloc | apply pw_below_drewN | apply below_drew1 | refine below_set ?_ GE291.out) | exact HB.out)⟩⟩
  ·
   replace c5 := Bool.eq_false_iff.mpr c5
   subst c5
   have H1 : (fasciclelaw13_FooterPuts.j0 k true a0_0 l0_1) = some r := by rw [if_neg (show ¬ (false = true) by decide)] at H; exact H
   clear H
   have H := H1
   clear H1
   have H' := Aside0.mk H
   clear H
   go_wp2_with (first | ((with_reducible refine gate_callee (f := 13) rfl ?_); refine goesL_ (some 7) rfl rfl Try.func13 (by kernel_rfl) rfl #[] rfl (by (try simp only [List.map_toArray, List.map_cons, List.map_nil]); first | done | rfl) ?_; (with_reducible refine (fasciclelaw13_lives.calls  false _ A4.out).mono ?_); rintro e w8 ⟨rfl, hb⟩; refine ⟨_, rfl, ?_⟩; replace BK291 := Aside0.mk (blk_below (g := gb291) (o := .cells #[.int .u32 a0_0, .slice A0_1 l0_1.length c0_1] 29 (0, 0)) (by (with_reducible repeat (first | refine blk_drewN ?_ _ | refine blk_drew ?_ | refine blk_alloc ?_ _)); exact BK291.out) hb); replace HB := Aside0.mk (below_step (by repeat with_reducible first | exact HB.out | apply below_alloc | apply pw_below_drewN | apply below_drew1 | refine below_set ?_ GE291.out) hb); (try clear hb)))
   go_meet
   case rel => exact ⟨_, (true), (by first | rfl | (simp; done) | (simp [*]; done) | (simp; exact (fun l : List UInt8 => (by cases l <;> rfl : l.isEmpty = !(l != ([] : List UInt8)))) _)), H', ⟨by first | omega | exact Nat.le_refl _⟩, ⟨by (with_reducible repeat (first | refine blk_drewN ?_ _ | refine blk_drew ?_ | refine blk_alloc ?_ _)); exact BK291.out⟩, ⟨by repeat (first | (with_reducible first | exact HB.out | apply below_alloc | apply pw_below_drewN | apply below_drew1 | refine below_set ?_ GE291.out) | exact HB.out)⟩⟩
 case rest =>
  clear HC2
  try clear c1
  try clear p2
  try clear c5
  try clear hcz7_0
  try clear hcz7_1
  try clear hfz7_0
  try clear hfz7_1
  obtain ⟨kq, x14_1, rfl, HA, HJ1, BK291, HB⟩ := hcut
  cases kq with
  | zero => exact absurd HA.out (by simp [fasciclelaw13_FooterPuts.j0])
  | succ kj1 =>
   have H := HA.out
   clear HA
   simp only [fasciclelaw13_FooterPuts.j0] at H
   by_cases c9 : x14_1 = true
   ·
    subst c9
    have H1 : ((fasciclelaw13_lives.f).bind fun t293 => (some t293)) = some r := by rw [if_pos rfl] at H; exact H
    clear H
    have H := H1
    clear H1
    replace H := Option.bind_eq_some_iff.mp H
    obtain ⟨t293, A100, H⟩ := H
    replace H : (some t293) = some r := H
    have A10 := Aside0.mk A100
    clear A100
    obtain rfl := Option.some.inj H
    go_wp2_with (first | ((with_reducible refine gate_callee (f := 13) rfl ?_); refine goesL_ (some 15) rfl rfl Try.func13 (by kernel_rfl) rfl #[] rfl (by (try simp only [List.map_toArray, List.map_cons, List.map_nil]); first | done | rfl) ?_; (with_reducible refine (fasciclelaw13_lives.calls  t293 _ A10.out).mono ?_); rintro e w11 ⟨rfl, hb⟩; refine ⟨_, rfl, ?_⟩; replace BK291 := Aside0.mk (blk_below (g := gb291) (o := .cells #[.int .u32 a0_0, .slice A0_1 l0_1.length c0_1] 29 (0, 0)) (by (with_reducible repeat (first | refine blk_drewN ?_ _ | refine blk_drew ?_ | refine blk_alloc ?_ _)); exact BK291.out) hb); replace HB := Aside0.mk (below_step (by repeat with_reducible first | exact HB.out | apply below_alloc | apply pw_below_drewN | apply below_drew1 | refine below_set ?_ GE291.out) hb); (try clear hb)))
    go_ret
    exact ⟨by first | rfl | (simp [errW_none, errW_some] <;> rfl) | (simp [*, errW_none, errW_some] <;> rfl), by repeat (first | (with_reducible first | exact HB.out | apply below_alloc | apply pw_below_drewN | apply below_drew1 | refine below_set ?_ GE291.out) | exact HB.out)⟩
   ·
    replace c9 := Bool.eq_false_iff.mpr c9
    subst c9
    have H1 : ((footer_Put.f a0_0 l0_1).bind fun bt294 => ((fasciclelaw13_ref.f kj1 a0_0 l0_1).bind fun bt298 => ((fascicleref13_Check.f kj1 bt298.1 bt298.2).bind fun t302 => (if bt294.2 = t302 then ((footer_Check.f a0_0 l0_1).bind fun t303 => (fasciclelaw13_FooterPuts.j1 kj1 bt294.1 bt294.2 (t303 != bt294.2) a0_0 l0_1)) else (fasciclelaw13_FooterPuts.j1 kj1 bt294.1 bt294.2 true a0_0 l0_1))))) = some r := by rw [if_neg (show ¬ (false = true) by decide)] at H; exact H
    clear H
    have H := H1
    clear H1
    replace H := Option.bind_eq_some_iff.mp H
    obtain ⟨⟨t294, t297⟩, A120, H⟩ := H
    replace H : ((fasciclelaw13_ref.f kj1 a0_0 l0_1).bind fun bt298 => ((fascicleref13_Check.f kj1 bt298.1 bt298.2).bind fun t302 => (if t297 = t302 then ((footer_Check.f a0_0 l0_1).bind fun t303 => (fasciclelaw13_FooterPuts.j1 kj1 t294 t297 (t303 != t297) a0_0 l0_1)) else (fasciclelaw13_FooterPuts.j1 kj1 t294 t297 true a0_0 l0_1)))) = some r := H
    have A12 := Aside0.mk A120
    clear A120
    have HC13 := Aside0.mk H
    clear H
    have hcz14_0 : wc.cell? ⟨gb291, 0, none⟩ = some (.int .u32 a0_0) := (blk_cell BK291.out 0).trans rfl
    have hcz14_1 : wc.cell? ⟨gb291, 1, none⟩ = some (.slice A0_1 l0_1.length c0_1) := (blk_cell BK291.out 1).trans rfl
    have hfz14_0 := blk_frozen BK291.out 0
    have hfz14_1 := blk_frozen BK291.out 1
    go_upto_region 4 with (first | ((with_reducible refine gate_callee (f := 38) rfl ?_); refine goesL_ (some 18) rfl rfl Try.func38 (by kernel_rfl) rfl #[.agg #[.int .u32 a0_0, .slice A0_1 l0_1.length c0_1]] rfl (by (try simp only [List.map_toArray, List.map_cons, List.map_nil]); first | done | rfl) ?_; (with_reducible refine (footer_Put.calls a0_0 _ _ l0_1 t294 t297 _ ?side1 ?side2 A12.out).mono ?_); (case side1 => repeat (first | exact (Kd.C_below HR0_1.out HB.out) | (with_reducible refine Kd.C_alloc ?_ _) | (with_reducible refine Kd.C_drewN ?_ _) | (with_reducible refine Kd.C_drew ?_))); (case side2 => exact HC0_1.out); rintro e w15 ⟨v295, rfl, ho0, hb⟩; refine ⟨_, rfl, ?_⟩; have HO296 := Aside0.mk (Kd.R_lower ho0 (below_size (by repeat with_reducible first | exact HB.out | apply below_alloc | apply pw_below_drewN | apply below_drew1 | refine below_set ?_ GE291.out))); replace BK291 := Aside0.mk (blk_below (g := gb291) (o := .cells #[.int .u32 a0_0, .slice A0_1 l0_1.length c0_1] 29 (0, 0)) (by (with_reducible repeat (first | refine blk_drewN ?_ _ | refine blk_drew ?_ | refine blk_alloc ?_ _)); exact BK291.out) hb); replace HB := Aside0.mk (below_step (by repeat with_reducible first | exact HB.out | apply below_alloc | apply pw_below_drewN | apply below_drew1 | refine below_set ?_ GE291.out) hb); (try clear hb); (try clear ho0)))
    (try simp only [Act.put, List.setIfInBounds_toArray, List.set_cons_zero, List.set_cons_succ])
    go_cut [31] (fun v31 wc => ∃ (kq : Nat) (x31_12 : Bool), v31 = .bool x31_12 ∧ Aside0 (fasciclelaw13_FooterPuts.j1 kq t294 t297 x31_12 a0_0 l0_1 = some r) ∧ Aside0 (kq ≤ kj1) ∧ Aside0 (Kd.R (Kd.int .u8) 5 wc w.heap.size (fun _ => True) v295 t294) ∧ Aside0 (wc.heap[gb291]? = some (.cells #[.int .u32 a0_0, (.slice A0_1 l0_1.length c0_1)] 29 (0, 0))) ∧ Aside0 (Below w.heap.size w wc))
    case first =>
     have H := HC13.out
     clear HC13
     replace H := Option.bind_eq_some_iff.mp H
     obtain ⟨⟨t298, t299⟩, A160, H⟩ := H
     replace H : ((fascicleref13_Check.f kj1 t298 t299).bind fun t302 => (if t297 = t302 then ((footer_Check.f a0_0 l0_1).bind fun t303 => (fasciclelaw13_FooterPuts.j1 kj1 t294 t297 (t303 != t297) a0_0 l0_1)) else (fasciclelaw13_FooterPuts.j1 kj1 t294 t297 true a0_0 l0_1))) = some r := H
     have A16 := Aside0.mk A160
     clear A160
     replace H := Option.bind_eq_some_iff.mp H
     obtain ⟨t302, A170, H⟩ := H
     replace H : (if t297 = t302 then ((footer_Check.f a0_0 l0_1).bind fun t303 => (fasciclelaw13_FooterPuts.j1 kj1 t294 t297 (t303 != t297) a0_0 l0_1)) else (fasciclelaw13_FooterPuts.j1 kj1 t294 t297 true a0_0 l0_1)) = some r := H
     have A17 := Aside0.mk A170
     clear A170
     by_cases c18 : t297 = t302
     ·
      rw [if_pos c18] at H
      have c18b0 : (t297 == t302) = true := beq_iff_eq.mpr c18
      have c18b1 : (t297 != t302) = false := bne_eq_false_iff_eq.mpr c18
      clear c18
      (first | rw [c18b0] | (simp only [i64_w, i32_w]; rw [c18b0]) | skip)
      replace H := Option.bind_eq_some_iff.mp H
      obtain ⟨t303, A190, H⟩ := H
      replace H : (fasciclelaw13_FooterPuts.j1 kj1 t294 t297 (t303 != t297) a0_0 l0_1) = some r := H
      have A19 := Aside0.mk A190
      clear A190
      have H' := Aside0.mk H
      clear H
      have hcz20_0 : w15.cell? ⟨gb291, 0, none⟩ = some (.int .u32 a0_0) := (blk_cell BK291.out 0).trans rfl
      have hcz20_1 : w15.cell? ⟨gb291, 1, none⟩ = some (.slice A0_1 l0_1.length c0_1) := (blk_cell BK291.out 1).trans rfl
      have hfz20_0 := blk_frozen BK291.out 0
      have hfz20_1 := blk_frozen BK291.out 1
      go_wp2_with (first | ((with_reducible refine gate_callee (f := 40) rfl ?_); refine goesL_ (some 23) rfl rfl Try.func40 (by kernel_rfl) rfl #[.agg #[.int .u32 a0_0, .slice A0_1 l0_1.length c0_1]] rfl (by (try simp only [List.map_toArray, List.map_cons, List.map_nil]); first | done | rfl) ?_; (with_reducible refine (fasciclelaw13_ref.calls kj1 a0_0 _ _ l0_1 t298 t299 _ ?side1 ?side2 A16.out).mono ?_); (case side1 => repeat (first | exact (Kd.C_below HR0_1.out HB.out) | (with_reducible refine Kd.C_alloc ?_ _) | (with_reducible refine Kd.C_drewN ?_ _) | (with_reducible refine Kd.C_drew ?_))); (case side2 => exact HC0_1.out); rintro e w21 ⟨v300, rfl, ho0, hb⟩; refine ⟨_, rfl, ?_⟩; replace HO296 := Aside0.mk (Kd.R_below (by (with_reducible repeat (first | apply Kd.R_alloc | apply Kd.R_drewN | apply Kd.R_drew)); exact HO296.out) hb); have HO301 := Aside0.mk (Kd.R_lower ho0 (below_size (by repeat with_reducible first | exact HB.out | apply below_alloc | apply pw_below_drewN | apply below_drew1 | refine below_set ?_ GE291.out))); replace BK291 := Aside0.mk (blk_below (g := gb291) (o := .cells #[.int .u32 a0_0, .slice A0_1 l0_1.length c0_1] 29 (0, 0)) (by (with_reducible repeat (first | refine blk_drewN ?_ _ | refine blk_drew ?_ | refine blk_alloc ?_ _)); exact BK291.out) hb); replace HB := Aside0.mk (below_step (by repeat with_reducible first | exact HB.out | apply below_alloc | apply pw_below_drewN | apply below_drew1 | refine below_set ?_ GE291.out) hb); (try clear hb); (try clear ho0); obtain ⟨Ao22, co22, eo22⟩ := Kd.R_slice HO301.out; subst eo22) | ((with_reducible refine gate_callee (f := 39) rfl ?_); refine goesL_ (some 24) rfl rfl Try.func39 (by kernel_rfl) rfl #[.agg #[.int .u32 t298, .slice Ao22 t299.length co22]] rfl (by (try simp only [List.map_toArray, List.map_cons, List.map_nil]); first | done | rfl) ?_; (with_reducible refine (fascicleref13_Check.calls kj1 t298 _ _ t299 t302 _ ?side1 ?side2 A17.out).mono ?_); (case side1 => repeat (first | exact (Kd.R_reads' HO301.out).2.2 | (with_reducible refine Kd.C_alloc ?_ _) | (with_reducible refine Kd.C_drewN ?_ _) | (with_reducible refine Kd.C_drew ?_))); (case side2 => exact (Kd.R_reads' HO301.out).2.1); rintro e w23 ⟨rfl, hb⟩; refine ⟨_, rfl, ?_⟩; replace HO296 := Aside0.mk (Kd.R_below (by (with_reducible repeat (first | apply Kd.R_alloc | apply Kd.R_drewN | apply Kd.R_drew)); exact HO296.out) hb); replace HO301 := Aside0.mk (Kd.R_below (by (with_reducible repeat (first | apply Kd.R_alloc | apply Kd.R_drewN | apply Kd.R_drew)); exact HO301.out) hb); replace BK291 := Aside0.mk (blk_below (g := gb291) (o := .cells #[.int .u32 a0_0, .slice A0_1 l0_1.length c0_1] 29 (0, 0)) (by (with_reducible repeat (first | refine blk_drewN ?_ _ | refine blk_drew ?_ | refine blk_alloc ?_ _)); exact BK291.out) hb); replace HB := Aside0.mk (below_step (by repeat with_reducible first | exact HB.out | apply below_alloc | apply pw_below_drewN | apply below_drew1 | refine below_set ?_ GE291.out) hb); (try clear hb); have hcz24_0 : w23.cell? ⟨gb291, 0, none⟩ = some (.int .u32 a0_0) := (blk_cell BK291.out 0).trans rfl; have hcz24_1 : w23.cell? ⟨gb291, 1, none⟩ = some (.slice A0_1 l0_1.length c0_1) := (blk_cell BK291.out 1).trans rfl; have hfz24_0 := blk_frozen BK291.out 0; have hfz24_1 := blk_frozen BK291.out 1) | (go_at_call 17; (with_reducible refine (footer_Check.calls a0_0 _ _ l0_1 t303 _ ?side1 ?side2 A19.out).mono ?_); (case side1 => repeat (first | exact (Kd.C_below HR0_1.out HB.out) | (with_reducible refine Kd.C_alloc ?_ _) | (with_reducible refine Kd.C_drewN ?_ _) | (with_reducible refine Kd.C_drew ?_))); (case side2 => exact HC0_1.out); rintro e w25 ⟨rfl, hb⟩; replace HO296 := Aside0.mk (Kd.R_below (by (with_reducible repeat (first | apply Kd.R_alloc | apply Kd.R_drewN | apply Kd.R_drew)); exact HO296.out) hb); replace HO301 := Aside0.mk (Kd.R_below (by (with_reducible repeat (first | apply Kd.R_alloc | apply Kd.R_drewN | apply Kd.R_drew)); exact HO301.out) hb); replace BK291 := Aside0.mk (blk_below (g := gb291) (o := .cells #[.int .u32 a0_0, .slice A0_1 l0_1.length c0_1] 29 (0, 0)) (by (with_reducible repeat (first | refine blk_drewN ?_ _ | refine blk_drew ?_ | refine blk_alloc ?_ _)); exact BK291.out) hb); replace HB := Aside0.mk (below_step (by repeat with_reducible first | exact HB.out | apply below_alloc | apply pw_below_drewN | apply below_drew1 | refine below_set ?_ GE291.out) hb); (try clear hb)))
      go_meet
      case rel => exact ⟨_, ((t303 != t297)), (by first | rfl | (simp; done) | (simp [*]; done) | (simp; exact (fun l : List UInt8 => (by cases l <;> rfl : l.isEmpty = !(l != ([] : List UInt8)))) _)), H', ⟨by have := HJ1.out; first | omega | exact Nat.le_refl _⟩, ⟨by (with_reducible repeat (first | apply Kd.R_alloc | apply Kd.R_drewN | apply Kd.R_drew)); exact HO296.out⟩, ⟨by (with_reducible repeat (first | refine blk_drewN ?_ _ | refine blk_drew ?_ | refine blk_alloc ?_ _)); exact BK291.out⟩, ⟨by repeat (first | (with_reducible first | exact HB.out | apply below_alloc | apply pw_below_drewN | apply below_drew1 | refine below_set ?_ GE291.out) | exact HB.out)⟩⟩
     ·
      rw [if_neg c18] at H
      have c18b0 : (t297 == t302) = false := beq_eq_false_iff_ne.mpr c18
      have c18b1 : (t297 != t302) = true := bne_iff_ne.mpr c18
      (first | rw [c18b0] | (simp only [i64_w, i32_w]; rw [c18b0]) | skip)
      have H' := Aside0.mk H
      clear H
      have hcz26_0 : w15.cell? ⟨gb291, 0, none⟩ = some (.int .u32 a0_0) := (blk_cell BK291.out 0).trans rfl
      have hcz26_1 : w15.cell? ⟨gb291, 1, none⟩ = some (.slice A0_1 l0_1.length c0_1) := (blk_cell BK291.out 1).trans rfl
      have hfz26_0 := blk_frozen BK291.out 0
      have hfz26_1 := blk_frozen BK291.out 1
      go_wp2_with (first | ((with_reducible refine gate_callee (f := 40) rfl ?_); refine goesL_ (some 23) rfl rfl Try.func40 (by kernel_rfl) rfl #[.agg #[.int .u32 a0_0, .slice A0_1 l0_1.length c0_1]] rfl (by (try simp only [List.map_toArray, List.map_cons, List.map_nil]); first | done | rfl) ?_; (with_reducible refine (fasciclelaw13_ref.calls kj1 a0_0 _ _ l0_1 t298 t299 _ ?side1 ?side2 A16.out).mono ?_); (case side1 => repeat (first | exact (Kd.C_below HR0_1.out HB.out) | (with_reducible refine Kd.C_alloc ?_ _) | (with_reducible refine Kd.C_drewN ?_ _) | (with_reducible refine Kd.C_drew ?_))); (case side2 => exact HC0_1.out); rintro e w27 ⟨v300, rfl, ho0, hb⟩; refine ⟨_, rfl, ?_⟩; replace HO296 := Aside0.mk (Kd.R_below (by (with_reducible repeat (first | apply Kd.R_alloc | apply Kd.R_drewN | apply Kd.R_drew)); exact HO296.out) hb); have HO301 := Aside0.mk (Kd.R_lower ho0 (below_size (by repeat with_reducible first | exact HB.out | apply below_alloc | apply pw_below_drewN | apply below_drew1 | refine below_set ?_ GE291.out))); replace BK291 := Aside0.mk (blk_below (g := gb291) (o := .cells #[.int .u32 a0_0, .slice A0_1 l0_1.length c0_1] 29 (0, 0)) (by (with_reducible repeat (first | refine blk_drewN ?_ _ | refine blk_drew ?_ | refine blk_alloc ?_ _)); exact BK291.out) hb); replace HB := Aside0.mk (below_step (by repeat with_reducible first | exact HB.out | apply below_alloc | apply pw_below_drewN | apply below_drew1 | refine below_set ?_ GE291.out) hb); (try clear hb); (try clear ho0); obtain ⟨Ao28, co28, eo28⟩ := Kd.R_slice HO301.out; subst eo28) | ((with_reducible refine gate_callee (f := 39) rfl ?_); refine goesL_ (some 24) rfl rfl Try.func39 (by kernel_rfl) rfl #[.agg #[.int .u32 t298, .slice Ao28 t299.length co28]] rfl (by (try simp only [List.map_toArray, List.map_cons, List.map_nil]); first | done | rfl) ?_; (with_reducible refine (fascicleref13_Check.calls kj1 t298 _ _ t299 t302 _ ?side1 ?side2 A17.out).mono ?_); (case side1 => repeat (first | exact (Kd.R_reads' HO301.out).2.2 | (with_reducible refine Kd.C_alloc ?_ _) | (with_reducible refine Kd.C_drewN ?_ _) | (with_reducible refine Kd.C_drew ?_))); (case side2 => exact (Kd.R_reads' HO301.out).2.1); rintro e w29 ⟨rfl, hb⟩; refine ⟨_, rfl, ?_⟩; replace HO296 := Aside0.mk (Kd.R_below (by (with_reducible repeat (first | apply Kd.R_alloc | apply Kd.R_drewN | apply Kd.R_drew)); exact HO296.out) hb); replace HO301 := Aside0.mk (Kd.R_below (by (with_reducible repeat (first | apply Kd.R_alloc | apply Kd.R_drewN | apply Kd.R_drew)); exact HO301.out) hb); replace BK291 := Aside0.mk (blk_below (g := gb291) (o := .cells #[.int .u32 a0_0, .slice A0_1 l0_1.length c0_1] 29 (0, 0)) (by (with_reducible repeat (first | refine blk_drewN ?_ _ | refine blk_drew ?_ | refine blk_alloc ?_ _)); exact BK291.out) hb); replace HB := Aside0.mk (below_step (by repeat with_reducible first | exact HB.out | apply below_alloc | apply pw_below_drewN | apply below_drew1 | refine below_set ?_ GE291.out) hb); (try clear hb)))
      go_meet
      case rel => exact ⟨_, (true), (by first | rfl | (simp; done) | (simp [*]; done) | (simp; exact (fun l : List UInt8 => (by cases l <;> rfl : l.isEmpty = !(l != ([] : List UInt8)))) _)), H', ⟨by have := HJ1.out; first | omega | exact Nat.le_refl _⟩, ⟨by (with_reducible repeat (first | apply Kd.R_alloc | apply Kd.R_drewN | apply Kd.R_drew)); exact HO296.out⟩, ⟨by (with_reducible repeat (first | refine blk_drewN ?_ _ | refine blk_drew ?_ | refine blk_alloc ?_ _)); exact BK291.out⟩, ⟨by repeat (first | (with_reducible first | exact HB.out | apply below_alloc | apply pw_below_drewN | apply below_drew1 | refine below_set ?_ GE291.out) | exact HB.out)⟩⟩
    case rest =>
     clear HC13
     try clear c1
     try clear p2
     try clear c3
     try clear c4
     try clear c5
     try clear c9
     try clear c11
     try clear c13
     try clear c18
     try clear c18b0
     try clear c18b1
     try clear hcz14_0
     try clear hcz14_1
     try clear hcz20_0
     try clear hcz20_1
     try clear hcz24_0
     try clear hcz24_1
     try clear hcz26_0
     try clear hcz26_1
     try clear hcz7_0
     try clear hcz7_1
     try clear hfz14_0
     try clear hfz14_1
     try clear hfz20_0
     try clear hfz20_1
     try clear hfz24_0
     try clear hfz24_1
     try clear hfz26_0
     try clear hfz26_1
     try clear hfz7_0
     try clear hfz7_1
     try clear p2
     obtain ⟨kq, x31_12, rfl, HA, HJ12, HO_3, BK291, HB⟩ := hcut
     cases kq with
     | zero => exact absurd HA.out (by simp [fasciclelaw13_FooterPuts.j1])
     | succ kj12 =>
      have H := HA.out
      clear HA
      simp only [fasciclelaw13_FooterPuts.j1] at H
      by_cases c30 : x31_12 = true
      ·
       subst c30
       have H1 : (some false) = some r := by rw [if_pos rfl] at H; exact H
       clear H
       have H := H1
       clear H1
       obtain rfl := Option.some.inj H
       go_wp2
       go_ret
       exact ⟨by first | rfl | (simp [errW_none, errW_some] <;> rfl) | (simp [*, errW_none, errW_some] <;> rfl), by repeat (first | (with_reducible first | exact HB.out | apply below_alloc | apply pw_below_drewN | apply below_drew1 | refine below_set ?_ GE291.out) | exact HB.out)⟩
      ·
       replace c30 := Bool.eq_false_iff.mpr c30
       subst c30
       have H1 : (if t297 = 0 then (if 0 ≤ (mx 0 (wrap64 ((t294.length : Int) - 1))) then (if (mx 0 (wrap64 ((t294.length : Int) - 1))) ≤ (t294.length : Int) then ((footer_Get.f (t294.take ((mx 0 (wrap64 ((t294.length : Int) - 1))) : Int).toNat)).bind fun bt308 => ((fasciclelaw13_ref.f kj12 a0_0 l0_1).bind fun bt314 => ((fascicleref13_Text.f kj12 bt314.1 bt314.2).bind fun t318 => (if (strOfNums t294).toList = t318.toList then ((footer_Most.f (l0_1.length : Int)).bind fun t319 => (if (t294.length : Int) ≤ t319 then (if bt308.2.2 = 0 then ((fasciclelaw13_ref.f kj12 a0_0 l0_1).bind fun bt320 => ((fasciclelaw13_same.f kj12 bt308.1 bt308.2.1 bt320.1 bt320.2).bind fun t324 => (some t324))) else (some false)) else (some false))) else (some false))))) else (none)) else (none)) else (some ((t294.length : Int) == 0))) = some r := by rw [if_neg (show ¬ (false = true) by decide)] at H; exact H
       clear H
       have H := H1
       clear H1
       by_cases c31 : t297 = 0
       ·
        rw [if_pos c31] at H
        have c31b0 : (t297 == 0) = true := beq_iff_eq.mpr c31
        have c31b1 : (t297 != 0) = false := bne_eq_false_iff_eq.mpr c31
        clear c31
        obtain ⟨ji32, hji32⟩ : ∃ j_ : Int, (mx 0 (wrap64 ((t294.length : Int) - 1))) = j_ := ⟨_, rfl⟩
        replace H : (if 0 ≤ (ji32) then (if (ji32) ≤ (t294.length : Int) then ((footer_Get.f (t294.take ((ji32) : Int).toNat)).bind fun bt308 => ((fasciclelaw13_ref.f kj12 a0_0 l0_1).bind fun bt314 => ((fascicleref13_Text.f kj12 bt314.1 bt314.2).bind fun t318 => (if (strOfNums t294).toList = t318.toList then ((footer_Most.f (l0_1.length : Int)).bind fun t319 => (if (t294.length : Int) ≤ t319 then (if bt308.2.2 = 0 then ((fasciclelaw13_ref.f kj12 a0_0 l0_1).bind fun bt320 => ((fasciclelaw13_same.f kj12 bt308.1 bt308.2.1 bt320.1 bt320.2).bind fun t324 => (some t324))) else (some false)) else (some false))) else (some false))))) else (none)) else (none)) = some r := by first | (rw [hji32] at H; exact H) | (simp only [hji32] at H ⊢; exact H)
        have hji32_ : (if 0 < (wrap64 ((t294.length : Int) - 1)) then (wrap64 ((t294.length : Int) - 1)) else 0) = ji32 := hji32
        by_cases c33 : 0 ≤ (ji32)
        ·
         rw [if_pos c33] at H
         have c33b0 := eq_true c33
         have c33b1 : decide (0 ≤ (ji32)) = true := decide_eq_true c33
         clear c33
         by_cases c34 : (ji32) ≤ (t294.length : Int)
         ·
          rw [if_pos c34] at H
          have c34b0 := eq_true c34
          have c34b1 : decide ((ji32) ≤ (t294.length : Int)) = true := decide_eq_true c34
          clear c34
          obtain ⟨y304, hy304⟩ : ∃ y_ : List Int, y_ = (t294.take ((ji32) : Int).toNat) := ⟨_, rfl⟩
          replace H : ((footer_Get.f y304).bind fun bt308 => ((fasciclelaw13_ref.f kj12 a0_0 l0_1).bind fun bt314 => ((fascicleref13_Text.f kj12 bt314.1 bt314.2).bind fun t318 => (if (strOfNums t294).toList = t318.toList then ((footer_Most.f (l0_1.length : Int)).bind fun t319 => (if (t294.length : Int) ≤ t319 then (if bt308.2.2 = 0 then ((fasciclelaw13_ref.f kj12 a0_0 l0_1).bind fun bt320 => ((fasciclelaw13_same.f kj12 bt308.1 bt308.2.1 bt320.1 bt320.2).bind fun t324 => (some t324))) else (some false)) else (some false))) else (some false))))) = some r := by first | (rw [hy304]; with_reducible exact H) | (have H2_ := (Option.bind_some _ _).symm.trans H; rw [hy304]; with_reducible exact H2_) | (have H2_ := (Option.bind_some _ _).symm.trans H; with_reducible exact H2_) | with_reducible exact H | (rw [hy304]; exact H) | exact H
          have Ny304 := Aside0.mk hy304
          clear hy304
          replace H := Option.bind_eq_some_iff.mp H
          obtain ⟨⟨t308, t309, t312⟩, A350, H⟩ := H
          replace H : ((fasciclelaw13_ref.f kj12 a0_0 l0_1).bind fun bt314 => ((fascicleref13_Text.f kj12 bt314.1 bt314.2).bind fun t318 => (if (strOfNums t294).toList = t318.toList then ((footer_Most.f (l0_1.length : Int)).bind fun t319 => (if (t294.length : Int) ≤ t319 then (if t312 = 0 then ((fasciclelaw13_ref.f kj12 a0_0 l0_1).bind fun bt320 => ((fasciclelaw13_same.f kj12 t308 t309 bt320.1 bt320.2).bind fun t324 => (some t324))) else (some false)) else (some false))) else (some false)))) = some r := H
          have A35 := Aside0.mk A350
          clear A350
          replace H := Option.bind_eq_some_iff.mp H
          obtain ⟨⟨t314, t315⟩, A360, H⟩ := H
          replace H : ((fascicleref13_Text.f kj12 t314 t315).bind fun t318 => (if (strOfNums t294).toList = t318.toList then ((footer_Most.f (l0_1.length : Int)).bind fun t319 => (if (t294.length : Int) ≤ t319 then (if t312 = 0 then ((fasciclelaw13_ref.f kj12 a0_0 l0_1).bind fun bt320 => ((fasciclelaw13_same.f kj12 t308 t309 bt320.1 bt320.2).bind fun t324 => (some t324))) else (some false)) else (some false))) else (some false))) = some r := H
          have A36 := Aside0.mk A360
          clear A360
          replace H := Option.bind_eq_some_iff.mp H
          obtain ⟨t318, A370, H⟩ := H
          replace H : (if (strOfNums t294).toList = t318.toList then ((footer_Most.f (l0_1.length : Int)).bind fun t319 => (if (t294.length : Int) ≤ t319 then (if t312 = 0 then ((fasciclelaw13_ref.f kj12 a0_0 l0_1).bind fun bt320 => ((fasciclelaw13_same.f kj12 t308 t309 bt320.1 bt320.2).bind fun t324 => (some t324))) else (some false)) else (some false))) else (some false)) = some r := H
          have A37 := Aside0.mk A370
          clear A370
          by_cases c38 : (strOfNums t294).toList = t318.toList
          ·
           rw [if_pos c38] at H
           have c38b0 : ((strOfNums t294).toList == t318.toList) = true := beq_iff_eq.mpr c38
           have c38b1 : ((strOfNums t294).toList != t318.toList) = false := bne_eq_false_iff_eq.mpr c38
           clear c38
           replace H := Option.bind_eq_some_iff.mp H
           obtain ⟨t319, A390, H⟩ := H
           replace H : (if (t294.length : Int) ≤ t319 then (if t312 = 0 then ((fasciclelaw13_ref.f kj12 a0_0 l0_1).bind fun bt320 => ((fasciclelaw13_same.f kj12 t308 t309 bt320.1 bt320.2).bind fun t324 => (some t324))) else (some false)) else (some false)) = some r := H
           have A39 := Aside0.mk A390
           clear A390
           by_cases c40 : (t294.length : Int) ≤ t319
           ·
            rw [if_pos c40] at H
            have c40b0 : decide ((t294.length : Int) ≤ t319) = true := decide_eq_true c40
            clear c40
            by_cases c41 : t312 = 0
            ·
             rw [if_pos c41] at H
             have c41b0 : (t312 == 0) = true := beq_iff_eq.mpr c41
             have c41b1 : (t312 != 0) = false := bne_eq_false_iff_eq.mpr c41
             clear c41
             replace H := Option.bind_eq_some_iff.mp H
             obtain ⟨⟨t320, t321⟩, A420, H⟩ := H
             replace H : ((fasciclelaw13_same.f kj12 t308 t309 t320 t321).bind fun t324 => (some t324)) = some r := H
             have A42 := Aside0.mk A420
             clear A420
             replace H := Option.bind_eq_some_iff.mp H
             obtain ⟨t324, A430, H⟩ := H
             replace H : (some t324) = some r := H
             have A43 := Aside0.mk A430
             clear A430
             obtain rfl := Option.some.inj H
             obtain ⟨Ao44, co44, eo44⟩ := Kd.R_slice HO_3.out
             subst eo44
             have q45 : ((ji32) : Int) ≤ ((t294.length : Int) : Int) := of_decide_eq_true (by first | (with_reducible assumption) | assumption)
             obtain ⟨i045, hi045, _, hsz45, _⟩ := info_parts info5
             have hroom45 : t294.length ≤ co44 := (Kd.R_reads' HO_3.out).2.1
             have hC45 : Kd.C (Kd.int .u8) _ Ao44 t294.length t294 := (Kd.R_reads' HO_3.out).2.2
             have hcut45 := cut_to (P := Try.prog) 39 5 .i64 Try.underlying39 hi045 Ao44 t294.length co44 (ji32) (of_decide_eq_true (by first | (with_reducible assumption) | assumption)) q45 hroom45
             have hr45 := Kd.C_take (m := ((ji32) : Int).toNat) hC45 (by omega)
             have hy45 : y304.length = ((ji32) : Int).toNat := (by rw [Ny304.out, List.length_take]; omega)
             rw [← Ny304.out] at hr45
             rw [← hy45] at hcut45
             have HR307 := Aside0.mk hr45
             have HC307 := Aside0.mk (show y304.length ≤ co44 from by omega)
             clear hr45 hC45 hroom45 hi045 hsz45
             have KY45 := Aside0.mk hy45
             clear hy45
             have KL45 := Aside0.mk (show ((ji32) : Int).toNat ≤ t294.length from by omega)
             replace q45 := eq_true q45
             try go_wp2_with (first | ((with_reducible refine gate_callee (f := 35) rfl ?_); refine goesL_ (some 44) rfl rfl Try.func35 (by kernel_rfl) rfl #[.slice Ao44 y304.length co44] rfl (by (try simp only [List.map_toArray, List.map_cons, List.map_nil]); first | done | rfl) ?_; (with_reducible refine (footer_Get.calls _ _ y304 t308 t309 t312 _ ?side1 ?side2 A35.out).mono ?_); (case side1 => repeat (first | exact (by repeat (first | (with_reducible exact HR307.out) | (with_reducible refine Kd.C_alloc ?_ _) | (with_reducible refine Kd.C_drewN ?_ _) | (with_reducible refine Kd.C_drew ?_) | exact HR307.out)) | (with_reducible refine Kd.C_alloc ?_ _) | (with_reducible refine Kd.C_drewN ?_ _) | (with_reducible refine Kd.C_drew ?_))); (case side2 => exact HC307.out); rintro e w46 ⟨v310, rfl, ho0, hb⟩; refine ⟨_, rfl, ?_⟩; replace HO_3 := Aside0.mk (Kd.R_below (by (with_reducible repeat (first | apply Kd.R_alloc | apply Kd.R_drewN | apply Kd.R_drew)); exact HO_3.out) hb); have HO311 := Aside0.mk (Kd.R_lower ho0 (below_size (by repeat with_reducible first | exact HB.out | apply below_alloc | apply pw_below_drewN | apply below_drew1 | refine below_set ?_ GE291.out))); replace BK291 := Aside0.mk (blk_below (g := gb291) (o := .cells #[.int .u32 a0_0, .slice A0_1 l0_1.length c0_1] 29 (0, 0)) (by (with_reducible repeat (first | refine blk_drewN ?_ _ | refine blk_drew ?_ | refine blk_alloc ?_ _)); exact BK291.out) hb); replace HR307 := Aside0.mk (Kd.C_below (by repeat (first | (with_reducible exact HR307.out) | (with_reducible refine Kd.C_alloc ?_ _) | (with_reducible refine Kd.C_drewN ?_ _) | (with_reducible refine Kd.C_drew ?_) | exact HR307.out)) hb); replace HB := Aside0.mk (below_step (by repeat with_reducible first | exact HB.out | apply below_alloc | apply pw_below_drewN | apply below_drew1 | refine below_set ?_ GE291.out) hb); (try clear hb); (try clear ho0)) | ((with_reducible refine gate_dst (N := 5) rfl ?_); (try (refine gate_guard (by rfl) ?_; dsimp only)); refine box_event ?hg (N := 5) ?hd (cs := #[.int .u32 0, .slice none 0 0]) (t := 29) ?hr ?_; (case hd => rfl); (case hg => rfl); (case hr => first | (go_simp; done) | (go_simp; rfl)); intro gb313 hg w47 hbox hb; have n0_ := Aside0.mk (Kd.R_below (by (with_reducible repeat (first | apply Kd.R_alloc | apply Kd.R_drewN | apply Kd.R_drew)); exact HO_3.out) hb); have n1_ := Aside0.mk (Kd.R_below (by (with_reducible repeat (first | apply Kd.R_alloc | apply Kd.R_drewN | apply Kd.R_drew)); exact HO311.out) hb); have n2_ := Aside0.mk (blk_below (g := gb291) (o := .cells #[.int .u32 a0_0, .slice A0_1 l0_1.length c0_1] 29 (0, 0)) (by (with_reducible repeat (first | refine blk_drewN ?_ _ | refine blk_drew ?_ | refine blk_alloc ?_ _)); exact BK291.out) hb); have n3_ := Aside0.mk (Kd.C_below (by repeat (first | (with_reducible exact HR307.out) | (with_reducible refine Kd.C_alloc ?_ _) | (with_reducible refine Kd.C_drewN ?_ _) | (with_reducible refine Kd.C_drew ?_) | exact HR307.out)) hb); have n4_ := Aside0.mk (below_step (by repeat with_reducible first | exact HB.out | apply below_alloc | apply pw_below_drewN | apply below_drew1 | refine below_set ?_ GE291.out) hb); have n5_ := Aside0.mk (hbox); have n6_ := Aside0.mk ((by rw [hg]; exact (below_size (by repeat with_reducible first | exact HB.out | apply below_alloc | apply pw_below_drewN | apply below_drew1 | refine below_set ?_ GE291.out)) : w.heap.size ≤ gb313)); have n7_ := Aside0.mk ((by rw [hg]; exact (below_size (by repeat with_reducible first | exact HB.out | apply below_alloc | apply pw_below_drewN | apply below_drew1 | refine below_set ?_ GE291.out)) : w.heap.size ≤ gb313)); have n8_ := Aside0.mk ((by rw [hg]; exact Nat.ne_of_lt (blk_lt (g := gb291) (o := .cells #[.int .u32 a0_0, .slice A0_1 l0_1.length c0_1] 29 (0, 0)) (by (with_reducible repeat (first | refine blk_drewN ?_ _ | refine blk_drew ?_ | refine blk_alloc ?_ _)); exact BK291.out)) : gb291 ≠ gb313)); have n9_ := Aside0.mk ((by rw [hg]; exact Nat.ne_of_gt (blk_lt (g := gb291) (o := .cells #[.int .u32 a0_0, .slice A0_1 l0_1.length c0_1] 29 (0, 0)) (by (with_reducible repeat (first | refine blk_drewN ?_ _ | refine blk_drew ?_ | refine blk_alloc ?_ _)); exact BK291.out)) : gb313 ≠ gb291)); clear HO_3; clear HO311; clear BK291; clear HR307; clear HB; have HO_3 := n0_; have HO311 := n1_; have BK291 := n2_; have HR307 := n3_; have HB := n4_; have BK313 := n5_; have GW313 := n6_; have GE313 := n7_; have NB291_313 := n8_; have NB313_291 := n9_; clear n0_ n1_ n2_ n3_ n4_ n5_ n6_ n7_ n8_ n9_; clear hb hbox hg; have hnb48 := NB313_291.out; have hnc48 := NB291_313.out; have hcz49_0 : w47.cell? ⟨gb313, 0, none⟩ = some (.int .u32 0) := (blk_cell BK313.out 0).trans rfl; have hcz49_1 : w47.cell? ⟨gb313, 1, none⟩ = some (.slice none 0 0) := (blk_cell BK313.out 1).trans rfl; have hfz49_0 := blk_frozen BK313.out 0; have hfz49_1 := blk_frozen BK313.out 1; obtain ⟨Ao50, co50, eo50⟩ := Kd.R_slice HO311.out; subst eo50))
             have n0_ : Aside0 (Kd.R (Kd.int .u8) 5 ((w47.setCell ⟨gb313, 0, none⟩ (.int .u32 t308)).setCell ⟨gb313, 1, none⟩ (.slice Ao50 t309.length co50)) w.heap.size (fun _ => True) (.slice Ao44 t294.length co44) t294) := ⟨by (with_reducible repeat (first | apply Kd.R_alloc | apply Kd.R_drewN | apply Kd.R_drew)); exact Kd.R_mono (Kd.R_far (p := ⟨gb313, 1, none⟩) (Kd.R_far (p := ⟨gb313, 0, none⟩) (Kd.R_types HO_3.out BK313.out (by decide)) (fun _ hk => by first | exact hk.2 | exact hk) (.int .u32 t308)) (fun _ hk => by first | exact hk.2 | exact hk) (.slice Ao50 t309.length co50)) (fun _ hk => trivial)⟩
             have n1_ : Aside0 (Kd.R k33 33 ((w47.setCell ⟨gb313, 0, none⟩ (.int .u32 t308)).setCell ⟨gb313, 1, none⟩ (.slice Ao50 t309.length co50)) w.heap.size (fun _ => True) (.slice Ao50 t309.length co50) t309) := ⟨by (with_reducible repeat (first | apply Kd.R_alloc | apply Kd.R_drewN | apply Kd.R_drew)); exact Kd.R_mono (Kd.R_far (p := ⟨gb313, 1, none⟩) (Kd.R_far (p := ⟨gb313, 0, none⟩) (Kd.R_types HO311.out BK313.out (by decide)) (fun _ hk => by first | exact hk.2 | exact hk) (.int .u32 t308)) (fun _ hk => by first | exact hk.2 | exact hk) (.slice Ao50 t309.length co50)) (fun _ hk => trivial)⟩
             have n2_ : Aside0 (((w47.setCell ⟨gb313, 0, none⟩ (.int .u32 t308)).setCell ⟨gb313, 1, none⟩ (.slice Ao50 t309.length co50)).heap[gb291]? = some (.cells #[.int .u32 a0_0, .slice A0_1 l0_1.length c0_1] 29 (0, 0))) := ⟨by (with_reducible repeat (first | refine blk_drewN ?_ _ | refine blk_drew ?_ | refine blk_alloc ?_ _)); refine blk_far ?_ NB291_313.out _; refine blk_far ?_ NB291_313.out _; (with_reducible repeat (first | refine blk_drewN ?_ _ | refine blk_drew ?_ | refine blk_alloc ?_ _)); exact BK291.out⟩
             have n3_ : Aside0 (((w47.setCell ⟨gb313, 0, none⟩ (.int .u32 t308)).setCell ⟨gb313, 1, none⟩ (.slice Ao50 t309.length co50)).heap[gb313]? = some (.cells #[.int .u32 t308, .slice Ao50 t309.length co50] 29 (0, 0))) := ⟨by (with_reducible repeat (first | refine blk_drewN ?_ _ | refine blk_drew ?_ | refine blk_alloc ?_ _)); refine blk_put (cs := #[.int .u32 t308, .slice none 0 0]) ?_ 1 _ rfl; refine blk_put (cs := #[.int .u32 0, .slice none 0 0]) ?_ 0 _ rfl; (with_reducible repeat (first | refine blk_drewN ?_ _ | refine blk_drew ?_ | refine blk_alloc ?_ _)); exact BK313.out⟩
             have n4_ : Aside0 (Below w.heap.size w ((w47.setCell ⟨gb313, 0, none⟩ (.int .u32 t308)).setCell ⟨gb313, 1, none⟩ (.slice Ao50 t309.length co50))) := ⟨by repeat (first | (with_reducible first | exact HB.out | apply below_alloc | apply pw_below_drewN | apply below_drew1 | refine below_set ?_ GE291.out | refine below_set ?_ GE313.out) | exact HB.out)⟩
             (try clear HO_3)
             (try clear HO311)
             (try clear BK291)
             (try clear BK313)
             (try clear HB)
             generalize ((w47.setCell ⟨gb313, 0, none⟩ (.int .u32 t308)).setCell ⟨gb313, 1, none⟩ (.slice Ao50 t309.length co50)) = w51 at n0_ n1_ n2_ n3_ n4_ ⊢
             have HO_3 := n0_
             have HO311 := n1_
             have BK291 := n2_
             have BK313 := n3_
             have HB := n4_
             clear n0_ n1_ n2_ n3_ n4_
             have n0_ := Aside0.mk (Kd.R_drew HO_3.out)
             have n1_ := Aside0.mk (Kd.R_drew HO311.out)
             have n2_ := Aside0.mk (blk_drew BK291.out)
             have n3_ := Aside0.mk (blk_drew BK313.out)
             have n4_ := Aside0.mk (below_drew1 HB.out)
             clear HO_3
             clear HO311
             clear BK291
             clear BK313
             clear HB
             have HO_3 := n0_
             have HO311 := n1_
             have BK291 := n2_
             have BK313 := n3_
             have HB := n4_
             clear n0_ n1_ n2_ n3_ n4_
             refine start_ (n := 26) (S := fun w' => w'.cell? ⟨gb291, 0, none⟩ = some (.int .u32 a0_0) ∧ w'.cell? ⟨gb291, 1, none⟩ = some (.slice A0_1 l0_1.length c0_1) ∧ w'.cell? ⟨gb313, 0, none⟩ = some (.int .u32 t308) ∧ w'.cell? ⟨gb313, 1, none⟩ = some (.slice Ao50 t309.length co50) ∧ (convert 39 9 (.slice Ao44 t294.length co44)).run Try.prog w' = .ok (.string (strOfNums t294)) w') (ds := []) #[false, false, false, false, false, false, false, false, false, false, false, false, false, false, false, false, false, false, false, false, false, false, false, false, false, false] (by kernel_rfl) rfl rfl ⟨(blk_cell BK291.out 0).trans rfl, (blk_cell BK291.out 1).trans rfl, (blk_cell BK313.out 0).trans rfl, (blk_cell BK313.out 1).trans rfl, (own_string (P := Try.prog) Try.underlying39 Try.underlying5 Try.underlying9 (Kd.own_of_R HO_3.out))⟩ (fun hHeld => ?_); refine with_tabW fasciclelaw13_FooterPuts.tab9 fasciclelaw13_FooterPuts.bits9 (fun HT_ HW_ => ?_)
             generalize w51.drew = w52 at HO_3 HO311 BK291 BK313 HB hHeld ⊢
             refine pure_ (i := 0) (N := some 47) (v := ?_) (a' := ?_) #[true, false, false, false, false, false, false, false, false, false, false, false, false, false, false, false, false, false, false, false, false, false, false, false, false, false] rfl rfl (any_of HT_.out (by kernel_rfl)) (fun _ _ _ h => h) (Or.inl ⟨by rfl, ?_⟩) ?_ ?_
             rotate_left
             ·
              intro w'
              go_simp
              with_reducible rfl
             rotate_left
             ·
              simp only [Act.put, List.setIfInBounds_toArray, List.set_cons_zero, List.set_cons_succ, i64_w, i32_w]
              rfl
             refine take_ (i := 1) (N := some 48) (v := ?_) (a' := ?_) #[true, true, false, false, false, false, false, false, false, false, false, false, false, false, false, false, false, false, false, false, false, false, false, false, false, false] rfl rfl (take_ofW HT_.out HW_.out (by kernel_rfl)) (fun _ _ _ h => h) (Or.inl ⟨by rfl, ?_⟩) hHeld ?_ ?_
             rotate_left
             ·
              rintro w' ⟨s0, s1, s2, s3, s4⟩
              go_simp
              with_reducible rfl
             rotate_left
             ·
              simp only [Act.put, List.setIfInBounds_toArray, List.set_cons_zero, List.set_cons_succ, i64_w, i32_w]
              rfl
             refine take_ (i := 2) (N := some 49) (v := ?_) (a' := ?_) #[true, true, true, false, false, false, false, false, false, false, false, false, false, false, false, false, false, false, false, false, false, false, false, false, false, false] rfl rfl (take_ofW HT_.out HW_.out (by kernel_rfl)) (fun _ _ _ h => h) (Or.inl ⟨by rfl, ?_⟩) hHeld ?_ ?_
             rotate_left
             ·
              rintro w' ⟨s0, s1, s2, s3, s4⟩
              go_simp
              with_reducible rfl
             rotate_left
             ·
              simp only [Act.put, List.setIfInBounds_toArray, List.set_cons_zero, List.set_cons_succ, i64_w, i32_w]
              rfl
             refine one_ (i := 3) (N := some 50) #[true, true, true, true, false, false, false, false, false, false, false, false, false, false, false, false, false, false, false, false, false, false, false, false, false, false] rfl rfl (one_of HT_.out (by kernel_rfl)) (by decide) (fun K hK => ?_)
             refine goes_ Try.func40 (by kernel_rfl) rfl #[.agg #[.int .u32 a0_0, .slice A0_1 l0_1.length c0_1]] (by rfl) rfl rfl (by (try simp only [List.map_toArray, List.map_cons, List.map_nil]); first | done | rfl) ?_
             with_reducible refine (fasciclelaw13_ref.calls kj12 a0_0 _ _ l0_1 t314 t315 _ ?side1 ?side2 A36.out).mono ?_
             (case side1 => repeat (first | exact (Kd.C_below HR0_1.out HB.out) | (with_reducible refine Kd.C_alloc ?_ _) | (with_reducible refine Kd.C_drewN ?_ _) | (with_reducible refine Kd.C_drew ?_)))
             (case side2 => exact HC0_1.out)
             rintro e w53 ⟨v316, rfl, ho0, hb⟩
             refine ⟨_, rfl, ?_⟩
             have n0_ := Aside0.mk (Kd.R_below (by (with_reducible repeat (first | apply Kd.R_alloc | apply Kd.R_drewN | apply Kd.R_drew)); exact HO_3.out) hb)
             have n1_ := Aside0.mk (Kd.R_below (by (with_reducible repeat (first | apply Kd.R_alloc | apply Kd.R_drewN | apply Kd.R_drew)); exact HO311.out) hb)
             have n2_ := Aside0.mk (Kd.R_lower ho0 (below_size (by repeat with_reducible first | exact HB.out | apply below_alloc | apply pw_below_drewN | apply below_drew1 | refine below_set ?_ GE291.out | refine below_set ?_ GE313.out)))
             have n3_ := Aside0.mk (blk_below (g := gb291) (o := .cells #[.int .u32 a0_0, .slice A0_1 l0_1.length c0_1] 29 (0, 0)) (by (with_reducible repeat (first | refine blk_drewN ?_ _ | refine blk_drew ?_ | refine blk_alloc ?_ _)); exact BK291.out) hb)
             have n4_ := Aside0.mk (blk_below (g := gb313) (o := .cells #[.int .u32 t308, .slice Ao50 t309.length co50] 29 (0, 0)) (by (with_reducible repeat (first | refine blk_drewN ?_ _ | refine blk_drew ?_ | refine blk_alloc ?_ _)); exact BK313.out) hb)
             have n5_ := Aside0.mk (below_step (by repeat with_reducible first | exact HB.out | apply below_alloc | apply pw_below_drewN | apply below_drew1 | refine below_set ?_ GE291.out | refine below_set ?_ GE313.out) hb)
             clear HO_3
             clear HO311
             clear BK291
             clear BK313
             clear HB
             have HO_3 := n0_
             have HO311 := n1_
             have HO317 := n2_
             have BK291 := n3_
             have BK313 := n4_
             have HB := n5_
             clear n0_ n1_ n2_ n3_ n4_ n5_
             (try clear hb)
             (try clear hb2)
             (try clear hk)
             (try clear hi)
             (try clear ho0)
             obtain ⟨Ao54, co54, eo54⟩ := Kd.R_slice HO317.out
             (first | subst eo54 | (injection eo54 with f1_ f2_ f3_; have f4_ := f1_.symm; have f5_ := f3_.symm; clear f1_ f2_ f3_; subst f4_; subst f5_))
             refine hK.out _ _ ⟨(blk_cell BK291.out 0).trans rfl, (blk_cell BK291.out 1).trans rfl, (blk_cell BK313.out 0).trans rfl, (blk_cell BK313.out 1).trans rfl, (own_string (P := Try.prog) Try.underlying39 Try.underlying5 Try.underlying9 (Kd.own_of_R HO_3.out))⟩ (fun hHeld => ?_)
             clear hK K
             refine norm_ (a' := ?_) ?_ ?_
             rotate_left
             ·
              show Act.put _ (some 50) _ = _
              simp only [Act.put, List.setIfInBounds_toArray, List.set_cons_zero, List.set_cons_succ, i64_w, i32_w]
              rfl
             refine one_ (i := 4) (N := some 51) #[true, true, true, true, true, false, false, false, false, false, false, false, false, false, false, false, false, false, false, false, false, false, false, false, false, false] rfl rfl (one_of HT_.out (by kernel_rfl)) (by decide) (fun K hK => ?_)
             refine goes_ Try.func41 (by kernel_rfl) rfl #[.agg #[.int .u32 t314, .slice Ao54 t315.length co54]] (by rfl) rfl rfl (by (try simp only [List.map_toArray, List.map_cons, List.map_nil]); first | done | rfl) ?_
             with_reducible refine (fascicleref13_Text.calls kj12 t314 _ _ t315 t318 _ ?side1 ?side2 A37.out).mono ?_
             (case side1 => repeat (first | exact (Kd.R_reads' HO317.out).2.2 | (with_reducible refine Kd.C_alloc ?_ _) | (with_reducible refine Kd.C_drewN ?_ _) | (with_reducible refine Kd.C_drew ?_)))
             (case side2 => exact (Kd.R_reads' HO317.out).2.1)
             rintro e w55 ⟨rfl, hb⟩
             refine ⟨_, rfl, ?_⟩
             have n0_ := Aside0.mk (Kd.R_below (by (with_reducible repeat (first | apply Kd.R_alloc | apply Kd.R_drewN | apply Kd.R_drew)); exact HO_3.out) hb)
             have n1_ := Aside0.mk (Kd.R_below (by (with_reducible repeat (first | apply Kd.R_alloc | apply Kd.R_drewN | apply Kd.R_drew)); exact HO311.out) hb)
             have n2_ := Aside0.mk (Kd.R_below (by (with_reducible repeat (first | apply Kd.R_alloc | apply Kd.R_drewN | apply Kd.R_drew)); exact HO317.out) hb)
             have n3_ := Aside0.mk (blk_below (g := gb291) (o := .cells #[.int .u32 a0_0, .slice A0_1 l0_1.length c0_1] 29 (0, 0)) (by (with_reducible repeat (first | refine blk_drewN ?_ _ | refine blk_drew ?_ | refine blk_alloc ?_ _)); exact BK291.out) hb)
             have n4_ := Aside0.mk (blk_below (g := gb313) (o := .cells #[.int .u32 t308, .slice Ao50 t309.length co50] 29 (0, 0)) (by (with_reducible repeat (first | refine blk_drewN ?_ _ | refine blk_drew ?_ | refine blk_alloc ?_ _)); exact BK313.out) hb)
             have n5_ := Aside0.mk (below_step (by repeat with_reducible first | exact HB.out | apply below_alloc | apply pw_below_drewN | apply below_drew1 | refine below_set ?_ GE291.out | refine below_set ?_ GE313.out) hb)
             clear HO_3
             clear HO311
             clear HO317
             clear BK291
             clear BK313
             clear HB
             have HO_3 := n0_
             have HO311 := n1_
             have HO317 := n2_
             have BK291 := n3_
             have BK313 := n4_
             have HB := n5_
             clear n0_ n1_ n2_ n3_ n4_ n5_
             (try clear hb)
             (try clear hb2)
             (try clear hk)
             (try clear hi)
             refine hK.out _ _ ⟨(blk_cell BK291.out 0).trans rfl, (blk_cell BK291.out 1).trans rfl, (blk_cell BK313.out 0).trans rfl, (blk_cell BK313.out 1).trans rfl, (own_string (P := Try.prog) Try.underlying39 Try.underlying5 Try.underlying9 (Kd.own_of_R HO_3.out))⟩ (fun hHeld => ?_)
             clear hK K
             refine norm_ (a' := ?_) ?_ ?_
             rotate_left
             ·
              show Act.put _ (some 51) _ = _
              simp only [Act.put, List.setIfInBounds_toArray, List.set_cons_zero, List.set_cons_succ, i64_w, i32_w]
              rfl
             refine pure_ (i := 5) (N := some 52) (v := ?_) (a' := ?_) #[true, true, true, true, true, true, false, false, false, false, false, false, false, false, false, false, false, false, false, false, false, false, false, false, false, false] rfl rfl (any_of HT_.out (by kernel_rfl)) (fun _ _ _ h => h) (Or.inl ⟨by rfl, ?_⟩) ?_ ?_
             rotate_left
             ·
              intro w'
              go_simp
              with_reducible rfl
             rotate_left
             ·
              simp only [Act.put, List.setIfInBounds_toArray, List.set_cons_zero, List.set_cons_succ, i64_w, i32_w]
              rfl
             refine pure_ (i := 6) (N := some 53) (v := ?_) (a' := ?_) #[true, true, true, true, true, true, true, false, false, false, false, false, false, false, false, false, false, false, false, false, false, false, false, false, false, false] rfl rfl (any_of HT_.out (by kernel_rfl)) (fun _ _ _ h => h) (Or.inl ⟨by rfl, ?_⟩) ?_ ?_
             rotate_left
             ·
              intro w'
              go_simp
              with_reducible rfl
             rotate_left
             ·
              simp only [Act.put, List.setIfInBounds_toArray, List.set_cons_zero, List.set_cons_succ, i64_w, i32_w]
              rfl
             refine pure_ (i := 7) (N := some 54) (v := ?_) (a' := ?_) #[true, true, true, true, true, true, true, true, false, false, false, false, false, false, false, false, false, false, false, false, false, false, false, false, false, false] rfl rfl (any_of HT_.out (by kernel_rfl)) (fun _ _ _ h => h) (Or.inl ⟨by rfl, ?_⟩) ?_ ?_
             rotate_left
             ·
              intro w'
              go_simp
              with_reducible rfl
             rotate_left
             ·
              simp only [Act.put, List.setIfInBounds_toArray, List.set_cons_zero, List.set_cons_succ, i64_w, i32_w]
              rfl
             refine pure_ (i := 8) (N := some 55) (v := ?_) (a' := ?_) #[true, true, true, true, true, true, true, true, true, false, false, false, false, false, false, false, false, false, false, false, false, false, false, false, false, false] rfl rfl (any_of HT_.out (by kernel_rfl)) (fun _ _ _ h => h) (Or.inl ⟨by rfl, ?_⟩) ?_ ?_
             rotate_left
             ·
              intro w'
              go_simp
              with_reducible rfl
             rotate_left
             ·
              simp only [Act.put, List.setIfInBounds_toArray, List.set_cons_zero, List.set_cons_succ, i64_w, i32_w]
              rfl
             refine pure_ (i := 9) (N := some 56) (v := ?_) (a' := ?_) #[true, true, true, true, true, true, true, true, true, true, false, false, false, false, false, false, false, false, false, false, false, false, false, false, false, false] rfl rfl (any_of HT_.out (by kernel_rfl)) (fun _ _ _ h => h) (Or.inl ⟨by rfl, ?_⟩) ?_ ?_
             rotate_left
             ·
              intro w'
              go_simp
              with_reducible rfl
             rotate_left
             ·
              simp only [Act.put, List.setIfInBounds_toArray, List.set_cons_zero, List.set_cons_succ, i64_w, i32_w]
              rfl
             refine take_ (i := 10) (N := some 57) (v := ?_) (a' := ?_) #[true, true, true, true, true, true, true, true, true, true, true, false, false, false, false, false, false, false, false, false, false, false, false, false, false, false] rfl rfl (take_ofW HT_.out HW_.out (by kernel_rfl)) (fun _ _ _ h => h) (Or.inl ⟨by rfl, ?_⟩) hHeld ?_ ?_
             rotate_left
             ·
              rintro w' ⟨s0, s1, s2, s3, s4⟩
              go_simp
              with_reducible rfl
             rotate_left
             ·
              simp only [Act.put, List.setIfInBounds_toArray, List.set_cons_zero, List.set_cons_succ, i64_w, i32_w]
              rfl
             refine pure_ (i := 11) (N := some 58) (v := ?_) (a' := ?_) #[true, true, true, true, true, true, true, true, true, true, true, true, false, false, false, false, false, false, false, false, false, false, false, false, false, false] rfl rfl (any_of HT_.out (by kernel_rfl)) (fun _ _ _ h => h) (Or.inl ⟨by rfl, ?_⟩) ?_ ?_
             rotate_left
             ·
              intro w'
              go_simp
              with_reducible rfl
             rotate_left
             ·
              simp only [Act.put, List.setIfInBounds_toArray, List.set_cons_zero, List.set_cons_succ, i64_w, i32_w]
              rfl
             refine one_ (i := 12) (N := some 59) #[true, true, true, true, true, true, true, true, true, true, true, true, true, false, false, false, false, false, false, false, false, false, false, false, false, false] rfl rfl (one_of HT_.out (by kernel_rfl)) (by decide) (fun K hK => ?_)
             refine goes_ Try.func14 (by kernel_rfl) rfl #[.int .i64 (l0_1.length : Int)] (by rfl) rfl rfl (by (try simp only [List.map_toArray, List.map_cons, List.map_nil]); first | done | rfl) ?_
             with_reducible refine (footer_Most.calls (l0_1.length : Int) t319 _ A39.out).mono ?_
             rintro e w57 ⟨rfl, hb⟩
             refine ⟨_, rfl, ?_⟩
             have n0_ := Aside0.mk (Kd.R_below (by (with_reducible repeat (first | apply Kd.R_alloc | apply Kd.R_drewN | apply Kd.R_drew)); exact HO_3.out) hb)
             have n1_ := Aside0.mk (Kd.R_below (by (with_reducible repeat (first | apply Kd.R_alloc | apply Kd.R_drewN | apply Kd.R_drew)); exact HO311.out) hb)
             have n2_ := Aside0.mk (Kd.R_below (by (with_reducible repeat (first | apply Kd.R_alloc | apply Kd.R_drewN | apply Kd.R_drew)); exact HO317.out) hb)
             have n3_ := Aside0.mk (blk_below (g := gb291) (o := .cells #[.int .u32 a0_0, .slice A0_1 l0_1.length c0_1] 29 (0, 0)) (by (with_reducible repeat (first | refine blk_drewN ?_ _ | refine blk_drew ?_ | refine blk_alloc ?_ _)); exact BK291.out) hb)
             have n4_ := Aside0.mk (blk_below (g := gb313) (o := .cells #[.int .u32 t308, .slice Ao50 t309.length co50] 29 (0, 0)) (by (with_reducible repeat (first | refine blk_drewN ?_ _ | refine blk_drew ?_ | refine blk_alloc ?_ _)); exact BK313.out) hb)
             have n5_ := Aside0.mk (below_step (by repeat with_reducible first | exact HB.out | apply below_alloc | apply pw_below_drewN | apply below_drew1 | refine below_set ?_ GE291.out | refine below_set ?_ GE313.out) hb)
             clear HO_3
             clear HO311
             clear HO317
             clear BK291
             clear BK313
             clear HB
             have HO_3 := n0_
             have HO311 := n1_
             have HO317 := n2_
             have BK291 := n3_
             have BK313 := n4_
             have HB := n5_
             clear n0_ n1_ n2_ n3_ n4_ n5_
             (try clear hb)
             (try clear hb2)
             (try clear hk)
             (try clear hi)
             refine hK.out _ _ ⟨(blk_cell BK291.out 0).trans rfl, (blk_cell BK291.out 1).trans rfl, (blk_cell BK313.out 0).trans rfl, (blk_cell BK313.out 1).trans rfl, (own_string (P := Try.prog) Try.underlying39 Try.underlying5 Try.underlying9 (Kd.own_of_R HO_3.out))⟩ (fun hHeld => ?_)
             clear hK K
             refine norm_ (a' := ?_) ?_ ?_
             rotate_left
             ·
              show Act.put _ (some 59) _ = _
              simp only [Act.put, List.setIfInBounds_toArray, List.set_cons_zero, List.set_cons_succ, i64_w, i32_w]
              rfl
             refine pure_ (i := 13) (N := some 60) (v := ?_) (a' := ?_) #[true, true, true, true, true, true, true, true, true, true, true, true, true, true, false, false, false, false, false, false, false, false, false, false, false, false] rfl rfl (any_of HT_.out (by kernel_rfl)) (fun _ _ _ h => h) (Or.inl ⟨by rfl, ?_⟩) ?_ ?_
             rotate_left
             ·
              intro w'
              go_simp
              with_reducible rfl
             rotate_left
             ·
              simp only [Act.put, List.setIfInBounds_toArray, List.set_cons_zero, List.set_cons_succ, i64_w, i32_w]
              rfl
             refine pure_ (i := 14) (N := some 61) (v := ?_) (a' := ?_) #[true, true, true, true, true, true, true, true, true, true, true, true, true, true, true, false, false, false, false, false, false, false, false, false, false, false] rfl rfl (any_of HT_.out (by kernel_rfl)) (fun _ _ _ h => h) (Or.inl ⟨by rfl, ?_⟩) ?_ ?_
             rotate_left
             ·
              intro w'
              go_simp
              with_reducible rfl
             rotate_left
             ·
              simp only [Act.put, List.setIfInBounds_toArray, List.set_cons_zero, List.set_cons_succ, i64_w, i32_w]
              rfl
             refine pure_ (i := 15) (N := some 62) (v := ?_) (a' := ?_) #[true, true, true, true, true, true, true, true, true, true, true, true, true, true, true, true, false, false, false, false, false, false, false, false, false, false] rfl rfl (any_of HT_.out (by kernel_rfl)) (fun _ _ _ h => h) (Or.inl ⟨by rfl, ?_⟩) ?_ ?_
             rotate_left
             ·
              intro w'
              go_simp
              with_reducible rfl
             rotate_left
             ·
              simp only [Act.put, List.setIfInBounds_toArray, List.set_cons_zero, List.set_cons_succ, i64_w, i32_w]
              rfl
             refine pure_ (i := 16) (N := some 63) (v := ?_) (a' := ?_) #[true, true, true, true, true, true, true, true, true, true, true, true, true, true, true, true, true, false, false, false, false, false, false, false, false, false] rfl rfl (any_of HT_.out (by kernel_rfl)) (fun _ _ _ h => h) (Or.inl ⟨by rfl, ?_⟩) ?_ ?_
             rotate_left
             ·
              intro w'
              go_simp
              with_reducible rfl
             rotate_left
             ·
              simp only [Act.put, List.setIfInBounds_toArray, List.set_cons_zero, List.set_cons_succ, i64_w, i32_w]
              rfl
             refine pure_ (i := 17) (N := some 64) (v := ?_) (a' := ?_) #[true, true, true, true, true, true, true, true, true, true, true, true, true, true, true, true, true, true, false, false, false, false, false, false, false, false] rfl rfl (any_of HT_.out (by kernel_rfl)) (fun _ _ _ h => h) (Or.inl ⟨by rfl, ?_⟩) ?_ ?_
             rotate_left
             ·
              intro w'
              go_simp
              with_reducible rfl
             rotate_left
             ·
              simp only [Act.put, List.setIfInBounds_toArray, List.set_cons_zero, List.set_cons_succ, i64_w, i32_w]
              rfl
             refine pure_ (i := 18) (N := some 65) (v := ?_) (a' := ?_) #[true, true, true, true, true, true, true, true, true, true, true, true, true, true, true, true, true, true, true, false, false, false, false, false, false, false] rfl rfl (any_of HT_.out (by kernel_rfl)) (fun _ _ _ h => h) (Or.inl ⟨by rfl, ?_⟩) ?_ ?_
             rotate_left
             ·
              intro w'
              go_simp
              with_reducible rfl
             rotate_left
             ·
              simp only [Act.put, List.setIfInBounds_toArray, List.set_cons_zero, List.set_cons_succ, i64_w, i32_w]
              rfl
             refine pure_ (i := 19) (N := some 66) (v := ?_) (a' := ?_) #[true, true, true, true, true, true, true, true, true, true, true, true, true, true, true, true, true, true, true, true, false, false, false, false, false, false] rfl rfl (any_of HT_.out (by kernel_rfl)) (fun _ _ _ h => h) (Or.inl ⟨by rfl, ?_⟩) ?_ ?_
             rotate_left
             ·
              intro w'
              go_simp
              with_reducible rfl
             rotate_left
             ·
              simp only [Act.put, List.setIfInBounds_toArray, List.set_cons_zero, List.set_cons_succ, i64_w, i32_w]
              rfl
             refine take_ (i := 20) (N := some 67) (v := ?_) (a' := ?_) #[true, true, true, true, true, true, true, true, true, true, true, true, true, true, true, true, true, true, true, true, true, false, false, false, false, false] rfl rfl (take_ofW HT_.out HW_.out (by kernel_rfl)) (fun _ _ _ h => h) (Or.inl ⟨by rfl, ?_⟩) hHeld ?_ ?_
             rotate_left
             ·
              rintro w' ⟨s0, s1, s2, s3, s4⟩
              go_simp
              with_reducible rfl
             rotate_left
             ·
              simp only [Act.put, List.setIfInBounds_toArray, List.set_cons_zero, List.set_cons_succ, i64_w, i32_w]
              rfl
             refine take_ (i := 21) (N := some 68) (v := ?_) (a' := ?_) #[true, true, true, true, true, true, true, true, true, true, true, true, true, true, true, true, true, true, true, true, true, true, false, false, false, false] rfl rfl (take_ofW HT_.out HW_.out (by kernel_rfl)) (fun _ _ _ h => h) (Or.inl ⟨by rfl, ?_⟩) hHeld ?_ ?_
             rotate_left
             ·
              rintro w' ⟨s0, s1, s2, s3, s4⟩
              go_simp
              with_reducible rfl
             rotate_left
             ·
              simp only [Act.put, List.setIfInBounds_toArray, List.set_cons_zero, List.set_cons_succ, i64_w, i32_w]
              rfl
             refine one_ (i := 22) (N := some 69) #[true, true, true, true, true, true, true, true, true, true, true, true, true, true, true, true, true, true, true, true, true, true, true, false, false, false] rfl rfl (one_of HT_.out (by kernel_rfl)) (by decide) (fun K hK => ?_)
             refine goes_ Try.func40 (by kernel_rfl) rfl #[.agg #[.int .u32 a0_0, .slice A0_1 l0_1.length c0_1]] (by rfl) rfl rfl (by (try simp only [List.map_toArray, List.map_cons, List.map_nil]); first | done | rfl) ?_
             with_reducible refine (fasciclelaw13_ref.calls kj12 a0_0 _ _ l0_1 t320 t321 _ ?side1 ?side2 A42.out).mono ?_
             (case side1 => repeat (first | exact (Kd.C_below HR0_1.out HB.out) | (with_reducible refine Kd.C_alloc ?_ _) | (with_reducible refine Kd.C_drewN ?_ _) | (with_reducible refine Kd.C_drew ?_)))
             (case side2 => exact HC0_1.out)
             rintro e w58 ⟨v322, rfl, ho0, hb⟩
             refine ⟨_, rfl, ?_⟩
             have n0_ := Aside0.mk (Kd.R_below (by (with_reducible repeat (first | apply Kd.R_alloc | apply Kd.R_drewN | apply Kd.R_drew)); exact HO_3.out) hb)
             have n1_ := Aside0.mk (Kd.R_below (by (with_reducible repeat (first | apply Kd.R_alloc | apply Kd.R_drewN | apply Kd.R_drew)); exact HO311.out) hb)
             have n2_ := Aside0.mk (Kd.R_elder' (by (with_reducible repeat (first | apply Kd.R_alloc | apply Kd.R_drewN | apply Kd.R_drew)); exact HO317.out) (Kd.R_base ho0) hb)
             have n3_ := Aside0.mk (Kd.R_lower (Kd.R_new' ho0 (Kd.R_lt (by (with_reducible repeat (first | apply Kd.R_alloc | apply Kd.R_drewN | apply Kd.R_drew)); exact HO317.out))) (below_size (by repeat with_reducible first | exact HB.out | apply below_alloc | apply pw_below_drewN | apply below_drew1 | refine below_set ?_ GE291.out | refine below_set ?_ GE313.out)))
             have n4_ := Aside0.mk (blk_below (g := gb291) (o := .cells #[.int .u32 a0_0, .slice A0_1 l0_1.length c0_1] 29 (0, 0)) (by (with_reducible repeat (first | refine blk_drewN ?_ _ | refine blk_drew ?_ | refine blk_alloc ?_ _)); exact BK291.out) hb)
             have n5_ := Aside0.mk (blk_below (g := gb313) (o := .cells #[.int .u32 t308, .slice Ao50 t309.length co50] 29 (0, 0)) (by (with_reducible repeat (first | refine blk_drewN ?_ _ | refine blk_drew ?_ | refine blk_alloc ?_ _)); exact BK313.out) hb)
             have n6_ := Aside0.mk (below_step (by repeat with_reducible first | exact HB.out | apply below_alloc | apply pw_below_drewN | apply below_drew1 | refine below_set ?_ GE291.out | refine below_set ?_ GE313.out) hb)
             clear HO_3
             clear HO311
             clear HO317
             clear BK291
             clear BK313
             clear HB
             have HO_3 := n0_
             have HO311 := n1_
             have HO317 := n2_
             have HO323 := n3_
             have BK291 := n4_
             have BK313 := n5_
             have HB := n6_
             clear n0_ n1_ n2_ n3_ n4_ n5_ n6_
             (try clear hb)
             (try clear hb2)
             (try clear hk)
             (try clear hi)
             (try clear ho0)
             obtain ⟨Ao59, co59, eo59⟩ := Kd.R_slice HO323.out
             (first | subst eo59 | (injection eo59 with f1_ f2_ f3_; have f4_ := f1_.symm; have f5_ := f3_.symm; clear f1_ f2_ f3_; subst f4_; subst f5_))
             refine hK.out _ _ ⟨(blk_cell BK291.out 0).trans rfl, (blk_cell BK291.out 1).trans rfl, (blk_cell BK313.out 0).trans rfl, (blk_cell BK313.out 1).trans rfl, (own_string (P := Try.prog) Try.underlying39 Try.underlying5 Try.underlying9 (Kd.own_of_R HO_3.out))⟩ (fun hHeld => ?_)
             clear hK K
             refine norm_ (a' := ?_) ?_ ?_
             rotate_left
             ·
              show Act.put _ (some 69) _ = _
              simp only [Act.put, List.setIfInBounds_toArray, List.set_cons_zero, List.set_cons_succ, i64_w, i32_w]
              rfl
             refine one_ (i := 23) (N := some 70) #[true, true, true, true, true, true, true, true, true, true, true, true, true, true, true, true, true, true, true, true, true, true, true, true, false, false] rfl rfl (one_of HT_.out (by kernel_rfl)) (by decide) (fun K hK => ?_)
             refine goes_ Try.func37 (by kernel_rfl) rfl #[.agg #[.int .u32 t308, .slice Ao50 t309.length co50], .agg #[.int .u32 t320, .slice Ao59 t321.length co59]] (by rfl) rfl rfl (by (try simp only [List.map_toArray, List.map_cons, List.map_nil]); first | done | rfl) ?_
             with_reducible refine (fasciclelaw13_same.calls kj12 t308 _ _ t309 t320 _ _ t321 t324 _ ?side1 ?side2 ?side3 ?side4 A43.out).mono ?_
             (case side1 => repeat (first | exact (Kd.R_reads' HO311.out).2.2 | (with_reducible refine Kd.C_alloc ?_ _) | (with_reducible refine Kd.C_drewN ?_ _) | (with_reducible refine Kd.C_drew ?_)))
             (case side2 => exact (Kd.R_reads' HO311.out).2.1)
             (case side3 => repeat (first | exact (Kd.R_reads' HO323.out).2.2 | (with_reducible refine Kd.C_alloc ?_ _) | (with_reducible refine Kd.C_drewN ?_ _) | (with_reducible refine Kd.C_drew ?_)))
             (case side4 => exact (Kd.R_reads' HO323.out).2.1)
             rintro e w60 ⟨rfl, hb⟩
             refine ⟨_, rfl, ?_⟩
             have n0_ := Aside0.mk (Kd.R_below (by (with_reducible repeat (first | apply Kd.R_alloc | apply Kd.R_drewN | apply Kd.R_drew)); exact HO_3.out) hb)
             have n1_ := Aside0.mk (Kd.R_below (by (with_reducible repeat (first | apply Kd.R_alloc | apply Kd.R_drewN | apply Kd.R_drew)); exact HO311.out) hb)
             have n2_ := Aside0.mk (Kd.R_below (by (with_reducible repeat (first | apply Kd.R_alloc | apply Kd.R_drewN | apply Kd.R_drew)); exact HO317.out) hb)
             have n3_ := Aside0.mk (Kd.R_below (by (with_reducible repeat (first | apply Kd.R_alloc | apply Kd.R_drewN | apply Kd.R_drew)); exact HO323.out) hb)
             have n4_ := Aside0.mk (blk_below (g := gb291) (o := .cells #[.int .u32 a0_0, .slice A0_1 l0_1.length c0_1] 29 (0, 0)) (by (with_reducible repeat (first | refine blk_drewN ?_ _ | refine blk_drew ?_ | refine blk_alloc ?_ _)); exact BK291.out) hb)
             have n5_ := Aside0.mk (blk_below (g := gb313) (o := .cells #[.int .u32 t308, .slice Ao50 t309.length co50] 29 (0, 0)) (by (with_reducible repeat (first | refine blk_drewN ?_ _ | refine blk_drew ?_ | refine blk_alloc ?_ _)); exact BK313.out) hb)
             have n6_ := Aside0.mk (below_step (by repeat with_reducible first | exact HB.out | apply below_alloc | apply pw_below_drewN | apply below_drew1 | refine below_set ?_ GE291.out | refine below_set ?_ GE313.out) hb)
             clear HO_3
             clear HO311
             clear HO317
             clear HO323
             clear BK291
             clear BK313
             clear HB
             have HO_3 := n0_
             have HO311 := n1_
             have HO317 := n2_
             have HO323 := n3_
             have BK291 := n4_
             have BK313 := n5_
             have HB := n6_
             clear n0_ n1_ n2_ n3_ n4_ n5_ n6_
             (try clear hb)
             (try clear hb2)
             (try clear hk)
             (try clear hi)
             refine hK.out _ _ ⟨(blk_cell BK291.out 0).trans rfl, (blk_cell BK291.out 1).trans rfl, (blk_cell BK313.out 0).trans rfl, (blk_cell BK313.out 1).trans rfl, (own_string (P := Try.prog) Try.underlying39 Try.underlying5 Try.underlying9 (Kd.own_of_R HO_3.out))⟩ (fun hHeld => ?_)
             clear hK K
             refine norm_ (a' := ?_) ?_ ?_
             rotate_left
             ·
              show Act.put _ (some 70) _ = _
              simp only [Act.put, List.setIfInBounds_toArray, List.set_cons_zero, List.set_cons_succ, i64_w, i32_w]
              rfl
             refine pure_ (i := 24) (N := some 71) (v := ?_) (a' := ?_) #[true, true, true, true, true, true, true, true, true, true, true, true, true, true, true, true, true, true, true, true, true, true, true, true, true, false] rfl rfl (any_of HT_.out (by kernel_rfl)) (fun _ _ _ h => h) (Or.inl ⟨by rfl, ?_⟩) ?_ ?_
             rotate_left
             ·
              intro w'
              go_simp
              with_reducible rfl
             rotate_left
             ·
              simp only [Act.put, List.setIfInBounds_toArray, List.set_cons_zero, List.set_cons_succ, i64_w, i32_w]
              rfl
             refine pure_ (i := 25) (N := some 2) (v := ?_) (a' := ?_) #[true, true, true, true, true, true, true, true, true, true, true, true, true, true, true, true, true, true, true, true, true, true, true, true, true, true] rfl rfl (any_of HT_.out (by kernel_rfl)) (fun _ _ _ h => h) (Or.inl ⟨by rfl, ?_⟩) ?_ ?_
             rotate_left
             ·
              intro w'
              go_simp
              with_reducible rfl
             rotate_left
             ·
              simp only [Act.put, List.setIfInBounds_toArray, List.set_cons_zero, List.set_cons_succ, i64_w, i32_w]
              rfl
             refine done_ (done_of HT_.out (by kernel_rfl)) ?_
             try go_wp2
             go_ret
             exact ⟨by first | rfl | (simp [errW_none, errW_some] <;> rfl) | (simp only [← hji32]; first | rfl | (simp [errW_none, errW_some] <;> rfl)) | (simp [*, errW_none, errW_some] <;> rfl), by repeat (first | (with_reducible first | exact HB.out | apply below_alloc | apply pw_below_drewN | apply below_drew1 | refine below_set ?_ GE291.out | refine below_set ?_ GE313.out) | exact HB.out)⟩
            ·
             rw [if_neg c41] at H
             have c41b0 : (t312 == 0) = false := beq_eq_false_iff_ne.mpr c41
             have c41b1 : (t312 != 0) = true := bne_iff_ne.mpr c41
             obtain rfl := Option.some.inj H
             obtain ⟨Ao61, co61, eo61⟩ := Kd.R_slice HO_3.out
             subst eo61
             have q62 : ((ji32) : Int) ≤ ((t294.length : Int) : Int) := of_decide_eq_true (by first | (with_reducible assumption) | assumption)
             obtain ⟨i062, hi062, _, hsz62, _⟩ := info_parts info5
             have hroom62 : t294.length ≤ co61 := (Kd.R_reads' HO_3.out).2.1
             have hC62 : Kd.C (Kd.int .u8) _ Ao61 t294.length t294 := (Kd.R_reads' HO_3.out).2.2
             have hcut62 := cut_to (P := Try.prog) 39 5 .i64 Try.underlying39 hi062 Ao61 t294.length co61 (ji32) (of_decide_eq_true (by first | (with_reducible assumption) | assumption)) q62 hroom62
             have hr62 := Kd.C_take (m := ((ji32) : Int).toNat) hC62 (by omega)
             have hy62 : y304.length = ((ji32) : Int).toNat := (by rw [Ny304.out, List.length_take]; omega)
             rw [← Ny304.out] at hr62
             rw [← hy62] at hcut62
             have HR307 := Aside0.mk hr62
             have HC307 := Aside0.mk (show y304.length ≤ co61 from by omega)
             clear hr62 hC62 hroom62 hi062 hsz62
             have KY62 := Aside0.mk hy62
             clear hy62
             have KL62 := Aside0.mk (show ((ji32) : Int).toNat ≤ t294.length from by omega)
             replace q62 := eq_true q62
             try go_wp2_with (first | ((with_reducible refine gate_callee (f := 35) rfl ?_); refine goesL_ (some 44) rfl rfl Try.func35 (by kernel_rfl) rfl #[.slice Ao61 y304.length co61] rfl (by (try simp only [List.map_toArray, List.map_cons, List.map_nil]); first | done | rfl) ?_; (with_reducible refine (footer_Get.calls _ _ y304 t308 t309 t312 _ ?side1 ?side2 A35.out).mono ?_); (case side1 => repeat (first | exact (by repeat (first | (with_reducible exact HR307.out) | (with_reducible refine Kd.C_alloc ?_ _) | (with_reducible refine Kd.C_drewN ?_ _) | (with_reducible refine Kd.C_drew ?_) | exact HR307.out)) | (with_reducible refine Kd.C_alloc ?_ _) | (with_reducible refine Kd.C_drewN ?_ _) | (with_reducible refine Kd.C_drew ?_))); (case side2 => exact HC307.out); rintro e w63 ⟨v310, rfl, ho0, hb⟩; refine ⟨_, rfl, ?_⟩; replace HO_3 := Aside0.mk (Kd.R_below (by (with_reducible repeat (first | apply Kd.R_alloc | apply Kd.R_drewN | apply Kd.R_drew)); exact HO_3.out) hb); have HO311 := Aside0.mk (Kd.R_lower ho0 (below_size (by repeat with_reducible first | exact HB.out | apply below_alloc | apply pw_below_drewN | apply below_drew1 | refine below_set ?_ GE291.out))); replace BK291 := Aside0.mk (blk_below (g := gb291) (o := .cells #[.int .u32 a0_0, .slice A0_1 l0_1.length c0_1] 29 (0, 0)) (by (with_reducible repeat (first | refine blk_drewN ?_ _ | refine blk_drew ?_ | refine blk_alloc ?_ _)); exact BK291.out) hb); replace HR307 := Aside0.mk (Kd.C_below (by repeat (first | (with_reducible exact HR307.out) | (with_reducible refine Kd.C_alloc ?_ _) | (with_reducible refine Kd.C_drewN ?_ _) | (with_reducible refine Kd.C_drew ?_) | exact HR307.out)) hb); replace HB := Aside0.mk (below_step (by repeat with_reducible first | exact HB.out | apply below_alloc | apply pw_below_drewN | apply below_drew1 | refine below_set ?_ GE291.out) hb); (try clear hb); (try clear ho0)) | ((with_reducible refine gate_dst (N := 5) rfl ?_); (try (refine gate_guard (by rfl) ?_; dsimp only)); refine box_event ?hg (N := 5) ?hd (cs := #[.int .u32 0, .slice none 0 0]) (t := 29) ?hr ?_; (case hd => rfl); (case hg => rfl); (case hr => first | (go_simp; done) | (go_simp; rfl)); intro gb313 hg w64 hbox hb; have n0_ := Aside0.mk (Kd.R_below (by (with_reducible repeat (first | apply Kd.R_alloc | apply Kd.R_drewN | apply Kd.R_drew)); exact HO_3.out) hb); have n1_ := Aside0.mk (Kd.R_below (by (with_reducible repeat (first | apply Kd.R_alloc | apply Kd.R_drewN | apply Kd.R_drew)); exact HO311.out) hb); have n2_ := Aside0.mk (blk_below (g := gb291) (o := .cells #[.int .u32 a0_0, .slice A0_1 l0_1.length c0_1] 29 (0, 0)) (by (with_reducible repeat (first | refine blk_drewN ?_ _ | refine blk_drew ?_ | refine blk_alloc ?_ _)); exact BK291.out) hb); have n3_ := Aside0.mk (Kd.C_below (by repeat (first | (with_reducible exact HR307.out) | (with_reducible refine Kd.C_alloc ?_ _) | (with_reducible refine Kd.C_drewN ?_ _) | (with_reducible refine Kd.C_drew ?_) | exact HR307.out)) hb); have n4_ := Aside0.mk (below_step (by repeat with_reducible first | exact HB.out | apply below_alloc | apply pw_below_drewN | apply below_drew1 | refine below_set ?_ GE291.out) hb); have n5_ := Aside0.mk (hbox); have n6_ := Aside0.mk ((by rw [hg]; exact (below_size (by repeat with_reducible first | exact HB.out | apply below_alloc | apply pw_below_drewN | apply below_drew1 | refine below_set ?_ GE291.out)) : w.heap.size ≤ gb313)); have n7_ := Aside0.mk ((by rw [hg]; exact (below_size (by repeat with_reducible first | exact HB.out | apply below_alloc | apply pw_below_drewN | apply below_drew1 | refine below_set ?_ GE291.out)) : w.heap.size ≤ gb313)); have n8_ := Aside0.mk ((by rw [hg]; exact Nat.ne_of_lt (blk_lt (g := gb291) (o := .cells #[.int .u32 a0_0, .slice A0_1 l0_1.length c0_1] 29 (0, 0)) (by (with_reducible repeat (first | refine blk_drewN ?_ _ | refine blk_drew ?_ | refine blk_alloc ?_ _)); exact BK291.out)) : gb291 ≠ gb313)); have n9_ := Aside0.mk ((by rw [hg]; exact Nat.ne_of_gt (blk_lt (g := gb291) (o := .cells #[.int .u32 a0_0, .slice A0_1 l0_1.length c0_1] 29 (0, 0)) (by (with_reducible repeat (first | refine blk_drewN ?_ _ | refine blk_drew ?_ | refine blk_alloc ?_ _)); exact BK291.out)) : gb313 ≠ gb291)); clear HO_3; clear HO311; clear BK291; clear HR307; clear HB; have HO_3 := n0_; have HO311 := n1_; have BK291 := n2_; have HR307 := n3_; have HB := n4_; have BK313 := n5_; have GW313 := n6_; have GE313 := n7_; have NB291_313 := n8_; have NB313_291 := n9_; clear n0_ n1_ n2_ n3_ n4_ n5_ n6_ n7_ n8_ n9_; clear hb hbox hg; have hnb65 := NB313_291.out; have hnc65 := NB291_313.out; have hcz66_0 : w64.cell? ⟨gb313, 0, none⟩ = some (.int .u32 0) := (blk_cell BK313.out 0).trans rfl; have hcz66_1 : w64.cell? ⟨gb313, 1, none⟩ = some (.slice none 0 0) := (blk_cell BK313.out 1).trans rfl; have hfz66_0 := blk_frozen BK313.out 0; have hfz66_1 := blk_frozen BK313.out 1; obtain ⟨Ao67, co67, eo67⟩ := Kd.R_slice HO311.out; subst eo67))
             have n0_ : Aside0 (Kd.R (Kd.int .u8) 5 ((w64.setCell ⟨gb313, 0, none⟩ (.int .u32 t308)).setCell ⟨gb313, 1, none⟩ (.slice Ao67 t309.length co67)) w.heap.size (fun _ => True) (.slice Ao61 t294.length co61) t294) := ⟨by (with_reducible repeat (first | apply Kd.R_alloc | apply Kd.R_drewN | apply Kd.R_drew)); exact Kd.R_mono (Kd.R_far (p := ⟨gb313, 1, none⟩) (Kd.R_far (p := ⟨gb313, 0, none⟩) (Kd.R_types HO_3.out BK313.out (by decide)) (fun _ hk => by first | exact hk.2 | exact hk) (.int .u32 t308)) (fun _ hk => by first | exact hk.2 | exact hk) (.slice Ao67 t309.length co67)) (fun _ hk => trivial)⟩
             have n1_ : Aside0 (Kd.R k33 33 ((w64.setCell ⟨gb313, 0, none⟩ (.int .u32 t308)).setCell ⟨gb313, 1, none⟩ (.slice Ao67 t309.length co67)) w.heap.size (fun _ => True) (.slice Ao67 t309.length co67) t309) := ⟨by (with_reducible repeat (first | apply Kd.R_alloc | apply Kd.R_drewN | apply Kd.R_drew)); exact Kd.R_mono (Kd.R_far (p := ⟨gb313, 1, none⟩) (Kd.R_far (p := ⟨gb313, 0, none⟩) (Kd.R_types HO311.out BK313.out (by decide)) (fun _ hk => by first | exact hk.2 | exact hk) (.int .u32 t308)) (fun _ hk => by first | exact hk.2 | exact hk) (.slice Ao67 t309.length co67)) (fun _ hk => trivial)⟩
             have n2_ : Aside0 (((w64.setCell ⟨gb313, 0, none⟩ (.int .u32 t308)).setCell ⟨gb313, 1, none⟩ (.slice Ao67 t309.length co67)).heap[gb291]? = some (.cells #[.int .u32 a0_0, .slice A0_1 l0_1.length c0_1] 29 (0, 0))) := ⟨by (with_reducible repeat (first | refine blk_drewN ?_ _ | refine blk_drew ?_ | refine blk_alloc ?_ _)); refine blk_far ?_ NB291_313.out _; refine blk_far ?_ NB291_313.out _; (with_reducible repeat (first | refine blk_drewN ?_ _ | refine blk_drew ?_ | refine blk_alloc ?_ _)); exact BK291.out⟩
             have n3_ : Aside0 (((w64.setCell ⟨gb313, 0, none⟩ (.int .u32 t308)).setCell ⟨gb313, 1, none⟩ (.slice Ao67 t309.length co67)).heap[gb313]? = some (.cells #[.int .u32 t308, .slice Ao67 t309.length co67] 29 (0, 0))) := ⟨by (with_reducible repeat (first | refine blk_drewN ?_ _ | refine blk_drew ?_ | refine blk_alloc ?_ _)); refine blk_put (cs := #[.int .u32 t308, .slice none 0 0]) ?_ 1 _ rfl; refine blk_put (cs := #[.int .u32 0, .slice none 0 0]) ?_ 0 _ rfl; (with_reducible repeat (first | refine blk_drewN ?_ _ | refine blk_drew ?_ | refine blk_alloc ?_ _)); exact BK313.out⟩
             have n4_ : Aside0 (Below w.heap.size w ((w64.setCell ⟨gb313, 0, none⟩ (.int .u32 t308)).setCell ⟨gb313, 1, none⟩ (.slice Ao67 t309.length co67))) := ⟨by repeat (first | (with_reducible first | exact HB.out | apply below_alloc | apply pw_below_drewN | apply below_drew1 | refine below_set ?_ GE291.out | refine below_set ?_ GE313.out) | exact HB.out)⟩
             (try clear HO_3)
             (try clear HO311)
             (try clear BK291)
             (try clear BK313)
             (try clear HB)
             generalize ((w64.setCell ⟨gb313, 0, none⟩ (.int .u32 t308)).setCell ⟨gb313, 1, none⟩ (.slice Ao67 t309.length co67)) = w68 at n0_ n1_ n2_ n3_ n4_ ⊢
             have HO_3 := n0_
             have HO311 := n1_
             have BK291 := n2_
             have BK313 := n3_
             have HB := n4_
             clear n0_ n1_ n2_ n3_ n4_
             have n0_ := Aside0.mk (Kd.R_drew HO_3.out)
             have n1_ := Aside0.mk (Kd.R_drew HO311.out)
             have n2_ := Aside0.mk (blk_drew BK291.out)
             have n3_ := Aside0.mk (blk_drew BK313.out)
             have n4_ := Aside0.mk (below_drew1 HB.out)
             clear HO_3
             clear HO311
             clear BK291
             clear BK313
             clear HB
             have HO_3 := n0_
             have HO311 := n1_
             have BK291 := n2_
             have BK313 := n3_
             have HB := n4_
             clear n0_ n1_ n2_ n3_ n4_
             refine start_ (n := 26) (S := fun w' => w'.cell? ⟨gb291, 0, none⟩ = some (.int .u32 a0_0) ∧ w'.cell? ⟨gb291, 1, none⟩ = some (.slice A0_1 l0_1.length c0_1) ∧ (convert 39 9 (.slice Ao61 t294.length co61)).run Try.prog w' = .ok (.string (strOfNums t294)) w') (ds := []) #[false, false, false, false, false, false, false, false, false, false, false, false, false, false, false, false, false, false, false, false, false, false, false, false, false, false] (by kernel_rfl) rfl rfl ⟨(blk_cell BK291.out 0).trans rfl, (blk_cell BK291.out 1).trans rfl, (own_string (P := Try.prog) Try.underlying39 Try.underlying5 Try.underlying9 (Kd.own_of_R HO_3.out))⟩ (fun hHeld => ?_); refine with_tabW fasciclelaw13_FooterPuts.tab9 fasciclelaw13_FooterPuts.bits9 (fun HT_ HW_ => ?_)
             generalize w68.drew = w69 at HO_3 HO311 BK291 BK313 HB hHeld ⊢
             refine pure_ (i := 0) (N := some 47) (v := ?_) (a' := ?_) #[true, false, false, false, false, false, false, false, false, false, false, false, false, false, false, false, false, false, false, false, false, false, false, false, false, false] rfl rfl (any_of HT_.out (by kernel_rfl)) (fun _ _ _ h => h) (Or.inl ⟨by rfl, ?_⟩) ?_ ?_
             rotate_left
             ·
              intro w'
              go_simp
              with_reducible rfl
             rotate_left
             ·
              simp only [Act.put, List.setIfInBounds_toArray, List.set_cons_zero, List.set_cons_succ, i64_w, i32_w]
              rfl
             refine take_ (i := 1) (N := some 48) (v := ?_) (a' := ?_) #[true, true, false, false, false, false, false, false, false, false, false, false, false, false, false, false, false, false, false, false, false, false, false, false, false, false] rfl rfl (take_ofW HT_.out HW_.out (by kernel_rfl)) (fun _ _ _ h => h) (Or.inl ⟨by rfl, ?_⟩) hHeld ?_ ?_
             rotate_left
             ·
              rintro w' ⟨s0, s1, s2⟩
              go_simp
              with_reducible rfl
             rotate_left
             ·
              simp only [Act.put, List.setIfInBounds_toArray, List.set_cons_zero, List.set_cons_succ, i64_w, i32_w]
              rfl
             refine take_ (i := 2) (N := some 49) (v := ?_) (a' := ?_) #[true, true, true, false, false, false, false, false, false, false, false, false, false, false, false, false, false, false, false, false, false, false, false, false, false, false] rfl rfl (take_ofW HT_.out HW_.out (by kernel_rfl)) (fun _ _ _ h => h) (Or.inl ⟨by rfl, ?_⟩) hHeld ?_ ?_
             rotate_left
             ·
              rintro w' ⟨s0, s1, s2⟩
              go_simp
              with_reducible rfl
             rotate_left
             ·
              simp only [Act.put, List.setIfInBounds_toArray, List.set_cons_zero, List.set_cons_succ, i64_w, i32_w]
              rfl
             refine one_ (i := 3) (N := some 50) #[true, true, true, true, false, false, false, false, false, false, false, false, false, false, false, false, false, false, false, false, false, false, false, false, false, false] rfl rfl (one_of HT_.out (by kernel_rfl)) (by decide) (fun K hK => ?_)
             refine goes_ Try.func40 (by kernel_rfl) rfl #[.agg #[.int .u32 a0_0, .slice A0_1 l0_1.length c0_1]] (by rfl) rfl rfl (by (try simp only [List.map_toArray, List.map_cons, List.map_nil]); first | done | rfl) ?_
             with_reducible refine (fasciclelaw13_ref.calls kj12 a0_0 _ _ l0_1 t314 t315 _ ?side1 ?side2 A36.out).mono ?_
             (case side1 => repeat (first | exact (Kd.C_below HR0_1.out HB.out) | (with_reducible refine Kd.C_alloc ?_ _) | (with_reducible refine Kd.C_drewN ?_ _) | (with_reducible refine Kd.C_drew ?_)))
             (case side2 => exact HC0_1.out)
             rintro e w70 ⟨v316, rfl, ho0, hb⟩
             refine ⟨_, rfl, ?_⟩
             have n0_ := Aside0.mk (Kd.R_below (by (with_reducible repeat (first | apply Kd.R_alloc | apply Kd.R_drewN | apply Kd.R_drew)); exact HO_3.out) hb)
             have n1_ := Aside0.mk (Kd.R_below (by (with_reducible repeat (first | apply Kd.R_alloc | apply Kd.R_drewN | apply Kd.R_drew)); exact HO311.out) hb)
             have n2_ := Aside0.mk (Kd.R_lower ho0 (below_size (by repeat with_reducible first | exact HB.out | apply below_alloc | apply pw_below_drewN | apply below_drew1 | refine below_set ?_ GE291.out | refine below_set ?_ GE313.out)))
             have n3_ := Aside0.mk (blk_below (g := gb291) (o := .cells #[.int .u32 a0_0, .slice A0_1 l0_1.length c0_1] 29 (0, 0)) (by (with_reducible repeat (first | refine blk_drewN ?_ _ | refine blk_drew ?_ | refine blk_alloc ?_ _)); exact BK291.out) hb)
             have n4_ := Aside0.mk (blk_below (g := gb313) (o := .cells #[.int .u32 t308, .slice Ao67 t309.length co67] 29 (0, 0)) (by (with_reducible repeat (first | refine blk_drewN ?_ _ | refine blk_drew ?_ | refine blk_alloc ?_ _)); exact BK313.out) hb)
             have n5_ := Aside0.mk (below_step (by repeat with_reducible first | exact HB.out | apply below_alloc | apply pw_below_drewN | apply below_drew1 | refine below_set ?_ GE291.out | refine below_set ?_ GE313.out) hb)
             clear HO_3
             clear HO311
             clear BK291
             clear BK313
             clear HB
             have HO_3 := n0_
             have HO311 := n1_
             have HO317 := n2_
             have BK291 := n3_
             have BK313 := n4_
             have HB := n5_
             clear n0_ n1_ n2_ n3_ n4_ n5_
             (try clear hb)
             (try clear hb2)
             (try clear hk)
             (try clear hi)
             (try clear ho0)
             obtain ⟨Ao71, co71, eo71⟩ := Kd.R_slice HO317.out
             (first | subst eo71 | (injection eo71 with f1_ f2_ f3_; have f4_ := f1_.symm; have f5_ := f3_.symm; clear f1_ f2_ f3_; subst f4_; subst f5_))
             refine hK.out _ _ ⟨(blk_cell BK291.out 0).trans rfl, (blk_cell BK291.out 1).trans rfl, (own_string (P := Try.prog) Try.underlying39 Try.underlying5 Try.underlying9 (Kd.own_of_R HO_3.out))⟩ (fun hHeld => ?_)
             clear hK K
             refine norm_ (a' := ?_) ?_ ?_
             rotate_left
             ·
              show Act.put _ (some 50) _ = _
              simp only [Act.put, List.setIfInBounds_toArray, List.set_cons_zero, List.set_cons_succ, i64_w, i32_w]
              rfl
             refine one_ (i := 4) (N := some 51) #[true, true, true, true, true, false, false, false, false, false, false, false, false, false, false, false, false, false, false, false, false, false, false, false, false, false] rfl rfl (one_of HT_.out (by kernel_rfl)) (by decide) (fun K hK => ?_)
             refine goes_ Try.func41 (by kernel_rfl) rfl #[.agg #[.int .u32 t314, .slice Ao71 t315.length co71]] (by rfl) rfl rfl (by (try simp only [List.map_toArray, List.map_cons, List.map_nil]); first | done | rfl) ?_
             with_reducible refine (fascicleref13_Text.calls kj12 t314 _ _ t315 t318 _ ?side1 ?side2 A37.out).mono ?_
             (case side1 => repeat (first | exact (Kd.R_reads' HO317.out).2.2 | (with_reducible refine Kd.C_alloc ?_ _) | (with_reducible refine Kd.C_drewN ?_ _) | (with_reducible refine Kd.C_drew ?_)))
             (case side2 => exact (Kd.R_reads' HO317.out).2.1)
             rintro e w72 ⟨rfl, hb⟩
             refine ⟨_, rfl, ?_⟩
             have n0_ := Aside0.mk (Kd.R_below (by (with_reducible repeat (first | apply Kd.R_alloc | apply Kd.R_drewN | apply Kd.R_drew)); exact HO_3.out) hb)
             have n1_ := Aside0.mk (Kd.R_below (by (with_reducible repeat (first | apply Kd.R_alloc | apply Kd.R_drewN | apply Kd.R_drew)); exact HO311.out) hb)
             have n2_ := Aside0.mk (Kd.R_below (by (with_reducible repeat (first | apply Kd.R_alloc | apply Kd.R_drewN | apply Kd.R_drew)); exact HO317.out) hb)
             have n3_ := Aside0.mk (blk_below (g := gb291) (o := .cells #[.int .u32 a0_0, .slice A0_1 l0_1.length c0_1] 29 (0, 0)) (by (with_reducible repeat (first | refine blk_drewN ?_ _ | refine blk_drew ?_ | refine blk_alloc ?_ _)); exact BK291.out) hb)
             have n4_ := Aside0.mk (blk_below (g := gb313) (o := .cells #[.int .u32 t308, .slice Ao67 t309.length co67] 29 (0, 0)) (by (with_reducible repeat (first | refine blk_drewN ?_ _ | refine blk_drew ?_ | refine blk_alloc ?_ _)); exact BK313.out) hb)
             have n5_ := Aside0.mk (below_step (by repeat with_reducible first | exact HB.out | apply below_alloc | apply pw_below_drewN | apply below_drew1 | refine below_set ?_ GE291.out | refine below_set ?_ GE313.out) hb)
             clear HO_3
             clear HO311
             clear HO317
             clear BK291
             clear BK313
             clear HB
             have HO_3 := n0_
             have HO311 := n1_
             have HO317 := n2_
             have BK291 := n3_
             have BK313 := n4_
             have HB := n5_
             clear n0_ n1_ n2_ n3_ n4_ n5_
             (try clear hb)
             (try clear hb2)
             (try clear hk)
             (try clear hi)
             refine hK.out _ _ ⟨(blk_cell BK291.out 0).trans rfl, (blk_cell BK291.out 1).trans rfl, (own_string (P := Try.prog) Try.underlying39 Try.underlying5 Try.underlying9 (Kd.own_of_R HO_3.out))⟩ (fun hHeld => ?_)
             clear hK K
             refine norm_ (a' := ?_) ?_ ?_
             rotate_left
             ·
              show Act.put _ (some 51) _ = _
              simp only [Act.put, List.setIfInBounds_toArray, List.set_cons_zero, List.set_cons_succ, i64_w, i32_w]
              rfl
             refine pure_ (i := 5) (N := some 52) (v := ?_) (a' := ?_) #[true, true, true, true, true, true, false, false, false, false, false, false, false, false, false, false, false, false, false, false, false, false, false, false, false, false] rfl rfl (any_of HT_.out (by kernel_rfl)) (fun _ _ _ h => h) (Or.inl ⟨by rfl, ?_⟩) ?_ ?_
             rotate_left
             ·
              intro w'
              go_simp
              with_reducible rfl
             rotate_left
             ·
              simp only [Act.put, List.setIfInBounds_toArray, List.set_cons_zero, List.set_cons_succ, i64_w, i32_w]
              rfl
             refine pure_ (i := 6) (N := some 53) (v := ?_) (a' := ?_) #[true, true, true, true, true, true, true, false, false, false, false, false, false, false, false, false, false, false, false, false, false, false, false, false, false, false] rfl rfl (any_of HT_.out (by kernel_rfl)) (fun _ _ _ h => h) (Or.inl ⟨by rfl, ?_⟩) ?_ ?_
             rotate_left
             ·
              intro w'
              go_simp
              with_reducible rfl
             rotate_left
             ·
              simp only [Act.put, List.setIfInBounds_toArray, List.set_cons_zero, List.set_cons_succ, i64_w, i32_w]
              rfl
             refine pure_ (i := 7) (N := some 54) (v := ?_) (a' := ?_) #[true, true, true, true, true, true, true, true, false, false, false, false, false, false, false, false, false, false, false, false, false, false, false, false, false, false] rfl rfl (any_of HT_.out (by kernel_rfl)) (fun _ _ _ h => h) (Or.inl ⟨by rfl, ?_⟩) ?_ ?_
             rotate_left
             ·
              intro w'
              go_simp
              with_reducible rfl
             rotate_left
             ·
              simp only [Act.put, List.setIfInBounds_toArray, List.set_cons_zero, List.set_cons_succ, i64_w, i32_w]
              rfl
             refine pure_ (i := 8) (N := some 55) (v := ?_) (a' := ?_) #[true, true, true, true, true, true, true, true, true, false, false, false, false, false, false, false, false, false, false, false, false, false, false, false, false, false] rfl rfl (any_of HT_.out (by kernel_rfl)) (fun _ _ _ h => h) (Or.inl ⟨by rfl, ?_⟩) ?_ ?_
             rotate_left
             ·
              intro w'
              go_simp
              with_reducible rfl
             rotate_left
             ·
              simp only [Act.put, List.setIfInBounds_toArray, List.set_cons_zero, List.set_cons_succ, i64_w, i32_w]
              rfl
             refine pure_ (i := 9) (N := some 56) (v := ?_) (a' := ?_) #[true, true, true, true, true, true, true, true, true, true, false, false, false, false, false, false, false, false, false, false, false, false, false, false, false, false] rfl rfl (any_of HT_.out (by kernel_rfl)) (fun _ _ _ h => h) (Or.inl ⟨by rfl, ?_⟩) ?_ ?_
             rotate_left
             ·
              intro w'
              go_simp
              with_reducible rfl
             rotate_left
             ·
              simp only [Act.put, List.setIfInBounds_toArray, List.set_cons_zero, List.set_cons_succ, i64_w, i32_w]
              rfl
             refine take_ (i := 10) (N := some 57) (v := ?_) (a' := ?_) #[true, true, true, true, true, true, true, true, true, true, true, false, false, false, false, false, false, false, false, false, false, false, false, false, false, false] rfl rfl (take_ofW HT_.out HW_.out (by kernel_rfl)) (fun _ _ _ h => h) (Or.inl ⟨by rfl, ?_⟩) hHeld ?_ ?_
             rotate_left
             ·
              rintro w' ⟨s0, s1, s2⟩
              go_simp
              with_reducible rfl
             rotate_left
             ·
              simp only [Act.put, List.setIfInBounds_toArray, List.set_cons_zero, List.set_cons_succ, i64_w, i32_w]
              rfl
             refine pure_ (i := 11) (N := some 58) (v := ?_) (a' := ?_) #[true, true, true, true, true, true, true, true, true, true, true, true, false, false, false, false, false, false, false, false, false, false, false, false, false, false] rfl rfl (any_of HT_.out (by kernel_rfl)) (fun _ _ _ h => h) (Or.inl ⟨by rfl, ?_⟩) ?_ ?_
             rotate_left
             ·
              intro w'
              go_simp
              with_reducible rfl
             rotate_left
             ·
              simp only [Act.put, List.setIfInBounds_toArray, List.set_cons_zero, List.set_cons_succ, i64_w, i32_w]
              rfl
             refine one_ (i := 12) (N := some 59) #[true, true, true, true, true, true, true, true, true, true, true, true, true, false, false, false, false, false, false, false, false, false, false, false, false, false] rfl rfl (one_of HT_.out (by kernel_rfl)) (by decide) (fun K hK => ?_)
             refine goes_ Try.func14 (by kernel_rfl) rfl #[.int .i64 (l0_1.length : Int)] (by rfl) rfl rfl (by (try simp only [List.map_toArray, List.map_cons, List.map_nil]); first | done | rfl) ?_
             with_reducible refine (footer_Most.calls (l0_1.length : Int) t319 _ A39.out).mono ?_
             rintro e w74 ⟨rfl, hb⟩
             refine ⟨_, rfl, ?_⟩
             have n0_ := Aside0.mk (Kd.R_below (by (with_reducible repeat (first | apply Kd.R_alloc | apply Kd.R_drewN | apply Kd.R_drew)); exact HO_3.out) hb)
             have n1_ := Aside0.mk (Kd.R_below (by (with_reducible repeat (first | apply Kd.R_alloc | apply Kd.R_drewN | apply Kd.R_drew)); exact HO311.out) hb)
             have n2_ := Aside0.mk (Kd.R_below (by (with_reducible repeat (first | apply Kd.R_alloc | apply Kd.R_drewN | apply Kd.R_drew)); exact HO317.out) hb)
             have n3_ := Aside0.mk (blk_below (g := gb291) (o := .cells #[.int .u32 a0_0, .slice A0_1 l0_1.length c0_1] 29 (0, 0)) (by (with_reducible repeat (first | refine blk_drewN ?_ _ | refine blk_drew ?_ | refine blk_alloc ?_ _)); exact BK291.out) hb)
             have n4_ := Aside0.mk (blk_below (g := gb313) (o := .cells #[.int .u32 t308, .slice Ao67 t309.length co67] 29 (0, 0)) (by (with_reducible repeat (first | refine blk_drewN ?_ _ | refine blk_drew ?_ | refine blk_alloc ?_ _)); exact BK313.out) hb)
             have n5_ := Aside0.mk (below_step (by repeat with_reducible first | exact HB.out | apply below_alloc | apply pw_below_drewN | apply below_drew1 | refine below_set ?_ GE291.out | refine below_set ?_ GE313.out) hb)
             clear HO_3
             clear HO311
             clear HO317
             clear BK291
             clear BK313
             clear HB
             have HO_3 := n0_
             have HO311 := n1_
             have HO317 := n2_
             have BK291 := n3_
             have BK313 := n4_
             have HB := n5_
             clear n0_ n1_ n2_ n3_ n4_ n5_
             (try clear hb)
             (try clear hb2)
             (try clear hk)
             (try clear hi)
             refine hK.out _ _ ⟨(blk_cell BK291.out 0).trans rfl, (blk_cell BK291.out 1).trans rfl, (own_string (P := Try.prog) Try.underlying39 Try.underlying5 Try.underlying9 (Kd.own_of_R HO_3.out))⟩ (fun hHeld => ?_)
             clear hK K
             refine norm_ (a' := ?_) ?_ ?_
             rotate_left
             ·
              show Act.put _ (some 59) _ = _
              simp only [Act.put, List.setIfInBounds_toArray, List.set_cons_zero, List.set_cons_succ, i64_w, i32_w]
              rfl
             refine pure_ (i := 13) (N := some 60) (v := ?_) (a' := ?_) #[true, true, true, true, true, true, true, true, true, true, true, true, true, true, false, false, false, false, false, false, false, false, false, false, false, false] rfl rfl (any_of HT_.out (by kernel_rfl)) (fun _ _ _ h => h) (Or.inl ⟨by rfl, ?_⟩) ?_ ?_
             rotate_left
             ·
              intro w'
              go_simp
              with_reducible rfl
             rotate_left
             ·
              simp only [Act.put, List.setIfInBounds_toArray, List.set_cons_zero, List.set_cons_succ, i64_w, i32_w]
              rfl
             refine pure_ (i := 14) (N := some 61) (v := ?_) (a' := ?_) #[true, true, true, true, true, true, true, true, true, true, true, true, true, true, true, false, false, false, false, false, false, false, false, false, false, false] rfl rfl (any_of HT_.out (by kernel_rfl)) (fun _ _ _ h => h) (Or.inl ⟨by rfl, ?_⟩) ?_ ?_
             rotate_left
             ·
              intro w'
              go_simp
              with_reducible rfl
             rotate_left
             ·
              simp only [Act.put, List.setIfInBounds_toArray, List.set_cons_zero, List.set_cons_succ, i64_w, i32_w]
              rfl
             refine pure_ (i := 15) (N := some 62) (v := ?_) (a' := ?_) #[true, true, true, true, true, true, true, true, true, true, true, true, true, true, true, true, false, false, false, false, false, false, false, false, false, false] rfl rfl (any_of HT_.out (by kernel_rfl)) (fun _ _ _ h => h) (Or.inl ⟨by rfl, ?_⟩) ?_ ?_
             rotate_left
             ·
              intro w'
              go_simp
              with_reducible rfl
             rotate_left
             ·
              simp only [Act.put, List.setIfInBounds_toArray, List.set_cons_zero, List.set_cons_succ, i64_w, i32_w]
              rfl
             refine pure_ (i := 16) (N := some 63) (v := ?_) (a' := ?_) #[true, true, true, true, true, true, true, true, true, true, true, true, true, true, true, true, true, false, false, false, false, false, false, false, false, false] rfl rfl (any_of HT_.out (by kernel_rfl)) (fun _ _ _ h => h) (Or.inl ⟨by rfl, ?_⟩) ?_ ?_
             rotate_left
             ·
              intro w'
              go_simp
              with_reducible rfl
             rotate_left
             ·
              simp only [Act.put, List.setIfInBounds_toArray, List.set_cons_zero, List.set_cons_succ, i64_w, i32_w]
              rfl
             refine pure_ (i := 17) (N := some 64) (v := ?_) (a' := ?_) #[true, true, true, true, true, true, true, true, true, true, true, true, true, true, true, true, true, true, false, false, false, false, false, false, false, false] rfl rfl (any_of HT_.out (by kernel_rfl)) (fun _ _ _ h => h) (Or.inl ⟨by rfl, ?_⟩) ?_ ?_
             rotate_left
             ·
              intro w'
              go_simp
              with_reducible rfl
             rotate_left
             ·
              simp only [Act.put, List.setIfInBounds_toArray, List.set_cons_zero, List.set_cons_succ, i64_w, i32_w]
              rfl
             refine pure_ (i := 18) (N := some 65) (v := ?_) (a' := ?_) #[true, true, true, true, true, true, true, true, true, true, true, true, true, true, true, true, true, true, true, false, false, false, false, false, false, false] rfl rfl (any_of HT_.out (by kernel_rfl)) (fun _ _ _ h => h) (Or.inl ⟨by rfl, ?_⟩) ?_ ?_
             rotate_left
             ·
              intro w'
              go_simp
              with_reducible rfl
             rotate_left
             ·
              simp only [Act.put, List.setIfInBounds_toArray, List.set_cons_zero, List.set_cons_succ, i64_w, i32_w]
              rfl
             refine pure_ (i := 19) (N := some 66) (v := ?_) (a' := ?_) #[true, true, true, true, true, true, true, true, true, true, true, true, true, true, true, true, true, true, true, true, false, false, false, false, false, false] rfl rfl (any_of HT_.out (by kernel_rfl)) (fun _ _ _ h => h) (Or.inl ⟨by rfl, ?_⟩) ?_ ?_
             rotate_left
             ·
              intro w'
              go_simp
              with_reducible rfl
             rotate_left
             ·
              simp only [Act.put, List.setIfInBounds_toArray, List.set_cons_zero, List.set_cons_succ, i64_w, i32_w]
              rfl
             refine pure_ (i := 20) (N := some 67) (v := undef) (a' := ?_) #[true, true, true, true, true, true, true, true, true, true, true, true, true, true, true, true, true, true, true, true, true, false, false, false, false, false] rfl rfl (any_of HT_.out (by kernel_rfl)) (fun _ _ _ h => h) (Or.inr ⟨by rfl, rfl⟩) ?_ ?_
             rotate_left
             ·
              simp only [Act.put, List.setIfInBounds_toArray, List.set_cons_zero, List.set_cons_succ, i64_w, i32_w]
              rfl
             refine pure_ (i := 21) (N := some 68) (v := undef) (a' := ?_) #[true, true, true, true, true, true, true, true, true, true, true, true, true, true, true, true, true, true, true, true, true, true, false, false, false, false] rfl rfl (any_of HT_.out (by kernel_rfl)) (fun _ _ _ h => h) (Or.inr ⟨by rfl, rfl⟩) ?_ ?_
             rotate_left
             ·
              simp only [Act.put, List.setIfInBounds_toArray, List.set_cons_zero, List.set_cons_succ, i64_w, i32_w]
              rfl
             refine pure_ (i := 22) (N := some 69) (v := undef) (a' := ?_) #[true, true, true, true, true, true, true, true, true, true, true, true, true, true, true, true, true, true, true, true, true, true, true, false, false, false] rfl rfl (any_of HT_.out (by kernel_rfl)) (fun _ _ _ h => h) (Or.inr ⟨by rfl, rfl⟩) ?_ ?_
             rotate_left
             ·
              simp only [Act.put, List.setIfInBounds_toArray, List.set_cons_zero, List.set_cons_succ, i64_w, i32_w]
              rfl
             refine pure_ (i := 23) (N := some 70) (v := undef) (a' := ?_) #[true, true, true, true, true, true, true, true, true, true, true, true, true, true, true, true, true, true, true, true, true, true, true, true, false, false] rfl rfl (any_of HT_.out (by kernel_rfl)) (fun _ _ _ h => h) (Or.inr ⟨by rfl, rfl⟩) ?_ ?_
             rotate_left
             ·
              simp only [Act.put, List.setIfInBounds_toArray, List.set_cons_zero, List.set_cons_succ, i64_w, i32_w]
              rfl
             refine pure_ (i := 24) (N := some 71) (v := ?_) (a' := ?_) #[true, true, true, true, true, true, true, true, true, true, true, true, true, true, true, true, true, true, true, true, true, true, true, true, true, false] rfl rfl (any_of HT_.out (by kernel_rfl)) (fun _ _ _ h => h) (Or.inl ⟨by rfl, ?_⟩) ?_ ?_
             rotate_left
             ·
              intro w'
              go_simp
              with_reducible rfl
             rotate_left
             ·
              simp only [Act.put, List.setIfInBounds_toArray, List.set_cons_zero, List.set_cons_succ, i64_w, i32_w]
              rfl
             refine pure_ (i := 25) (N := some 2) (v := ?_) (a' := ?_) #[true, true, true, true, true, true, true, true, true, true, true, true, true, true, true, true, true, true, true, true, true, true, true, true, true, true] rfl rfl (any_of HT_.out (by kernel_rfl)) (fun _ _ _ h => h) (Or.inl ⟨by rfl, ?_⟩) ?_ ?_
             rotate_left
             ·
              intro w'
              go_simp
              with_reducible rfl
             rotate_left
             ·
              simp only [Act.put, List.setIfInBounds_toArray, List.set_cons_zero, List.set_cons_succ, i64_w, i32_w]
              rfl
             refine done_ (done_of HT_.out (by kernel_rfl)) ?_
             try go_wp2
             go_ret
             exact ⟨by first | rfl | (simp [errW_none, errW_some] <;> rfl) | (simp only [← hji32]; first | rfl | (simp [errW_none, errW_some] <;> rfl)) | (simp [*, errW_none, errW_some] <;> rfl), by repeat (first | (with_reducible first | exact HB.out | apply below_alloc | apply pw_below_drewN | apply below_drew1 | refine below_set ?_ GE291.out | refine below_set ?_ GE313.out) | exact HB.out)⟩
           ·
            rw [if_neg c40] at H
            have c40b0 : decide ((t294.length : Int) ≤ t319) = false := decide_eq_false c40
            clear c40
            obtain rfl := Option.some.inj H
            obtain ⟨Ao75, co75, eo75⟩ := Kd.R_slice HO_3.out
            subst eo75
            have q76 : ((ji32) : Int) ≤ ((t294.length : Int) : Int) := of_decide_eq_true (by first | (with_reducible assumption) | assumption)
            obtain ⟨i076, hi076, _, hsz76, _⟩ := info_parts info5
            have hroom76 : t294.length ≤ co75 := (Kd.R_reads' HO_3.out).2.1
            have hC76 : Kd.C (Kd.int .u8) _ Ao75 t294.length t294 := (Kd.R_reads' HO_3.out).2.2
            have hcut76 := cut_to (P := Try.prog) 39 5 .i64 Try.underlying39 hi076 Ao75 t294.length co75 (ji32) (of_decide_eq_true (by first | (with_reducible assumption) | assumption)) q76 hroom76
            have hr76 := Kd.C_take (m := ((ji32) : Int).toNat) hC76 (by omega)
            have hy76 : y304.length = ((ji32) : Int).toNat := (by rw [Ny304.out, List.length_take]; omega)
            rw [← Ny304.out] at hr76
            rw [← hy76] at hcut76
            have HR307 := Aside0.mk hr76
            have HC307 := Aside0.mk (show y304.length ≤ co75 from by omega)
            clear hr76 hC76 hroom76 hi076 hsz76
            have KY76 := Aside0.mk hy76
            clear hy76
            have KL76 := Aside0.mk (show ((ji32) : Int).toNat ≤ t294.length from by omega)
            replace q76 := eq_true q76
            try go_wp2_with (first | ((with_reducible refine gate_callee (f := 35) rfl ?_); refine goesL_ (some 44) rfl rfl Try.func35 (by kernel_rfl) rfl #[.slice Ao75 y304.length co75] rfl (by (try simp only [List.map_toArray, List.map_cons, List.map_nil]); first | done | rfl) ?_; (with_reducible refine (footer_Get.calls _ _ y304 t308 t309 t312 _ ?side1 ?side2 A35.out).mono ?_); (case side1 => repeat (first | exact (by repeat (first | (with_reducible exact HR307.out) | (with_reducible refine Kd.C_alloc ?_ _) | (with_reducible refine Kd.C_drewN ?_ _) | (with_reducible refine Kd.C_drew ?_) | exact HR307.out)) | (with_reducible refine Kd.C_alloc ?_ _) | (with_reducible refine Kd.C_drewN ?_ _) | (with_reducible refine Kd.C_drew ?_))); (case side2 => exact HC307.out); rintro e w77 ⟨v310, rfl, ho0, hb⟩; refine ⟨_, rfl, ?_⟩; replace HO_3 := Aside0.mk (Kd.R_below (by (with_reducible repeat (first | apply Kd.R_alloc | apply Kd.R_drewN | apply Kd.R_drew)); exact HO_3.out) hb); have HO311 := Aside0.mk (Kd.R_lower ho0 (below_size (by repeat with_reducible first | exact HB.out | apply below_alloc | apply pw_below_drewN | apply below_drew1 | refine below_set ?_ GE291.out))); replace BK291 := Aside0.mk (blk_below (g := gb291) (o := .cells #[.int .u32 a0_0, .slice A0_1 l0_1.length c0_1] 29 (0, 0)) (by (with_reducible repeat (first | refine blk_drewN ?_ _ | refine blk_drew ?_ | refine blk_alloc ?_ _)); exact BK291.out) hb); replace HR307 := Aside0.mk (Kd.C_below (by repeat (first | (with_reducible exact HR307.out) | (with_reducible refine Kd.C_alloc ?_ _) | (with_reducible refine Kd.C_drewN ?_ _) | (with_reducible refine Kd.C_drew ?_) | exact HR307.out)) hb); replace HB := Aside0.mk (below_step (by repeat with_reducible first | exact HB.out | apply below_alloc | apply pw_below_drewN | apply below_drew1 | refine below_set ?_ GE291.out) hb); (try clear hb); (try clear ho0)) | ((with_reducible refine gate_dst (N := 5) rfl ?_); (try (refine gate_guard (by rfl) ?_; dsimp only)); refine box_event ?hg (N := 5) ?hd (cs := #[.int .u32 0, .slice none 0 0]) (t := 29) ?hr ?_; (case hd => rfl); (case hg => rfl); (case hr => first | (go_simp; done) | (go_simp; rfl)); intro gb313 hg w78 hbox hb; have n0_ := Aside0.mk (Kd.R_below (by (with_reducible repeat (first | apply Kd.R_alloc | apply Kd.R_drewN | apply Kd.R_drew)); exact HO_3.out) hb); have n1_ := Aside0.mk (Kd.R_below (by (with_reducible repeat (first | apply Kd.R_alloc | apply Kd.R_drewN | apply Kd.R_drew)); exact HO311.out) hb); have n2_ := Aside0.mk (blk_below (g := gb291) (o := .cells #[.int .u32 a0_0, .slice A0_1 l0_1.length c0_1] 29 (0, 0)) (by (with_reducible repeat (first | refine blk_drewN ?_ _ | refine blk_drew ?_ | refine blk_alloc ?_ _)); exact BK291.out) hb); have n3_ := Aside0.mk (Kd.C_below (by repeat (first | (with_reducible exact HR307.out) | (with_reducible refine Kd.C_alloc ?_ _) | (with_reducible refine Kd.C_drewN ?_ _) | (with_reducible refine Kd.C_drew ?_) | exact HR307.out)) hb); have n4_ := Aside0.mk (below_step (by repeat with_reducible first | exact HB.out | apply below_alloc | apply pw_below_drewN | apply below_drew1 | refine below_set ?_ GE291.out) hb); have n5_ := Aside0.mk (hbox); have n6_ := Aside0.mk ((by rw [hg]; exact (below_size (by repeat with_reducible first | exact HB.out | apply below_alloc | apply pw_below_drewN | apply below_drew1 | refine below_set ?_ GE291.out)) : w.heap.size ≤ gb313)); have n7_ := Aside0.mk ((by rw [hg]; exact (below_size (by repeat with_reducible first | exact HB.out | apply below_alloc | apply pw_below_drewN | apply below_drew1 | refine below_set ?_ GE291.out)) : w.heap.size ≤ gb313)); have n8_ := Aside0.mk ((by rw [hg]; exact Nat.ne_of_lt (blk_lt (g := gb291) (o := .cells #[.int .u32 a0_0, .slice A0_1 l0_1.length c0_1] 29 (0, 0)) (by (with_reducible repeat (first | refine blk_drewN ?_ _ | refine blk_drew ?_ | refine blk_alloc ?_ _)); exact BK291.out)) : gb291 ≠ gb313)); have n9_ := Aside0.mk ((by rw [hg]; exact Nat.ne_of_gt (blk_lt (g := gb291) (o := .cells #[.int .u32 a0_0, .slice A0_1 l0_1.length c0_1] 29 (0, 0)) (by (with_reducible repeat (first | refine blk_drewN ?_ _ | refine blk_drew ?_ | refine blk_alloc ?_ _)); exact BK291.out)) : gb313 ≠ gb291)); clear HO_3; clear HO311; clear BK291; clear HR307; clear HB; have HO_3 := n0_; have HO311 := n1_; have BK291 := n2_; have HR307 := n3_; have HB := n4_; have BK313 := n5_; have GW313 := n6_; have GE313 := n7_; have NB291_313 := n8_; have NB313_291 := n9_; clear n0_ n1_ n2_ n3_ n4_ n5_ n6_ n7_ n8_ n9_; clear hb hbox hg; have hnb79 := NB313_291.out; have hnc79 := NB291_313.out; have hcz80_0 : w78.cell? ⟨gb313, 0, none⟩ = some (.int .u32 0) := (blk_cell BK313.out 0).trans rfl; have hcz80_1 : w78.cell? ⟨gb313, 1, none⟩ = some (.slice none 0 0) := (blk_cell BK313.out 1).trans rfl; have hfz80_0 := blk_frozen BK313.out 0; have hfz80_1 := blk_frozen BK313.out 1; obtain ⟨Ao81, co81, eo81⟩ := Kd.R_slice HO311.out; subst eo81))
            have n0_ : Aside0 (Kd.R (Kd.int .u8) 5 ((w78.setCell ⟨gb313, 0, none⟩ (.int .u32 t308)).setCell ⟨gb313, 1, none⟩ (.slice Ao81 t309.length co81)) w.heap.size (fun _ => True) (.slice Ao75 t294.length co75) t294) := ⟨by (with_reducible repeat (first | apply Kd.R_alloc | apply Kd.R_drewN | apply Kd.R_drew)); exact Kd.R_mono (Kd.R_far (p := ⟨gb313, 1, none⟩) (Kd.R_far (p := ⟨gb313, 0, none⟩) (Kd.R_types HO_3.out BK313.out (by decide)) (fun _ hk => by first | exact hk.2 | exact hk) (.int .u32 t308)) (fun _ hk => by first | exact hk.2 | exact hk) (.slice Ao81 t309.length co81)) (fun _ hk => trivial)⟩
            have n1_ : Aside0 (Kd.R k33 33 ((w78.setCell ⟨gb313, 0, none⟩ (.int .u32 t308)).setCell ⟨gb313, 1, none⟩ (.slice Ao81 t309.length co81)) w.heap.size (fun _ => True) (.slice Ao81 t309.length co81) t309) := ⟨by (with_reducible repeat (first | apply Kd.R_alloc | apply Kd.R_drewN | apply Kd.R_drew)); exact Kd.R_mono (Kd.R_far (p := ⟨gb313, 1, none⟩) (Kd.R_far (p := ⟨gb313, 0, none⟩) (Kd.R_types HO311.out BK313.out (by decide)) (fun _ hk => by first | exact hk.2 | exact hk) (.int .u32 t308)) (fun _ hk => by first | exact hk.2 | exact hk) (.slice Ao81 t309.length co81)) (fun _ hk => trivial)⟩
            have n2_ : Aside0 (((w78.setCell ⟨gb313, 0, none⟩ (.int .u32 t308)).setCell ⟨gb313, 1, none⟩ (.slice Ao81 t309.length co81)).heap[gb291]? = some (.cells #[.int .u32 a0_0, .slice A0_1 l0_1.length c0_1] 29 (0, 0))) := ⟨by (with_reducible repeat (first | refine blk_drewN ?_ _ | refine blk_drew ?_ | refine blk_alloc ?_ _)); refine blk_far ?_ NB291_313.out _; refine blk_far ?_ NB291_313.out _; (with_reducible repeat (first | refine blk_drewN ?_ _ | refine blk_drew ?_ | refine blk_alloc ?_ _)); exact BK291.out⟩
            have n3_ : Aside0 (((w78.setCell ⟨gb313, 0, none⟩ (.int .u32 t308)).setCell ⟨gb313, 1, none⟩ (.slice Ao81 t309.length co81)).heap[gb313]? = some (.cells #[.int .u32 t308, .slice Ao81 t309.length co81] 29 (0, 0))) := ⟨by (with_reducible repeat (first | refine blk_drewN ?_ _ | refine blk_drew ?_ | refine blk_alloc ?_ _)); refine blk_put (cs := #[.int .u32 t308, .slice none 0 0]) ?_ 1 _ rfl; refine blk_put (cs := #[.int .u32 0, .slice none 0 0]) ?_ 0 _ rfl; (with_reducible repeat (first | refine blk_drewN ?_ _ | refine blk_drew ?_ | refine blk_alloc ?_ _)); exact BK313.out⟩
            have n4_ : Aside0 (Below w.heap.size w ((w78.setCell ⟨gb313, 0, none⟩ (.int .u32 t308)).setCell ⟨gb313, 1, none⟩ (.slice Ao81 t309.length co81))) := ⟨by repeat (first | (with_reducible first | exact HB.out | apply below_alloc | apply pw_below_drewN | apply below_drew1 | refine below_set ?_ GE291.out | refine below_set ?_ GE313.out) | exact HB.out)⟩
            (try clear HO_3)
            (try clear HO311)
            (try clear BK291)
            (try clear BK313)
            (try clear HB)
            generalize ((w78.setCell ⟨gb313, 0, none⟩ (.int .u32 t308)).setCell ⟨gb313, 1, none⟩ (.slice Ao81 t309.length co81)) = w82 at n0_ n1_ n2_ n3_ n4_ ⊢
            have HO_3 := n0_
            have HO311 := n1_
            have BK291 := n2_
            have BK313 := n3_
            have HB := n4_
            clear n0_ n1_ n2_ n3_ n4_
            have n0_ := Aside0.mk (Kd.R_drew HO_3.out)
            have n1_ := Aside0.mk (Kd.R_drew HO311.out)
            have n2_ := Aside0.mk (blk_drew BK291.out)
            have n3_ := Aside0.mk (blk_drew BK313.out)
            have n4_ := Aside0.mk (below_drew1 HB.out)
            clear HO_3
            clear HO311
            clear BK291
            clear BK313
            clear HB
            have HO_3 := n0_
            have HO311 := n1_
            have BK291 := n2_
            have BK313 := n3_
            have HB := n4_
            clear n0_ n1_ n2_ n3_ n4_
            refine start_ (n := 26) (S := fun w' => w'.cell? ⟨gb291, 0, none⟩ = some (.int .u32 a0_0) ∧ w'.cell? ⟨gb291, 1, none⟩ = some (.slice A0_1 l0_1.length c0_1) ∧ (convert 39 9 (.slice Ao75 t294.length co75)).run Try.prog w' = .ok (.string (strOfNums t294)) w') (ds := []) #[false, false, false, false, false, false, false, false, false, false, false, false, false, false, false, false, false, false, false, false, false, false, false, false, false, false] (by kernel_rfl) rfl rfl ⟨(blk_cell BK291.out 0).trans rfl, (blk_cell BK291.out 1).trans rfl, (own_string (P := Try.prog) Try.underlying39 Try.underlying5 Try.underlying9 (Kd.own_of_R HO_3.out))⟩ (fun hHeld => ?_); refine with_tabW fasciclelaw13_FooterPuts.tab9 fasciclelaw13_FooterPuts.bits9 (fun HT_ HW_ => ?_)
            generalize w82.drew = w83 at HO_3 HO311 BK291 BK313 HB hHeld ⊢
            refine pure_ (i := 0) (N := some 47) (v := ?_) (a' := ?_) #[true, false, false, false, false, false, false, false, false, false, false, false, false, false, false, false, false, false, false, false, false, false, false, false, false, false] rfl rfl (any_of HT_.out (by kernel_rfl)) (fun _ _ _ h => h) (Or.inl ⟨by rfl, ?_⟩) ?_ ?_
            rotate_left
            ·
             intro w'
             go_simp
             with_reducible rfl
            rotate_left
            ·
             simp only [Act.put, List.setIfInBounds_toArray, List.set_cons_zero, List.set_cons_succ, i64_w, i32_w]
             rfl
            refine take_ (i := 1) (N := some 48) (v := ?_) (a' := ?_) #[true, true, false, false, false, false, false, false, false, false, false, false, false, false, false, false, false, false, false, false, false, false, false, false, false, false] rfl rfl (take_ofW HT_.out HW_.out (by kernel_rfl)) (fun _ _ _ h => h) (Or.inl ⟨by rfl, ?_⟩) hHeld ?_ ?_
            rotate_left
            ·
             rintro w' ⟨s0, s1, s2⟩
             go_simp
             with_reducible rfl
            rotate_left
            ·
             simp only [Act.put, List.setIfInBounds_toArray, List.set_cons_zero, List.set_cons_succ, i64_w, i32_w]
             rfl
            refine take_ (i := 2) (N := some 49) (v := ?_) (a' := ?_) #[true, true, true, false, false, false, false, false, false, false, false, false, false, false, false, false, false, false, false, false, false, false, false, false, false, false] rfl rfl (take_ofW HT_.out HW_.out (by kernel_rfl)) (fun _ _ _ h => h) (Or.inl ⟨by rfl, ?_⟩) hHeld ?_ ?_
            rotate_left
            ·
             rintro w' ⟨s0, s1, s2⟩
             go_simp
             with_reducible rfl
            rotate_left
            ·
             simp only [Act.put, List.setIfInBounds_toArray, List.set_cons_zero, List.set_cons_succ, i64_w, i32_w]
             rfl
            refine one_ (i := 3) (N := some 50) #[true, true, true, true, false, false, false, false, false, false, false, false, false, false, false, false, false, false, false, false, false, false, false, false, false, false] rfl rfl (one_of HT_.out (by kernel_rfl)) (by decide) (fun K hK => ?_)
            refine goes_ Try.func40 (by kernel_rfl) rfl #[.agg #[.int .u32 a0_0, .slice A0_1 l0_1.length c0_1]] (by rfl) rfl rfl (by (try simp only [List.map_toArray, List.map_cons, List.map_nil]); first | done | rfl) ?_
            with_reducible refine (fasciclelaw13_ref.calls kj12 a0_0 _ _ l0_1 t314 t315 _ ?side1 ?side2 A36.out).mono ?_
            (case side1 => repeat (first | exact (Kd.C_below HR0_1.out HB.out) | (with_reducible refine Kd.C_alloc ?_ _) | (with_reducible refine Kd.C_drewN ?_ _) | (with_reducible refine Kd.C_drew ?_)))
            (case side2 => exact HC0_1.out)
            rintro e w84 ⟨v316, rfl, ho0, hb⟩
            refine ⟨_, rfl, ?_⟩
            have n0_ := Aside0.mk (Kd.R_below (by (with_reducible repeat (first | apply Kd.R_alloc | apply Kd.R_drewN | apply Kd.R_drew)); exact HO_3.out) hb)
            have n1_ := Aside0.mk (Kd.R_below (by (with_reducible repeat (first | apply Kd.R_alloc | apply Kd.R_drewN | apply Kd.R_drew)); exact HO311.out) hb)
            have n2_ := Aside0.mk (Kd.R_lower ho0 (below_size (by repeat with_reducible first | exact HB.out | apply below_alloc | apply pw_below_drewN | apply below_drew1 | refine below_set ?_ GE291.out | refine below_set ?_ GE313.out)))
            have n3_ := Aside0.mk (blk_below (g := gb291) (o := .cells #[.int .u32 a0_0, .slice A0_1 l0_1.length c0_1] 29 (0, 0)) (by (with_reducible repeat (first | refine blk_drewN ?_ _ | refine blk_drew ?_ | refine blk_alloc ?_ _)); exact BK291.out) hb)
            have n4_ := Aside0.mk (blk_below (g := gb313) (o := .cells #[.int .u32 t308, .slice Ao81 t309.length co81] 29 (0, 0)) (by (with_reducible repeat (first | refine blk_drewN ?_ _ | refine blk_drew ?_ | refine blk_alloc ?_ _)); exact BK313.out) hb)
            have n5_ := Aside0.mk (below_step (by repeat with_reducible first | exact HB.out | apply below_alloc | apply pw_below_drewN | apply below_drew1 | refine below_set ?_ GE291.out | refine below_set ?_ GE313.out) hb)
            clear HO_3
            clear HO311
            clear BK291
            clear BK313
            clear HB
            have HO_3 := n0_
            have HO311 := n1_
            have HO317 := n2_
            have BK291 := n3_
            have BK313 := n4_
            have HB := n5_
            clear n0_ n1_ n2_ n3_ n4_ n5_
            (try clear hb)
            (try clear hb2)
            (try clear hk)
            (try clear hi)
            (try clear ho0)
            obtain ⟨Ao85, co85, eo85⟩ := Kd.R_slice HO317.out
            (first | subst eo85 | (injection eo85 with f1_ f2_ f3_; have f4_ := f1_.symm; have f5_ := f3_.symm; clear f1_ f2_ f3_; subst f4_; subst f5_))
            refine hK.out _ _ ⟨(blk_cell BK291.out 0).trans rfl, (blk_cell BK291.out 1).trans rfl, (own_string (P := Try.prog) Try.underlying39 Try.underlying5 Try.underlying9 (Kd.own_of_R HO_3.out))⟩ (fun hHeld => ?_)
            clear hK K
            refine norm_ (a' := ?_) ?_ ?_
            rotate_left
            ·
             show Act.put _ (some 50) _ = _
             simp only [Act.put, List.setIfInBounds_toArray, List.set_cons_zero, List.set_cons_succ, i64_w, i32_w]
             rfl
            refine one_ (i := 4) (N := some 51) #[true, true, true, true, true, false, false, false, false, false, false, false, false, false, false, false, false, false, false, false, false, false, false, false, false, false] rfl rfl (one_of HT_.out (by kernel_rfl)) (by decide) (fun K hK => ?_)
            refine goes_ Try.func41 (by kernel_rfl) rfl #[.agg #[.int .u32 t314, .slice Ao85 t315.length co85]] (by rfl) rfl rfl (by (try simp only [List.map_toArray, List.map_cons, List.map_nil]); first | done | rfl) ?_
            with_reducible refine (fascicleref13_Text.calls kj12 t314 _ _ t315 t318 _ ?side1 ?side2 A37.out).mono ?_
            (case side1 => repeat (first | exact (Kd.R_reads' HO317.out).2.2 | (with_reducible refine Kd.C_alloc ?_ _) | (with_reducible refine Kd.C_drewN ?_ _) | (with_reducible refine Kd.C_drew ?_)))
            (case side2 => exact (Kd.R_reads' HO317.out).2.1)
            rintro e w86 ⟨rfl, hb⟩
            refine ⟨_, rfl, ?_⟩
            have n0_ := Aside0.mk (Kd.R_below (by (with_reducible repeat (first | apply Kd.R_alloc | apply Kd.R_drewN | apply Kd.R_drew)); exact HO_3.out) hb)
            have n1_ := Aside0.mk (Kd.R_below (by (with_reducible repeat (first | apply Kd.R_alloc | apply Kd.R_drewN | apply Kd.R_drew)); exact HO311.out) hb)
            have n2_ := Aside0.mk (Kd.R_below (by (with_reducible repeat (first | apply Kd.R_alloc | apply Kd.R_drewN | apply Kd.R_drew)); exact HO317.out) hb)
            have n3_ := Aside0.mk (blk_below (g := gb291) (o := .cells #[.int .u32 a0_0, .slice A0_1 l0_1.length c0_1] 29 (0, 0)) (by (with_reducible repeat (first | refine blk_drewN ?_ _ | refine blk_drew ?_ | refine blk_alloc ?_ _)); exact BK291.out) hb)
            have n4_ := Aside0.mk (blk_below (g := gb313) (o := .cells #[.int .u32 t308, .slice Ao81 t309.length co81] 29 (0, 0)) (by (with_reducible repeat (first | refine blk_drewN ?_ _ | refine blk_drew ?_ | refine blk_alloc ?_ _)); exact BK313.out) hb)
            have n5_ := Aside0.mk (below_step (by repeat with_reducible first | exact HB.out | apply below_alloc | apply pw_below_drewN | apply below_drew1 | refine below_set ?_ GE291.out | refine below_set ?_ GE313.out) hb)
            clear HO_3
            clear HO311
            clear HO317
            clear BK291
            clear BK313
            clear HB
            have HO_3 := n0_
            have HO311 := n1_
            have HO317 := n2_
            have BK291 := n3_
            have BK313 := n4_
            have HB := n5_
            clear n0_ n1_ n2_ n3_ n4_ n5_
            (try clear hb)
            (try clear hb2)
            (try clear hk)
            (try clear hi)
            refine hK.out _ _ ⟨(blk_cell BK291.out 0).trans rfl, (blk_cell BK291.out 1).trans rfl, (own_string (P := Try.prog) Try.underlying39 Try.underlying5 Try.underlying9 (Kd.own_of_R HO_3.out))⟩ (fun hHeld => ?_)
            clear hK K
            refine norm_ (a' := ?_) ?_ ?_
            rotate_left
            ·
             show Act.put _ (some 51) _ = _
             simp only [Act.put, List.setIfInBounds_toArray, List.set_cons_zero, List.set_cons_succ, i64_w, i32_w]
             rfl
            refine pure_ (i := 5) (N := some 52) (v := ?_) (a' := ?_) #[true, true, true, true, true, true, false, false, false, false, false, false, false, false, false, false, false, false, false, false, false, false, false, false, false, false] rfl rfl (any_of HT_.out (by kernel_rfl)) (fun _ _ _ h => h) (Or.inl ⟨by rfl, ?_⟩) ?_ ?_
            rotate_left
            ·
             intro w'
             go_simp
             with_reducible rfl
            rotate_left
            ·
             simp only [Act.put, List.setIfInBounds_toArray, List.set_cons_zero, List.set_cons_succ, i64_w, i32_w]
             rfl
            refine pure_ (i := 6) (N := some 53) (v := ?_) (a' := ?_) #[true, true, true, true, true, true, true, false, false, false, false, false, false, false, false, false, false, false, false, false, false, false, false, false, false, false] rfl rfl (any_of HT_.out (by kernel_rfl)) (fun _ _ _ h => h) (Or.inl ⟨by rfl, ?_⟩) ?_ ?_
            rotate_left
            ·
             intro w'
             go_simp
             with_reducible rfl
            rotate_left
            ·
             simp only [Act.put, List.setIfInBounds_toArray, List.set_cons_zero, List.set_cons_succ, i64_w, i32_w]
             rfl
            refine pure_ (i := 7) (N := some 54) (v := ?_) (a' := ?_) #[true, true, true, true, true, true, true, true, false, false, false, false, false, false, false, false, false, false, false, false, false, false, false, false, false, false] rfl rfl (any_of HT_.out (by kernel_rfl)) (fun _ _ _ h => h) (Or.inl ⟨by rfl, ?_⟩) ?_ ?_
            rotate_left
            ·
             intro w'
             go_simp
             with_reducible rfl
            rotate_left
            ·
             simp only [Act.put, List.setIfInBounds_toArray, List.set_cons_zero, List.set_cons_succ, i64_w, i32_w]
             rfl
            refine pure_ (i := 8) (N := some 55) (v := ?_) (a' := ?_) #[true, true, true, true, true, true, true, true, true, false, false, false, false, false, false, false, false, false, false, false, false, false, false, false, false, false] rfl rfl (any_of HT_.out (by kernel_rfl)) (fun _ _ _ h => h) (Or.inl ⟨by rfl, ?_⟩) ?_ ?_
            rotate_left
            ·
             intro w'
             go_simp
             with_reducible rfl
            rotate_left
            ·
             simp only [Act.put, List.setIfInBounds_toArray, List.set_cons_zero, List.set_cons_succ, i64_w, i32_w]
             rfl
            refine pure_ (i := 9) (N := some 56) (v := ?_) (a' := ?_) #[true, true, true, true, true, true, true, true, true, true, false, false, false, false, false, false, false, false, false, false, false, false, false, false, false, false] rfl rfl (any_of HT_.out (by kernel_rfl)) (fun _ _ _ h => h) (Or.inl ⟨by rfl, ?_⟩) ?_ ?_
            rotate_left
            ·
             intro w'
             go_simp
             with_reducible rfl
            rotate_left
            ·
             simp only [Act.put, List.setIfInBounds_toArray, List.set_cons_zero, List.set_cons_succ, i64_w, i32_w]
             rfl
            refine take_ (i := 10) (N := some 57) (v := ?_) (a' := ?_) #[true, true, true, true, true, true, true, true, true, true, true, false, false, false, false, false, false, false, false, false, false, false, false, false, false, false] rfl rfl (take_ofW HT_.out HW_.out (by kernel_rfl)) (fun _ _ _ h => h) (Or.inl ⟨by rfl, ?_⟩) hHeld ?_ ?_
            rotate_left
            ·
             rintro w' ⟨s0, s1, s2⟩
             go_simp
             with_reducible rfl
            rotate_left
            ·
             simp only [Act.put, List.setIfInBounds_toArray, List.set_cons_zero, List.set_cons_succ, i64_w, i32_w]
             rfl
            refine pure_ (i := 11) (N := some 58) (v := ?_) (a' := ?_) #[true, true, true, true, true, true, true, true, true, true, true, true, false, false, false, false, false, false, false, false, false, false, false, false, false, false] rfl rfl (any_of HT_.out (by kernel_rfl)) (fun _ _ _ h => h) (Or.inl ⟨by rfl, ?_⟩) ?_ ?_
            rotate_left
            ·
             intro w'
             go_simp
             with_reducible rfl
            rotate_left
            ·
             simp only [Act.put, List.setIfInBounds_toArray, List.set_cons_zero, List.set_cons_succ, i64_w, i32_w]
             rfl
            refine one_ (i := 12) (N := some 59) #[true, true, true, true, true, true, true, true, true, true, true, true, true, false, false, false, false, false, false, false, false, false, false, false, false, false] rfl rfl (one_of HT_.out (by kernel_rfl)) (by decide) (fun K hK => ?_)
            refine goes_ Try.func14 (by kernel_rfl) rfl #[.int .i64 (l0_1.length : Int)] (by rfl) rfl rfl (by (try simp only [List.map_toArray, List.map_cons, List.map_nil]); first | done | rfl) ?_
            with_reducible refine (footer_Most.calls (l0_1.length : Int) t319 _ A39.out).mono ?_
            rintro e w88 ⟨rfl, hb⟩
            refine ⟨_, rfl, ?_⟩
            have n0_ := Aside0.mk (Kd.R_below (by (with_reducible repeat (first | apply Kd.R_alloc | apply Kd.R_drewN | apply Kd.R_drew)); exact HO_3.out) hb)
            have n1_ := Aside0.mk (Kd.R_below (by (with_reducible repeat (first | apply Kd.R_alloc | apply Kd.R_drewN | apply Kd.R_drew)); exact HO311.out) hb)
            have n2_ := Aside0.mk (Kd.R_below (by (with_reducible repeat (first | apply Kd.R_alloc | apply Kd.R_drewN | apply Kd.R_drew)); exact HO317.out) hb)
            have n3_ := Aside0.mk (blk_below (g := gb291) (o := .cells #[.int .u32 a0_0, .slice A0_1 l0_1.length c0_1] 29 (0, 0)) (by (with_reducible repeat (first | refine blk_drewN ?_ _ | refine blk_drew ?_ | refine blk_alloc ?_ _)); exact BK291.out) hb)
            have n4_ := Aside0.mk (blk_below (g := gb313) (o := .cells #[.int .u32 t308, .slice Ao81 t309.length co81] 29 (0, 0)) (by (with_reducible repeat (first | refine blk_drewN ?_ _ | refine blk_drew ?_ | refine blk_alloc ?_ _)); exact BK313.out) hb)
            have n5_ := Aside0.mk (below_step (by repeat with_reducible first | exact HB.out | apply below_alloc | apply pw_below_drewN | apply below_drew1 | refine below_set ?_ GE291.out | refine below_set ?_ GE313.out) hb)
            clear HO_3
            clear HO311
            clear HO317
            clear BK291
            clear BK313
            clear HB
            have HO_3 := n0_
            have HO311 := n1_
            have HO317 := n2_
            have BK291 := n3_
            have BK313 := n4_
            have HB := n5_
            clear n0_ n1_ n2_ n3_ n4_ n5_
            (try clear hb)
            (try clear hb2)
            (try clear hk)
            (try clear hi)
            refine hK.out _ _ ⟨(blk_cell BK291.out 0).trans rfl, (blk_cell BK291.out 1).trans rfl, (own_string (P := Try.prog) Try.underlying39 Try.underlying5 Try.underlying9 (Kd.own_of_R HO_3.out))⟩ (fun hHeld => ?_)
            clear hK K
            refine norm_ (a' := ?_) ?_ ?_
            rotate_left
            ·
             show Act.put _ (some 59) _ = _
             simp only [Act.put, List.setIfInBounds_toArray, List.set_cons_zero, List.set_cons_succ, i64_w, i32_w]
             rfl
            refine pure_ (i := 13) (N := some 60) (v := ?_) (a' := ?_) #[true, true, true, true, true, true, true, true, true, true, true, true, true, true, false, false, false, false, false, false, false, false, false, false, false, false] rfl rfl (any_of HT_.out (by kernel_rfl)) (fun _ _ _ h => h) (Or.inl ⟨by rfl, ?_⟩) ?_ ?_
            rotate_left
            ·
             intro w'
             go_simp
             with_reducible rfl
            rotate_left
            ·
             simp only [Act.put, List.setIfInBounds_toArray, List.set_cons_zero, List.set_cons_succ, i64_w, i32_w]
             rfl
            refine pure_ (i := 14) (N := some 61) (v := ?_) (a' := ?_) #[true, true, true, true, true, true, true, true, true, true, true, true, true, true, true, false, false, false, false, false, false, false, false, false, false, false] rfl rfl (any_of HT_.out (by kernel_rfl)) (fun _ _ _ h => h) (Or.inl ⟨by rfl, ?_⟩) ?_ ?_
            rotate_left
            ·
             intro w'
             go_simp
             with_reducible rfl
            rotate_left
            ·
             simp only [Act.put, List.setIfInBounds_toArray, List.set_cons_zero, List.set_cons_succ, i64_w, i32_w]
             rfl
            refine pure_ (i := 15) (N := some 62) (v := ?_) (a' := ?_) #[true, true, true, true, true, true, true, true, true, true, true, true, true, true, true, true, false, false, false, false, false, false, false, false, false, false] rfl rfl (any_of HT_.out (by kernel_rfl)) (fun _ _ _ h => h) (Or.inl ⟨by rfl, ?_⟩) ?_ ?_
            rotate_left
            ·
             intro w'
             go_simp
             with_reducible rfl
            rotate_left
            ·
             simp only [Act.put, List.setIfInBounds_toArray, List.set_cons_zero, List.set_cons_succ, i64_w, i32_w]
             rfl
            refine pure_ (i := 16) (N := some 63) (v := undef) (a' := ?_) #[true, true, true, true, true, true, true, true, true, true, true, true, true, true, true, true, true, false, false, false, false, false, false, false, false, false] rfl rfl (any_of HT_.out (by kernel_rfl)) (fun _ _ _ h => h) (Or.inr ⟨by rfl, rfl⟩) ?_ ?_
            rotate_left
            ·
             simp only [Act.put, List.setIfInBounds_toArray, List.set_cons_zero, List.set_cons_succ, i64_w, i32_w]
             rfl
            refine pure_ (i := 17) (N := some 64) (v := undef) (a' := ?_) #[true, true, true, true, true, true, true, true, true, true, true, true, true, true, true, true, true, true, false, false, false, false, false, false, false, false] rfl rfl (any_of HT_.out (by kernel_rfl)) (fun _ _ _ h => h) (Or.inr ⟨by rfl, rfl⟩) ?_ ?_
            rotate_left
            ·
             simp only [Act.put, List.setIfInBounds_toArray, List.set_cons_zero, List.set_cons_succ, i64_w, i32_w]
             rfl
            refine pure_ (i := 18) (N := some 65) (v := ?_) (a' := ?_) #[true, true, true, true, true, true, true, true, true, true, true, true, true, true, true, true, true, true, true, false, false, false, false, false, false, false] rfl rfl (any_of HT_.out (by kernel_rfl)) (fun _ _ _ h => h) (Or.inl ⟨by rfl, ?_⟩) ?_ ?_
            rotate_left
            ·
             intro w'
             go_simp
             with_reducible rfl
            rotate_left
            ·
             simp only [Act.put, List.setIfInBounds_toArray, List.set_cons_zero, List.set_cons_succ, i64_w, i32_w]
             rfl
            refine pure_ (i := 19) (N := some 66) (v := ?_) (a' := ?_) #[true, true, true, true, true, true, true, true, true, true, true, true, true, true, true, true, true, true, true, true, false, false, false, false, false, false] rfl rfl (any_of HT_.out (by kernel_rfl)) (fun _ _ _ h => h) (Or.inl ⟨by rfl, ?_⟩) ?_ ?_
            rotate_left
            ·
             intro w'
             go_simp
             with_reducible rfl
            rotate_left
            ·
             simp only [Act.put, List.setIfInBounds_toArray, List.set_cons_zero, List.set_cons_succ, i64_w, i32_w]
             rfl
            refine pure_ (i := 20) (N := some 67) (v := undef) (a' := ?_) #[true, true, true, true, true, true, true, true, true, true, true, true, true, true, true, true, true, true, true, true, true, false, false, false, false, false] rfl rfl (any_of HT_.out (by kernel_rfl)) (fun _ _ _ h => h) (Or.inr ⟨by rfl, rfl⟩) ?_ ?_
            rotate_left
            ·
             simp only [Act.put, List.setIfInBounds_toArray, List.set_cons_zero, List.set_cons_succ, i64_w, i32_w]
             rfl
            refine pure_ (i := 21) (N := some 68) (v := undef) (a' := ?_) #[true, true, true, true, true, true, true, true, true, true, true, true, true, true, true, true, true, true, true, true, true, true, false, false, false, false] rfl rfl (any_of HT_.out (by kernel_rfl)) (fun _ _ _ h => h) (Or.inr ⟨by rfl, rfl⟩) ?_ ?_
            rotate_left
            ·
             simp only [Act.put, List.setIfInBounds_toArray, List.set_cons_zero, List.set_cons_succ, i64_w, i32_w]
             rfl
            refine pure_ (i := 22) (N := some 69) (v := undef) (a' := ?_) #[true, true, true, true, true, true, true, true, true, true, true, true, true, true, true, true, true, true, true, true, true, true, true, false, false, false] rfl rfl (any_of HT_.out (by kernel_rfl)) (fun _ _ _ h => h) (Or.inr ⟨by rfl, rfl⟩) ?_ ?_
            rotate_left
            ·
             simp only [Act.put, List.setIfInBounds_toArray, List.set_cons_zero, List.set_cons_succ, i64_w, i32_w]
             rfl
            refine pure_ (i := 23) (N := some 70) (v := undef) (a' := ?_) #[true, true, true, true, true, true, true, true, true, true, true, true, true, true, true, true, true, true, true, true, true, true, true, true, false, false] rfl rfl (any_of HT_.out (by kernel_rfl)) (fun _ _ _ h => h) (Or.inr ⟨by rfl, rfl⟩) ?_ ?_
            rotate_left
            ·
             simp only [Act.put, List.setIfInBounds_toArray, List.set_cons_zero, List.set_cons_succ, i64_w, i32_w]
             rfl
            refine pure_ (i := 24) (N := some 71) (v := ?_) (a' := ?_) #[true, true, true, true, true, true, true, true, true, true, true, true, true, true, true, true, true, true, true, true, true, true, true, true, true, false] rfl rfl (any_of HT_.out (by kernel_rfl)) (fun _ _ _ h => h) (Or.inl ⟨by rfl, ?_⟩) ?_ ?_
            rotate_left
            ·
             intro w'
             go_simp
             with_reducible rfl
            rotate_left
            ·
             simp only [Act.put, List.setIfInBounds_toArray, List.set_cons_zero, List.set_cons_succ, i64_w, i32_w]
             rfl
            refine pure_ (i := 25) (N := some 2) (v := ?_) (a' := ?_) #[true, true, true, true, true, true, true, true, true, true, true, true, true, true, true, true, true, true, true, true, true, true, true, true, true, true] rfl rfl (any_of HT_.out (by kernel_rfl)) (fun _ _ _ h => h) (Or.inl ⟨by rfl, ?_⟩) ?_ ?_
            rotate_left
            ·
             intro w'
             go_simp
             with_reducible rfl
            rotate_left
            ·
             simp only [Act.put, List.setIfInBounds_toArray, List.set_cons_zero, List.set_cons_succ, i64_w, i32_w]
             rfl
            refine done_ (done_of HT_.out (by kernel_rfl)) ?_
            try go_wp2
            go_ret
            exact ⟨by first | rfl | (simp [errW_none, errW_some] <;> rfl) | (simp only [← hji32]; first | rfl | (simp [errW_none, errW_some] <;> rfl)) | (simp [*, errW_none, errW_some] <;> rfl), by repeat (first | (with_reducible first | exact HB.out | apply below_alloc | apply pw_below_drewN | apply below_drew1 | refine below_set ?_ GE291.out | refine below_set ?_ GE313.out) | exact HB.out)⟩
          ·
           rw [if_neg c38] at H
           have c38b0 : ((strOfNums t294).toList == t318.toList) = false := beq_eq_false_iff_ne.mpr c38
           have c38b1 : ((strOfNums t294).toList != t318.toList) = true := bne_iff_ne.mpr c38
           obtain rfl := Option.some.inj H
           obtain ⟨Ao89, co89, eo89⟩ := Kd.R_slice HO_3.out
           subst eo89
           have q90 : ((ji32) : Int) ≤ ((t294.length : Int) : Int) := of_decide_eq_true (by first | (with_reducible assumption) | assumption)
           obtain ⟨i090, hi090, _, hsz90, _⟩ := info_parts info5
           have hroom90 : t294.length ≤ co89 := (Kd.R_reads' HO_3.out).2.1
           have hC90 : Kd.C (Kd.int .u8) _ Ao89 t294.length t294 := (Kd.R_reads' HO_3.out).2.2
           have hcut90 := cut_to (P := Try.prog) 39 5 .i64 Try.underlying39 hi090 Ao89 t294.length co89 (ji32) (of_decide_eq_true (by first | (with_reducible assumption) | assumption)) q90 hroom90
           have hr90 := Kd.C_take (m := ((ji32) : Int).toNat) hC90 (by omega)
           have hy90 : y304.length = ((ji32) : Int).toNat := (by rw [Ny304.out, List.length_take]; omega)
           rw [← Ny304.out] at hr90
           rw [← hy90] at hcut90
           have HR307 := Aside0.mk hr90
           have HC307 := Aside0.mk (show y304.length ≤ co89 from by omega)
           clear hr90 hC90 hroom90 hi090 hsz90
           have KY90 := Aside0.mk hy90
           clear hy90
           have KL90 := Aside0.mk (show ((ji32) : Int).toNat ≤ t294.length from by omega)
           replace q90 := eq_true q90
           try go_wp2_with (first | ((with_reducible refine gate_callee (f := 35) rfl ?_); refine goesL_ (some 44) rfl rfl Try.func35 (by kernel_rfl) rfl #[.slice Ao89 y304.length co89] rfl (by (try simp only [List.map_toArray, List.map_cons, List.map_nil]); first | done | rfl) ?_; (with_reducible refine (footer_Get.calls _ _ y304 t308 t309 t312 _ ?side1 ?side2 A35.out).mono ?_); (case side1 => repeat (first | exact (by repeat (first | (with_reducible exact HR307.out) | (with_reducible refine Kd.C_alloc ?_ _) | (with_reducible refine Kd.C_drewN ?_ _) | (with_reducible refine Kd.C_drew ?_) | exact HR307.out)) | (with_reducible refine Kd.C_alloc ?_ _) | (with_reducible refine Kd.C_drewN ?_ _) | (with_reducible refine Kd.C_drew ?_))); (case side2 => exact HC307.out); rintro e w91 ⟨v310, rfl, ho0, hb⟩; refine ⟨_, rfl, ?_⟩; replace HO_3 := Aside0.mk (Kd.R_below (by (with_reducible repeat (first | apply Kd.R_alloc | apply Kd.R_drewN | apply Kd.R_drew)); exact HO_3.out) hb); have HO311 := Aside0.mk (Kd.R_lower ho0 (below_size (by repeat with_reducible first | exact HB.out | apply below_alloc | apply pw_below_drewN | apply below_drew1 | refine below_set ?_ GE291.out))); replace BK291 := Aside0.mk (blk_below (g := gb291) (o := .cells #[.int .u32 a0_0, .slice A0_1 l0_1.length c0_1] 29 (0, 0)) (by (with_reducible repeat (first | refine blk_drewN ?_ _ | refine blk_drew ?_ | refine blk_alloc ?_ _)); exact BK291.out) hb); replace HR307 := Aside0.mk (Kd.C_below (by repeat (first | (with_reducible exact HR307.out) | (with_reducible refine Kd.C_alloc ?_ _) | (with_reducible refine Kd.C_drewN ?_ _) | (with_reducible refine Kd.C_drew ?_) | exact HR307.out)) hb); replace HB := Aside0.mk (below_step (by repeat with_reducible first | exact HB.out | apply below_alloc | apply pw_below_drewN | apply below_drew1 | refine below_set ?_ GE291.out) hb); (try clear hb); (try clear ho0)) | ((with_reducible refine gate_dst (N := 5) rfl ?_); (try (refine gate_guard (by rfl) ?_; dsimp only)); refine box_event ?hg (N := 5) ?hd (cs := #[.int .u32 0, .slice none 0 0]) (t := 29) ?hr ?_; (case hd => rfl); (case hg => rfl); (case hr => first | (go_simp; done) | (go_simp; rfl)); intro gb313 hg w92 hbox hb; have n0_ := Aside0.mk (Kd.R_below (by (with_reducible repeat (first | apply Kd.R_alloc | apply Kd.R_drewN | apply Kd.R_drew)); exact HO_3.out) hb); have n1_ := Aside0.mk (Kd.R_below (by (with_reducible repeat (first | apply Kd.R_alloc | apply Kd.R_drewN | apply Kd.R_drew)); exact HO311.out) hb); have n2_ := Aside0.mk (blk_below (g := gb291) (o := .cells #[.int .u32 a0_0, .slice A0_1 l0_1.length c0_1] 29 (0, 0)) (by (with_reducible repeat (first | refine blk_drewN ?_ _ | refine blk_drew ?_ | refine blk_alloc ?_ _)); exact BK291.out) hb); have n3_ := Aside0.mk (Kd.C_below (by repeat (first | (with_reducible exact HR307.out) | (with_reducible refine Kd.C_alloc ?_ _) | (with_reducible refine Kd.C_drewN ?_ _) | (with_reducible refine Kd.C_drew ?_) | exact HR307.out)) hb); have n4_ := Aside0.mk (below_step (by repeat with_reducible first | exact HB.out | apply below_alloc | apply pw_below_drewN | apply below_drew1 | refine below_set ?_ GE291.out) hb); have n5_ := Aside0.mk (hbox); have n6_ := Aside0.mk ((by rw [hg]; exact (below_size (by repeat with_reducible first | exact HB.out | apply below_alloc | apply pw_below_drewN | apply below_drew1 | refine below_set ?_ GE291.out)) : w.heap.size ≤ gb313)); have n7_ := Aside0.mk ((by rw [hg]; exact (below_size (by repeat with_reducible first | exact HB.out | apply below_alloc | apply pw_below_drewN | apply below_drew1 | refine below_set ?_ GE291.out)) : w.heap.size ≤ gb313)); have n8_ := Aside0.mk ((by rw [hg]; exact Nat.ne_of_lt (blk_lt (g := gb291) (o := .cells #[.int .u32 a0_0, .slice A0_1 l0_1.length c0_1] 29 (0, 0)) (by (with_reducible repeat (first | refine blk_drewN ?_ _ | refine blk_drew ?_ | refine blk_alloc ?_ _)); exact BK291.out)) : gb291 ≠ gb313)); have n9_ := Aside0.mk ((by rw [hg]; exact Nat.ne_of_gt (blk_lt (g := gb291) (o := .cells #[.int .u32 a0_0, .slice A0_1 l0_1.length c0_1] 29 (0, 0)) (by (with_reducible repeat (first | refine blk_drewN ?_ _ | refine blk_drew ?_ | refine blk_alloc ?_ _)); exact BK291.out)) : gb313 ≠ gb291)); clear HO_3; clear HO311; clear BK291; clear HR307; clear HB; have HO_3 := n0_; have HO311 := n1_; have BK291 := n2_; have HR307 := n3_; have HB := n4_; have BK313 := n5_; have GW313 := n6_; have GE313 := n7_; have NB291_313 := n8_; have NB313_291 := n9_; clear n0_ n1_ n2_ n3_ n4_ n5_ n6_ n7_ n8_ n9_; clear hb hbox hg; have hnb93 := NB313_291.out; have hnc93 := NB291_313.out; have hcz94_0 : w92.cell? ⟨gb313, 0, none⟩ = some (.int .u32 0) := (blk_cell BK313.out 0).trans rfl; have hcz94_1 : w92.cell? ⟨gb313, 1, none⟩ = some (.slice none 0 0) := (blk_cell BK313.out 1).trans rfl; have hfz94_0 := blk_frozen BK313.out 0; have hfz94_1 := blk_frozen BK313.out 1; obtain ⟨Ao95, co95, eo95⟩ := Kd.R_slice HO311.out; subst eo95))
           have n0_ : Aside0 (Kd.R (Kd.int .u8) 5 ((w92.setCell ⟨gb313, 0, none⟩ (.int .u32 t308)).setCell ⟨gb313, 1, none⟩ (.slice Ao95 t309.length co95)) w.heap.size (fun _ => True) (.slice Ao89 t294.length co89) t294) := ⟨by (with_reducible repeat (first | apply Kd.R_alloc | apply Kd.R_drewN | apply Kd.R_drew)); exact Kd.R_mono (Kd.R_far (p := ⟨gb313, 1, none⟩) (Kd.R_far (p := ⟨gb313, 0, none⟩) (Kd.R_types HO_3.out BK313.out (by decide)) (fun _ hk => by first | exact hk.2 | exact hk) (.int .u32 t308)) (fun _ hk => by first | exact hk.2 | exact hk) (.slice Ao95 t309.length co95)) (fun _ hk => trivial)⟩
           have n1_ : Aside0 (Kd.R k33 33 ((w92.setCell ⟨gb313, 0, none⟩ (.int .u32 t308)).setCell ⟨gb313, 1, none⟩ (.slice Ao95 t309.length co95)) w.heap.size (fun _ => True) (.slice Ao95 t309.length co95) t309) := ⟨by (with_reducible repeat (first | apply Kd.R_alloc | apply Kd.R_drewN | apply Kd.R_drew)); exact Kd.R_mono (Kd.R_far (p := ⟨gb313, 1, none⟩) (Kd.R_far (p := ⟨gb313, 0, none⟩) (Kd.R_types HO311.out BK313.out (by decide)) (fun _ hk => by first | exact hk.2 | exact hk) (.int .u32 t308)) (fun _ hk => by first | exact hk.2 | exact hk) (.slice Ao95 t309.length co95)) (fun _ hk => trivial)⟩
           have n2_ : Aside0 (((w92.setCell ⟨gb313, 0, none⟩ (.int .u32 t308)).setCell ⟨gb313, 1, none⟩ (.slice Ao95 t309.length co95)).heap[gb291]? = some (.cells #[.int .u32 a0_0, .slice A0_1 l0_1.length c0_1] 29 (0, 0))) := ⟨by (with_reducible repeat (first | refine blk_drewN ?_ _ | refine blk_drew ?_ | refine blk_alloc ?_ _)); refine blk_far ?_ NB291_313.out _; refine blk_far ?_ NB291_313.out _; (with_reducible repeat (first | refine blk_drewN ?_ _ | refine blk_drew ?_ | refine blk_alloc ?_ _)); exact BK291.out⟩
           have n3_ : Aside0 (((w92.setCell ⟨gb313, 0, none⟩ (.int .u32 t308)).setCell ⟨gb313, 1, none⟩ (.slice Ao95 t309.length co95)).heap[gb313]? = some (.cells #[.int .u32 t308, .slice Ao95 t309.length co95] 29 (0, 0))) := ⟨by (with_reducible repeat (first | refine blk_drewN ?_ _ | refine blk_drew ?_ | refine blk_alloc ?_ _)); refine blk_put (cs := #[.int .u32 t308, .slice none 0 0]) ?_ 1 _ rfl; refine blk_put (cs := #[.int .u32 0, .slice none 0 0]) ?_ 0 _ rfl; (with_reducible repeat (first | refine blk_drewN ?_ _ | refine blk_drew ?_ | refine blk_alloc ?_ _)); exact BK313.out⟩
           have n4_ : Aside0 (Below w.heap.size w ((w92.setCell ⟨gb313, 0, none⟩ (.int .u32 t308)).setCell ⟨gb313, 1, none⟩ (.slice Ao95 t309.length co95))) := ⟨by repeat (first | (with_reducible first | exact HB.out | apply below_alloc | apply pw_below_drewN | apply below_drew1 | refine below_set ?_ GE291.out | refine below_set ?_ GE313.out) | exact HB.out)⟩
           (try clear HO_3)
           (try clear HO311)
           (try clear BK291)
           (try clear BK313)
           (try clear HB)
           generalize ((w92.setCell ⟨gb313, 0, none⟩ (.int .u32 t308)).setCell ⟨gb313, 1, none⟩ (.slice Ao95 t309.length co95)) = w96 at n0_ n1_ n2_ n3_ n4_ ⊢
           have HO_3 := n0_
           have HO311 := n1_
           have BK291 := n2_
           have BK313 := n3_
           have HB := n4_
           clear n0_ n1_ n2_ n3_ n4_
           have n0_ := Aside0.mk (Kd.R_drew HO_3.out)
           have n1_ := Aside0.mk (Kd.R_drew HO311.out)
           have n2_ := Aside0.mk (blk_drew BK291.out)
           have n3_ := Aside0.mk (blk_drew BK313.out)
           have n4_ := Aside0.mk (below_drew1 HB.out)
           clear HO_3
           clear HO311
           clear BK291
           clear BK313
           clear HB
           have HO_3 := n0_
           have HO311 := n1_
           have BK291 := n2_
           have BK313 := n3_
           have HB := n4_
           clear n0_ n1_ n2_ n3_ n4_
           refine start_ (n := 26) (S := fun w' => w'.cell? ⟨gb291, 0, none⟩ = some (.int .u32 a0_0) ∧ w'.cell? ⟨gb291, 1, none⟩ = some (.slice A0_1 l0_1.length c0_1) ∧ (convert 39 9 (.slice Ao89 t294.length co89)).run Try.prog w' = .ok (.string (strOfNums t294)) w') (ds := []) #[false, false, false, false, false, false, false, false, false, false, false, false, false, false, false, false, false, false, false, false, false, false, false, false, false, false] (by kernel_rfl) rfl rfl ⟨(blk_cell BK291.out 0).trans rfl, (blk_cell BK291.out 1).trans rfl, (own_string (P := Try.prog) Try.underlying39 Try.underlying5 Try.underlying9 (Kd.own_of_R HO_3.out))⟩ (fun hHeld => ?_); refine with_tabW fasciclelaw13_FooterPuts.tab9 fasciclelaw13_FooterPuts.bits9 (fun HT_ HW_ => ?_)
           generalize w96.drew = w97 at HO_3 HO311 BK291 BK313 HB hHeld ⊢
           refine pure_ (i := 0) (N := some 47) (v := ?_) (a' := ?_) #[true, false, false, false, false, false, false, false, false, false, false, false, false, false, false, false, false, false, false, false, false, false, false, false, false, false] rfl rfl (any_of HT_.out (by kernel_rfl)) (fun _ _ _ h => h) (Or.inl ⟨by rfl, ?_⟩) ?_ ?_
           rotate_left
           ·
            intro w'
            go_simp
            with_reducible rfl
           rotate_left
           ·
            simp only [Act.put, List.setIfInBounds_toArray, List.set_cons_zero, List.set_cons_succ, i64_w, i32_w]
            rfl
           refine take_ (i := 1) (N := some 48) (v := ?_) (a' := ?_) #[true, true, false, false, false, false, false, false, false, false, false, false, false, false, false, false, false, false, false, false, false, false, false, false, false, false] rfl rfl (take_ofW HT_.out HW_.out (by kernel_rfl)) (fun _ _ _ h => h) (Or.inl ⟨by rfl, ?_⟩) hHeld ?_ ?_
           rotate_left
           ·
            rintro w' ⟨s0, s1, s2⟩
            go_simp
            with_reducible rfl
           rotate_left
           ·
            simp only [Act.put, List.setIfInBounds_toArray, List.set_cons_zero, List.set_cons_succ, i64_w, i32_w]
            rfl
           refine take_ (i := 2) (N := some 49) (v := ?_) (a' := ?_) #[true, true, true, false, false, false, false, false, false, false, false, false, false, false, false, false, false, false, false, false, false, false, false, false, false, false] rfl rfl (take_ofW HT_.out HW_.out (by kernel_rfl)) (fun _ _ _ h => h) (Or.inl ⟨by rfl, ?_⟩) hHeld ?_ ?_
           rotate_left
           ·
            rintro w' ⟨s0, s1, s2⟩
            go_simp
            with_reducible rfl
           rotate_left
           ·
            simp only [Act.put, List.setIfInBounds_toArray, List.set_cons_zero, List.set_cons_succ, i64_w, i32_w]
            rfl
           refine one_ (i := 3) (N := some 50) #[true, true, true, true, false, false, false, false, false, false, false, false, false, false, false, false, false, false, false, false, false, false, false, false, false, false] rfl rfl (one_of HT_.out (by kernel_rfl)) (by decide) (fun K hK => ?_)
           refine goes_ Try.func40 (by kernel_rfl) rfl #[.agg #[.int .u32 a0_0, .slice A0_1 l0_1.length c0_1]] (by rfl) rfl rfl (by (try simp only [List.map_toArray, List.map_cons, List.map_nil]); first | done | rfl) ?_
           with_reducible refine (fasciclelaw13_ref.calls kj12 a0_0 _ _ l0_1 t314 t315 _ ?side1 ?side2 A36.out).mono ?_
           (case side1 => repeat (first | exact (Kd.C_below HR0_1.out HB.out) | (with_reducible refine Kd.C_alloc ?_ _) | (with_reducible refine Kd.C_drewN ?_ _) | (with_reducible refine Kd.C_drew ?_)))
           (case side2 => exact HC0_1.out)
           rintro e w98 ⟨v316, rfl, ho0, hb⟩
           refine ⟨_, rfl, ?_⟩
           have n0_ := Aside0.mk (Kd.R_below (by (with_reducible repeat (first | apply Kd.R_alloc | apply Kd.R_drewN | apply Kd.R_drew)); exact HO_3.out) hb)
           have n1_ := Aside0.mk (Kd.R_below (by (with_reducible repeat (first | apply Kd.R_alloc | apply Kd.R_drewN | apply Kd.R_drew)); exact HO311.out) hb)
           have n2_ := Aside0.mk (Kd.R_lower ho0 (below_size (by repeat with_reducible first | exact HB.out | apply below_alloc | apply pw_below_drewN | apply below_drew1 | refine below_set ?_ GE291.out | refine below_set ?_ GE313.out)))
           have n3_ := Aside0.mk (blk_below (g := gb291) (o := .cells #[.int .u32 a0_0, .slice A0_1 l0_1.length c0_1] 29 (0, 0)) (by (with_reducible repeat (first | refine blk_drewN ?_ _ | refine blk_drew ?_ | refine blk_alloc ?_ _)); exact BK291.out) hb)
           have n4_ := Aside0.mk (blk_below (g := gb313) (o := .cells #[.int .u32 t308, .slice Ao95 t309.length co95] 29 (0, 0)) (by (with_reducible repeat (first | refine blk_drewN ?_ _ | refine blk_drew ?_ | refine blk_alloc ?_ _)); exact BK313.out) hb)
           have n5_ := Aside0.mk (below_step (by repeat with_reducible first | exact HB.out | apply below_alloc | apply pw_below_drewN | apply below_drew1 | refine below_set ?_ GE291.out | refine below_set ?_ GE313.out) hb)
           clear HO_3
           clear HO311
           clear BK291
           clear BK313
           clear HB
           have HO_3 := n0_
           have HO311 := n1_
           have HO317 := n2_
           have BK291 := n3_
           have BK313 := n4_
           have HB := n5_
           clear n0_ n1_ n2_ n3_ n4_ n5_
           (try clear hb)
           (try clear hb2)
           (try clear hk)
           (try clear hi)
           (try clear ho0)
           obtain ⟨Ao99, co99, eo99⟩ := Kd.R_slice HO317.out
           (first | subst eo99 | (injection eo99 with f1_ f2_ f3_; have f4_ := f1_.symm; have f5_ := f3_.symm; clear f1_ f2_ f3_; subst f4_; subst f5_))
           refine hK.out _ _ ⟨(blk_cell BK291.out 0).trans rfl, (blk_cell BK291.out 1).trans rfl, (own_string (P := Try.prog) Try.underlying39 Try.underlying5 Try.underlying9 (Kd.own_of_R HO_3.out))⟩ (fun hHeld => ?_)
           clear hK K
           refine norm_ (a' := ?_) ?_ ?_
           rotate_left
           ·
            show Act.put _ (some 50) _ = _
            simp only [Act.put, List.setIfInBounds_toArray, List.set_cons_zero, List.set_cons_succ, i64_w, i32_w]
            rfl
           refine one_ (i := 4) (N := some 51) #[true, true, true, true, true, false, false, false, false, false, false, false, false, false, false, false, false, false, false, false, false, false, false, false, false, false] rfl rfl (one_of HT_.out (by kernel_rfl)) (by decide) (fun K hK => ?_)
           refine goes_ Try.func41 (by kernel_rfl) rfl #[.agg #[.int .u32 t314, .slice Ao99 t315.length co99]] (by rfl) rfl rfl (by (try simp only [List.map_toArray, List.map_cons, List.map_nil]); first | done | rfl) ?_
           with_reducible refine (fascicleref13_Text.calls kj12 t314 _ _ t315 t318 _ ?side1 ?side2 A37.out).mono ?_
           (case side1 => repeat (first | exact (Kd.R_reads' HO317.out).2.2 | (with_reducible refine Kd.C_alloc ?_ _) | (with_reducible refine Kd.C_drewN ?_ _) | (with_reducible refine Kd.C_drew ?_)))
           (case side2 => exact (Kd.R_reads' HO317.out).2.1)
           rintro e w100 ⟨rfl, hb⟩
           refine ⟨_, rfl, ?_⟩
           have n0_ := Aside0.mk (Kd.R_below (by (with_reducible repeat (first | apply Kd.R_alloc | apply Kd.R_drewN | apply Kd.R_drew)); exact HO_3.out) hb)
           have n1_ := Aside0.mk (Kd.R_below (by (with_reducible repeat (first | apply Kd.R_alloc | apply Kd.R_drewN | apply Kd.R_drew)); exact HO311.out) hb)
           have n2_ := Aside0.mk (Kd.R_below (by (with_reducible repeat (first | apply Kd.R_alloc | apply Kd.R_drewN | apply Kd.R_drew)); exact HO317.out) hb)
           have n3_ := Aside0.mk (blk_below (g := gb291) (o := .cells #[.int .u32 a0_0, .slice A0_1 l0_1.length c0_1] 29 (0, 0)) (by (with_reducible repeat (first | refine blk_drewN ?_ _ | refine blk_drew ?_ | refine blk_alloc ?_ _)); exact BK291.out) hb)
           have n4_ := Aside0.mk (blk_below (g := gb313) (o := .cells #[.int .u32 t308, .slice Ao95 t309.length co95] 29 (0, 0)) (by (with_reducible repeat (first | refine blk_drewN ?_ _ | refine blk_drew ?_ | refine blk_alloc ?_ _)); exact BK313.out) hb)
           have n5_ := Aside0.mk (below_step (by repeat with_reducible first | exact HB.out | apply below_alloc | apply pw_below_drewN | apply below_drew1 | refine below_set ?_ GE291.out | refine below_set ?_ GE313.out) hb)
           clear HO_3
           clear HO311
           clear HO317
           clear BK291
           clear BK313
           clear HB
           have HO_3 := n0_
           have HO311 := n1_
           have HO317 := n2_
           have BK291 := n3_
           have BK313 := n4_
           have HB := n5_
           clear n0_ n1_ n2_ n3_ n4_ n5_
           (try clear hb)
           (try clear hb2)
           (try clear hk)
           (try clear hi)
           refine hK.out _ _ ⟨(blk_cell BK291.out 0).trans rfl, (blk_cell BK291.out 1).trans rfl, (own_string (P := Try.prog) Try.underlying39 Try.underlying5 Try.underlying9 (Kd.own_of_R HO_3.out))⟩ (fun hHeld => ?_)
           clear hK K
           refine norm_ (a' := ?_) ?_ ?_
           rotate_left
           ·
            show Act.put _ (some 51) _ = _
            simp only [Act.put, List.setIfInBounds_toArray, List.set_cons_zero, List.set_cons_succ, i64_w, i32_w]
            rfl
           refine pure_ (i := 5) (N := some 52) (v := ?_) (a' := ?_) #[true, true, true, true, true, true, false, false, false, false, false, false, false, false, false, false, false, false, false, false, false, false, false, false, false, false] rfl rfl (any_of HT_.out (by kernel_rfl)) (fun _ _ _ h => h) (Or.inl ⟨by rfl, ?_⟩) ?_ ?_
           rotate_left
           ·
            intro w'
            go_simp
            with_reducible rfl
           rotate_left
           ·
            simp only [Act.put, List.setIfInBounds_toArray, List.set_cons_zero, List.set_cons_succ, i64_w, i32_w]
            rfl
           refine pure_ (i := 6) (N := some 53) (v := ?_) (a' := ?_) #[true, true, true, true, true, true, true, false, false, false, false, false, false, false, false, false, false, false, false, false, false, false, false, false, false, false] rfl rfl (any_of HT_.out (by kernel_rfl)) (fun _ _ _ h => h) (Or.inl ⟨by rfl, ?_⟩) ?_ ?_
           rotate_left
           ·
            intro w'
            go_simp
            with_reducible rfl
           rotate_left
           ·
            simp only [Act.put, List.setIfInBounds_toArray, List.set_cons_zero, List.set_cons_succ, i64_w, i32_w]
            rfl
           refine pure_ (i := 7) (N := some 54) (v := undef) (a' := ?_) #[true, true, true, true, true, true, true, true, false, false, false, false, false, false, false, false, false, false, false, false, false, false, false, false, false, false] rfl rfl (any_of HT_.out (by kernel_rfl)) (fun _ _ _ h => h) (Or.inr ⟨by rfl, rfl⟩) ?_ ?_
           rotate_left
           ·
            simp only [Act.put, List.setIfInBounds_toArray, List.set_cons_zero, List.set_cons_succ, i64_w, i32_w]
            rfl
           refine pure_ (i := 8) (N := some 55) (v := undef) (a' := ?_) #[true, true, true, true, true, true, true, true, true, false, false, false, false, false, false, false, false, false, false, false, false, false, false, false, false, false] rfl rfl (any_of HT_.out (by kernel_rfl)) (fun _ _ _ h => h) (Or.inr ⟨by rfl, rfl⟩) ?_ ?_
           rotate_left
           ·
            simp only [Act.put, List.setIfInBounds_toArray, List.set_cons_zero, List.set_cons_succ, i64_w, i32_w]
            rfl
           refine pure_ (i := 9) (N := some 56) (v := undef) (a' := ?_) #[true, true, true, true, true, true, true, true, true, true, false, false, false, false, false, false, false, false, false, false, false, false, false, false, false, false] rfl rfl (any_of HT_.out (by kernel_rfl)) (fun _ _ _ h => h) (Or.inr ⟨by rfl, rfl⟩) ?_ ?_
           rotate_left
           ·
            simp only [Act.put, List.setIfInBounds_toArray, List.set_cons_zero, List.set_cons_succ, i64_w, i32_w]
            rfl
           refine pure_ (i := 10) (N := some 57) (v := undef) (a' := ?_) #[true, true, true, true, true, true, true, true, true, true, true, false, false, false, false, false, false, false, false, false, false, false, false, false, false, false] rfl rfl (any_of HT_.out (by kernel_rfl)) (fun _ _ _ h => h) (Or.inr ⟨by rfl, rfl⟩) ?_ ?_
           rotate_left
           ·
            simp only [Act.put, List.setIfInBounds_toArray, List.set_cons_zero, List.set_cons_succ, i64_w, i32_w]
            rfl
           refine pure_ (i := 11) (N := some 58) (v := undef) (a' := ?_) #[true, true, true, true, true, true, true, true, true, true, true, true, false, false, false, false, false, false, false, false, false, false, false, false, false, false] rfl rfl (any_of HT_.out (by kernel_rfl)) (fun _ _ _ h => h) (Or.inr ⟨by rfl, rfl⟩) ?_ ?_
           rotate_left
           ·
            simp only [Act.put, List.setIfInBounds_toArray, List.set_cons_zero, List.set_cons_succ, i64_w, i32_w]
            rfl
           refine pure_ (i := 12) (N := some 59) (v := undef) (a' := ?_) #[true, true, true, true, true, true, true, true, true, true, true, true, true, false, false, false, false, false, false, false, false, false, false, false, false, false] rfl rfl (any_of HT_.out (by kernel_rfl)) (fun _ _ _ h => h) (Or.inr ⟨by rfl, rfl⟩) ?_ ?_
           rotate_left
           ·
            simp only [Act.put, List.setIfInBounds_toArray, List.set_cons_zero, List.set_cons_succ, i64_w, i32_w]
            rfl
           refine pure_ (i := 13) (N := some 60) (v := undef) (a' := ?_) #[true, true, true, true, true, true, true, true, true, true, true, true, true, true, false, false, false, false, false, false, false, false, false, false, false, false] rfl rfl (any_of HT_.out (by kernel_rfl)) (fun _ _ _ h => h) (Or.inr ⟨by rfl, rfl⟩) ?_ ?_
           rotate_left
           ·
            simp only [Act.put, List.setIfInBounds_toArray, List.set_cons_zero, List.set_cons_succ, i64_w, i32_w]
            rfl
           refine pure_ (i := 14) (N := some 61) (v := ?_) (a' := ?_) #[true, true, true, true, true, true, true, true, true, true, true, true, true, true, true, false, false, false, false, false, false, false, false, false, false, false] rfl rfl (any_of HT_.out (by kernel_rfl)) (fun _ _ _ h => h) (Or.inl ⟨by rfl, ?_⟩) ?_ ?_
           rotate_left
           ·
            intro w'
            go_simp
            with_reducible rfl
           rotate_left
           ·
            simp only [Act.put, List.setIfInBounds_toArray, List.set_cons_zero, List.set_cons_succ, i64_w, i32_w]
            rfl
           refine pure_ (i := 15) (N := some 62) (v := ?_) (a' := ?_) #[true, true, true, true, true, true, true, true, true, true, true, true, true, true, true, true, false, false, false, false, false, false, false, false, false, false] rfl rfl (any_of HT_.out (by kernel_rfl)) (fun _ _ _ h => h) (Or.inl ⟨by rfl, ?_⟩) ?_ ?_
           rotate_left
           ·
            intro w'
            go_simp
            with_reducible rfl
           rotate_left
           ·
            simp only [Act.put, List.setIfInBounds_toArray, List.set_cons_zero, List.set_cons_succ, i64_w, i32_w]
            rfl
           refine pure_ (i := 16) (N := some 63) (v := undef) (a' := ?_) #[true, true, true, true, true, true, true, true, true, true, true, true, true, true, true, true, true, false, false, false, false, false, false, false, false, false] rfl rfl (any_of HT_.out (by kernel_rfl)) (fun _ _ _ h => h) (Or.inr ⟨by rfl, rfl⟩) ?_ ?_
           rotate_left
           ·
            simp only [Act.put, List.setIfInBounds_toArray, List.set_cons_zero, List.set_cons_succ, i64_w, i32_w]
            rfl
           refine pure_ (i := 17) (N := some 64) (v := undef) (a' := ?_) #[true, true, true, true, true, true, true, true, true, true, true, true, true, true, true, true, true, true, false, false, false, false, false, false, false, false] rfl rfl (any_of HT_.out (by kernel_rfl)) (fun _ _ _ h => h) (Or.inr ⟨by rfl, rfl⟩) ?_ ?_
           rotate_left
           ·
            simp only [Act.put, List.setIfInBounds_toArray, List.set_cons_zero, List.set_cons_succ, i64_w, i32_w]
            rfl
           refine pure_ (i := 18) (N := some 65) (v := ?_) (a' := ?_) #[true, true, true, true, true, true, true, true, true, true, true, true, true, true, true, true, true, true, true, false, false, false, false, false, false, false] rfl rfl (any_of HT_.out (by kernel_rfl)) (fun _ _ _ h => h) (Or.inl ⟨by rfl, ?_⟩) ?_ ?_
           rotate_left
           ·
            intro w'
            go_simp
            with_reducible rfl
           rotate_left
           ·
            simp only [Act.put, List.setIfInBounds_toArray, List.set_cons_zero, List.set_cons_succ, i64_w, i32_w]
            rfl
           refine pure_ (i := 19) (N := some 66) (v := ?_) (a' := ?_) #[true, true, true, true, true, true, true, true, true, true, true, true, true, true, true, true, true, true, true, true, false, false, false, false, false, false] rfl rfl (any_of HT_.out (by kernel_rfl)) (fun _ _ _ h => h) (Or.inl ⟨by rfl, ?_⟩) ?_ ?_
           rotate_left
           ·
            intro w'
            go_simp
            with_reducible rfl
           rotate_left
           ·
            simp only [Act.put, List.setIfInBounds_toArray, List.set_cons_zero, List.set_cons_succ, i64_w, i32_w]
            rfl
           refine pure_ (i := 20) (N := some 67) (v := undef) (a' := ?_) #[true, true, true, true, true, true, true, true, true, true, true, true, true, true, true, true, true, true, true, true, true, false, false, false, false, false] rfl rfl (any_of HT_.out (by kernel_rfl)) (fun _ _ _ h => h) (Or.inr ⟨by rfl, rfl⟩) ?_ ?_
           rotate_left
           ·
            simp only [Act.put, List.setIfInBounds_toArray, List.set_cons_zero, List.set_cons_succ, i64_w, i32_w]
            rfl
           refine pure_ (i := 21) (N := some 68) (v := undef) (a' := ?_) #[true, true, true, true, true, true, true, true, true, true, true, true, true, true, true, true, true, true, true, true, true, true, false, false, false, false] rfl rfl (any_of HT_.out (by kernel_rfl)) (fun _ _ _ h => h) (Or.inr ⟨by rfl, rfl⟩) ?_ ?_
           rotate_left
           ·
            simp only [Act.put, List.setIfInBounds_toArray, List.set_cons_zero, List.set_cons_succ, i64_w, i32_w]
            rfl
           refine pure_ (i := 22) (N := some 69) (v := undef) (a' := ?_) #[true, true, true, true, true, true, true, true, true, true, true, true, true, true, true, true, true, true, true, true, true, true, true, false, false, false] rfl rfl (any_of HT_.out (by kernel_rfl)) (fun _ _ _ h => h) (Or.inr ⟨by rfl, rfl⟩) ?_ ?_
           rotate_left
           ·
            simp only [Act.put, List.setIfInBounds_toArray, List.set_cons_zero, List.set_cons_succ, i64_w, i32_w]
            rfl
           refine pure_ (i := 23) (N := some 70) (v := undef) (a' := ?_) #[true, true, true, true, true, true, true, true, true, true, true, true, true, true, true, true, true, true, true, true, true, true, true, true, false, false] rfl rfl (any_of HT_.out (by kernel_rfl)) (fun _ _ _ h => h) (Or.inr ⟨by rfl, rfl⟩) ?_ ?_
           rotate_left
           ·
            simp only [Act.put, List.setIfInBounds_toArray, List.set_cons_zero, List.set_cons_succ, i64_w, i32_w]
            rfl
           refine pure_ (i := 24) (N := some 71) (v := ?_) (a' := ?_) #[true, true, true, true, true, true, true, true, true, true, true, true, true, true, true, true, true, true, true, true, true, true, true, true, true, false] rfl rfl (any_of HT_.out (by kernel_rfl)) (fun _ _ _ h => h) (Or.inl ⟨by rfl, ?_⟩) ?_ ?_
           rotate_left
           ·
            intro w'
            go_simp
            with_reducible rfl
           rotate_left
           ·
            simp only [Act.put, List.setIfInBounds_toArray, List.set_cons_zero, List.set_cons_succ, i64_w, i32_w]
            rfl
           refine pure_ (i := 25) (N := some 2) (v := ?_) (a' := ?_) #[true, true, true, true, true, true, true, true, true, true, true, true, true, true, true, true, true, true, true, true, true, true, true, true, true, true] rfl rfl (any_of HT_.out (by kernel_rfl)) (fun _ _ _ h => h) (Or.inl ⟨by rfl, ?_⟩) ?_ ?_
           rotate_left
           ·
            intro w'
            go_simp
            with_reducible rfl
           rotate_left
           ·
            simp only [Act.put, List.setIfInBounds_toArray, List.set_cons_zero, List.set_cons_succ, i64_w, i32_w]
            rfl
           refine done_ (done_of HT_.out (by kernel_rfl)) ?_
           try go_wp2
           go_ret
           exact ⟨by first | rfl | (simp [errW_none, errW_some] <;> rfl) | (simp only [← hji32]; first | rfl | (simp [errW_none, errW_some] <;> rfl)) | (simp [*, errW_none, errW_some] <;> rfl), by repeat (first | (with_reducible first | exact HB.out | apply below_alloc | apply pw_below_drewN | apply below_drew1 | refine below_set ?_ GE291.out | refine below_set ?_ GE313.out) | exact HB.out)⟩
         ·
          rw [if_neg c34] at H
          exact absurd H (by simp)
        ·
         rw [if_neg c33] at H
         exact absurd H (by simp)
       ·
        rw [if_neg c31] at H
        have c31b0 : (t297 == 0) = false := beq_eq_false_iff_ne.mpr c31
        have c31b1 : (t297 != 0) = true := bne_iff_ne.mpr c31
        obtain rfl := Option.some.inj H
        obtain ⟨Ao102, co102, eo102⟩ := Kd.R_slice HO_3.out
        subst eo102
        go_wp2
        go_ret
        exact ⟨by first | rfl | (simp [errW_none, errW_some] <;> rfl) | (simp [*, errW_none, errW_some] <;> rfl), by repeat (first | (with_reducible first | exact HB.out | apply below_alloc | apply pw_below_drewN | apply below_drew1 | refine below_set ?_ GE291.out) | exact HB.out)⟩
def fasciclelaw13_FooterPuts.Pure : Prop := ∀ (a0_0 : Int) (l0_1 : List (S33)), (Lit.int .u32 a0_0).wf = true → l0_1.length ≤ maxLen → (∀ y ∈ l0_1, (((Lit.int .u64 y.f0).wf = true) ∧ ((Lit.int .u32 y.f1).wf = true))) → ∃ k, fasciclelaw13_FooterPuts.f k a0_0 l0_1 = some true
end Go.Proofs.Ytekanmieppnpeaa.G
end
section
namespace Go.Proofs.Ytekanmieppnpeaa.Sep
open Go Go.RowKit Go.Proofs.Ytekanmieppnpeaa.G Go.Proofs.YtekanmieppnpeaaW.PrintWords Go.Proofs.YtekanmieppnpeaaW.PrintLast Go.Proofs.YtekanmieppnpeaaW.PrintMore Go.Proofs.Ytekanmieppnpeaa.PureKit
set_option maxRecDepth 100000 in
theorem value_l0 (l : List Int) (hb : Bytes l) (hl : l.length ≤ 8) : ∀ (j : Nat), j ≤ l.length → Ev (fun k => fascicleref01_Value.l0 k (strOfNums l) (lev (l.drop j)) ((j : Int) - 1)) (lev l) := by
 intro j
 induction j with
 | zero =>
  intro _
  refine Ev.step (f := fun _ => some (lev l)) (fun k => ?_) (Ev.now _)
  simp only [fascicleref01_Value.l0]
  rw [if_neg (by omega)]
  rfl
 | succ j ih =>
  intro hj
  have hj1 : j < l.length := by omega
  refine Ev.step (fun k => ?_) (ih (by omega))
  simp only [fascicleref01_Value.l0]
  have hx := hb _ (List.getElem_mem hj1)
  have hd := List.drop_eq_getElem_cons hj1
  have hbd := lev_bound (l.drop (j + 1)) (hb.drop _)
  have hle : (256 : Int) ^ (l.drop (j + 1)).length ≤ 256 ^ 7 := by
   have := Nat.pow_le_pow_right (show 0 < 256 by decide) (show (l.drop (j + 1)).length ≤ 7 by rw [List.length_drop]; omega)
   exact_mod_cast this
  have h7 : (256 : Int) ^ 7 = 72057594037927936 := by decide
  rw [if_pos (by omega), if_pos (by omega), if_pos (by rw [nums_size]; omega), show (((j + 1 : Nat) : Int) - 1) = (j : Int) by omega, bt_nums l hb j hj1]
  rw [wu64 (x := lev (l.drop (j + 1)) * 256) (by omega) (by omega), wu64 (x := l[j]) (by omega) (by omega), wu64 (by omega) (by omega), w64 (by omega) (by omega), hd]
  congr 1
  show lev (l.drop (j + 1)) * 256 + l[j] = l[j] + 256 * lev (l.drop (j + 1))
  omega
end Go.Proofs.Ytekanmieppnpeaa.Sep
end
section
namespace Go.Proofs.Ytekanmieppnpeaa.Tb
open Go Go.RowKit Go.Proofs.Ytekanmieppnpeaa.G Go.Proofs.YtekanmieppnpeaaW.PrintWords Go.Proofs.YtekanmieppnpeaaW.PrintLast Go.Proofs.YtekanmieppnpeaaW.PrintMore Go.Proofs.Ytekanmieppnpeaa.PureKit Go.Proofs.Ytekanmieppnpeaa.Sep
theorem nbT_levN : ∀ (n y : Nat), lev (nbytes n (y : Int)) = ((y % 256 ^ n : Nat) : Int)
 | 0, y => by simp [nbytes, lev]
 | n + 1, y => by
  have hp : 256 ^ (n + 1) = 256 * 256 ^ n := by rw [Nat.pow_succ, Nat.mul_comm]
  have e := nbT_levN n (y / 256)
  have e4 : y % (256 * 256 ^ n) = y % 256 + 256 * (y / 256 % 256 ^ n) := Nat.mod_mul
  simp only [nbytes, lev]
  rw [show (y : Int) / 256 = ((y / 256 : Nat) : Int) by omega, e, hp, e4]
  generalize y / 256 % 256 ^ n = q
  omega
theorem nbT_lev (n : Nat) (x : Int) (h : 0 ≤ x) : lev (nbytes n x) = x % ((256 ^ n : Nat) : Int) := by
 obtain ⟨y, rfl⟩ := Int.eq_ofNat_of_zero_le h
 have := nbT_levN n y
 rw [show ((y % 256 ^ n : Nat) : Int) = (y : Int) % ((256 ^ n : Nat) : Int) from rfl] at this
 exact this
theorem nbT_drop {L a r : List Int} {p : Nat} (h : L.drop p = a ++ r) : (L.take (p + a.length)).drop p = a := by
 rw [← List.take_drop, h, List.take_left]
theorem nbT_refn0 (n : Nat) (hn : n ≤ 8) : ∀ (d i : Nat) (x : Int) (a : List Int), i + d = n → 0 ≤ x → x < 18446744073709551616 → a.length + d ≤ 100 → Ev (fun k => fascicleref01_Num.l0 k x (strOfNums a) (n : Int) (i : Int)) (strOfNums (a ++ nbytes d x)) := by
 intro d
 induction d with
 | zero =>
  intro i x a hi h0 h1 ha
  refine Ev.step (f := fun _ => some (strOfNums (a ++ nbytes 0 x))) (fun k => ?_) (Ev.now _)
  simp only [fascicleref01_Num.l0]
  rw [if_neg (by omega), nbytes, List.append_nil]
 | succ d ih =>
  intro i x a hi h0 h1 ha
  refine Ev.step (fun k => ?_) (Ev.eq (ih (i + 1) (x / 256) (a ++ [x % 256]) (by omega) (by omega) (by omega) (by simp; omega)) (by simp [nbytes]))
  simp only [fascicleref01_Num.l0]
  rw [if_pos (by omega), Int.tmod_eq_emod_of_nonneg h0, Int.tdiv_eq_ediv_of_nonneg h0]
  simp only [Option.bind_some]
  rw [if_pos (by rw [nums_size, nums_size]; simp only [List.length_cons, List.length_nil]; omega), PureKit.nums_append, wu64 (by omega) (by omega), w64 (by omega) (by omega), show x % 256 % 256 = x % 256 by omega]
  rfl
theorem nbT_refn (n : Nat) (x : Int) (hn : n ≤ 8) (h0 : 0 ≤ x) (h1 : x < 18446744073709551616) : Ev (fun k => fascicleref01_Num.f k x (n : Int)) (strOfNums (nbytes n x)) := by
 have := nbT_refn0 n hn n 0 x [] (by omega) h0 h1 (by simp; omega)
 exact this
end Go.Proofs.Ytekanmieppnpeaa.Tb
end
section
namespace Go.Proofs.Ytekanmieppnpeaa.Tb
open Go Go.RowKit Go.Proofs.YtekanmieppnpeaaW.PrintWords Go.Proofs.YtekanmieppnpeaaW.PrintLast Go.Proofs.YtekanmieppnpeaaW.PrintMore Go.Proofs.Ytekanmieppnpeaa.PureKit Go.Proofs.Ytekanmieppnpeaa.Sep Go.Proofs.Ytekanmieppnpeaa.G
set_option maxRecDepth 100000
def fbytesL (l : List Int) : List Int := l.flatMap fun x => nbytes 8 x
theorem fbytesL_len (l : List Int) : (fbytesL l).length = 8 * l.length := by
 induction l with
 | nil => rfl
 | cons x l ih => unfold fbytesL at *; rw [List.flatMap_cons, List.length_append, nbytes_len, ih, List.length_cons]; omega
theorem nextI {i : Nat} (h : i < 1000000000) : wrap64 ((i : Int) + 1) = ((i + 1 : Nat) : Int) := by rw [w64 (by omega) (by omega)]; omega
theorem text12_loop (l : List Int) (hl : l.length ≤ 1000000) (hb : ∀ x ∈ l, 0 ≤ x ∧ x < 18446744073709551616) : ∀ (d i : Nat) (acc : List Int), i + d = l.length → acc.length ≤ 8 * i → Ev (fun k => fascicleref12_Text.l0 k (strOfNums acc) l (l.length : Int) (i : Int)) (strOfNums (acc ++ fbytesL (l.drop i)))
 | 0, i, acc, h, ha => by
  rw [List.drop_of_length_le (by omega), show fbytesL [] = [] from rfl, List.append_nil]
  refine Ev.step (f := fun _ => some (strOfNums acc)) (fun k => ?_) (Ev.now _)
  unfold fascicleref12_Text.l0
  rw [if_neg (by omega)]
 | d + 1, i, acc, h, ha => by
  have hi : i < l.length := by omega
  have hx := hb _ (List.getElem_mem hi)
  have hd := List.drop_eq_getElem_cons hi
  refine Ev.step (f := fun k => (fascicleref01_Num.f k (l[i]) 8).bind fun t => (if (strOfNums acc).size + t.size ≤ 9223372036854775807 then (fascicleref12_Text.l0 k (strOfNums acc ++ t) l (l.length : Int) ((i + 1 : Nat) : Int)) else none)) (fun k => ?_) ?_
  ·
   conv => lhs; unfold fascicleref12_Text.l0
   rw [if_pos (by omega), if_pos (by omega), if_pos (by omega), rd_at l i hi, nextI (by omega)]
  refine Ev.bind (f := fun k t => (if (strOfNums acc).size + t.size ≤ 9223372036854775807 then (fascicleref12_Text.l0 k (strOfNums acc ++ t) l (l.length : Int) ((i + 1 : Nat) : Int)) else none)) (nbT_refn 8 (l[i]) (by decide) hx.1 hx.2) ?_
  have := text12_loop l hl hb d (i + 1) (acc ++ nbytes 8 (l[i])) (by omega) (by rw [List.length_append, nbytes_len]; omega)
  refine Ev.congr (f := fun k => fascicleref12_Text.l0 k (strOfNums (acc ++ nbytes 8 (l[i]))) l (l.length : Int) ((i + 1 : Nat) : Int)) (fun k => ?_) (Ev.eq this ?_)
  ·
   rw [if_pos (by rw [nums_size, nums_size, nbytes_len]; omega), PureKit.nums_append]
  ·
   rw [hd, List.append_assoc]; rfl
theorem text12_ev (l : List Int) (hl : l.length ≤ 1000000) (hb : ∀ x ∈ l, 0 ≤ x ∧ x < 18446744073709551616) : Ev (fun k => fascicleref12_Text.f k l) (strOfNums (fbytesL l)) :=
 text12_loop l hl hb l.length 0 [] (by omega) (Nat.le_refl _)
end Go.Proofs.Ytekanmieppnpeaa.Tb
end
section
namespace Go.Proofs.Ytekanmieppnpeaa.Tb
open Go Go.RowKit Go.Proofs.Ytekanmieppnpeaa.G Go.Proofs.YtekanmieppnpeaaW.PrintWords Go.Proofs.YtekanmieppnpeaaW.PrintLast Go.Proofs.YtekanmieppnpeaaW.PrintMore Go.Proofs.Ytekanmieppnpeaa.PureKit
abbrev R1 := S135
def toR (x : E1) : R1 := ⟨x.f0, x.f1⟩
def refsE (l : List E1) : List R1 := l.map toR
theorem refsE_len (l : List E1) : (refsE l).length = l.length := by unfold refsE; rw [List.length_map]
theorem rdR (l : List E1) (i : Nat) (x : E1) (h : l[i]? = some x) : rd_T135 (refsE l) (i : Int) = toR x := by
 unfold rd_T135 refsE
 rw [Int.toNat_natCast, List.getD_eq_getElem?_getD, List.getElem?_map, h]; rfl
theorem less_f0 (x y : E1) : fascicleref11_less.f x.f0 x.f1 y.f0 y.f1 = some (decide (lessE x y)) := by
 unfold fascicleref11_less.f
 by_cases h1 : x.f0 < y.f0
 ·
  have h : lessE x y := Or.inl h1
  rw [if_pos h1, decide_eq_true h]
 ·
  rw [if_neg h1]
  by_cases h2 : x.f0 = y.f0
  ·
   rw [if_pos h2]
   by_cases h3 : x.f1 < y.f1
   ·
    have h : lessE x y := Or.inr ⟨h2, h3⟩
    rw [decide_eq_true h3, decide_eq_true h]
   ·
    have h : ¬ lessE x y := fun hh => by unfold lessE at hh; omega
    rw [decide_eq_false h3, decide_eq_false h]
  ·
   have h : ¬ lessE x y := fun hh => by unfold lessE at hh; omega
   rw [if_neg h2, decide_eq_false h]
theorem less_f (x y : E1) : fascicleref11_less.f (toR x).f0 (toR x).f1 (toR y).f0 (toR y).f1 = some (decide (lessE x y)) := less_f0 x y
theorem same_loop (l : List E1) (hl : l.length ≤ 1000000) : ∀ (d i : Nat), i + d = l.length → Ev (fun k => fasciclelaw11_Same.l0 k l (refsE l) (l.length : Int) (i : Int)) true
 | 0, i, h => by
  refine Ev.step (f := fun _ => some true) (fun k => ?_) (Ev.now _)
  unfold fasciclelaw11_Same.l0
  rw [if_neg (by omega)]
 | d + 1, i, h => by
  obtain ⟨x, hx⟩ : ∃ x, l[i]? = some x := ⟨_, List.getElem?_eq_getElem (by omega)⟩
  refine Ev.step (f := fun k => fasciclelaw11_Same.l0 k l (refsE l) (l.length : Int) ((i + 1 : Nat) : Int)) (fun k => ?_) (same_loop l hl d (i + 1) (by omega))
  simp only [fasciclelaw11_Same.l0]
  rw [if_pos (by omega), if_pos (by omega), if_pos (by omega), if_pos (by rw [refsE_len]; omega), rdE l i x hx, rdR l i x hx, inc64 (by omega)]
  simp [toR]
theorem same_ev (l : List E1) (hl : l.length ≤ 1000000) : Ev (fun k => fasciclelaw11_Same.f k l (refsE l)) true := by
 have := same_loop l hl l.length 0 (by omega)
 refine Ev.congr (f := fun k => fasciclelaw11_Same.l0 k l (refsE l) (l.length : Int) (0 : Nat)) (fun k => ?_) this
 unfold fasciclelaw11_Same.f
 rw [if_pos (by rw [refsE_len])]
 rfl
theorem refrise_loop (l : List E1) (hl : l.length ≤ 1000000) : ∀ (d i : Nat), i + 1 + d = l.length → Ev (fun k => fascicleref11_Rising.l0 k (refsE l) (l.length : Int) ((i + 1 : Nat) : Int)) (riseN l d i)
 | 0, i, h => by
  refine Ev.step (f := fun _ => some true) (fun k => ?_) (Ev.now _)
  unfold fascicleref11_Rising.l0
  rw [if_neg (by omega)]
 | d + 1, i, h => by
  obtain ⟨x, hx⟩ : ∃ x, l[i]? = some x := ⟨_, List.getElem?_eq_getElem (by omega)⟩
  obtain ⟨y, hy⟩ : ∃ y, l[i + 1]? = some y := ⟨_, List.getElem?_eq_getElem (by omega)⟩
  refine Ev.step (f := fun k => if lessE x y then fascicleref11_Rising.l0 k (refsE l) (l.length : Int) ((i + 1 + 1 : Nat) : Int) else some false) (fun k => ?_) ?_
  ·
   simp only [fascicleref11_Rising.l0]
   rw [dec64 (by omega), if_pos (by omega), if_pos (by omega), if_pos (by omega), if_pos (by rw [refsE_len]; omega), if_pos (by omega), if_pos (by rw [refsE_len]; omega), rdR l i x hx, rdR l (i + 1) y hy, less_f, Option.bind_some, inc64 (by omega)]
   by_cases hxy : lessE x y
   ·
    rw [decide_eq_true hxy, if_pos rfl, if_pos hxy]
   ·
    rw [decide_eq_false hxy, if_neg (by decide), if_neg hxy]
  ·
   unfold riseN
   rw [hx, hy]
   dsimp only
   by_cases hxy : lessE x y
   ·
    exact Ev.congr (f := fun k => fascicleref11_Rising.l0 k (refsE l) (l.length : Int) ((i + 1 + 1 : Nat) : Int)) (fun k => if_pos hxy) (ev_eq (refrise_loop l hl d (i + 1) (by omega)) (if_pos hxy).symm)
   ·
    exact Ev.congr (f := fun k => some false) (fun k => if_neg hxy) (ev_eq (Ev.now _) (if_neg hxy).symm)
theorem refrise_ev (l : List E1) (hl : l.length ≤ 1000000) : Ev (fun k => fascicleref11_Rising.f k (refsE l)) (riseE l) := by
 by_cases h : l.length = 0
 ·
  refine Ev.step (f := fun _ => some true) (fun k => ?_) (ev_eq (Ev.now _) (by unfold riseE; rw [h]; rfl))
  unfold fascicleref11_Rising.f fascicleref11_Rising.l0
  rw [if_neg (by rw [refsE_len]; omega)]
 ·
  refine Ev.step (f := fun k => fascicleref11_Rising.l0 k (refsE l) (l.length : Int) ((0 + 1 : Nat) : Int)) (fun k => ?_) (refrise_loop l hl (l.length - 1) 0 (by omega))
  unfold fascicleref11_Rising.f
  simp only [fascicleref11_Rising.l0]
  rw [if_pos (by rw [refsE_len]; omega), if_neg (by decide), refsE_len, show wrap64 (0 + 1) = ((0 + 1 : Nat) : Int) from inc64 (i := 0) (by decide)]
end Go.Proofs.Ytekanmieppnpeaa.Tb
end
section
namespace Go.Proofs.Ytekanmieppnpeaa.Tb
open Go Go.RowKit Go.Proofs.YtekanmieppnpeaaW.PrintWords Go.Proofs.YtekanmieppnpeaaW.PrintLast Go.Proofs.YtekanmieppnpeaaW.PrintMore Go.Proofs.Ytekanmieppnpeaa.PureKit Go.Proofs.Ytekanmieppnpeaa.Sep Go.Proofs.Ytekanmieppnpeaa.G
set_option maxRecDepth 100000
theorem nb_lt8 {x : Int} (h0 : 0 ≤ x) (h1 : x < 18446744073709551616) : lev (nbytes 8 x) = x := by
 rw [nbT_lev 8 x h0, show ((256 ^ 8 : Nat) : Int) = 18446744073709551616 by decide]; omega
theorem nb_lt4 {x : Int} (h0 : 0 ≤ x) (h1 : x ≤ 4294967295) : lev (nbytes 4 x) = x := by
 rw [nbT_lev 4 x h0, show ((256 ^ 4 : Nat) : Int) = 4294967296 by decide]; omega
theorem tbytes_append (a b : List E1) : tbytes (a ++ b) = tbytes a ++ tbytes b := List.flatMap_append ..
theorem tbytes_drop (l : List E1) (i : Nat) (h : i < l.length) : (tbytes l).drop (12 * i) = nbytes 8 (l[i]).f0 ++ (nbytes 4 (l[i]).f1 ++ tbytes (l.drop (i + 1))) := by
 have h1 : tbytes l = tbytes (l.take i) ++ tbytes (l.drop i) := by rw [← tbytes_append, List.take_append_drop]
 have h2 : (tbytes (l.take i)).length = 12 * i := by rw [tbytes_len, List.length_take]; congr 1; omega
 rw [h1, List.drop_left' h2, List.drop_eq_getElem_cons h, ← List.append_assoc]
 rfl
theorem entAt_tbytes (l : List E1) (hok : ∀ x ∈ l, OkE x) (i : Nat) (h : i < l.length) : entAt (tbytes l) (0 + 12 * i) = l[i] := by
 have hx := hok _ (List.getElem_mem h)
 have hd := tbytes_drop l i h
 have h8 := nbT_drop hd
 have hd4 : (tbytes l).drop (12 * i + 8) = nbytes 4 (l[i]).f1 ++ tbytes (l.drop (i + 1)) := by
  rw [← List.drop_drop, hd, List.drop_left' (nbytes_len 8 _)]
 have h4 := nbT_drop hd4
 rw [nbytes_len] at h8 h4
 unfold entAt
 rw [Nat.zero_add, h8, h4, nb_lt8 hx.1 hx.2.1, nb_lt4 hx.2.2.1 hx.2.2.2]
theorem ents_tbytes (l : List E1) (hok : ∀ x ∈ l, OkE x) : entsAt (tbytes l) 0 l.length = l := by
 unfold entsAt
 apply List.ext_getElem
 ·
  rw [List.length_map, List.length_range]
 ·
  intro i h1 h2
  rw [List.getElem_map, List.getElem_range]
  exact entAt_tbytes l hok i h2
theorem lev_at (s : List Int) (p n : Nat) : lev ((s.drop p).take n) = lev ((s.take (p + n)).drop p) := by rw [List.drop_take, Nat.add_sub_cancel_left]
end Go.Proofs.Ytekanmieppnpeaa.Tb
end
section
namespace Go.Proofs.Ytekanmieppnpeaa.Tb
open Go Go.RowKit Go.Proofs.YtekanmieppnpeaaW.PrintWords Go.Proofs.YtekanmieppnpeaaW.PrintLast Go.Proofs.YtekanmieppnpeaaW.PrintMore Go.Proofs.Ytekanmieppnpeaa.PureKit Go.Proofs.Ytekanmieppnpeaa.Sep Go.Proofs.Ytekanmieppnpeaa.G
set_option maxRecDepth 100000
theorem fbytesL_append (a b : List Int) : fbytesL (a ++ b) = fbytesL a ++ fbytesL b := List.flatMap_append ..
theorem fbytesL_drop (l : List Int) (i : Nat) (h : i < l.length) : (fbytesL l).drop (8 * i) = nbytes 8 (l[i]) ++ fbytesL (l.drop (i + 1)) := by
 have h1 : fbytesL l = fbytesL (l.take i) ++ fbytesL (l.drop i) := by rw [← fbytesL_append, List.take_append_drop]
 have h2 : (fbytesL (l.take i)).length = 8 * i := by rw [fbytesL_len, List.length_take]; congr 1; omega
 rw [h1, List.drop_left' h2, List.drop_eq_getElem_cons h]
 rfl
theorem fens_fbytesL (l : List Int) (hok : ∀ x ∈ l, 0 ≤ x ∧ x < 18446744073709551616) : fensAt (fbytesL l) 0 l.length = l := by
 unfold fensAt
 apply List.ext_getElem
 ·
  rw [List.length_map, List.length_range]
 ·
  intro i h1 h2
  rw [List.getElem_map, List.getElem_range]
  have hx := hok _ (List.getElem_mem h2)
  have h8 := nbT_drop (fbytesL_drop l i h2)
  rw [nbytes_len] at h8
  unfold fenAt
  rw [Nat.zero_add, h8, nbT_lev 8 _ hx.1, show ((256 ^ 8 : Nat) : Int) = 18446744073709551616 by decide]
  omega
end Go.Proofs.Ytekanmieppnpeaa.Tb
end
section
namespace Go.Proofs.Ytekanmieppnpeaa.G
open Go Go.RowKit Go.Proofs.YtekanmieppnpeaaW.PrintWords Go.Proofs.YtekanmieppnpeaaW.PrintLast Go.Proofs.YtekanmieppnpeaaW.PrintMore Go.Proofs.Ytekanmieppnpeaa.PureKit Go.Proofs.Ytekanmieppnpeaa.Sep Go.Proofs.Ytekanmieppnpeaa.Rol
theorem mix4_l0 (x n : Nat) (hx : x < 18446744073709551616) (hn : n ≤ 64) : ∀ (d i : Nat), i + d = n → Ev (fun k => fascicleref04_mix.l0 k (x : Int) ((x / 2 ^ i : Nat) : Int) (n : Int) (i : Int)) ((wmix n x : Nat) : Int) := by
 intro d
 induction d with
 | zero =>
  intro i hi
  refine Ev.step (f := fun _ => some ((wmix n x : Nat) : Int)) (fun k => ?_) (Ev.now _)
  simp only [fascicleref04_mix.l0]
  rw [if_neg (by omega), show i = n by omega, bits_xor_u64_nat _ _ hx (Nat.lt_of_le_of_lt (Nat.div_le_self _ _) hx)]
  rfl
 | succ d ih =>
  intro i hi
  refine Ev.step (fun k => ?_) (ih (i + 1) (by omega))
  have hle : x / 2 ^ i ≤ x := Nat.div_le_self _ _
  simp only [fascicleref04_mix.l0]
  rw [Nat.pow_succ, ← Nat.div_div_eq_div_mul]
  generalize x / 2 ^ i = y at *
  rw [if_pos (by omega), Int.tdiv_eq_ediv_of_nonneg (by omega), wu64 (by omega) (by omega), w64 (by omega) (by omega)]
  congr 1
theorem mix4_ev (x n : Nat) (hx : x < 18446744073709551616) (hn : n ≤ 64) : Ev (fun k => fascicleref04_mix.f k (x : Int) (n : Int)) ((wmix n x : Nat) : Int) := by
 have h := mix4_l0 x n hx hn n 0 (by omega)
 rw [Nat.pow_zero, Nat.div_one] at h
 exact h
theorem value_ev (l : List Int) (hb : Bytes l) (hl : l.length ≤ 8) : Ev (fun k => fascicleref01_Value.f k (strOfNums l)) ((leb l : Nat) : Int) := by
 have h := value_l0 l hb hl l.length (Nat.le_refl _)
 rw [List.drop_length] at h
 unfold fascicleref01_Value.f
 rw [nums_size, w64 (by omega) (by omega)]
 exact h
theorem ref4_l2 (r : List Int) (hb : Bytes r) (hl : r.length ≤ 8) (h : Nat) (hh : h < 18446744073709551616) : ∀ (d i : Nat), i + d = r.length → Ev (fun k => fascicleref04_Sum.l2 k (strOfNums r) ((wbytes h (r.take i) : Nat) : Int) (i : Int)) ((wfin (wbytes h r) : Nat) : Int) := by
 intro d
 induction d with
 | zero =>
  intro i hi
  have hz := wbytes_lt h hh r
  obtain ⟨z, hz'⟩ : ∃ z, wbytes h r = z := ⟨_, rfl⟩
  rw [show i = r.length by omega, List.take_length, hz']
  rw [hz'] at hz
  obtain ⟨a1, h1⟩ : ∃ a, wmix 33 z * 14029467366897019727 % 18446744073709551616 = a := ⟨_, rfl⟩
  obtain ⟨a2, h2⟩ : ∃ a, wmix 29 a1 * 1609587929392839161 % 18446744073709551616 = a := ⟨_, rfl⟩
  have e1 := mix4_ev z 33 hz (by decide)
  have e2 := mix4_ev a1 29 (h1 ▸ mod_lt64 _) (by decide)
  have e3 := mix4_ev a2 32 (h2 ▸ mod_lt64 _) (by decide)
  have g1 : IntKind.u64.wrap (((wmix 33 z : Nat) : Int) * 14029467366897019727) = (a1 : Int) := by rw [← h1]; exact mul_step _ 14029467366897019727
  have g2 : IntKind.u64.wrap (((wmix 29 a1 : Nat) : Int) * 1609587929392839161) = (a2 : Int) := by rw [← h2]; exact mul_step _ 1609587929392839161
  have hf : wfin z = wmix 32 a2 := by rw [wfin, h1, h2]
  rw [hf]
  have step : Ev (fun k => (fascicleref04_mix.f k (z : Int) ((33 : Nat) : Int)).bind fun t => (fascicleref04_mix.f k (IntKind.u64.wrap (t * 14029467366897019727)) ((29 : Nat) : Int)).bind fun u => (fascicleref04_mix.f k (IntKind.u64.wrap (u * 1609587929392839161)) ((32 : Nat) : Int)).bind fun v => some v) ((wmix 32 a2 : Nat) : Int) := by
   refine Ev.bind e1 ?_
   rw [g1]
   refine Ev.bind e2 ?_
   rw [g2]
   exact Ev.bind e3 (Ev.now _)
  refine Ev.step (fun k => ?_) step
  simp only [fascicleref04_Sum.l2]
  rw [nums_size, if_neg (by omega)]
  rfl
 | succ d ih =>
  intro i hi
  have hu := wbytes_lt h hh (r.take i)
  have hnext := wbytes_take r h i (by omega)
  have hyb := hb r[i] (List.getElem_mem (by omega))
  have hbt := bt_nums r hb i (by omega)
  obtain ⟨u, hu'⟩ : ∃ u, wbytes h (r.take i) = u := ⟨_, rfl⟩
  rw [hu'] at hu hnext ⊢
  obtain ⟨y5, hy⟩ : ∃ y, r[i]'(by omega) = y := ⟨_, rfl⟩
  rw [hy] at hnext hyb hbt
  obtain ⟨b5, rfl⟩ := Int.eq_ofNat_of_zero_le hyb.1
  obtain ⟨q5, z5, t5, z6, g1, g2, g3, g4, g5, g6⟩ := wbyte_step u b5 hu
  have e1 := turn4_ev z5 11 g3 (by decide)
  rw [g4] at e1
  have hrec := ih (i + 1) (by omega)
  rw [hnext, g6] at hrec
  have step : Ev (fun k => (fascicleref04_turn.f k (z5 : Int) ((11 : Nat) : Int)).bind fun t => fascicleref04_Sum.l2 k (strOfNums r) (IntKind.u64.wrap (t * 11400714785074694791)) ((i + 1 : Nat) : Int)) ((wfin (wbytes h r) : Nat) : Int) := by
   refine Ev.bind e1 ?_
   rw [g5]
   exact hrec
  refine Ev.step (fun k => ?_) step
  simp only [fascicleref04_Sum.l2]
  rw [nums_size, if_pos (by omega), if_pos (by omega), hbt, wu64 (x := ((b5 : Nat) : Int)) (by omega) (by omega), g1, g2, w64 (by omega) (by omega)]
  rfl
theorem ref4_l1b (r : List Int) (hb : Bytes r) (hl : r.length < 4) (h : Nat) (hh : h < 18446744073709551616) : Ev (fun k => fascicleref04_Sum.l1 k (strOfNums r) (h : Int)) ((wfin (wbytes h r) : Nat) : Int) := by
 have h2 := ref4_l2 r hb (by omega) h hh r.length 0 (by omega)
 refine Ev.step (fun k => ?_) h2
 simp only [fascicleref04_Sum.l1]
 rw [nums_size, if_neg (by omega), List.take_zero]
 rfl
theorem ref4_l1 (r : List Int) (hb : Bytes r) (hl : r.length < 8) (h : Nat) (hh : h < 18446744073709551616) : Ev (fun k => fascicleref04_Sum.l1 k (strOfNums r) (h : Int)) ((wfin (wlast h r) : Nat) : Int) := by
 by_cases h4 : r.length < 4
 ·
  rw [wlast, if_pos h4]
  exact ref4_l1b r hb h4 h hh
 ·
  rw [wlast, if_neg h4]
  obtain ⟨y, q4, z, t, z1, z2, e1, e2, e3, e4, e5, e6, e7, e8⟩ := wfour_step h r hh hb
  have hv := value_ev (r.take 4) (hb.take _) (by rw [List.length_take]; omega)
  rw [e1] at hv
  have ht := turn4_ev z 23 e4 (by decide)
  rw [e5] at ht
  have hrec := ref4_l1b (r.drop 4) (hb.drop 4) (by rw [List.length_drop]; omega) z2 (by rw [← e8]; exact wfour_lt _ _)
  rw [e8]
  have step : Ev (fun k => (fascicleref01_Value.f k (strOfNums (r.take 4))).bind fun v => (fascicleref04_turn.f k (bits .xor .u64 (h : Int) (IntKind.u64.wrap (v * 11400714785074694791))) ((23 : Nat) : Int)).bind fun u => fascicleref04_Sum.l1 k (strOfNums (r.drop 4)) (IntKind.u64.wrap (IntKind.u64.wrap (u * 14029467366897019727) + 1609587929392839161))) ((wfin (wbytes z2 (r.drop 4)) : Nat) : Int) := by
   refine Ev.bind hv ?_
   rw [e2, e3]
   refine Ev.bind ht ?_
   rw [e6, e7]
   exact hrec
  refine Ev.step (fun k => ?_) step
  have hx1 : (strOfNums r).extract 0 4 = strOfNums (r.take 4) := by rw [nums_extract, List.drop_zero]
  have hx2 : (strOfNums r).extract 4 r.length = strOfNums (r.drop 4) := by rw [nums_extract, List.take_of_length_le (by omega)]
  simp only [fascicleref04_Sum.l1]
  rw [nums_size, if_pos (by omega), if_pos (by omega), if_pos (by omega), hx1, hx2]
  rfl
theorem wtail_small (h : Nat) (r : List Int) (hl : r.length < 8) : wtail h r = wlast h r := by
 unfold wtail
 rw [show r.length / 8 = 0 by omega]
 rfl
theorem wtail_step (h : Nat) (r : List Int) (hl : 8 ≤ r.length) : wtail h r = wtail (weight h r) (r.drop 8) := by
 unfold wtail
 rw [List.length_drop, show r.length / 8 = (r.length - 8) / 8 + 1 by omega, weights, List.drop_drop]
 congr 2
 omega
theorem ref4_l0 : ∀ (n : Nat) (r : List Int) (hb : Bytes r) (hn : r.length / 8 = n) (h : Nat) (hh : h < 18446744073709551616), Ev (fun k => fascicleref04_Sum.l0 k (strOfNums r) (h : Int)) ((wfin (wtail h r) : Nat) : Int) := by
 intro n
 induction n with
 | zero =>
  intro r hb hn h hh
  rw [wtail_small h r (by omega)]
  refine Ev.step (fun k => ?_) (ref4_l1 r hb (by omega) h hh)
  simp only [fascicleref04_Sum.l0]
  rw [nums_size, if_neg (by omega)]
 | succ n ih =>
  intro r hb hn h hh
  obtain ⟨y, wy, z, t, z1, z2, e1, e2, e3, e4, e5, e6, e7, e8, e9⟩ := weight_step h r hh hb
  have hv := value_ev (r.take 8) (hb.take _) (by rw [List.length_take]; omega)
  rw [e1] at hv
  have hi := into4_ev 0 y (by decide) e2
  rw [e3] at hi
  have ht := turn4_ev z 27 e5 (by decide)
  rw [e6] at ht
  have hrec := ih (r.drop 8) (hb.drop 8) (by rw [List.length_drop]; omega) z2 (by rw [← e9]; exact weight_lt _ _)
  rw [wtail_step h r (by omega), e9]
  have step : Ev (fun k => (fascicleref01_Value.f k (strOfNums (r.take 8))).bind fun v => (fascicleref04_into.f k ((0 : Nat) : Int) v).bind fun q => (fascicleref04_turn.f k (bits .xor .u64 (h : Int) q) ((27 : Nat) : Int)).bind fun u => fascicleref04_Sum.l0 k (strOfNums (r.drop 8)) (IntKind.u64.wrap (IntKind.u64.wrap (u * 11400714785074694791) + 9650029242287828579))) ((wfin (wtail z2 (r.drop 8)) : Nat) : Int) := by
   refine Ev.bind hv ?_
   refine Ev.bind hi ?_
   rw [e4]
   refine Ev.bind ht ?_
   rw [e7, e8]
   exact hrec
  refine Ev.step (fun k => ?_) step
  have hx1 : (strOfNums r).extract 0 8 = strOfNums (r.take 8) := by rw [nums_extract, List.drop_zero]
  have hx2 : (strOfNums r).extract 8 r.length = strOfNums (r.drop 8) := by rw [nums_extract, List.take_of_length_le (by omega)]
  simp only [fascicleref04_Sum.l0]
  rw [nums_size, if_pos (by omega), if_pos (by omega), if_pos (by omega), hx1, hx2]
  rfl
theorem ref4_ev (a : Int) (l : List Int) (h0 : 0 ≤ a) (h1 : a < 18446744073709551616) (hb : Bytes l) (hl : l.length ≤ 1000000000000) : Ev (fun k => fascicleref04_Sum.f k a (strOfNums l)) ((wsum a.toNat l : Nat) : Int) := by
 obtain ⟨s, rfl⟩ := Int.eq_ofNat_of_zero_le h0
 rw [Int.toNat_natCast]
 have hs : s < 18446744073709551616 := by omega
 unfold fascicleref04_Sum.f
 have hw : IntKind.u64.wrap ((l.length : Nat) : Int) = (l.length : Int) := wu64 (by omega) (by omega)
 have hq := wstart_lt s l
 have key : Ev (fun k => fascicleref04_Sum.j0 k (strOfNums (wrest l)) (l.length : Int) ((wstart s l : Nat) : Int)) ((wsum s l : Nat) : Int) := by
  rw [wsum]
  refine Ev.step (fun k => ?_) (ref4_l0 _ (wrest l) (hb.drop _) rfl ((wstart s l + l.length) % 18446744073709551616) (mod_lt64 _))
  simp only [fascicleref04_Sum.j0]
  rw [add_step]
 by_cases c : l.length < 32
 ·
  have e1 : wrest l = l := by unfold wrest; rw [show l.length / 32 = 0 by omega]; rfl
  have e2 : IntKind.u64.wrap ((s : Int) + 2870177450012600261) = ((wstart s l : Nat) : Int) := by
   rw [wstart, wbeg, if_pos c]
   exact add_step s 2870177450012600261
  rw [e1] at key
  refine Ev.congr (fun k => ?_) key
  rw [nums_size, if_neg (by omega), hw, e2]
 ·
  refine Ev.congr (fun k => ?_) key
  rw [nums_size, if_pos (by omega), hw]
  have hbg : fascicleref04_begin.f (s : Int) (strOfNums l) = some (((wout (wvs s l) : Nat) : Int), strOfNums (wrest l)) := by
   unfold fascicleref04_begin.f
   rw [if_pos ⟨h0, h1, by rw [nums_size]; exact hl⟩, sby_nums l hb, Int.toNat_natCast]
  rw [hbg, Option.bind_some, wstart, wbeg, if_neg c]
end Go.Proofs.Ytekanmieppnpeaa.G
end
section
namespace Go.Proofs.Ytekanmieppnpeaa.G
open Go Go.RowKit Go.Proofs.YtekanmieppnpeaaW.PrintWords Go.Proofs.YtekanmieppnpeaaW.PrintLast Go.Proofs.YtekanmieppnpeaaW.PrintMore Go.Proofs.Ytekanmieppnpeaa.PureKit Go.Proofs.Ytekanmieppnpeaa.Sep
theorem lev_nbytesN : ∀ (n y : Nat), lev (nbytes n (y : Int)) = ((y % 256 ^ n : Nat) : Int)
 | 0, y => by simp [nbytes, lev]
 | n + 1, y => by
  have hp : 256 ^ (n + 1) = 256 * 256 ^ n := by rw [Nat.pow_succ, Nat.mul_comm]
  have e := lev_nbytesN n (y / 256)
  have e4 : y % (256 * 256 ^ n) = y % 256 + 256 * (y / 256 % 256 ^ n) := Nat.mod_mul
  simp only [nbytes, lev]
  rw [show (y : Int) / 256 = ((y / 256 : Nat) : Int) by omega, e, hp, e4]
  generalize y / 256 % 256 ^ n = q
  omega
theorem lev_nbytes (n : Nat) (x : Int) (h : 0 ≤ x) : lev (nbytes n x) = x % ((256 ^ n : Nat) : Int) := by
 obtain ⟨y, rfl⟩ := Int.eq_ofNat_of_zero_le h
 have := lev_nbytesN n y
 rw [show ((y % 256 ^ n : Nat) : Int) = (y : Int) % ((256 ^ n : Nat) : Int) from rfl] at this
 exact this
end Go.Proofs.Ytekanmieppnpeaa.G
end
section
namespace Go.Proofs.Ytekanmieppnpeaa.Tb
open Go Go.RowKit Go.Proofs.Ytekanmieppnpeaa.G Go.Proofs.YtekanmieppnpeaaW.PrintWords Go.Proofs.YtekanmieppnpeaaW.PrintLast Go.Proofs.YtekanmieppnpeaaW.PrintMore Go.Proofs.Ytekanmieppnpeaa.PureKit Go.Proofs.Ytekanmieppnpeaa.Sep Go.Proofs.Ytekanmieppnpeaa.Fe Go.Proofs.Ytekanmieppnpeaa.LCobs
set_option maxRecDepth 100000
def fencesN (l : List E1) (i : Nat) : List Int := (List.range (chunks i)).map (fenceAt l)
theorem fencesN_len (l : List E1) (i : Nat) : (fencesN l i).length = chunks i := by unfold fencesN; rw [List.length_map, List.length_range]
theorem fencesN_hit (l : List E1) (i : Nat) (h : i % 16 = 0) (x : E1) (hx : l[i]? = some x) : fencesN l (i + 1) = fencesN l i ++ [x.f0] := by
 have h1 : chunks (i + 1) = chunks i + 1 := by unfold chunks; omega
 have h2 : 16 * chunks i = i := by unfold chunks; omega
 unfold fencesN
 rw [h1, List.range_succ, List.map_append]
 congr 1
 show [fenceAt l (chunks i)] = [x.f0]
 unfold fenceAt
 rw [h2, rdE l i x hx]
theorem fencesN_miss (l : List E1) (i : Nat) (h : i % 16 ≠ 0) : fencesN l (i + 1) = fencesN l i := by
 have h1 : chunks (i + 1) = chunks i := by unfold chunks; omega
 unfold fencesN
 rw [h1]
theorem tmod16 (i : Nat) : (Int.tmod (i : Int) 16 = 0) ↔ i % 16 = 0 := by
 rw [Int.tmod_eq_emod_of_nonneg (by omega)]; omega
theorem refof_loop (l : List E1) (hl : l.length ≤ 1000000) : ∀ (d i : Nat), i + d = l.length → Ev (fun k => fascicleref12_Of.l0 k (fencesN l i) (refsE l) (l.length : Int) (i : Int)) (fencesE l)
 | 0, i, h => by
  refine Ev.step (f := fun _ => some (fencesN l i)) (fun k => ?_) (ev_eq (Ev.now _) (by rw [show i = l.length by omega]; rfl))
  unfold fascicleref12_Of.l0
  rw [if_neg (by omega)]
 | d + 1, i, h => by
  obtain ⟨x, hx⟩ : ∃ x, l[i]? = some x := ⟨_, List.getElem?_eq_getElem (by omega)⟩
  have hlen : (fencesN l i).length < 17592186044416 := by rw [fencesN_len]; unfold chunks; omega
  refine Ev.step (f := fun k => fascicleref12_Of.l0 k (fencesN l (i + 1)) (refsE l) (l.length : Int) ((i + 1 : Nat) : Int)) (fun k => ?_) (refof_loop l hl d (i + 1) (by omega))
  simp only [fascicleref12_Of.l0]
  rw [if_pos (by omega), if_pos (by omega), if_pos (by rw [refsE_len]; omega), rdR l i x hx, inc64 (by omega)]
  by_cases hm : i % 16 = 0
  ·
   rw [if_pos ((tmod16 i).2 hm), if_pos hlen, fencesN_hit l i hm x hx]
   rfl
  ·
   rw [if_neg (fun hh => hm ((tmod16 i).1 hh)), fencesN_miss l i hm]
theorem refof_ev (l : List E1) (hl : l.length ≤ 1000000) : Ev (fun k => fascicleref12_Of.f k (refsE l)) (fencesE l) := by
 have := refof_loop l hl l.length 0 (by omega)
 unfold fascicleref12_Of.f
 rw [refsE_len]
 exact this
def anyAbove (u : Int) (l : List E1) : Bool := l.any fun x => decide (x.f1 ≥ u)
theorem check13_loop (u : Int) (l : List E1) (hl : l.length ≤ 1000000) : ∀ (d i : Nat), i + d = l.length → Ev (fun k => fascicleref13_Check.l0 k (refsE l) (l.length : Int) (i : Int) u (refsE l)) (if anyAbove u (l.drop i) = true then 4 else 0)
 | 0, i, h => by
  rw [List.drop_of_length_le (by omega)]
  refine Ev.step (f := fun _ => some 0) (fun k => ?_) (Ev.now _)
  unfold fascicleref13_Check.l0
  rw [if_neg (by omega)]
 | d + 1, i, h => by
  obtain ⟨x, hx⟩ : ∃ x, l[i]? = some x := ⟨_, List.getElem?_eq_getElem (by omega)⟩
  have hd := drop_at hx
  by_cases hq : x.f1 ≥ u
  ·
   have : anyAbove u (l.drop i) = true := by rw [hd]; unfold anyAbove; rw [List.any_cons, decide_eq_true hq, Bool.true_or]
   rw [if_pos this]
   refine Ev.step (f := fun _ => some 4) (fun k => ?_) (Ev.now _)
   simp only [fascicleref13_Check.l0]
   rw [if_pos (by omega), if_pos (by omega), if_pos (by rw [refsE_len]; omega), rdR l i x hx, if_pos (show (toR x).f1 ≥ u from hq)]
  ·
   have : anyAbove u (l.drop i) = anyAbove u (l.drop (i + 1)) := by rw [hd]; unfold anyAbove; rw [List.any_cons, decide_eq_false hq, Bool.false_or]
   rw [this]
   refine Ev.step (fun k => ?_) (check13_loop u l hl d (i + 1) (by omega))
   simp only [fascicleref13_Check.l0]
   rw [if_pos (by omega), if_pos (by omega), if_pos (by rw [refsE_len]; omega), rdR l i x hx, if_neg (show ¬ (toR x).f1 ≥ u from hq), inc64 (by omega)]
theorem check13_ev (u : Int) (l : List E1) (hl : l.length ≤ 1000000) : Ev (fun k => fascicleref13_Check.f k u (refsE l)) (checkF u l) := by
 unfold fascicleref13_Check.f checkF
 by_cases h0 : l.length = 0
 ·
  rw [if_pos h0]
  refine Ev.congr (f := fun _ => some 4) (fun k => ?_) (Ev.now _)
  rw [if_pos (by rw [refsE_len]; omega)]
 ·
  rw [if_neg h0]
  refine Ev.congr (f := ?_) (fun k => ?_) ?_
  rotate_left
  ·
   rw [if_neg (by rw [refsE_len]; omega), if_neg (by rw [refsE_len]; omega)]
  refine Ev.bind (refrise_ev l hl) ?_
  cases hr : riseE l with
  | false =>
   rw [if_pos rfl]
   exact Ev.congr (f := fun _ => some 8) (fun k => if_neg (by decide)) (Ev.now _)
  | true =>
   rw [if_neg (by decide)]
   have h := check13_loop u l hl l.length 0 (by omega)
   rw [List.drop_zero] at h
   refine Ev.congr (fun k => ?_) h
   rw [if_pos rfl, refsE_len]
   rfl
theorem ents_drop (b : List Int) (p q n : Nat) : entsAt (b.drop p) q n = entsAt b (p + q) n := by
 unfold entsAt
 apply List.map_congr_left
 intro k _
 unfold entAt
 rw [← lev_at, ← lev_at, ← lev_at, ← lev_at, List.drop_drop, List.drop_drop]
 congr 4 <;> omega
theorem fens_drop (b : List Int) (p q n : Nat) : fensAt (b.drop p) q n = fensAt b (p + q) n := by
 unfold fensAt
 apply List.map_congr_left
 intro k _
 unfold fenAt
 rw [← lev_at, ← lev_at, List.drop_drop]
 congr 3
 omega
theorem fences_ok {l : List E1} (hok : ∀ x ∈ l, OkE x) : ∀ y ∈ fencesE l, 0 ≤ y ∧ y < 18446744073709551616 := by
 intro y hy
 obtain ⟨k, hk, rfl⟩ := List.mem_map.1 hy
 have hkl : 16 * k < l.length := by have := List.mem_range.1 hk; unfold chunks at this; omega
 unfold fenceAt
 rw [rdE l (16 * k) _ (List.getElem?_eq_getElem hkl)]
 have := hok _ (List.getElem_mem hkl)
 exact ⟨this.1, this.2.1⟩
end Go.Proofs.Ytekanmieppnpeaa.Tb
end
section
namespace Go.Proofs.Ytekanmieppnpeaa.Tb
open Go Go.RowKit Go.Proofs.YtekanmieppnpeaaW.PrintWords Go.Proofs.YtekanmieppnpeaaW.PrintLast Go.Proofs.YtekanmieppnpeaaW.PrintMore Go.Proofs.Ytekanmieppnpeaa.PureKit Go.Proofs.Ytekanmieppnpeaa.Sep Go.Proofs.Ytekanmieppnpeaa.G
set_option maxRecDepth 100000
theorem num32 {x : Int} (h0 : 0 ≤ x) (h1 : x ≤ 4294967295) : IntKind.u64.wrap x = x := wu64 h0 (by omega)
theorem text11_loop (l : List E1) (hl : l.length ≤ 1000000) (hb : ∀ x ∈ l, OkE x) : ∀ (d i : Nat) (acc : List Int), i + d = l.length → acc.length ≤ 12 * i → Ev (fun k => fascicleref11_Text.l0 k (strOfNums acc) (refsE l) (l.length : Int) (i : Int)) (strOfNums (acc ++ tbytes (l.drop i)))
 | 0, i, acc, h, ha => by
  rw [List.drop_of_length_le (by omega), show tbytes [] = [] from rfl, List.append_nil]
  refine Ev.step (f := fun _ => some (strOfNums acc)) (fun k => ?_) (Ev.now _)
  unfold fascicleref11_Text.l0
  rw [if_neg (by omega)]
 | d + 1, i, acc, h, ha => by
  have hi : i < l.length := by omega
  have hx := hb _ (List.getElem_mem hi)
  have hd := List.drop_eq_getElem_cons hi
  have hR := rdR l i _ (List.getElem?_eq_getElem hi)
  have hrl := refsE_len l
  have ih := text11_loop l hl hb d (i + 1) (acc ++ nbytes 8 (l[i]).f0 ++ nbytes 4 (l[i]).f1) (by omega) (by rw [List.length_append, List.length_append, nbytes_len, nbytes_len]; omega)
  refine Ev.step (f := ?_) (fun k => ?_) ?_
  rotate_left
  ·
   simp only [fascicleref11_Text.l0]
   rw [if_pos (by omega), if_pos (by omega), if_pos (by omega), hR]
  refine Ev.bind (nbT_refn 8 (l[i]).f0 (by decide) hx.1 hx.2.1) ?_
  refine Ev.congr (f := ?_) (fun k => ?_) ?_
  rotate_left
  ·
   rw [if_pos (by rw [nums_size, nums_size, nbytes_len]; omega), PureKit.nums_append, show (toR l[i]).f1 = (l[i]).f1 from rfl, num32 hx.2.2.1 hx.2.2.2]
  refine Ev.bind (nbT_refn 4 (l[i]).f1 (by decide) hx.2.2.1 (by have := hx.2.2.2; omega)) ?_
  refine Ev.congr (fun k => ?_) (Ev.eq ih ?_)
  ·
   rw [if_pos (by rw [nums_size, nums_size, nbytes_len, List.length_append, nbytes_len]; omega), PureKit.nums_append, inc64 (by omega)]
  ·
   rw [hd, show tbytes (l[i] :: l.drop (i + 1)) = nbytes 8 (l[i]).f0 ++ nbytes 4 (l[i]).f1 ++ tbytes (l.drop (i + 1)) from rfl]
   simp only [List.append_assoc]
theorem text11_ev (l : List E1) (hl : l.length ≤ 1000000) (hb : ∀ x ∈ l, OkE x) : Ev (fun k => fascicleref11_Text.f k (refsE l)) (strOfNums (tbytes l)) := by
 unfold fascicleref11_Text.f
 rw [refsE_len]
 exact text11_loop l hl hb l.length 0 [] (by omega) (Nat.le_refl _)
end Go.Proofs.Ytekanmieppnpeaa.Tb
end
section
namespace Go.Proofs.Ytekanmieppnpeaa.Tb
open Go Go.RowKit Go.Proofs.Ytekanmieppnpeaa.G Go.Proofs.YtekanmieppnpeaaW.PrintWords Go.Proofs.YtekanmieppnpeaaW.PrintLast Go.Proofs.YtekanmieppnpeaaW.PrintMore Go.Proofs.Ytekanmieppnpeaa.PureKit
theorem refs_loop (l : List E1) (hl : l.length ≤ 1000000) : ∀ (d i : Nat) (acc : List R1), i + d = l.length → acc.length ≤ i → Ev (fun k => fasciclelaw11_Refs.l0 k acc l (l.length : Int) (i : Int)) (acc ++ refsE (l.drop i))
 | 0, i, acc, h, ha => by
  refine Ev.step (f := fun _ => some acc) (fun k => ?_) (ev_eq (Ev.now _) (by rw [List.drop_of_length_le (by omega)]; exact (List.append_nil _).symm))
  unfold fasciclelaw11_Refs.l0
  rw [if_neg (by omega)]
 | d + 1, i, acc, h, ha => by
  obtain ⟨x, hx⟩ : ∃ x, l[i]? = some x := ⟨_, List.getElem?_eq_getElem (by omega)⟩
  refine Ev.step (f := fun k => fasciclelaw11_Refs.l0 k (acc ++ [toR x]) l (l.length : Int) ((i + 1 : Nat) : Int)) (fun k => ?_) (ev_eq (refs_loop l hl d (i + 1) (acc ++ [toR x]) (by omega) (by rw [List.length_append]; exact Nat.succ_le_succ ha)) ?_)
  ·
   simp only [fasciclelaw11_Refs.l0]
   rw [if_pos (by omega), if_pos (by omega), if_pos (by omega), if_pos (by omega), rdE l i x hx, inc64 (by omega)]
   rfl
  ·
   rw [drop_at hx]
   simp [refsE]
theorem refs_ev (l : List E1) (hl : l.length ≤ 1000000) : Ev (fun k => fasciclelaw11_Refs.f k l) (refsE l) := by
 unfold fasciclelaw11_Refs.f
 exact refs_loop l hl l.length 0 [] (by omega) (Nat.le_refl _)
end Go.Proofs.Ytekanmieppnpeaa.Tb
end
section
namespace Go.Proofs.Ytekanmieppnpeaa.G
open Go Go.RowKit Go.Proofs.YtekanmieppnpeaaW.PrintWords Go.Proofs.YtekanmieppnpeaaW.PrintLast Go.Proofs.YtekanmieppnpeaaW.PrintMore Go.Proofs.Ytekanmieppnpeaa.PureKit Go.Proofs.Ytekanmieppnpeaa.Sep
theorem refn_l0 (n : Nat) (hn : n ≤ 8) : ∀ (d i : Nat) (x : Int) (a : List Int), i + d = n → 0 ≤ x → x < 18446744073709551616 → a.length + d ≤ 100 → Ev (fun k => fascicleref01_Num.l0 k x (strOfNums a) (n : Int) (i : Int)) (strOfNums (a ++ nbytes d x)) := by
 intro d
 induction d with
 | zero =>
  intro i x a hi h0 h1 ha
  refine Ev.step (f := fun _ => some (strOfNums (a ++ nbytes 0 x))) (fun k => ?_) (Ev.now _)
  simp only [fascicleref01_Num.l0]
  rw [if_neg (by omega), nbytes, List.append_nil]
 | succ d ih =>
  intro i x a hi h0 h1 ha
  refine Ev.step (fun k => ?_) (Ev.eq (ih (i + 1) (x / 256) (a ++ [x % 256]) (by omega) (by omega) (by omega) (by simp; omega)) (by simp [nbytes]))
  simp only [fascicleref01_Num.l0]
  rw [if_pos (by omega), Int.tmod_eq_emod_of_nonneg h0, Int.tdiv_eq_ediv_of_nonneg h0]
  simp only [Option.bind_some]
  rw [if_pos (by rw [nums_size, nums_size]; simp only [List.length_cons, List.length_nil]; omega), PureKit.nums_append, wu64 (by omega) (by omega), w64 (by omega) (by omega), show x % 256 % 256 = x % 256 by omega]
  rfl
theorem refn (n : Nat) (x : Int) (hn : n ≤ 8) (h0 : 0 ≤ x) (h1 : x < 18446744073709551616) : Ev (fun k => fascicleref01_Num.f k x (n : Int)) (strOfNums (nbytes n x)) := by
 have := refn_l0 n hn n 0 x [] (by omega) h0 h1 (by simp; omega)
 exact this
end Go.Proofs.Ytekanmieppnpeaa.G
end
section
namespace Go.Proofs.Ytekanmieppnpeaa.G
open Go Go.RowKit Go.Proofs.YtekanmieppnpeaaW.PrintWords Go.Proofs.YtekanmieppnpeaaW.PrintLast Go.Proofs.YtekanmieppnpeaaW.PrintMore Go.Proofs.Ytekanmieppnpeaa.PureKit Go.Proofs.Ytekanmieppnpeaa.Sep Go.Proofs.Ytekanmieppnpeaa.Rol Go.Proofs.Ytekanmieppnpeaa.LCobs
theorem sealed_bytes (l : List Int) (hb : Bytes l) : Bytes (sealed l) := stuffed_bytes _ (summed_bytes l hb)
theorem sealed_len (l : List Int) : (sealed l).length ≤ l.length + 8 + 1 + (l.length + 7) / 254 := by
 have := stuff_len (summed l)
 rw [summed_len] at this
 unfold sealed
 omega
theorem ref_seal (l : List Int) (hb : Bytes l) (hl : l.length ≤ 90000) : Ev (fun k => fascicleref09_Seal.f k (strOfNums l)) (strOfNums (sealed l ++ [0])) := by
 unfold fascicleref09_Seal.f
 have h1 := ref4_ev 0 l (by decide) (by decide) hb (by omega)
 have h2 := refn 8 ((wsum 0 l : Nat) : Int) (by decide) (by omega) (by have := wsum_lt 0 l; omega)
 have h3 := ref_stuff_f (summed l) (summed_bytes l hb) (by rw [summed_len]; omega)
 have hsl := sealed_len l
 refine Ev.bind h1 ?_
 refine Ev.bind h2 ?_
 have c1 : l.length + 8 ≤ 9223372036854775807 := by omega
 rw [nums_size, nums_size, nbytes_len]
 simp only [if_pos c1]
 rw [PureKit.nums_append]
 refine Ev.bind h3 ?_
 rw [nums_size, show stf (summed l) [] = sealed l from rfl, if_pos (by omega), nums_one0, PureKit.nums_append]
 exact Ev.now _
end Go.Proofs.Ytekanmieppnpeaa.G
end
section
namespace Go.Proofs.Ytekanmieppnpeaa.G
open Go Go.RowKit Go.Proofs.YtekanmieppnpeaaW.PrintWords Go.Proofs.YtekanmieppnpeaaW.PrintLast Go.Proofs.YtekanmieppnpeaaW.PrintMore Go.Proofs.Ytekanmieppnpeaa.PureKit Go.Proofs.Ytekanmieppnpeaa.Sep
end Go.Proofs.Ytekanmieppnpeaa.G
end
section
namespace Go.Proofs.Ytekanmieppnpeaa.G
open Go Go.RowKit Go.Proofs.YtekanmieppnpeaaW.PrintWords Go.Proofs.YtekanmieppnpeaaW.PrintLast Go.Proofs.YtekanmieppnpeaaW.PrintMore Go.Proofs.Ytekanmieppnpeaa.PureKit Go.Proofs.Ytekanmieppnpeaa.Sep Go.Proofs.Ytekanmieppnpeaa.Rol Go.Proofs.Ytekanmieppnpeaa.LCobs
theorem lev_sum (x : Nat) (h : x < 18446744073709551616) : lev (nbytes 8 (x : Int)) = (x : Int) := by
 rw [lev_nbytes 8 (x : Int) (by omega)]
 omega
theorem opnb_sealed (l : List Int) : opnb (sealed l) = (l, 0) := by
 unfold opnb sealed
 rw [unst_stf]
 dsimp only
 have hl := summed_len l
 have e1 : (summed l).take ((summed l).length - 8) = l := by rw [hl, Nat.add_sub_cancel]; unfold summed; exact List.take_left
 have e2 : (summed l).drop ((summed l).length - 8) = nbytes 8 ((wsum 0 l : Nat) : Int) := by rw [hl, Nat.add_sub_cancel]; unfold summed; exact List.drop_left
 rw [e1, e2, lev_sum _ (wsum_lt 0 l), if_neg (by simp), if_neg (by omega), if_neg (by simp)]
end Go.Proofs.Ytekanmieppnpeaa.G
end
section
namespace Go.Proofs.Ytekanmieppnpeaa.Pure
open Go Go.RowKit Go.Proofs.Ytekanmieppnpeaa.G Go.Proofs.YtekanmieppnpeaaW.PrintWords Go.Proofs.YtekanmieppnpeaaW.PrintLast Go.Proofs.Ytekanmieppnpeaa.PureKit Go.Proofs.Ytekanmieppnpeaa.Sep Go.Proofs.Ytekanmieppnpeaa.Fe Go.Proofs.Ytekanmieppnpeaa.Tb Go.Proofs.Ytekanmieppnpeaa.LCobs
set_option maxRecDepth 100000
theorem less_trans {p q r : E1} (h1 : lessE p q) (h2 : lessE q r) : lessE p r := by unfold lessE at *; omega
theorem riseN_all (l : List E1) : ∀ d i, riseN l d i = true → ∀ j, i ≤ j → j < i + d → ∀ x y, l[j]? = some x → l[j + 1]? = some y → lessE x y
 | 0, i, _, j, h1, h2, _, _, _, _ => by omega
 | d + 1, i, h, j, h1, h2, x, y, hx, hy => by
  unfold riseN at h
  by_cases hij : i = j
  ·
   subst hij
   rw [hx, hy] at h
   dsimp only at h
   by_cases hl : lessE x y
   ·
    exact hl
   ·
    rw [if_neg hl] at h; cases h
  ·
   have hj : j + 1 < l.length := (List.getElem?_eq_some_iff.1 hy).1
   obtain ⟨a, ha⟩ : ∃ a, l[i]? = some a := ⟨_, List.getElem?_eq_getElem (by omega)⟩
   obtain ⟨b, hb⟩ : ∃ b, l[i + 1]? = some b := ⟨_, List.getElem?_eq_getElem (by omega)⟩
   rw [ha, hb] at h
   dsimp only at h
   by_cases hl : lessE a b
   ·
    rw [if_pos hl] at h
    exact riseN_all l d (i + 1) h j (by omega) (by omega) x y hx hy
   ·
    rw [if_neg hl] at h; cases h
theorem rise_pair {l : List E1} (h : riseE l = true) : l.Pairwise lessE := by
 have hadj : ∀ j (hj : j + 1 < l.length), lessE (l[j]'(by omega)) l[j + 1] := fun j hj =>
  riseN_all l (l.length - 1) 0 h j (by omega) (by omega) _ _ (List.getElem?_eq_getElem (by omega)) (List.getElem?_eq_getElem hj)
 have hall : ∀ d i (hi : i + d + 1 < l.length), lessE (l[i]'(by omega)) (l[i + d + 1]'hi) := by
  intro d
  induction d with
  | zero => intro i hi; exact hadj i hi
  | succ d ih => intro i hi; exact less_trans (ih i (by omega)) (hadj (i + d + 1) (by omega))
 refine List.pairwise_iff_getElem.2 fun i j hi hj hij => ?_
 obtain ⟨d, rfl⟩ : ∃ d, j = i + d + 1 := ⟨j - i - 1, by omega⟩
 exact hall d i hj
theorem check_rises {u : Int} {l : List E1} (h : checkF u l = 0) : riseE l = true ∧ 0 < l.length := by
 unfold checkF at h
 split at h
 ·
  cases h
 ·
  rename_i h0
  split at h
  ·
   cases h
  ·
   rename_i hr
   exact ⟨by simpa using hr, by omega⟩
theorem fences_rise {l : List E1} (h : l.Pairwise lessE) : risesF (fencesE l) = true := by
 rw [risesF_iff]
 intro i hi
 have hl : (fencesE l).length = chunks l.length := by unfold fencesE; rw [List.length_map, List.length_range]
 rw [hl] at hi
 have hg : ∀ k, k < chunks l.length → ∃ hk : 16 * k < l.length, (fencesE l).getD k 0 = (l[16 * k]).f0 := fun k hk => by
  have h16 : 16 * k < l.length := by unfold chunks at hk; omega
  refine ⟨h16, ?_⟩
  unfold fencesE
  rw [List.getD_eq_getElem?_getD, List.getElem?_map, List.getElem?_range hk]
  show fenceAt l k = _
  unfold fenceAt
  rw [rdE l (16 * k) _ (List.getElem?_eq_getElem h16)]
 obtain ⟨h1, e1⟩ := hg i (by omega)
 obtain ⟨h2, e2⟩ := hg (i + 1) (by omega)
 rw [e1, e2]
 have := List.pairwise_iff_getElem.1 h (16 * i) (16 * (i + 1)) h1 h2 (by omega)
 unfold lessE at this
 omega
theorem entsAt_append (x r : List Int) (n : Nat) (h : 12 * n ≤ x.length) : entsAt (x ++ r) 0 n = entsAt x 0 n := by
 unfold entsAt
 apply List.map_congr_left
 intro k hk
 have := List.mem_range.1 hk
 unfold entAt
 rw [List.take_append_of_le_length (by omega), List.take_append_of_le_length (by omega)]
theorem footb_run (u : Int) (l : List E1) (hu : 0 ≤ u) (hu' : u ≤ 4294967295) (hok : ∀ x ∈ l, OkE x) (hl : l.length ≤ 1000) (hc : checkF u l = 0) : footrun (footb u l) = (0, u, l, fencesE l) := by
 obtain ⟨hr, h0⟩ := check_rises hc
 have hfo := fences_ok hok
 have hfl : (fencesE l).length = chunks l.length := by unfold fencesE; rw [List.length_map, List.length_range]
 have hfr := fences_rise (rise_pair hr)
 have e0 : footb u l = 4 :: (nbytes 4 (l.length : Int) ++ (nbytes 4 u ++ (tbytes l ++ fbytesL (fencesE l)))) := by
  unfold footb
  rw [show fbytes (fencesE l) = fbytesL (fencesE l) from rfl]
  simp
 have hlen : (footb u l).length = 9 + 12 * l.length + 8 * chunks l.length := by
  rw [e0]
  simp only [List.length_cons, List.length_append, nbytes_len, tbytes_len, fbytesL_len, hfl]
  omega
 have d1 : (footb u l).drop 1 = nbytes 4 (l.length : Int) ++ (nbytes 4 u ++ (tbytes l ++ fbytesL (fencesE l))) := by rw [e0]; rfl
 have d5 : (footb u l).drop 5 = nbytes 4 u ++ (tbytes l ++ fbytesL (fencesE l)) := by
  rw [show (5 : Nat) = 1 + 4 from rfl, ← List.drop_drop, d1, List.drop_left' (nbytes_len 4 _)]
 have d9 : (footb u l).drop 9 = tbytes l ++ fbytesL (fencesE l) := by
  rw [show (9 : Nat) = 5 + 4 from rfl, ← List.drop_drop, d5, List.drop_left' (nbytes_len 4 _)]
 have dF : (footb u l).drop (9 + 12 * l.length) = fbytesL (fencesE l) := by
  rw [← List.drop_drop, d9, List.drop_left' (tbytes_len l)]
 have n1 := nbT_drop d1
 have n5 := nbT_drop d5
 rw [nbytes_len] at n1 n5
 have v1 : lev (((footb u l).take (1 + 4)).drop 1) = (l.length : Int) := by rw [n1, nb_lt4 (by omega) (by omega)]
 have v5 : lev (((footb u l).take (5 + 4)).drop 5) = u := by rw [n5, nb_lt4 hu hu']
 have hE : entsAt (footb u l) 9 l.length = l := by
  have := ents_drop (footb u l) 9 0 l.length
  rw [d9, entsAt_append _ _ _ (by rw [tbytes_len]; exact Nat.le_refl _), ents_tbytes l hok] at this
  exact this.symm
 have hF : fensAt (footb u l) (9 + 12 * l.length) (chunks l.length) = fencesE l := by
  have := fens_drop (footb u l) (9 + 12 * l.length) 0 (chunks l.length)
  rw [dF, ← hfl, fens_fbytesL _ hfo] at this
  rw [← hfl]
  exact this.symm
 have hg : (footb u l).getD 0 0 = 4 := by rw [e0]; rfl
 unfold footrun
 rw [if_neg (by omega), if_neg (by rw [hg]; decide), if_neg (by omega), v1, if_neg (by omega), if_neg (by omega), Int.toNat_natCast]
 unfold footrun2
 rw [if_neg (by omega), hE, if_neg (by rw [hr]; decide), if_neg (by omega), hF, if_neg (by rw [hfr]; decide), if_neg (by omega), v5]
theorem footget_put (u : Int) (l : List E1) (hu : 0 ≤ u) (hu' : u ≤ 4294967295) (hok : ∀ x ∈ l, OkE x) (hl : l.length ≤ 1000) (hc : checkF u l = 0) : footget (sealed (footb u l)) = (u, l, 0) := by
 rw [footget_eq, opnb_sealed, if_neg (by simp)]
 dsimp only
 rw [footb_run u l hu hu' hok hl hc]
 unfold footgot
 dsimp only
 rw [if_neg (by decide), if_neg (by rw [hc]; decide), if_pos rfl]
theorem text13_ev (u : Int) (l : List E1) (hu : 0 ≤ u) (hu' : u ≤ 4294967295) (hok : ∀ x ∈ l, OkE x) (hl : l.length ≤ 1000) : Ev (fun k => fascicleref13_Text.f k u (refsE l)) (strOfNums (sealed (footb u l) ++ [0])) := by
 have hfo := fences_ok hok
 have hfl : (fencesE l).length = chunks l.length := by unfold fencesE; rw [List.length_map, List.length_range]
 have hcl : chunks l.length ≤ 1000 := by unfold chunks; omega
 unfold fascicleref13_Text.f
 rw [refsE_len, wu64 (x := (l.length : Int)) (by omega) (by omega), wu64 hu (by omega)]
 have h4 : (⟨#[4]⟩ : ByteArray) = strOfNums [4] := rfl
 refine Ev.bind (nbT_refn 4 (l.length : Int) (by decide) (by omega) (by omega)) ?_
 refine Ev.congr (f := ?_) (fun k => ?_) ?_
 rotate_left
 ·
  rw [h4, if_pos (by rw [nums_size, nbytes_len]; decide), PureKit.nums_append]
 refine Ev.bind (nbT_refn 4 u (by decide) hu (by omega)) ?_
 refine Ev.congr (f := ?_) (fun k => ?_) ?_
 rotate_left
 ·
  rw [if_pos (by simp only [nums_size, List.length_append, nbytes_len, List.length_cons, List.length_nil]; decide), PureKit.nums_append]
 refine Ev.bind (text11_ev l (by omega) hok) ?_
 refine Ev.congr (f := ?_) (fun k => ?_) ?_
 rotate_left
 ·
  rw [if_pos (by simp only [nums_size, List.length_append, nbytes_len, List.length_cons, List.length_nil, tbytes_len]; omega), PureKit.nums_append]
 refine Ev.bind (refof_ev l (by omega)) ?_
 refine Ev.bind (text12_ev (fencesE l) (by omega) hfo) ?_
 refine Ev.congr (f := ?_) (fun k => ?_) ?_
 rotate_left
 ·
  rw [if_pos (by simp only [nums_size, List.length_append, nbytes_len, List.length_cons, List.length_nil, tbytes_len, fbytesL_len, hfl]; omega), PureKit.nums_append]
 exact Ev.bind (ref_seal (footb u l) (footb_bytes u l) (by have := footb_len u l hl; omega)) (Ev.now _)
theorem refs13_ev (u : Int) (l : List E1) (hl : l.length ≤ 1000) : Ev (fun k => fasciclelaw13_ref.f k u l) (u, refsE l) := by
 unfold fasciclelaw13_ref.f
 exact Ev.bind (refs_ev l (by omega)) (Ev.now _)
theorem same13_ev (u : Int) (T : List E1) (hl : T.length ≤ 1000000) : Ev (fun k => fasciclelaw13_same.f k u T u (refsE T)) true := by
 unfold fasciclelaw13_same.f
 refine Ev.congr (fun k => if_pos rfl) ?_
 exact Ev.bind (same_ev T hl) (Ev.now _)
def most (n : Int) : Int := 9 + 12 * n + 8 * ((n + 15) / 16) + 8 + 1 + (9 + 12 * n + 8 * ((n + 15) / 16) + 8 - 1) / 254 + 1
theorem most_f {n : Int} (h0 : 0 ≤ n) (h1 : n ≤ 100000) : footer_Most.f n = some (most n) := by
 have hm : mx 0 n = n := by
  unfold mx
  by_cases h : 0 < n
  ·
   rw [if_pos h]
  ·
   rw [if_neg h]; omega
 unfold footer_Most.f fence_Count.f
 rw [hm, hm]
 simp only [Option.bind_some]
 rw [w64 (x := n + 16) (by omega) (by omega), w64 (x := n + 16 - 1) (by omega) (by omega), Int.tdiv_eq_ediv_of_nonneg (by omega)]
 have hd : n + 16 - 1 = n + 15 := by omega
 rw [hd, w64 (x := (n + 15) / 16) (by omega) (by omega), w64 (x := 12 * n) (by omega) (by omega), w64 (x := 9 + 12 * n) (by omega) (by omega), w64 (x := 8 * ((n + 15) / 16)) (by omega) (by omega), w64 (x := 9 + 12 * n + 8 * ((n + 15) / 16)) (by omega) (by omega)]
 generalize hB : 9 + 12 * n + 8 * ((n + 15) / 16) = B
 have hB0 : 9 ≤ B ∧ B ≤ 10000000 := by omega
 have hmB : mx 0 B = B := by unfold mx; rw [if_pos (by omega)]
 unfold frame_Size.f cobs_Most.f
 rw [hmB, w64 (x := B + 8) (by omega) (by omega), if_neg (by omega)]
 simp only [Option.bind_some]
 rw [w64 (x := B + 8 + 1) (by omega) (by omega), w64 (x := B + 8 - 1) (by omega) (by omega), Int.tdiv_eq_ediv_of_nonneg (by omega), w64 (x := (B + 8 - 1) / 254) (by omega) (by omega), w64 (x := B + 8 + 1 + (B + 8 - 1) / 254) (by omega) (by omega), w64 (x := B + 8 + 1 + (B + 8 - 1) / 254 + 1) (by omega) (by omega)]
 unfold most
 rw [hB]
theorem put_len (u : Int) (l : List E1) : ((sealed (footb u l) ++ [0]).length : Int) ≤ most (l.length : Int) := by
 have h1 := sealed_len (footb u l)
 have hfl : (fencesE l).length = chunks l.length := by unfold fencesE; rw [List.length_map, List.length_range]
 have h2 : (footb u l).length = 9 + 12 * l.length + 8 * chunks l.length := by
  unfold footb
  rw [show fbytes (fencesE l) = fbytesL (fencesE l) from rfl]
  simp only [List.length_cons, List.length_append, List.length_nil, nbytes_len, tbytes_len, fbytesL_len, hfl]
 rw [List.length_append, List.length_singleton]
 have hF : (9 : Int) + 12 * (l.length : Int) + 8 * (((l.length : Int) + 15) / 16) = ((footb u l).length : Int) := by unfold chunks at h2; omega
 unfold most
 rw [hF]
 generalize (footb u l).length = F at *
 clear hF h2 hfl
 omega
theorem mx0 (n : Nat) (h : n ≤ 1000000) : mx 0 (wrap64 (((n + 1 : Nat) : Int) - 1)) = (n : Int) := by
 rw [w64 (by omega) (by omega)]
 unfold mx
 split <;> omega
theorem FooterPuts : fasciclelaw13_FooterPuts.Pure := by
 intro u l hu hlm hw
 have hub := bounds_u32 hu
 have hok : ∀ x ∈ l, OkE x := fun x hx => by
  have h1 := bounds_u64 (hw x hx).1
  have h2 := bounds_u32 (hw x hx).2
  exact ⟨by omega, by omega, by omega, by omega⟩
 refine rounds_of (r := true) ?_
 have hlv : fasciclelaw13_lives.f = some true := by decide +kernel
 refine Ev.congr (f := fun k => fasciclelaw13_FooterPuts.j0 k (decide ((l.length : Int) > 100)) u l) (fun k => ?_) ?_
 ·
  unfold fasciclelaw13_FooterPuts.f
  rw [hlv, Option.bind_some, if_pos rfl]
 by_cases h : (l.length : Int) > 100
 ·
  rw [decide_eq_true h]
  refine Ev.step (f := fun _ => some true) (fun k => ?_) (Ev.now _)
  simp only [fasciclelaw13_FooterPuts.j0]
  rw [if_pos trivial, hlv, Option.bind_some]
 rw [decide_eq_false h]
 have hl : l.length ≤ 100 := by omega
 have hP : footer_Put.f u l = some (putfoot u l, checkF u l) := by unfold footer_Put.f; rw [if_pos ⟨by omega, (okAll_iff l).2 hok, by omega, by omega⟩]
 have hCk : footer_Check.f u l = some (checkF u l) := by unfold footer_Check.f; rw [if_pos (by omega)]
 refine Ev.step (f := ?_) (fun k => ?_) ?_
 rotate_left
 ·
  simp only [fasciclelaw13_FooterPuts.j0]
  rw [if_neg (by decide), hP, Option.bind_some]
 refine Ev.bind (refs13_ev u l (by omega)) ?_
 dsimp only
 refine Ev.bind (check13_ev u l (by omega)) ?_
 refine Ev.congr (f := ?_) (fun k => ?_) ?_
 rotate_left
 ·
  rw [if_pos rfl, hCk, Option.bind_some, bne_self_eq_false]
 by_cases hc : checkF u l = 0
 rotate_left
 ·
  have hp : putfoot u l = [] := by unfold putfoot; rw [if_neg hc]
  rw [hp]
  refine Ev.step (f := fun _ => some true) (fun k => ?_) (Ev.now _)
  simp only [fasciclelaw13_FooterPuts.j1]
  rw [if_neg (by decide), if_neg hc]
  rfl
 have hp : putfoot u l = sealed (footb u l) ++ [0] := by unfold putfoot; rw [if_pos hc]
 rw [hp, hc]
 have hfb := footb_len u l (by omega)
 have hsl := sealed_len (footb u l)
 have hlen : (sealed (footb u l) ++ [0]).length = (sealed (footb u l)).length + 1 := by rw [List.length_append]; rfl
 have hmx := mx0 (sealed (footb u l)).length (by omega)
 have htk : (sealed (footb u l) ++ [0]).take (sealed (footb u l)).length = sealed (footb u l) := List.take_left' rfl
 have hG : footer_Get.f (sealed (footb u l)) = some (u, l, 0) := by
  unfold footer_Get.f
  rw [if_pos ⟨(wbytesOK_iff _).2 (sealed_bytes _ (footb_bytes u l)), by omega⟩, footget_put u l (by omega) (by omega) hok (by omega) hc]
 refine Ev.step (f := ?_) (fun k => ?_) ?_
 rotate_left
 ·
  simp only [fasciclelaw13_FooterPuts.j1]
  rw [if_neg (by decide), if_pos trivial, hlen, hmx, if_pos (by omega), if_pos (by omega), Int.toNat_natCast, htk, hG, Option.bind_some]
 refine Ev.bind (refs13_ev u l (by omega)) ?_
 dsimp only
 refine Ev.bind (text13_ev u l (by omega) (by omega) hok (by omega)) ?_
 have hpl := put_len u l
 rw [hlen] at hpl
 refine Ev.congr (f := ?_) (fun k => ?_) ?_
 rotate_left
 ·
  rw [if_pos rfl, most_f (n := (l.length : Int)) (by omega) (by omega), Option.bind_some, if_pos hpl, if_pos rfl]
 refine Ev.bind (refs13_ev u l (by omega)) ?_
 dsimp only
 exact Ev.bind (same13_ev u l (by omega)) (Ev.now _)
end Go.Proofs.Ytekanmieppnpeaa.Pure
end
section
namespace Go.Proofs.Ytekanmieppnpeaa.Row
open Go.RowKit Go.Proofs.YtekanmieppnpeaaW.PrintWords Go.Proofs.YtekanmieppnpeaaW.PrintLast Go.Proofs.YtekanmieppnpeaaW.PrintMore
structure Opn {α : Type} (P : Program) (t : TypeId) (d : Kd α) (ok : α → Prop) : Prop where
 opn : ∀ {H : Type} {enc : TypeId × Value → H} {W : World} {base : Nat} {spare : Nat → Bool} {held : Bool} {fuel : Nat} {cs : List Value} {x : DataW H × List MemPlace},
  DataW.trod enc P W base spare held fuel t cs = some x → ∃ a : α, d.K W a cs ∧ ok a
theorem Opn.int {P : Program} {t : TypeId} {k : IntKind} (hu : P.underlying t = some (.int k)) : Opn P t (Kd.int k) (fun a => (Lit.int k a).wf = true) :=
 ⟨fun h => by
  obtain ⟨n, rfl, _, hw⟩ := DataW.trod_int hu h
  exact ⟨n, rfl, hw⟩⟩
theorem Opn.bool {P : Program} {t : TypeId} (hu : P.underlying t = some .bool) : Opn P t Kd.bool (fun _ => True) :=
 ⟨fun h => by
  obtain ⟨n, rfl, _⟩ := DataW.trod_bool hu h
  exact ⟨n, rfl, trivial⟩⟩
theorem Opn.string {P : Program} {t : TypeId} (hu : P.underlying t = some .string) : Opn P t Kd.string (fun a => a.size ≤ 9223372036854775807) :=
 ⟨fun h => by
  obtain ⟨n, rfl, _, hw⟩ := DataW.trod_string hu h
  exact ⟨n, rfl, hw⟩⟩
theorem cells_at {w : World} {base : Nat} {a : Addr} {n : Nat} {cs : List Value} (h : w.cells? base a n = some cs) {i : Nat} {u : Value} (hu : cs[i]? = some u) : w.cell? (a.add i) = some u := by
 obtain ⟨_, hl, hc⟩ := World.cells?_some h
 have hi : i < cs.length := (List.getElem?_eq_some_iff.1 hu).1
 exact (hc i (by omega)).trans hu
theorem add_add' (a : Addr) (i j : Nat) : (a.add i).add j = a.add (i + j) := Deep.add_add a i j
theorem open_row {α : Type} {P : Program} {t e : TypeId} {d : Kd α} {ok : α → Prop} (O : Opn P e d ok) (hu : P.underlying t = some (.slice e)) (hc : P.cellsOf e = d.sz)
  {H : Type} {enc : TypeId × Value → H} {W : World} {base : Nat} {spare : Nat → Bool} {held : Bool} {fuel : Nat} {cs : List Value} {x : DataW H × List MemPlace}
  (h : DataW.trod enc P W base spare held fuel t cs = some x) :
  ∃ (l : List α) (A : Option Addr) (c : Nat), cs = [.slice A l.length c] ∧ l.length ≤ c ∧ d.C W A l.length l ∧ l.length ≤ 9223372036854775807 ∧ (∀ y ∈ l, ok y) ∧
   ((x.1 = .nil ∧ l = []) ∨ ∃ es sp, x.1 = .slice es sp ∧ es.length = l.length) := by
 rcases Deep.open_slice hu h with ⟨rfl, rfl⟩ | ⟨a, len, cap, m, n, D, Pl, rfl, hb, hl, hm, hmm, rfl, hel⟩
 ·
  exact ⟨[], none, 0, rfl, Nat.le_refl _, Kd.C_nil _ _, by simp, by simp, .inl ⟨rfl, rfl⟩⟩
 ·
  have hlm : len ≤ m := by rw [hmm]; split <;> omega
  have hx : ∀ i, i < len → ∃ y : α, (∃ cs', W.cells? base (a.add (i * P.cellsOf e)) (P.cellsOf e) = some cs' ∧ d.K W y cs') ∧ ok y := by
   intro i hi
   obtain ⟨cs', h1, h2⟩ := hel i (by omega)
   obtain ⟨y, hk, ho⟩ := O.opn h2
   exact ⟨y, ⟨cs', h1, hk⟩, ho⟩
  have hf : ∃ l : List α, l.length = len ∧ ∀ (i : Nat) (y : α), l[i]? = some y → (∃ cs', W.cells? base (a.add (i * P.cellsOf e)) (P.cellsOf e) = some cs' ∧ d.K W y cs') ∧ ok y := by
   clear hel hmm hlm hl hm h
   induction len with
   | zero => exact ⟨[], rfl, fun i y hy => by simp at hy⟩
   | succ len ih =>
    obtain ⟨l, hl1, hl2⟩ := ih (fun i hi => hx i (by omega))
    obtain ⟨y, hy⟩ := hx len (by omega)
    refine ⟨l ++ [y], by simp [hl1], fun i z hz => ?_⟩
    rcases Nat.lt_or_ge i l.length with hi | hi
    ·
     rw [List.getElem?_append_left hi] at hz
     exact hl2 i z hz
    ·
     have hi2 : i = l.length := by
      have := (List.getElem?_eq_some_iff.1 hz).1
      simp at this; omega
     subst hi2
     have : y = z := by simpa using hz
     subst this
     rw [hl1]; exact hy
  obtain ⟨l, hl1, hl2⟩ := hf
  subst hl1
  have hmx : l.length ≤ 9223372036854775807 := by unfold maxLen at hm; omega
  refine ⟨l, some a, cap, rfl, hl, ⟨rfl, hmx, fun _ => ⟨a, rfl, fun j p hj => ?_⟩⟩, hmx, fun y hy => ?_, .inr ⟨_, _, rfl, by simp⟩⟩
  ·
   obtain ⟨⟨cs', h1, h2⟩, _⟩ := hl2 j p hj
   refine ⟨cs', d.K_len h2, h2, fun i u hu' => ?_⟩
   have := cells_at h1 hu'
   rw [add_add', hc] at this
   exact this
  ·
   obtain ⟨i, hi, rfl⟩ := List.mem_iff_getElem.1 hy
   exact (hl2 i _ (List.getElem?_eq_getElem hi)).2
theorem Opn.slice {α : Type} {P : Program} {t e : TypeId} {d : Kd α} {ok : α → Prop} (hu : P.underlying t = some (.slice e)) (O : Opn P e d ok) (hc : P.cellsOf e = d.sz) :
  Opn P t (Kd.slice e d) (fun l => l.length ≤ 9223372036854775807 ∧ ∀ y ∈ l, ok y) :=
 ⟨fun h => by
  obtain ⟨l, A, c, rfl, hlc, hC, hm, ho, _⟩ := open_row O hu hc h
  exact ⟨l, ⟨A, c, rfl, hlc, hC⟩, hm, ho⟩⟩
theorem get_lt {α : Type} {l : List α} {n i : Nat} (h : l.length = n) (hi : i < n) : ∃ y, l[i]? = some y := ⟨l[i], List.getElem?_eq_getElem (by omega)⟩
end Go.Proofs.Ytekanmieppnpeaa.Row
end
