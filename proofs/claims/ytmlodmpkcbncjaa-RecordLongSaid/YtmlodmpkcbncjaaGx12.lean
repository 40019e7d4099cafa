-- Written by gprint.py (the kit's print.py with contracts of my own taken as given)
import Derived.Test.YtmlodmpkcbncjaaGx0
import Derived.Test.YtmlodmpkcbncjaaGx1
import Derived.Test.YtmlodmpkcbncjaaHBody
import Derived.Test.YtmlodmpkcbncjaaHLives07
import Derived.Test.YtmlodmpkcbncjaaHRead
import Derived.Test.YtmlodmpkcbncjaaHSize
namespace Go.Proofs.Ytmlodmpkcbncjaa.G
open Go.RowKit Go.Proofs.YtmlodmpkcbncjaaW.PrintWords Go.Proofs.YtmlodmpkcbncjaaW.PrintLast Go.Proofs.YtmlodmpkcbncjaaW.PrintMore
attribute [local go_sem] max2_int min2_int max_two min_two max_three min_three max_four min_four   -- for this text's walks alone
set_option linter.unusedVariables false
set_option linter.unusedSimpArgs false

attribute [local go_sem high] eqA44
/-! ### fasciclelaw07_RecordLong: function 14 -/
mutual
def fasciclelaw07_RecordLong.j0 : Nat → Bool → Int → Int → Bool → Int → ByteArray → ByteArray → Option (Bool)
  | 0, _, _, _, _, _, _, _ => none
  | k + 1, x2, x7, x8, x260000, x260001, x260002, x260003 => (record_Body.f x260000 x260001 x260002 x260003).bind fun bt263 => (if x7 > 4096 then (fasciclelaw07_RecordLong.j1 k bt263.1 bt263.2 true x260000 x260001 x260002 x260003) else (if x2 = true then (fasciclelaw07_RecordLong.j1 k bt263.1 bt263.2 false x260000 x260001 x260002 x260003) else (fasciclelaw07_RecordLong.j1 k bt263.1 bt263.2 (decide (x8 > 1048576)) x260000 x260001 x260002 x260003)))
def fasciclelaw07_RecordLong.j1 : Nat → List Int → Int → Bool → Bool → Int → ByteArray → ByteArray → Option (Bool)
  | 0, _, _, _, _, _, _, _ => none
  | k + 1, x10, x11, x49, x260000, x260001, x260002, x260003 => if x49 = true then (if x11 = 3 then (some ((x10.length : Int) == 0)) else (some false)) else ((record_Read.f x10).bind fun bt267 => (if x11 = 0 then (if bt267.2.2.2.2 = 0 then (if (bt267.1 == x260000 && (bt267.2.1 == x260001 && (bt267.2.2.1.toList == x260002.toList && (bt267.2.2.2.1.toList == x260003.toList)))) = true then ((record_Size.f x260000 x260001 x260002 x260003).bind fun t273 => (some (t273 == (x10.length : Int)))) else (some false)) else (some false)) else (some false)))
end
def fasciclelaw07_RecordLong.f (k : Nat) (a0 : Int) (a1 : Int) (a2 : Bool) : Option (Bool) := (fasciclelaw07_lives.f).bind fun t255 => (if t255 = true then (if 0 ≤ (wrap64 (4090 + (wrap64 (Int.tmod a0 12)))) then (if (wrap64 (4090 + (wrap64 (Int.tmod a0 12))) : Int).toNat ≤ 281474976710656 then ((some (List.replicate (wrap64 (4090 + (wrap64 (Int.tmod a0 12))) : Int).toNat 0 : List Int)).bind fun y256 => (if a2 = true then (fasciclelaw07_RecordLong.j0 k a2 (wrap64 (4090 + (wrap64 (Int.tmod a0 12)))) (wrap64 (1048570 + (wrap64 (Int.tmod a1 12)))) a2 18446744073709551615 (strOfNums y256) (⟨#[]⟩ : ByteArray)) else (if 0 ≤ (wrap64 (1048570 + (wrap64 (Int.tmod a1 12)))) then (if (wrap64 (1048570 + (wrap64 (Int.tmod a1 12))) : Int).toNat ≤ 281474976710656 then (fasciclelaw07_RecordLong.j0 k a2 (wrap64 (4090 + (wrap64 (Int.tmod a0 12)))) (wrap64 (1048570 + (wrap64 (Int.tmod a1 12)))) a2 18446744073709551615 (strOfNums y256) (strOfNums (List.replicate (wrap64 (1048570 + (wrap64 (Int.tmod a1 12))) : Int).toNat 0))) else (none)) else (none)))) else (none)) else (none)) else (some false))
theorem fasciclelaw07_RecordLong.mono_l : ∀ k, (∀ y0 y1 y2 y3 y4 y5 y6, LeO (fasciclelaw07_RecordLong.j0 k y0 y1 y2 y3 y4 y5 y6) (fasciclelaw07_RecordLong.j0 (k + 1) y0 y1 y2 y3 y4 y5 y6)) ∧ (∀ y0 y1 y2 y3 y4 y5 y6, LeO (fasciclelaw07_RecordLong.j1 k y0 y1 y2 y3 y4 y5 y6) (fasciclelaw07_RecordLong.j1 (k + 1) y0 y1 y2 y3 y4 y5 y6))
  | 0 => ⟨fun _ _ _ _ _ _ _ r h => by simp [fasciclelaw07_RecordLong.j0] at h, fun _ _ _ _ _ _ _ r h => by simp [fasciclelaw07_RecordLong.j1] at h⟩
  | k + 1 => by
    obtain ⟨ih0, ih1⟩ := fasciclelaw07_RecordLong.mono_l k
    refine ⟨?_, ?_⟩
    · intro y0 y1 y2 y3 y4 y5 y6
      unfold fasciclelaw07_RecordLong.j0
      repeat' first
      | (with_reducible exact ih0 _ _ _ _ _ _ _)
      | (with_reducible exact ih1 _ _ _ _ _ _ _)
      | (with_reducible exact LeO.refl _)
      | (with_reducible exact LeO.none _)
      | (with_reducible refine LeO.ite ?_ ?_)
      | (with_reducible refine LeO.bind ?_ (fun _ => ?_))
      | exact ih0 _ _ _ _ _ _ _
      | exact ih1 _ _ _ _ _ _ _
      | exact LeO.none _
      | refine LeO.ite ?_ ?_
      | refine LeO.bind ?_ (fun _ => ?_)
    · intro y0 y1 y2 y3 y4 y5 y6
      unfold fasciclelaw07_RecordLong.j1
      repeat' first
      | (with_reducible exact ih0 _ _ _ _ _ _ _)
      | (with_reducible exact ih1 _ _ _ _ _ _ _)
      | (with_reducible exact LeO.refl _)
      | (with_reducible exact LeO.none _)
      | (with_reducible refine LeO.ite ?_ ?_)
      | (with_reducible refine LeO.bind ?_ (fun _ => ?_))
      | exact ih0 _ _ _ _ _ _ _
      | exact ih1 _ _ _ _ _ _ _
      | exact LeO.none _
      | refine LeO.ite ?_ ?_
      | refine LeO.bind ?_ (fun _ => ?_)
theorem fasciclelaw07_RecordLong.mono : ∀ a0 a1 a2 k, LeO (fasciclelaw07_RecordLong.f k a0 a1 a2) (fasciclelaw07_RecordLong.f (k + 1) a0 a1 a2) := by
  intro a0 a1 a2 k
  obtain ⟨ih0, ih1⟩ := fasciclelaw07_RecordLong.mono_l k
  unfold fasciclelaw07_RecordLong.f
  repeat' first
      | (with_reducible exact ih0 _ _ _ _ _ _ _)
      | (with_reducible exact ih1 _ _ _ _ _ _ _)
      | (with_reducible exact LeO.refl _)
      | (with_reducible exact LeO.none _)
      | (with_reducible refine LeO.ite ?_ ?_)
      | (with_reducible refine LeO.bind ?_ (fun _ => ?_))
      | exact ih0 _ _ _ _ _ _ _
      | exact ih1 _ _ _ _ _ _ _
      | exact LeO.none _
      | refine LeO.ite ?_ ?_
      | refine LeO.bind ?_ (fun _ => ?_)
set_option maxHeartbeats 8000000 in
set_option maxRecDepth 100000 in
theorem fasciclelaw07_RecordLong.calls (k : Nat) (a0 : Int) (a1 : Int) (a2 : Bool) (r : Bool) (w : World) (h : fasciclelaw07_RecordLong.f k a0 a1 a2 = some r) :
    Calls Try.prog 14 #[.int .u8 a0, .int .u8 a1, .bool a2] w fun e w' => e = .returned (.bool r) ∧ Below w.heap.size w w' := by
  have hu44 := Try.underlying44
  have HB := Aside0.mk (Below.refl w.heap.size w)
  have H : ((fasciclelaw07_lives.f).bind fun t255 => (if t255 = true then (if 0 ≤ (wrap64 (4090 + (wrap64 (Int.tmod a0 12)))) then (if (wrap64 (4090 + (wrap64 (Int.tmod a0 12))) : Int).toNat ≤ 281474976710656 then ((some (List.replicate (wrap64 (4090 + (wrap64 (Int.tmod a0 12))) : Int).toNat 0 : List Int)).bind fun y256 => (if a2 = true then (fasciclelaw07_RecordLong.j0 k a2 (wrap64 (4090 + (wrap64 (Int.tmod a0 12)))) (wrap64 (1048570 + (wrap64 (Int.tmod a1 12)))) a2 18446744073709551615 (strOfNums y256) (⟨#[]⟩ : ByteArray)) else (if 0 ≤ (wrap64 (1048570 + (wrap64 (Int.tmod a1 12)))) then (if (wrap64 (1048570 + (wrap64 (Int.tmod a1 12))) : Int).toNat ≤ 281474976710656 then (fasciclelaw07_RecordLong.j0 k a2 (wrap64 (4090 + (wrap64 (Int.tmod a0 12)))) (wrap64 (1048570 + (wrap64 (Int.tmod a1 12)))) a2 18446744073709551615 (strOfNums y256) (strOfNums (List.replicate (wrap64 (1048570 + (wrap64 (Int.tmod a1 12))) : Int).toNat 0))) else (none)) else (none)))) else (none)) else (none)) else (some false))) = some r := h
  clear h
  replace H := Option.bind_eq_some_iff.mp H
  obtain ⟨t255, A40, H⟩ := H
  replace H : (if t255 = true then (if 0 ≤ (wrap64 (4090 + (wrap64 (Int.tmod a0 12)))) then (if (wrap64 (4090 + (wrap64 (Int.tmod a0 12))) : Int).toNat ≤ 281474976710656 then ((some (List.replicate (wrap64 (4090 + (wrap64 (Int.tmod a0 12))) : Int).toNat 0 : List Int)).bind fun y256 => (if a2 = true then (fasciclelaw07_RecordLong.j0 k a2 (wrap64 (4090 + (wrap64 (Int.tmod a0 12)))) (wrap64 (1048570 + (wrap64 (Int.tmod a1 12)))) a2 18446744073709551615 (strOfNums y256) (⟨#[]⟩ : ByteArray)) else (if 0 ≤ (wrap64 (1048570 + (wrap64 (Int.tmod a1 12)))) then (if (wrap64 (1048570 + (wrap64 (Int.tmod a1 12))) : Int).toNat ≤ 281474976710656 then (fasciclelaw07_RecordLong.j0 k a2 (wrap64 (4090 + (wrap64 (Int.tmod a0 12)))) (wrap64 (1048570 + (wrap64 (Int.tmod a1 12)))) a2 18446744073709551615 (strOfNums y256) (strOfNums (List.replicate (wrap64 (1048570 + (wrap64 (Int.tmod a1 12))) : Int).toNat 0))) else (none)) else (none)))) else (none)) else (none)) else (some false)) = some r := H
  have A4 := Aside0.mk A40
  clear A40
  by_cases c5 : t255 = true
  · subst c5
    have H1 : (if 0 ≤ (wrap64 (4090 + (wrap64 (Int.tmod a0 12)))) then (if (wrap64 (4090 + (wrap64 (Int.tmod a0 12))) : Int).toNat ≤ 281474976710656 then ((some (List.replicate (wrap64 (4090 + (wrap64 (Int.tmod a0 12))) : Int).toNat 0 : List Int)).bind fun y256 => (if a2 = true then (fasciclelaw07_RecordLong.j0 k a2 (wrap64 (4090 + (wrap64 (Int.tmod a0 12)))) (wrap64 (1048570 + (wrap64 (Int.tmod a1 12)))) a2 18446744073709551615 (strOfNums y256) (⟨#[]⟩ : ByteArray)) else (if 0 ≤ (wrap64 (1048570 + (wrap64 (Int.tmod a1 12)))) then (if (wrap64 (1048570 + (wrap64 (Int.tmod a1 12))) : Int).toNat ≤ 281474976710656 then (fasciclelaw07_RecordLong.j0 k a2 (wrap64 (4090 + (wrap64 (Int.tmod a0 12)))) (wrap64 (1048570 + (wrap64 (Int.tmod a1 12)))) a2 18446744073709551615 (strOfNums y256) (strOfNums (List.replicate (wrap64 (1048570 + (wrap64 (Int.tmod a1 12))) : Int).toNat 0))) else (none)) else (none)))) else (none)) else (none)) = some r := by rw [if_pos rfl] at H; exact H
    clear H
    have H := H1
    clear H1
    obtain ⟨ji6, hji6⟩ : ∃ j_ : Int, (wrap64 (4090 + (wrap64 (Int.tmod a0 12)))) = j_ := ⟨_, rfl⟩
    replace H : (if 0 ≤ (ji6) then (if (ji6 : Int).toNat ≤ 281474976710656 then ((some (List.replicate (ji6 : Int).toNat 0 : List Int)).bind fun y256 => (if a2 = true then (fasciclelaw07_RecordLong.j0 k a2 ji6 (wrap64 (1048570 + (wrap64 (Int.tmod a1 12)))) a2 18446744073709551615 (strOfNums y256) (⟨#[]⟩ : ByteArray)) else (if 0 ≤ (wrap64 (1048570 + (wrap64 (Int.tmod a1 12)))) then (if (wrap64 (1048570 + (wrap64 (Int.tmod a1 12))) : Int).toNat ≤ 281474976710656 then (fasciclelaw07_RecordLong.j0 k a2 ji6 (wrap64 (1048570 + (wrap64 (Int.tmod a1 12)))) a2 18446744073709551615 (strOfNums y256) (strOfNums (List.replicate (wrap64 (1048570 + (wrap64 (Int.tmod a1 12))) : Int).toNat 0))) else (none)) else (none)))) else (none)) else (none)) = some r := by first | (rw [hji6] at H; exact H) | (simp only [hji6] at H ⊢; exact H)
    (try rw [hji6] at A4)
    have hji6w : (IntKind.i64.wrap (4090 + (wrap64 (Int.tmod a0 12)))) = ji6 := (i64_w _).trans hji6
    by_cases c7 : 0 ≤ (ji6)
    · rw [if_pos c7] at H
      have c7b0 := eq_true c7
      have c7b1 : decide (0 ≤ (ji6)) = true := decide_eq_true c7
      clear c7
      by_cases c8 : (ji6 : Int).toNat ≤ 281474976710656
      · rw [if_pos c8] at H
        have c8b0 := eq_true c8
        have c8b1 : decide ((ji6 : Int).toNat ≤ 281474976710656) = true := decide_eq_true c8
        clear c8
        obtain ⟨y256, hy256⟩ : ∃ y_ : List Int, y_ = (List.replicate (ji6 : Int).toNat 0) := ⟨_, rfl⟩
        replace H : (if a2 = true then (fasciclelaw07_RecordLong.j0 k a2 ji6 (wrap64 (1048570 + (wrap64 (Int.tmod a1 12)))) a2 18446744073709551615 (strOfNums y256) (⟨#[]⟩ : ByteArray)) else (if 0 ≤ (wrap64 (1048570 + (wrap64 (Int.tmod a1 12)))) then (if (wrap64 (1048570 + (wrap64 (Int.tmod a1 12))) : Int).toNat ≤ 281474976710656 then (fasciclelaw07_RecordLong.j0 k a2 ji6 (wrap64 (1048570 + (wrap64 (Int.tmod a1 12)))) a2 18446744073709551615 (strOfNums y256) (strOfNums (List.replicate (wrap64 (1048570 + (wrap64 (Int.tmod a1 12))) : Int).toNat 0))) else (none)) else (none))) = some r := by first | (rw [hy256]; with_reducible exact H) | (have H2_ := (Option.bind_some _ _).symm.trans H; rw [hy256]; with_reducible exact H2_) | (have H2_ := (Option.bind_some _ _).symm.trans H; with_reducible exact H2_) | with_reducible exact H | (rw [hy256]; exact H) | exact H
        have Ny256 := Aside0.mk hy256
        clear hy256
        have HC9 := Aside0.mk H
        clear H
        go_enter Try.func14, Try.ntmps14
        go_upto_if 30 with (first | ((with_reducible refine gate_callee (f := 22) rfl ?_); refine goesL_ (some 14) rfl rfl Try.func22 (by kernel_rfl) rfl #[] rfl (by (try simp only [List.map_toArray, List.map_cons, List.map_nil]); first | done | rfl | (simp only [List.length_drop, List.length_take]; rfl) | (refine congrArg (fun z => #[Value.int .u64 z]) ?_; rw [IntKind.wrap_u64]; omega)) ?_; (with_reducible refine (fasciclelaw07_lives.calls  true _ A4.out).mono ?_); rintro e w10 ⟨rfl, hb⟩; refine ⟨_, rfl, ?_⟩; have n0_ := Aside0.mk (below_step (by repeat (first | (with_reducible first | exact HB.out | apply below_alloc | apply pw_below_drewN | apply below_drew1) | exact HB.out)) hb); clear HB; have HB := n0_; clear n0_; (try clear hb); (try clear hb2); (try clear hk); (try clear hi)) | ((with_reducible refine gate_dst (N := 26) rfl ?_); (try (refine gate_guard (by rfl) ?_; dsimp only)); refine Kd.R_make (Kd.int .u8) _ 5 rfl (N := 26) rfl 22 _ _ rfl ji6 rfl rfl Try.underlying22 (.int .u8 0) 1 info5 rfl (by decide) (by omega) 0 (ok := fun _ => True) (okp := fun _ => True) rfl (fun _ hk => hk) trivial (of_decide_eq_true (by first | (with_reducible assumption) | assumption)) (Nat.le_trans (Nat.mul_le_mul_right _ (of_decide_eq_true (by first | (with_reducible assumption) | assumption) : ji6.toNat ≤ 281474976710656)) (by omega)) (Below.refl _ _) (Nat.le_refl _) ?_; intro v257 w11 ho12 hb hg_ hnew_; clear hg_ hnew_; (first | rw [← Ny256.out] at ho12 | (simp only [Int.reduceToNat] at ho12; rw [← Ny256.out] at ho12)); have n0_ := Aside0.mk (Kd.R_lower ho12 (below_size (by repeat (first | (with_reducible first | exact HB.out | apply below_alloc | apply pw_below_drewN | apply below_drew1) | exact HB.out)))); have n1_ := Aside0.mk (below_step (by repeat (first | (with_reducible first | exact HB.out | apply below_alloc | apply pw_below_drewN | apply below_drew1) | exact HB.out)) hb); clear HB; have HO258 := n0_; have HB := n1_; clear n0_ n1_; clear hb ho12; have hcv13 := own_string (P := Try.prog) Try.underlying22 Try.underlying5 Try.underlying9 (Kd.own_of_R HO258.out)) | ((with_reducible refine gate_dst (N := 9) rfl ?_); (try (refine gate_guard (by rfl) ?_; dsimp only)); refine box_event ?hg (N := 9) ?hd (cs := #[.bool false, .int .u64 0, .string (⟨#[]⟩ : ByteArray), .string (⟨#[]⟩ : ByteArray)]) (t := 44) ?hr ?_; (case hd => rfl); (case hg => rfl); (case hr => first | (go_simp; done) | (go_simp; rfl)); intro gb259 hg w14 hbox hb; have n0_ := Aside0.mk (Kd.R_below (by (with_reducible repeat (first | apply Kd.R_alloc | apply Kd.R_drewN | apply Kd.R_drew)); exact HO258.out) hb); have n1_ := Aside0.mk (below_step (by repeat (first | (with_reducible first | exact HB.out | apply below_alloc | apply pw_below_drewN | apply below_drew1) | exact HB.out)) hb); have n2_ := Aside0.mk (hbox); have n3_ := Aside0.mk ((by rw [hg]; exact (below_size (by repeat (first | (with_reducible first | exact HB.out | apply below_alloc | apply pw_below_drewN | apply below_drew1) | exact HB.out))) : w.heap.size ≤ gb259)); have n4_ := Aside0.mk ((by rw [hg]; exact (below_size (by repeat (first | (with_reducible first | exact HB.out | apply below_alloc | apply pw_below_drewN | apply below_drew1) | exact HB.out))) : w.heap.size ≤ gb259)); clear HO258; clear HB; have HO258 := n0_; have HB := n1_; have BK259 := n2_; have GW259 := n3_; have GE259 := n4_; clear n0_ n1_ n2_ n3_ n4_; clear hb hbox hg; have hcz15_0 : w14.cell? ⟨gb259, 0, none⟩ = some (.bool false) := (blk_cell BK259.out 0).trans rfl; have hcz15_1 : w14.cell? ⟨gb259, 1, none⟩ = some (.int .u64 0) := (blk_cell BK259.out 1).trans rfl; have hcz15_2 : w14.cell? ⟨gb259, 2, none⟩ = some (.string (⟨#[]⟩ : ByteArray)) := (blk_cell BK259.out 2).trans rfl; have hcz15_3 : w14.cell? ⟨gb259, 3, none⟩ = some (.string (⟨#[]⟩ : ByteArray)) := (blk_cell BK259.out 3).trans rfl; have hfz15_0 := blk_frozen BK259.out 0; have hfz15_1 := blk_frozen BK259.out 1; have hfz15_2 := blk_frozen BK259.out 2; have hfz15_3 := blk_frozen BK259.out 3))
        (try simp only [Act.put, List.setIfInBounds_toArray, List.set_cons_zero, List.set_cons_succ])
        go_cut [] (fun wc => ∃ (kq : Nat) (x260003_8 : ByteArray), Aside0 (fasciclelaw07_RecordLong.j0 kq a2 ji6 (wrap64 (1048570 + (wrap64 (Int.tmod a1 12)))) a2 18446744073709551615 (strOfNums y256) x260003_8 = some r) ∧ Aside0 (kq ≤ k) ∧ Aside0 (wc.heap[gb259]? = some (.cells #[.bool a2, .int .u64 18446744073709551615, .string (strOfNums y256), .string x260003_8] 44 (0, 0))) ∧ Aside0 (Below w.heap.size w wc))
        case first =>
          have H := HC9.out
          clear HC9
          by_cases c16 : a2 = true
          · subst c16
            have H1 : (fasciclelaw07_RecordLong.j0 k true ji6 (wrap64 (1048570 + (wrap64 (Int.tmod a1 12)))) true 18446744073709551615 (strOfNums y256) (⟨#[]⟩ : ByteArray)) = some r := by rw [if_pos rfl] at H; exact H
            clear H
            have H := H1
            clear H1
            have H' := Aside0.mk H
            clear H
            go_wp2
            go_meet
            case rel => exact ⟨_, ((⟨#[]⟩ : ByteArray)), H', ⟨by first | omega | exact Nat.le_refl _⟩, ⟨by (with_reducible repeat (first | refine blk_drewN ?_ _ | refine blk_drew ?_ | refine blk_alloc ?_ _)); refine blk_put (cs := #[.bool true, .int .u64 18446744073709551615, .string (strOfNums y256), .string (⟨#[]⟩ : ByteArray)]) ?_ 3 _ rfl; (with_reducible repeat (first | refine blk_drewN ?_ _ | refine blk_drew ?_ | refine blk_alloc ?_ _)); refine blk_put (cs := #[.bool true, .int .u64 18446744073709551615, .string (⟨#[]⟩ : ByteArray), .string (⟨#[]⟩ : ByteArray)]) ?_ 2 _ rfl; (with_reducible repeat (first | refine blk_drewN ?_ _ | refine blk_drew ?_ | refine blk_alloc ?_ _)); refine blk_put (cs := #[.bool true, .int .u64 0, .string (⟨#[]⟩ : ByteArray), .string (⟨#[]⟩ : ByteArray)]) ?_ 1 _ rfl; (with_reducible repeat (first | refine blk_drewN ?_ _ | refine blk_drew ?_ | refine blk_alloc ?_ _)); refine blk_put (cs := #[.bool false, .int .u64 0, .string (⟨#[]⟩ : ByteArray), .string (⟨#[]⟩ : ByteArray)]) ?_ 0 _ rfl; (with_reducible repeat (first | refine blk_drewN ?_ _ | refine blk_drew ?_ | refine blk_alloc ?_ _)); exact BK259.out⟩, ⟨by repeat (first | (with_reducible first | exact HB.out | apply below_alloc | apply pw_below_drewN | apply below_drew1 | refine below_set ?_ GE259.out) | exact HB.out)⟩⟩
          · replace c16 := Bool.eq_false_iff.mpr c16
            subst c16
            have H1 : (if 0 ≤ (wrap64 (1048570 + (wrap64 (Int.tmod a1 12)))) then (if (wrap64 (1048570 + (wrap64 (Int.tmod a1 12))) : Int).toNat ≤ 281474976710656 then (fasciclelaw07_RecordLong.j0 k false ji6 (wrap64 (1048570 + (wrap64 (Int.tmod a1 12)))) false 18446744073709551615 (strOfNums y256) (strOfNums (List.replicate (wrap64 (1048570 + (wrap64 (Int.tmod a1 12))) : Int).toNat 0))) else (none)) else (none)) = some r := by rw [if_neg (show ¬ (false = true) by decide)] at H; exact H
            clear H
            have H := H1
            clear H1
            obtain ⟨ji17, hji17⟩ : ∃ j_ : Int, (wrap64 (1048570 + (wrap64 (Int.tmod a1 12)))) = j_ := ⟨_, rfl⟩
            replace H : (if 0 ≤ (ji17) then (if (ji17 : Int).toNat ≤ 281474976710656 then (fasciclelaw07_RecordLong.j0 k false ji6 ji17 false 18446744073709551615 (strOfNums y256) (strOfNums (List.replicate (ji17 : Int).toNat 0))) else (none)) else (none)) = some r := by first | (rw [hji17] at H; exact H) | (simp only [hji17] at H ⊢; exact H)
            have hji17w : (IntKind.i64.wrap (1048570 + (wrap64 (Int.tmod a1 12)))) = ji17 := (i64_w _).trans hji17
            by_cases c18 : 0 ≤ (ji17)
            · rw [if_pos c18] at H
              have c18b0 := eq_true c18
              have c18b1 : decide (0 ≤ (ji17)) = true := decide_eq_true c18
              clear c18
              by_cases c19 : (ji17 : Int).toNat ≤ 281474976710656
              · rw [if_pos c19] at H
                have c19b0 := eq_true c19
                have c19b1 : decide ((ji17 : Int).toNat ≤ 281474976710656) = true := decide_eq_true c19
                clear c19
                obtain ⟨y260, hy260⟩ : ∃ y_ : List Int, y_ = (List.replicate (ji17 : Int).toNat 0) := ⟨_, rfl⟩
                replace H : (fasciclelaw07_RecordLong.j0 k false ji6 ji17 false 18446744073709551615 (strOfNums y256) (strOfNums y260)) = some r := by first | (rw [hy260]; with_reducible exact H) | (have H2_ := (Option.bind_some _ _).symm.trans H; rw [hy260]; with_reducible exact H2_) | (have H2_ := (Option.bind_some _ _).symm.trans H; with_reducible exact H2_) | with_reducible exact H | (rw [hy260]; exact H) | exact H
                have Ny260 := Aside0.mk hy260
                clear hy260
                have H' := Aside0.mk H
                clear H
                try simp only [hji17]
                go_wp2_with (first | ((with_reducible refine gate_dst (N := 32) rfl ?_); (try (refine gate_guard (by rfl) ?_; dsimp only)); refine Kd.R_make (Kd.int .u8) _ 5 rfl (N := 32) rfl 22 _ _ rfl ji17 rfl rfl Try.underlying22 (.int .u8 0) 1 info5 rfl (by decide) (by omega) 0 (ok := fun _ => True) (okp := fun _ => True) rfl (fun _ hk => hk) trivial (of_decide_eq_true (by first | (with_reducible assumption) | assumption)) (Nat.le_trans (Nat.mul_le_mul_right _ (of_decide_eq_true (by first | (with_reducible assumption) | assumption) : ji17.toNat ≤ 281474976710656)) (by omega)) (Below.refl _ _) (Nat.le_refl _) ?_; intro v261 w20 ho21 hb hg_ hnew_; clear hg_ hnew_; (first | rw [← Ny260.out] at ho21 | (simp only [Int.reduceToNat] at ho21; rw [← Ny260.out] at ho21)); have n0_ := Aside0.mk (Kd.R_elder' (by (with_reducible repeat (first | apply Kd.R_alloc | apply Kd.R_drewN | apply Kd.R_drew)); exact (Kd.R_mono (Kd.R_far (p := ⟨gb259, 3, none⟩) (Kd.R_far (p := ⟨gb259, 2, none⟩) (Kd.R_far (p := ⟨gb259, 1, none⟩) (Kd.R_far (p := ⟨gb259, 0, none⟩) (Kd.R_types HO258.out BK259.out (by decide)) (fun _ hk => by first | exact hk.2 | exact hk) (.bool false)) (fun _ hk => by first | exact hk.2 | exact hk) (.int .u64 18446744073709551615)) (fun _ hk => by first | exact hk.2 | exact hk) (.string (strOfNums y256))) (fun _ hk => by first | exact hk.2 | exact hk) (.string (⟨#[]⟩ : ByteArray))) (fun _ h_ => h_.1))) (Kd.R_base ho21) hb); have n1_ := Aside0.mk (Kd.R_lower (Kd.R_new' ho21 (Kd.R_lt (by (with_reducible repeat (first | apply Kd.R_alloc | apply Kd.R_drewN | apply Kd.R_drew)); exact (Kd.R_mono (Kd.R_far (p := ⟨gb259, 3, none⟩) (Kd.R_far (p := ⟨gb259, 2, none⟩) (Kd.R_far (p := ⟨gb259, 1, none⟩) (Kd.R_far (p := ⟨gb259, 0, none⟩) (Kd.R_types HO258.out BK259.out (by decide)) (fun _ hk => by first | exact hk.2 | exact hk) (.bool false)) (fun _ hk => by first | exact hk.2 | exact hk) (.int .u64 18446744073709551615)) (fun _ hk => by first | exact hk.2 | exact hk) (.string (strOfNums y256))) (fun _ hk => by first | exact hk.2 | exact hk) (.string (⟨#[]⟩ : ByteArray))) (fun _ h_ => h_.1))))) (below_size (by repeat (first | (with_reducible first | exact HB.out | apply below_alloc | apply pw_below_drewN | apply below_drew1 | refine below_set ?_ GE259.out) | exact HB.out)))); have n2_ := Aside0.mk (blk_below (g := gb259) (o := .cells #[.bool false, .int .u64 18446744073709551615, .string (strOfNums y256), .string (⟨#[]⟩ : ByteArray)] 44 (0, 0)) (by (with_reducible repeat (first | refine blk_drewN ?_ _ | refine blk_drew ?_ | refine blk_alloc ?_ _)); refine blk_put (cs := #[.bool false, .int .u64 18446744073709551615, .string (strOfNums y256), .string (⟨#[]⟩ : ByteArray)]) ?_ 3 _ rfl; (with_reducible repeat (first | refine blk_drewN ?_ _ | refine blk_drew ?_ | refine blk_alloc ?_ _)); refine blk_put (cs := #[.bool false, .int .u64 18446744073709551615, .string (⟨#[]⟩ : ByteArray), .string (⟨#[]⟩ : ByteArray)]) ?_ 2 _ rfl; (with_reducible repeat (first | refine blk_drewN ?_ _ | refine blk_drew ?_ | refine blk_alloc ?_ _)); refine blk_put (cs := #[.bool false, .int .u64 0, .string (⟨#[]⟩ : ByteArray), .string (⟨#[]⟩ : ByteArray)]) ?_ 1 _ rfl; (with_reducible repeat (first | refine blk_drewN ?_ _ | refine blk_drew ?_ | refine blk_alloc ?_ _)); refine blk_put (cs := #[.bool false, .int .u64 0, .string (⟨#[]⟩ : ByteArray), .string (⟨#[]⟩ : ByteArray)]) ?_ 0 _ rfl; (with_reducible repeat (first | refine blk_drewN ?_ _ | refine blk_drew ?_ | refine blk_alloc ?_ _)); exact BK259.out) hb); have n3_ := Aside0.mk (below_step (by repeat (first | (with_reducible first | exact HB.out | apply below_alloc | apply pw_below_drewN | apply below_drew1 | refine below_set ?_ GE259.out) | exact HB.out)) hb); clear HO258; clear BK259; clear HB; have HO258 := n0_; have HO262 := n1_; have BK259 := n2_; have HB := n3_; clear n0_ n1_ n2_ n3_; clear hb ho21; have hcv22 := own_string (P := Try.prog) Try.underlying22 Try.underlying5 Try.underlying9 (Kd.own_of_R HO262.out); have hcz23_0 : w20.cell? ⟨gb259, 0, none⟩ = some (.bool false) := (blk_cell BK259.out 0).trans rfl; have hcz23_1 : w20.cell? ⟨gb259, 1, none⟩ = some (.int .u64 18446744073709551615) := (blk_cell BK259.out 1).trans rfl; have hcz23_2 : w20.cell? ⟨gb259, 2, none⟩ = some (.string (strOfNums y256)) := (blk_cell BK259.out 2).trans rfl; have hcz23_3 : w20.cell? ⟨gb259, 3, none⟩ = some (.string (⟨#[]⟩ : ByteArray)) := (blk_cell BK259.out 3).trans rfl; have hfz23_0 := blk_frozen BK259.out 0; have hfz23_1 := blk_frozen BK259.out 1; have hfz23_2 := blk_frozen BK259.out 2; have hfz23_3 := blk_frozen BK259.out 3))
                subst hji17
                go_meet
                case rel => exact ⟨_, (strOfNums y260), H', ⟨by first | omega | exact Nat.le_refl _⟩, ⟨by (with_reducible repeat (first | refine blk_drewN ?_ _ | refine blk_drew ?_ | refine blk_alloc ?_ _)); refine blk_put (cs := #[.bool false, .int .u64 18446744073709551615, .string (strOfNums y256), .string (⟨#[]⟩ : ByteArray)]) ?_ 3 _ rfl; (with_reducible repeat (first | refine blk_drewN ?_ _ | refine blk_drew ?_ | refine blk_alloc ?_ _)); exact BK259.out⟩, ⟨by repeat (first | (with_reducible first | exact HB.out | apply below_alloc | apply pw_below_drewN | apply below_drew1 | refine below_set ?_ GE259.out) | exact HB.out)⟩⟩
              · rw [if_neg c19] at H
                exact absurd H (by simp)
            · rw [if_neg c18] at H
              exact absurd H (by simp)
        case rest =>
          clear HC9
          try clear c1
          try clear hcv1
          try clear c2
          try clear p2
          try clear hcv2
          try clear c5
          try clear p6
          try clear c7
          try clear c7b0
          try clear c7b1
          try clear c8
          try clear c8b0
          try clear c8b1
          try clear hcv13
          try clear c14
          try clear c16
          try clear c18
          try clear c18b0
          try clear c18b1
          try clear c19
          try clear c19b0
          try clear c19b1
          try clear c22
          try clear hcv22
          try clear hcz15_0
          try clear hcz15_1
          try clear hcz15_2
          try clear hcz15_3
          try clear hcz23_0
          try clear hcz23_1
          try clear hcz23_2
          try clear hcz23_3
          try clear hfz15_0
          try clear hfz15_1
          try clear hfz15_2
          try clear hfz15_3
          try clear hfz23_0
          try clear hfz23_1
          try clear hfz23_2
          try clear hfz23_3
          obtain ⟨kq, x260003_8, HA, HJ8, BK259, HB⟩ := hcut
          cases kq with
          | zero => exact absurd HA.out (by simp [fasciclelaw07_RecordLong.j0])
          | succ kj8 =>
            have H := HA.out
            clear HA
            simp only [fasciclelaw07_RecordLong.j0] at H
            replace H := Option.bind_eq_some_iff.mp H
            obtain ⟨⟨t263, t266⟩, A240, H⟩ := H
            replace H : (if ji6 > 4096 then (fasciclelaw07_RecordLong.j1 kj8 t263 t266 true a2 18446744073709551615 (strOfNums y256) x260003_8) else (if a2 = true then (fasciclelaw07_RecordLong.j1 kj8 t263 t266 false a2 18446744073709551615 (strOfNums y256) x260003_8) else (fasciclelaw07_RecordLong.j1 kj8 t263 t266 (decide ((wrap64 (1048570 + (wrap64 (Int.tmod a1 12)))) > 1048576)) a2 18446744073709551615 (strOfNums y256) x260003_8))) = some r := H
            have A24 := Aside0.mk A240
            clear A240
            have HC25 := Aside0.mk H
            clear H
            have hcz26_0 : wc.cell? ⟨gb259, 0, none⟩ = some (.bool a2) := (blk_cell BK259.out 0).trans rfl
            have hcz26_1 : wc.cell? ⟨gb259, 1, none⟩ = some (.int .u64 18446744073709551615) := (blk_cell BK259.out 1).trans rfl
            have hcz26_2 : wc.cell? ⟨gb259, 2, none⟩ = some (.string (strOfNums y256)) := (blk_cell BK259.out 2).trans rfl
            have hcz26_3 : wc.cell? ⟨gb259, 3, none⟩ = some (.string x260003_8) := (blk_cell BK259.out 3).trans rfl
            have hfz26_0 := blk_frozen BK259.out 0
            have hfz26_1 := blk_frozen BK259.out 1
            have hfz26_2 := blk_frozen BK259.out 2
            have hfz26_3 := blk_frozen BK259.out 3
            go_upto_region 8 with (first | ((with_reducible refine gate_callee (f := 48) rfl ?_); refine goesL_ (some 37) rfl rfl Try.func48 (by kernel_rfl) rfl #[.agg #[.bool a2, .int .u64 18446744073709551615, .string (strOfNums y256), .string x260003_8]] rfl (by (try simp only [List.map_toArray, List.map_cons, List.map_nil]); first | done | rfl | (simp only [List.length_drop, List.length_take]; rfl) | (refine congrArg (fun z => #[Value.int .u64 z]) ?_; rw [IntKind.wrap_u64]; omega)) ?_; (with_reducible refine (record_Body.calls a2 18446744073709551615 (strOfNums y256) x260003_8 t263 t266 _ A24.out).mono ?_); rintro e w27 ⟨v264, rfl, ho0, hb⟩; refine ⟨_, rfl, ?_⟩; have n0_ := Aside0.mk (Kd.R_lower ho0 (below_size (by repeat (first | (with_reducible first | exact HB.out | apply below_alloc | apply pw_below_drewN | apply below_drew1 | refine below_set ?_ GE259.out) | exact HB.out)))); have n1_ := Aside0.mk (blk_below (g := gb259) (o := .cells #[.bool a2, .int .u64 18446744073709551615, .string (strOfNums y256), .string x260003_8] 44 (0, 0)) (by (with_reducible repeat (first | refine blk_drewN ?_ _ | refine blk_drew ?_ | refine blk_alloc ?_ _)); exact BK259.out) hb); have n2_ := Aside0.mk (below_step (by repeat (first | (with_reducible first | exact HB.out | apply below_alloc | apply pw_below_drewN | apply below_drew1 | refine below_set ?_ GE259.out) | exact HB.out)) hb); clear BK259; clear HB; have HO265 := n0_; have BK259 := n1_; have HB := n2_; clear n0_ n1_ n2_; (try clear hb); (try clear hb2); (try clear hk); (try clear hi); (try clear ho0)))
            (try simp only [Act.put, List.setIfInBounds_toArray, List.set_cons_zero, List.set_cons_succ])
            go_cut [49] (fun v49 wc => ∃ (kq : Nat) (x49_24 : Bool), v49 = .bool x49_24 ∧ Aside0 (fasciclelaw07_RecordLong.j1 kq t263 t266 x49_24 a2 18446744073709551615 (strOfNums y256) x260003_8 = some r) ∧ Aside0 (kq ≤ kj8) ∧ Aside0 (Kd.R (Kd.int .u8) 5 wc w.heap.size (fun _ => True) v264 t263) ∧ Aside0 (wc.heap[gb259]? = some (.cells #[.bool a2, .int .u64 18446744073709551615, .string (strOfNums y256), .string x260003_8] 44 (0, 0))) ∧ Aside0 (Below w.heap.size w wc))
            case first =>
              have H := HC25.out
              clear HC25
              by_cases c28 : ji6 > 4096
              · rw [if_pos c28] at H
                have c28b0 : decide (4096 < ji6) = true := decide_eq_true c28
                clear c28
                (first | rw [c28b0] | (simp only [i64_w, i32_w]; rw [c28b0]) | skip)
                have H' := Aside0.mk H
                clear H
                go_wp2
                go_meet
                case rel => exact ⟨_, (true), (by first | rfl | (simp; done) | (simp [*]; done) | (simp; exact (fun l : List UInt8 => (by cases l <;> rfl : l.isEmpty = !(l != ([] : List UInt8)))) _)), H', ⟨by have := HJ8.out; first | omega | exact Nat.le_refl _⟩, ⟨by (with_reducible repeat (first | apply Kd.R_alloc | apply Kd.R_drewN | apply Kd.R_drew)); exact HO265.out⟩, ⟨by (with_reducible repeat (first | refine blk_drewN ?_ _ | refine blk_drew ?_ | refine blk_alloc ?_ _)); exact BK259.out⟩, ⟨by repeat (first | (with_reducible first | exact HB.out | apply below_alloc | apply pw_below_drewN | apply below_drew1 | refine below_set ?_ GE259.out) | exact HB.out)⟩⟩
              · rw [if_neg c28] at H
                have c28b0 : decide (4096 < ji6) = false := decide_eq_false c28
                clear c28
                (first | rw [c28b0] | (simp only [i64_w, i32_w]; rw [c28b0]) | skip)
                by_cases c29 : a2 = true
                · subst c29
                  have H1 : (fasciclelaw07_RecordLong.j1 kj8 t263 t266 false true 18446744073709551615 (strOfNums y256) x260003_8) = some r := by rw [if_pos rfl] at H; exact H
                  clear H
                  have H := H1
                  clear H1
                  have H' := Aside0.mk H
                  clear H
                  go_wp2
                  go_meet
                  case rel => exact ⟨_, (false), (by first | rfl | (simp; done) | (simp [*]; done) | (simp; exact (fun l : List UInt8 => (by cases l <;> rfl : l.isEmpty = !(l != ([] : List UInt8)))) _)), H', ⟨by have := HJ8.out; first | omega | exact Nat.le_refl _⟩, ⟨by (with_reducible repeat (first | apply Kd.R_alloc | apply Kd.R_drewN | apply Kd.R_drew)); exact HO265.out⟩, ⟨by (with_reducible repeat (first | refine blk_drewN ?_ _ | refine blk_drew ?_ | refine blk_alloc ?_ _)); exact BK259.out⟩, ⟨by repeat (first | (with_reducible first | exact HB.out | apply below_alloc | apply pw_below_drewN | apply below_drew1 | refine below_set ?_ GE259.out) | exact HB.out)⟩⟩
                · replace c29 := Bool.eq_false_iff.mpr c29
                  subst c29
                  have H1 : (fasciclelaw07_RecordLong.j1 kj8 t263 t266 (decide ((wrap64 (1048570 + (wrap64 (Int.tmod a1 12)))) > 1048576)) false 18446744073709551615 (strOfNums y256) x260003_8) = some r := by rw [if_neg (show ¬ (false = true) by decide)] at H; exact H
                  clear H
                  have H := H1
                  clear H1
                  have H' := Aside0.mk H
                  clear H
                  go_wp2
                  go_meet
                  case rel => exact ⟨_, (decide ((wrap64 (1048570 + (wrap64 (Int.tmod a1 12)))) > 1048576)), (by first | rfl | (simp; done) | (simp [*]; done) | (simp; exact (fun l : List UInt8 => (by cases l <;> rfl : l.isEmpty = !(l != ([] : List UInt8)))) _)), H', ⟨by have := HJ8.out; first | omega | exact Nat.le_refl _⟩, ⟨by (with_reducible repeat (first | apply Kd.R_alloc | apply Kd.R_drewN | apply Kd.R_drew)); exact HO265.out⟩, ⟨by (with_reducible repeat (first | refine blk_drewN ?_ _ | refine blk_drew ?_ | refine blk_alloc ?_ _)); exact BK259.out⟩, ⟨by repeat (first | (with_reducible first | exact HB.out | apply below_alloc | apply pw_below_drewN | apply below_drew1 | refine below_set ?_ GE259.out) | exact HB.out)⟩⟩
            case rest =>
              clear HC25
              try clear c1
              try clear hcv1
              try clear c2
              try clear p2
              try clear hcv2
              try clear c4
              try clear c5
              try clear p6
              try clear c7
              try clear c7b0
              try clear c7b1
              try clear c8
              try clear c8b0
              try clear c8b1
              try clear hcv13
              try clear c14
              try clear c16
              try clear c18
              try clear c18b0
              try clear c18b1
              try clear c19
              try clear c19b0
              try clear c19b1
              try clear c22
              try clear hcv22
              try clear c28
              try clear c28b0
              try clear c29
              try clear hcz15_0
              try clear hcz15_1
              try clear hcz15_2
              try clear hcz15_3
              try clear hcz23_0
              try clear hcz23_1
              try clear hcz23_2
              try clear hcz23_3
              try clear hcz26_0
              try clear hcz26_1
              try clear hcz26_2
              try clear hcz26_3
              try clear hfz15_0
              try clear hfz15_1
              try clear hfz15_2
              try clear hfz15_3
              try clear hfz23_0
              try clear hfz23_1
              try clear hfz23_2
              try clear hfz23_3
              try clear hfz26_0
              try clear hfz26_1
              try clear hfz26_2
              try clear hfz26_3
              try clear p2
              try clear p6
              obtain ⟨kq, x49_24, rfl, HA, HJ24, HO_10, BK259, HB⟩ := hcut
              cases kq with
              | zero => exact absurd HA.out (by simp [fasciclelaw07_RecordLong.j1])
              | succ kj24 =>
                have H := HA.out
                clear HA
                simp only [fasciclelaw07_RecordLong.j1] at H
                by_cases c30 : x49_24 = true
                · subst c30
                  have H1 : (if t266 = 3 then (some ((t263.length : Int) == 0)) else (some false)) = some r := by rw [if_pos rfl] at H; exact H
                  clear H
                  have H := H1
                  clear H1
                  by_cases c31 : t266 = 3
                  · rw [if_pos c31] at H
                    have c31b0 : (t266 == 3) = true := beq_iff_eq.mpr c31
                    have c31b1 : (t266 != 3) = false := bne_eq_false_iff_eq.mpr c31
                    clear c31
                    obtain rfl := Option.some.inj H
                    obtain ⟨Ao32, co32, eo32⟩ := Kd.R_slice HO_10.out
                    subst eo32
                    go_wp2
                    go_ret
                    exact ⟨by first | rfl | (simp [errW_none, errW_some] <;> rfl) | (simp only [← hji6]; first | rfl | (simp [errW_none, errW_some] <;> rfl)) | (simp [*, errW_none, errW_some] <;> rfl), by repeat (first | (with_reducible first | exact HB.out | apply below_alloc | apply pw_below_drewN | apply below_drew1 | refine below_set ?_ GE259.out) | exact HB.out)⟩
                  · rw [if_neg c31] at H
                    have c31b0 : (t266 == 3) = false := beq_eq_false_iff_ne.mpr c31
                    have c31b1 : (t266 != 3) = true := bne_iff_ne.mpr c31
                    obtain rfl := Option.some.inj H
                    go_wp2
                    go_ret
                    exact ⟨by first | rfl | (simp [errW_none, errW_some] <;> rfl) | (simp only [← hji6]; first | rfl | (simp [errW_none, errW_some] <;> rfl)) | (simp [*, errW_none, errW_some] <;> rfl), by repeat (first | (with_reducible first | exact HB.out | apply below_alloc | apply pw_below_drewN | apply below_drew1 | refine below_set ?_ GE259.out) | exact HB.out)⟩
                · replace c30 := Bool.eq_false_iff.mpr c30
                  subst c30
                  have H1 : ((record_Read.f t263).bind fun bt267 => (if t266 = 0 then (if bt267.2.2.2.2 = 0 then (if (bt267.1 == a2 && (bt267.2.1 == 18446744073709551615 && (bt267.2.2.1.toList == (strOfNums y256).toList && (bt267.2.2.2.1.toList == x260003_8.toList)))) = true then ((record_Size.f a2 18446744073709551615 (strOfNums y256) x260003_8).bind fun t273 => (some (t273 == (t263.length : Int)))) else (some false)) else (some false)) else (some false))) = some r := by rw [if_neg (show ¬ (false = true) by decide)] at H; exact H
                  clear H
                  have H := H1
                  clear H1
                  replace H := Option.bind_eq_some_iff.mp H
                  obtain ⟨⟨t267, t268, t269, t270, t271⟩, A330, H⟩ := H
                  replace H : (if t266 = 0 then (if t271 = 0 then (if (t267 == a2 && (t268 == 18446744073709551615 && (t269.toList == (strOfNums y256).toList && (t270.toList == x260003_8.toList)))) = true then ((record_Size.f a2 18446744073709551615 (strOfNums y256) x260003_8).bind fun t273 => (some (t273 == (t263.length : Int)))) else (some false)) else (some false)) else (some false)) = some r := H
                  have A33 := Aside0.mk A330
                  clear A330
                  by_cases c34 : t266 = 0
                  · rw [if_pos c34] at H
                    have c34b0 : (t266 == 0) = true := beq_iff_eq.mpr c34
                    have c34b1 : (t266 != 0) = false := bne_eq_false_iff_eq.mpr c34
                    clear c34
                    by_cases c35 : t271 = 0
                    · rw [if_pos c35] at H
                      have c35b0 : (t271 == 0) = true := beq_iff_eq.mpr c35
                      have c35b1 : (t271 != 0) = false := bne_eq_false_iff_eq.mpr c35
                      clear c35
                      by_cases c36 : (t267 == a2 && (t268 == 18446744073709551615 && (t269.toList == (strOfNums y256).toList && (t270.toList == x260003_8.toList)))) = true
                      · rw [if_pos c36] at H
                        have c36b0 : (t267 == a2 && (t268 == 18446744073709551615 && (t269.toList == (strOfNums y256).toList && (t270.toList == x260003_8.toList)))) = true := c36
                        (try (have c36b1 : decide (t267 = a2 && (t268 == 18446744073709551615 && (t269.toList == (strOfNums y256).toList && (t270.toList == x260003_8.toList)))) = true := by simpa using c36))
                        (try (have c36b2 : (t267 == a2 && (t268 == 18446744073709551615 && (t269.toList == (strOfNums y256).toList && (t270.toList == x260003_8.toList)))) = true := by simpa using c36))
                        clear c36
                        replace H := Option.bind_eq_some_iff.mp H
                        obtain ⟨t273, A370, H⟩ := H
                        replace H : (some (t273 == (t263.length : Int))) = some r := H
                        have A37 := Aside0.mk A370
                        clear A370
                        obtain rfl := Option.some.inj H
                        obtain ⟨Ao38, co38, eo38⟩ := Kd.R_slice HO_10.out
                        subst eo38
                        go_wp2_with (first | ((with_reducible refine gate_callee (f := 46) rfl ?_); refine goesL_ (some 59) rfl rfl Try.func46 (by kernel_rfl) rfl #[.slice Ao38 t263.length co38] rfl (by (try simp only [List.map_toArray, List.map_cons, List.map_nil]); first | done | rfl | (simp only [List.length_drop, List.length_take]; rfl) | (refine congrArg (fun z => #[Value.int .u64 z]) ?_; rw [IntKind.wrap_u64]; omega)) ?_; (with_reducible refine (record_Read.calls _ _ t263 t267 t268 t269 t270 t271 _ ?side1 ?side2 A33.out).mono ?_); (case side1 => repeat (first | exact (Kd.R_reads' HO_10.out).2.2 | (with_reducible refine Kd.C_alloc ?_ _) | (with_reducible refine Kd.C_drewN ?_ _) | (with_reducible refine Kd.C_drew ?_))); (case side2 => exact (Kd.R_reads' HO_10.out).2.1); rintro e w39 ⟨rfl, hb⟩; refine ⟨_, rfl, ?_⟩; have n0_ := Aside0.mk (Kd.R_below (by (with_reducible repeat (first | apply Kd.R_alloc | apply Kd.R_drewN | apply Kd.R_drew)); exact HO_10.out) hb); have n1_ := Aside0.mk (blk_below (g := gb259) (o := .cells #[.bool a2, .int .u64 18446744073709551615, .string (strOfNums y256), .string x260003_8] 44 (0, 0)) (by (with_reducible repeat (first | refine blk_drewN ?_ _ | refine blk_drew ?_ | refine blk_alloc ?_ _)); exact BK259.out) hb); have n2_ := Aside0.mk (below_step (by repeat (first | (with_reducible first | exact HB.out | apply below_alloc | apply pw_below_drewN | apply below_drew1 | refine below_set ?_ GE259.out) | exact HB.out)) hb); clear HO_10; clear BK259; clear HB; have HO_10 := n0_; have BK259 := n1_; have HB := n2_; clear n0_ n1_ n2_; (try clear hb); (try clear hb2); (try clear hk); (try clear hi)) | ((with_reducible refine gate_dst (N := 12) rfl ?_); (try (refine gate_guard (by rfl) ?_; dsimp only)); refine box_event ?hg (N := 12) ?hd (cs := #[.bool false, .int .u64 0, .string (⟨#[]⟩ : ByteArray), .string (⟨#[]⟩ : ByteArray)]) (t := 44) ?hr ?_; (case hd => rfl); (case hg => rfl); (case hr => first | (go_simp; done) | (go_simp; rfl)); intro gb272 hg w40 hbox hb; have n0_ := Aside0.mk (Kd.R_below (by (with_reducible repeat (first | apply Kd.R_alloc | apply Kd.R_drewN | apply Kd.R_drew)); exact HO_10.out) hb); have n1_ := Aside0.mk (blk_below (g := gb259) (o := .cells #[.bool a2, .int .u64 18446744073709551615, .string (strOfNums y256), .string x260003_8] 44 (0, 0)) (by (with_reducible repeat (first | refine blk_drewN ?_ _ | refine blk_drew ?_ | refine blk_alloc ?_ _)); exact BK259.out) hb); have n2_ := Aside0.mk (below_step (by repeat (first | (with_reducible first | exact HB.out | apply below_alloc | apply pw_below_drewN | apply below_drew1 | refine below_set ?_ GE259.out) | exact HB.out)) hb); have n3_ := Aside0.mk (hbox); have n4_ := Aside0.mk ((by rw [hg]; exact (below_size (by repeat (first | (with_reducible first | exact HB.out | apply below_alloc | apply pw_below_drewN | apply below_drew1 | refine below_set ?_ GE259.out) | exact HB.out))) : w.heap.size ≤ gb272)); have n5_ := Aside0.mk ((by rw [hg]; exact (below_size (by repeat (first | (with_reducible first | exact HB.out | apply below_alloc | apply pw_below_drewN | apply below_drew1 | refine below_set ?_ GE259.out) | exact HB.out))) : w.heap.size ≤ gb272)); have n6_ := Aside0.mk ((by rw [hg]; exact Nat.ne_of_lt (blk_lt (g := gb259) (o := .cells #[.bool a2, .int .u64 18446744073709551615, .string (strOfNums y256), .string x260003_8] 44 (0, 0)) (by (with_reducible repeat (first | refine blk_drewN ?_ _ | refine blk_drew ?_ | refine blk_alloc ?_ _)); exact BK259.out)) : gb259 ≠ gb272)); have n7_ := Aside0.mk ((by rw [hg]; exact Nat.ne_of_gt (blk_lt (g := gb259) (o := .cells #[.bool a2, .int .u64 18446744073709551615, .string (strOfNums y256), .string x260003_8] 44 (0, 0)) (by (with_reducible repeat (first | refine blk_drewN ?_ _ | refine blk_drew ?_ | refine blk_alloc ?_ _)); exact BK259.out)) : gb272 ≠ gb259)); clear HO_10; clear BK259; clear HB; have HO_10 := n0_; have BK259 := n1_; have HB := n2_; have BK272 := n3_; have GW272 := n4_; have GE272 := n5_; have NB259_272 := n6_; have NB272_259 := n7_; clear n0_ n1_ n2_ n3_ n4_ n5_ n6_ n7_; clear hb hbox hg; have hnb41 := NB272_259.out; have hnc41 := NB259_272.out; have hcz42_0 : w40.cell? ⟨gb272, 0, none⟩ = some (.bool false) := (blk_cell BK272.out 0).trans rfl; have hcz42_1 : w40.cell? ⟨gb272, 1, none⟩ = some (.int .u64 0) := (blk_cell BK272.out 1).trans rfl; have hcz42_2 : w40.cell? ⟨gb272, 2, none⟩ = some (.string (⟨#[]⟩ : ByteArray)) := (blk_cell BK272.out 2).trans rfl; have hcz42_3 : w40.cell? ⟨gb272, 3, none⟩ = some (.string (⟨#[]⟩ : ByteArray)) := (blk_cell BK272.out 3).trans rfl; have hfz42_0 := blk_frozen BK272.out 0; have hfz42_1 := blk_frozen BK272.out 1; have hfz42_2 := blk_frozen BK272.out 2; have hfz42_3 := blk_frozen BK272.out 3; have hcz43_0 : w40.cell? ⟨gb259, 0, none⟩ = some (.bool a2) := (blk_cell BK259.out 0).trans rfl; have hcz43_1 : w40.cell? ⟨gb259, 1, none⟩ = some (.int .u64 18446744073709551615) := (blk_cell BK259.out 1).trans rfl; have hcz43_2 : w40.cell? ⟨gb259, 2, none⟩ = some (.string (strOfNums y256)) := (blk_cell BK259.out 2).trans rfl; have hcz43_3 : w40.cell? ⟨gb259, 3, none⟩ = some (.string x260003_8) := (blk_cell BK259.out 3).trans rfl; have hfz43_0 := blk_frozen BK259.out 0; have hfz43_1 := blk_frozen BK259.out 1; have hfz43_2 := blk_frozen BK259.out 2; have hfz43_3 := blk_frozen BK259.out 3) | (go_at_call 55; (with_reducible refine (record_Size.calls a2 18446744073709551615 (strOfNums y256) x260003_8 t273 _ A37.out).mono ?_); rintro e w44 ⟨rfl, hb⟩; have n0_ := Aside0.mk (Kd.R_below (by (with_reducible repeat (first | apply Kd.R_alloc | apply Kd.R_drewN | apply Kd.R_drew)); exact (Kd.R_mono (Kd.R_far (p := ⟨gb272, 3, none⟩) (Kd.R_far (p := ⟨gb272, 2, none⟩) (Kd.R_far (p := ⟨gb272, 1, none⟩) (Kd.R_far (p := ⟨gb272, 0, none⟩) (Kd.R_types HO_10.out BK272.out (by decide)) (fun _ hk => by first | exact hk.2 | exact hk) (.bool t267)) (fun _ hk => by first | exact hk.2 | exact hk) (.int .u64 t268)) (fun _ hk => by first | exact hk.2 | exact hk) (.string t269)) (fun _ hk => by first | exact hk.2 | exact hk) (.string t270)) (fun _ h_ => h_.1))) hb); have n1_ := Aside0.mk (blk_below (g := gb259) (o := .cells #[.bool a2, .int .u64 18446744073709551615, .string (strOfNums y256), .string x260003_8] 44 (0, 0)) (by (with_reducible repeat (first | refine blk_drewN ?_ _ | refine blk_drew ?_ | refine blk_alloc ?_ _)); refine blk_far ?_ NB259_272.out _; (with_reducible repeat (first | refine blk_drewN ?_ _ | refine blk_drew ?_ | refine blk_alloc ?_ _)); refine blk_far ?_ NB259_272.out _; (with_reducible repeat (first | refine blk_drewN ?_ _ | refine blk_drew ?_ | refine blk_alloc ?_ _)); refine blk_far ?_ NB259_272.out _; (with_reducible repeat (first | refine blk_drewN ?_ _ | refine blk_drew ?_ | refine blk_alloc ?_ _)); refine blk_far ?_ NB259_272.out _; (with_reducible repeat (first | refine blk_drewN ?_ _ | refine blk_drew ?_ | refine blk_alloc ?_ _)); exact BK259.out) hb); have n2_ := Aside0.mk (blk_below (g := gb272) (o := .cells #[.bool t267, .int .u64 t268, .string t269, .string t270] 44 (0, 0)) (by (with_reducible repeat (first | refine blk_drewN ?_ _ | refine blk_drew ?_ | refine blk_alloc ?_ _)); refine blk_put (cs := #[.bool t267, .int .u64 t268, .string t269, .string (⟨#[]⟩ : ByteArray)]) ?_ 3 _ rfl; (with_reducible repeat (first | refine blk_drewN ?_ _ | refine blk_drew ?_ | refine blk_alloc ?_ _)); refine blk_put (cs := #[.bool t267, .int .u64 t268, .string (⟨#[]⟩ : ByteArray), .string (⟨#[]⟩ : ByteArray)]) ?_ 2 _ rfl; (with_reducible repeat (first | refine blk_drewN ?_ _ | refine blk_drew ?_ | refine blk_alloc ?_ _)); refine blk_put (cs := #[.bool t267, .int .u64 0, .string (⟨#[]⟩ : ByteArray), .string (⟨#[]⟩ : ByteArray)]) ?_ 1 _ rfl; (with_reducible repeat (first | refine blk_drewN ?_ _ | refine blk_drew ?_ | refine blk_alloc ?_ _)); refine blk_put (cs := #[.bool false, .int .u64 0, .string (⟨#[]⟩ : ByteArray), .string (⟨#[]⟩ : ByteArray)]) ?_ 0 _ rfl; (with_reducible repeat (first | refine blk_drewN ?_ _ | refine blk_drew ?_ | refine blk_alloc ?_ _)); exact BK272.out) hb); have n3_ := Aside0.mk (below_step (by repeat (first | (with_reducible first | exact HB.out | apply below_alloc | apply pw_below_drewN | apply below_drew1 | refine below_set ?_ GE259.out | refine below_set ?_ GE272.out) | exact HB.out)) hb); clear HO_10; clear BK259; clear BK272; clear HB; have HO_10 := n0_; have BK259 := n1_; have BK272 := n2_; have HB := n3_; clear n0_ n1_ n2_ n3_; (try clear hb); (try clear hb2); (try clear hk); (try clear hi)))
                        go_ret
                        exact ⟨by first | rfl | (simp [errW_none, errW_some] <;> rfl) | (simp only [← hji6]; first | rfl | (simp [errW_none, errW_some] <;> rfl)) | (simp [*, errW_none, errW_some] <;> rfl), by repeat (first | (with_reducible first | exact HB.out | apply below_alloc | apply pw_below_drewN | apply below_drew1 | refine below_set ?_ GE259.out | refine below_set ?_ GE272.out) | exact HB.out)⟩
                      · rw [if_neg c36] at H
                        have c36b0 : (t267 == a2 && (t268 == 18446744073709551615 && (t269.toList == (strOfNums y256).toList && (t270.toList == x260003_8.toList)))) = false := by simpa using c36
                        (try (have c36b1 : decide (t267 = a2 && (t268 == 18446744073709551615 && (t269.toList == (strOfNums y256).toList && (t270.toList == x260003_8.toList)))) = false := by simpa using c36))
                        (try (have c36b2 : (t267 == a2 && (t268 == 18446744073709551615 && (t269.toList == (strOfNums y256).toList && (t270.toList == x260003_8.toList)))) = false := by simpa using c36))
                        (try (have c36b3 : ¬ (t267 = a2 && (t268 == 18446744073709551615 && (t269.toList == (strOfNums y256).toList && (t270.toList == x260003_8.toList)))) := by simpa using c36))
                        clear c36
                        obtain rfl := Option.some.inj H
                        obtain ⟨Ao45, co45, eo45⟩ := Kd.R_slice HO_10.out
                        subst eo45
                        go_wp2_with (first | ((with_reducible refine gate_callee (f := 46) rfl ?_); refine goesL_ (some 59) rfl rfl Try.func46 (by kernel_rfl) rfl #[.slice Ao45 t263.length co45] rfl (by (try simp only [List.map_toArray, List.map_cons, List.map_nil]); first | done | rfl | (simp only [List.length_drop, List.length_take]; rfl) | (refine congrArg (fun z => #[Value.int .u64 z]) ?_; rw [IntKind.wrap_u64]; omega)) ?_; (with_reducible refine (record_Read.calls _ _ t263 t267 t268 t269 t270 t271 _ ?side1 ?side2 A33.out).mono ?_); (case side1 => repeat (first | exact (Kd.R_reads' HO_10.out).2.2 | (with_reducible refine Kd.C_alloc ?_ _) | (with_reducible refine Kd.C_drewN ?_ _) | (with_reducible refine Kd.C_drew ?_))); (case side2 => exact (Kd.R_reads' HO_10.out).2.1); rintro e w46 ⟨rfl, hb⟩; refine ⟨_, rfl, ?_⟩; have n0_ := Aside0.mk (Kd.R_below (by (with_reducible repeat (first | apply Kd.R_alloc | apply Kd.R_drewN | apply Kd.R_drew)); exact HO_10.out) hb); have n1_ := Aside0.mk (blk_below (g := gb259) (o := .cells #[.bool a2, .int .u64 18446744073709551615, .string (strOfNums y256), .string x260003_8] 44 (0, 0)) (by (with_reducible repeat (first | refine blk_drewN ?_ _ | refine blk_drew ?_ | refine blk_alloc ?_ _)); exact BK259.out) hb); have n2_ := Aside0.mk (below_step (by repeat (first | (with_reducible first | exact HB.out | apply below_alloc | apply pw_below_drewN | apply below_drew1 | refine below_set ?_ GE259.out) | exact HB.out)) hb); clear HO_10; clear BK259; clear HB; have HO_10 := n0_; have BK259 := n1_; have HB := n2_; clear n0_ n1_ n2_; (try clear hb); (try clear hb2); (try clear hk); (try clear hi)) | ((with_reducible refine gate_dst (N := 12) rfl ?_); (try (refine gate_guard (by rfl) ?_; dsimp only)); refine box_event ?hg (N := 12) ?hd (cs := #[.bool false, .int .u64 0, .string (⟨#[]⟩ : ByteArray), .string (⟨#[]⟩ : ByteArray)]) (t := 44) ?hr ?_; (case hd => rfl); (case hg => rfl); (case hr => first | (go_simp; done) | (go_simp; rfl)); intro gb272 hg w47 hbox hb; have n0_ := Aside0.mk (Kd.R_below (by (with_reducible repeat (first | apply Kd.R_alloc | apply Kd.R_drewN | apply Kd.R_drew)); exact HO_10.out) hb); have n1_ := Aside0.mk (blk_below (g := gb259) (o := .cells #[.bool a2, .int .u64 18446744073709551615, .string (strOfNums y256), .string x260003_8] 44 (0, 0)) (by (with_reducible repeat (first | refine blk_drewN ?_ _ | refine blk_drew ?_ | refine blk_alloc ?_ _)); exact BK259.out) hb); have n2_ := Aside0.mk (below_step (by repeat (first | (with_reducible first | exact HB.out | apply below_alloc | apply pw_below_drewN | apply below_drew1 | refine below_set ?_ GE259.out) | exact HB.out)) hb); have n3_ := Aside0.mk (hbox); have n4_ := Aside0.mk ((by rw [hg]; exact (below_size (by repeat (first | (with_reducible first | exact HB.out | apply below_alloc | apply pw_below_drewN | apply below_drew1 | refine below_set ?_ GE259.out) | exact HB.out))) : w.heap.size ≤ gb272)); have n5_ := Aside0.mk ((by rw [hg]; exact (below_size (by repeat (first | (with_reducible first | exact HB.out | apply below_alloc | apply pw_below_drewN | apply below_drew1 | refine below_set ?_ GE259.out) | exact HB.out))) : w.heap.size ≤ gb272)); have n6_ := Aside0.mk ((by rw [hg]; exact Nat.ne_of_lt (blk_lt (g := gb259) (o := .cells #[.bool a2, .int .u64 18446744073709551615, .string (strOfNums y256), .string x260003_8] 44 (0, 0)) (by (with_reducible repeat (first | refine blk_drewN ?_ _ | refine blk_drew ?_ | refine blk_alloc ?_ _)); exact BK259.out)) : gb259 ≠ gb272)); have n7_ := Aside0.mk ((by rw [hg]; exact Nat.ne_of_gt (blk_lt (g := gb259) (o := .cells #[.bool a2, .int .u64 18446744073709551615, .string (strOfNums y256), .string x260003_8] 44 (0, 0)) (by (with_reducible repeat (first | refine blk_drewN ?_ _ | refine blk_drew ?_ | refine blk_alloc ?_ _)); exact BK259.out)) : gb272 ≠ gb259)); clear HO_10; clear BK259; clear HB; have HO_10 := n0_; have BK259 := n1_; have HB := n2_; have BK272 := n3_; have GW272 := n4_; have GE272 := n5_; have NB259_272 := n6_; have NB272_259 := n7_; clear n0_ n1_ n2_ n3_ n4_ n5_ n6_ n7_; clear hb hbox hg; have hnb48 := NB272_259.out; have hnc48 := NB259_272.out; have hcz49_0 : w47.cell? ⟨gb272, 0, none⟩ = some (.bool false) := (blk_cell BK272.out 0).trans rfl; have hcz49_1 : w47.cell? ⟨gb272, 1, none⟩ = some (.int .u64 0) := (blk_cell BK272.out 1).trans rfl; have hcz49_2 : w47.cell? ⟨gb272, 2, none⟩ = some (.string (⟨#[]⟩ : ByteArray)) := (blk_cell BK272.out 2).trans rfl; have hcz49_3 : w47.cell? ⟨gb272, 3, none⟩ = some (.string (⟨#[]⟩ : ByteArray)) := (blk_cell BK272.out 3).trans rfl; have hfz49_0 := blk_frozen BK272.out 0; have hfz49_1 := blk_frozen BK272.out 1; have hfz49_2 := blk_frozen BK272.out 2; have hfz49_3 := blk_frozen BK272.out 3; have hcz50_0 : w47.cell? ⟨gb259, 0, none⟩ = some (.bool a2) := (blk_cell BK259.out 0).trans rfl; have hcz50_1 : w47.cell? ⟨gb259, 1, none⟩ = some (.int .u64 18446744073709551615) := (blk_cell BK259.out 1).trans rfl; have hcz50_2 : w47.cell? ⟨gb259, 2, none⟩ = some (.string (strOfNums y256)) := (blk_cell BK259.out 2).trans rfl; have hcz50_3 : w47.cell? ⟨gb259, 3, none⟩ = some (.string x260003_8) := (blk_cell BK259.out 3).trans rfl; have hfz50_0 := blk_frozen BK259.out 0; have hfz50_1 := blk_frozen BK259.out 1; have hfz50_2 := blk_frozen BK259.out 2; have hfz50_3 := blk_frozen BK259.out 3))
                        go_ret
                        exact ⟨by first | rfl | (simp [errW_none, errW_some] <;> rfl) | (simp only [← hji6]; first | rfl | (simp [errW_none, errW_some] <;> rfl)) | (simp [*, errW_none, errW_some] <;> rfl), by repeat (first | (with_reducible first | exact HB.out | apply below_alloc | apply pw_below_drewN | apply below_drew1 | refine below_set ?_ GE259.out | refine below_set ?_ GE272.out) | exact HB.out)⟩
                    · rw [if_neg c35] at H
                      have c35b0 : (t271 == 0) = false := beq_eq_false_iff_ne.mpr c35
                      have c35b1 : (t271 != 0) = true := bne_iff_ne.mpr c35
                      obtain rfl := Option.some.inj H
                      obtain ⟨Ao51, co51, eo51⟩ := Kd.R_slice HO_10.out
                      subst eo51
                      go_wp2_with (first | ((with_reducible refine gate_callee (f := 46) rfl ?_); refine goesL_ (some 59) rfl rfl Try.func46 (by kernel_rfl) rfl #[.slice Ao51 t263.length co51] rfl (by (try simp only [List.map_toArray, List.map_cons, List.map_nil]); first | done | rfl | (simp only [List.length_drop, List.length_take]; rfl) | (refine congrArg (fun z => #[Value.int .u64 z]) ?_; rw [IntKind.wrap_u64]; omega)) ?_; (with_reducible refine (record_Read.calls _ _ t263 t267 t268 t269 t270 t271 _ ?side1 ?side2 A33.out).mono ?_); (case side1 => repeat (first | exact (Kd.R_reads' HO_10.out).2.2 | (with_reducible refine Kd.C_alloc ?_ _) | (with_reducible refine Kd.C_drewN ?_ _) | (with_reducible refine Kd.C_drew ?_))); (case side2 => exact (Kd.R_reads' HO_10.out).2.1); rintro e w52 ⟨rfl, hb⟩; refine ⟨_, rfl, ?_⟩; have n0_ := Aside0.mk (Kd.R_below (by (with_reducible repeat (first | apply Kd.R_alloc | apply Kd.R_drewN | apply Kd.R_drew)); exact HO_10.out) hb); have n1_ := Aside0.mk (blk_below (g := gb259) (o := .cells #[.bool a2, .int .u64 18446744073709551615, .string (strOfNums y256), .string x260003_8] 44 (0, 0)) (by (with_reducible repeat (first | refine blk_drewN ?_ _ | refine blk_drew ?_ | refine blk_alloc ?_ _)); exact BK259.out) hb); have n2_ := Aside0.mk (below_step (by repeat (first | (with_reducible first | exact HB.out | apply below_alloc | apply pw_below_drewN | apply below_drew1 | refine below_set ?_ GE259.out) | exact HB.out)) hb); clear HO_10; clear BK259; clear HB; have HO_10 := n0_; have BK259 := n1_; have HB := n2_; clear n0_ n1_ n2_; (try clear hb); (try clear hb2); (try clear hk); (try clear hi)) | ((with_reducible refine gate_dst (N := 12) rfl ?_); (try (refine gate_guard (by rfl) ?_; dsimp only)); refine box_event ?hg (N := 12) ?hd (cs := #[.bool false, .int .u64 0, .string (⟨#[]⟩ : ByteArray), .string (⟨#[]⟩ : ByteArray)]) (t := 44) ?hr ?_; (case hd => rfl); (case hg => rfl); (case hr => first | (go_simp; done) | (go_simp; rfl)); intro gb272 hg w53 hbox hb; have n0_ := Aside0.mk (Kd.R_below (by (with_reducible repeat (first | apply Kd.R_alloc | apply Kd.R_drewN | apply Kd.R_drew)); exact HO_10.out) hb); have n1_ := Aside0.mk (blk_below (g := gb259) (o := .cells #[.bool a2, .int .u64 18446744073709551615, .string (strOfNums y256), .string x260003_8] 44 (0, 0)) (by (with_reducible repeat (first | refine blk_drewN ?_ _ | refine blk_drew ?_ | refine blk_alloc ?_ _)); exact BK259.out) hb); have n2_ := Aside0.mk (below_step (by repeat (first | (with_reducible first | exact HB.out | apply below_alloc | apply pw_below_drewN | apply below_drew1 | refine below_set ?_ GE259.out) | exact HB.out)) hb); have n3_ := Aside0.mk (hbox); have n4_ := Aside0.mk ((by rw [hg]; exact (below_size (by repeat (first | (with_reducible first | exact HB.out | apply below_alloc | apply pw_below_drewN | apply below_drew1 | refine below_set ?_ GE259.out) | exact HB.out))) : w.heap.size ≤ gb272)); have n5_ := Aside0.mk ((by rw [hg]; exact (below_size (by repeat (first | (with_reducible first | exact HB.out | apply below_alloc | apply pw_below_drewN | apply below_drew1 | refine below_set ?_ GE259.out) | exact HB.out))) : w.heap.size ≤ gb272)); have n6_ := Aside0.mk ((by rw [hg]; exact Nat.ne_of_lt (blk_lt (g := gb259) (o := .cells #[.bool a2, .int .u64 18446744073709551615, .string (strOfNums y256), .string x260003_8] 44 (0, 0)) (by (with_reducible repeat (first | refine blk_drewN ?_ _ | refine blk_drew ?_ | refine blk_alloc ?_ _)); exact BK259.out)) : gb259 ≠ gb272)); have n7_ := Aside0.mk ((by rw [hg]; exact Nat.ne_of_gt (blk_lt (g := gb259) (o := .cells #[.bool a2, .int .u64 18446744073709551615, .string (strOfNums y256), .string x260003_8] 44 (0, 0)) (by (with_reducible repeat (first | refine blk_drewN ?_ _ | refine blk_drew ?_ | refine blk_alloc ?_ _)); exact BK259.out)) : gb272 ≠ gb259)); clear HO_10; clear BK259; clear HB; have HO_10 := n0_; have BK259 := n1_; have HB := n2_; have BK272 := n3_; have GW272 := n4_; have GE272 := n5_; have NB259_272 := n6_; have NB272_259 := n7_; clear n0_ n1_ n2_ n3_ n4_ n5_ n6_ n7_; clear hb hbox hg; have hnb54 := NB272_259.out; have hnc54 := NB259_272.out; have hcz55_0 : w53.cell? ⟨gb272, 0, none⟩ = some (.bool false) := (blk_cell BK272.out 0).trans rfl; have hcz55_1 : w53.cell? ⟨gb272, 1, none⟩ = some (.int .u64 0) := (blk_cell BK272.out 1).trans rfl; have hcz55_2 : w53.cell? ⟨gb272, 2, none⟩ = some (.string (⟨#[]⟩ : ByteArray)) := (blk_cell BK272.out 2).trans rfl; have hcz55_3 : w53.cell? ⟨gb272, 3, none⟩ = some (.string (⟨#[]⟩ : ByteArray)) := (blk_cell BK272.out 3).trans rfl; have hfz55_0 := blk_frozen BK272.out 0; have hfz55_1 := blk_frozen BK272.out 1; have hfz55_2 := blk_frozen BK272.out 2; have hfz55_3 := blk_frozen BK272.out 3))
                      go_ret
                      exact ⟨by first | rfl | (simp [errW_none, errW_some] <;> rfl) | (simp only [← hji6]; first | rfl | (simp [errW_none, errW_some] <;> rfl)) | (simp [*, errW_none, errW_some] <;> rfl), by repeat (first | (with_reducible first | exact HB.out | apply below_alloc | apply pw_below_drewN | apply below_drew1 | refine below_set ?_ GE259.out | refine below_set ?_ GE272.out) | exact HB.out)⟩
                  · rw [if_neg c34] at H
                    have c34b0 : (t266 == 0) = false := beq_eq_false_iff_ne.mpr c34
                    have c34b1 : (t266 != 0) = true := bne_iff_ne.mpr c34
                    obtain rfl := Option.some.inj H
                    obtain ⟨Ao56, co56, eo56⟩ := Kd.R_slice HO_10.out
                    subst eo56
                    go_wp2_with (first | ((with_reducible refine gate_callee (f := 46) rfl ?_); refine goesL_ (some 59) rfl rfl Try.func46 (by kernel_rfl) rfl #[.slice Ao56 t263.length co56] rfl (by (try simp only [List.map_toArray, List.map_cons, List.map_nil]); first | done | rfl | (simp only [List.length_drop, List.length_take]; rfl) | (refine congrArg (fun z => #[Value.int .u64 z]) ?_; rw [IntKind.wrap_u64]; omega)) ?_; (with_reducible refine (record_Read.calls _ _ t263 t267 t268 t269 t270 t271 _ ?side1 ?side2 A33.out).mono ?_); (case side1 => repeat (first | exact (Kd.R_reads' HO_10.out).2.2 | (with_reducible refine Kd.C_alloc ?_ _) | (with_reducible refine Kd.C_drewN ?_ _) | (with_reducible refine Kd.C_drew ?_))); (case side2 => exact (Kd.R_reads' HO_10.out).2.1); rintro e w57 ⟨rfl, hb⟩; refine ⟨_, rfl, ?_⟩; have n0_ := Aside0.mk (Kd.R_below (by (with_reducible repeat (first | apply Kd.R_alloc | apply Kd.R_drewN | apply Kd.R_drew)); exact HO_10.out) hb); have n1_ := Aside0.mk (blk_below (g := gb259) (o := .cells #[.bool a2, .int .u64 18446744073709551615, .string (strOfNums y256), .string x260003_8] 44 (0, 0)) (by (with_reducible repeat (first | refine blk_drewN ?_ _ | refine blk_drew ?_ | refine blk_alloc ?_ _)); exact BK259.out) hb); have n2_ := Aside0.mk (below_step (by repeat (first | (with_reducible first | exact HB.out | apply below_alloc | apply pw_below_drewN | apply below_drew1 | refine below_set ?_ GE259.out) | exact HB.out)) hb); clear HO_10; clear BK259; clear HB; have HO_10 := n0_; have BK259 := n1_; have HB := n2_; clear n0_ n1_ n2_; (try clear hb); (try clear hb2); (try clear hk); (try clear hi)) | ((with_reducible refine gate_dst (N := 12) rfl ?_); (try (refine gate_guard (by rfl) ?_; dsimp only)); refine box_event ?hg (N := 12) ?hd (cs := #[.bool false, .int .u64 0, .string (⟨#[]⟩ : ByteArray), .string (⟨#[]⟩ : ByteArray)]) (t := 44) ?hr ?_; (case hd => rfl); (case hg => rfl); (case hr => first | (go_simp; done) | (go_simp; rfl)); intro gb272 hg w58 hbox hb; have n0_ := Aside0.mk (Kd.R_below (by (with_reducible repeat (first | apply Kd.R_alloc | apply Kd.R_drewN | apply Kd.R_drew)); exact HO_10.out) hb); have n1_ := Aside0.mk (blk_below (g := gb259) (o := .cells #[.bool a2, .int .u64 18446744073709551615, .string (strOfNums y256), .string x260003_8] 44 (0, 0)) (by (with_reducible repeat (first | refine blk_drewN ?_ _ | refine blk_drew ?_ | refine blk_alloc ?_ _)); exact BK259.out) hb); have n2_ := Aside0.mk (below_step (by repeat (first | (with_reducible first | exact HB.out | apply below_alloc | apply pw_below_drewN | apply below_drew1 | refine below_set ?_ GE259.out) | exact HB.out)) hb); have n3_ := Aside0.mk (hbox); have n4_ := Aside0.mk ((by rw [hg]; exact (below_size (by repeat (first | (with_reducible first | exact HB.out | apply below_alloc | apply pw_below_drewN | apply below_drew1 | refine below_set ?_ GE259.out) | exact HB.out))) : w.heap.size ≤ gb272)); have n5_ := Aside0.mk ((by rw [hg]; exact (below_size (by repeat (first | (with_reducible first | exact HB.out | apply below_alloc | apply pw_below_drewN | apply below_drew1 | refine below_set ?_ GE259.out) | exact HB.out))) : w.heap.size ≤ gb272)); have n6_ := Aside0.mk ((by rw [hg]; exact Nat.ne_of_lt (blk_lt (g := gb259) (o := .cells #[.bool a2, .int .u64 18446744073709551615, .string (strOfNums y256), .string x260003_8] 44 (0, 0)) (by (with_reducible repeat (first | refine blk_drewN ?_ _ | refine blk_drew ?_ | refine blk_alloc ?_ _)); exact BK259.out)) : gb259 ≠ gb272)); have n7_ := Aside0.mk ((by rw [hg]; exact Nat.ne_of_gt (blk_lt (g := gb259) (o := .cells #[.bool a2, .int .u64 18446744073709551615, .string (strOfNums y256), .string x260003_8] 44 (0, 0)) (by (with_reducible repeat (first | refine blk_drewN ?_ _ | refine blk_drew ?_ | refine blk_alloc ?_ _)); exact BK259.out)) : gb272 ≠ gb259)); clear HO_10; clear BK259; clear HB; have HO_10 := n0_; have BK259 := n1_; have HB := n2_; have BK272 := n3_; have GW272 := n4_; have GE272 := n5_; have NB259_272 := n6_; have NB272_259 := n7_; clear n0_ n1_ n2_ n3_ n4_ n5_ n6_ n7_; clear hb hbox hg; have hnb59 := NB272_259.out; have hnc59 := NB259_272.out; have hcz60_0 : w58.cell? ⟨gb272, 0, none⟩ = some (.bool false) := (blk_cell BK272.out 0).trans rfl; have hcz60_1 : w58.cell? ⟨gb272, 1, none⟩ = some (.int .u64 0) := (blk_cell BK272.out 1).trans rfl; have hcz60_2 : w58.cell? ⟨gb272, 2, none⟩ = some (.string (⟨#[]⟩ : ByteArray)) := (blk_cell BK272.out 2).trans rfl; have hcz60_3 : w58.cell? ⟨gb272, 3, none⟩ = some (.string (⟨#[]⟩ : ByteArray)) := (blk_cell BK272.out 3).trans rfl; have hfz60_0 := blk_frozen BK272.out 0; have hfz60_1 := blk_frozen BK272.out 1; have hfz60_2 := blk_frozen BK272.out 2; have hfz60_3 := blk_frozen BK272.out 3))
                    go_ret
                    exact ⟨by first | rfl | (simp [errW_none, errW_some] <;> rfl) | (simp only [← hji6]; first | rfl | (simp [errW_none, errW_some] <;> rfl)) | (simp [*, errW_none, errW_some] <;> rfl), by repeat (first | (with_reducible first | exact HB.out | apply below_alloc | apply pw_below_drewN | apply below_drew1 | refine below_set ?_ GE259.out | refine below_set ?_ GE272.out) | exact HB.out)⟩
      · rw [if_neg c8] at H
        exact absurd H (by simp)
    · rw [if_neg c7] at H
      exact absurd H (by simp)
  · replace c5 := Bool.eq_false_iff.mpr c5
    subst c5
    have H1 : (some false) = some r := by rw [if_neg (show ¬ (false = true) by decide)] at H; exact H
    clear H
    have H := H1
    clear H1
    obtain rfl := Option.some.inj H
    go_enter Try.func14, Try.ntmps14
    go_wp2_with (first | ((with_reducible refine gate_callee (f := 22) rfl ?_); refine goesL_ (some 14) rfl rfl Try.func22 (by kernel_rfl) rfl #[] rfl (by (try simp only [List.map_toArray, List.map_cons, List.map_nil]); first | done | rfl | (simp only [List.length_drop, List.length_take]; rfl) | (refine congrArg (fun z => #[Value.int .u64 z]) ?_; rw [IntKind.wrap_u64]; omega)) ?_; (with_reducible refine (fasciclelaw07_lives.calls  false _ A4.out).mono ?_); rintro e w61 ⟨rfl, hb⟩; refine ⟨_, rfl, ?_⟩; have n0_ := Aside0.mk (below_step (by repeat (first | (with_reducible first | exact HB.out | apply below_alloc | apply pw_below_drewN | apply below_drew1) | exact HB.out)) hb); clear HB; have HB := n0_; clear n0_; (try clear hb); (try clear hb2); (try clear hk); (try clear hi)))
    go_ret
    exact ⟨by first | rfl | (simp [errW_none, errW_some] <;> rfl) | (simp [*, errW_none, errW_some] <;> rfl), by repeat (first | (with_reducible first | exact HB.out | apply below_alloc | apply pw_below_drewN | apply below_drew1) | exact HB.out)⟩
/-- THE ONE PURE STATEMENT of fasciclelaw07_RecordLong. -/
def fasciclelaw07_RecordLong.Pure : Prop := ∀ (a0 : Int) (a1 : Int) (a2 : Bool), (Lit.int .u8 a0).wf = true → (Lit.int .u8 a1).wf = true → ∃ k, fasciclelaw07_RecordLong.f k a0 a1 a2 = some true

end Go.Proofs.Ytmlodmpkcbncjaa.G
