-- Written by gprint.py (the kit's print.py with contracts of my own taken as given)
import Derived.Test.YtdpghobknhkikaaGx0
namespace Go.Proofs.Ytdpghobknhkikaa.G
open Go.RowKit Go.Proofs.YtdpghobknhkikaaW.PrintWords Go.Proofs.YtdpghobknhkikaaW.PrintLast Go.Proofs.YtdpghobknhkikaaW.PrintMore
attribute [local go_sem] max2_int min2_int max_two min_two max_three min_three max_four min_four   -- for this text's walks alone
set_option linter.unusedVariables false
set_option linter.unusedSimpArgs false

/-! ### fascicleref05_Stuff: function 33 -/
mutual
def fascicleref05_Stuff.l0 : Nat → ByteArray → ByteArray → ByteArray → Int → Option (ByteArray)
  | 0, _, _, _, _ => none
  | k + 1, x3, x4, x5, x6 => if x6 < (x3.size : Int) then (if 0 ≤ x6 then (if (bt x3 x6) = 0 then (if x6 = (wrap64 ((x3.size : Int) - 1)) then (if x5.toList = ([] : List UInt8) then (if x6 > 0 then (if 0 ≤ (wrap64 (x6 - 1)) then (if (wrap64 (x6 - 1)) < (x3.size : Int) then (fascicleref05_Stuff.j1 k x3 x4 x5 x6 ((bt x3 (wrap64 (x6 - 1))) != 0)) else (none)) else (none)) else (fascicleref05_Stuff.j1 k x3 x4 x5 x6 false)) else (fascicleref05_Stuff.j1 k x3 x4 x5 x6 false)) else (fascicleref05_Stuff.j1 k x3 x4 x5 x6 false)) else (if x6 ≤ (wrap64 (x6 + 1)) then (if (wrap64 (x6 + 1)) ≤ (x3.size : Int) then (if x5.size + (x3.extract (x6 : Int).toNat ((wrap64 (x6 + 1)) : Int).toNat).size ≤ 9223372036854775807 then (if ((x5 ++ (x3.extract (x6 : Int).toNat ((wrap64 (x6 + 1)) : Int).toNat)).size : Int) = 254 then (if x4.size + 1 ≤ 9223372036854775807 then (if (x4 ++ (⟨#[255]⟩ : ByteArray)).size + (x5 ++ (x3.extract (x6 : Int).toNat ((wrap64 (x6 + 1)) : Int).toNat)).size ≤ 9223372036854775807 then (fascicleref05_Stuff.l0 k x3 ((x4 ++ (⟨#[255]⟩ : ByteArray)) ++ (x5 ++ (x3.extract (x6 : Int).toNat ((wrap64 (x6 + 1)) : Int).toNat))) (⟨#[]⟩ : ByteArray) (wrap64 (x6 + 1))) else (none)) else (none)) else (fascicleref05_Stuff.l0 k x3 x4 (x5 ++ (x3.extract (x6 : Int).toNat ((wrap64 (x6 + 1)) : Int).toNat)) (wrap64 (x6 + 1)))) else (none)) else (none)) else (none))) else (none)) else (some x4)
def fascicleref05_Stuff.j1 : Nat → ByteArray → ByteArray → ByteArray → Int → Bool → Option (ByteArray)
  | 0, _, _, _, _, _ => none
  | k + 1, x3, x4, x5, x6, x38 => if x38 = true then (some x4) else ((some (([(wrap64 ((x5.size : Int) + 1)) % 256] : List Int) : List Int)).bind fun y311 => (if x4.size + (strOfNums y311).size ≤ 9223372036854775807 then (if (x4 ++ (strOfNums y311)).size + x5.size ≤ 9223372036854775807 then (fascicleref05_Stuff.l0 k x3 ((x4 ++ (strOfNums y311)) ++ x5) (⟨#[]⟩ : ByteArray) (wrap64 (x6 + 1))) else (none)) else (none)))
end
def fascicleref05_Stuff.f (k : Nat) (a0 : ByteArray) : Option (ByteArray) := if a0.size + 1 ≤ 9223372036854775807 then (fascicleref05_Stuff.l0 k (a0 ++ (⟨#[0]⟩ : ByteArray)) (⟨#[]⟩ : ByteArray) (⟨#[]⟩ : ByteArray) 0) else (none)
theorem fascicleref05_Stuff.mono_l : ∀ k, (∀ y0 y1 y2 y3, LeO (fascicleref05_Stuff.l0 k y0 y1 y2 y3) (fascicleref05_Stuff.l0 (k + 1) y0 y1 y2 y3)) ∧ (∀ y0 y1 y2 y3 y4, LeO (fascicleref05_Stuff.j1 k y0 y1 y2 y3 y4) (fascicleref05_Stuff.j1 (k + 1) y0 y1 y2 y3 y4))
  | 0 => ⟨fun _ _ _ _ r h => by simp [fascicleref05_Stuff.l0] at h, fun _ _ _ _ _ r h => by simp [fascicleref05_Stuff.j1] at h⟩
  | k + 1 => by
    obtain ⟨ih0, ih1⟩ := fascicleref05_Stuff.mono_l k
    refine ⟨?_, ?_⟩
    · intro y0 y1 y2 y3
      unfold fascicleref05_Stuff.l0
      repeat' first
      | (with_reducible exact ih0 _ _ _ _)
      | (with_reducible exact ih1 _ _ _ _ _)
      | (with_reducible exact LeO.refl _)
      | (with_reducible exact LeO.none _)
      | (with_reducible refine LeO.ite ?_ ?_)
      | (with_reducible refine LeO.bind ?_ (fun _ => ?_))
      | exact ih0 _ _ _ _
      | exact ih1 _ _ _ _ _
      | exact LeO.none _
      | refine LeO.ite ?_ ?_
      | refine LeO.bind ?_ (fun _ => ?_)
    · intro y0 y1 y2 y3 y4
      unfold fascicleref05_Stuff.j1
      repeat' first
      | (with_reducible exact ih0 _ _ _ _)
      | (with_reducible exact ih1 _ _ _ _ _)
      | (with_reducible exact LeO.refl _)
      | (with_reducible exact LeO.none _)
      | (with_reducible refine LeO.ite ?_ ?_)
      | (with_reducible refine LeO.bind ?_ (fun _ => ?_))
      | exact ih0 _ _ _ _
      | exact ih1 _ _ _ _ _
      | exact LeO.none _
      | refine LeO.ite ?_ ?_
      | refine LeO.bind ?_ (fun _ => ?_)
theorem fascicleref05_Stuff.mono : ∀ a0 k, LeO (fascicleref05_Stuff.f k a0) (fascicleref05_Stuff.f (k + 1) a0) := by
  intro a0 k
  obtain ⟨ih0, ih1⟩ := fascicleref05_Stuff.mono_l k
  unfold fascicleref05_Stuff.f
  repeat' first
      | (with_reducible exact ih0 _ _ _ _)
      | (with_reducible exact ih1 _ _ _ _ _)
      | (with_reducible exact LeO.refl _)
      | (with_reducible exact LeO.none _)
      | (with_reducible refine LeO.ite ?_ ?_)
      | (with_reducible refine LeO.bind ?_ (fun _ => ?_))
      | exact ih0 _ _ _ _
      | exact ih1 _ _ _ _ _
      | exact LeO.none _
      | refine LeO.ite ?_ ?_
      | refine LeO.bind ?_ (fun _ => ?_)
set_option maxHeartbeats 8000000 in
set_option maxRecDepth 100000 in
theorem fascicleref05_Stuff.calls (k : Nat) (a0 : ByteArray) (r : ByteArray) (w : World) (h : fascicleref05_Stuff.f k a0 = some r) :
    Calls Try.prog 33 #[.string a0] w fun e w' => e = .returned (.string r) ∧ Below w.heap.size w w' := by
  have HB := Aside0.mk (Below.refl w.heap.size w)
  have H : (if a0.size + 1 ≤ 9223372036854775807 then (fascicleref05_Stuff.l0 k (a0 ++ (⟨#[0]⟩ : ByteArray)) (⟨#[]⟩ : ByteArray) (⟨#[]⟩ : ByteArray) 0) else (none)) = some r := h
  clear h
  by_cases c2 : a0.size + 1 ≤ 9223372036854775807
  · rw [if_pos c2] at H
    have c2b0 := eq_true c2
    have c2b1 : decide (a0.size + 1 ≤ 9223372036854775807) = true := decide_eq_true c2
    try have c2b2 : (9223372036854775807 < a0.size + 1) = False := eq_false (Nat.not_lt.2 c2)
    have H' := Aside0.mk H
    clear H
    go_enter Try.func33, Try.ntmps33
    go_wp2
    generalize (a0 ++ (⟨#[0]⟩ : ByteArray)) = all_ at *
    go_loopg [4, 5, 6] k (fun kq v4 v5 v6 w' => ∃ (x4_1 : ByteArray) (x5_1 : ByteArray) (x6_1 : Int), v4 = .string x4_1 ∧ v5 = .string x5_1 ∧ v6 = .int .i64 x6_1 ∧ Aside0 (fascicleref05_Stuff.l0 kq all_ x4_1 x5_1 x6_1 = some r) ∧ Aside0 (kq ≤ k) ∧ Aside0 (Below w.heap.size w w'))
    case atStart => exact ⟨((⟨#[]⟩ : ByteArray)), ((⟨#[]⟩ : ByteArray)), (0), (by first | rfl | (simp; done) | (simp [*]; done)), (by first | rfl | (simp; done) | (simp [*]; done)), (by first | rfl | (simp; done) | (simp [*]; done)), H', ⟨Nat.le_refl _⟩, ⟨by repeat (first | (with_reducible first | exact HB.out | apply below_alloc | apply pw_below_drewN | apply below_drew1) | exact HB.out)⟩⟩
    case round =>
      clear H'
      try clear c2
      try clear c2b0
      try clear c2b1
      try clear c2b2
      try clear p2
      obtain ⟨x4_1, x5_1, x6_1, rfl, rfl, rfl, HA, HK1, HB⟩ := hrel
      cases gk with
      | zero => exact absurd HA.out (by simp [fascicleref05_Stuff.l0])
      | succ k1 =>
        have H := HA.out
        clear HA
        simp only [fascicleref05_Stuff.l0] at H
        by_cases c3 : x6_1 < (all_.size : Int)
        · rw [if_pos c3] at H
          have c3b0 : decide (x6_1 < (all_.size : Int)) = true := decide_eq_true c3
          clear c3
          by_cases c4 : 0 ≤ x6_1
          · rw [if_pos c4] at H
            have c4b0 : decide (0 ≤ x6_1) = true := decide_eq_true c4
            clear c4
            by_cases c6 : (bt all_ x6_1) = 0
            · rw [if_pos c6] at H
              have c6b0 : ((bt all_ x6_1) == 0) = true := beq_iff_eq.mpr c6
              have c6b1 : ((bt all_ x6_1) != 0) = false := bne_eq_false_iff_eq.mpr c6
              clear c6
              have HC7 := Aside0.mk H
              clear H
              have p5 : 0 ≤ (x6_1 : Int) := of_decide_eq_true (by first | (with_reducible assumption) | assumption)
              have q5 : x6_1 < (all_.size : Int) := of_decide_eq_true (by first | (with_reducible assumption) | assumption)
              have hx5 := bt_at all_ x6_1
              replace p5 := eq_true p5
              replace q5 := eq_true q5
              go_upto_region 8 with (fail)
              go_cut [38] (fun v38 wc => ∃ (kq : Nat) (x38_6 : Bool), v38 = .bool x38_6 ∧ Aside0 (fascicleref05_Stuff.j1 kq all_ x4_1 x5_1 x6_1 x38_6 = some r) ∧ Aside0 (kq ≤ k1) ∧ Aside0 (Below w.heap.size w wc))
              case first =>
                have H := HC7.out
                clear HC7
                by_cases c8 : x6_1 = (wrap64 ((all_.size : Int) - 1))
                · rw [if_pos c8] at H
                  have c8b0 : (x6_1 == (wrap64 ((all_.size : Int) - 1))) = true := beq_iff_eq.mpr c8
                  have c8b1 : (x6_1 != (wrap64 ((all_.size : Int) - 1))) = false := bne_eq_false_iff_eq.mpr c8
                  clear c8
                  (first | rw [c8b0] | (simp only [i64_w, i32_w]; rw [c8b0]) | skip)
                  by_cases c9 : x5_1.toList = ([] : List UInt8)
                  · rw [if_pos c9] at H
                    have c9b0 : (x5_1.toList == ([] : List UInt8)) = true := beq_iff_eq.mpr c9
                    have c9b1 : (x5_1.toList != ([] : List UInt8)) = false := bne_eq_false_iff_eq.mpr c9
                    clear c9
                    by_cases c10 : x6_1 > 0
                    · rw [if_pos c10] at H
                      have c10b0 : decide (0 < x6_1) = true := decide_eq_true c10
                      clear c10
                      obtain ⟨ji11, hji11⟩ : ∃ j_ : Int, (wrap64 (x6_1 - 1)) = j_ := ⟨_, rfl⟩
                      replace H : (if 0 ≤ (ji11) then (if (ji11) < (all_.size : Int) then (fascicleref05_Stuff.j1 k1 all_ x4_1 x5_1 x6_1 ((bt all_ (ji11)) != 0)) else (none)) else (none)) = some r := by first | (rw [hji11] at H; exact H) | (simp only [hji11] at H ⊢; exact H)
                      have hji11w : (IntKind.i64.wrap (x6_1 - 1)) = ji11 := (i64_w _).trans hji11
                      by_cases c12 : 0 ≤ (ji11)
                      · rw [if_pos c12] at H
                        have c12b0 : decide (0 ≤ (ji11)) = true := decide_eq_true c12
                        clear c12
                        by_cases c13 : (ji11) < (all_.size : Int)
                        · rw [if_pos c13] at H
                          have c13b0 : decide ((ji11) < (all_.size : Int)) = true := decide_eq_true c13
                          clear c13
                          have H' := Aside0.mk H
                          clear H
                          have p14 : 0 ≤ ((ji11) : Int) := of_decide_eq_true (by first | (with_reducible assumption) | assumption)
                          have q14 : (ji11) < (all_.size : Int) := of_decide_eq_true (by first | (with_reducible assumption) | assumption)
                          have hx14 := bt_at all_ (ji11)
                          replace p14 := eq_true p14
                          replace q14 := eq_true q14
                          go_wp2
                          go_meet
                          case rel => exact ⟨_, (((bt all_ (ji11)) != 0)), (by first | rfl | (simp; done) | (simp only [← hji11] <;> (first | rfl | simp)) | (simp [*]; done)), H', ⟨by have := HK1.out; first | omega | exact Nat.le_refl _⟩, ⟨by repeat (first | (with_reducible first | exact HB.out | apply below_alloc | apply pw_below_drewN | apply below_drew1) | exact HB.out)⟩⟩
                        · rw [if_neg c13] at H
                          exact absurd H (by simp)
                      · rw [if_neg c12] at H
                        exact absurd H (by simp)
                    · rw [if_neg c10] at H
                      have c10b0 : decide (0 < x6_1) = false := decide_eq_false c10
                      clear c10
                      have H' := Aside0.mk H
                      clear H
                      go_wp2
                      go_meet
                      case rel => exact ⟨_, (false), (by first | rfl | (simp; done) | (simp [*]; done)), H', ⟨by have := HK1.out; first | omega | exact Nat.le_refl _⟩, ⟨by repeat (first | (with_reducible first | exact HB.out | apply below_alloc | apply pw_below_drewN | apply below_drew1) | exact HB.out)⟩⟩
                  · rw [if_neg c9] at H
                    have c9b0 : (x5_1.toList == ([] : List UInt8)) = false := beq_eq_false_iff_ne.mpr c9
                    have c9b1 : (x5_1.toList != ([] : List UInt8)) = true := bne_iff_ne.mpr c9
                    have H' := Aside0.mk H
                    clear H
                    go_wp2
                    go_meet
                    case rel => exact ⟨_, (false), (by first | rfl | (simp; done) | (simp [*]; done)), H', ⟨by have := HK1.out; first | omega | exact Nat.le_refl _⟩, ⟨by repeat (first | (with_reducible first | exact HB.out | apply below_alloc | apply pw_below_drewN | apply below_drew1) | exact HB.out)⟩⟩
                · rw [if_neg c8] at H
                  have c8b0 : (x6_1 == (wrap64 ((all_.size : Int) - 1))) = false := beq_eq_false_iff_ne.mpr c8
                  have c8b1 : (x6_1 != (wrap64 ((all_.size : Int) - 1))) = true := bne_iff_ne.mpr c8
                  (first | rw [c8b0] | (simp only [i64_w, i32_w]; rw [c8b0]) | skip)
                  have H' := Aside0.mk H
                  clear H
                  go_wp2
                  go_meet
                  case rel => exact ⟨_, (false), (by first | rfl | (simp; done) | (simp [*]; done)), H', ⟨by have := HK1.out; first | omega | exact Nat.le_refl _⟩, ⟨by repeat (first | (with_reducible first | exact HB.out | apply below_alloc | apply pw_below_drewN | apply below_drew1) | exact HB.out)⟩⟩
              case rest =>
                clear HC7
                try clear c1
                try clear p1
                try clear q1
                try clear hx1
                try clear c2
                try clear c2b0
                try clear c2b1
                try clear c2b2
                try clear p2
                try clear c3
                try clear c3b0
                try clear c4
                try clear c4b0
                try clear p5
                try clear q5
                try clear hx5
                try clear c6
                try clear c6b0
                try clear c6b1
                try clear p6
                try clear c8
                try clear c8b0
                try clear c8b1
                try clear c9
                try clear c9b0
                try clear c9b1
                try clear c10
                try clear c10b0
                try clear c12
                try clear c12b0
                try clear c13
                try clear c13b0
                try clear p14
                try clear q14
                try clear hx14
                try clear p14
                try clear p2
                try clear p5
                try clear q14
                try clear q5
                obtain ⟨kq, x38_6, rfl, HA, HJ6, HB⟩ := hcut
                cases kq with
                | zero => exact absurd HA.out (by simp [fascicleref05_Stuff.j1])
                | succ kj6 =>
                  have H := HA.out
                  clear HA
                  simp only [fascicleref05_Stuff.j1] at H
                  by_cases c15 : x38_6 = true
                  · subst c15
                    have H1 : (some x4_1) = some r := by rw [if_pos rfl] at H; exact H
                    clear H
                    have H := H1
                    clear H1
                    obtain rfl := Option.some.inj H
                    go_wp2
                    go_ret
                    exact ⟨by first | rfl | (simp [errW_none, errW_some] <;> rfl) | (simp [*, errW_none, errW_some] <;> rfl), by repeat (first | (with_reducible first | exact HB.out | apply below_alloc | apply pw_below_drewN | apply below_drew1) | exact HB.out)⟩
                  · replace c15 := Bool.eq_false_iff.mpr c15
                    subst c15
                    have H1 : ((some (([(wrap64 ((x5_1.size : Int) + 1)) % 256] : List Int) : List Int)).bind fun y311 => (if x4_1.size + (strOfNums y311).size ≤ 9223372036854775807 then (if (x4_1 ++ (strOfNums y311)).size + x5_1.size ≤ 9223372036854775807 then (fascicleref05_Stuff.l0 kj6 all_ ((x4_1 ++ (strOfNums y311)) ++ x5_1) (⟨#[]⟩ : ByteArray) (wrap64 (x6_1 + 1))) else (none)) else (none))) = some r := by rw [if_neg (show ¬ (false = true) by decide)] at H; exact H
                    clear H
                    have H := H1
                    clear H1
                    obtain ⟨y311, hy311⟩ : ∃ y_ : List Int, y_ = (([(wrap64 ((x5_1.size : Int) + 1)) % 256] : List Int)) := ⟨_, rfl⟩
                    replace H : (if x4_1.size + (strOfNums y311).size ≤ 9223372036854775807 then (if (x4_1 ++ (strOfNums y311)).size + x5_1.size ≤ 9223372036854775807 then (fascicleref05_Stuff.l0 kj6 all_ ((x4_1 ++ (strOfNums y311)) ++ x5_1) (⟨#[]⟩ : ByteArray) (wrap64 (x6_1 + 1))) else (none)) else (none)) = some r := by first | (rw [hy311]; with_reducible exact H) | (have H2_ := (Option.bind_some _ _).symm.trans H; rw [hy311]; with_reducible exact H2_) | (have H2_ := (Option.bind_some _ _).symm.trans H; with_reducible exact H2_) | with_reducible exact H | (rw [hy311]; exact H) | exact H
                    have Ny311 := Aside0.mk hy311
                    clear hy311
                    by_cases c16 : x4_1.size + (strOfNums y311).size ≤ 9223372036854775807
                    · rw [if_pos c16] at H
                      have c16b0 := eq_true c16
                      have c16b1 : decide (x4_1.size + (strOfNums y311).size ≤ 9223372036854775807) = true := decide_eq_true c16
                      try have c16b2 : (9223372036854775807 < x4_1.size + (strOfNums y311).size) = False := eq_false (Nat.not_lt.2 c16)
                      obtain ⟨ys1, hys1⟩ : ∃ y_ : ByteArray, (x4_1 ++ (strOfNums y311)) = y_ := ⟨_, rfl⟩
                      (try simp only [hys1] at H)
                      by_cases c17 : ys1.size + x5_1.size ≤ 9223372036854775807
                      · rw [if_pos c17] at H
                        have c17b0 := eq_true c17
                        have c17b1 : decide (ys1.size + x5_1.size ≤ 9223372036854775807) = true := decide_eq_true c17
                        try have c17b2 : (9223372036854775807 < ys1.size + x5_1.size) = False := eq_false (Nat.not_lt.2 c17)
                        have H' := Aside0.mk H
                        clear H
                        go_wp2_with (first | ((with_reducible refine gate_dst (N := 44) rfl ?_); refine Kd.R_lit (Kd.int .u8) _ 5 ?hg (N := 44) ?hd (xs := ([(wrap64 ((x5_1.size : Int) + 1)) % 256] : List Int)) (inner := [.int .u8 ((wrap64 ((x5_1.size : Int) + 1)) % 256)]) (ok := fun _ => True) (okp := fun _ => True) ?hr ?hp (fun _ hk => hk) trivial (Below.refl _ _) (Nat.le_refl _) (by simp) ?_; (case hd => rfl); (case hg => rfl); (case hr => first | (go_simp; done) | (go_simp; rfl)); (case hp => exact (Reps.one (show Kd.M (Kd.int .u8) _ _ _ ((wrap64 ((x5_1.size : Int) + 1)) % 256) [.int .u8 ((wrap64 ((x5_1.size : Int) + 1)) % 256)] from rfl) (Reps.none _ _))); intro v312 w18 ho19 hb hg_ hnew_; clear hg_ hnew_; (first | rw [← Ny311.out] at ho19 | (simp only [Int.reduceToNat] at ho19; rw [← Ny311.out] at ho19)); have n0_ := Aside0.mk (Kd.R_lower ho19 (below_size (by repeat (first | (with_reducible first | exact HB.out | apply below_alloc | apply pw_below_drewN | apply below_drew1) | exact HB.out)))); have n1_ := Aside0.mk (below_step (by repeat (first | (with_reducible first | exact HB.out | apply below_alloc | apply pw_below_drewN | apply below_drew1) | exact HB.out)) hb); clear HB; have HO313 := n0_; have HB := n1_; clear n0_ n1_; clear hb ho19; have hcv20 := own_string (P := Try.prog) Try.underlying22 Try.underlying5 Try.underlying9 (Kd.own_of_R HO313.out)))
                        subst hys1
                        go_roundg kj6
                        case measure => have := HK1.out; have := HJ6.out; omega
                        case rel => exact ⟨((x4_1 ++ (strOfNums y311)) ++ x5_1), ((⟨#[]⟩ : ByteArray)), (wrap64 (x6_1 + 1)), (by first | rfl | (simp; done) | (simp [*]; done)), (by first | rfl | (simp; done) | (simp [*]; done)), (by first | rfl | (simp; done) | (simp [*]; done)), H', ⟨by have := HK1.out; have := HJ6.out; omega⟩, ⟨by repeat (first | (with_reducible first | exact HB.out | apply below_alloc | apply pw_below_drewN | apply below_drew1) | exact HB.out)⟩⟩
                      · rw [if_neg c17] at H
                        exact absurd H (by simp)
                    · rw [if_neg c16] at H
                      exact absurd H (by simp)
            · rw [if_neg c6] at H
              have c6b0 : ((bt all_ x6_1) == 0) = false := beq_eq_false_iff_ne.mpr c6
              have c6b1 : ((bt all_ x6_1) != 0) = true := bne_iff_ne.mpr c6
              have c21b0 := eq_true (of_decide_eq_true (by first | (with_reducible assumption) | assumption) : 0 ≤ x6_1)
              by_cases c22 : x6_1 ≤ (wrap64 (x6_1 + 1))
              · rw [if_pos c22] at H
                have c22b0 := eq_true c22
                have c22b1 : decide (x6_1 ≤ (wrap64 (x6_1 + 1))) = true := decide_eq_true c22
                by_cases c23 : (wrap64 (x6_1 + 1)) ≤ (all_.size : Int)
                · rw [if_pos c23] at H
                  have c23b0 := eq_true c23
                  have c23b1 : decide ((wrap64 (x6_1 + 1)) ≤ (all_.size : Int)) = true := decide_eq_true c23
                  obtain ⟨ys2, hys2⟩ : ∃ y_ : ByteArray, (all_.extract (x6_1 : Int).toNat ((wrap64 (x6_1 + 1)) : Int).toNat) = y_ := ⟨_, rfl⟩
                  (try simp only [hys2] at H)
                  by_cases c24 : x5_1.size + ys2.size ≤ 9223372036854775807
                  · rw [if_pos c24] at H
                    have c24b0 := eq_true c24
                    have c24b1 : decide (x5_1.size + ys2.size ≤ 9223372036854775807) = true := decide_eq_true c24
                    try have c24b2 : (9223372036854775807 < x5_1.size + ys2.size) = False := eq_false (Nat.not_lt.2 c24)
                    obtain ⟨ys3, hys3⟩ : ∃ y_ : ByteArray, (x5_1 ++ ys2) = y_ := ⟨_, rfl⟩
                    (try simp only [hys3] at H)
                    by_cases c25 : (ys3.size : Int) = 254
                    · rw [if_pos c25] at H
                      have c25b0 : ((ys3.size : Int) == 254) = true := beq_iff_eq.mpr c25
                      have c25b1 : ((ys3.size : Int) != 254) = false := bne_eq_false_iff_eq.mpr c25
                      clear c25
                      by_cases c26 : x4_1.size + 1 ≤ 9223372036854775807
                      · rw [if_pos c26] at H
                        have c26b0 := eq_true c26
                        have c26b1 : decide (x4_1.size + 1 ≤ 9223372036854775807) = true := decide_eq_true c26
                        try have c26b2 : (9223372036854775807 < x4_1.size + 1) = False := eq_false (Nat.not_lt.2 c26)
                        obtain ⟨ys4, hys4⟩ : ∃ y_ : ByteArray, (x4_1 ++ (⟨#[255]⟩ : ByteArray)) = y_ := ⟨_, rfl⟩
                        (try simp only [hys4] at H)
                        by_cases c27 : ys4.size + ys3.size ≤ 9223372036854775807
                        · rw [if_pos c27] at H
                          have c27b0 := eq_true c27
                          have c27b1 : decide (ys4.size + ys3.size ≤ 9223372036854775807) = true := decide_eq_true c27
                          try have c27b2 : (9223372036854775807 < ys4.size + ys3.size) = False := eq_false (Nat.not_lt.2 c27)
                          have H' := Aside0.mk H
                          clear H
                          have p5 : 0 ≤ (x6_1 : Int) := of_decide_eq_true (by first | (with_reducible assumption) | assumption)
                          have q5 : x6_1 < (all_.size : Int) := of_decide_eq_true (by first | (with_reducible assumption) | assumption)
                          have hx5 := bt_at all_ x6_1
                          replace p5 := eq_true p5
                          replace q5 := eq_true q5
                          go_wp2
                          subst hys4
                          subst hys3
                          subst hys2
                          go_roundg k1
                          case measure => have := HK1.out; omega
                          case rel => exact ⟨((x4_1 ++ (⟨#[255]⟩ : ByteArray)) ++ (x5_1 ++ (all_.extract (x6_1 : Int).toNat ((wrap64 (x6_1 + 1)) : Int).toNat))), ((⟨#[]⟩ : ByteArray)), (wrap64 (x6_1 + 1)), (by first | rfl | (simp; done) | (simp [*]; done)), (by first | rfl | (simp; done) | (simp [*]; done)), (by first | rfl | (simp; done) | (simp [*]; done)), H', ⟨by have := HK1.out; omega⟩, ⟨by repeat (first | (with_reducible first | exact HB.out | apply below_alloc | apply pw_below_drewN | apply below_drew1) | exact HB.out)⟩⟩
                        · rw [if_neg c27] at H
                          exact absurd H (by simp)
                      · rw [if_neg c26] at H
                        exact absurd H (by simp)
                    · rw [if_neg c25] at H
                      have c25b0 : ((ys3.size : Int) == 254) = false := beq_eq_false_iff_ne.mpr c25
                      have c25b1 : ((ys3.size : Int) != 254) = true := bne_iff_ne.mpr c25
                      have H' := Aside0.mk H
                      clear H
                      have p5 : 0 ≤ (x6_1 : Int) := of_decide_eq_true (by first | (with_reducible assumption) | assumption)
                      have q5 : x6_1 < (all_.size : Int) := of_decide_eq_true (by first | (with_reducible assumption) | assumption)
                      have hx5 := bt_at all_ x6_1
                      replace p5 := eq_true p5
                      replace q5 := eq_true q5
                      go_wp2
                      subst hys3
                      subst hys2
                      go_roundg k1
                      case measure => have := HK1.out; omega
                      case rel => exact ⟨(x4_1), (x5_1 ++ (all_.extract (x6_1 : Int).toNat ((wrap64 (x6_1 + 1)) : Int).toNat)), (wrap64 (x6_1 + 1)), (by first | rfl | (simp; done) | (simp [*]; done)), (by first | rfl | (simp; done) | (simp [*]; done)), (by first | rfl | (simp; done) | (simp [*]; done)), H', ⟨by have := HK1.out; omega⟩, ⟨by repeat (first | (with_reducible first | exact HB.out | apply below_alloc | apply pw_below_drewN | apply below_drew1) | exact HB.out)⟩⟩
                  · rw [if_neg c24] at H
                    exact absurd H (by simp)
                · rw [if_neg c23] at H
                  exact absurd H (by simp)
              · rw [if_neg c22] at H
                exact absurd H (by simp)
          · rw [if_neg c4] at H
            exact absurd H (by simp)
        · rw [if_neg c3] at H
          have c3b0 : decide (x6_1 < (all_.size : Int)) = false := decide_eq_false c3
          clear c3
          obtain rfl := Option.some.inj H
          go_wp2
          go_ret
          exact ⟨by first | rfl | (simp [errW_none, errW_some] <;> rfl) | (simp [*, errW_none, errW_some] <;> rfl), by repeat (first | (with_reducible first | exact HB.out | apply below_alloc | apply pw_below_drewN | apply below_drew1) | exact HB.out)⟩
  · rw [if_neg c2] at H
    exact absurd H (by simp)

/-! ### fascicleref05_Unstuff: function 32 -/
mutual
def fascicleref05_Unstuff.l0 : Nat → ByteArray → Int → Option (ByteArray × Int)
  | 0, _, _ => none
  | k + 1, x0, x4 => if x4 < (x0.size : Int) then (if 0 ≤ x4 then (if (bt x0 x4) = 0 then (some ((⟨#[]⟩ : ByteArray), 4)) else (fascicleref05_Unstuff.l0 k x0 (wrap64 (x4 + 1)))) else (none)) else (if x0.toList = ([] : List UInt8) then (some ((⟨#[]⟩ : ByteArray), 2)) else (fascicleref05_Unstuff.l1 k x0 (⟨#[]⟩ : ByteArray) x0))
def fascicleref05_Unstuff.l1 : Nat → ByteArray → ByteArray → ByteArray → Option (ByteArray × Int)
  | 0, _, _, _ => none
  | k + 1, x0, x5, x6 => if x6.toList = ([] : List UInt8) then ((fascicleref05_Stuff.f k x5).bind fun t314 => (if t314.toList = x0.toList then (some (x5, 0)) else (some ((⟨#[]⟩ : ByteArray), 4)))) else (if 0 < (x6.size : Int) then (if (wrap64 (bt x6 0)) > (x6.size : Int) then (some ((⟨#[]⟩ : ByteArray), 2)) else (if 1 ≤ (wrap64 (bt x6 0)) then (if (wrap64 (bt x6 0)) ≤ (x6.size : Int) then (if x5.size + (x6.extract 1 ((wrap64 (bt x6 0)) : Int).toNat).size ≤ 9223372036854775807 then (if 0 ≤ (wrap64 (bt x6 0)) then (if (wrap64 (bt x6 0)) < 255 then (if (x6.extract ((wrap64 (bt x6 0)) : Int).toNat x6.size).toList = ([] : List UInt8) then (fascicleref05_Unstuff.l1 k x0 (x5 ++ (x6.extract 1 ((wrap64 (bt x6 0)) : Int).toNat)) (x6.extract ((wrap64 (bt x6 0)) : Int).toNat x6.size)) else (if (x5 ++ (x6.extract 1 ((wrap64 (bt x6 0)) : Int).toNat)).size + 1 ≤ 9223372036854775807 then (fascicleref05_Unstuff.l1 k x0 ((x5 ++ (x6.extract 1 ((wrap64 (bt x6 0)) : Int).toNat)) ++ (⟨#[0]⟩ : ByteArray)) (x6.extract ((wrap64 (bt x6 0)) : Int).toNat x6.size)) else (none))) else (fascicleref05_Unstuff.l1 k x0 (x5 ++ (x6.extract 1 ((wrap64 (bt x6 0)) : Int).toNat)) (x6.extract ((wrap64 (bt x6 0)) : Int).toNat x6.size))) else (none)) else (none)) else (none)) else (none))) else (none))
end
def fascicleref05_Unstuff.f (k : Nat) (a0 : ByteArray) : Option (ByteArray × Int) := fascicleref05_Unstuff.l0 k a0 0
theorem fascicleref05_Unstuff.mono_l : ∀ k, (∀ y0 y1, LeO (fascicleref05_Unstuff.l0 k y0 y1) (fascicleref05_Unstuff.l0 (k + 1) y0 y1)) ∧ (∀ y0 y1 y2, LeO (fascicleref05_Unstuff.l1 k y0 y1 y2) (fascicleref05_Unstuff.l1 (k + 1) y0 y1 y2))
  | 0 => ⟨fun _ _ r h => by simp [fascicleref05_Unstuff.l0] at h, fun _ _ _ r h => by simp [fascicleref05_Unstuff.l1] at h⟩
  | k + 1 => by
    obtain ⟨ih0, ih1⟩ := fascicleref05_Unstuff.mono_l k
    refine ⟨?_, ?_⟩
    · intro y0 y1
      unfold fascicleref05_Unstuff.l0
      repeat' first
      | (with_reducible exact ih0 _ _)
      | (with_reducible exact ih1 _ _ _)
      | (with_reducible exact fascicleref05_Stuff.mono _ _)
      | (with_reducible exact LeO.refl _)
      | (with_reducible exact LeO.none _)
      | (with_reducible refine LeO.ite ?_ ?_)
      | (with_reducible refine LeO.bind ?_ (fun _ => ?_))
      | exact ih0 _ _
      | exact ih1 _ _ _
      | exact fascicleref05_Stuff.mono _ _
      | exact LeO.none _
      | refine LeO.ite ?_ ?_
      | refine LeO.bind ?_ (fun _ => ?_)
    · intro y0 y1 y2
      unfold fascicleref05_Unstuff.l1
      repeat' first
      | (with_reducible exact ih0 _ _)
      | (with_reducible exact ih1 _ _ _)
      | (with_reducible exact fascicleref05_Stuff.mono _ _)
      | (with_reducible exact LeO.refl _)
      | (with_reducible exact LeO.none _)
      | (with_reducible refine LeO.ite ?_ ?_)
      | (with_reducible refine LeO.bind ?_ (fun _ => ?_))
      | exact ih0 _ _
      | exact ih1 _ _ _
      | exact fascicleref05_Stuff.mono _ _
      | exact LeO.none _
      | refine LeO.ite ?_ ?_
      | refine LeO.bind ?_ (fun _ => ?_)
theorem fascicleref05_Unstuff.mono : ∀ a0 k, LeO (fascicleref05_Unstuff.f k a0) (fascicleref05_Unstuff.f (k + 1) a0) := by
  intro a0 k
  obtain ⟨ih0, ih1⟩ := fascicleref05_Unstuff.mono_l k
  unfold fascicleref05_Unstuff.f
  repeat' first
      | (with_reducible exact ih0 _ _)
      | (with_reducible exact ih1 _ _ _)
      | (with_reducible exact fascicleref05_Stuff.mono _ _)
      | (with_reducible exact LeO.refl _)
      | (with_reducible exact LeO.none _)
      | (with_reducible refine LeO.ite ?_ ?_)
      | (with_reducible refine LeO.bind ?_ (fun _ => ?_))
      | exact ih0 _ _
      | exact ih1 _ _ _
      | exact fascicleref05_Stuff.mono _ _
      | exact LeO.none _
      | refine LeO.ite ?_ ?_
      | refine LeO.bind ?_ (fun _ => ?_)
set_option maxHeartbeats 8000000 in
set_option maxRecDepth 100000 in
theorem fascicleref05_Unstuff.calls (k : Nat) (a0 : ByteArray) (r1 : ByteArray) (r2 : Int) (w : World) (h : fascicleref05_Unstuff.f k a0 = some (r1, r2)) :
    Calls Try.prog 32 #[.string a0] w fun e w' => e = .returned (.tuple #[.string r1, .int .i64 r2]) ∧ Below w.heap.size w w' := by
  have HB := Aside0.mk (Below.refl w.heap.size w)
  have H : (fascicleref05_Unstuff.l0 k a0 0) = some (r1, r2) := h
  clear h
  have H' := Aside0.mk H
  clear H
  go_enter Try.func32, Try.ntmps32
  go_wp2
  go_loopg [4] k (fun kq v4 w' => ∃ (x4_1 : Int), v4 = .int .i64 x4_1 ∧ Aside0 (fascicleref05_Unstuff.l0 kq a0 x4_1 = some (r1, r2)) ∧ Aside0 (kq ≤ k) ∧ Aside0 (Below w.heap.size w w'))
  case atStart => exact ⟨(0), (by first | rfl | (simp; done) | (simp [*]; done)), H', ⟨Nat.le_refl _⟩, ⟨by repeat (first | (with_reducible first | exact HB.out | apply below_alloc | apply pw_below_drewN | apply below_drew1) | exact HB.out)⟩⟩
  case round =>
    clear H'
    obtain ⟨x4_1, rfl, HA, HK1, HB⟩ := hrel
    cases gk with
    | zero => exact absurd HA.out (by simp [fascicleref05_Unstuff.l0])
    | succ k1 =>
      have H := HA.out
      clear HA
      simp only [fascicleref05_Unstuff.l0] at H
      by_cases c2 : x4_1 < (a0.size : Int)
      · rw [if_pos c2] at H
        have c2b0 : decide (x4_1 < (a0.size : Int)) = true := decide_eq_true c2
        clear c2
        by_cases c3 : 0 ≤ x4_1
        · rw [if_pos c3] at H
          have c3b0 : decide (0 ≤ x4_1) = true := decide_eq_true c3
          clear c3
          by_cases c5 : (bt a0 x4_1) = 0
          · rw [if_pos c5] at H
            have c5b0 : ((bt a0 x4_1) == 0) = true := beq_iff_eq.mpr c5
            have c5b1 : ((bt a0 x4_1) != 0) = false := bne_eq_false_iff_eq.mpr c5
            clear c5
            simp only [Option.some.injEq, Prod.mk.injEq] at H
            obtain ⟨rfl, rfl⟩ := H
            have p4 : 0 ≤ (x4_1 : Int) := of_decide_eq_true (by first | (with_reducible assumption) | assumption)
            have q4 : x4_1 < (a0.size : Int) := of_decide_eq_true (by first | (with_reducible assumption) | assumption)
            have hx4 := bt_at a0 x4_1
            replace p4 := eq_true p4
            replace q4 := eq_true q4
            go_wp2
            go_ret2
            exact ⟨by first | rfl | (simp [errW_none, errW_some] <;> rfl) | (simp [*, errW_none, errW_some] <;> rfl), by repeat (first | (with_reducible first | exact HB.out | apply below_alloc | apply pw_below_drewN | apply below_drew1) | exact HB.out)⟩
          · rw [if_neg c5] at H
            have c5b0 : ((bt a0 x4_1) == 0) = false := beq_eq_false_iff_ne.mpr c5
            have c5b1 : ((bt a0 x4_1) != 0) = true := bne_iff_ne.mpr c5
            have H' := Aside0.mk H
            clear H
            have p4 : 0 ≤ (x4_1 : Int) := of_decide_eq_true (by first | (with_reducible assumption) | assumption)
            have q4 : x4_1 < (a0.size : Int) := of_decide_eq_true (by first | (with_reducible assumption) | assumption)
            have hx4 := bt_at a0 x4_1
            replace p4 := eq_true p4
            replace q4 := eq_true q4
            go_wp2
            go_roundg k1
            case measure => have := HK1.out; omega
            case rel => exact ⟨(wrap64 (x4_1 + 1)), (by first | rfl | (simp; done) | (simp [*]; done)), H', ⟨by have := HK1.out; omega⟩, ⟨by repeat (first | (with_reducible first | exact HB.out | apply below_alloc | apply pw_below_drewN | apply below_drew1) | exact HB.out)⟩⟩
        · rw [if_neg c3] at H
          exact absurd H (by simp)
      · rw [if_neg c2] at H
        have c2b0 : decide (x4_1 < (a0.size : Int)) = false := decide_eq_false c2
        clear c2
        by_cases c6 : a0.toList = ([] : List UInt8)
        · rw [if_pos c6] at H
          have c6b0 : (a0.toList == ([] : List UInt8)) = true := beq_iff_eq.mpr c6
          have c6b1 : (a0.toList != ([] : List UInt8)) = false := bne_eq_false_iff_eq.mpr c6
          clear c6
          simp only [Option.some.injEq, Prod.mk.injEq] at H
          obtain ⟨rfl, rfl⟩ := H
          go_wp2
          go_ret2
          exact ⟨by first | rfl | (simp [errW_none, errW_some] <;> rfl) | (simp [*, errW_none, errW_some] <;> rfl), by repeat (first | (with_reducible first | exact HB.out | apply below_alloc | apply pw_below_drewN | apply below_drew1) | exact HB.out)⟩
        · rw [if_neg c6] at H
          have c6b0 : (a0.toList == ([] : List UInt8)) = false := beq_eq_false_iff_ne.mpr c6
          have c6b1 : (a0.toList != ([] : List UInt8)) = true := bne_iff_ne.mpr c6
          have H' := Aside0.mk H
          clear H
          go_wp2
          go_loopg [5, 6] k1 (fun kq v5 v6 w' => ∃ (x5_2 : ByteArray) (x6_2 : ByteArray), v5 = .string x5_2 ∧ v6 = .string x6_2 ∧ Aside0 (fascicleref05_Unstuff.l1 kq a0 x5_2 x6_2 = some (r1, r2)) ∧ Aside0 (kq ≤ k1) ∧ Aside0 (Below w.heap.size w w'))
          case atStart => exact ⟨((⟨#[]⟩ : ByteArray)), (a0), (by first | rfl | (simp; done) | (simp [*]; done)), (by first | rfl | (simp; done) | (simp [*]; done)), H', ⟨Nat.le_refl _⟩, ⟨by repeat (first | (with_reducible first | exact HB.out | apply below_alloc | apply pw_below_drewN | apply below_drew1) | exact HB.out)⟩⟩
          case round =>
            clear H'
            try clear c2
            try clear c2b0
            try clear p2
            try clear c3
            try clear c3b0
            try clear p4
            try clear q4
            try clear hx4
            try clear c5
            try clear c5b0
            try clear c5b1
            try clear c6
            try clear c6b0
            try clear c6b1
            try clear p6
            try clear p4
            try clear q4
            obtain ⟨x5_2, x6_2, rfl, rfl, HA, HK2, HB⟩ := hrel
            cases gk with
            | zero => exact absurd HA.out (by simp [fascicleref05_Unstuff.l1])
            | succ k2 =>
              have H := HA.out
              clear HA
              simp only [fascicleref05_Unstuff.l1] at H
              by_cases c7 : x6_2.toList = ([] : List UInt8)
              · rw [if_pos c7] at H
                have c7b0 : (x6_2.toList == ([] : List UInt8)) = true := beq_iff_eq.mpr c7
                have c7b1 : (x6_2.toList != ([] : List UInt8)) = false := bne_eq_false_iff_eq.mpr c7
                clear c7
                replace H := Option.bind_eq_some_iff.mp H
                obtain ⟨t314, A80, H⟩ := H
                replace H : (if t314.toList = a0.toList then (some (x5_2, 0)) else (some ((⟨#[]⟩ : ByteArray), 4))) = some (r1, r2) := H
                have A8 := Aside0.mk A80
                clear A80
                by_cases c9 : t314.toList = a0.toList
                · rw [if_pos c9] at H
                  have c9b0 : (t314.toList == a0.toList) = true := beq_iff_eq.mpr c9
                  have c9b1 : (t314.toList != a0.toList) = false := bne_eq_false_iff_eq.mpr c9
                  clear c9
                  simp only [Option.some.injEq, Prod.mk.injEq] at H
                  obtain ⟨rfl, rfl⟩ := H
                  go_wp2_with (first | ((with_reducible refine gate_callee (f := 33) rfl ?_); refine goesL_ (some 47) rfl rfl Try.func33 (by kernel_rfl) rfl #[.string x5_2] rfl (by (try simp only [List.map_toArray, List.map_cons, List.map_nil]); first | done | rfl | (simp only [List.length_drop, List.length_take]; rfl)) ?_; (with_reducible refine (fascicleref05_Stuff.calls k2 x5_2 t314 _ A8.out).mono ?_); rintro e w10 ⟨rfl, hb⟩; refine ⟨_, rfl, ?_⟩; have n0_ := Aside0.mk (below_step (by repeat (first | (with_reducible first | exact HB.out | apply below_alloc | apply pw_below_drewN | apply below_drew1) | exact HB.out)) hb); clear HB; have HB := n0_; clear n0_; (try clear hb); (try clear hb2); (try clear hk); (try clear hi)))
                  go_ret2
                  exact ⟨by first | rfl | (simp [errW_none, errW_some] <;> rfl) | (simp [*, errW_none, errW_some] <;> rfl), by repeat (first | (with_reducible first | exact HB.out | apply below_alloc | apply pw_below_drewN | apply below_drew1) | exact HB.out)⟩
                · rw [if_neg c9] at H
                  have c9b0 : (t314.toList == a0.toList) = false := beq_eq_false_iff_ne.mpr c9
                  have c9b1 : (t314.toList != a0.toList) = true := bne_iff_ne.mpr c9
                  simp only [Option.some.injEq, Prod.mk.injEq] at H
                  obtain ⟨rfl, rfl⟩ := H
                  go_wp2_with (first | ((with_reducible refine gate_callee (f := 33) rfl ?_); refine goesL_ (some 47) rfl rfl Try.func33 (by kernel_rfl) rfl #[.string x5_2] rfl (by (try simp only [List.map_toArray, List.map_cons, List.map_nil]); first | done | rfl | (simp only [List.length_drop, List.length_take]; rfl)) ?_; (with_reducible refine (fascicleref05_Stuff.calls k2 x5_2 t314 _ A8.out).mono ?_); rintro e w11 ⟨rfl, hb⟩; refine ⟨_, rfl, ?_⟩; have n0_ := Aside0.mk (below_step (by repeat (first | (with_reducible first | exact HB.out | apply below_alloc | apply pw_below_drewN | apply below_drew1) | exact HB.out)) hb); clear HB; have HB := n0_; clear n0_; (try clear hb); (try clear hb2); (try clear hk); (try clear hi)))
                  go_ret2
                  exact ⟨by first | rfl | (simp [errW_none, errW_some] <;> rfl) | (simp [*, errW_none, errW_some] <;> rfl), by repeat (first | (with_reducible first | exact HB.out | apply below_alloc | apply pw_below_drewN | apply below_drew1) | exact HB.out)⟩
              · rw [if_neg c7] at H
                have c7b0 : (x6_2.toList == ([] : List UInt8)) = false := beq_eq_false_iff_ne.mpr c7
                have c7b1 : (x6_2.toList != ([] : List UInt8)) = true := bne_iff_ne.mpr c7
                by_cases c12 : 0 < (x6_2.size : Int)
                · rw [if_pos c12] at H
                  have c12b0 : decide (0 < (x6_2.size : Int)) = true := decide_eq_true c12
                  have c12b1 : decide (0 < x6_2.size) = true := decide_eq_true (by omega)
                  clear c12
                  by_cases c14 : (wrap64 (bt x6_2 0)) > (x6_2.size : Int)
                  · rw [if_pos c14] at H
                    have c14b0 : decide ((x6_2.size : Int) < (wrap64 (bt x6_2 0))) = true := decide_eq_true c14
                    clear c14
                    simp only [Option.some.injEq, Prod.mk.injEq] at H
                    obtain ⟨rfl, rfl⟩ := H
                    have p13 : 0 ≤ (0 : Int) := (by omega)
                    have q13 : 0 < x6_2.size := (by have : (0 : Int) < (x6_2.size : Int) := of_decide_eq_true (by first | (with_reducible assumption) | assumption); omega)
                    have hx13 : ∀ h : 0 < x6_2.size, ((x6_2[0]'h).toNat : Int) = bt x6_2 0 := bt_at x6_2 0
                    clear p13
                    have qi13 : (0 < (x6_2.size : Int)) = True := eq_true (of_decide_eq_true (by first | (with_reducible assumption) | assumption))
                    replace q13 := eq_true q13
                    go_wp2
                    go_ret2
                    exact ⟨by first | rfl | (simp [errW_none, errW_some] <;> rfl) | (simp [*, errW_none, errW_some] <;> rfl), by repeat (first | (with_reducible first | exact HB.out | apply below_alloc | apply pw_below_drewN | apply below_drew1) | exact HB.out)⟩
                  · rw [if_neg c14] at H
                    have c14b0 : decide ((x6_2.size : Int) < (wrap64 (bt x6_2 0))) = false := decide_eq_false c14
                    clear c14
                    by_cases c15 : 1 ≤ (wrap64 (bt x6_2 0))
                    · rw [if_pos c15] at H
                      have c15b0 := eq_true c15
                      have c15b1 : decide (1 ≤ (wrap64 (bt x6_2 0))) = true := decide_eq_true c15
                      clear c15
                      by_cases c16 : (wrap64 (bt x6_2 0)) ≤ (x6_2.size : Int)
                      · rw [if_pos c16] at H
                        have c16b0 := eq_true c16
                        have c16b1 : decide ((wrap64 (bt x6_2 0)) ≤ (x6_2.size : Int)) = true := decide_eq_true c16
                        clear c16
                        by_cases c17 : x5_2.size + (x6_2.extract 1 ((wrap64 (bt x6_2 0)) : Int).toNat).size ≤ 9223372036854775807
                        · rw [if_pos c17] at H
                          have c17b0 := eq_true c17
                          have c17b1 : decide (x5_2.size + (x6_2.extract 1 ((wrap64 (bt x6_2 0)) : Int).toNat).size ≤ 9223372036854775807) = true := decide_eq_true c17
                          try have c17b2 : (9223372036854775807 < x5_2.size + (x6_2.extract 1 ((wrap64 (bt x6_2 0)) : Int).toNat).size) = False := eq_false (Nat.not_lt.2 c17)
                          obtain ⟨ji18, hji18⟩ : ∃ j_ : Int, (wrap64 (bt x6_2 0)) = j_ := ⟨_, rfl⟩
                          replace H : (if 0 ≤ (ji18) then (if (ji18) < 255 then (if (x6_2.extract ((ji18) : Int).toNat x6_2.size).toList = ([] : List UInt8) then (fascicleref05_Unstuff.l1 k2 a0 (x5_2 ++ (x6_2.extract 1 ((ji18) : Int).toNat)) (x6_2.extract ((ji18) : Int).toNat x6_2.size)) else (if (x5_2 ++ (x6_2.extract 1 ((ji18) : Int).toNat)).size + 1 ≤ 9223372036854775807 then (fascicleref05_Unstuff.l1 k2 a0 ((x5_2 ++ (x6_2.extract 1 ((ji18) : Int).toNat)) ++ (⟨#[0]⟩ : ByteArray)) (x6_2.extract ((ji18) : Int).toNat x6_2.size)) else (none))) else (fascicleref05_Unstuff.l1 k2 a0 (x5_2 ++ (x6_2.extract 1 ((ji18) : Int).toNat)) (x6_2.extract ((ji18) : Int).toNat x6_2.size))) else (none)) = some (r1, r2) := by first | (rw [hji18] at H; exact H) | (simp only [hji18] at H ⊢; exact H)
                          (try rw [hji18] at c14b0)
                          (try rw [hji18] at c15b0)
                          (try rw [hji18] at c15b1)
                          (try rw [hji18] at c16b0)
                          (try rw [hji18] at c16b1)
                          (try rw [hji18] at c17b0)
                          (try rw [hji18] at c17b1)
                          (try rw [hji18] at c17)
                          have hji18w : (IntKind.i64.wrap (bt x6_2 0)) = ji18 := (i64_w _).trans hji18
                          by_cases c19 : 0 ≤ (ji18)
                          · rw [if_pos c19] at H
                            have c19b0 := eq_true c19
                            have c19b1 : decide (0 ≤ (ji18)) = true := decide_eq_true c19
                            clear c19
                            have c20b0 := eq_true (of_decide_eq_true (by first | (with_reducible assumption) | assumption) : (ji18) ≤ (x6_2.size : Int))
                            by_cases c21 : (ji18) < 255
                            · rw [if_pos c21] at H
                              have c21b0 : decide ((ji18) < 255) = true := decide_eq_true c21
                              clear c21
                              by_cases c22 : (x6_2.extract ((ji18) : Int).toNat x6_2.size).toList = ([] : List UInt8)
                              · rw [if_pos c22] at H
                                have c22b0 : ((x6_2.extract ((ji18) : Int).toNat x6_2.size).toList == ([] : List UInt8)) = true := beq_iff_eq.mpr c22
                                have c22b1 : ((x6_2.extract ((ji18) : Int).toNat x6_2.size).toList != ([] : List UInt8)) = false := bne_eq_false_iff_eq.mpr c22
                                clear c22
                                have H' := Aside0.mk H
                                clear H
                                have p13 : 0 ≤ (0 : Int) := (by omega)
                                have q13 : 0 < x6_2.size := (by have : (0 : Int) < (x6_2.size : Int) := of_decide_eq_true (by first | (with_reducible assumption) | assumption); omega)
                                have hx13 : ∀ h : 0 < x6_2.size, ((x6_2[0]'h).toNat : Int) = bt x6_2 0 := bt_at x6_2 0
                                clear p13
                                have qi13 : (0 < (x6_2.size : Int)) = True := eq_true (of_decide_eq_true (by first | (with_reducible assumption) | assumption))
                                replace q13 := eq_true q13
                                go_wp2
                                go_roundg k2
                                case measure => have := HK1.out; have := HK2.out; omega
                                case rel => exact ⟨(x5_2 ++ (x6_2.extract 1 ((ji18) : Int).toNat)), (x6_2.extract ((ji18) : Int).toNat x6_2.size), (by first | rfl | (simp; done) | (simp only [← hji18] <;> (first | rfl | simp)) | (simp [*]; done)), (by first | rfl | (simp; done) | (simp only [← hji18] <;> (first | rfl | simp)) | (simp [*]; done)), H', ⟨by have := HK1.out; have := HK2.out; omega⟩, ⟨by repeat (first | (with_reducible first | exact HB.out | apply below_alloc | apply pw_below_drewN | apply below_drew1) | exact HB.out)⟩⟩
                              · rw [if_neg c22] at H
                                have c22b0 : ((x6_2.extract ((ji18) : Int).toNat x6_2.size).toList == ([] : List UInt8)) = false := beq_eq_false_iff_ne.mpr c22
                                have c22b1 : ((x6_2.extract ((ji18) : Int).toNat x6_2.size).toList != ([] : List UInt8)) = true := bne_iff_ne.mpr c22
                                obtain ⟨ys1, hys1⟩ : ∃ y_ : ByteArray, (x5_2 ++ (x6_2.extract 1 ((ji18) : Int).toNat)) = y_ := ⟨_, rfl⟩
                                (try simp only [hys1] at H)
                                by_cases c23 : ys1.size + 1 ≤ 9223372036854775807
                                · rw [if_pos c23] at H
                                  have c23b0 := eq_true c23
                                  have c23b1 : decide (ys1.size + 1 ≤ 9223372036854775807) = true := decide_eq_true c23
                                  try have c23b2 : (9223372036854775807 < ys1.size + 1) = False := eq_false (Nat.not_lt.2 c23)
                                  have H' := Aside0.mk H
                                  clear H
                                  have p13 : 0 ≤ (0 : Int) := (by omega)
                                  have q13 : 0 < x6_2.size := (by have : (0 : Int) < (x6_2.size : Int) := of_decide_eq_true (by first | (with_reducible assumption) | assumption); omega)
                                  have hx13 : ∀ h : 0 < x6_2.size, ((x6_2[0]'h).toNat : Int) = bt x6_2 0 := bt_at x6_2 0
                                  clear p13
                                  have qi13 : (0 < (x6_2.size : Int)) = True := eq_true (of_decide_eq_true (by first | (with_reducible assumption) | assumption))
                                  replace q13 := eq_true q13
                                  go_wp2
                                  subst hys1
                                  go_roundg k2
                                  case measure => have := HK1.out; have := HK2.out; omega
                                  case rel => exact ⟨((x5_2 ++ (x6_2.extract 1 ((ji18) : Int).toNat)) ++ (⟨#[0]⟩ : ByteArray)), (x6_2.extract ((ji18) : Int).toNat x6_2.size), (by first | rfl | (simp; done) | (simp only [← hji18] <;> (first | rfl | simp)) | (simp [*]; done)), (by first | rfl | (simp; done) | (simp only [← hji18] <;> (first | rfl | simp)) | (simp [*]; done)), H', ⟨by have := HK1.out; have := HK2.out; omega⟩, ⟨by repeat (first | (with_reducible first | exact HB.out | apply below_alloc | apply pw_below_drewN | apply below_drew1) | exact HB.out)⟩⟩
                                · rw [if_neg c23] at H
                                  exact absurd H (by simp)
                            · rw [if_neg c21] at H
                              have c21b0 : decide ((ji18) < 255) = false := decide_eq_false c21
                              clear c21
                              have H' := Aside0.mk H
                              clear H
                              have p13 : 0 ≤ (0 : Int) := (by omega)
                              have q13 : 0 < x6_2.size := (by have : (0 : Int) < (x6_2.size : Int) := of_decide_eq_true (by first | (with_reducible assumption) | assumption); omega)
                              have hx13 : ∀ h : 0 < x6_2.size, ((x6_2[0]'h).toNat : Int) = bt x6_2 0 := bt_at x6_2 0
                              clear p13
                              have qi13 : (0 < (x6_2.size : Int)) = True := eq_true (of_decide_eq_true (by first | (with_reducible assumption) | assumption))
                              replace q13 := eq_true q13
                              go_wp2
                              go_roundg k2
                              case measure => have := HK1.out; have := HK2.out; omega
                              case rel => exact ⟨(x5_2 ++ (x6_2.extract 1 ((ji18) : Int).toNat)), (x6_2.extract ((ji18) : Int).toNat x6_2.size), (by first | rfl | (simp; done) | (simp only [← hji18] <;> (first | rfl | simp)) | (simp [*]; done)), (by first | rfl | (simp; done) | (simp only [← hji18] <;> (first | rfl | simp)) | (simp [*]; done)), H', ⟨by have := HK1.out; have := HK2.out; omega⟩, ⟨by repeat (first | (with_reducible first | exact HB.out | apply below_alloc | apply pw_below_drewN | apply below_drew1) | exact HB.out)⟩⟩
                          · rw [if_neg c19] at H
                            exact absurd H (by simp)
                        · rw [if_neg c17] at H
                          exact absurd H (by simp)
                      · rw [if_neg c16] at H
                        exact absurd H (by simp)
                    · rw [if_neg c15] at H
                      exact absurd H (by simp)
                · rw [if_neg c12] at H
                  exact absurd H (by simp)

end Go.Proofs.Ytdpghobknhkikaa.G
