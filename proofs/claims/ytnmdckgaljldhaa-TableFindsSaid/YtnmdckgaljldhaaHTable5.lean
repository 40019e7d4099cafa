/- table: slices.Compact where no two neighbours are alike. -/
import Derived.Test.YtnmdckgaljldhaaHTable4
set_option linter.unusedVariables false
set_option linter.unusedSimpArgs false
namespace Go.Proofs.Ytnmdckgaljldhaa.Tb
open Go Go.RowKit Go.Proofs.YtnmdckgaljldhaaW.PrintWords Go.Proofs.YtnmdckgaljldhaaW.PrintLast Go.Proofs.YtnmdckgaljldhaaW.PrintMore Go.Proofs.Ytnmdckgaljldhaa.Sep Go.Proofs.Ytnmdckgaljldhaa.G
set_option maxHeartbeats 4000000
set_option maxRecDepth 100000

theorem compact_plain (A : Option Addr) (c : Nat) (l : List E1) (w : World) (hC : kE.C w A l.length l) (hl : l.length ≤ 1000000) (hd : ∀ i : Nat, 1 ≤ i → i < l.length → rd_T81 l (i : Int) ≠ rd_T81 l ((i : Int) - 1)) :
    Calls Try.prog 87 #[.slice A l.length c] w fun r w' => r = .returned (.slice A l.length c) ∧ Drawn0 w w' := by
  have hCA := Aside0.mk hC
  have hlA := Aside0.mk hl
  have hdA := Aside0.mk hd
  clear hC hl hd
  by_cases h2 : l.length < 2
  · have e1 : decide ((l.length : Int) < 2) = true := decide_eq_true (by omega)
    have e2 : decide (l.length < 2) = true := decide_eq_true h2
    clear h2
    go_enter Try.func87, Try.ntmps87
    go_wp2_with (fail)
    go_ret
    exact ⟨rfl, Drawn0.refl _⟩
  · have e1 : decide ((l.length : Int) < 2) = false := decide_eq_false (by omega)
    have e2 : decide (l.length < 2) = false := decide_eq_false h2
    have h2A := Aside0.mk h2
    clear h2
    go_enter Try.func87, Try.ntmps87
    go_wp2_with (fail)
    go_loopg [3] l.length (fun kq v3 w' => ∃ (i : Nat), v3 = .int .i64 (i : Int) ∧ Aside0 (i + kq = l.length + 1 ∧ 1 ≤ i) ∧ Drawn0 w w')
    case atStart => exact ⟨1, rfl, ⟨by omega⟩, Drawn0.refl _⟩
    case round =>
      obtain ⟨i, rfl, hA, ⟨m1, rfl⟩⟩ := hrel
      by_cases hil : i < l.length
      · obtain ⟨k1, rfl⟩ : ∃ k1, gk = k1 + 1 := ⟨gk - 1, by have := hA.out; omega⟩
        have he : decide ((i : Int) < (l.length : Int)) = true := decide_eq_true (by omega)
        have he2 : decide (i < l.length) = true := decide_eq_true hil
        have h1i := hA.out.2
        have hA' : Aside0 (i + 1 + k1 = l.length + 1 ∧ 1 ≤ i + 1) := ⟨by have := hA.out; omega⟩
        have hw0 : wrap64 ((i : Int) - 1) = (i : Int) - 1 := by unfold wrap64; have := hlA.out; omega
        obtain ⟨z, hz⟩ : ∃ z, wrap64 ((i : Int) - 1) = z := ⟨_, rfl⟩
        have hzi : z = (i : Int) - 1 := hz.symm.trans hw0
        have hzw : IntKind.i64.wrap ((i : Int) - 1) = z := (i64_w _).trans hz
        clear hw0
        have hne := hdA.out i h1i hil
        rw [← hzi] at hne
        have p0 : (0 : Int) ≤ (i : Int) := by omega
        have q0 : (i : Int) < (l.length : Int) := by omega
        have p1 : (0 : Int) ≤ z := by omega
        have q1 : z < (l.length : Int) := by omega
        have hw1 : wrap64 ((i : Int) + 1) = ((i + 1 : Nat) : Int) := by unfold wrap64; have := hlA.out; omega
        obtain ⟨ad, ea, hx0, hx1⟩ := at_T81 hCA.out (i : Int) p0 q0
        obtain ⟨ad2, eb, hy0, hy1⟩ := at_T81 hCA.out (z) p1 q1
        subst ea
        cases eb
        rw [Int.toNat_natCast] at hx0 hx1
        have hb : ((rd_T81 l (i : Int)).f0 = (rd_T81 l z).f0) = False ∨ ((rd_T81 l (i : Int)).f0 = (rd_T81 l z).f0) = True ∧ ((rd_T81 l (i : Int)).f1 = (rd_T81 l z).f1) = False := by
          revert hne
          cases rd_T81 l (i : Int); cases rd_T81 l z
          intro hne
          rename_i a b c d
          by_cases h1 : a = c
          · refine .inr ⟨eq_true h1, eq_false fun h2 => hne (by rw [show a = c from h1, show b = d from h2])⟩
          · exact .inl (eq_false h1)
        replace p0 := eq_true p0
        replace q0 := eq_true q0
        replace p1 := eq_true p1
        replace q1 := eq_true q1
        clear hne h1i hil hzi
        rcases hb with hb0 | ⟨hb0, hb1⟩
        · skip
          go_wp2_with (fail)
          refine start_ (n := 10) (S := fun w' => w'.cell? (ad.add (i * 2)) = some (.int .u64 (rd_T81 l (i : Int)).f0) ∧ w'.cell? ⟨(ad.add (i * 2)).block, (ad.add (i * 2)).off + 1, none⟩ = some (.int .u32 (rd_T81 l (i : Int)).f1) ∧ w'.cell? (ad.add (z.toNat * 2)) = some (.int .u64 (rd_T81 l z).f0) ∧ w'.cell? ⟨(ad.add (z.toNat * 2)).block, (ad.add (z.toNat * 2)).off + 1, none⟩ = some (.int .u32 (rd_T81 l z).f1) ∧ ((rd_T81 l (i : Int)).f0 = (rd_T81 l z).f0) = False) (ds := []) #[false, false, false, false, false, false, false, false, false, false] (by kernel_rfl) rfl rfl ⟨hx0, hx1, hy0, hy1, hb0⟩ (fun hHeld => ?_)
          refine pure_ (i := 0) (N := some 16) (v := ?_) (a' := ?_) #[true, false, false, false, false, false, false, false, false, false] rfl rfl (by kernel_rfl) (fun _ _ _ h => h) (Or.inl ⟨by rfl, ?_⟩) ?_ ?_
          rotate_left
          · intro w'
            go_simp
            with_reducible rfl
          rotate_left
          · simp only [Act.put, List.setIfInBounds_toArray, List.set_cons_zero, List.set_cons_succ, i64_w, i32_w]
            rfl
          refine pure_ (i := 1) (N := some 17) (v := ?_) (a' := ?_) #[true, true, false, false, false, false, false, false, false, false] rfl rfl (by kernel_rfl) (fun _ _ _ h => h) (Or.inl ⟨by rfl, ?_⟩) ?_ ?_
          rotate_left
          · intro w'
            go_simp
            with_reducible rfl
          rotate_left
          · simp only [Act.put, List.setIfInBounds_toArray, List.set_cons_zero, List.set_cons_succ, i64_w, i32_w]
            rfl
          refine pure_ (i := 2) (N := some 18) (v := ?_) (a' := ?_) #[true, true, true, false, false, false, false, false, false, false] rfl rfl (by kernel_rfl) (fun _ _ _ h => h) (Or.inl ⟨by rfl, ?_⟩) ?_ ?_
          rotate_left
          · intro w'
            go_simp
            with_reducible rfl
          rotate_left
          · simp only [Act.put, List.setIfInBounds_toArray, List.set_cons_zero, List.set_cons_succ, i64_w, i32_w]
            rfl
          refine pure_ (i := 4) (N := some 20) (v := ?_) (a' := ?_) #[true, true, true, false, true, false, false, false, false, false] rfl rfl (by kernel_rfl) (fun _ _ _ h => h) (Or.inl ⟨by rfl, ?_⟩) ?_ ?_
          rotate_left
          · intro w'
            go_simp
            with_reducible rfl
          rotate_left
          · simp only [Act.put, List.setIfInBounds_toArray, List.set_cons_zero, List.set_cons_succ, i64_w, i32_w]
            rfl
          refine pure_ (i := 5) (N := some 21) (v := ?_) (a' := ?_) #[true, true, true, false, true, true, false, false, false, false] rfl rfl (by kernel_rfl) (fun _ _ _ h => h) (Or.inl ⟨by rfl, ?_⟩) ?_ ?_
          rotate_left
          · intro w'
            go_simp
            with_reducible rfl
          rotate_left
          · simp only [Act.put, List.setIfInBounds_toArray, List.set_cons_zero, List.set_cons_succ, i64_w, i32_w]
            rfl
          refine pure_ (i := 6) (N := some 22) (v := ?_) (a' := ?_) #[true, true, true, false, true, true, true, false, false, false] rfl rfl (by kernel_rfl) (fun _ _ _ h => h) (Or.inl ⟨by rfl, ?_⟩) ?_ ?_
          rotate_left
          · intro w'
            go_simp
            with_reducible rfl
          rotate_left
          · simp only [Act.put, List.setIfInBounds_toArray, List.set_cons_zero, List.set_cons_succ, i64_w, i32_w]
            rfl
          refine pure_ (i := 7) (N := some 23) (v := ?_) (a' := ?_) #[true, true, true, false, true, true, true, true, false, false] rfl rfl (by kernel_rfl) (fun _ _ _ h => h) (Or.inl ⟨by rfl, ?_⟩) ?_ ?_
          rotate_left
          · intro w'
            go_simp
            with_reducible rfl
          rotate_left
          · simp only [Act.put, List.setIfInBounds_toArray, List.set_cons_zero, List.set_cons_succ, i64_w, i32_w]
            rfl
          refine take_ (i := 3) (N := some 19) (v := ?_) (a' := ?_) #[true, true, true, true, true, true, true, true, false, false] rfl rfl (by kernel_rfl) (fun _ _ _ h => h) (Or.inl ⟨by rfl, ?_⟩) hHeld ?_ ?_
          rotate_left
          · rintro w' ⟨s0, s1, s2, s3, s4⟩
            go_simp
            with_reducible rfl
          rotate_left
          · simp only [Act.put, List.setIfInBounds_toArray, List.set_cons_zero, List.set_cons_succ, i64_w, i32_w]
            rfl
          refine take_ (i := 8) (N := some 24) (v := ?_) (a' := ?_) #[true, true, true, true, true, true, true, true, true, false] rfl rfl (by kernel_rfl) (fun _ _ _ h => h) (Or.inl ⟨by rfl, ?_⟩) hHeld ?_ ?_
          rotate_left
          · rintro w' ⟨s0, s1, s2, s3, s4⟩
            go_simp
            with_reducible rfl
          rotate_left
          · simp only [Act.put, List.setIfInBounds_toArray, List.set_cons_zero, List.set_cons_succ, i64_w, i32_w]
            rfl
          refine pure_ (i := 9) (N := some 25) (v := ?_) (a' := ?_) #[true, true, true, true, true, true, true, true, true, true] rfl rfl (by kernel_rfl) (fun _ _ _ h => h) (Or.inl ⟨by rfl, ?_⟩) ?_ ?_
          rotate_left
          · intro w'
            go_simp
            with_reducible rfl
          rotate_left
          · simp only [Act.put, List.setIfInBounds_toArray, List.set_cons_zero, List.set_cons_succ, i64_w, i32_w]
            rfl
          refine done_ (by kernel_rfl) ?_
          go_wp2_with (fail)
          go_roundg k1
          case measure => omega
          case rel => exact ⟨i + 1, by first | rw [hw1] | rfl, hA', by repeat (first | exact Drawn0.refl _ | apply Drawn0.step)⟩
        · skip
          go_wp2_with (fail)
          refine start_ (n := 10) (S := fun w' => w'.cell? (ad.add (i * 2)) = some (.int .u64 (rd_T81 l (i : Int)).f0) ∧ w'.cell? ⟨(ad.add (i * 2)).block, (ad.add (i * 2)).off + 1, none⟩ = some (.int .u32 (rd_T81 l (i : Int)).f1) ∧ w'.cell? (ad.add (z.toNat * 2)) = some (.int .u64 (rd_T81 l z).f0) ∧ w'.cell? ⟨(ad.add (z.toNat * 2)).block, (ad.add (z.toNat * 2)).off + 1, none⟩ = some (.int .u32 (rd_T81 l z).f1) ∧ ((rd_T81 l (i : Int)).f0 = (rd_T81 l z).f0) = True ∧ ((rd_T81 l (i : Int)).f1 = (rd_T81 l z).f1) = False) (ds := []) #[false, false, false, false, false, false, false, false, false, false] (by kernel_rfl) rfl rfl ⟨hx0, hx1, hy0, hy1, hb0, hb1⟩ (fun hHeld => ?_)
          refine pure_ (i := 0) (N := some 16) (v := ?_) (a' := ?_) #[true, false, false, false, false, false, false, false, false, false] rfl rfl (by kernel_rfl) (fun _ _ _ h => h) (Or.inl ⟨by rfl, ?_⟩) ?_ ?_
          rotate_left
          · intro w'
            go_simp
            with_reducible rfl
          rotate_left
          · simp only [Act.put, List.setIfInBounds_toArray, List.set_cons_zero, List.set_cons_succ, i64_w, i32_w]
            rfl
          refine pure_ (i := 1) (N := some 17) (v := ?_) (a' := ?_) #[true, true, false, false, false, false, false, false, false, false] rfl rfl (by kernel_rfl) (fun _ _ _ h => h) (Or.inl ⟨by rfl, ?_⟩) ?_ ?_
          rotate_left
          · intro w'
            go_simp
            with_reducible rfl
          rotate_left
          · simp only [Act.put, List.setIfInBounds_toArray, List.set_cons_zero, List.set_cons_succ, i64_w, i32_w]
            rfl
          refine pure_ (i := 2) (N := some 18) (v := ?_) (a' := ?_) #[true, true, true, false, false, false, false, false, false, false] rfl rfl (by kernel_rfl) (fun _ _ _ h => h) (Or.inl ⟨by rfl, ?_⟩) ?_ ?_
          rotate_left
          · intro w'
            go_simp
            with_reducible rfl
          rotate_left
          · simp only [Act.put, List.setIfInBounds_toArray, List.set_cons_zero, List.set_cons_succ, i64_w, i32_w]
            rfl
          refine pure_ (i := 4) (N := some 20) (v := ?_) (a' := ?_) #[true, true, true, false, true, false, false, false, false, false] rfl rfl (by kernel_rfl) (fun _ _ _ h => h) (Or.inl ⟨by rfl, ?_⟩) ?_ ?_
          rotate_left
          · intro w'
            go_simp
            with_reducible rfl
          rotate_left
          · simp only [Act.put, List.setIfInBounds_toArray, List.set_cons_zero, List.set_cons_succ, i64_w, i32_w]
            rfl
          refine pure_ (i := 5) (N := some 21) (v := ?_) (a' := ?_) #[true, true, true, false, true, true, false, false, false, false] rfl rfl (by kernel_rfl) (fun _ _ _ h => h) (Or.inl ⟨by rfl, ?_⟩) ?_ ?_
          rotate_left
          · intro w'
            go_simp
            with_reducible rfl
          rotate_left
          · simp only [Act.put, List.setIfInBounds_toArray, List.set_cons_zero, List.set_cons_succ, i64_w, i32_w]
            rfl
          refine pure_ (i := 6) (N := some 22) (v := ?_) (a' := ?_) #[true, true, true, false, true, true, true, false, false, false] rfl rfl (by kernel_rfl) (fun _ _ _ h => h) (Or.inl ⟨by rfl, ?_⟩) ?_ ?_
          rotate_left
          · intro w'
            go_simp
            with_reducible rfl
          rotate_left
          · simp only [Act.put, List.setIfInBounds_toArray, List.set_cons_zero, List.set_cons_succ, i64_w, i32_w]
            rfl
          refine pure_ (i := 7) (N := some 23) (v := ?_) (a' := ?_) #[true, true, true, false, true, true, true, true, false, false] rfl rfl (by kernel_rfl) (fun _ _ _ h => h) (Or.inl ⟨by rfl, ?_⟩) ?_ ?_
          rotate_left
          · intro w'
            go_simp
            with_reducible rfl
          rotate_left
          · simp only [Act.put, List.setIfInBounds_toArray, List.set_cons_zero, List.set_cons_succ, i64_w, i32_w]
            rfl
          refine take_ (i := 3) (N := some 19) (v := ?_) (a' := ?_) #[true, true, true, true, true, true, true, true, false, false] rfl rfl (by kernel_rfl) (fun _ _ _ h => h) (Or.inl ⟨by rfl, ?_⟩) hHeld ?_ ?_
          rotate_left
          · rintro w' ⟨s0, s1, s2, s3, s4, s5⟩
            go_simp
            with_reducible rfl
          rotate_left
          · simp only [Act.put, List.setIfInBounds_toArray, List.set_cons_zero, List.set_cons_succ, i64_w, i32_w]
            rfl
          refine take_ (i := 8) (N := some 24) (v := ?_) (a' := ?_) #[true, true, true, true, true, true, true, true, true, false] rfl rfl (by kernel_rfl) (fun _ _ _ h => h) (Or.inl ⟨by rfl, ?_⟩) hHeld ?_ ?_
          rotate_left
          · rintro w' ⟨s0, s1, s2, s3, s4, s5⟩
            go_simp
            with_reducible rfl
          rotate_left
          · simp only [Act.put, List.setIfInBounds_toArray, List.set_cons_zero, List.set_cons_succ, i64_w, i32_w]
            rfl
          refine pure_ (i := 9) (N := some 25) (v := ?_) (a' := ?_) #[true, true, true, true, true, true, true, true, true, true] rfl rfl (by kernel_rfl) (fun _ _ _ h => h) (Or.inl ⟨by rfl, ?_⟩) ?_ ?_
          rotate_left
          · intro w'
            go_simp
            with_reducible rfl
          rotate_left
          · simp only [Act.put, List.setIfInBounds_toArray, List.set_cons_zero, List.set_cons_succ, i64_w, i32_w]
            rfl
          refine done_ (by kernel_rfl) ?_
          go_wp2_with (fail)
          go_roundg k1
          case measure => omega
          case rel => exact ⟨i + 1, by first | rw [hw1] | rfl, hA', by repeat (first | exact Drawn0.refl _ | apply Drawn0.step)⟩
      · have he : decide ((i : Int) < (l.length : Int)) = false := decide_eq_false (by omega)
        have he2 : decide (i < l.length) = false := decide_eq_false hil
        clear hil
        go_wp2_with (fail)
        go_ret
        exact ⟨rfl, ⟨m1, rfl⟩⟩
end Go.Proofs.Ytnmdckgaljldhaa.Tb
