/- fasciclelaw09.FrameSeals, walked. -/
import Derived.Test.YtekanmieppnpeaaHLives09
import Derived.Test.YtekanmieppnpeaaLFrame
set_option linter.unusedVariables false
set_option linter.unusedSimpArgs false
namespace Go.Proofs.Ytekanmieppnpeaa.G
open Go Go.RowKit Go.Proofs.YtekanmieppnpeaaW.PrintWords Go.Proofs.YtekanmieppnpeaaW.PrintLast Go.Proofs.YtekanmieppnpeaaW.PrintMore Go.Proofs.Ytekanmieppnpeaa.PureKit Go.Proofs.Ytekanmieppnpeaa.Sep Go.Proofs.Ytekanmieppnpeaa.Rol Go.Proofs.Ytekanmieppnpeaa.LCobs

theorem size_eq (n : Nat) (h : n ≤ 1000) : frame_Size.f (n : Int) = some ((n : Int) + 8 + 1 + ((n + 7 : Nat) : Int) / 254 + 1) := by
  unfold frame_Size.f
  rw [show mx 0 (n : Int) = (n : Int) by unfold mx; split <;> omega, w64 (by omega) (by omega), most_f _ (by omega) (by omega), Option.bind_some, show ((n : Int) + 8).toNat - 1 = n + 7 by omega, w64 (by omega) (by omega)]
theorem size_neg : frame_Size.f (-1) = some 10 := by decide +kernel
theorem size_zero : frame_Size.f 0 = some 10 := by decide +kernel
def fasciclelaw09_FrameSeals.f (l0 : List Int) : Option Bool := if wbytesOK l0 = true then some true else none
def fasciclelaw09_FrameSeals.Pure : Prop := ∀ (l0 : List Int), l0.length ≤ maxLen → l0.length * 1 ≤ 140737488351232 → (∀ y ∈ l0, ((Lit.int .u8 y).wf = true)) → fasciclelaw09_FrameSeals.f l0 = some true

set_option maxHeartbeats 8000000 in
set_option maxRecDepth 100000 in
theorem frame_seals (w : World) (A : Option Addr) (c : Nat) (l : List Int) (hC : Kd.C (Kd.int .u8) w A l.length l) (hc : l.length ≤ c) (hb : Bytes l) :
    Calls Try.prog 7 #[.slice A l.length c] w fun e w' => e = .returned (.bool true) ∧ Below w.heap.size w w' := by
  have hCA := Aside0.mk hC
  have hcA := Aside0.mk hc
  have hmax := Aside0.mk (Kd.C_max hC)
  clear hC hc
  go_enter Try.func7, Try.ntmps7
  by_cases hl : 600 < l.length
  · have hd : decide ((l.length : Int) > 600) = true := decide_eq_true (by omega)
    go_wp2_with (fail)
    refine (fasciclelaw09_lives.calls true _ lives09).mono ?_
    rintro e w1 ⟨rfl, hb1⟩
    have hB1 := Aside0.mk hb1
    clear hb1
    go_wp2_with (fail)
    refine (fasciclelaw09_lives.calls true _ lives09).mono ?_
    rintro e w2 ⟨rfl, hb2⟩
    have hB2 := Aside0.mk (below_step hB1.out hb2)
    clear hb2
    go_wp2_with (fail)
    go_ret
    exact ⟨rfl, hB2.out⟩
  · have hd : decide ((l.length : Int) > 600) = false := decide_eq_false (by omega)
    have hlA : Aside0 (l.length ≤ 600) := ⟨by omega⟩
    clear hl
    go_wp2_with (fail)
    refine (fasciclelaw09_lives.calls true _ lives09).mono ?_
    rintro e w1 ⟨rfl, hb1⟩
    have hS1 := Aside0.mk ((Sep.start w).below hb1)
    clear hb1
    go_upto_region 4 with (first | ((with_reducible refine gate_dst (N := 17) rfl ?_); refine Kd.R_lit (Kd.int .u8) _ 5 ?hg (N := 17) ?hd (xs := ([] : List Int)) (inner := []) (ok := fun _ => True) (okp := fun _ => True) ?hr ?hp (fun _ hk => hk) trivial (Below.refl _ _) (Nat.le_refl _) (by simp) ?_; (case hd => rfl); (case hg => rfl); (case hr => first | (go_simp; done) | (go_simp; rfl)); (case hp => exact (Reps.none _ _)); intro v17 w2 ho2 hb2 hg_ hnew_; clear hg_ hnew_; have ho2 := Aside0.mk ho2; have hb2 := Aside0.mk hb2) | ((with_reducible refine gate_builtin (b := .append) (xs := #[.tmp 17, .tmp 18]) rfl ?_); at_builtin; refine Kd.R_append_rows (Kd.int .u8) (w0 := w1) w1.heap.size rfl (.tmp 17) (.tmp 18) 39 5 (.int .u8 0) 1 rfl Try.underlying39 finfo8 rfl (by decide) (by omega) v17 [] l _ _ _ (fun _ => True) (fun _ => False) rfl rfl ?aO ?aR (fun _ _ h => h) (fun _ h => h.elim) ?aF ?aB ?aS ?aL ?_; (case aO => exact ho2.out); (case aR => exact Kd.C_below (Kd.C_below hCA.out hS1.out.1) hb2.out); (case aF => exact (fun _ _ => trivial)); (case aB => exact hb2.out); (case aS => exact hb2.out.size); (case aL => have := hlA.out; simp; omega); intro v3 w3 ho3 hb3 hg3 hat3; rw [List.nil_append] at ho3; obtain ⟨A3, c3, e3⟩ := Kd.R_slice ho3; subst e3; have hS3 := Aside0.mk (Sep.row_new hS1.out hb3 ho3); have hr3 := Aside0.mk (Kd.R_reads' ho3); clear ho3 hb3 hg3 hat3))
    have hse := frame_seal w3 A3 c3 l.length l rfl hr3.out.2.2 hr3.out.2.1 hb (by have := hlA.out; omega)
    go_wp2_with (fail)
    refine hse.mono ?_
    clear hse
    rintro e w4 ⟨v4, rfl, ho4, hb4⟩
    obtain ⟨A4, c4, rfl⟩ := Kd.R_slice ho4
    have hr4 := Aside0.mk (Kd.R_reads' ho4)
    have hS4 := Aside0.mk (hS3.out.below hb4)
    have hr34 := Aside0.mk (Kd.C_below hr3.out.2.2 hb4)
    obtain ⟨F, hF⟩ : ∃ F, sealed l ++ [0] = F := ⟨_, rfl⟩
    obtain ⟨n, hn⟩ : ∃ n, (sealed l).length = n := ⟨_, rfl⟩
    have hFl : F.length = n + 1 := by rw [← hF, List.length_append, hn]; rfl
    rw [hF] at hr4 ⊢
    obtain ⟨k, hk⟩ := (ref_seal l hb (by have := hlA.out; omega)).rounds
    rw [hF] at hk
    have hsz := size_eq l.length (by have := hlA.out; omega)
    have hle : n + 1 ≤ l.length + 8 + 1 + (l.length + 7) / 254 + 1 := by have := sealed_len l; omega
    have hkA := Aside0.mk hk
    have hFA := Aside0.mk hF
    have hnA := Aside0.mk hn
    have hFlA := Aside0.mk hFl
    have hszA := Aside0.mk hsz
    have hleA := Aside0.mk hle
    clear ho4 hb4 hk hF hn hsz hle
    rw [hFl]
    go_upto_region 5 with (fail)
    have hx4 : Kd.C (Kd.int .u8) w4.drew A4 F.length F := Kd.C_drew hr4.out.2.2
    have hcf : (Go.convert 39 9 (.slice A4 (n + 1) c4)).run Try.prog w4.drew = .ok (.string (strOfNums F)) w4.drew := by rw [← hFl]; exact Kd.C_string (P := Try.prog) (A := A4) (c := c4) Try.underlying39 Try.underlying5 Try.underlying9 (hx4)
    have hcb : (Go.convert 39 9 (.slice A l.length c)).run Try.prog w4.drew = .ok (.string (strOfNums l)) w4.drew := Kd.C_string (P := Try.prog) (A := A) (c := c) Try.underlying39 Try.underlying5 Try.underlying9 (Kd.C_below hCA.out hS4.out.drew.1)
    have hco : (Go.convert 39 9 (.slice A3 l.length c3)).run Try.prog w4.drew = .ok (.string (strOfNums l)) w4.drew := Kd.C_string (P := Try.prog) (A := A3) (c := c3) Try.underlying39 Try.underlying5 Try.underlying9 (Kd.C_drew hr34.out)
    obtain ⟨z, hz⟩ : ∃ z : Int, (l.length : Int) + 8 + 1 + ((l.length + 7 : Nat) : Int) / 254 + 1 = z := ⟨_, rfl⟩
    have hgt : decide (((n : Int) + 1) > z) = false := decide_eq_false (by have := hleA.out; rw [← hz]; omega)
    have hgt2 : decide ((((n + 1 : Nat)) : Int) > z) = false := decide_eq_false (by have := hleA.out; rw [← hz]; omega)
    rw [hz] at hszA
    clear hz hFl
    go_wp2_with (fail)
    refine start_ (n := 21) (S := fun w' => (Go.convert 39 9 (.slice A4 (n + 1) c4)).run Try.prog w' = .ok (.string (strOfNums F)) w' ∧ (Go.convert 39 9 (.slice A l.length c)).run Try.prog w' = .ok (.string (strOfNums l)) w' ∧ (Go.convert 39 9 (.slice A3 l.length c3)).run Try.prog w' = .ok (.string (strOfNums l)) w') (ds := []) #[false, false, false, false, false, false, false, false, false, false, false, false, false, false, false, false, false, false, false, false, false] (by kernel_rfl) rfl rfl ⟨hcf, hcb, hco⟩ (fun hHeld => ?_)
    refine pure_ (i := 0) (N := some 22) (v := ?_) (a' := ?_) #[true, false, false, false, false, false, false, false, false, false, false, false, false, false, false, false, false, false, false, false, false] rfl rfl (by kernel_rfl) (fun _ _ _ h => h) (Or.inl ⟨by rfl, ?_⟩) ?_ ?_
    rotate_left
    · intro w'
      go_simp
      with_reducible rfl
    rotate_left
    · simp only [Act.put, List.setIfInBounds_toArray, List.set_cons_zero, List.set_cons_succ, i64_w, i32_w]
      rfl
    refine pure_ (i := 2) (N := some 24) (v := ?_) (a' := ?_) #[true, false, true, false, false, false, false, false, false, false, false, false, false, false, false, false, false, false, false, false, false] rfl rfl (by kernel_rfl) (fun _ _ _ h => h) (Or.inl ⟨by rfl, ?_⟩) ?_ ?_
    rotate_left
    · intro w'
      go_simp
      with_reducible rfl
    rotate_left
    · simp only [Act.put, List.setIfInBounds_toArray, List.set_cons_zero, List.set_cons_succ, i64_w, i32_w]
      rfl
    refine take_ (i := 1) (N := some 23) (v := ?_) (a' := ?_) #[true, true, true, false, false, false, false, false, false, false, false, false, false, false, false, false, false, false, false, false, false] rfl rfl (by kernel_rfl) (fun _ _ _ h => h) (Or.inl ⟨by rfl, ?_⟩) hHeld ?_ ?_
    rotate_left
    · rintro w' ⟨s0, s1, s2⟩
      go_simp
      with_reducible rfl
    rotate_left
    · simp only [Act.put, List.setIfInBounds_toArray, List.set_cons_zero, List.set_cons_succ, i64_w, i32_w]
      rfl
    refine take_ (i := 3) (N := some 25) (v := ?_) (a' := ?_) #[true, true, true, true, false, false, false, false, false, false, false, false, false, false, false, false, false, false, false, false, false] rfl rfl (by kernel_rfl) (fun _ _ _ h => h) (Or.inl ⟨by rfl, ?_⟩) hHeld ?_ ?_
    rotate_left
    · rintro w' ⟨s0, s1, s2⟩
      go_simp
      with_reducible rfl
    rotate_left
    · simp only [Act.put, List.setIfInBounds_toArray, List.set_cons_zero, List.set_cons_succ, i64_w, i32_w]
      rfl
    refine one_ (i := 4) (N := some 26) #[true, true, true, true, true, false, false, false, false, false, false, false, false, false, false, false, false, false, false, false, false] rfl rfl (by kernel_rfl) (by decide) (fun K hK => ?_)
    refine goes_ Try.func22 (by kernel_rfl) rfl #[.string (strOfNums l)] (by rfl) rfl rfl (by (try simp only [List.map_toArray, List.map_cons, List.map_nil]); first | done | rfl) ?_
    refine (fascicleref09_Seal.calls k (strOfNums l) (strOfNums F) _ hkA.out).mono ?_
    rintro e w5 ⟨rfl, hb5⟩
    refine ⟨_, rfl, ?_⟩
    have hS5 := Aside0.mk (hS4.out.drew.below hb5)
    have hx5 : Kd.C (Kd.int .u8) w5 A4 F.length F := Kd.C_below hx4 hb5
    have hcf5 : (Go.convert 39 9 (.slice A4 (n + 1) c4)).run Try.prog w5 = .ok (.string (strOfNums F)) w5 := by rw [← hFlA.out]; exact Kd.C_string (P := Try.prog) (A := A4) (c := c4) Try.underlying39 Try.underlying5 Try.underlying9 (hx5)
    have hcb5 := Kd.C_string (P := Try.prog) (A := A) (c := c) Try.underlying39 Try.underlying5 Try.underlying9 (Kd.C_below hCA.out hS5.out.1)
    have hy5 : Kd.C (Kd.int .u8) w5 A3 l.length l := Kd.C_below (Kd.C_drew hr34.out) hb5
    have hco5 := Kd.C_string (P := Try.prog) (A := A3) (c := c3) Try.underlying39 Try.underlying5 Try.underlying9 (hy5)
    clear hb5
    refine hK.out _ _ ⟨hcf5, hcb5, hco5⟩ (fun hHeld => ?_)
    clear hK K
    refine norm_ (a' := ?_) ?_ ?_
    rotate_left
    · show Act.put _ (some 26) _ = _
      simp only [Act.put, List.setIfInBounds_toArray, List.set_cons_zero, List.set_cons_succ, i64_w, i32_w]
      rfl
    refine pure_ (i := 5) (N := some 27) (v := ?_) (a' := ?_) #[true, true, true, true, true, true, false, false, false, false, false, false, false, false, false, false, false, false, false, false, false] rfl rfl (by kernel_rfl) (fun _ _ _ h => h) (Or.inl ⟨by rfl, ?_⟩) ?_ ?_
    rotate_left
    · intro w'
      go_simp
      with_reducible rfl
    rotate_left
    · simp only [Act.put, List.setIfInBounds_toArray, List.set_cons_zero, List.set_cons_succ, i64_w, i32_w]
      rfl
    refine pure_ (i := 6) (N := some 28) (v := ?_) (a' := ?_) #[true, true, true, true, true, true, true, false, false, false, false, false, false, false, false, false, false, false, false, false, false] rfl rfl (by kernel_rfl) (fun _ _ _ h => h) (Or.inl ⟨by rfl, ?_⟩) ?_ ?_
    rotate_left
    · intro w'
      go_simp
      with_reducible rfl
    rotate_left
    · simp only [Act.put, List.setIfInBounds_toArray, List.set_cons_zero, List.set_cons_succ, i64_w, i32_w]
      rfl
    refine pure_ (i := 7) (N := some 29) (v := ?_) (a' := ?_) #[true, true, true, true, true, true, true, true, false, false, false, false, false, false, false, false, false, false, false, false, false] rfl rfl (by kernel_rfl) (fun _ _ _ h => h) (Or.inl ⟨by rfl, ?_⟩) ?_ ?_
    rotate_left
    · intro w'
      go_simp
      with_reducible rfl
    rotate_left
    · simp only [Act.put, List.setIfInBounds_toArray, List.set_cons_zero, List.set_cons_succ, i64_w, i32_w]
      rfl
    refine pure_ (i := 9) (N := some 31) (v := ?_) (a' := ?_) #[true, true, true, true, true, true, true, true, false, true, false, false, false, false, false, false, false, false, false, false, false] rfl rfl (by kernel_rfl) (fun _ _ _ h => h) (Or.inl ⟨by rfl, ?_⟩) ?_ ?_
    rotate_left
    · intro w'
      go_simp
      with_reducible rfl
    rotate_left
    · simp only [Act.put, List.setIfInBounds_toArray, List.set_cons_zero, List.set_cons_succ, i64_w, i32_w]
      rfl
    refine take_ (i := 8) (N := some 30) (v := ?_) (a' := ?_) #[true, true, true, true, true, true, true, true, true, true, false, false, false, false, false, false, false, false, false, false, false] rfl rfl (by kernel_rfl) (fun _ _ _ h => h) (Or.inl ⟨by rfl, ?_⟩) hHeld ?_ ?_
    rotate_left
    · rintro w' ⟨s0, s1, s2⟩
      go_simp
      with_reducible rfl
    rotate_left
    · simp only [Act.put, List.setIfInBounds_toArray, List.set_cons_zero, List.set_cons_succ, i64_w, i32_w]
      rfl
    refine take_ (i := 10) (N := some 32) (v := ?_) (a' := ?_) #[true, true, true, true, true, true, true, true, true, true, true, false, false, false, false, false, false, false, false, false, false] rfl rfl (by kernel_rfl) (fun _ _ _ h => h) (Or.inl ⟨by rfl, ?_⟩) hHeld ?_ ?_
    rotate_left
    · rintro w' ⟨s0, s1, s2⟩
      go_simp
      with_reducible rfl
    rotate_left
    · simp only [Act.put, List.setIfInBounds_toArray, List.set_cons_zero, List.set_cons_succ, i64_w, i32_w]
      rfl
    refine pure_ (i := 11) (N := some 33) (v := ?_) (a' := ?_) #[true, true, true, true, true, true, true, true, true, true, true, true, false, false, false, false, false, false, false, false, false] rfl rfl (by kernel_rfl) (fun _ _ _ h => h) (Or.inl ⟨by rfl, ?_⟩) ?_ ?_
    rotate_left
    · intro w'
      go_simp
      with_reducible rfl
    rotate_left
    · simp only [Act.put, List.setIfInBounds_toArray, List.set_cons_zero, List.set_cons_succ, i64_w, i32_w]
      rfl
    refine pure_ (i := 12) (N := some 34) (v := ?_) (a' := ?_) #[true, true, true, true, true, true, true, true, true, true, true, true, true, false, false, false, false, false, false, false, false] rfl rfl (by kernel_rfl) (fun _ _ _ h => h) (Or.inl ⟨by rfl, ?_⟩) ?_ ?_
    rotate_left
    · intro w'
      go_simp
      with_reducible rfl
    rotate_left
    · simp only [Act.put, List.setIfInBounds_toArray, List.set_cons_zero, List.set_cons_succ, i64_w, i32_w]
      rfl
    refine pure_ (i := 13) (N := some 35) (v := ?_) (a' := ?_) #[true, true, true, true, true, true, true, true, true, true, true, true, true, true, false, false, false, false, false, false, false] rfl rfl (by kernel_rfl) (fun _ _ _ h => h) (Or.inl ⟨by rfl, ?_⟩) ?_ ?_
    rotate_left
    · intro w'
      go_simp
      with_reducible rfl
    rotate_left
    · simp only [Act.put, List.setIfInBounds_toArray, List.set_cons_zero, List.set_cons_succ, i64_w, i32_w]
      rfl
    refine pure_ (i := 14) (N := some 36) (v := ?_) (a' := ?_) #[true, true, true, true, true, true, true, true, true, true, true, true, true, true, true, false, false, false, false, false, false] rfl rfl (by kernel_rfl) (fun _ _ _ h => h) (Or.inl ⟨by rfl, ?_⟩) ?_ ?_
    rotate_left
    · intro w'
      go_simp
      with_reducible rfl
    rotate_left
    · simp only [Act.put, List.setIfInBounds_toArray, List.set_cons_zero, List.set_cons_succ, i64_w, i32_w]
      rfl
    refine pure_ (i := 15) (N := some 37) (v := ?_) (a' := ?_) #[true, true, true, true, true, true, true, true, true, true, true, true, true, true, true, true, false, false, false, false, false] rfl rfl (by kernel_rfl) (fun _ _ _ h => h) (Or.inl ⟨by rfl, ?_⟩) ?_ ?_
    rotate_left
    · intro w'
      go_simp
      with_reducible rfl
    rotate_left
    · simp only [Act.put, List.setIfInBounds_toArray, List.set_cons_zero, List.set_cons_succ, i64_w, i32_w]
      rfl
    refine pure_ (i := 16) (N := some 38) (v := ?_) (a' := ?_) #[true, true, true, true, true, true, true, true, true, true, true, true, true, true, true, true, true, false, false, false, false] rfl rfl (by kernel_rfl) (fun _ _ _ h => h) (Or.inl ⟨by rfl, ?_⟩) ?_ ?_
    rotate_left
    · intro w'
      go_simp
      with_reducible rfl
    rotate_left
    · simp only [Act.put, List.setIfInBounds_toArray, List.set_cons_zero, List.set_cons_succ, i64_w, i32_w]
      rfl
    refine pure_ (i := 17) (N := some 39) (v := ?_) (a' := ?_) #[true, true, true, true, true, true, true, true, true, true, true, true, true, true, true, true, true, true, false, false, false] rfl rfl (by kernel_rfl) (fun _ _ _ h => h) (Or.inl ⟨by rfl, ?_⟩) ?_ ?_
    rotate_left
    · intro w'
      go_simp
      with_reducible rfl
    rotate_left
    · simp only [Act.put, List.setIfInBounds_toArray, List.set_cons_zero, List.set_cons_succ, i64_w, i32_w]
      rfl
    refine one_ (i := 18) (N := some 40) #[true, true, true, true, true, true, true, true, true, true, true, true, true, true, true, true, true, true, true, false, false] rfl rfl (by kernel_rfl) (by decide) (fun K hK => ?_)
    refine goes_ Try.func23 (by kernel_rfl) rfl #[.int .i64 (l.length : Int)] (by rfl) rfl rfl (by (try simp only [List.map_toArray, List.map_cons, List.map_nil]); first | done | rfl) ?_
    refine (frame_Size.calls (l.length : Int) z _ hszA.out).mono ?_
    rintro e w6 ⟨rfl, hb6⟩
    refine ⟨_, rfl, ?_⟩
    have hS6 := Aside0.mk (hS5.out.below hb6)
    have hx6 : Kd.C (Kd.int .u8) w6 A4 F.length F := Kd.C_below hx5 hb6
    have hy6 : Kd.C (Kd.int .u8) w6 A3 l.length l := Kd.C_below hy5 hb6
    have hcf6 : (Go.convert 39 9 (.slice A4 (n + 1) c4)).run Try.prog w6 = .ok (.string (strOfNums F)) w6 := by rw [← hFlA.out]; exact Kd.C_string (P := Try.prog) (A := A4) (c := c4) Try.underlying39 Try.underlying5 Try.underlying9 (hx6)
    have hcb6 := Kd.C_string (P := Try.prog) (A := A) (c := c) Try.underlying39 Try.underlying5 Try.underlying9 (Kd.C_below hCA.out hS6.out.1)
    have hco6 := Kd.C_string (P := Try.prog) (A := A3) (c := c3) Try.underlying39 Try.underlying5 Try.underlying9 (hy6)
    clear hb6
    refine hK.out _ _ ⟨hcf6, hcb6, hco6⟩ (fun hHeld => ?_)
    clear hK K
    refine norm_ (a' := ?_) ?_ ?_
    rotate_left
    · show Act.put _ (some 40) _ = _
      simp only [Act.put, List.setIfInBounds_toArray, List.set_cons_zero, List.set_cons_succ, i64_w, i32_w]
      rfl
    refine pure_ (i := 19) (N := some 41) (v := ?_) (a' := ?_) #[true, true, true, true, true, true, true, true, true, true, true, true, true, true, true, true, true, true, true, true, false] rfl rfl (by kernel_rfl) (fun _ _ _ h => h) (Or.inl ⟨by rfl, ?_⟩) ?_ ?_
    rotate_left
    · intro w'
      go_simp
      with_reducible rfl
    rotate_left
    · simp only [Act.put, List.setIfInBounds_toArray, List.set_cons_zero, List.set_cons_succ, i64_w, i32_w]
      rfl
    refine pure_ (i := 20) (N := some 42) (v := ?_) (a' := ?_) #[true, true, true, true, true, true, true, true, true, true, true, true, true, true, true, true, true, true, true, true, true] rfl rfl (by kernel_rfl) (fun _ _ _ h => h) (Or.inl ⟨by rfl, ?_⟩) ?_ ?_
    rotate_left
    · intro w'
      go_simp
      with_reducible rfl
    rotate_left
    · simp only [Act.put, List.setIfInBounds_toArray, List.set_cons_zero, List.set_cons_succ, i64_w, i32_w]
      rfl
    refine done_ (by kernel_rfl) ?_
    have hx6A := Aside0.mk hx6
    have hn700 : n ≤ 700 := by have := hleA.out; have := hlA.out; omega
    have hn7A := Aside0.mk hn700
    have hm1 : wrap64 ((n : Int) + 1 - 1) = (n : Int) := by rw [w64 (by omega) (by omega)]; omega
    have hm2 : wrap64 (((n + 1 : Nat) : Int) - 1) = (n : Int) := by rw [w64 (by omega) (by omega)]; omega
    have hm3 : wrap64 (n : Int) = (n : Int) := w64 (by omega) (by omega)
    clear hcf6 hcb6 hco6 hcf5 hcb5 hco5 hcf hcb hco hgt hgt2 hHeld hx4 hx5 hx6 hy5 hy6 hn700
    go_wp2_with (fail)
    go_loopg [45] (n + 1) (fun kq v45 w' => ∃ j : Nat, v45 = .int .i64 j ∧ Aside0 (j + kq = n + 1) ∧ Drawn0 w6 w')
    case atStart => exact ⟨0, rfl, ⟨by omega⟩, by repeat (first | exact Drawn0.refl _ | apply Drawn0.step)⟩
    case round =>
      obtain ⟨j, rfl, hj, ⟨nd, rfl⟩⟩ := hrel
      have hw1A : Aside0 (wrap64 ((j : Int) + 1) = (j : Int) + 1) := ⟨w64 (by omega) (by have := hj.out; have := hn7A.out; omega)⟩
      by_cases hjn : j < n + 1
      · have hd2 : decide ((j : Int) < (n : Int) + 1) = true := decide_eq_true (by omega)
        have hd3 : decide ((j : Int) < ((n + 1 : Nat) : Int)) = true := decide_eq_true (by omega)
        obtain ⟨k2, rfl⟩ : ∃ k2, gk = k2 + 1 := ⟨gk - 1, by have := hj.out; omega⟩
        have hFj : j < F.length := by rw [hFlA.out]; exact hjn
        obtain ⟨ad, e0, hq⟩ := Kd.at_int (Kd.C_drewN hx6A.out nd) (j : Int) (by omega) (by omega)
        cases e0
        simp only [Int.toNat_natCast] at hq
        rw [rd_at F j hFj] at hq
        obtain ⟨y, hy⟩ : ∃ y, F[j]'hFj = y := ⟨_, rfl⟩
        rw [hy] at hq
        have hyz : (y = 0) ↔ j = n := by
          have h1 : F[j]? = some y := by rw [List.getElem?_eq_getElem hFj, hy]
          rw [← hFA.out] at h1
          by_cases hjl : j = n
          · rw [hjl, List.getElem?_append_right (by rw [hnA.out]; exact Nat.le_refl _), hnA.out, Nat.sub_self] at h1
            exact ⟨fun _ => hjl, fun _ => (Option.some.inj h1).symm⟩
          · rw [List.getElem?_append_left (by rw [hnA.out]; omega)] at h1
            exact ⟨fun h => absurd h (sealed_noz l y (List.mem_of_getElem? h1)), fun h => absurd h hjl⟩
        have p0 : ((0 : Int) ≤ (j : Int)) = True := eq_true (by omega)
        have q0 : ((j : Int) < (n : Int) + 1) = True := eq_true (by omega)
        by_cases hjl : j = n
        · have hy0 : (y == 0) = true := beq_iff_eq.2 (hyz.2 hjl)
          have hjb : ((j : Int) == (n : Int)) = true := beq_iff_eq.2 (by omega)
          have hjb2 : (j == n) = true := beq_iff_eq.2 hjl
          clear hyz hjl hy hFj hjn
          go_wp2_with (fail)
          clear hy0 hjb hjb2 hq p0 q0
          go_roundg k2
          case measure => omega
          case rel => exact ⟨j + 1, by simp; exact hw1A.out, ⟨by have := hj.out; omega⟩, by repeat (first | exact Drawn0.refl _ | apply Drawn0.step)⟩
        · have hy0 : (y == 0) = false := beq_eq_false_iff_ne.2 (fun h => hjl (hyz.1 h))
          have hjb : ((j : Int) == (n : Int)) = false := beq_eq_false_iff_ne.2 (by omega)
          have hjb2 : (j == n) = false := beq_eq_false_iff_ne.2 hjl
          clear hyz hjl hy hFj hjn
          go_wp2_with (fail)
          clear hy0 hjb hjb2 hq p0 q0
          go_roundg k2
          case measure => omega
          case rel => exact ⟨j + 1, by simp; exact hw1A.out, ⟨by have := hj.out; omega⟩, by repeat (first | exact Drawn0.refl _ | apply Drawn0.step)⟩
      · have hje : j = n + 1 := by have := hj.out; omega
        have hd2 : decide ((j : Int) < (n : Int) + 1) = false := decide_eq_false (by omega)
        have hd3 : decide ((j : Int) < ((n + 1 : Nat) : Int)) = false := decide_eq_false (by omega)
        obtain ⟨i0, hi0, _, hsz0, _⟩ := info_parts finfo8
        have hcutT := cut_to (P := Try.prog) 39 5 .i64 Try.underlying39 hi0 A4 (n + 1) c4 (n : Int) (by omega) (by omega) (by have := hr4.out.2.1; have := hFlA.out; omega)
        rw [Int.toNat_natCast] at hcutT
        have hCn := Kd.C_take (m := n) (Kd.C_drewN hx6A.out nd) (by rw [hFlA.out]; omega)
        have hts : F.take n = sealed l := by rw [← hFA.out, ← hnA.out]; exact List.take_left
        rw [hts] at hCn
        have hop := frame_open (w6.drewN nd) A4 c4 n (sealed l) hnA.out.symm hCn (by have := hr4.out.2.1; have := hFlA.out; have := hnA.out; omega) (sealed_bytes l hb) (by have := hnA.out; have := hn7A.out; omega)
        rw [opnb_sealed] at hop
        dsimp only at hop
        have hm7 : (n ≤ c4) = True := eq_true (by have := hr4.out.2.1; have := hFlA.out; omega)
        clear hsz0 hje
        go_wp2_with (fail)
        refine hop.mono ?_
        clear hop
        rintro e w8 ⟨A8, c8, rfl, hC8, hc8, hB8⟩
        have hS8 := Aside0.mk ((hS6.out.drewN nd).below hB8)
        have hcv8 := Kd.C_string (P := Try.prog) (A := A8) (c := c8) Try.underlying39 Try.underlying5 Try.underlying9 (hC8)
        have hcv9 := Kd.C_string (P := Try.prog) (A := A) (c := c) Try.underlying39 Try.underlying5 Try.underlying9 (Kd.C_below hCA.out hS8.out.1)
        clear hB8 hm1 hm2 hm3 hd2 hd3 hcutT hm7
        go_wp2_with (fail)
        refine (frame_Size.calls (-1) 10 _ size_neg).mono ?_
        rintro e w10 ⟨rfl, hb10⟩
        have hS10 := Aside0.mk (hS8.out.below hb10)
        clear hb10
        go_wp2_with (fail)
        refine (frame_Size.calls 0 10 _ size_zero).mono ?_
        rintro e w11 ⟨rfl, hb11⟩
        have hS11 := Aside0.mk (hS10.out.below hb11)
        clear hb11
        go_wp2_with (fail)
        go_ret
        exact ⟨by first | rfl | simp, hS11.out.1⟩

theorem fasciclelaw09_FrameSeals.calls (A0 : Option Addr) (c0 : Nat) (l0 : List Int) (r : Bool) (w : World) (hr0 : Kd.C (Kd.int .u8) w A0 l0.length l0) (hc0 : l0.length ≤ c0) (h : fasciclelaw09_FrameSeals.f l0 = some r) :
    Calls Try.prog 7 #[.slice A0 l0.length c0] w fun e w' => e = .returned (.bool r) ∧ Below w.heap.size w w' := by
  unfold fasciclelaw09_FrameSeals.f at h
  split at h
  · rename_i hh
    cases h
    exact frame_seals w A0 c0 l0 hr0 hc0 ((wbytesOK_iff l0).1 hh)
  · cases h

end Go.Proofs.Ytekanmieppnpeaa.G
