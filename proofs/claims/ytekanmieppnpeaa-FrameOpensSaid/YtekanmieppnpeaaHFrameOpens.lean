/- fasciclelaw09.FrameOpens, walked. -/
import Derived.Test.YtekanmieppnpeaaHLives09
import Derived.Test.YtekanmieppnpeaaLFrame
set_option linter.unusedVariables false
set_option linter.unusedSimpArgs false
namespace Go.Proofs.Ytekanmieppnpeaa.G
open Go Go.RowKit Go.Proofs.YtekanmieppnpeaaW.PrintWords Go.Proofs.YtekanmieppnpeaaW.PrintLast Go.Proofs.YtekanmieppnpeaaW.PrintMore Go.Proofs.Ytekanmieppnpeaa.PureKit Go.Proofs.Ytekanmieppnpeaa.Sep Go.Proofs.Ytekanmieppnpeaa.Rol Go.Proofs.Ytekanmieppnpeaa.LCobs

def fasciclelaw09_FrameOpens.f (l0 : List Int) : Option Bool := if wbytesOK l0 = true then some true else none
def fasciclelaw09_FrameOpens.Pure : Prop := ∀ (l0 : List Int), l0.length ≤ maxLen → l0.length * 1 ≤ 140737488351232 → (∀ y ∈ l0, ((Lit.int .u8 y).wf = true)) → fasciclelaw09_FrameOpens.f l0 = some true

set_option maxHeartbeats 8000000 in
set_option maxRecDepth 100000 in
theorem frame_opens (w : World) (A : Option Addr) (c : Nat) (l : List Int) (hC : Kd.C (Kd.int .u8) w A l.length l) (hc : l.length ≤ c) (hb : Bytes l) :
    Calls Try.prog 5 #[.slice A l.length c] w fun e w' => e = .returned (.bool true) ∧ Below w.heap.size w w' := by
  have hCA := Aside0.mk hC
  have hcA := Aside0.mk hc
  have hmax := Aside0.mk (Kd.C_max hC)
  clear hC hc
  go_enter Try.func5, Try.ntmps5
  by_cases hl : 600 < l.length
  · have hd : decide ((l.length : Int) > 600) = true := decide_eq_true (by omega)
    go_wp2_with (fail)
    refine (fasciclelaw09_lives.calls true _ lives09).mono ?_
    rintro e w1 ⟨rfl, hb1⟩
    have hB1 := Aside0.mk hb1
    clear hb1
    go_wp2_with (fail)
    refine (fasciclelaw09_lives.calls true _ lives09).mono ?_
    rintro e w2 ⟨rfl, hb2⟩
    have hB2 := Aside0.mk (below_step hB1.out hb2)
    clear hb2
    go_wp2_with (fail)
    go_ret
    exact ⟨rfl, hB2.out⟩
  · have hd : decide ((l.length : Int) > 600) = false := decide_eq_false (by omega)
    have hlA : Aside0 (l.length ≤ 600) := ⟨by omega⟩
    clear hl
    go_wp2_with (fail)
    refine (fasciclelaw09_lives.calls true _ lives09).mono ?_
    rintro e w1 ⟨rfl, hb1⟩
    have hS1 := Aside0.mk ((Sep.start w).below hb1)
    clear hb1
    go_wp2_with (fail)
    obtain ⟨k, hk⟩ := (ref_open l hb (by have := hlA.out; omega)).rounds
    have hbk := sealed_opnb l hb
    obtain ⟨hb7, hl7⟩ := opnb_facts l hb
    have hop := frame_open w1 A c l.length l rfl (Kd.C_below hCA.out hS1.out.1) hcA.out hb (by have := hlA.out; omega)
    obtain ⟨b7, e7, hq⟩ : ∃ b7 e7, opnb l = (b7, e7) := ⟨_, _, rfl⟩
    rw [hq] at hk hbk hb7 hl7 hop
    dsimp only at hk hbk hb7 hl7 hop
    have hkA := Aside0.mk hk
    have hl7A := Aside0.mk hl7
    clear hk hq hl7
    refine hop.mono ?_
    clear hop
    rintro e w2 ⟨A2, c2, rfl, hC2, hc2, hB2⟩
    have hS2 := Aside0.mk (hS1.out.below hB2)
    have hC2A := Aside0.mk hC2
    have hc2A := Aside0.mk hc2
    have hcv1 := Kd.C_string (P := Try.prog) (A := A) (c := c) Try.underlying39 Try.underlying5 Try.underlying9 (Kd.C_below hCA.out hS2.out.1)
    clear hB2 hC2 hc2
    go_wp2_with (fail)
    refine (fascicleref09_Open.calls k (strOfNums l) (strOfNums b7) e7 _ hkA.out).mono ?_
    rintro e w3 ⟨rfl, hb3⟩
    have hS3 := Aside0.mk (hS2.out.below hb3)
    have hC3 := Aside0.mk (Kd.C_below hC2A.out hb3)
    have hcv2 := Kd.C_string (P := Try.prog) (A := A2) (c := c2) Try.underlying39 Try.underlying5 Try.underlying9 hC3.out
    have hcv3 := Kd.C_string (P := Try.prog) (A := A) (c := c) Try.underlying39 Try.underlying5 Try.underlying9 (Kd.C_below hCA.out hS3.out.1)
    clear hb3 hcv1
    go_upto_region 7 with (fail)
    clear hcv2
    by_cases he : e7 = 0
    · subst he
      have hbk := hbk rfl
      have hap : strOfNums l ++ (⟨#[0]⟩ : ByteArray) = strOfNums (l ++ [0]) := by rw [nums_one0, PureKit.nums_append]
      have hsz : (strOfNums l).size = l.length := nums_size l
      have hszf : (9223372036854775807 < l.length + 1) = False := eq_false (by have := hlA.out; omega)
      have hszt : (l.length + 1 ≤ 9223372036854775807) = True := eq_true (by have := hlA.out; omega)
      have hcd : (Go.convert 39 9 (.slice A l.length c)).run Try.prog w3.drew = .ok (.string (strOfNums l)) w3.drew := Kd.C_string (P := Try.prog) (A := A) (c := c) Try.underlying39 Try.underlying5 Try.underlying9 (Kd.C_below hCA.out hS3.out.drew.1)
      clear hcv3
      go_wp2_with (fail)
      refine start_ (n := 12) (S := fun w' => (Go.convert 39 9 (.slice A l.length c)).run Try.prog w' = .ok (.string (strOfNums l)) w') (ds := []) #[false, false, false, false, false, false, false, false, false, false, false, false] (by kernel_rfl) rfl rfl (hcd) (fun hHeld => ?_)
      refine pure_ (i := 0) (N := some 35) (v := ?_) (a' := ?_) #[true, false, false, false, false, false, false, false, false, false, false, false] rfl rfl (by kernel_rfl) (fun _ _ _ h => h) (Or.inl ⟨by rfl, ?_⟩) ?_ ?_
      rotate_left
      · intro w'
        go_simp
        with_reducible rfl
      rotate_left
      · simp only [Act.put, List.setIfInBounds_toArray, List.set_cons_zero, List.set_cons_succ, i64_w, i32_w]
        rfl
      refine pure_ (i := 1) (N := some 36) (v := ?_) (a' := ?_) #[true, true, false, false, false, false, false, false, false, false, false, false] rfl rfl (by kernel_rfl) (fun _ _ _ h => h) (Or.inl ⟨by rfl, ?_⟩) ?_ ?_
      rotate_left
      · intro w'
        go_simp
        with_reducible rfl
      rotate_left
      · simp only [Act.put, List.setIfInBounds_toArray, List.set_cons_zero, List.set_cons_succ, i64_w, i32_w]
        rfl
      refine pure_ (i := 2) (N := some 37) (v := ?_) (a' := ?_) #[true, true, true, false, false, false, false, false, false, false, false, false] rfl rfl (by kernel_rfl) (fun _ _ _ h => h) (Or.inl ⟨by rfl, ?_⟩) ?_ ?_
      rotate_left
      · intro w'
        go_simp
        with_reducible rfl
      rotate_left
      · simp only [Act.put, List.setIfInBounds_toArray, List.set_cons_zero, List.set_cons_succ, i64_w, i32_w]
        rfl
      refine pure_ (i := 3) (N := some 38) (v := ?_) (a' := ?_) #[true, true, true, true, false, false, false, false, false, false, false, false] rfl rfl (by kernel_rfl) (fun _ _ _ h => h) (Or.inl ⟨by rfl, ?_⟩) ?_ ?_
      rotate_left
      · intro w'
        go_simp
        with_reducible rfl
      rotate_left
      · simp only [Act.put, List.setIfInBounds_toArray, List.set_cons_zero, List.set_cons_succ, i64_w, i32_w]
        rfl
      refine pure_ (i := 6) (N := some 41) (v := ?_) (a' := ?_) #[true, true, true, true, false, false, true, false, false, false, false, false] rfl rfl (by kernel_rfl) (fun _ _ _ h => h) (Or.inl ⟨by rfl, ?_⟩) ?_ ?_
      rotate_left
      · intro w'
        go_simp
        with_reducible rfl
      rotate_left
      · simp only [Act.put, List.setIfInBounds_toArray, List.set_cons_zero, List.set_cons_succ, i64_w, i32_w]
        rfl
      refine take_ (i := 7) (N := some 42) (v := ?_) (a' := ?_) #[true, true, true, true, false, false, true, true, false, false, false, false] rfl rfl (by kernel_rfl) (fun _ _ _ h => h) (Or.inl ⟨by rfl, ?_⟩) hHeld ?_ ?_
      rotate_left
      · intro w' s0
        go_simp
        with_reducible rfl
      rotate_left
      · simp only [Act.put, List.setIfInBounds_toArray, List.set_cons_zero, List.set_cons_succ, i64_w, i32_w]
        rfl
      refine pure_ (i := 8) (N := some 43) (v := ?_) (a' := ?_) #[true, true, true, true, false, false, true, true, true, false, false, false] rfl rfl (by kernel_rfl) (fun _ _ _ h => h) (Or.inl ⟨by rfl, ?_⟩) ?_ ?_
      rotate_left
      · intro w'
        go_simp
        with_reducible rfl
      rotate_left
      · simp only [Act.put, List.setIfInBounds_toArray, List.set_cons_zero, List.set_cons_succ, i64_w, i32_w]
        rfl
      refine one_ (i := 4) (N := some 39) #[true, true, true, true, true, false, true, true, true, false, false, false] rfl rfl (by kernel_rfl) (by decide) (fun K hK => ?_)
      refine goes_ Try.func21 (by kernel_rfl) rfl #[.slice A2 b7.length c2] (by rfl) rfl rfl (by (try simp only [List.map_toArray, List.map_cons, List.map_nil]); first | done | rfl) ?_
      refine (frame_seal w3.drew A2 c2 b7.length b7 rfl (Kd.C_drew hC3.out) hc2A.out hb7 (by have := hl7A.out; have := hlA.out; omega)).mono ?_
      rw [hbk]
      rintro e w5 ⟨v5, rfl, ho5, hb5⟩
      refine ⟨_, rfl, ?_⟩
      have hS5 := Aside0.mk (hS3.out.drew.below hb5)
      have ho5A := Aside0.mk ho5
      have hcl := Kd.C_string (P := Try.prog) (A := A) (c := c) Try.underlying39 Try.underlying5 Try.underlying9 (Kd.C_below hCA.out hS5.out.1)
      clear ho5 hb5
      refine hK.out _ _ (hcl) (fun hHeld => ?_)
      clear hK K
      refine norm_ (a' := ?_) ?_ ?_
      rotate_left
      · show Act.put _ (some 39) _ = _
        simp only [Act.put, List.setIfInBounds_toArray, List.set_cons_zero, List.set_cons_succ, i64_w, i32_w]
        rfl
      refine one_ (i := 5) (N := some 40) #[true, true, true, true, true, true, true, true, true, false, false, false] rfl rfl (by kernel_rfl) (by decide) (fun K hK => ?_)
      have hcx : (Go.convert 39 9 v5).run Try.prog w5 = .ok (.string (strOfNums (l ++ [0]))) w5 := own_string (P := Try.prog) Try.underlying39 Try.underlying5 Try.underlying9 (Kd.own_of_R ho5A.out)
      refine value_ (w1 := ?_) (v := ?_) (by rfl) rfl ?_ ?_
      rotate_left 2
      · go_simp
        constructor
        · rfl
        · rfl
      clear hcx
      refine hK.out _ _ (hcl) (fun hHeld => ?_)
      clear hK K
      refine norm_ (a' := ?_) ?_ ?_
      rotate_left
      · show Act.put _ (some 40) _ = _
        simp only [Act.put, List.setIfInBounds_toArray, List.set_cons_zero, List.set_cons_succ, i64_w, i32_w]
        rfl
      refine pure_ (i := 9) (N := some 44) (v := ?_) (a' := ?_) #[true, true, true, true, true, true, true, true, true, true, false, false] rfl rfl (by kernel_rfl) (fun _ _ _ h => h) (Or.inl ⟨by rfl, ?_⟩) ?_ ?_
      rotate_left
      · intro w'
        go_simp
        with_reducible rfl
      rotate_left
      · simp only [Act.put, List.setIfInBounds_toArray, List.set_cons_zero, List.set_cons_succ, i64_w, i32_w]
        rfl
      refine pure_ (i := 10) (N := some 45) (v := ?_) (a' := ?_) #[true, true, true, true, true, true, true, true, true, true, true, false] rfl rfl (by kernel_rfl) (fun _ _ _ h => h) (Or.inl ⟨by rfl, ?_⟩) ?_ ?_
      rotate_left
      · intro w'
        go_simp
        with_reducible rfl
      rotate_left
      · simp only [Act.put, List.setIfInBounds_toArray, List.set_cons_zero, List.set_cons_succ, i64_w, i32_w]
        rfl
      refine pure_ (i := 11) (N := some 2) (v := ?_) (a' := ?_) #[true, true, true, true, true, true, true, true, true, true, true, true] rfl rfl (by kernel_rfl) (fun _ _ _ h => h) (Or.inl ⟨by rfl, ?_⟩) ?_ ?_
      rotate_left
      · intro w'
        go_simp
        with_reducible rfl
      rotate_left
      · simp only [Act.put, List.setIfInBounds_toArray, List.set_cons_zero, List.set_cons_succ, i64_w, i32_w]
        rfl
      refine done_ (by kernel_rfl) ?_
      go_wp2_with (fail)
      go_ret
      · exact ⟨by first | rfl | simp [hap] | simp, hS5.out.1⟩
      all_goals trivial
    · have hed : (e7 != 0) = true := bne_iff_ne.2 he
      clear hcv3
      go_wp2_with (fail)
      refine start_ (n := 12) (S := fun w' => True) (ds := []) #[false, false, false, false, false, false, false, false, false, false, false, false] (by kernel_rfl) rfl rfl (trivial) (fun hHeld => ?_)
      refine pure_ (i := 0) (N := some 35) (v := ?_) (a' := ?_) #[true, false, false, false, false, false, false, false, false, false, false, false] rfl rfl (by kernel_rfl) (fun _ _ _ h => h) (Or.inl ⟨by rfl, ?_⟩) ?_ ?_
      rotate_left
      · intro w'
        go_simp
        with_reducible rfl
      rotate_left
      · simp only [Act.put, List.setIfInBounds_toArray, List.set_cons_zero, List.set_cons_succ, i64_w, i32_w]
        rfl
      refine pure_ (i := 1) (N := some 36) (v := ?_) (a' := ?_) #[true, true, false, false, false, false, false, false, false, false, false, false] rfl rfl (by kernel_rfl) (fun _ _ _ h => h) (Or.inl ⟨by rfl, ?_⟩) ?_ ?_
      rotate_left
      · intro w'
        go_simp
        with_reducible rfl
      rotate_left
      · simp only [Act.put, List.setIfInBounds_toArray, List.set_cons_zero, List.set_cons_succ, i64_w, i32_w]
        rfl
      refine pure_ (i := 2) (N := some 37) (v := ?_) (a' := ?_) #[true, true, true, false, false, false, false, false, false, false, false, false] rfl rfl (by kernel_rfl) (fun _ _ _ h => h) (Or.inl ⟨by rfl, ?_⟩) ?_ ?_
      rotate_left
      · intro w'
        go_simp
        with_reducible rfl
      rotate_left
      · simp only [Act.put, List.setIfInBounds_toArray, List.set_cons_zero, List.set_cons_succ, i64_w, i32_w]
        rfl
      refine pure_ (i := 3) (N := some 38) (v := undef) (a' := ?_) #[true, true, true, true, false, false, false, false, false, false, false, false] rfl rfl (by kernel_rfl) (fun _ _ _ h => h) (Or.inr ⟨by rfl, rfl⟩) ?_ ?_
      rotate_left
      · simp only [Act.put, List.setIfInBounds_toArray, List.set_cons_zero, List.set_cons_succ, i64_w, i32_w]
        rfl
      refine pure_ (i := 4) (N := some 39) (v := undef) (a' := ?_) #[true, true, true, true, true, false, false, false, false, false, false, false] rfl rfl (by kernel_rfl) (fun _ _ _ h => h) (Or.inr ⟨by rfl, rfl⟩) ?_ ?_
      rotate_left
      · simp only [Act.put, List.setIfInBounds_toArray, List.set_cons_zero, List.set_cons_succ, i64_w, i32_w]
        rfl
      refine pure_ (i := 5) (N := some 40) (v := undef) (a' := ?_) #[true, true, true, true, true, true, false, false, false, false, false, false] rfl rfl (by kernel_rfl) (fun _ _ _ h => h) (Or.inr ⟨by rfl, rfl⟩) ?_ ?_
      rotate_left
      · simp only [Act.put, List.setIfInBounds_toArray, List.set_cons_zero, List.set_cons_succ, i64_w, i32_w]
        rfl
      refine pure_ (i := 6) (N := some 41) (v := undef) (a' := ?_) #[true, true, true, true, true, true, true, false, false, false, false, false] rfl rfl (by kernel_rfl) (fun _ _ _ h => h) (Or.inr ⟨by rfl, rfl⟩) ?_ ?_
      rotate_left
      · simp only [Act.put, List.setIfInBounds_toArray, List.set_cons_zero, List.set_cons_succ, i64_w, i32_w]
        rfl
      refine pure_ (i := 7) (N := some 42) (v := undef) (a' := ?_) #[true, true, true, true, true, true, true, true, false, false, false, false] rfl rfl (by kernel_rfl) (fun _ _ _ h => h) (Or.inr ⟨by rfl, rfl⟩) ?_ ?_
      rotate_left
      · simp only [Act.put, List.setIfInBounds_toArray, List.set_cons_zero, List.set_cons_succ, i64_w, i32_w]
        rfl
      refine pure_ (i := 8) (N := some 43) (v := undef) (a' := ?_) #[true, true, true, true, true, true, true, true, true, false, false, false] rfl rfl (by kernel_rfl) (fun _ _ _ h => h) (Or.inr ⟨by rfl, rfl⟩) ?_ ?_
      rotate_left
      · simp only [Act.put, List.setIfInBounds_toArray, List.set_cons_zero, List.set_cons_succ, i64_w, i32_w]
        rfl
      refine pure_ (i := 9) (N := some 44) (v := undef) (a' := ?_) #[true, true, true, true, true, true, true, true, true, true, false, false] rfl rfl (by kernel_rfl) (fun _ _ _ h => h) (Or.inr ⟨by rfl, rfl⟩) ?_ ?_
      rotate_left
      · simp only [Act.put, List.setIfInBounds_toArray, List.set_cons_zero, List.set_cons_succ, i64_w, i32_w]
        rfl
      refine pure_ (i := 10) (N := some 45) (v := ?_) (a' := ?_) #[true, true, true, true, true, true, true, true, true, true, true, false] rfl rfl (by kernel_rfl) (fun _ _ _ h => h) (Or.inl ⟨by rfl, ?_⟩) ?_ ?_
      rotate_left
      · intro w'
        go_simp
        with_reducible rfl
      rotate_left
      · simp only [Act.put, List.setIfInBounds_toArray, List.set_cons_zero, List.set_cons_succ, i64_w, i32_w]
        rfl
      refine pure_ (i := 11) (N := some 2) (v := ?_) (a' := ?_) #[true, true, true, true, true, true, true, true, true, true, true, true] rfl rfl (by kernel_rfl) (fun _ _ _ h => h) (Or.inl ⟨by rfl, ?_⟩) ?_ ?_
      rotate_left
      · intro w'
        go_simp
        with_reducible rfl
      rotate_left
      · simp only [Act.put, List.setIfInBounds_toArray, List.set_cons_zero, List.set_cons_succ, i64_w, i32_w]
        rfl
      refine done_ (by kernel_rfl) ?_
      go_wp2_with (fail)
      go_ret
      exact ⟨by first | rfl | simp, hS3.out.drew.1⟩

theorem fasciclelaw09_FrameOpens.calls (A0 : Option Addr) (c0 : Nat) (l0 : List Int) (r : Bool) (w : World) (hr0 : Kd.C (Kd.int .u8) w A0 l0.length l0) (hc0 : l0.length ≤ c0) (h : fasciclelaw09_FrameOpens.f l0 = some r) :
    Calls Try.prog 5 #[.slice A0 l0.length c0] w fun e w' => e = .returned (.bool r) ∧ Below w.heap.size w w' := by
  unfold fasciclelaw09_FrameOpens.f at h
  split at h
  · rename_i hh
    cases h
    exact frame_opens w A0 c0 l0 hr0 hc0 ((wbytesOK_iff l0).1 hh)
  · cases h

end Go.Proofs.Ytekanmieppnpeaa.G
