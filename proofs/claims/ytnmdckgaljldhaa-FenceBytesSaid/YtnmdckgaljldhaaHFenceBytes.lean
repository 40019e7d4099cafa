/- FenceBytes, walked. -/
import Derived.Test.YtnmdckgaljldhaaHFBytes
import Derived.Test.YtnmdckgaljldhaaLFTGet
import Derived.Test.YtnmdckgaljldhaaLFLives
import Derived.Test.YtnmdckgaljldhaaHTPut
set_option linter.unusedVariables false
set_option linter.unusedSimpArgs false
namespace Go.Proofs.Ytnmdckgaljldhaa.Fw
open Go Go.RowKit Go.Proofs.YtnmdckgaljldhaaW.PrintWords Go.Proofs.YtnmdckgaljldhaaW.PrintLast Go.Proofs.YtnmdckgaljldhaaW.PrintMore Go.Proofs.Ytnmdckgaljldhaa.PureKit Go.Proofs.Ytnmdckgaljldhaa.Sep Go.Proofs.Ytnmdckgaljldhaa.G Go.Proofs.Ytnmdckgaljldhaa.Tb
set_option maxHeartbeats 8000000
set_option maxRecDepth 100000

theorem lives12_call : ∀ W : World, Calls Try.prog 16 #[] W fun e w' => e = .returned (.bool true) ∧ Below W.heap.size W w' := by
  obtain ⟨k, hk⟩ := Go.Proofs.Ytnmdckgaljldhaa.Fe.lives12.rounds
  exact fun W => fasciclelaw12_lives.calls k true W hk
theorem fenceBytes_call (A : Option Addr) (c : Nat) (l : List Int) (B : Option Addr) (cb : Nat) (b : List Int) (n : Int) (w : World) (hok : ∀ x ∈ l, 0 ≤ x ∧ x < 18446744073709551616) (hb : Bytes b) (hC : Kd.C (Kd.int .u64) w A l.length l) (hc : l.length ≤ c) (hD : Kd.C (Kd.int .u8) w B b.length b) (hcb : b.length ≤ cb) :
    Calls Try.prog 4 #[.slice A l.length c, .slice B b.length cb, .int .i64 n] w fun e w' => e = .returned (.bool true) ∧ Below w.heap.size w w' := by
  have hu := Try.underlying43
  have hsz : ∀ (W : World) (o : Obj), (W.alloc o).heap.size = W.heap.size + 1 := fun W o => by show (W.heap.push _).size = _; simp
  have hmf : ∀ (fn : Fn) (first cap : Array Value) (w : World), (Instr.makeFunc fn first cap).run Try.prog w = .ok (.func fn first cap) w := fun _ _ _ _ => rfl
  have hS0 := ((Sep.start w).alloc #[.slice A l.length c] 26).alloc #[.int .i64 n] 3
  rw [hsz] at hS0
  have hS0 := Aside0.mk hS0
  have hCA := Aside0.mk hC
  have hDA := Aside0.mk hD
  have hoA := Aside0.mk hok
  have hbA := Aside0.mk hb
  have hcA := Aside0.mk (And.intro hc hcb)
  clear hC hD hok hb hc hcb
  by_cases hbig : 60 < l.length
  · have hd : decide ((l.length : Int) > 60) = true := decide_eq_true (by omega)
    have hd3 : decide (60 < l.length) = true := decide_eq_true hbig
    clear hbig
    go_enter Try.func4, Try.ntmps4
    go_wp2_with (fail)
    refine (lives12_call _).mono ?_
    rintro e w1 ⟨rfl, hw1⟩
    have h1 := hS0.out.below hw1
    have hc_0 : w1.cell? ⟨w.heap.size, 0, none⟩ = some (.slice A l.length c) := ((h1.pick1).cell 0).trans rfl
    clear hw1
    go_wp2_with (fail)
    refine (lives12_call _).mono ?_
    rintro e w2 ⟨rfl, hw2⟩
    have h2 := Aside0.mk (h1.below hw2)
    clear hw2 hc_0 h1
    go_wp2_with (fail)
    go_ret
    exact ⟨rfl, h2.out.1⟩
  have hd : decide ((l.length : Int) > 60) = false := decide_eq_false (by omega)
  have hd3 : decide (60 < l.length) = false := decide_eq_false hbig
  by_cases hbb : 600 < b.length
  · have he : decide ((b.length : Int) > 600) = true := decide_eq_true (by omega)
    have he3 : decide (600 < b.length) = true := decide_eq_true hbb
    clear hbig hbb
    go_enter Try.func4, Try.ntmps4
    go_wp2_with (fail)
    refine (lives12_call _).mono ?_
    rintro e w1 ⟨rfl, hw1⟩
    have h1 := hS0.out.below hw1
    have hc_0 : w1.cell? ⟨w.heap.size, 0, none⟩ = some (.slice A l.length c) := ((h1.pick1).cell 0).trans rfl
    clear hw1
    go_wp2_with (fail)
    refine (lives12_call _).mono ?_
    rintro e w2 ⟨rfl, hw2⟩
    have h2 := Aside0.mk (h1.below hw2)
    clear hw2 hc_0 h1
    go_wp2_with (fail)
    go_ret
    exact ⟨rfl, h2.out.1⟩
  have he : decide ((b.length : Int) > 600) = false := decide_eq_false (by omega)
  have he3 : decide (600 < b.length) = false := decide_eq_false hbb
  have hle := Aside0.mk (show l.length ≤ 60 ∧ b.length ≤ 600 by omega)
  clear hbig hbb
  go_enter Try.func4, Try.ntmps4
  go_wp2_with (fail)
  refine (lives12_call _).mono ?_
  rintro e w1 ⟨rfl, hw1⟩
  have h1 := hS0.out.below hw1
  have hc_0 : w1.cell? ⟨w.heap.size, 0, none⟩ = some (.slice A l.length c) := ((h1.pick1).cell 0).trans rfl
  have hq := h1.buf_new
  have hd_0 : (w1.alloc (.cells #[.slice none 0 0] 29 (0, 0))).cell? ⟨w.heap.size, 0, none⟩ = some (.slice A l.length c) := ((hq.pick2).cell 0).trans rfl
  have hSb := Aside0.mk hq
  clear hw1 h1 hq hS0
  generalize hgl : w.heap.size = gl at *
  generalize hgb : w1.heap.size = gw at *
  go_wp2_with (fail)
  refine (fence_Put w _ gw [] A c l.length l rfl _ hSb.out (fun W hW => Kd.C_below hCA.out hW.1) (by have := hle.out; omega) (by decide) hoA.out).mono ?_
  rintro e w2 ⟨rfl, h2⟩
  rw [List.nil_append, show fbytes l = fbytesL l from rfl] at h2
  have hlen : (fbytesL l).length ≤ 480 := by rw [fbytesL_len]; have := hle.out; omega
  have hlA := Aside0.mk hlen
  have h3 := (h2.alloc #[.slice none 0 0] 26).pick1
  have hS3 := Aside0.mk h3
  clear h2 h3 hSb hc_0 hd_0 hlen
  go_wp2_with (fail)
  generalize hgk : w2.heap.size = gq at *
  refine (buf_Bytes w _ gw _ _ hS3.out (by have := hlA.out; omega)).mono ?_
  rintro e w4 ⟨v4, rfl, h4⟩
  obtain ⟨A4, c4, rfl, hc4, hC4⟩ := row_S h4
  have hR4 := Aside0.mk (And.intro hc4 hC4)
  have hS4 : Sep.Sep w w4 (capBF gl gq A l.length c none 0 0 ++ [buf gw (fbytesL l), blk (gl + 1) #[.int .i64 n] 3]) := h4.tail.pick1.pick3
  have hS4 := Aside0.mk hS4
  clear hc4 hC4 h4 hS3
  go_wp2_with (fail)
  refine (run_calls w _ A4 c4 (fbytesL l) 21 #[.pointer (some ⟨gl, 0, none⟩), .pointer (some ⟨gq, 0, none⟩)] _ _ (fun at2 x qs => x = (backF l).1 ∧ ∃ (A' : Option Addr) (m c' : Nat), qs = capBF gl gq A l.length c A' m c' ++ [row (Kd.int .u64) 39 (.slice A' m c') (backF l).2])
    Try.call21 hS4.out hR4.out.2 hR4.out.1 (by have := hlA.out; omega) (fun w1 g ps' h1 => clos_backF w w1 g gl gq A c l ps' h1 hoA.out (by have := hle.out; omega))).mono ?_
  clear hS4 hR4
  rintro e w9 ⟨at2, x, qs, ⟨hx, A', m, c', rfl⟩, rfl, h9⟩
  have h9 : Sep.Sep w w9 [buf gw (fbytesL l), blk gl #[.slice A l.length c] 26, blk gq #[.slice A' m c'] 26, row (Kd.int .u64) 39 (.slice A' m c') (backF l).2, blk (gl + 1) #[.int .i64 n] 3] := h9.pick3
  obtain ⟨kt, hkt⟩ := (text12_ev l (by have := hle.out; omega) hoA.out).rounds
  obtain ⟨ks, hks⟩ := (same12_ev l (by have := hle.out; omega)).rounds
  have hkA := Aside0.mk (And.intro hkt hks)
  have hxA0 := Aside0.mk hx
  clear hx
  have hS := Aside0.mk h9
  have hcl_0 : w9.cell? ⟨gl, 0, none⟩ = some (.slice A l.length c) := ((h9.pick1).cell 0).trans rfl
  clear hkt hks h9
  go_wp2_with (fail)
  go_loopg [11, 41] l.length (fun kq v11 v41 w' => ∃ (i : Nat), v11 = .bool (risesF (l.take i)) ∧ v41 = .int .i64 (i : Int) ∧ Aside0 (i + kq = l.length) ∧ Aside0 (Sep.Sep w w' [buf gw (fbytesL l), blk gl #[.slice A l.length c] 26, blk gq #[.slice A' m c'] 26, row (Kd.int .u64) 39 (.slice A' m c') (backF l).2, blk (gl + 1) #[.int .i64 n] 3]))
  case atStart => exact ⟨0, by first | rfl | (rw [List.take_zero, risesF_nil]), rfl, ⟨by omega⟩, hS⟩
  case round =>
    clear hS hcl_0
    obtain ⟨i, rfl, rfl, hA, hS⟩ := hrel
    by_cases hil : i < l.length
    · obtain ⟨k1, rfl⟩ : ∃ k1, gk = k1 + 1 := ⟨gk - 1, by have := hA.out; omega⟩
      have hA' : Aside0 (i + 1 + k1 = l.length) := ⟨by have := hA.out; omega⟩
      have hile := hle.out.1
      obtain ⟨ad, eA, hx0⟩ := Kd.at_int (Kd.C_below hCA.out hS.out.1) (i : Int) (by omega) (by omega)
      cases eA
      have hsn := rises_take l i hil
      obtain ⟨x, hx⟩ : ∃ x : Int, (i : Int) = x := ⟨_, rfl⟩
      obtain ⟨j, hj⟩ : ∃ j : Int, wrap64 (x - 1) = j := ⟨_, rfl⟩
      have hjw : IntKind.i64.wrap (x - 1) = j := (i64_w _).trans hj
      have hje : j = x - 1 := by rw [← hj, w64 (by omega) (by omega)]
      have hnx : wrap64 (x + 1) = ((i + 1 : Nat) : Int) := by rw [w64 (by omega) (by omega)]; omega
      have hd : decide (x < (l.length : Int)) = true := decide_eq_true (by omega)
      have p0 : (0 ≤ x) = True := eq_true (by omega)
      have q0 : (x < (l.length : Int)) = True := eq_true (by omega)
      rw [hx] at hx0 hsn ⊢
      have hcl : wr.drew.cell? ⟨gl, 0, none⟩ = some (.slice (some ad) l.length c) := (hS.out.drew.pick1.cell 0).trans rfl
      have hSn := Aside0.mk hS.out.drew
      by_cases h0 : i = 0
      · have hz : (x == 0) = true := beq_iff_eq.2 (by omega)
        have hR : risesF (l.take i) = true := by rw [h0, List.take_zero]; exact risesF_nil
        have hR2 : Aside0 (risesF (l.take (i + 1)) = true) := ⟨by rw [hsn, hR, Bool.true_and, decide_eq_false (by omega)]; rfl⟩
        rw [hR]
        have hxA := Aside0.mk (And.intro hx hnx)
        clear hil hile hsn hx hj hje h0 hR hA hS hx0 hnx
        go_wp2_with (fail)
        refine start_ (n := 18) (S := fun w' => True) (ds := []) #[false, false, false, false, false, false, false, false, false, false, false, false, false, false, false, false, false, false] (by kernel_rfl) rfl rfl trivial (fun hHeld => ?_)
        refine pure_ (i := 0) (N := some 44) (v := ?_) (a' := ?_) #[true, false, false, false, false, false, false, false, false, false, false, false, false, false, false, false, false, false] rfl rfl (by kernel_rfl) (fun _ _ _ h => h) (Or.inl ⟨by rfl, ?_⟩) ?_ ?_
        rotate_left
        · intro w'
          go_simp
          with_reducible rfl
        rotate_left
        · simp only [Act.put, List.setIfInBounds_toArray, List.set_cons_zero, List.set_cons_succ, i64_w, i32_w]
          rfl
        refine pure_ (i := 1) (N := some 45) (v := ?_) (a' := ?_) #[true, true, false, false, false, false, false, false, false, false, false, false, false, false, false, false, false, false] rfl rfl (by kernel_rfl) (fun _ _ _ h => h) (Or.inl ⟨by rfl, ?_⟩) ?_ ?_
        rotate_left
        · intro w'
          go_simp
          with_reducible rfl
        rotate_left
        · simp only [Act.put, List.setIfInBounds_toArray, List.set_cons_zero, List.set_cons_succ, i64_w, i32_w]
          rfl
        refine pure_ (i := 2) (N := some 46) (v := ?_) (a' := ?_) #[true, true, true, false, false, false, false, false, false, false, false, false, false, false, false, false, false, false] rfl rfl (by kernel_rfl) (fun _ _ _ h => h) (Or.inl ⟨by rfl, ?_⟩) ?_ ?_
        rotate_left
        · intro w'
          go_simp
          with_reducible rfl
        rotate_left
        · simp only [Act.put, List.setIfInBounds_toArray, List.set_cons_zero, List.set_cons_succ, i64_w, i32_w]
          rfl
        refine pure_ (i := 3) (N := some 47) (v := ?_) (a' := ?_) #[true, true, true, true, false, false, false, false, false, false, false, false, false, false, false, false, false, false] rfl rfl (by kernel_rfl) (fun _ _ _ h => h) (Or.inl ⟨by rfl, ?_⟩) ?_ ?_
        rotate_left
        · intro w'
          go_simp
          with_reducible rfl
        rotate_left
        · simp only [Act.put, List.setIfInBounds_toArray, List.set_cons_zero, List.set_cons_succ, i64_w, i32_w]
          rfl
        refine pure_ (i := 4) (N := some 48) (v := ?_) (a' := ?_) #[true, true, true, true, true, false, false, false, false, false, false, false, false, false, false, false, false, false] rfl rfl (by kernel_rfl) (fun _ _ _ h => h) (Or.inl ⟨by rfl, ?_⟩) ?_ ?_
        rotate_left
        · intro w'
          go_simp
          with_reducible rfl
        rotate_left
        · simp only [Act.put, List.setIfInBounds_toArray, List.set_cons_zero, List.set_cons_succ, i64_w, i32_w]
          rfl
        refine pure_ (i := 5) (N := some 49) (v := undef) (a' := ?_) #[true, true, true, true, true, true, false, false, false, false, false, false, false, false, false, false, false, false] rfl rfl (by kernel_rfl) (fun _ _ _ h => h) (Or.inr ⟨by rfl, rfl⟩) ?_ ?_
        rotate_left
        · simp only [Act.put, List.setIfInBounds_toArray, List.set_cons_zero, List.set_cons_succ, i64_w, i32_w]
          rfl
        refine pure_ (i := 6) (N := some 50) (v := undef) (a' := ?_) #[true, true, true, true, true, true, true, false, false, false, false, false, false, false, false, false, false, false] rfl rfl (by kernel_rfl) (fun _ _ _ h => h) (Or.inr ⟨by rfl, rfl⟩) ?_ ?_
        rotate_left
        · simp only [Act.put, List.setIfInBounds_toArray, List.set_cons_zero, List.set_cons_succ, i64_w, i32_w]
          rfl
        refine pure_ (i := 7) (N := some 51) (v := undef) (a' := ?_) #[true, true, true, true, true, true, true, true, false, false, false, false, false, false, false, false, false, false] rfl rfl (by kernel_rfl) (fun _ _ _ h => h) (Or.inr ⟨by rfl, rfl⟩) ?_ ?_
        rotate_left
        · simp only [Act.put, List.setIfInBounds_toArray, List.set_cons_zero, List.set_cons_succ, i64_w, i32_w]
          rfl
        refine pure_ (i := 8) (N := some 52) (v := undef) (a' := ?_) #[true, true, true, true, true, true, true, true, true, false, false, false, false, false, false, false, false, false] rfl rfl (by kernel_rfl) (fun _ _ _ h => h) (Or.inr ⟨by rfl, rfl⟩) ?_ ?_
        rotate_left
        · simp only [Act.put, List.setIfInBounds_toArray, List.set_cons_zero, List.set_cons_succ, i64_w, i32_w]
          rfl
        refine pure_ (i := 9) (N := some 53) (v := undef) (a' := ?_) #[true, true, true, true, true, true, true, true, true, true, false, false, false, false, false, false, false, false] rfl rfl (by kernel_rfl) (fun _ _ _ h => h) (Or.inr ⟨by rfl, rfl⟩) ?_ ?_
        rotate_left
        · simp only [Act.put, List.setIfInBounds_toArray, List.set_cons_zero, List.set_cons_succ, i64_w, i32_w]
          rfl
        refine pure_ (i := 10) (N := some 54) (v := undef) (a' := ?_) #[true, true, true, true, true, true, true, true, true, true, true, false, false, false, false, false, false, false] rfl rfl (by kernel_rfl) (fun _ _ _ h => h) (Or.inr ⟨by rfl, rfl⟩) ?_ ?_
        rotate_left
        · simp only [Act.put, List.setIfInBounds_toArray, List.set_cons_zero, List.set_cons_succ, i64_w, i32_w]
          rfl
        refine pure_ (i := 11) (N := some 55) (v := undef) (a' := ?_) #[true, true, true, true, true, true, true, true, true, true, true, true, false, false, false, false, false, false] rfl rfl (by kernel_rfl) (fun _ _ _ h => h) (Or.inr ⟨by rfl, rfl⟩) ?_ ?_
        rotate_left
        · simp only [Act.put, List.setIfInBounds_toArray, List.set_cons_zero, List.set_cons_succ, i64_w, i32_w]
          rfl
        refine pure_ (i := 12) (N := some 56) (v := undef) (a' := ?_) #[true, true, true, true, true, true, true, true, true, true, true, true, true, false, false, false, false, false] rfl rfl (by kernel_rfl) (fun _ _ _ h => h) (Or.inr ⟨by rfl, rfl⟩) ?_ ?_
        rotate_left
        · simp only [Act.put, List.setIfInBounds_toArray, List.set_cons_zero, List.set_cons_succ, i64_w, i32_w]
          rfl
        refine pure_ (i := 13) (N := some 57) (v := undef) (a' := ?_) #[true, true, true, true, true, true, true, true, true, true, true, true, true, true, false, false, false, false] rfl rfl (by kernel_rfl) (fun _ _ _ h => h) (Or.inr ⟨by rfl, rfl⟩) ?_ ?_
        rotate_left
        · simp only [Act.put, List.setIfInBounds_toArray, List.set_cons_zero, List.set_cons_succ, i64_w, i32_w]
          rfl
        refine pure_ (i := 14) (N := some 58) (v := undef) (a' := ?_) #[true, true, true, true, true, true, true, true, true, true, true, true, true, true, true, false, false, false] rfl rfl (by kernel_rfl) (fun _ _ _ h => h) (Or.inr ⟨by rfl, rfl⟩) ?_ ?_
        rotate_left
        · simp only [Act.put, List.setIfInBounds_toArray, List.set_cons_zero, List.set_cons_succ, i64_w, i32_w]
          rfl
        refine pure_ (i := 15) (N := some 59) (v := ?_) (a' := ?_) #[true, true, true, true, true, true, true, true, true, true, true, true, true, true, true, true, false, false] rfl rfl (by kernel_rfl) (fun _ _ _ h => h) (Or.inl ⟨by rfl, ?_⟩) ?_ ?_
        rotate_left
        · intro w'
          go_simp
          with_reducible rfl
        rotate_left
        · simp only [Act.put, List.setIfInBounds_toArray, List.set_cons_zero, List.set_cons_succ, i64_w, i32_w]
          rfl
        refine pure_ (i := 16) (N := some 60) (v := ?_) (a' := ?_) #[true, true, true, true, true, true, true, true, true, true, true, true, true, true, true, true, true, false] rfl rfl (by kernel_rfl) (fun _ _ _ h => h) (Or.inl ⟨by rfl, ?_⟩) ?_ ?_
        rotate_left
        · intro w'
          go_simp
          with_reducible rfl
        rotate_left
        · simp only [Act.put, List.setIfInBounds_toArray, List.set_cons_zero, List.set_cons_succ, i64_w, i32_w]
          rfl
        refine pure_ (i := 17) (N := some 11) (v := ?_) (a' := ?_) #[true, true, true, true, true, true, true, true, true, true, true, true, true, true, true, true, true, true] rfl rfl (by kernel_rfl) (fun _ _ _ h => h) (Or.inl ⟨by rfl, ?_⟩) ?_ ?_
        rotate_left
        · intro w'
          go_simp
          with_reducible rfl
        rotate_left
        · simp only [Act.put, List.setIfInBounds_toArray, List.set_cons_zero, List.set_cons_succ, i64_w, i32_w]
          rfl
        refine done_ (by kernel_rfl) ?_
        go_wp2_with (fail)
        go_roundg k1
        case measure => omega
        case rel => exact ⟨i + 1, by rw [hR2.out], by rw [hxA.out.2], hA', hSn⟩
      · have hz : (x == 0) = false := beq_eq_false_iff_ne.2 (by omega)
        cases hR : risesF (l.take i) with
        | false =>
          have hR2 : Aside0 (risesF (l.take (i + 1)) = false) := ⟨by rw [hsn, hR, Bool.false_and]⟩
          have hxA := Aside0.mk (And.intro hx hnx)
          clear hil hile hsn hx hj hje h0 hR hA hS hx0 hnx
          go_wp2_with (fail)
          refine start_ (n := 18) (S := fun w' => True) (ds := []) #[false, false, false, false, false, false, false, false, false, false, false, false, false, false, false, false, false, false] (by kernel_rfl) rfl rfl trivial (fun hHeld => ?_)
          refine pure_ (i := 0) (N := some 44) (v := ?_) (a' := ?_) #[true, false, false, false, false, false, false, false, false, false, false, false, false, false, false, false, false, false] rfl rfl (by kernel_rfl) (fun _ _ _ h => h) (Or.inl ⟨by rfl, ?_⟩) ?_ ?_
          rotate_left
          · intro w'
            go_simp
            with_reducible rfl
          rotate_left
          · simp only [Act.put, List.setIfInBounds_toArray, List.set_cons_zero, List.set_cons_succ, i64_w, i32_w]
            rfl
          refine pure_ (i := 1) (N := some 45) (v := ?_) (a' := ?_) #[true, true, false, false, false, false, false, false, false, false, false, false, false, false, false, false, false, false] rfl rfl (by kernel_rfl) (fun _ _ _ h => h) (Or.inl ⟨by rfl, ?_⟩) ?_ ?_
          rotate_left
          · intro w'
            go_simp
            with_reducible rfl
          rotate_left
          · simp only [Act.put, List.setIfInBounds_toArray, List.set_cons_zero, List.set_cons_succ, i64_w, i32_w]
            rfl
          refine pure_ (i := 2) (N := some 46) (v := undef) (a' := ?_) #[true, true, true, false, false, false, false, false, false, false, false, false, false, false, false, false, false, false] rfl rfl (by kernel_rfl) (fun _ _ _ h => h) (Or.inr ⟨by rfl, rfl⟩) ?_ ?_
          rotate_left
          · simp only [Act.put, List.setIfInBounds_toArray, List.set_cons_zero, List.set_cons_succ, i64_w, i32_w]
            rfl
          refine pure_ (i := 3) (N := some 47) (v := undef) (a' := ?_) #[true, true, true, true, false, false, false, false, false, false, false, false, false, false, false, false, false, false] rfl rfl (by kernel_rfl) (fun _ _ _ h => h) (Or.inr ⟨by rfl, rfl⟩) ?_ ?_
          rotate_left
          · simp only [Act.put, List.setIfInBounds_toArray, List.set_cons_zero, List.set_cons_succ, i64_w, i32_w]
            rfl
          refine pure_ (i := 4) (N := some 48) (v := undef) (a' := ?_) #[true, true, true, true, true, false, false, false, false, false, false, false, false, false, false, false, false, false] rfl rfl (by kernel_rfl) (fun _ _ _ h => h) (Or.inr ⟨by rfl, rfl⟩) ?_ ?_
          rotate_left
          · simp only [Act.put, List.setIfInBounds_toArray, List.set_cons_zero, List.set_cons_succ, i64_w, i32_w]
            rfl
          refine pure_ (i := 5) (N := some 49) (v := undef) (a' := ?_) #[true, true, true, true, true, true, false, false, false, false, false, false, false, false, false, false, false, false] rfl rfl (by kernel_rfl) (fun _ _ _ h => h) (Or.inr ⟨by rfl, rfl⟩) ?_ ?_
          rotate_left
          · simp only [Act.put, List.setIfInBounds_toArray, List.set_cons_zero, List.set_cons_succ, i64_w, i32_w]
            rfl
          refine pure_ (i := 6) (N := some 50) (v := undef) (a' := ?_) #[true, true, true, true, true, true, true, false, false, false, false, false, false, false, false, false, false, false] rfl rfl (by kernel_rfl) (fun _ _ _ h => h) (Or.inr ⟨by rfl, rfl⟩) ?_ ?_
          rotate_left
          · simp only [Act.put, List.setIfInBounds_toArray, List.set_cons_zero, List.set_cons_succ, i64_w, i32_w]
            rfl
          refine pure_ (i := 7) (N := some 51) (v := undef) (a' := ?_) #[true, true, true, true, true, true, true, true, false, false, false, false, false, false, false, false, false, false] rfl rfl (by kernel_rfl) (fun _ _ _ h => h) (Or.inr ⟨by rfl, rfl⟩) ?_ ?_
          rotate_left
          · simp only [Act.put, List.setIfInBounds_toArray, List.set_cons_zero, List.set_cons_succ, i64_w, i32_w]
            rfl
          refine pure_ (i := 8) (N := some 52) (v := undef) (a' := ?_) #[true, true, true, true, true, true, true, true, true, false, false, false, false, false, false, false, false, false] rfl rfl (by kernel_rfl) (fun _ _ _ h => h) (Or.inr ⟨by rfl, rfl⟩) ?_ ?_
          rotate_left
          · simp only [Act.put, List.setIfInBounds_toArray, List.set_cons_zero, List.set_cons_succ, i64_w, i32_w]
            rfl
          refine pure_ (i := 9) (N := some 53) (v := undef) (a' := ?_) #[true, true, true, true, true, true, true, true, true, true, false, false, false, false, false, false, false, false] rfl rfl (by kernel_rfl) (fun _ _ _ h => h) (Or.inr ⟨by rfl, rfl⟩) ?_ ?_
          rotate_left
          · simp only [Act.put, List.setIfInBounds_toArray, List.set_cons_zero, List.set_cons_succ, i64_w, i32_w]
            rfl
          refine pure_ (i := 10) (N := some 54) (v := undef) (a' := ?_) #[true, true, true, true, true, true, true, true, true, true, true, false, false, false, false, false, false, false] rfl rfl (by kernel_rfl) (fun _ _ _ h => h) (Or.inr ⟨by rfl, rfl⟩) ?_ ?_
          rotate_left
          · simp only [Act.put, List.setIfInBounds_toArray, List.set_cons_zero, List.set_cons_succ, i64_w, i32_w]
            rfl
          refine pure_ (i := 11) (N := some 55) (v := undef) (a' := ?_) #[true, true, true, true, true, true, true, true, true, true, true, true, false, false, false, false, false, false] rfl rfl (by kernel_rfl) (fun _ _ _ h => h) (Or.inr ⟨by rfl, rfl⟩) ?_ ?_
          rotate_left
          · simp only [Act.put, List.setIfInBounds_toArray, List.set_cons_zero, List.set_cons_succ, i64_w, i32_w]
            rfl
          refine pure_ (i := 12) (N := some 56) (v := undef) (a' := ?_) #[true, true, true, true, true, true, true, true, true, true, true, true, true, false, false, false, false, false] rfl rfl (by kernel_rfl) (fun _ _ _ h => h) (Or.inr ⟨by rfl, rfl⟩) ?_ ?_
          rotate_left
          · simp only [Act.put, List.setIfInBounds_toArray, List.set_cons_zero, List.set_cons_succ, i64_w, i32_w]
            rfl
          refine pure_ (i := 13) (N := some 57) (v := undef) (a' := ?_) #[true, true, true, true, true, true, true, true, true, true, true, true, true, true, false, false, false, false] rfl rfl (by kernel_rfl) (fun _ _ _ h => h) (Or.inr ⟨by rfl, rfl⟩) ?_ ?_
          rotate_left
          · simp only [Act.put, List.setIfInBounds_toArray, List.set_cons_zero, List.set_cons_succ, i64_w, i32_w]
            rfl
          refine pure_ (i := 14) (N := some 58) (v := undef) (a' := ?_) #[true, true, true, true, true, true, true, true, true, true, true, true, true, true, true, false, false, false] rfl rfl (by kernel_rfl) (fun _ _ _ h => h) (Or.inr ⟨by rfl, rfl⟩) ?_ ?_
          rotate_left
          · simp only [Act.put, List.setIfInBounds_toArray, List.set_cons_zero, List.set_cons_succ, i64_w, i32_w]
            rfl
          refine pure_ (i := 15) (N := some 59) (v := undef) (a' := ?_) #[true, true, true, true, true, true, true, true, true, true, true, true, true, true, true, true, false, false] rfl rfl (by kernel_rfl) (fun _ _ _ h => h) (Or.inr ⟨by rfl, rfl⟩) ?_ ?_
          rotate_left
          · simp only [Act.put, List.setIfInBounds_toArray, List.set_cons_zero, List.set_cons_succ, i64_w, i32_w]
            rfl
          refine pure_ (i := 16) (N := some 60) (v := ?_) (a' := ?_) #[true, true, true, true, true, true, true, true, true, true, true, true, true, true, true, true, true, false] rfl rfl (by kernel_rfl) (fun _ _ _ h => h) (Or.inl ⟨by rfl, ?_⟩) ?_ ?_
          rotate_left
          · intro w'
            go_simp
            with_reducible rfl
          rotate_left
          · simp only [Act.put, List.setIfInBounds_toArray, List.set_cons_zero, List.set_cons_succ, i64_w, i32_w]
            rfl
          refine pure_ (i := 17) (N := some 11) (v := ?_) (a' := ?_) #[true, true, true, true, true, true, true, true, true, true, true, true, true, true, true, true, true, true] rfl rfl (by kernel_rfl) (fun _ _ _ h => h) (Or.inl ⟨by rfl, ?_⟩) ?_ ?_
          rotate_left
          · intro w'
            go_simp
            with_reducible rfl
          rotate_left
          · simp only [Act.put, List.setIfInBounds_toArray, List.set_cons_zero, List.set_cons_succ, i64_w, i32_w]
            rfl
          refine done_ (by kernel_rfl) ?_
          go_wp2_with (fail)
          go_roundg k1
          case measure => omega
          case rel => exact ⟨i + 1, by rw [hR2.out], by rw [hxA.out.2], hA', hSn⟩
        | true =>
          have hR2 : Aside0 (risesF (l.take (i + 1)) = decide (rd l x ≥ rd l j)) := ⟨by rw [hsn, hR, Bool.true_and, decide_eq_true (by omega), Bool.not_true, Bool.false_or, hje]⟩
          have p1 : (0 ≤ j) = True := eq_true (by omega)
          have q1 : (j < (l.length : Int)) = True := eq_true (by omega)
          obtain ⟨ad2, eA, hx1⟩ := Kd.at_int (Kd.C_below hCA.out hS.out.1) j (by omega) (by omega)
          cases eA
          have hx0 : wr.drew.cell? (ad.add x.toNat) = some (.int .u64 (rd l x)) := hx0
          have hx1 : wr.drew.cell? (ad.add j.toNat) = some (.int .u64 (rd l j)) := hx1
          have hxA := Aside0.mk (And.intro hx hnx)
          clear hil hile hsn hx hj hje h0 hR hA hS hnx
          go_wp2_with (fail)
          refine start_ (n := 18) (S := fun w' => w'.cell? ⟨gl, 0, none⟩ = some (.slice (some ad) l.length c) ∧ w'.cell? (ad.add x.toNat) = some (.int .u64 (rd l x)) ∧ w'.cell? (ad.add j.toNat) = some (.int .u64 (rd l j))) (ds := []) #[false, false, false, false, false, false, false, false, false, false, false, false, false, false, false, false, false, false] (by kernel_rfl) rfl rfl ⟨hcl, hx0, hx1⟩ (fun hHeld => ?_)
          refine pure_ (i := 0) (N := some 44) (v := ?_) (a' := ?_) #[true, false, false, false, false, false, false, false, false, false, false, false, false, false, false, false, false, false] rfl rfl (by kernel_rfl) (fun _ _ _ h => h) (Or.inl ⟨by rfl, ?_⟩) ?_ ?_
          rotate_left
          · intro w'
            go_simp
            with_reducible rfl
          rotate_left
          · simp only [Act.put, List.setIfInBounds_toArray, List.set_cons_zero, List.set_cons_succ, i64_w, i32_w]
            rfl
          refine pure_ (i := 1) (N := some 45) (v := ?_) (a' := ?_) #[true, true, false, false, false, false, false, false, false, false, false, false, false, false, false, false, false, false] rfl rfl (by kernel_rfl) (fun _ _ _ h => h) (Or.inl ⟨by rfl, ?_⟩) ?_ ?_
          rotate_left
          · intro w'
            go_simp
            with_reducible rfl
          rotate_left
          · simp only [Act.put, List.setIfInBounds_toArray, List.set_cons_zero, List.set_cons_succ, i64_w, i32_w]
            rfl
          refine pure_ (i := 2) (N := some 46) (v := ?_) (a' := ?_) #[true, true, true, false, false, false, false, false, false, false, false, false, false, false, false, false, false, false] rfl rfl (by kernel_rfl) (fun _ _ _ h => h) (Or.inl ⟨by rfl, ?_⟩) ?_ ?_
          rotate_left
          · intro w'
            go_simp
            with_reducible rfl
          rotate_left
          · simp only [Act.put, List.setIfInBounds_toArray, List.set_cons_zero, List.set_cons_succ, i64_w, i32_w]
            rfl
          refine pure_ (i := 3) (N := some 47) (v := ?_) (a' := ?_) #[true, true, true, true, false, false, false, false, false, false, false, false, false, false, false, false, false, false] rfl rfl (by kernel_rfl) (fun _ _ _ h => h) (Or.inl ⟨by rfl, ?_⟩) ?_ ?_
          rotate_left
          · intro w'
            go_simp
            with_reducible rfl
          rotate_left
          · simp only [Act.put, List.setIfInBounds_toArray, List.set_cons_zero, List.set_cons_succ, i64_w, i32_w]
            rfl
          refine pure_ (i := 4) (N := some 48) (v := ?_) (a' := ?_) #[true, true, true, true, true, false, false, false, false, false, false, false, false, false, false, false, false, false] rfl rfl (by kernel_rfl) (fun _ _ _ h => h) (Or.inl ⟨by rfl, ?_⟩) ?_ ?_
          rotate_left
          · intro w'
            go_simp
            with_reducible rfl
          rotate_left
          · simp only [Act.put, List.setIfInBounds_toArray, List.set_cons_zero, List.set_cons_succ, i64_w, i32_w]
            rfl
          refine pure_ (i := 6) (N := some 50) (v := ?_) (a' := ?_) #[true, true, true, true, true, false, true, false, false, false, false, false, false, false, false, false, false, false] rfl rfl (by kernel_rfl) (fun _ _ _ h => h) (Or.inl ⟨by rfl, ?_⟩) ?_ ?_
          rotate_left
          · intro w'
            go_simp
            with_reducible rfl
          rotate_left
          · simp only [Act.put, List.setIfInBounds_toArray, List.set_cons_zero, List.set_cons_succ, i64_w, i32_w]
            rfl
          refine pure_ (i := 10) (N := some 54) (v := ?_) (a' := ?_) #[true, true, true, true, true, false, true, false, false, false, true, false, false, false, false, false, false, false] rfl rfl (by kernel_rfl) (fun _ _ _ h => h) (Or.inl ⟨by rfl, ?_⟩) ?_ ?_
          rotate_left
          · intro w'
            go_simp
            with_reducible rfl
          rotate_left
          · simp only [Act.put, List.setIfInBounds_toArray, List.set_cons_zero, List.set_cons_succ, i64_w, i32_w]
            rfl
          refine pure_ (i := 11) (N := some 55) (v := ?_) (a' := ?_) #[true, true, true, true, true, false, true, false, false, false, true, true, false, false, false, false, false, false] rfl rfl (by kernel_rfl) (fun _ _ _ h => h) (Or.inl ⟨by rfl, ?_⟩) ?_ ?_
          rotate_left
          · intro w'
            go_simp
            with_reducible rfl
          rotate_left
          · simp only [Act.put, List.setIfInBounds_toArray, List.set_cons_zero, List.set_cons_succ, i64_w, i32_w]
            rfl
          refine take_ (i := 5) (N := some 49) (v := ?_) (a' := ?_) #[true, true, true, true, true, true, true, false, false, false, true, true, false, false, false, false, false, false] rfl rfl (by kernel_rfl) (fun _ _ _ h => h) (Or.inl ⟨by rfl, ?_⟩) hHeld ?_ ?_
          rotate_left
          · rintro w' ⟨s0, s1, s2⟩
            go_simp
            with_reducible rfl
          rotate_left
          · simp only [Act.put, List.setIfInBounds_toArray, List.set_cons_zero, List.set_cons_succ, i64_w, i32_w]
            rfl
          refine pure_ (i := 7) (N := some 51) (v := ?_) (a' := ?_) #[true, true, true, true, true, true, true, true, false, false, true, true, false, false, false, false, false, false] rfl rfl (by kernel_rfl) (fun _ _ _ h => h) (Or.inl ⟨by rfl, ?_⟩) ?_ ?_
          rotate_left
          · intro w'
            go_simp
            with_reducible rfl
          rotate_left
          · simp only [Act.put, List.setIfInBounds_toArray, List.set_cons_zero, List.set_cons_succ, i64_w, i32_w]
            rfl
          refine take_ (i := 8) (N := some 52) (v := ?_) (a' := ?_) #[true, true, true, true, true, true, true, true, true, false, true, true, false, false, false, false, false, false] rfl rfl (by kernel_rfl) (fun _ _ _ h => h) (Or.inl ⟨by rfl, ?_⟩) hHeld ?_ ?_
          rotate_left
          · rintro w' ⟨s0, s1, s2⟩
            go_simp
            with_reducible rfl
          rotate_left
          · simp only [Act.put, List.setIfInBounds_toArray, List.set_cons_zero, List.set_cons_succ, i64_w, i32_w]
            rfl
          refine take_ (i := 9) (N := some 53) (v := ?_) (a' := ?_) #[true, true, true, true, true, true, true, true, true, true, true, true, false, false, false, false, false, false] rfl rfl (by kernel_rfl) (fun _ _ _ h => h) (Or.inl ⟨by rfl, ?_⟩) hHeld ?_ ?_
          rotate_left
          · rintro w' ⟨s0, s1, s2⟩
            go_simp
            with_reducible rfl
          rotate_left
          · simp only [Act.put, List.setIfInBounds_toArray, List.set_cons_zero, List.set_cons_succ, i64_w, i32_w]
            rfl
          refine pure_ (i := 12) (N := some 56) (v := ?_) (a' := ?_) #[true, true, true, true, true, true, true, true, true, true, true, true, true, false, false, false, false, false] rfl rfl (by kernel_rfl) (fun _ _ _ h => h) (Or.inl ⟨by rfl, ?_⟩) ?_ ?_
          rotate_left
          · intro w'
            go_simp
            with_reducible rfl
          rotate_left
          · simp only [Act.put, List.setIfInBounds_toArray, List.set_cons_zero, List.set_cons_succ, i64_w, i32_w]
            rfl
          refine take_ (i := 13) (N := some 57) (v := ?_) (a' := ?_) #[true, true, true, true, true, true, true, true, true, true, true, true, true, true, false, false, false, false] rfl rfl (by kernel_rfl) (fun _ _ _ h => h) (Or.inl ⟨by rfl, ?_⟩) hHeld ?_ ?_
          rotate_left
          · rintro w' ⟨s0, s1, s2⟩
            go_simp
            with_reducible rfl
          rotate_left
          · simp only [Act.put, List.setIfInBounds_toArray, List.set_cons_zero, List.set_cons_succ, i64_w, i32_w]
            rfl
          refine pure_ (i := 14) (N := some 58) (v := ?_) (a' := ?_) #[true, true, true, true, true, true, true, true, true, true, true, true, true, true, true, false, false, false] rfl rfl (by kernel_rfl) (fun _ _ _ h => h) (Or.inl ⟨by rfl, ?_⟩) ?_ ?_
          rotate_left
          · intro w'
            go_simp
            with_reducible rfl
          rotate_left
          · simp only [Act.put, List.setIfInBounds_toArray, List.set_cons_zero, List.set_cons_succ, i64_w, i32_w]
            rfl
          refine pure_ (i := 15) (N := some 59) (v := ?_) (a' := ?_) #[true, true, true, true, true, true, true, true, true, true, true, true, true, true, true, true, false, false] rfl rfl (by kernel_rfl) (fun _ _ _ h => h) (Or.inl ⟨by rfl, ?_⟩) ?_ ?_
          rotate_left
          · intro w'
            go_simp
            with_reducible rfl
          rotate_left
          · simp only [Act.put, List.setIfInBounds_toArray, List.set_cons_zero, List.set_cons_succ, i64_w, i32_w]
            rfl
          refine pure_ (i := 16) (N := some 60) (v := ?_) (a' := ?_) #[true, true, true, true, true, true, true, true, true, true, true, true, true, true, true, true, true, false] rfl rfl (by kernel_rfl) (fun _ _ _ h => h) (Or.inl ⟨by rfl, ?_⟩) ?_ ?_
          rotate_left
          · intro w'
            go_simp
            with_reducible rfl
          rotate_left
          · simp only [Act.put, List.setIfInBounds_toArray, List.set_cons_zero, List.set_cons_succ, i64_w, i32_w]
            rfl
          refine pure_ (i := 17) (N := some 11) (v := ?_) (a' := ?_) #[true, true, true, true, true, true, true, true, true, true, true, true, true, true, true, true, true, true] rfl rfl (by kernel_rfl) (fun _ _ _ h => h) (Or.inl ⟨by rfl, ?_⟩) ?_ ?_
          rotate_left
          · intro w'
            go_simp
            with_reducible rfl
          rotate_left
          · simp only [Act.put, List.setIfInBounds_toArray, List.set_cons_zero, List.set_cons_succ, i64_w, i32_w]
            rfl
          refine done_ (by kernel_rfl) ?_
          go_wp2_with (fail)
          go_roundg k1
          case measure => omega
          case rel => exact ⟨i + 1, by first | rw [hR2.out] | (rw [hR2.out]; simp), by rw [hxA.out.2], hA', hSn⟩
    · have hi : l.take i = l := List.take_of_length_le (by omega)
      have hd : decide ((i : Int) < (l.length : Int)) = false := decide_eq_false (by omega)
      have hd2 : decide (i < l.length) = false := decide_eq_false hil
      rw [hi]
      clear hi hil hA
      cases hR : risesF l
      case' false =>
        obtain ⟨hx⟩ := hxA0
        rw [backF_f hR] at hx hS
        subst hx
        clear hR
        have hS := Aside0.mk hS.out.drew
        go_wp2_with (fail)
        refine start_ (n := 20) (S := fun w' => w'.cell? ⟨gl, 0, none⟩ = some (.slice A l.length c) ∧ w'.cell? ⟨gq, 0, none⟩ = some (.slice A' m c')) (ds := []) #[false, false, false, false, false, false, false, false, false, false, false, false, false, false, false, false, false, false, false, false] (by kernel_rfl) rfl rfl ⟨(hS.out.pick1.cell 0).trans rfl, (hS.out.pick2.cell 0).trans rfl⟩ (fun hHeld => ?_)
        generalize wr.drew = wq at hS hHeld ⊢
        refine take_ (i := 2) (N := some 64) (v := ?_) (a' := ?_) #[false, false, true, false, false, false, false, false, false, false, false, false, false, false, false, false, false, false, false, false] rfl rfl (by kernel_rfl) (fun _ _ _ h => h) (Or.inl ⟨by rfl, ?_⟩) hHeld ?_ ?_
        rotate_left
        · rintro w' ⟨s0, s1⟩
          go_simp
          with_reducible rfl
        rotate_left
        · simp only [Act.put, List.setIfInBounds_toArray, List.set_cons_zero, List.set_cons_succ, i64_w, i32_w]
          rfl
        refine one_ (i := 0) (N := some 62) #[true, false, true, false, false, false, false, false, false, false, false, false, false, false, false, false, false, false, false, false] rfl rfl (by kernel_rfl) (by decide) (fun K hK => ?_)
        refine goes_ Try.func20 (by kernel_rfl) rfl #[.pointer (some ⟨gw, 0, none⟩)] (by rfl) rfl rfl (by (try simp only [List.map_toArray, List.map_cons, List.map_nil]); first | done | rfl) ?_
        refine (buf_Bytes w _ gw _ _ hS.out (by have := hlA.out; omega)).mono ?_
        rintro e wq ⟨v62, rfl, h1⟩
        refine ⟨_, rfl, ?_⟩
        obtain ⟨A62, c62, rfl, -, -⟩ := row_S h1
        have hS := Aside0.mk h1
        clear h1
        refine hK.out _ _ ⟨(hS.out.pick2.cell 0).trans rfl, (hS.out.pick3.cell 0).trans rfl⟩ (fun hHeld => ?_)
        clear hK K
        refine norm_ (a' := ?_) ?_ ?_
        rotate_left
        · show Act.put _ (some 62) _ = _
          simp only [Act.put, List.setIfInBounds_toArray, List.set_cons_zero, List.set_cons_succ, i64_w, i32_w]
          rfl
        refine join_ (σ := Unit) 16 #[true, true, true, true, false, false, false, false, false, false, false, false, false, false, false, false, false, false, false, false] (fun s => [(63, .string (strOfNums (fbytesL l))), (65, .string (strOfNums (fbytesL l)))]) (fun s w' => Sep.Sep w w' [row (Kd.int .u8) 5 (.slice A62 (fbytesL l).length c62) (fbytesL l), buf gw (fbytesL l), blk gl #[.slice A l.length c] 26, blk gq #[.slice A' m c'] 26, row (Kd.int .u64) 39 (.slice A' m c') [], blk (gl + 1) #[.int .i64 n] 3]) ?_ ?_
        rotate_left
        · intro hCont
          refine two_ (i := 1) (j := 3) (Ni := some 63) (Nj := some 65) #[true, true, true, false, false, false, false, false, false, false, false, false, false, false, false, false, false, false, false, false] #[true, false, true, true, false, false, false, false, false, false, false, false, false, false, false, false, false, false, false, false] rfl rfl rfl rfl (by kernel_rfl) (by decide) (by decide) (fun K hK => ?_) (fun K hK => ?_)
          · skip
            obtain ⟨bs_, hR_⟩ := hS.out.row_R
            have hcv : (Go.convert 27 9 (.slice A62 (fbytesL l).length c62)).run Try.prog wq = .ok (.string (strOfNums (fbytesL l))) wq := own_string (P := Try.prog) Try.underlying27 Try.underlying5 Try.underlying9 (Kd.own_of_R hR_)
            refine value_ (w1 := ?_) (v := ?_) (by rfl) rfl ?_ ?_
            rotate_left 2
            · go_simp
              constructor
              · rfl
              · rfl
            clear hcv hR_
            refine hK.out _ _ ⟨(hS.out.pick2.cell 0).trans rfl, (hS.out.pick3.cell 0).trans rfl⟩ (fun hHeld => ?_)
            clear hK K
            refine norm_ (a' := ?_) ?_ ?_
            rotate_left
            · show Act.put _ (some 63) _ = _
              simp only [Act.put, List.setIfInBounds_toArray, List.set_cons_zero, List.set_cons_succ, i64_w, i32_w]
              rfl
            refine one_ (i := 3) (N := some 65) #[true, true, true, true, false, false, false, false, false, false, false, false, false, false, false, false, false, false, false, false] rfl rfl (by kernel_rfl) (by decide) (fun K hK => ?_)
            refine goes_ Try.func24 (by kernel_rfl) rfl #[.slice A l.length c] (by rfl) rfl rfl (by (try simp only [List.map_toArray, List.map_cons, List.map_nil]); first | done | rfl) ?_
            refine (fascicleref12_Text.calls kt A c l _ _ (Kd.C_below hCA.out hS.out.1) hcA.out.1 hkA.out.1).mono ?_
            rintro e wq ⟨rfl, hb⟩
            refine ⟨_, rfl, ?_⟩
            have hS := Aside0.mk (hS.out.below hb)
            clear hb
            refine hK.out _ _ ⟨(hS.out.pick2.cell 0).trans rfl, (hS.out.pick3.cell 0).trans rfl⟩ (fun hHeld => ?_)
            clear hK K
            refine norm_ (a' := ?_) ?_ ?_
            rotate_left
            · show Act.put _ (some 65) _ = _
              simp only [Act.put, List.setIfInBounds_toArray, List.set_cons_zero, List.set_cons_succ, i64_w, i32_w]
              rfl
            exact norm_ (by first | (simp only [putAll, Act.put, List.setIfInBounds_toArray, List.set_cons_zero, List.set_cons_succ]; done) | (simp only [putAll, Act.put, List.setIfInBounds_toArray, List.set_cons_zero, List.set_cons_succ]; rfl)) (hCont () _ hS.out)
          · skip
            refine goes_ Try.func24 (by kernel_rfl) rfl #[.slice A l.length c] (by rfl) rfl rfl (by (try simp only [List.map_toArray, List.map_cons, List.map_nil]); first | done | rfl) ?_
            refine (fascicleref12_Text.calls kt A c l _ _ (Kd.C_below hCA.out hS.out.1) hcA.out.1 hkA.out.1).mono ?_
            rintro e wq ⟨rfl, hb⟩
            refine ⟨_, rfl, ?_⟩
            have hS := Aside0.mk (hS.out.below hb)
            clear hb
            refine hK.out _ _ ⟨(hS.out.pick2.cell 0).trans rfl, (hS.out.pick3.cell 0).trans rfl⟩ (fun hHeld => ?_)
            clear hK K
            refine norm_ (a' := ?_) ?_ ?_
            rotate_left
            · show Act.put _ (some 65) _ = _
              simp only [Act.put, List.setIfInBounds_toArray, List.set_cons_zero, List.set_cons_succ, i64_w, i32_w]
              rfl
            refine one_ (i := 1) (N := some 63) #[true, true, true, true, false, false, false, false, false, false, false, false, false, false, false, false, false, false, false, false] rfl rfl (by kernel_rfl) (by decide) (fun K hK => ?_)
            obtain ⟨bs_, hR_⟩ := hS.out.row_R
            have hcv : (Go.convert 27 9 (.slice A62 (fbytesL l).length c62)).run Try.prog wq = .ok (.string (strOfNums (fbytesL l))) wq := own_string (P := Try.prog) Try.underlying27 Try.underlying5 Try.underlying9 (Kd.own_of_R hR_)
            refine value_ (w1 := ?_) (v := ?_) (by rfl) rfl ?_ ?_
            rotate_left 2
            · go_simp
              constructor
              · rfl
              · rfl
            clear hcv hR_
            refine hK.out _ _ ⟨(hS.out.pick2.cell 0).trans rfl, (hS.out.pick3.cell 0).trans rfl⟩ (fun hHeld => ?_)
            clear hK K
            refine norm_ (a' := ?_) ?_ ?_
            rotate_left
            · show Act.put _ (some 63) _ = _
              simp only [Act.put, List.setIfInBounds_toArray, List.set_cons_zero, List.set_cons_succ, i64_w, i32_w]
              rfl
            exact norm_ (by first | (simp only [putAll, Act.put, List.setIfInBounds_toArray, List.set_cons_zero, List.set_cons_succ]; done) | (simp only [putAll, Act.put, List.setIfInBounds_toArray, List.set_cons_zero, List.set_cons_succ]; rfl)) (hCont () _ hS.out)
        rintro ⟨⟩ wq hF
        have hHeld := And.intro ((hF.pick2.cell 0).trans rfl : wq.cell? ⟨gl, 0, none⟩ = some (.slice A l.length c)) ((hF.pick3.cell 0).trans rfl : wq.cell? ⟨gq, 0, none⟩ = some (.slice A' m c'))
        have hS := Aside0.mk hF
        clear hF
        refine norm_ (a' := ?_) ?_ ?_
        rotate_left
        · simp only [putAll, Act.put, List.setIfInBounds_toArray, List.set_cons_zero, List.set_cons_succ]
          rfl
        refine pure_ (i := 4) (N := some 66) (v := ?_) (a' := ?_) #[true, true, true, true, true, false, false, false, false, false, false, false, false, false, false, false, false, false, false, false] rfl rfl (by kernel_rfl) (fun _ _ _ h => h) (Or.inl ⟨by rfl, ?_⟩) ?_ ?_
        rotate_left
        · intro w'
          go_simp
          with_reducible rfl
        rotate_left
        · simp only [Act.put, List.setIfInBounds_toArray, List.set_cons_zero, List.set_cons_succ, i64_w, i32_w]
          rfl
        refine pure_ (i := 5) (N := some 67) (v := ?_) (a' := ?_) #[true, true, true, true, true, true, false, false, false, false, false, false, false, false, false, false, false, false, false, false] rfl rfl (by kernel_rfl) (fun _ _ _ h => h) (Or.inl ⟨by rfl, ?_⟩) ?_ ?_
        rotate_left
        · intro w'
          go_simp
          with_reducible rfl
        rotate_left
        · simp only [Act.put, List.setIfInBounds_toArray, List.set_cons_zero, List.set_cons_succ, i64_w, i32_w]
          rfl
        refine pure_ (i := 6) (N := some 68) (v := ?_) (a' := ?_) #[true, true, true, true, true, true, true, false, false, false, false, false, false, false, false, false, false, false, false, false] rfl rfl (by kernel_rfl) (fun _ _ _ h => h) (Or.inl ⟨by rfl, ?_⟩) ?_ ?_
        rotate_left
        · intro w'
          go_simp
          with_reducible rfl
        rotate_left
        · simp only [Act.put, List.setIfInBounds_toArray, List.set_cons_zero, List.set_cons_succ, i64_w, i32_w]
          rfl
        refine pure_ (i := 7) (N := some 69) (v := ?_) (a' := ?_) #[true, true, true, true, true, true, true, true, false, false, false, false, false, false, false, false, false, false, false, false] rfl rfl (by kernel_rfl) (fun _ _ _ h => h) (Or.inl ⟨by rfl, ?_⟩) ?_ ?_
        rotate_left
        · intro w'
          go_simp
          with_reducible rfl
        rotate_left
        · simp only [Act.put, List.setIfInBounds_toArray, List.set_cons_zero, List.set_cons_succ, i64_w, i32_w]
          rfl
        refine pure_ (i := 8) (N := some 70) (v := ?_) (a' := ?_) #[true, true, true, true, true, true, true, true, true, false, false, false, false, false, false, false, false, false, false, false] rfl rfl (by kernel_rfl) (fun _ _ _ h => h) (Or.inl ⟨by rfl, ?_⟩) ?_ ?_
        rotate_left
        · intro w'
          go_simp
          with_reducible rfl
        rotate_left
        · simp only [Act.put, List.setIfInBounds_toArray, List.set_cons_zero, List.set_cons_succ, i64_w, i32_w]
          rfl
        refine pure_ (i := 9) (N := some 71) (v := ?_) (a' := ?_) #[true, true, true, true, true, true, true, true, true, true, false, false, false, false, false, false, false, false, false, false] rfl rfl (by kernel_rfl) (fun _ _ _ h => h) (Or.inl ⟨by rfl, ?_⟩) ?_ ?_
        rotate_left
        · intro w'
          go_simp
          with_reducible rfl
        rotate_left
        · simp only [Act.put, List.setIfInBounds_toArray, List.set_cons_zero, List.set_cons_succ, i64_w, i32_w]
          rfl
        refine pure_ (i := 10) (N := some 72) (v := ?_) (a' := ?_) #[true, true, true, true, true, true, true, true, true, true, true, false, false, false, false, false, false, false, false, false] rfl rfl (by kernel_rfl) (fun _ _ _ h => h) (Or.inl ⟨by rfl, ?_⟩) ?_ ?_
        rotate_left
        · intro w'
          go_simp
          with_reducible rfl
        rotate_left
        · simp only [Act.put, List.setIfInBounds_toArray, List.set_cons_zero, List.set_cons_succ, i64_w, i32_w]
          rfl
        refine pure_ (i := 11) (N := some 73) (v := ?_) (a' := ?_) #[true, true, true, true, true, true, true, true, true, true, true, true, false, false, false, false, false, false, false, false] rfl rfl (by kernel_rfl) (fun _ _ _ h => h) (Or.inl ⟨by rfl, ?_⟩) ?_ ?_
        rotate_left
        · intro w'
          go_simp
          with_reducible rfl
        rotate_left
        · simp only [Act.put, List.setIfInBounds_toArray, List.set_cons_zero, List.set_cons_succ, i64_w, i32_w]
          rfl
        refine pure_ (i := 12) (N := some 74) (v := ?_) (a' := ?_) #[true, true, true, true, true, true, true, true, true, true, true, true, true, false, false, false, false, false, false, false] rfl rfl (by kernel_rfl) (fun _ _ _ h => h) (Or.inl ⟨by rfl, ?_⟩) ?_ ?_
        rotate_left
        · intro w'
          go_simp
          with_reducible rfl
        rotate_left
        · simp only [Act.put, List.setIfInBounds_toArray, List.set_cons_zero, List.set_cons_succ, i64_w, i32_w]
          rfl
        refine pure_ (i := 13) (N := some 75) (v := ?_) (a' := ?_) #[true, true, true, true, true, true, true, true, true, true, true, true, true, true, false, false, false, false, false, false] rfl rfl (by kernel_rfl) (fun _ _ _ h => h) (Or.inl ⟨by rfl, ?_⟩) ?_ ?_
        rotate_left
        · intro w'
          go_simp
          with_reducible rfl
        rotate_left
        · simp only [Act.put, List.setIfInBounds_toArray, List.set_cons_zero, List.set_cons_succ, i64_w, i32_w]
          rfl
        refine pure_ (i := 14) (N := some 76) (v := undef) (a' := ?_) #[true, true, true, true, true, true, true, true, true, true, true, true, true, true, true, false, false, false, false, false] rfl rfl (by kernel_rfl) (fun _ _ _ h => h) (Or.inr ⟨by rfl, rfl⟩) ?_ ?_
        rotate_left
        · simp only [Act.put, List.setIfInBounds_toArray, List.set_cons_zero, List.set_cons_succ, i64_w, i32_w]
          rfl
        refine pure_ (i := 15) (N := some 77) (v := undef) (a' := ?_) #[true, true, true, true, true, true, true, true, true, true, true, true, true, true, true, true, false, false, false, false] rfl rfl (by kernel_rfl) (fun _ _ _ h => h) (Or.inr ⟨by rfl, rfl⟩) ?_ ?_
        rotate_left
        · simp only [Act.put, List.setIfInBounds_toArray, List.set_cons_zero, List.set_cons_succ, i64_w, i32_w]
          rfl
        refine pure_ (i := 16) (N := some 78) (v := undef) (a' := ?_) #[true, true, true, true, true, true, true, true, true, true, true, true, true, true, true, true, true, false, false, false] rfl rfl (by kernel_rfl) (fun _ _ _ h => h) (Or.inr ⟨by rfl, rfl⟩) ?_ ?_
        rotate_left
        · simp only [Act.put, List.setIfInBounds_toArray, List.set_cons_zero, List.set_cons_succ, i64_w, i32_w]
          rfl
        refine pure_ (i := 17) (N := some 79) (v := undef) (a' := ?_) #[true, true, true, true, true, true, true, true, true, true, true, true, true, true, true, true, true, true, false, false] rfl rfl (by kernel_rfl) (fun _ _ _ h => h) (Or.inr ⟨by rfl, rfl⟩) ?_ ?_
        rotate_left
        · simp only [Act.put, List.setIfInBounds_toArray, List.set_cons_zero, List.set_cons_succ, i64_w, i32_w]
          rfl
        refine pure_ (i := 18) (N := some 80) (v := ?_) (a' := ?_) #[true, true, true, true, true, true, true, true, true, true, true, true, true, true, true, true, true, true, true, false] rfl rfl (by kernel_rfl) (fun _ _ _ h => h) (Or.inl ⟨by rfl, ?_⟩) ?_ ?_
        rotate_left
        · intro w'
          go_simp
          with_reducible rfl
        rotate_left
        · simp only [Act.put, List.setIfInBounds_toArray, List.set_cons_zero, List.set_cons_succ, i64_w, i32_w]
          rfl
        refine pure_ (i := 19) (N := some 81) (v := ?_) (a' := ?_) #[true, true, true, true, true, true, true, true, true, true, true, true, true, true, true, true, true, true, true, true] rfl rfl (by kernel_rfl) (fun _ _ _ h => h) (Or.inl ⟨by rfl, ?_⟩) ?_ ?_
        rotate_left
        · intro w'
          go_simp
          with_reducible rfl
        rotate_left
        · simp only [Act.put, List.setIfInBounds_toArray, List.set_cons_zero, List.set_cons_succ, i64_w, i32_w]
          rfl
        refine done_ (by kernel_rfl) ?_
        have hT := Aside0.mk (show Sep.Sep w wq [blk (gl + 1) #[.int .i64 n] 3] from hS.out.tail.tail.tail.tail.tail)
        clear hS hHeld
      case' true =>
        obtain ⟨hx⟩ := hxA0
        rw [backF_t hR] at hx hS
        subst hx
        clear hR
        obtain rfl := (row_C hS.out.pick3).1
        have hS := Aside0.mk hS.out.drew
        go_wp2_with (fail)
        refine start_ (n := 20) (S := fun w' => w'.cell? ⟨gl, 0, none⟩ = some (.slice A l.length c) ∧ w'.cell? ⟨gq, 0, none⟩ = some (.slice A' l.length c')) (ds := []) #[false, false, false, false, false, false, false, false, false, false, false, false, false, false, false, false, false, false, false, false] (by kernel_rfl) rfl rfl ⟨(hS.out.pick1.cell 0).trans rfl, (hS.out.pick2.cell 0).trans rfl⟩ (fun hHeld => ?_)
        generalize wr.drew = wq at hS hHeld ⊢
        refine take_ (i := 2) (N := some 64) (v := ?_) (a' := ?_) #[false, false, true, false, false, false, false, false, false, false, false, false, false, false, false, false, false, false, false, false] rfl rfl (by kernel_rfl) (fun _ _ _ h => h) (Or.inl ⟨by rfl, ?_⟩) hHeld ?_ ?_
        rotate_left
        · rintro w' ⟨s0, s1⟩
          go_simp
          with_reducible rfl
        rotate_left
        · simp only [Act.put, List.setIfInBounds_toArray, List.set_cons_zero, List.set_cons_succ, i64_w, i32_w]
          rfl
        refine one_ (i := 0) (N := some 62) #[true, false, true, false, false, false, false, false, false, false, false, false, false, false, false, false, false, false, false, false] rfl rfl (by kernel_rfl) (by decide) (fun K hK => ?_)
        refine goes_ Try.func20 (by kernel_rfl) rfl #[.pointer (some ⟨gw, 0, none⟩)] (by rfl) rfl rfl (by (try simp only [List.map_toArray, List.map_cons, List.map_nil]); first | done | rfl) ?_
        refine (buf_Bytes w _ gw _ _ hS.out (by have := hlA.out; omega)).mono ?_
        rintro e wq ⟨v62, rfl, h1⟩
        refine ⟨_, rfl, ?_⟩
        obtain ⟨A62, c62, rfl, -, -⟩ := row_S h1
        have hS := Aside0.mk h1
        clear h1
        refine hK.out _ _ ⟨(hS.out.pick2.cell 0).trans rfl, (hS.out.pick3.cell 0).trans rfl⟩ (fun hHeld => ?_)
        clear hK K
        refine norm_ (a' := ?_) ?_ ?_
        rotate_left
        · show Act.put _ (some 62) _ = _
          simp only [Act.put, List.setIfInBounds_toArray, List.set_cons_zero, List.set_cons_succ, i64_w, i32_w]
          rfl
        refine join_ (σ := Unit) 16 #[true, true, true, true, false, false, false, false, false, false, false, false, false, false, false, false, false, false, false, false] (fun s => [(63, .string (strOfNums (fbytesL l))), (65, .string (strOfNums (fbytesL l)))]) (fun s w' => Sep.Sep w w' [row (Kd.int .u8) 5 (.slice A62 (fbytesL l).length c62) (fbytesL l), buf gw (fbytesL l), blk gl #[.slice A l.length c] 26, blk gq #[.slice A' l.length c'] 26, row (Kd.int .u64) 39 (.slice A' l.length c') l, blk (gl + 1) #[.int .i64 n] 3]) ?_ ?_
        rotate_left
        · intro hCont
          refine two_ (i := 1) (j := 3) (Ni := some 63) (Nj := some 65) #[true, true, true, false, false, false, false, false, false, false, false, false, false, false, false, false, false, false, false, false] #[true, false, true, true, false, false, false, false, false, false, false, false, false, false, false, false, false, false, false, false] rfl rfl rfl rfl (by kernel_rfl) (by decide) (by decide) (fun K hK => ?_) (fun K hK => ?_)
          · skip
            obtain ⟨bs_, hR_⟩ := hS.out.row_R
            have hcv : (Go.convert 27 9 (.slice A62 (fbytesL l).length c62)).run Try.prog wq = .ok (.string (strOfNums (fbytesL l))) wq := own_string (P := Try.prog) Try.underlying27 Try.underlying5 Try.underlying9 (Kd.own_of_R hR_)
            refine value_ (w1 := ?_) (v := ?_) (by rfl) rfl ?_ ?_
            rotate_left 2
            · go_simp
              constructor
              · rfl
              · rfl
            clear hcv hR_
            refine hK.out _ _ ⟨(hS.out.pick2.cell 0).trans rfl, (hS.out.pick3.cell 0).trans rfl⟩ (fun hHeld => ?_)
            clear hK K
            refine norm_ (a' := ?_) ?_ ?_
            rotate_left
            · show Act.put _ (some 63) _ = _
              simp only [Act.put, List.setIfInBounds_toArray, List.set_cons_zero, List.set_cons_succ, i64_w, i32_w]
              rfl
            refine one_ (i := 3) (N := some 65) #[true, true, true, true, false, false, false, false, false, false, false, false, false, false, false, false, false, false, false, false] rfl rfl (by kernel_rfl) (by decide) (fun K hK => ?_)
            refine goes_ Try.func24 (by kernel_rfl) rfl #[.slice A l.length c] (by rfl) rfl rfl (by (try simp only [List.map_toArray, List.map_cons, List.map_nil]); first | done | rfl) ?_
            refine (fascicleref12_Text.calls kt A c l _ _ (Kd.C_below hCA.out hS.out.1) hcA.out.1 hkA.out.1).mono ?_
            rintro e wq ⟨rfl, hb⟩
            refine ⟨_, rfl, ?_⟩
            have hS := Aside0.mk (hS.out.below hb)
            clear hb
            refine hK.out _ _ ⟨(hS.out.pick2.cell 0).trans rfl, (hS.out.pick3.cell 0).trans rfl⟩ (fun hHeld => ?_)
            clear hK K
            refine norm_ (a' := ?_) ?_ ?_
            rotate_left
            · show Act.put _ (some 65) _ = _
              simp only [Act.put, List.setIfInBounds_toArray, List.set_cons_zero, List.set_cons_succ, i64_w, i32_w]
              rfl
            exact norm_ (by first | (simp only [putAll, Act.put, List.setIfInBounds_toArray, List.set_cons_zero, List.set_cons_succ]; done) | (simp only [putAll, Act.put, List.setIfInBounds_toArray, List.set_cons_zero, List.set_cons_succ]; rfl)) (hCont () _ hS.out)
          · skip
            refine goes_ Try.func24 (by kernel_rfl) rfl #[.slice A l.length c] (by rfl) rfl rfl (by (try simp only [List.map_toArray, List.map_cons, List.map_nil]); first | done | rfl) ?_
            refine (fascicleref12_Text.calls kt A c l _ _ (Kd.C_below hCA.out hS.out.1) hcA.out.1 hkA.out.1).mono ?_
            rintro e wq ⟨rfl, hb⟩
            refine ⟨_, rfl, ?_⟩
            have hS := Aside0.mk (hS.out.below hb)
            clear hb
            refine hK.out _ _ ⟨(hS.out.pick2.cell 0).trans rfl, (hS.out.pick3.cell 0).trans rfl⟩ (fun hHeld => ?_)
            clear hK K
            refine norm_ (a' := ?_) ?_ ?_
            rotate_left
            · show Act.put _ (some 65) _ = _
              simp only [Act.put, List.setIfInBounds_toArray, List.set_cons_zero, List.set_cons_succ, i64_w, i32_w]
              rfl
            refine one_ (i := 1) (N := some 63) #[true, true, true, true, false, false, false, false, false, false, false, false, false, false, false, false, false, false, false, false] rfl rfl (by kernel_rfl) (by decide) (fun K hK => ?_)
            obtain ⟨bs_, hR_⟩ := hS.out.row_R
            have hcv : (Go.convert 27 9 (.slice A62 (fbytesL l).length c62)).run Try.prog wq = .ok (.string (strOfNums (fbytesL l))) wq := own_string (P := Try.prog) Try.underlying27 Try.underlying5 Try.underlying9 (Kd.own_of_R hR_)
            refine value_ (w1 := ?_) (v := ?_) (by rfl) rfl ?_ ?_
            rotate_left 2
            · go_simp
              constructor
              · rfl
              · rfl
            clear hcv hR_
            refine hK.out _ _ ⟨(hS.out.pick2.cell 0).trans rfl, (hS.out.pick3.cell 0).trans rfl⟩ (fun hHeld => ?_)
            clear hK K
            refine norm_ (a' := ?_) ?_ ?_
            rotate_left
            · show Act.put _ (some 63) _ = _
              simp only [Act.put, List.setIfInBounds_toArray, List.set_cons_zero, List.set_cons_succ, i64_w, i32_w]
              rfl
            exact norm_ (by first | (simp only [putAll, Act.put, List.setIfInBounds_toArray, List.set_cons_zero, List.set_cons_succ]; done) | (simp only [putAll, Act.put, List.setIfInBounds_toArray, List.set_cons_zero, List.set_cons_succ]; rfl)) (hCont () _ hS.out)
        rintro ⟨⟩ wq hF
        have hHeld := And.intro ((hF.pick2.cell 0).trans rfl : wq.cell? ⟨gl, 0, none⟩ = some (.slice A l.length c)) ((hF.pick3.cell 0).trans rfl : wq.cell? ⟨gq, 0, none⟩ = some (.slice A' l.length c'))
        have hS := Aside0.mk hF
        clear hF
        refine norm_ (a' := ?_) ?_ ?_
        rotate_left
        · simp only [putAll, Act.put, List.setIfInBounds_toArray, List.set_cons_zero, List.set_cons_succ]
          rfl
        refine pure_ (i := 4) (N := some 66) (v := ?_) (a' := ?_) #[true, true, true, true, true, false, false, false, false, false, false, false, false, false, false, false, false, false, false, false] rfl rfl (by kernel_rfl) (fun _ _ _ h => h) (Or.inl ⟨by rfl, ?_⟩) ?_ ?_
        rotate_left
        · intro w'
          go_simp
          with_reducible rfl
        rotate_left
        · simp only [Act.put, List.setIfInBounds_toArray, List.set_cons_zero, List.set_cons_succ, i64_w, i32_w]
          rfl
        refine pure_ (i := 5) (N := some 67) (v := ?_) (a' := ?_) #[true, true, true, true, true, true, false, false, false, false, false, false, false, false, false, false, false, false, false, false] rfl rfl (by kernel_rfl) (fun _ _ _ h => h) (Or.inl ⟨by rfl, ?_⟩) ?_ ?_
        rotate_left
        · intro w'
          go_simp
          with_reducible rfl
        rotate_left
        · simp only [Act.put, List.setIfInBounds_toArray, List.set_cons_zero, List.set_cons_succ, i64_w, i32_w]
          rfl
        refine pure_ (i := 6) (N := some 68) (v := ?_) (a' := ?_) #[true, true, true, true, true, true, true, false, false, false, false, false, false, false, false, false, false, false, false, false] rfl rfl (by kernel_rfl) (fun _ _ _ h => h) (Or.inl ⟨by rfl, ?_⟩) ?_ ?_
        rotate_left
        · intro w'
          go_simp
          with_reducible rfl
        rotate_left
        · simp only [Act.put, List.setIfInBounds_toArray, List.set_cons_zero, List.set_cons_succ, i64_w, i32_w]
          rfl
        refine pure_ (i := 7) (N := some 69) (v := ?_) (a' := ?_) #[true, true, true, true, true, true, true, true, false, false, false, false, false, false, false, false, false, false, false, false] rfl rfl (by kernel_rfl) (fun _ _ _ h => h) (Or.inl ⟨by rfl, ?_⟩) ?_ ?_
        rotate_left
        · intro w'
          go_simp
          with_reducible rfl
        rotate_left
        · simp only [Act.put, List.setIfInBounds_toArray, List.set_cons_zero, List.set_cons_succ, i64_w, i32_w]
          rfl
        refine pure_ (i := 8) (N := some 70) (v := ?_) (a' := ?_) #[true, true, true, true, true, true, true, true, true, false, false, false, false, false, false, false, false, false, false, false] rfl rfl (by kernel_rfl) (fun _ _ _ h => h) (Or.inl ⟨by rfl, ?_⟩) ?_ ?_
        rotate_left
        · intro w'
          go_simp
          with_reducible rfl
        rotate_left
        · simp only [Act.put, List.setIfInBounds_toArray, List.set_cons_zero, List.set_cons_succ, i64_w, i32_w]
          rfl
        refine pure_ (i := 9) (N := some 71) (v := ?_) (a' := ?_) #[true, true, true, true, true, true, true, true, true, true, false, false, false, false, false, false, false, false, false, false] rfl rfl (by kernel_rfl) (fun _ _ _ h => h) (Or.inl ⟨by rfl, ?_⟩) ?_ ?_
        rotate_left
        · intro w'
          go_simp
          with_reducible rfl
        rotate_left
        · simp only [Act.put, List.setIfInBounds_toArray, List.set_cons_zero, List.set_cons_succ, i64_w, i32_w]
          rfl
        refine pure_ (i := 10) (N := some 72) (v := ?_) (a' := ?_) #[true, true, true, true, true, true, true, true, true, true, true, false, false, false, false, false, false, false, false, false] rfl rfl (by kernel_rfl) (fun _ _ _ h => h) (Or.inl ⟨by rfl, ?_⟩) ?_ ?_
        rotate_left
        · intro w'
          go_simp
          with_reducible rfl
        rotate_left
        · simp only [Act.put, List.setIfInBounds_toArray, List.set_cons_zero, List.set_cons_succ, i64_w, i32_w]
          rfl
        refine pure_ (i := 11) (N := some 73) (v := ?_) (a' := ?_) #[true, true, true, true, true, true, true, true, true, true, true, true, false, false, false, false, false, false, false, false] rfl rfl (by kernel_rfl) (fun _ _ _ h => h) (Or.inl ⟨by rfl, ?_⟩) ?_ ?_
        rotate_left
        · intro w'
          go_simp
          with_reducible rfl
        rotate_left
        · simp only [Act.put, List.setIfInBounds_toArray, List.set_cons_zero, List.set_cons_succ, i64_w, i32_w]
          rfl
        refine pure_ (i := 12) (N := some 74) (v := ?_) (a' := ?_) #[true, true, true, true, true, true, true, true, true, true, true, true, true, false, false, false, false, false, false, false] rfl rfl (by kernel_rfl) (fun _ _ _ h => h) (Or.inl ⟨by rfl, ?_⟩) ?_ ?_
        rotate_left
        · intro w'
          go_simp
          with_reducible rfl
        rotate_left
        · simp only [Act.put, List.setIfInBounds_toArray, List.set_cons_zero, List.set_cons_succ, i64_w, i32_w]
          rfl
        refine pure_ (i := 13) (N := some 75) (v := ?_) (a' := ?_) #[true, true, true, true, true, true, true, true, true, true, true, true, true, true, false, false, false, false, false, false] rfl rfl (by kernel_rfl) (fun _ _ _ h => h) (Or.inl ⟨by rfl, ?_⟩) ?_ ?_
        rotate_left
        · intro w'
          go_simp
          with_reducible rfl
        rotate_left
        · simp only [Act.put, List.setIfInBounds_toArray, List.set_cons_zero, List.set_cons_succ, i64_w, i32_w]
          rfl
        refine take_ (i := 14) (N := some 76) (v := ?_) (a' := ?_) #[true, true, true, true, true, true, true, true, true, true, true, true, true, true, true, false, false, false, false, false] rfl rfl (by kernel_rfl) (fun _ _ _ h => h) (Or.inl ⟨by rfl, ?_⟩) hHeld ?_ ?_
        rotate_left
        · rintro w' ⟨s0, s1⟩
          go_simp
          with_reducible rfl
        rotate_left
        · simp only [Act.put, List.setIfInBounds_toArray, List.set_cons_zero, List.set_cons_succ, i64_w, i32_w]
          rfl
        refine take_ (i := 15) (N := some 77) (v := ?_) (a' := ?_) #[true, true, true, true, true, true, true, true, true, true, true, true, true, true, true, true, false, false, false, false] rfl rfl (by kernel_rfl) (fun _ _ _ h => h) (Or.inl ⟨by rfl, ?_⟩) hHeld ?_ ?_
        rotate_left
        · rintro w' ⟨s0, s1⟩
          go_simp
          with_reducible rfl
        rotate_left
        · simp only [Act.put, List.setIfInBounds_toArray, List.set_cons_zero, List.set_cons_succ, i64_w, i32_w]
          rfl
        refine one_ (i := 16) (N := some 78) #[true, true, true, true, true, true, true, true, true, true, true, true, true, true, true, true, true, false, false, false] rfl rfl (by kernel_rfl) (by decide) (fun K hK => ?_)
        refine goes_ Try.func25 (by kernel_rfl) rfl #[.slice A' l.length c', .slice A l.length c] (by rfl) rfl rfl (by (try simp only [List.map_toArray, List.map_cons, List.map_nil]); first | done | rfl) ?_
        refine (fasciclelaw12_same.calls ks A' c' l A c l _ _ (row_C hS.out.pick4).2.2 (row_C hS.out.pick4).2.1 (Kd.C_below hCA.out hS.out.1) hcA.out.1 hkA.out.2).mono ?_
        rintro e wq ⟨rfl, hb⟩
        refine ⟨_, rfl, ?_⟩
        have hS := Aside0.mk (hS.out.below hb.below)
        clear hb
        refine hK.out _ _ ⟨(hS.out.pick2.cell 0).trans rfl, (hS.out.pick3.cell 0).trans rfl⟩ (fun hHeld => ?_)
        clear hK K
        refine norm_ (a' := ?_) ?_ ?_
        rotate_left
        · show Act.put _ (some 78) _ = _
          simp only [Act.put, List.setIfInBounds_toArray, List.set_cons_zero, List.set_cons_succ, i64_w, i32_w]
          rfl
        refine pure_ (i := 17) (N := some 79) (v := ?_) (a' := ?_) #[true, true, true, true, true, true, true, true, true, true, true, true, true, true, true, true, true, true, false, false] rfl rfl (by kernel_rfl) (fun _ _ _ h => h) (Or.inl ⟨by rfl, ?_⟩) ?_ ?_
        rotate_left
        · intro w'
          go_simp
          with_reducible rfl
        rotate_left
        · simp only [Act.put, List.setIfInBounds_toArray, List.set_cons_zero, List.set_cons_succ, i64_w, i32_w]
          rfl
        refine pure_ (i := 18) (N := some 80) (v := ?_) (a' := ?_) #[true, true, true, true, true, true, true, true, true, true, true, true, true, true, true, true, true, true, true, false] rfl rfl (by kernel_rfl) (fun _ _ _ h => h) (Or.inl ⟨by rfl, ?_⟩) ?_ ?_
        rotate_left
        · intro w'
          go_simp
          with_reducible rfl
        rotate_left
        · simp only [Act.put, List.setIfInBounds_toArray, List.set_cons_zero, List.set_cons_succ, i64_w, i32_w]
          rfl
        refine pure_ (i := 19) (N := some 81) (v := ?_) (a' := ?_) #[true, true, true, true, true, true, true, true, true, true, true, true, true, true, true, true, true, true, true, true] rfl rfl (by kernel_rfl) (fun _ _ _ h => h) (Or.inl ⟨by rfl, ?_⟩) ?_ ?_
        rotate_left
        · intro w'
          go_simp
          with_reducible rfl
        rotate_left
        · simp only [Act.put, List.setIfInBounds_toArray, List.set_cons_zero, List.set_cons_succ, i64_w, i32_w]
          rfl
        refine done_ (by kernel_rfl) ?_
        have hT := Aside0.mk (show Sep.Sep w wq [blk (gl + 1) #[.int .i64 n] 3] from hS.out.tail.tail.tail.tail.tail)
        clear hS hHeld
      all_goals (
        clear hkA
        have hSy := Aside0.mk (hT.out.alloc #[.slice none 0 0] 26).pick1
        clear hT
        go_wp2_with (fail)
        generalize hgx : wq.heap.size = gx at *
        refine (run_calls w _ B cb b 26 #[.pointer (some ⟨gl + 1, 0, none⟩), .pointer (some ⟨gx, 0, none⟩)] (capNF (gl + 1) gx n none 0 0) [] (fun at2 x qs => at2 = (fget b n).1 ∧ x = (fget b n).2.1 ∧ ∃ (A' : Option Addr) (m c' : Nat), qs = capNF (gl + 1) gx n A' m c' ++ [row (Kd.int .u64) 39 (.slice A' m c') (fget b n).2.2])
          Try.call26 hSy.out (Kd.C_below hDA.out hSy.out.1) hcA.out.2 (by have := hle.out; omega) (fun w1 g ps' h1 => clos_gotF w w1 g (gl + 1) gx n b ps' h1 hbA.out (by have := hle.out; omega))).mono ?_
        rintro e w11 ⟨at2, x, qs, ⟨rfl, rfl, A2, m2, c2, rfl⟩, rfl, h11⟩
        clear hSy
        obtain ⟨S, hSe⟩ := fget_ev b hbA.out (by have := hle.out; omega) n
        obtain ⟨kg, hkg⟩ := hSe.rounds
        have htl : (fget b n).2.2.length ≤ 1000000 := by
          unfold fget
          have := hle.out
          split
          · simp
          split
          · simp
          split
          · rw [fensAt_len]; omega
          · simp
        clear hSe
        generalize (fget b n).1 = ea at *
        generalize (fget b n).2.1 = ee at *
        generalize (fget b n).2.2 = er at *
        have hkg := Aside0.mk hkg
        have htl := Aside0.mk htl
        have h11 : Sep.Sep w w11 [blk (gl + 1) #[.int .i64 n] 3, blk gx #[.slice A2 m2 c2] 26, row (Kd.int .u64) 39 (.slice A2 m2 c2) er] := h11
        obtain ⟨rfl, hc2, -⟩ := row_C h11.pick2
        have hc2 := Aside0.mk hc2
        have hcn_0 : w11.cell? ⟨(gl + 1), 0, none⟩ = some (.int .i64 n) := ((h11).cell 0).trans rfl
        have hcv := Kd.C_string (P := Try.prog) (A := B) (c := cb) Try.underlying27 Try.underlying5 Try.underlying9 (Kd.C_below hDA.out h11.1)
        have hS11 := Aside0.mk h11
        clear h11 hgx
        go_wp2_with (fail)
        refine (fascicleref12_Get.calls kg (strOfNums b) 0 0 n S ea ee er _ hkg.out).mono ?_
        rintro e w12 ⟨v12, rfl, ho12, hb12⟩
        have h12 := Sep.row_new hS11.out hb12 ho12
        obtain ⟨A12, c12, rfl, hc12, hC12⟩ := row_S h12
        have h13 := h12.alloc #[.string S, .int .i64 (ea : Int), .int .i64 ee] 43
        have hcx_0 : (w12.alloc (.cells #[.string S, .int .i64 (ea : Int), .int .i64 ee] 43 (0, 0))).cell? ⟨gx, 0, none⟩ = some (.slice A2 er.length c2) := ((h13.pick3).cell 0).trans rfl
        have hcy_0 : (w12.alloc (.cells #[.string S, .int .i64 (ea : Int), .int .i64 ee] 43 (0, 0))).cell? ⟨w12.heap.size, 0, none⟩ = some (.string S) := ((h13).cell 0).trans rfl; have hcy_1 : (w12.alloc (.cells #[.string S, .int .i64 (ea : Int), .int .i64 ee] 43 (0, 0))).cell? ⟨w12.heap.size, 1, none⟩ = some (.int .i64 (ea : Int)) := ((h13).cell 1).trans rfl; have hcy_2 : (w12.alloc (.cells #[.string S, .int .i64 (ea : Int), .int .i64 ee] 43 (0, 0))).cell? ⟨w12.heap.size, 2, none⟩ = some (.int .i64 ee) := ((h13).cell 2).trans rfl
        have hS13 := Aside0.mk h13
        obtain ⟨ks2, hks2⟩ := (same12_ev er htl.out).rounds
        have hsame := Aside0.mk (fasciclelaw12_same.calls ks2 A2 c2 er A12 c12 er true _ (row_C h13.pick4).2.2 (row_C h13.pick4).2.1 (row_C h13.pick1).2.2 (row_C h13.pick1).2.1 hks2)
        clear h12 h13 hcv ho12 hb12 hc12 hC12 hks2 hcn_0
        by_cases hee : ee = 0
        · have hne : (ee != 0) = false := by rw [hee]; rfl
          clear hee
          go_wp2_with (fail)
          refine hsame.out.mono ?_
          rintro e w14 ⟨rfl, hw14⟩
          have h14 := Aside0.mk (hS13.out.below hw14.below)
          clear hw14
          go_wp2_with (fail)
          go_ret
          exact ⟨by first | rfl | simp, h14.out.1⟩
        · have hne : (ee != 0) = true := bne_iff_ne.2 hee
          clear hee
          go_wp2_with (fail)
          go_ret
          exact ⟨by first | rfl | simp, hS13.out.1⟩)
theorem fenceBytes_row (A : Option Addr) (c : Nat) (l : List Int) (B : Option Addr) (cb : Nat) (b : List Int) (n : Int) (hw : ∀ x ∈ l, (Lit.int .u64 x).wf = true) (hb : ∀ y ∈ b, (Lit.int .u8 y).wf = true) (hn : (Lit.int .i64 n).wf = true) (w : World) (hC : Kd.C (Kd.int .u64) w A l.length l) (hc : l.length ≤ c) (hD : Kd.C (Kd.int .u8) w B b.length b) (hcb : b.length ≤ cb) :
    Calls Try.prog 4 #[.slice A l.length c, .slice B b.length cb, .int .i64 n] w fun e w' => e = .returned (.bool true) ∧ Below w.heap.size w w' :=
  fenceBytes_call A c l B cb b n w (fun x hx => by
    have h1 := bounds_u64 (hw x hx)
    omega) (Bytes.of_wf hb) hC hc hD hcb
end Go.Proofs.Ytnmdckgaljldhaa.Fw
