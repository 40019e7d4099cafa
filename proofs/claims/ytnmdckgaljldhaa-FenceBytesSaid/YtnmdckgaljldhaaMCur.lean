/- HCur HCurNum f/HCurByte HCurFour, in one text (merge.py). -/
import Derived.Test.YtnmdckgaljldhaaHSep
import Derived.Test.YtnmdckgaljldhaaHBytes
import Derived.Test.YtnmdckgaljldhaaPureKit
import Derived.Tactics
import Derived.Tactics2
import Derived.WalkKit
import Derived.Laws.Bits64b
/- cursor.Cursor: bytes that are read, up to where a reading stops. -/
set_option linter.unusedVariables false
set_option linter.unusedSimpArgs false
namespace Go.Proofs.Ytnmdckgaljldhaa.Sep
open Go Go.RowKit Go.Proofs.YtnmdckgaljldhaaW.PrintWords Go.Proofs.YtnmdckgaljldhaaW.PrintLast Go.Proofs.YtnmdckgaljldhaaW.PrintMore Go.Proofs.Ytnmdckgaljldhaa.PureKit

/-- A cursor at g over these bytes, so many of them read. -/
def cur (g : Nat) (l : List Int) (at_ : Nat) (live : Bool) : HP where
  p := fun w bs => ∃ A c bs', bs = g :: bs' ∧ w.heap[g]? = some (.cells #[.slice A l.length c, .int .i64 at_, .bool live] 111 (0, 0)) ∧ Kd.R (Kd.int .u8) 5 w 0 (fun k => k ∈ bs') (.slice A l.length c) l
  loc := by
    rintro w w' bs ⟨A, c, bs', e, h1, h2⟩ hm
    exact ⟨A, c, bs', e, by rw [hm g (by rw [e]; simp)]; exact h1, Kd.R_move h2 (fun k hk => hm k (by rw [e]; exact List.mem_cons_of_mem _ hk))⟩
theorem Sep.cur_open {w0 w : World} {g at_ : Nat} {l : List Int} {live : Bool} {ps : List HP} (h : Sep w0 w (cur g l at_ live :: ps)) :
    ∃ A c, Sep w0 w (blk g #[.slice A l.length c, .int .i64 at_, .bool live] 111 :: row (Kd.int .u8) 5 (.slice A l.length c) l :: ps) := by
  obtain ⟨hb, bs, ⟨b1, b2, e, ⟨A, c, bs', e1, h1, h2⟩, hs⟩, hn, hr⟩ := h
  exact ⟨A, c, hb, bs, ⟨[g], bs' ++ b2, by rw [e, e1]; simp, ⟨rfl, h1⟩, bs', b2, rfl, h2, hs⟩, hn, hr⟩
theorem Sep.cur_close {w0 w : World} {g at_ c : Nat} {l : List Int} {live : Bool} {A : Option Addr} {ps : List HP} (h : Sep w0 w (blk g #[.slice A l.length c, .int .i64 at_, .bool live] 111 :: row (Kd.int .u8) 5 (.slice A l.length c) l :: ps)) : Sep w0 w (cur g l at_ live :: ps) := by
  obtain ⟨hb, bs, ⟨b1, b2, e, ⟨e1, h1⟩, b3, b4, e2, h2, hs⟩, hn, hr⟩ := h
  exact ⟨hb, bs, ⟨g :: b3, b4, by rw [e, e1, e2]; simp, ⟨A, c, b3, rfl, h1, h2⟩, hs⟩, hn, hr⟩

/-- What a reading that stops is thrown. -/
def fault (g : Nat) (e : Int) : PanicEntry := { v := .iface 113 (.agg #[.pointer (some ⟨g, 0, none⟩), .int .i64 e]), recovered := false }

set_option maxHeartbeats 4000000 in
theorem cur_dead (w0 w : World) (g at_ : Nat) (l : List Int) (live : Bool) (ps : List HP) (hs : Sep w0 w (cur g l at_ live :: ps)) :
    Calls Try.prog 108 #[.pointer (some ⟨g, 0, none⟩)] w fun e w' => e = .returned (.bool (!live)) ∧ Sep w0 w' (cur g l at_ live :: ps) := by
  have hS := Aside0.mk hs
  obtain ⟨A, c, hO⟩ := Sep.cur_open hs
  have hc0 : w.cell? ⟨g, 0, none⟩ = some (.slice A l.length c) := (hO.cell 0).trans rfl
  have hc1 : w.cell? ⟨g, 1, none⟩ = some (.int .i64 at_) := (hO.cell 1).trans rfl
  have hc2 : w.cell? ⟨g, 2, none⟩ = some (.bool live) := (hO.cell 2).trans rfl
  clear hs hO
  go_enter Try.func108, Try.ntmps108
  go_wp2
  go_ret
  exact ⟨rfl, hS.out⟩

set_option maxHeartbeats 4000000 in
theorem cur_Fail (w0 w : World) (g at_ : Nat) (l : List Int) (ps : List HP) (x : Int) (hs : Sep w0 w (cur g l at_ true :: ps)) (hx : x ≠ 0) :
    Calls Try.prog 73 #[.pointer (some ⟨g, 0, none⟩), .int .i64 x] w fun e w' => e = .panicked [fault g x] ∧ Sep w0 w' (cur g l at_ true :: ps) := by
  have hS := Aside0.mk hs
  clear hs
  have hd : (x != 0) = true := bne_iff_ne.2 hx
  go_enter Try.func73, Try.ntmps73
  go_wp2_with (first | ((with_reducible refine gate_callee (f := 108) rfl ?_); refine goesL_ (some 5) rfl rfl Try.func108 (by kernel_rfl) rfl #[.pointer (some ⟨g, 0, none⟩)] rfl (by (try simp only [List.map_toArray, List.map_cons, List.map_nil]); first | done | rfl) ?_; (with_reducible refine (cur_dead w0 _ g at_ l true ps hS.out).mono ?_); rintro e w1 ⟨rfl, h1⟩; refine ⟨_, rfl, ?_⟩; have hS1 := Aside0.mk h1; clear h1))
  exact ⟨rfl, rfl, hS1.out⟩

set_option maxHeartbeats 4000000 in
set_option maxRecDepth 100000 in
theorem cur_Take_none (w0 w : World) (g at_ : Nat) (l : List Int) (ps : List HP) (n : Int) (hs : Sep w0 w (cur g l at_ true :: ps)) (hn : n ≤ 0) :
    Calls Try.prog 126 #[.pointer (some ⟨g, 0, none⟩), .int .i64 n] w fun e w' => e = .returned (.slice none 0 0) ∧ Sep w0 w' (cur g l at_ true :: ps) := by
  have hS := Aside0.mk hs
  clear hs
  have hd : decide (n ≤ 0) = true := decide_eq_true hn
  go_enter Try.func126, Try.ntmps126
  go_wp2_with (first | ((with_reducible refine gate_callee (f := 108) rfl ?_); refine goesL_ (some 6) rfl rfl Try.func108 (by kernel_rfl) rfl #[.pointer (some ⟨g, 0, none⟩)] rfl (by (try simp only [List.map_toArray, List.map_cons, List.map_nil]); first | done | rfl) ?_; (with_reducible refine (cur_dead w0 _ g at_ l true ps hS.out).mono ?_); rintro e w1 ⟨rfl, h1⟩; refine ⟨_, rfl, ?_⟩; have hS1 := Aside0.mk h1; clear h1))
  go_ret
  exact ⟨rfl, hS1.out⟩

set_option maxHeartbeats 4000000 in
set_option maxRecDepth 100000 in
theorem cur_Take_short (w0 w : World) (g at_ : Nat) (l : List Int) (ps : List HP) (n : Int) (hs : Sep w0 w (cur g l at_ true :: ps)) (hn : 0 < n) (hat : at_ ≤ l.length) (hl : l.length ≤ 1000000000000) (hsh : n > (l.length : Int) - at_) :
    Calls Try.prog 126 #[.pointer (some ⟨g, 0, none⟩), .int .i64 n] w fun e w' => e = .panicked [fault g 2] ∧ Sep w0 w' (cur g l at_ true :: ps) := by
  have hS := Aside0.mk hs
  clear hs
  have hd : decide (n ≤ 0) = false := decide_eq_false (by omega)
  have hd2 : decide (n > (l.length : Int) - (at_ : Int)) = true := decide_eq_true hsh
  go_enter Try.func126, Try.ntmps126
  go_wp2_with (first | ((with_reducible refine gate_callee (f := 108) rfl ?_); refine goesL_ (some 6) rfl rfl Try.func108 (by kernel_rfl) rfl #[.pointer (some ⟨g, 0, none⟩)] rfl (by (try simp only [List.map_toArray, List.map_cons, List.map_nil]); first | done | rfl) ?_; (with_reducible refine (cur_dead w0 _ g at_ l true ps hS.out).mono ?_); rintro e w1 ⟨rfl, h1⟩; refine ⟨_, rfl, ?_⟩; have hS1 := Aside0.mk h1; clear h1))
  obtain ⟨A, c, hO⟩ := Sep.cur_open hS1.out
  have hc0 : w1.cell? ⟨g, 0, none⟩ = some (.slice A l.length c) := (hO.cell 0).trans rfl
  have hc1 : w1.cell? ⟨g, 1, none⟩ = some (.int .i64 at_) := (hO.cell 1).trans rfl
  have hc2 : w1.cell? ⟨g, 2, none⟩ = some (.bool true) := (hO.cell 2).trans rfl
  have hO := Aside0.mk hO
  repeat (go_quiet (fail); try go_wp2)
  refine ⟨rfl, rfl, ?_⟩
  exact ⟨rfl, hS1.out.drewN _⟩

theorem info8 : (Try.prog.info? 5).map (fun i => (i.zero, i.size, i.bytes)) = some (some (.int .u8 0), 1, 1) := by kernel_rfl
set_option maxHeartbeats 4000000 in
set_option maxRecDepth 100000 in
theorem cur_Take_some (w0 w : World) (g at_ : Nat) (l : List Int) (ps : List HP) (m : Nat) (n : Int) (hm : n = m) (hs : Sep w0 w (cur g l at_ true :: ps)) (hn : 0 < m) (hl : l.length ≤ 1000000000000) (hsh : at_ + m ≤ l.length) :
    Calls Try.prog 126 #[.pointer (some ⟨g, 0, none⟩), .int .i64 n] w fun e w' => ∃ v, e = .returned v ∧ Sep w0 w' (row (Kd.int .u8) 5 v ((l.take (at_ + m)).drop at_) :: cur g l (at_ + m) true :: ps) := by
  have hS := Aside0.mk hs
  clear hs
  subst hm
  have hd : decide ((m : Int) ≤ 0) = false := decide_eq_false (by omega)
  have hd2 : decide ((m : Int) > (l.length : Int) - (at_ : Int)) = false := decide_eq_false (by omega)
  go_enter Try.func126, Try.ntmps126
  go_wp2_with (first | ((with_reducible refine gate_callee (f := 108) rfl ?_); refine goesL_ (some 6) rfl rfl Try.func108 (by kernel_rfl) rfl #[.pointer (some ⟨g, 0, none⟩)] rfl (by (try simp only [List.map_toArray, List.map_cons, List.map_nil]); first | done | rfl) ?_; (with_reducible refine (cur_dead w0 _ g at_ l true ps hS.out).mono ?_); rintro e w1 ⟨rfl, h1⟩; refine ⟨_, rfl, ?_⟩; have hS1 := Aside0.mk h1; clear h1))
  obtain ⟨A, c, hO⟩ := Sep.cur_open hS1.out
  have hc0 : w1.cell? ⟨g, 0, none⟩ = some (.slice A l.length c) := (hO.cell 0).trans rfl
  have hc1 : w1.cell? ⟨g, 1, none⟩ = some (.int .i64 at_) := (hO.cell 1).trans rfl
  have hz1 := hO.frozen 1
  have hO := Aside0.mk hO
  go_quiet (fail)
  go_wp2
  have hS2 : Sep w0 ((w1.drewN nq).setCell ⟨g, 1, none⟩ (.int .i64 ((at_ : Int) + (m : Int)))) (cur g l (at_ + m) true :: ps) := by
    refine Sep.cur_close (A := A) (c := c) ?_
    have := (hO.out.drewN nq).set 1 (.int .i64 ((at_ : Int) + (m : Int)))
    simpa using this
  clear hc0 hc1 hz1 hO
  generalize (w1.drewN nq).setCell ⟨g, 1, none⟩ (.int .i64 ((at_ : Int) + (m : Int))) = w2 at hS2 ⊢
  obtain ⟨A2, c2, hO2⟩ := hS2.drew.cur_open
  obtain ⟨bs, hR⟩ := hO2.tail.row_R
  have hr := Kd.R_reads' hR
  have hc0 : w2.drew.cell? ⟨g, 0, none⟩ = some (.slice A2 l.length c2) := (hO2.cell 0).trans rfl
  have hc1 : w2.drew.cell? ⟨g, 1, none⟩ = some (.int .i64 ((at_ : Int) + (m : Int))) := by have := hO2.cell 1; simpa using this
  obtain ⟨i0, hi0, _, hsz, _⟩ := info_parts info8
  have hcut := cut_mid (P := Try.prog) 27 5 .i64 .i64 Try.underlying27 hi0 1 hsz A2 l.length c2 (at_ : Int) ((at_ : Int) + (m : Int)) (by omega) (by omega) (by omega) hr.2.1
  have hC := Kd.C_mid (lo := at_) (hi := at_ + m) (c := c2) hr.2.2 (by omega) (by omega) hr.2.1
  obtain ⟨A3, hA3⟩ : ∃ A3, A3 = (if c2 = at_ then A2 else A2.map (·.add (at_ * 1))) := ⟨_, rfl⟩
  rw [show ((at_ : Int) + (m : Int)).toNat - (at_ : Int).toNat = m by omega, show (at_ : Int).toNat = at_ by omega, ← hA3] at hcut
  have hlen : ((l.take (at_ + m)).drop at_).length = m := by rw [List.length_drop, List.length_take]; omega
  have hC := Aside0.mk (show Kd.C (Kd.int .u8) w2.drew A3 ((l.take (at_ + m)).drop at_).length ((l.take (at_ + m)).drop at_) by rw [hA3]; exact hC)
  have hcl := Aside0.mk hr.2.1
  have hS2 := Aside0.mk hS2.drew
  have hwat : wrap64 (at_ : Int) = (at_ : Int) := w64 (by omega) (by omega)
  clear hO2 hR hr hA3
  refine start_ (n := 17) (S := fun w' => w'.cell? ⟨g, 0, none⟩ = some (.slice A2 l.length c2) ∧ w'.cell? ⟨g, 1, none⟩ = some (.int .i64 ((at_ : Int) + (m : Int)))) (ds := [15]) #[false, false, false, false, false, false, false, false, false, false, false, false, false, false, false, false, false] (by kernel_rfl) rfl rfl ⟨hc0, hc1⟩ (fun hHeld => ?_)
  refine pure_ (i := 0) (N := some 33) (v := ?_) (a' := ?_) #[true, false, false, false, false, false, false, false, false, false, false, false, false, false, false, false, false] rfl rfl (by kernel_rfl) (fun _ _ _ h => h) (Or.inl ⟨by rfl, ?_⟩) ?_ ?_
  rotate_left
  · intro w'
    go_simp
    with_reducible rfl
  rotate_left
  · simp only [Act.put, List.setIfInBounds_toArray, List.set_cons_zero, List.set_cons_succ, i64_w, i32_w]
    rfl
  refine pure_ (i := 1) (N := some 34) (v := ?_) (a' := ?_) #[true, true, false, false, false, false, false, false, false, false, false, false, false, false, false, false, false] rfl rfl (by kernel_rfl) (fun _ _ _ h => h) (Or.inl ⟨by rfl, ?_⟩) ?_ ?_
  rotate_left
  · intro w'
    go_simp
    with_reducible rfl
  rotate_left
  · simp only [Act.put, List.setIfInBounds_toArray, List.set_cons_zero, List.set_cons_succ, i64_w, i32_w]
    rfl
  refine pure_ (i := 2) (N := some 35) (v := ?_) (a' := ?_) #[true, true, true, false, false, false, false, false, false, false, false, false, false, false, false, false, false] rfl rfl (by kernel_rfl) (fun _ _ _ h => h) (Or.inl ⟨by rfl, ?_⟩) ?_ ?_
  rotate_left
  · intro w'
    go_simp
    with_reducible rfl
  rotate_left
  · simp only [Act.put, List.setIfInBounds_toArray, List.set_cons_zero, List.set_cons_succ, i64_w, i32_w]
    rfl
  refine pure_ (i := 4) (N := some 37) (v := ?_) (a' := ?_) #[true, true, true, false, true, false, false, false, false, false, false, false, false, false, false, false, false] rfl rfl (by kernel_rfl) (fun _ _ _ h => h) (Or.inl ⟨by rfl, ?_⟩) ?_ ?_
  rotate_left
  · intro w'
    go_simp
    with_reducible rfl
  rotate_left
  · simp only [Act.put, List.setIfInBounds_toArray, List.set_cons_zero, List.set_cons_succ, i64_w, i32_w]
    rfl
  refine pure_ (i := 5) (N := some 38) (v := ?_) (a' := ?_) #[true, true, true, false, true, true, false, false, false, false, false, false, false, false, false, false, false] rfl rfl (by kernel_rfl) (fun _ _ _ h => h) (Or.inl ⟨by rfl, ?_⟩) ?_ ?_
  rotate_left
  · intro w'
    go_simp
    with_reducible rfl
  rotate_left
  · simp only [Act.put, List.setIfInBounds_toArray, List.set_cons_zero, List.set_cons_succ, i64_w, i32_w]
    rfl
  refine pure_ (i := 6) (N := some 39) (v := ?_) (a' := ?_) #[true, true, true, false, true, true, true, false, false, false, false, false, false, false, false, false, false] rfl rfl (by kernel_rfl) (fun _ _ _ h => h) (Or.inl ⟨by rfl, ?_⟩) ?_ ?_
  rotate_left
  · intro w'
    go_simp
    with_reducible rfl
  rotate_left
  · simp only [Act.put, List.setIfInBounds_toArray, List.set_cons_zero, List.set_cons_succ, i64_w, i32_w]
    rfl
  refine pure_ (i := 8) (N := some 41) (v := ?_) (a' := ?_) #[true, true, true, false, true, true, true, false, true, false, false, false, false, false, false, false, false] rfl rfl (by kernel_rfl) (fun _ _ _ h => h) (Or.inl ⟨by rfl, ?_⟩) ?_ ?_
  rotate_left
  · intro w'
    go_simp
    with_reducible rfl
  rotate_left
  · simp only [Act.put, List.setIfInBounds_toArray, List.set_cons_zero, List.set_cons_succ, i64_w, i32_w]
    rfl
  refine pure_ (i := 10) (N := some 43) (v := ?_) (a' := ?_) #[true, true, true, false, true, true, true, false, true, false, true, false, false, false, false, false, false] rfl rfl (by kernel_rfl) (fun _ _ _ h => h) (Or.inl ⟨by rfl, ?_⟩) ?_ ?_
  rotate_left
  · intro w'
    go_simp
    with_reducible rfl
  rotate_left
  · simp only [Act.put, List.setIfInBounds_toArray, List.set_cons_zero, List.set_cons_succ, i64_w, i32_w]
    rfl
  refine pure_ (i := 11) (N := some 44) (v := ?_) (a' := ?_) #[true, true, true, false, true, true, true, false, true, false, true, true, false, false, false, false, false] rfl rfl (by kernel_rfl) (fun _ _ _ h => h) (Or.inl ⟨by rfl, ?_⟩) ?_ ?_
  rotate_left
  · intro w'
    go_simp
    with_reducible rfl
  rotate_left
  · simp only [Act.put, List.setIfInBounds_toArray, List.set_cons_zero, List.set_cons_succ, i64_w, i32_w]
    rfl
  refine pure_ (i := 12) (N := some 45) (v := ?_) (a' := ?_) #[true, true, true, false, true, true, true, false, true, false, true, true, true, false, false, false, false] rfl rfl (by kernel_rfl) (fun _ _ _ h => h) (Or.inl ⟨by rfl, ?_⟩) ?_ ?_
  rotate_left
  · intro w'
    go_simp
    with_reducible rfl
  rotate_left
  · simp only [Act.put, List.setIfInBounds_toArray, List.set_cons_zero, List.set_cons_succ, i64_w, i32_w]
    rfl
  refine take_ (i := 3) (N := some 36) (v := ?_) (a' := ?_) #[true, true, true, true, true, true, true, false, true, false, true, true, true, false, false, false, false] rfl rfl (by kernel_rfl) (fun _ _ _ h => h) (Or.inl ⟨by rfl, ?_⟩) hHeld ?_ ?_
  rotate_left
  · rintro w' ⟨s0, s1⟩
    go_simp
    with_reducible rfl
  rotate_left
  · simp only [Act.put, List.setIfInBounds_toArray, List.set_cons_zero, List.set_cons_succ, i64_w, i32_w]
    rfl
  refine take_ (i := 7) (N := some 40) (v := ?_) (a' := ?_) #[true, true, true, true, true, true, true, true, true, false, true, true, true, false, false, false, false] rfl rfl (by kernel_rfl) (fun _ _ _ h => h) (Or.inl ⟨by rfl, ?_⟩) hHeld ?_ ?_
  rotate_left
  · rintro w' ⟨s0, s1⟩
    go_simp
    with_reducible rfl
  rotate_left
  · simp only [Act.put, List.setIfInBounds_toArray, List.set_cons_zero, List.set_cons_succ, i64_w, i32_w]
    rfl
  refine pure_ (i := 9) (N := some 42) (v := ?_) (a' := ?_) #[true, true, true, true, true, true, true, true, true, true, true, true, true, false, false, false, false] rfl rfl (by kernel_rfl) (fun _ _ _ h => h) (Or.inl ⟨by rfl, ?_⟩) ?_ ?_
  rotate_left
  · intro w'
    go_simp
    with_reducible rfl
  rotate_left
  · simp only [Act.put, List.setIfInBounds_toArray, List.set_cons_zero, List.set_cons_succ, i64_w, i32_w]
    rfl
  refine take_ (i := 13) (N := some 46) (v := ?_) (a' := ?_) #[true, true, true, true, true, true, true, true, true, true, true, true, true, true, false, false, false] rfl rfl (by kernel_rfl) (fun _ _ _ h => h) (Or.inl ⟨by rfl, ?_⟩) hHeld ?_ ?_
  rotate_left
  · rintro w' ⟨s0, s1⟩
    go_simp
    with_reducible rfl
  rotate_left
  · simp only [Act.put, List.setIfInBounds_toArray, List.set_cons_zero, List.set_cons_succ, i64_w, i32_w]
    rfl
  refine pure_ (i := 14) (N := some 47) (v := ?_) (a' := ?_) #[true, true, true, true, true, true, true, true, true, true, true, true, true, true, true, false, false] rfl rfl (by kernel_rfl) (fun _ _ _ h => h) (Or.inl ⟨by rfl, ?_⟩) ?_ ?_
  rotate_left
  · intro w'
    go_simp
    with_reducible rfl
  rotate_left
  · simp only [Act.put, List.setIfInBounds_toArray, List.set_cons_zero, List.set_cons_succ, i64_w, i32_w]
    rfl
  refine last_ (i := 15) (N := some 48) #[true, true, true, true, true, true, true, true, true, true, true, true, true, true, true, true, false] rfl rfl (by kernel_rfl) (by decide) (fun K hK => ?_)
  refine goes_ Try.func70 (by kernel_rfl) rfl #[.slice A3 m (c2 - at_)] (by rfl) rfl rfl (by (try simp only [List.map_toArray, List.map_cons, List.map_nil]); first | done | rfl) ?_
  refine (G.bytes_Clone.calls (n := m) A3 (c2 - at_) ((l.take (at_ + m)).drop at_) _ _ hC.out (by rw [hlen]; have := hcl.out; omega) (by unfold G.bytes_Clone.f; exact if_pos (by omega)) hlen.symm).mono ?_
  rintro e w3 ⟨v3, rfl, ho, hb⟩
  refine ⟨_, rfl, ?_⟩
  have hS3 := Aside0.mk (Sep.row_new hS2.out hb ho)
  clear ho hb
  refine hK.out _ _ ?_
  clear hK K
  refine norm_ (a' := ?_) ?_ ?_
  rotate_left
  · show Act.put _ (some 48) _ = _
    simp only [Act.put, List.setIfInBounds_toArray, List.set_cons_zero, List.set_cons_succ, i64_w, i32_w]
    rfl
  refine pure_ (i := 16) (N := some 4) (v := ?_) (a' := ?_) #[true, true, true, true, true, true, true, true, true, true, true, true, true, true, true, true, true] rfl rfl (by kernel_rfl) (fun _ _ _ h => h) (Or.inl ⟨by rfl, ?_⟩) ?_ ?_
  rotate_left
  · intro w'
    go_simp
    with_reducible rfl
  rotate_left
  · simp only [Act.put, List.setIfInBounds_toArray, List.set_cons_zero, List.set_cons_succ, i64_w, i32_w]
    rfl
  refine done_ (by kernel_rfl) ?_
  go_wp2
  go_ret
  exact ⟨_, rfl, hS3.out⟩

end Go.Proofs.Ytnmdckgaljldhaa.Sep

/- cursor.Cursor: numbers. -/
set_option linter.unusedVariables false
set_option linter.unusedSimpArgs false
namespace Go.Proofs.Ytnmdckgaljldhaa.Sep
open Go Go.RowKit Go.Proofs.YtnmdckgaljldhaaW.PrintWords Go.Proofs.YtnmdckgaljldhaaW.PrintLast Go.Proofs.YtnmdckgaljldhaaW.PrintMore Go.Proofs.Ytnmdckgaljldhaa.PureKit

/-- The number of bytes, the least one first. -/
def lev : List Int → Int
  | [] => 0
  | b :: bs => b + 256 * lev bs

theorem lev_append : ∀ (a b : List Int), lev (a ++ b) = lev a + 256 ^ a.length * lev b
  | [], b => by simp [lev]
  | x :: xs, b => by
    simp only [List.cons_append, lev, lev_append xs b, List.length_cons, Int.pow_succ]
    rw [Int.mul_add, Int.add_assoc, ← Int.mul_assoc, Int.mul_comm 256 (256 ^ xs.length)]
theorem lev_take (ys : List Int) (i : Nat) (h : i < ys.length) (hb : Bytes ys) : lev (ys.take (i + 1)) = lev (ys.take i) + ys[i] * 256 ^ i := by
  rw [List.take_succ_eq_append_getElem h, lev_append, List.length_take, Nat.min_eq_left (by omega)]
  simp [lev, Int.mul_comm]
theorem lev_bound : ∀ (a : List Int), Bytes a → 0 ≤ lev a ∧ lev a < 256 ^ a.length
  | [], _ => by simp [lev]
  | x :: xs, h => by
    have := lev_bound xs h.tail
    have hx := h.head
    simp only [lev, List.length_cons, Int.pow_succ]
    omega
theorem or_step (X y : Int) (i : Nat) (hi : i < 8) (h0 : 0 ≤ X) (h1 : X < 256 ^ i) (hy0 : 0 ≤ y) (hy1 : y ≤ 255) : bits BinOp.or IntKind.u64 X (IntKind.u64.wrap (y * 2 ^ (8 * i))) = X + y * 256 ^ i := by
  obtain ⟨a, rfl⟩ := Int.eq_ofNat_of_zero_le h0
  obtain ⟨b, rfl⟩ := Int.eq_ofNat_of_zero_le hy0
  have hp : (256 : Int) ^ i = ((2 ^ (8 * i) : Nat) : Int) := by rw [Nat.pow_mul]; simp
  have hq : (2 : Int) ^ (8 * i) = ((2 ^ (8 * i) : Nat) : Int) := by simp
  have hle : 2 ^ (8 * i) ≤ 2 ^ 56 := Nat.pow_le_pow_right (by omega) (by omega)
  rw [hp] at h1 ⊢
  rw [hq]
  generalize hP : 2 ^ (8 * i) = P at *
  have ha : a < P := by omega
  have hbP : b * P ≤ 255 * 2 ^ 56 := Nat.mul_le_mul (by omega) hle
  have hm : (b : Int) * (P : Int) = ((b * P : Nat) : Int) := by simp
  rw [hm, wu64 (by omega) (by omega), bits_or_u64_nat a (b * P) (by omega) (by omega)]
  have := Nat.two_pow_add_eq_or_of_lt (i := 8 * i) (b := a) (by rw [hP]; exact ha) b
  rw [hP] at this
  rw [Nat.or_comm, Nat.mul_comm b P, ← this]
  omega

set_option maxHeartbeats 4000000 in
set_option maxRecDepth 100000 in
theorem cur_num_short (w0 w : World) (g at_ : Nat) (l : List Int) (ps : List HP) (n : Int) (hs : Sep w0 w (cur g l at_ true :: ps)) (hn : 0 < n) (hat : at_ ≤ l.length) (hl : l.length ≤ 1000000000000) (hsh : n > (l.length : Int) - at_) :
    Calls Try.prog 109 #[.pointer (some ⟨g, 0, none⟩), .int .i64 n] w fun e w' => e = .panicked [fault g 2] ∧ Sep w0 w' (cur g l at_ true :: ps) := by
  have hS := Aside0.mk hs
  clear hs
  go_enter Try.func109, Try.ntmps109
  go_wp2_with (fail)
  refine (cur_Take_short w0 _ g at_ l ps n hS.out hn hat hl hsh).mono ?_
  rintro e w1 ⟨rfl, h1⟩
  exact ⟨rfl, rfl, h1⟩

set_option maxHeartbeats 4000000 in
set_option maxRecDepth 100000 in
theorem cur_num_some (w0 w : World) (g at_ : Nat) (l : List Int) (ps : List HP) (m : Nat) (n : Int) (hm : n = m) (hs : Sep w0 w (cur g l at_ true :: ps)) (hb : Bytes l) (hn : 0 < m) (hm8 : m ≤ 8) (hl : l.length ≤ 1000000000000) (hsh : at_ + m ≤ l.length) :
    Calls Try.prog 109 #[.pointer (some ⟨g, 0, none⟩), .int .i64 n] w fun e w' => e = .returned (.int .u64 (lev ((l.take (at_ + m)).drop at_))) ∧ Sep w0 w' (cur g l (at_ + m) true :: ps) := by
  have hS := Aside0.mk hs
  clear hs
  have hlen : ((l.take (at_ + m)).drop at_).length = m := by rw [List.length_drop, List.length_take]; omega
  have hby : Bytes ((l.take (at_ + m)).drop at_) := (hb.take _).drop _
  generalize hys : (l.take (at_ + m)).drop at_ = ys at *
  go_enter Try.func109, Try.ntmps109
  go_wp2_with (first | ((with_reducible refine gate_callee (f := 126) rfl ?_); refine goesL_ (some 10) rfl rfl Try.func126 (by kernel_rfl) rfl #[.pointer (some ⟨g, 0, none⟩), .int .i64 n] rfl (by (try simp only [List.map_toArray, List.map_cons, List.map_nil]); first | done | rfl) ?_; (with_reducible refine (cur_Take_some w0 _ g at_ l ps m n hm hS.out hn hl hsh).mono ?_); rintro e w1 ⟨v1, rfl, h1⟩; refine ⟨_, rfl, ?_⟩; rw [hys] at h1; obtain ⟨bs1, hR1⟩ := h1.row_R; obtain ⟨A1, c1, e1⟩ := Kd.R_slice hR1; subst e1; have hS1 := Aside0.mk h1; clear h1 hR1))
  go_loopg [5, 12] m (fun kq v5 v12 w' => ∃ (i : Nat), v5 = .int .u64 (lev (ys.take i)) ∧ v12 = .int .i64 i ∧ Aside0 (i + kq = m) ∧ Aside0 (Sep w0 w' (row (Kd.int .u8) 5 (.slice A1 ys.length c1) ys :: cur g l (at_ + m) true :: ps)))
  case atStart => exact ⟨0, by simp [lev], rfl, ⟨by omega⟩, hS1⟩
  case round =>
    obtain ⟨i, rfl, rfl, hA, hS⟩ := hrel
    by_cases hin : i < m
    · have hd : decide ((i : Int) < (ys.length : Int)) = true := decide_eq_true (by omega)
      obtain ⟨k1, rfl⟩ : ∃ k1, gk = k1 + 1 := ⟨gk - 1, by have := hA.out; omega⟩
      obtain ⟨bs, hR⟩ := hS.out.row_R
      have hC := (Kd.R_reads' hR).2.2
      obtain ⟨ad, e0, hx⟩ := Kd.at_int hC (i : Int) (by omega) (by omega)
      cases e0
      simp only [Int.toNat_natCast] at hx
      rw [rd_at ys i (by omega)] at hx
      have hyb := hby ys[i] (List.getElem_mem (by omega))
      obtain ⟨y, hy⟩ : ∃ y, ys[i]'(by omega) = y := ⟨_, rfl⟩
      rw [hy] at hx hyb
      have hy := Aside0.mk hy
      have p0 : ((0 : Int) ≤ (i : Int)) = True := eq_true (by omega)
      have q0 : ((i : Int) < (ys.length : Int)) = True := eq_true (by omega)
      generalize hX : lev (ys.take i) = X
      have hX := Aside0.mk hX
      go_wp2
      go_roundg k1
      case measure => omega
      case rel =>
        have hXX := hX.out
        have hlv := lev_take ys i (by omega) hby
        have hbd := lev_bound (ys.take i) (hby.take _)
        rw [List.length_take, Nat.min_eq_left (by omega)] at hbd
        rw [hXX] at hlv hbd
        rw [hy.out] at hlv
        refine ⟨i + 1, ?_, by simp, ⟨by have := hA.out; omega⟩, hS⟩
        rw [hlv, or_step X y i (by omega) hbd.1 hbd.2 hyb.1 hyb.2]
    · have him : i = m := by have := hA.out; omega
      have hd : decide ((i : Int) < (ys.length : Int)) = false := decide_eq_false (by omega)
      go_wp2
      go_ret
      refine ⟨?_, hS.out.tail⟩
      rw [List.take_of_length_le (by omega)]
      rfl

end Go.Proofs.Ytnmdckgaljldhaa.Sep

/- cursor.Cursor: Byte, Left, End. -/
set_option linter.unusedVariables false
set_option linter.unusedSimpArgs false
namespace Go.Proofs.Ytnmdckgaljldhaa.Sep
open Go Go.RowKit Go.Proofs.YtnmdckgaljldhaaW.PrintWords Go.Proofs.YtnmdckgaljldhaaW.PrintLast Go.Proofs.YtnmdckgaljldhaaW.PrintMore Go.Proofs.Ytnmdckgaljldhaa.PureKit

set_option maxHeartbeats 4000000 in
set_option maxHeartbeats 4000000 in
set_option maxHeartbeats 4000000 in
theorem cur_Left (w0 w : World) (g at_ : Nat) (l : List Int) (ps : List HP) (hs : Sep w0 w (cur g l at_ true :: ps)) (hat : at_ ≤ l.length) (hl : l.length ≤ 1000000000000) :
    Calls Try.prog 72 #[.pointer (some ⟨g, 0, none⟩)] w fun e w' => e = .returned (.int .i64 ((l.length : Int) - at_)) ∧ Sep w0 w' (cur g l at_ true :: ps) := by
  have hS := Aside0.mk hs
  clear hs
  go_enter Try.func72, Try.ntmps72
  go_wp2_with (first | ((with_reducible refine gate_callee (f := 108) rfl ?_); refine goesL_ (some 4) rfl rfl Try.func108 (by kernel_rfl) rfl #[.pointer (some ⟨g, 0, none⟩)] rfl (by (try simp only [List.map_toArray, List.map_cons, List.map_nil]); first | done | rfl) ?_; (with_reducible refine (cur_dead w0 _ g at_ l true ps hS.out).mono ?_); rintro e w1 ⟨rfl, h1⟩; refine ⟨_, rfl, ?_⟩; have hS1 := Aside0.mk h1; clear h1))
  obtain ⟨A, c, hO⟩ := Sep.cur_open hS1.out
  have hc0 : w1.cell? ⟨g, 0, none⟩ = some (.slice A l.length c) := (hO.cell 0).trans rfl
  have hc1 : w1.cell? ⟨g, 1, none⟩ = some (.int .i64 at_) := (hO.cell 1).trans rfl
  clear hO
  repeat (go_quiet (fail); try go_wp2)
  go_ret
  refine ⟨?_, hS1.out.drewN _⟩
  show Ending.returned (Value.int .i64 (IntKind.i64.wrap ((l.length : Int) - (at_ : Int)))) = _
  rw [i64_w, w64 (by omega) (by omega)]

set_option maxHeartbeats 4000000 in
theorem cur_End_ok (w0 w : World) (g at_ : Nat) (l : List Int) (ps : List HP) (hs : Sep w0 w (cur g l at_ true :: ps)) (hat : at_ = l.length) (hl : l.length ≤ 1000000000000) :
    Calls Try.prog 23 #[.pointer (some ⟨g, 0, none⟩)] w fun e w' => e = .returned (.tuple #[]) ∧ Sep w0 w' (cur g l at_ true :: ps) := by
  have hS := Aside0.mk hs
  clear hs
  have hd : decide ((l.length : Int) - (at_ : Int) > 0) = false := decide_eq_false (by omega)
  go_enter Try.func23, Try.ntmps23
  go_wp2_with (first | ((with_reducible refine gate_callee (f := 72) rfl ?_); refine goesL_ (some 3) rfl rfl Try.func72 (by kernel_rfl) rfl #[.pointer (some ⟨g, 0, none⟩)] rfl (by (try simp only [List.map_toArray, List.map_cons, List.map_nil]); first | done | rfl) ?_; (with_reducible refine (cur_Left w0 _ g at_ l ps hS.out (by omega) hl).mono ?_); rintro e w1 ⟨rfl, h1⟩; refine ⟨_, rfl, ?_⟩; have hS1 := Aside0.mk h1; clear h1))
  go_end0
  exact ⟨rfl, hS1.out⟩

set_option maxHeartbeats 4000000 in
theorem cur_End_long (w0 w : World) (g at_ : Nat) (l : List Int) (ps : List HP) (hs : Sep w0 w (cur g l at_ true :: ps)) (hat : at_ < l.length) (hl : l.length ≤ 1000000000000) :
    Calls Try.prog 23 #[.pointer (some ⟨g, 0, none⟩)] w fun e w' => e = .panicked [fault g 3] ∧ Sep w0 w' (cur g l at_ true :: ps) := by
  have hS := Aside0.mk hs
  clear hs
  have hd : decide ((l.length : Int) - (at_ : Int) > 0) = true := decide_eq_true (by omega)
  go_enter Try.func23, Try.ntmps23
  go_wp2_with (first | ((with_reducible refine gate_callee (f := 72) rfl ?_); refine goesL_ (some 3) rfl rfl Try.func72 (by kernel_rfl) rfl #[.pointer (some ⟨g, 0, none⟩)] rfl (by (try simp only [List.map_toArray, List.map_cons, List.map_nil]); first | done | rfl) ?_; (with_reducible refine (cur_Left w0 _ g at_ l ps hS.out (by omega) hl).mono ?_); rintro e w1 ⟨rfl, h1⟩; refine ⟨_, rfl, ?_⟩; have hS1 := Aside0.mk h1; clear h1))
  refine (cur_Fail w0 _ g at_ l ps 3 hS1.out (by decide)).mono ?_
  rintro e w2 ⟨rfl, h2⟩
  exact ⟨rfl, rfl, h2⟩

end Go.Proofs.Ytnmdckgaljldhaa.Sep

/- cursor.Cursor: Four, Eight. -/
set_option linter.unusedVariables false
set_option linter.unusedSimpArgs false
namespace Go.Proofs.Ytnmdckgaljldhaa.Sep
open Go Go.RowKit Go.Proofs.YtnmdckgaljldhaaW.PrintWords Go.Proofs.YtnmdckgaljldhaaW.PrintLast Go.Proofs.YtnmdckgaljldhaaW.PrintMore Go.Proofs.Ytnmdckgaljldhaa.PureKit

set_option maxHeartbeats 4000000 in
theorem cur_Four_short (w0 w : World) (g at_ : Nat) (l : List Int) (ps : List HP) (hs : Sep w0 w (cur g l at_ true :: ps)) (hat : at_ ≤ l.length) (hl : l.length ≤ 1000000000000) (hsh : (4 : Int) > (l.length : Int) - at_) :
    Calls Try.prog 106 #[.pointer (some ⟨g, 0, none⟩)] w fun e w' => e = .panicked [fault g 2] ∧ Sep w0 w' (cur g l at_ true :: ps) := by
  have hS := Aside0.mk hs
  clear hs
  go_enter Try.func106, Try.ntmps106
  go_wp2_with (fail)
  refine (cur_num_short w0 _ g at_ l ps 4 hS.out (by decide) hat hl hsh).mono ?_
  rintro e w1 ⟨rfl, h1⟩
  exact ⟨rfl, rfl, h1⟩
theorem lev_lt (l : List Int) (a n : Nat) (hb : Bytes l) (h : a + n ≤ l.length) : 0 ≤ lev ((l.take (a + n)).drop a) ∧ lev ((l.take (a + n)).drop a) < 256 ^ n := by
  have := lev_bound _ ((hb.take (a + n)).drop a)
  rw [List.length_drop, List.length_take, show min (a + n) l.length - a = n by omega] at this
  exact this
set_option maxHeartbeats 4000000 in
theorem cur_Four_some (w0 w : World) (g at_ : Nat) (l : List Int) (ps : List HP) (hs : Sep w0 w (cur g l at_ true :: ps)) (hb : Bytes l) (hl : l.length ≤ 1000000000000) (hsh : at_ + 4 ≤ l.length) :
    Calls Try.prog 106 #[.pointer (some ⟨g, 0, none⟩)] w fun e w' => e = .returned (.int .u32 (lev ((l.take (at_ + 4)).drop at_))) ∧ Sep w0 w' (cur g l (at_ + 4) true :: ps) := by
  have hS := Aside0.mk hs
  clear hs
  have hbd := lev_lt l at_ 4 hb hsh
  have h4 : (256 : Int) ^ 4 = 4294967296 := by decide
  rw [h4] at hbd
  obtain ⟨y, hy⟩ : ∃ y, lev ((l.take (at_ + 4)).drop at_) = y := ⟨_, rfl⟩
  rw [hy] at hbd ⊢
  have hyA := Aside0.mk hy
  have hw : IntKind.u32.wrap y = y := by rw [IntKind.wrap_u32]; omega
  clear hy h4
  go_enter Try.func106, Try.ntmps106
  go_wp2_with (first | ((with_reducible refine gate_callee (f := 109) rfl ?_); refine goesL_ (some 4) rfl rfl Try.func109 (by kernel_rfl) rfl #[.pointer (some ⟨g, 0, none⟩), .int .i64 4] rfl (by (try simp only [List.map_toArray, List.map_cons, List.map_nil]); first | done | rfl) ?_; (with_reducible refine (cur_num_some w0 _ g at_ l ps 4 4 rfl hS.out hb (by decide) (by decide) hl hsh).mono ?_); rintro e w1 ⟨rfl, h2⟩; refine ⟨_, rfl, ?_⟩; rw [hyA.out]; have hS1 := Aside0.mk h2; clear h2))
  go_ret
  exact ⟨by first | rfl | (simp [hw]), hS1.out⟩
set_option maxHeartbeats 4000000 in
theorem cur_Eight_some (w0 w : World) (g at_ : Nat) (l : List Int) (ps : List HP) (hs : Sep w0 w (cur g l at_ true :: ps)) (hb : Bytes l) (hl : l.length ≤ 1000000000000) (hsh : at_ + 8 ≤ l.length) :
    Calls Try.prog 74 #[.pointer (some ⟨g, 0, none⟩)] w fun e w' => e = .returned (.int .u64 (lev ((l.take (at_ + 8)).drop at_))) ∧ Sep w0 w' (cur g l (at_ + 8) true :: ps) := by
  have hS := Aside0.mk hs
  clear hs
  go_enter Try.func74, Try.ntmps74
  go_wp2_with (first | ((with_reducible refine gate_callee (f := 109) rfl ?_); refine goesL_ (some 4) rfl rfl Try.func109 (by kernel_rfl) rfl #[.pointer (some ⟨g, 0, none⟩), .int .i64 8] rfl (by (try simp only [List.map_toArray, List.map_cons, List.map_nil]); first | done | rfl) ?_; (with_reducible refine (cur_num_some w0 _ g at_ l ps 8 8 rfl hS.out hb (by decide) (by decide) hl hsh).mono ?_); rintro e w1 ⟨rfl, h2⟩; refine ⟨_, rfl, ?_⟩; have hS1 := Aside0.mk h2; clear h2))
  go_ret
  exact ⟨rfl, hS1.out⟩

end Go.Proofs.Ytnmdckgaljldhaa.Sep
