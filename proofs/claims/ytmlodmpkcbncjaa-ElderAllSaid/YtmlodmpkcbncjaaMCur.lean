/- HCur HCurNum HCurByte HCurFour HGet, in one text (merge.py). -/
import Derived.Test.YtmlodmpkcbncjaaHSep
import Derived.Test.YtmlodmpkcbncjaaHBytes
import Derived.Test.YtmlodmpkcbncjaaPureKit
import Derived.Tactics
import Derived.Tactics2
import Derived.WalkKit
import Derived.Laws.Bits64b
/- cursor.Cursor: bytes that are read, up to where a reading stops. -/
set_option linter.unusedVariables false
set_option linter.unusedSimpArgs false
namespace Go.Proofs.Ytmlodmpkcbncjaa.Sep
open Go Go.RowKit Go.Proofs.YtmlodmpkcbncjaaW.PrintWords Go.Proofs.YtmlodmpkcbncjaaW.PrintLast Go.Proofs.YtmlodmpkcbncjaaW.PrintMore Go.Proofs.Ytmlodmpkcbncjaa.PureKit

/-- A cursor at g over these bytes, so many of them read. -/
def cur (g : Nat) (l : List Int) (at_ : Nat) (live : Bool) : HP where
  p := fun w bs => ∃ A c bs', bs = g :: bs' ∧ w.heap[g]? = some (.cells #[.slice A l.length c, .int .i64 at_, .bool live] 99 (0, 0)) ∧ Kd.R (Kd.int .u8) 5 w 0 (fun k => k ∈ bs') (.slice A l.length c) l
  loc := by
    rintro w w' bs ⟨A, c, bs', e, h1, h2⟩ hm
    exact ⟨A, c, bs', e, by rw [hm g (by rw [e]; simp)]; exact h1, Kd.R_move h2 (fun k hk => hm k (by rw [e]; exact List.mem_cons_of_mem _ hk))⟩
theorem Sep.cur_open {w0 w : World} {g at_ : Nat} {l : List Int} {live : Bool} {ps : List HP} (h : Sep w0 w (cur g l at_ live :: ps)) :
    ∃ A c, Sep w0 w (blk g #[.slice A l.length c, .int .i64 at_, .bool live] 99 :: row (Kd.int .u8) 5 (.slice A l.length c) l :: ps) := by
  obtain ⟨hb, bs, ⟨b1, b2, e, ⟨A, c, bs', e1, h1, h2⟩, hs⟩, hn, hr⟩ := h
  exact ⟨A, c, hb, bs, ⟨[g], bs' ++ b2, by rw [e, e1]; simp, ⟨rfl, h1⟩, bs', b2, rfl, h2, hs⟩, hn, hr⟩
theorem Sep.cur_close {w0 w : World} {g at_ c : Nat} {l : List Int} {live : Bool} {A : Option Addr} {ps : List HP} (h : Sep w0 w (blk g #[.slice A l.length c, .int .i64 at_, .bool live] 99 :: row (Kd.int .u8) 5 (.slice A l.length c) l :: ps)) : Sep w0 w (cur g l at_ live :: ps) := by
  obtain ⟨hb, bs, ⟨b1, b2, e, ⟨e1, h1⟩, b3, b4, e2, h2, hs⟩, hn, hr⟩ := h
  exact ⟨hb, bs, ⟨g :: b3, b4, by rw [e, e1, e2]; simp, ⟨A, c, b3, rfl, h1, h2⟩, hs⟩, hn, hr⟩

/-- What a reading that stops is thrown. -/
def fault (g : Nat) (e : Int) : PanicEntry := { v := .iface 101 (.agg #[.pointer (some ⟨g, 0, none⟩), .int .i64 e]), recovered := false }

set_option maxHeartbeats 4000000 in
theorem cur_dead (w0 w : World) (g at_ : Nat) (l : List Int) (live : Bool) (ps : List HP) (hs : Sep w0 w (cur g l at_ live :: ps)) :
    Calls Try.prog 60 #[.pointer (some ⟨g, 0, none⟩)] w fun e w' => e = .returned (.bool (!live)) ∧ Sep w0 w' (cur g l at_ live :: ps) := by
  have hS := Aside0.mk hs
  obtain ⟨A, c, hO⟩ := Sep.cur_open hs
  have hc0 : w.cell? ⟨g, 0, none⟩ = some (.slice A l.length c) := (hO.cell 0).trans rfl
  have hc1 : w.cell? ⟨g, 1, none⟩ = some (.int .i64 at_) := (hO.cell 1).trans rfl
  have hc2 : w.cell? ⟨g, 2, none⟩ = some (.bool live) := (hO.cell 2).trans rfl
  clear hs hO
  go_enter Try.func60, Try.ntmps60
  go_wp2
  go_ret
  exact ⟨rfl, hS.out⟩

set_option maxHeartbeats 4000000 in
theorem cur_Fail (w0 w : World) (g at_ : Nat) (l : List Int) (ps : List HP) (x : Int) (hs : Sep w0 w (cur g l at_ true :: ps)) (hx : x ≠ 0) :
    Calls Try.prog 61 #[.pointer (some ⟨g, 0, none⟩), .int .i64 x] w fun e w' => e = .panicked [fault g x] ∧ Sep w0 w' (cur g l at_ true :: ps) := by
  have hS := Aside0.mk hs
  clear hs
  have hd : (x != 0) = true := bne_iff_ne.2 hx
  go_enter Try.func61, Try.ntmps61
  go_wp2_with (first | ((with_reducible refine gate_callee (f := 60) rfl ?_); refine goesL_ (some 5) rfl rfl Try.func60 (by kernel_rfl) rfl #[.pointer (some ⟨g, 0, none⟩)] rfl (by (try simp only [List.map_toArray, List.map_cons, List.map_nil]); first | done | rfl) ?_; (with_reducible refine (cur_dead w0 _ g at_ l true ps hS.out).mono ?_); rintro e w1 ⟨rfl, h1⟩; refine ⟨_, rfl, ?_⟩; have hS1 := Aside0.mk h1; clear h1))
  exact ⟨rfl, rfl, hS1.out⟩

set_option maxHeartbeats 4000000 in
set_option maxRecDepth 100000 in
theorem cur_Take_none (w0 w : World) (g at_ : Nat) (l : List Int) (ps : List HP) (n : Int) (hs : Sep w0 w (cur g l at_ true :: ps)) (hn : n ≤ 0) :
    Calls Try.prog 19 #[.pointer (some ⟨g, 0, none⟩), .int .i64 n] w fun e w' => e = .returned (.slice none 0 0) ∧ Sep w0 w' (cur g l at_ true :: ps) := by
  have hS := Aside0.mk hs
  clear hs
  have hd : decide (n ≤ 0) = true := decide_eq_true hn
  go_enter Try.func19, Try.ntmps19
  go_wp2_with (first | ((with_reducible refine gate_callee (f := 60) rfl ?_); refine goesL_ (some 6) rfl rfl Try.func60 (by kernel_rfl) rfl #[.pointer (some ⟨g, 0, none⟩)] rfl (by (try simp only [List.map_toArray, List.map_cons, List.map_nil]); first | done | rfl) ?_; (with_reducible refine (cur_dead w0 _ g at_ l true ps hS.out).mono ?_); rintro e w1 ⟨rfl, h1⟩; refine ⟨_, rfl, ?_⟩; have hS1 := Aside0.mk h1; clear h1))
  go_ret
  exact ⟨rfl, hS1.out⟩

set_option maxHeartbeats 4000000 in
set_option maxRecDepth 100000 in
theorem cur_Take_short (w0 w : World) (g at_ : Nat) (l : List Int) (ps : List HP) (n : Int) (hs : Sep w0 w (cur g l at_ true :: ps)) (hn : 0 < n) (hat : at_ ≤ l.length) (hl : l.length ≤ 1000000000000) (hsh : n > (l.length : Int) - at_) :
    Calls Try.prog 19 #[.pointer (some ⟨g, 0, none⟩), .int .i64 n] w fun e w' => e = .panicked [fault g 2] ∧ Sep w0 w' (cur g l at_ true :: ps) := by
  have hS := Aside0.mk hs
  clear hs
  have hd : decide (n ≤ 0) = false := decide_eq_false (by omega)
  have hd2 : decide (n > (l.length : Int) - (at_ : Int)) = true := decide_eq_true hsh
  go_enter Try.func19, Try.ntmps19
  go_wp2_with (first | ((with_reducible refine gate_callee (f := 60) rfl ?_); refine goesL_ (some 6) rfl rfl Try.func60 (by kernel_rfl) rfl #[.pointer (some ⟨g, 0, none⟩)] rfl (by (try simp only [List.map_toArray, List.map_cons, List.map_nil]); first | done | rfl) ?_; (with_reducible refine (cur_dead w0 _ g at_ l true ps hS.out).mono ?_); rintro e w1 ⟨rfl, h1⟩; refine ⟨_, rfl, ?_⟩; have hS1 := Aside0.mk h1; clear h1))
  obtain ⟨A, c, hO⟩ := Sep.cur_open hS1.out
  have hc0 : w1.cell? ⟨g, 0, none⟩ = some (.slice A l.length c) := (hO.cell 0).trans rfl
  have hc1 : w1.cell? ⟨g, 1, none⟩ = some (.int .i64 at_) := (hO.cell 1).trans rfl
  have hc2 : w1.cell? ⟨g, 2, none⟩ = some (.bool true) := (hO.cell 2).trans rfl
  have hO := Aside0.mk hO
  repeat (go_quiet (fail); try go_wp2)
  refine ⟨rfl, rfl, ?_⟩
  exact ⟨rfl, hS1.out.drewN _⟩

theorem info8 : (Try.prog.info? 5).map (fun i => (i.zero, i.size, i.bytes)) = some (some (.int .u8 0), 1, 1) := by kernel_rfl
set_option maxHeartbeats 4000000 in
set_option maxRecDepth 100000 in
theorem cur_Take_some (w0 w : World) (g at_ : Nat) (l : List Int) (ps : List HP) (m : Nat) (n : Int) (hm : n = m) (hs : Sep w0 w (cur g l at_ true :: ps)) (hn : 0 < m) (hl : l.length ≤ 1000000000000) (hsh : at_ + m ≤ l.length) :
    Calls Try.prog 19 #[.pointer (some ⟨g, 0, none⟩), .int .i64 n] w fun e w' => ∃ v, e = .returned v ∧ Sep w0 w' (row (Kd.int .u8) 5 v ((l.take (at_ + m)).drop at_) :: cur g l (at_ + m) true :: ps) := by
  have hS := Aside0.mk hs
  clear hs
  subst hm
  have hd : decide ((m : Int) ≤ 0) = false := decide_eq_false (by omega)
  have hd2 : decide ((m : Int) > (l.length : Int) - (at_ : Int)) = false := decide_eq_false (by omega)
  go_enter Try.func19, Try.ntmps19
  go_wp2_with (first | ((with_reducible refine gate_callee (f := 60) rfl ?_); refine goesL_ (some 6) rfl rfl Try.func60 (by kernel_rfl) rfl #[.pointer (some ⟨g, 0, none⟩)] rfl (by (try simp only [List.map_toArray, List.map_cons, List.map_nil]); first | done | rfl) ?_; (with_reducible refine (cur_dead w0 _ g at_ l true ps hS.out).mono ?_); rintro e w1 ⟨rfl, h1⟩; refine ⟨_, rfl, ?_⟩; have hS1 := Aside0.mk h1; clear h1))
  obtain ⟨A, c, hO⟩ := Sep.cur_open hS1.out
  have hc0 : w1.cell? ⟨g, 0, none⟩ = some (.slice A l.length c) := (hO.cell 0).trans rfl
  have hc1 : w1.cell? ⟨g, 1, none⟩ = some (.int .i64 at_) := (hO.cell 1).trans rfl
  have hz1 := hO.frozen 1
  have hO := Aside0.mk hO
  go_quiet (fail)
  go_wp2
  have hS2 : Sep w0 ((w1.drewN nq).setCell ⟨g, 1, none⟩ (.int .i64 ((at_ : Int) + (m : Int)))) (cur g l (at_ + m) true :: ps) := by
    refine Sep.cur_close (A := A) (c := c) ?_
    have := (hO.out.drewN nq).set 1 (.int .i64 ((at_ : Int) + (m : Int)))
    simpa using this
  clear hc0 hc1 hz1 hO
  generalize (w1.drewN nq).setCell ⟨g, 1, none⟩ (.int .i64 ((at_ : Int) + (m : Int))) = w2 at hS2 ⊢
  obtain ⟨A2, c2, hO2⟩ := hS2.drew.cur_open
  obtain ⟨bs, hR⟩ := hO2.tail.row_R
  have hr := Kd.R_reads' hR
  have hc0 : w2.drew.cell? ⟨g, 0, none⟩ = some (.slice A2 l.length c2) := (hO2.cell 0).trans rfl
  have hc1 : w2.drew.cell? ⟨g, 1, none⟩ = some (.int .i64 ((at_ : Int) + (m : Int))) := by have := hO2.cell 1; simpa using this
  obtain ⟨i0, hi0, _, hsz, _⟩ := info_parts info8
  have hcut := cut_mid (P := Try.prog) 22 5 .i64 .i64 Try.underlying22 hi0 1 hsz A2 l.length c2 (at_ : Int) ((at_ : Int) + (m : Int)) (by omega) (by omega) (by omega) hr.2.1
  have hC := Kd.C_mid (lo := at_) (hi := at_ + m) (c := c2) hr.2.2 (by omega) (by omega) hr.2.1
  obtain ⟨A3, hA3⟩ : ∃ A3, A3 = (if c2 = at_ then A2 else A2.map (·.add (at_ * 1))) := ⟨_, rfl⟩
  rw [show ((at_ : Int) + (m : Int)).toNat - (at_ : Int).toNat = m by omega, show (at_ : Int).toNat = at_ by omega, ← hA3] at hcut
  have hlen : ((l.take (at_ + m)).drop at_).length = m := by rw [List.length_drop, List.length_take]; omega
  have hC := Aside0.mk (show Kd.C (Kd.int .u8) w2.drew A3 ((l.take (at_ + m)).drop at_).length ((l.take (at_ + m)).drop at_) by rw [hA3]; exact hC)
  have hcl := Aside0.mk hr.2.1
  have hS2 := Aside0.mk hS2.drew
  have hwat : wrap64 (at_ : Int) = (at_ : Int) := w64 (by omega) (by omega)
  clear hO2 hR hr hA3
  refine start_ (n := 17) (S := fun w' => w'.cell? ⟨g, 0, none⟩ = some (.slice A2 l.length c2) ∧ w'.cell? ⟨g, 1, none⟩ = some (.int .i64 ((at_ : Int) + (m : Int)))) (ds := [15]) #[false, false, false, false, false, false, false, false, false, false, false, false, false, false, false, false, false] (by kernel_rfl) rfl rfl ⟨hc0, hc1⟩ (fun hHeld => ?_)
  refine pure_ (i := 0) (N := some 33) (v := ?_) (a' := ?_) #[true, false, false, false, false, false, false, false, false, false, false, false, false, false, false, false, false] rfl rfl (by kernel_rfl) (fun _ _ _ h => h) (Or.inl ⟨by rfl, ?_⟩) ?_ ?_
  rotate_left
  · intro w'
    go_simp
    with_reducible rfl
  rotate_left
  · simp only [Act.put, List.setIfInBounds_toArray, List.set_cons_zero, List.set_cons_succ, i64_w, i32_w]
    rfl
  refine pure_ (i := 1) (N := some 34) (v := ?_) (a' := ?_) #[true, true, false, false, false, false, false, false, false, false, false, false, false, false, false, false, false] rfl rfl (by kernel_rfl) (fun _ _ _ h => h) (Or.inl ⟨by rfl, ?_⟩) ?_ ?_
  rotate_left
  · intro w'
    go_simp
    with_reducible rfl
  rotate_left
  · simp only [Act.put, List.setIfInBounds_toArray, List.set_cons_zero, List.set_cons_succ, i64_w, i32_w]
    rfl
  refine pure_ (i := 2) (N := some 35) (v := ?_) (a' := ?_) #[true, true, true, false, false, false, false, false, false, false, false, false, false, false, false, false, false] rfl rfl (by kernel_rfl) (fun _ _ _ h => h) (Or.inl ⟨by rfl, ?_⟩) ?_ ?_
  rotate_left
  · intro w'
    go_simp
    with_reducible rfl
  rotate_left
  · simp only [Act.put, List.setIfInBounds_toArray, List.set_cons_zero, List.set_cons_succ, i64_w, i32_w]
    rfl
  refine pure_ (i := 4) (N := some 37) (v := ?_) (a' := ?_) #[true, true, true, false, true, false, false, false, false, false, false, false, false, false, false, false, false] rfl rfl (by kernel_rfl) (fun _ _ _ h => h) (Or.inl ⟨by rfl, ?_⟩) ?_ ?_
  rotate_left
  · intro w'
    go_simp
    with_reducible rfl
  rotate_left
  · simp only [Act.put, List.setIfInBounds_toArray, List.set_cons_zero, List.set_cons_succ, i64_w, i32_w]
    rfl
  refine pure_ (i := 5) (N := some 38) (v := ?_) (a' := ?_) #[true, true, true, false, true, true, false, false, false, false, false, false, false, false, false, false, false] rfl rfl (by kernel_rfl) (fun _ _ _ h => h) (Or.inl ⟨by rfl, ?_⟩) ?_ ?_
  rotate_left
  · intro w'
    go_simp
    with_reducible rfl
  rotate_left
  · simp only [Act.put, List.setIfInBounds_toArray, List.set_cons_zero, List.set_cons_succ, i64_w, i32_w]
    rfl
  refine pure_ (i := 6) (N := some 39) (v := ?_) (a' := ?_) #[true, true, true, false, true, true, true, false, false, false, false, false, false, false, false, false, false] rfl rfl (by kernel_rfl) (fun _ _ _ h => h) (Or.inl ⟨by rfl, ?_⟩) ?_ ?_
  rotate_left
  · intro w'
    go_simp
    with_reducible rfl
  rotate_left
  · simp only [Act.put, List.setIfInBounds_toArray, List.set_cons_zero, List.set_cons_succ, i64_w, i32_w]
    rfl
  refine pure_ (i := 8) (N := some 41) (v := ?_) (a' := ?_) #[true, true, true, false, true, true, true, false, true, false, false, false, false, false, false, false, false] rfl rfl (by kernel_rfl) (fun _ _ _ h => h) (Or.inl ⟨by rfl, ?_⟩) ?_ ?_
  rotate_left
  · intro w'
    go_simp
    with_reducible rfl
  rotate_left
  · simp only [Act.put, List.setIfInBounds_toArray, List.set_cons_zero, List.set_cons_succ, i64_w, i32_w]
    rfl
  refine pure_ (i := 10) (N := some 43) (v := ?_) (a' := ?_) #[true, true, true, false, true, true, true, false, true, false, true, false, false, false, false, false, false] rfl rfl (by kernel_rfl) (fun _ _ _ h => h) (Or.inl ⟨by rfl, ?_⟩) ?_ ?_
  rotate_left
  · intro w'
    go_simp
    with_reducible rfl
  rotate_left
  · simp only [Act.put, List.setIfInBounds_toArray, List.set_cons_zero, List.set_cons_succ, i64_w, i32_w]
    rfl
  refine pure_ (i := 11) (N := some 44) (v := ?_) (a' := ?_) #[true, true, true, false, true, true, true, false, true, false, true, true, false, false, false, false, false] rfl rfl (by kernel_rfl) (fun _ _ _ h => h) (Or.inl ⟨by rfl, ?_⟩) ?_ ?_
  rotate_left
  · intro w'
    go_simp
    with_reducible rfl
  rotate_left
  · simp only [Act.put, List.setIfInBounds_toArray, List.set_cons_zero, List.set_cons_succ, i64_w, i32_w]
    rfl
  refine pure_ (i := 12) (N := some 45) (v := ?_) (a' := ?_) #[true, true, true, false, true, true, true, false, true, false, true, true, true, false, false, false, false] rfl rfl (by kernel_rfl) (fun _ _ _ h => h) (Or.inl ⟨by rfl, ?_⟩) ?_ ?_
  rotate_left
  · intro w'
    go_simp
    with_reducible rfl
  rotate_left
  · simp only [Act.put, List.setIfInBounds_toArray, List.set_cons_zero, List.set_cons_succ, i64_w, i32_w]
    rfl
  refine take_ (i := 3) (N := some 36) (v := ?_) (a' := ?_) #[true, true, true, true, true, true, true, false, true, false, true, true, true, false, false, false, false] rfl rfl (by kernel_rfl) (fun _ _ _ h => h) (Or.inl ⟨by rfl, ?_⟩) hHeld ?_ ?_
  rotate_left
  · rintro w' ⟨s0, s1⟩
    go_simp
    with_reducible rfl
  rotate_left
  · simp only [Act.put, List.setIfInBounds_toArray, List.set_cons_zero, List.set_cons_succ, i64_w, i32_w]
    rfl
  refine take_ (i := 7) (N := some 40) (v := ?_) (a' := ?_) #[true, true, true, true, true, true, true, true, true, false, true, true, true, false, false, false, false] rfl rfl (by kernel_rfl) (fun _ _ _ h => h) (Or.inl ⟨by rfl, ?_⟩) hHeld ?_ ?_
  rotate_left
  · rintro w' ⟨s0, s1⟩
    go_simp
    with_reducible rfl
  rotate_left
  · simp only [Act.put, List.setIfInBounds_toArray, List.set_cons_zero, List.set_cons_succ, i64_w, i32_w]
    rfl
  refine pure_ (i := 9) (N := some 42) (v := ?_) (a' := ?_) #[true, true, true, true, true, true, true, true, true, true, true, true, true, false, false, false, false] rfl rfl (by kernel_rfl) (fun _ _ _ h => h) (Or.inl ⟨by rfl, ?_⟩) ?_ ?_
  rotate_left
  · intro w'
    go_simp
    with_reducible rfl
  rotate_left
  · simp only [Act.put, List.setIfInBounds_toArray, List.set_cons_zero, List.set_cons_succ, i64_w, i32_w]
    rfl
  refine take_ (i := 13) (N := some 46) (v := ?_) (a' := ?_) #[true, true, true, true, true, true, true, true, true, true, true, true, true, true, false, false, false] rfl rfl (by kernel_rfl) (fun _ _ _ h => h) (Or.inl ⟨by rfl, ?_⟩) hHeld ?_ ?_
  rotate_left
  · rintro w' ⟨s0, s1⟩
    go_simp
    with_reducible rfl
  rotate_left
  · simp only [Act.put, List.setIfInBounds_toArray, List.set_cons_zero, List.set_cons_succ, i64_w, i32_w]
    rfl
  refine pure_ (i := 14) (N := some 47) (v := ?_) (a' := ?_) #[true, true, true, true, true, true, true, true, true, true, true, true, true, true, true, false, false] rfl rfl (by kernel_rfl) (fun _ _ _ h => h) (Or.inl ⟨by rfl, ?_⟩) ?_ ?_
  rotate_left
  · intro w'
    go_simp
    with_reducible rfl
  rotate_left
  · simp only [Act.put, List.setIfInBounds_toArray, List.set_cons_zero, List.set_cons_succ, i64_w, i32_w]
    rfl
  refine last_ (i := 15) (N := some 48) #[true, true, true, true, true, true, true, true, true, true, true, true, true, true, true, true, false] rfl rfl (by kernel_rfl) (by decide) (fun K hK => ?_)
  refine goes_ Try.func58 (by kernel_rfl) rfl #[.slice A3 m (c2 - at_)] (by rfl) rfl rfl (by (try simp only [List.map_toArray, List.map_cons, List.map_nil]); first | done | rfl) ?_
  refine (G.bytes_Clone.calls (n := m) A3 (c2 - at_) ((l.take (at_ + m)).drop at_) _ _ hC.out (by rw [hlen]; have := hcl.out; omega) (by unfold G.bytes_Clone.f; exact if_pos (by omega)) hlen.symm).mono ?_
  rintro e w3 ⟨v3, rfl, ho, hb⟩
  refine ⟨_, rfl, ?_⟩
  have hS3 := Aside0.mk (Sep.row_new hS2.out hb ho)
  clear ho hb
  refine hK.out _ _ ?_
  clear hK K
  refine norm_ (a' := ?_) ?_ ?_
  rotate_left
  · show Act.put _ (some 48) _ = _
    simp only [Act.put, List.setIfInBounds_toArray, List.set_cons_zero, List.set_cons_succ, i64_w, i32_w]
    rfl
  refine pure_ (i := 16) (N := some 4) (v := ?_) (a' := ?_) #[true, true, true, true, true, true, true, true, true, true, true, true, true, true, true, true, true] rfl rfl (by kernel_rfl) (fun _ _ _ h => h) (Or.inl ⟨by rfl, ?_⟩) ?_ ?_
  rotate_left
  · intro w'
    go_simp
    with_reducible rfl
  rotate_left
  · simp only [Act.put, List.setIfInBounds_toArray, List.set_cons_zero, List.set_cons_succ, i64_w, i32_w]
    rfl
  refine done_ (by kernel_rfl) ?_
  go_wp2
  go_ret
  exact ⟨_, rfl, hS3.out⟩

end Go.Proofs.Ytmlodmpkcbncjaa.Sep

/- cursor.Cursor: numbers. -/
set_option linter.unusedVariables false
set_option linter.unusedSimpArgs false
namespace Go.Proofs.Ytmlodmpkcbncjaa.Sep
open Go Go.RowKit Go.Proofs.YtmlodmpkcbncjaaW.PrintWords Go.Proofs.YtmlodmpkcbncjaaW.PrintLast Go.Proofs.YtmlodmpkcbncjaaW.PrintMore Go.Proofs.Ytmlodmpkcbncjaa.PureKit

/-- The number of bytes, the least one first. -/
def lev : List Int → Int
  | [] => 0
  | b :: bs => b + 256 * lev bs

theorem lev_append : ∀ (a b : List Int), lev (a ++ b) = lev a + 256 ^ a.length * lev b
  | [], b => by simp [lev]
  | x :: xs, b => by
    simp only [List.cons_append, lev, lev_append xs b, List.length_cons, Int.pow_succ]
    rw [Int.mul_add, Int.add_assoc, ← Int.mul_assoc, Int.mul_comm 256 (256 ^ xs.length)]
theorem lev_take (ys : List Int) (i : Nat) (h : i < ys.length) (hb : Bytes ys) : lev (ys.take (i + 1)) = lev (ys.take i) + ys[i] * 256 ^ i := by
  rw [List.take_succ_eq_append_getElem h, lev_append, List.length_take, Nat.min_eq_left (by omega)]
  simp [lev, Int.mul_comm]
theorem lev_bound : ∀ (a : List Int), Bytes a → 0 ≤ lev a ∧ lev a < 256 ^ a.length
  | [], _ => by simp [lev]
  | x :: xs, h => by
    have := lev_bound xs h.tail
    have hx := h.head
    simp only [lev, List.length_cons, Int.pow_succ]
    omega
theorem or_step (X y : Int) (i : Nat) (hi : i < 8) (h0 : 0 ≤ X) (h1 : X < 256 ^ i) (hy0 : 0 ≤ y) (hy1 : y ≤ 255) : bits BinOp.or IntKind.u64 X (IntKind.u64.wrap (y * 2 ^ (8 * i))) = X + y * 256 ^ i := by
  obtain ⟨a, rfl⟩ := Int.eq_ofNat_of_zero_le h0
  obtain ⟨b, rfl⟩ := Int.eq_ofNat_of_zero_le hy0
  have hp : (256 : Int) ^ i = ((2 ^ (8 * i) : Nat) : Int) := by rw [Nat.pow_mul]; simp
  have hq : (2 : Int) ^ (8 * i) = ((2 ^ (8 * i) : Nat) : Int) := by simp
  have hle : 2 ^ (8 * i) ≤ 2 ^ 56 := Nat.pow_le_pow_right (by omega) (by omega)
  rw [hp] at h1 ⊢
  rw [hq]
  generalize hP : 2 ^ (8 * i) = P at *
  have ha : a < P := by omega
  have hbP : b * P ≤ 255 * 2 ^ 56 := Nat.mul_le_mul (by omega) hle
  have hm : (b : Int) * (P : Int) = ((b * P : Nat) : Int) := by simp
  rw [hm, wu64 (by omega) (by omega), bits_or_u64_nat a (b * P) (by omega) (by omega)]
  have := Nat.two_pow_add_eq_or_of_lt (i := 8 * i) (b := a) (by rw [hP]; exact ha) b
  rw [hP] at this
  rw [Nat.or_comm, Nat.mul_comm b P, ← this]
  omega

set_option maxHeartbeats 4000000 in
set_option maxRecDepth 100000 in
theorem cur_num_short (w0 w : World) (g at_ : Nat) (l : List Int) (ps : List HP) (n : Int) (hs : Sep w0 w (cur g l at_ true :: ps)) (hn : 0 < n) (hat : at_ ≤ l.length) (hl : l.length ≤ 1000000000000) (hsh : n > (l.length : Int) - at_) :
    Calls Try.prog 65 #[.pointer (some ⟨g, 0, none⟩), .int .i64 n] w fun e w' => e = .panicked [fault g 2] ∧ Sep w0 w' (cur g l at_ true :: ps) := by
  have hS := Aside0.mk hs
  clear hs
  go_enter Try.func65, Try.ntmps65
  go_wp2_with (fail)
  refine (cur_Take_short w0 _ g at_ l ps n hS.out hn hat hl hsh).mono ?_
  rintro e w1 ⟨rfl, h1⟩
  exact ⟨rfl, rfl, h1⟩

set_option maxHeartbeats 4000000 in
set_option maxRecDepth 100000 in
theorem cur_num_some (w0 w : World) (g at_ : Nat) (l : List Int) (ps : List HP) (m : Nat) (n : Int) (hm : n = m) (hs : Sep w0 w (cur g l at_ true :: ps)) (hb : Bytes l) (hn : 0 < m) (hm8 : m ≤ 8) (hl : l.length ≤ 1000000000000) (hsh : at_ + m ≤ l.length) :
    Calls Try.prog 65 #[.pointer (some ⟨g, 0, none⟩), .int .i64 n] w fun e w' => e = .returned (.int .u64 (lev ((l.take (at_ + m)).drop at_))) ∧ Sep w0 w' (cur g l (at_ + m) true :: ps) := by
  have hS := Aside0.mk hs
  clear hs
  have hlen : ((l.take (at_ + m)).drop at_).length = m := by rw [List.length_drop, List.length_take]; omega
  have hby : Bytes ((l.take (at_ + m)).drop at_) := (hb.take _).drop _
  generalize hys : (l.take (at_ + m)).drop at_ = ys at *
  go_enter Try.func65, Try.ntmps65
  go_wp2_with (first | ((with_reducible refine gate_callee (f := 19) rfl ?_); refine goesL_ (some 10) rfl rfl Try.func19 (by kernel_rfl) rfl #[.pointer (some ⟨g, 0, none⟩), .int .i64 n] rfl (by (try simp only [List.map_toArray, List.map_cons, List.map_nil]); first | done | rfl) ?_; (with_reducible refine (cur_Take_some w0 _ g at_ l ps m n hm hS.out hn hl hsh).mono ?_); rintro e w1 ⟨v1, rfl, h1⟩; refine ⟨_, rfl, ?_⟩; rw [hys] at h1; obtain ⟨bs1, hR1⟩ := h1.row_R; obtain ⟨A1, c1, e1⟩ := Kd.R_slice hR1; subst e1; have hS1 := Aside0.mk h1; clear h1 hR1))
  go_loopg [5, 12] m (fun kq v5 v12 w' => ∃ (i : Nat), v5 = .int .u64 (lev (ys.take i)) ∧ v12 = .int .i64 i ∧ Aside0 (i + kq = m) ∧ Aside0 (Sep w0 w' (row (Kd.int .u8) 5 (.slice A1 ys.length c1) ys :: cur g l (at_ + m) true :: ps)))
  case atStart => exact ⟨0, by simp [lev], rfl, ⟨by omega⟩, hS1⟩
  case round =>
    obtain ⟨i, rfl, rfl, hA, hS⟩ := hrel
    by_cases hin : i < m
    · have hd : decide ((i : Int) < (ys.length : Int)) = true := decide_eq_true (by omega)
      obtain ⟨k1, rfl⟩ : ∃ k1, gk = k1 + 1 := ⟨gk - 1, by have := hA.out; omega⟩
      obtain ⟨bs, hR⟩ := hS.out.row_R
      have hC := (Kd.R_reads' hR).2.2
      obtain ⟨ad, e0, hx⟩ := Kd.at_int hC (i : Int) (by omega) (by omega)
      cases e0
      simp only [Int.toNat_natCast] at hx
      rw [rd_at ys i (by omega)] at hx
      have hyb := hby ys[i] (List.getElem_mem (by omega))
      obtain ⟨y, hy⟩ : ∃ y, ys[i]'(by omega) = y := ⟨_, rfl⟩
      rw [hy] at hx hyb
      have hy := Aside0.mk hy
      have p0 : ((0 : Int) ≤ (i : Int)) = True := eq_true (by omega)
      have q0 : ((i : Int) < (ys.length : Int)) = True := eq_true (by omega)
      generalize hX : lev (ys.take i) = X
      have hX := Aside0.mk hX
      go_wp2
      go_roundg k1
      case measure => omega
      case rel =>
        have hXX := hX.out
        have hlv := lev_take ys i (by omega) hby
        have hbd := lev_bound (ys.take i) (hby.take _)
        rw [List.length_take, Nat.min_eq_left (by omega)] at hbd
        rw [hXX] at hlv hbd
        rw [hy.out] at hlv
        refine ⟨i + 1, ?_, by simp, ⟨by have := hA.out; omega⟩, hS⟩
        rw [hlv, or_step X y i (by omega) hbd.1 hbd.2 hyb.1 hyb.2]
    · have him : i = m := by have := hA.out; omega
      have hd : decide ((i : Int) < (ys.length : Int)) = false := decide_eq_false (by omega)
      go_wp2
      go_ret
      refine ⟨?_, hS.out.tail⟩
      rw [List.take_of_length_le (by omega)]
      rfl

end Go.Proofs.Ytmlodmpkcbncjaa.Sep

/- cursor.Cursor: Byte, Left, End. -/
set_option linter.unusedVariables false
set_option linter.unusedSimpArgs false
namespace Go.Proofs.Ytmlodmpkcbncjaa.Sep
open Go Go.RowKit Go.Proofs.YtmlodmpkcbncjaaW.PrintWords Go.Proofs.YtmlodmpkcbncjaaW.PrintLast Go.Proofs.YtmlodmpkcbncjaaW.PrintMore Go.Proofs.Ytmlodmpkcbncjaa.PureKit

set_option maxHeartbeats 4000000 in
theorem cur_Byte_short (w0 w : World) (g at_ : Nat) (l : List Int) (ps : List HP) (hs : Sep w0 w (cur g l at_ true :: ps)) (hl : l.length ≤ 1000000000000) (hsh : at_ = l.length) :
    Calls Try.prog 33 #[.pointer (some ⟨g, 0, none⟩)] w fun e w' => e = .panicked [fault g 2] ∧ Sep w0 w' (cur g l at_ true :: ps) := by
  have hS := Aside0.mk hs
  clear hs
  go_enter Try.func33, Try.ntmps33
  go_wp2_with (fail)
  refine (cur_num_short w0 _ g at_ l ps 1 hS.out (by decide) (by omega) hl (by omega)).mono ?_
  rintro e w1 ⟨rfl, h1⟩
  exact ⟨rfl, rfl, h1⟩

set_option maxHeartbeats 4000000 in
theorem cur_Byte_some (w0 w : World) (g at_ : Nat) (l : List Int) (ps : List HP) (hs : Sep w0 w (cur g l at_ true :: ps)) (hb : Bytes l) (hl : l.length ≤ 1000000000000) (hsh : at_ < l.length) :
    Calls Try.prog 33 #[.pointer (some ⟨g, 0, none⟩)] w fun e w' => e = .returned (.int .u8 l[at_]) ∧ Sep w0 w' (cur g l (at_ + 1) true :: ps) := by
  have hS := Aside0.mk hs
  clear hs
  have h1 : (l.take (at_ + 1)).drop at_ = [l[at_]] := by
    rw [List.take_succ_eq_append_getElem hsh, List.drop_left' (by rw [List.length_take]; omega)]
  have hx := hb _ (List.getElem_mem hsh)
  generalize l[at_] = y at *
  go_enter Try.func33, Try.ntmps33
  go_wp2_with (first | ((with_reducible refine gate_callee (f := 65) rfl ?_); refine goesL_ (some 4) rfl rfl Try.func65 (by kernel_rfl) rfl #[.pointer (some ⟨g, 0, none⟩), .int .i64 1] rfl (by (try simp only [List.map_toArray, List.map_cons, List.map_nil]); first | done | rfl) ?_; (with_reducible refine (cur_num_some w0 _ g at_ l ps 1 1 rfl hS.out hb (by decide) (by decide) hl (by omega)).mono ?_); rintro e w1 ⟨rfl, h2⟩; refine ⟨_, rfl, ?_⟩; rw [h1, show lev [y] = y by simp [lev]]; have hS1 := Aside0.mk h2; clear h2))
  go_ret
  exact ⟨rfl, hS1.out⟩

set_option maxHeartbeats 4000000 in
theorem cur_Left (w0 w : World) (g at_ : Nat) (l : List Int) (ps : List HP) (hs : Sep w0 w (cur g l at_ true :: ps)) (hat : at_ ≤ l.length) (hl : l.length ≤ 1000000000000) :
    Calls Try.prog 62 #[.pointer (some ⟨g, 0, none⟩)] w fun e w' => e = .returned (.int .i64 ((l.length : Int) - at_)) ∧ Sep w0 w' (cur g l at_ true :: ps) := by
  have hS := Aside0.mk hs
  clear hs
  go_enter Try.func62, Try.ntmps62
  go_wp2_with (first | ((with_reducible refine gate_callee (f := 60) rfl ?_); refine goesL_ (some 4) rfl rfl Try.func60 (by kernel_rfl) rfl #[.pointer (some ⟨g, 0, none⟩)] rfl (by (try simp only [List.map_toArray, List.map_cons, List.map_nil]); first | done | rfl) ?_; (with_reducible refine (cur_dead w0 _ g at_ l true ps hS.out).mono ?_); rintro e w1 ⟨rfl, h1⟩; refine ⟨_, rfl, ?_⟩; have hS1 := Aside0.mk h1; clear h1))
  obtain ⟨A, c, hO⟩ := Sep.cur_open hS1.out
  have hc0 : w1.cell? ⟨g, 0, none⟩ = some (.slice A l.length c) := (hO.cell 0).trans rfl
  have hc1 : w1.cell? ⟨g, 1, none⟩ = some (.int .i64 at_) := (hO.cell 1).trans rfl
  clear hO
  repeat (go_quiet (fail); try go_wp2)
  go_ret
  refine ⟨?_, hS1.out.drewN _⟩
  show Ending.returned (Value.int .i64 (IntKind.i64.wrap ((l.length : Int) - (at_ : Int)))) = _
  rw [i64_w, w64 (by omega) (by omega)]

set_option maxHeartbeats 4000000 in
theorem cur_End_ok (w0 w : World) (g at_ : Nat) (l : List Int) (ps : List HP) (hs : Sep w0 w (cur g l at_ true :: ps)) (hat : at_ = l.length) (hl : l.length ≤ 1000000000000) :
    Calls Try.prog 36 #[.pointer (some ⟨g, 0, none⟩)] w fun e w' => e = .returned (.tuple #[]) ∧ Sep w0 w' (cur g l at_ true :: ps) := by
  have hS := Aside0.mk hs
  clear hs
  have hd : decide ((l.length : Int) - (at_ : Int) > 0) = false := decide_eq_false (by omega)
  go_enter Try.func36, Try.ntmps36
  go_wp2_with (first | ((with_reducible refine gate_callee (f := 62) rfl ?_); refine goesL_ (some 3) rfl rfl Try.func62 (by kernel_rfl) rfl #[.pointer (some ⟨g, 0, none⟩)] rfl (by (try simp only [List.map_toArray, List.map_cons, List.map_nil]); first | done | rfl) ?_; (with_reducible refine (cur_Left w0 _ g at_ l ps hS.out (by omega) hl).mono ?_); rintro e w1 ⟨rfl, h1⟩; refine ⟨_, rfl, ?_⟩; have hS1 := Aside0.mk h1; clear h1))
  go_end0
  exact ⟨rfl, hS1.out⟩

set_option maxHeartbeats 4000000 in
theorem cur_End_long (w0 w : World) (g at_ : Nat) (l : List Int) (ps : List HP) (hs : Sep w0 w (cur g l at_ true :: ps)) (hat : at_ < l.length) (hl : l.length ≤ 1000000000000) :
    Calls Try.prog 36 #[.pointer (some ⟨g, 0, none⟩)] w fun e w' => e = .panicked [fault g 3] ∧ Sep w0 w' (cur g l at_ true :: ps) := by
  have hS := Aside0.mk hs
  clear hs
  have hd : decide ((l.length : Int) - (at_ : Int) > 0) = true := decide_eq_true (by omega)
  go_enter Try.func36, Try.ntmps36
  go_wp2_with (first | ((with_reducible refine gate_callee (f := 62) rfl ?_); refine goesL_ (some 3) rfl rfl Try.func62 (by kernel_rfl) rfl #[.pointer (some ⟨g, 0, none⟩)] rfl (by (try simp only [List.map_toArray, List.map_cons, List.map_nil]); first | done | rfl) ?_; (with_reducible refine (cur_Left w0 _ g at_ l ps hS.out (by omega) hl).mono ?_); rintro e w1 ⟨rfl, h1⟩; refine ⟨_, rfl, ?_⟩; have hS1 := Aside0.mk h1; clear h1))
  refine (cur_Fail w0 _ g at_ l ps 3 hS1.out (by decide)).mono ?_
  rintro e w2 ⟨rfl, h2⟩
  exact ⟨rfl, rfl, h2⟩

end Go.Proofs.Ytmlodmpkcbncjaa.Sep

/- cursor.Cursor: Four, Eight. -/
set_option linter.unusedVariables false
set_option linter.unusedSimpArgs false
namespace Go.Proofs.Ytmlodmpkcbncjaa.Sep
open Go Go.RowKit Go.Proofs.YtmlodmpkcbncjaaW.PrintWords Go.Proofs.YtmlodmpkcbncjaaW.PrintLast Go.Proofs.YtmlodmpkcbncjaaW.PrintMore Go.Proofs.Ytmlodmpkcbncjaa.PureKit

set_option maxHeartbeats 4000000 in
theorem cur_Four_short (w0 w : World) (g at_ : Nat) (l : List Int) (ps : List HP) (hs : Sep w0 w (cur g l at_ true :: ps)) (hat : at_ ≤ l.length) (hl : l.length ≤ 1000000000000) (hsh : (4 : Int) > (l.length : Int) - at_) :
    Calls Try.prog 34 #[.pointer (some ⟨g, 0, none⟩)] w fun e w' => e = .panicked [fault g 2] ∧ Sep w0 w' (cur g l at_ true :: ps) := by
  have hS := Aside0.mk hs
  clear hs
  go_enter Try.func34, Try.ntmps34
  go_wp2_with (fail)
  refine (cur_num_short w0 _ g at_ l ps 4 hS.out (by decide) hat hl hsh).mono ?_
  rintro e w1 ⟨rfl, h1⟩
  exact ⟨rfl, rfl, h1⟩
theorem lev_lt (l : List Int) (a n : Nat) (hb : Bytes l) (h : a + n ≤ l.length) : 0 ≤ lev ((l.take (a + n)).drop a) ∧ lev ((l.take (a + n)).drop a) < 256 ^ n := by
  have := lev_bound _ ((hb.take (a + n)).drop a)
  rw [List.length_drop, List.length_take, show min (a + n) l.length - a = n by omega] at this
  exact this
set_option maxHeartbeats 4000000 in
theorem cur_Four_some (w0 w : World) (g at_ : Nat) (l : List Int) (ps : List HP) (hs : Sep w0 w (cur g l at_ true :: ps)) (hb : Bytes l) (hl : l.length ≤ 1000000000000) (hsh : at_ + 4 ≤ l.length) :
    Calls Try.prog 34 #[.pointer (some ⟨g, 0, none⟩)] w fun e w' => e = .returned (.int .u32 (lev ((l.take (at_ + 4)).drop at_))) ∧ Sep w0 w' (cur g l (at_ + 4) true :: ps) := by
  have hS := Aside0.mk hs
  clear hs
  have hbd := lev_lt l at_ 4 hb hsh
  have h4 : (256 : Int) ^ 4 = 4294967296 := by decide
  rw [h4] at hbd
  obtain ⟨y, hy⟩ : ∃ y, lev ((l.take (at_ + 4)).drop at_) = y := ⟨_, rfl⟩
  rw [hy] at hbd ⊢
  have hyA := Aside0.mk hy
  have hw : IntKind.u32.wrap y = y := by rw [IntKind.wrap_u32]; omega
  clear hy h4
  go_enter Try.func34, Try.ntmps34
  go_wp2_with (first | ((with_reducible refine gate_callee (f := 65) rfl ?_); refine goesL_ (some 4) rfl rfl Try.func65 (by kernel_rfl) rfl #[.pointer (some ⟨g, 0, none⟩), .int .i64 4] rfl (by (try simp only [List.map_toArray, List.map_cons, List.map_nil]); first | done | rfl) ?_; (with_reducible refine (cur_num_some w0 _ g at_ l ps 4 4 rfl hS.out hb (by decide) (by decide) hl hsh).mono ?_); rintro e w1 ⟨rfl, h2⟩; refine ⟨_, rfl, ?_⟩; rw [hyA.out]; have hS1 := Aside0.mk h2; clear h2))
  go_ret
  exact ⟨by first | rfl | (simp [hw]), hS1.out⟩
set_option maxHeartbeats 4000000 in
theorem cur_Eight_some (w0 w : World) (g at_ : Nat) (l : List Int) (ps : List HP) (hs : Sep w0 w (cur g l at_ true :: ps)) (hb : Bytes l) (hl : l.length ≤ 1000000000000) (hsh : at_ + 8 ≤ l.length) :
    Calls Try.prog 35 #[.pointer (some ⟨g, 0, none⟩)] w fun e w' => e = .returned (.int .u64 (lev ((l.take (at_ + 8)).drop at_))) ∧ Sep w0 w' (cur g l (at_ + 8) true :: ps) := by
  have hS := Aside0.mk hs
  clear hs
  go_enter Try.func35, Try.ntmps35
  go_wp2_with (first | ((with_reducible refine gate_callee (f := 65) rfl ?_); refine goesL_ (some 4) rfl rfl Try.func65 (by kernel_rfl) rfl #[.pointer (some ⟨g, 0, none⟩), .int .i64 8] rfl (by (try simp only [List.map_toArray, List.map_cons, List.map_nil]); first | done | rfl) ?_; (with_reducible refine (cur_num_some w0 _ g at_ l ps 8 8 rfl hS.out hb (by decide) (by decide) hl hsh).mono ?_); rintro e w1 ⟨rfl, h2⟩; refine ⟨_, rfl, ?_⟩; have hS1 := Aside0.mk h2; clear h2))
  go_ret
  exact ⟨rfl, hS1.out⟩

end Go.Proofs.Ytmlodmpkcbncjaa.Sep

/- varint.Get: the next number. -/
set_option linter.unusedVariables false
set_option linter.unusedSimpArgs false
namespace Go.Proofs.Ytmlodmpkcbncjaa.Sep
open Go Go.RowKit Go.Proofs.YtmlodmpkcbncjaaW.PrintWords Go.Proofs.YtmlodmpkcbncjaaW.PrintLast Go.Proofs.YtmlodmpkcbncjaaW.PrintMore Go.Proofs.Ytmlodmpkcbncjaa.PureKit

/-- What a reading of one thing comes to: the thing, or an error; and how many bytes are read then. -/
inductive Res (α : Type) where
  | ok (x : α) (at2 : Nat)
  | bad (e : Int) (at2 : Nat)

def Res.post {α : Type} (r : Res α) (enc : α → Value) (w0 : World) (g : Nat) (l : List Int) (ps : List HP) (e : Ending) (w' : World) : Prop :=
  match r with
  | .ok x a => e = .returned (enc x) ∧ Sep w0 w' (cur g l a true :: ps)
  | .bad er a => e = .panicked [fault g er] ∧ Sep w0 w' (cur g l a true :: ps)

def vgo : Nat → Nat → List Int → Int → Nat → Res Int
  | 0, _, _, x, a => .ok x a
  | _ + 1, _, [], _, a => .bad 2 a
  | k + 1, i, b :: s, x, a =>
    if i = 9 ∧ 1 < b then .bad 3 (a + 1)
    else if 128 ≤ b then vgo k (i + 1) s (x + (b - 128) * 128 ^ i) (a + 1)
    else if b = 0 ∧ 0 < i then .bad 4 (a + 1)
    else .ok (x + b * 128 ^ i) (a + 1)
/-- The number with which the bytes go on behind at_. -/
def vget (l : List Int) (at_ : Nat) : Res Int := vgo 10 0 (l.drop at_) 0 at_

theorem and7_all : ∀ z : Fin 256, bits BinOp.andNot IntKind.u8 ((z.val : Nat) : Int) 128 = ((z.val % 128 : Nat) : Int) := by decide +kernel
theorem and7 (y : Int) (h0 : 0 ≤ y) (h1 : y ≤ 255) : bits BinOp.andNot IntKind.u8 y 128 = y % 128 := by
  have h := and7_all ⟨y.toNat, by omega⟩
  simp only at h
  rw [show ((y.toNat : Nat) : Int) = y by omega] at h
  rw [h]
  omega
theorem or7_step (X y : Int) (i : Nat) (hi : i < 9 ∨ i = 9 ∧ y ≤ 1) (h0 : 0 ≤ X) (h1 : X < 128 ^ i) (hy0 : 0 ≤ y) (hy1 : y ≤ 127) : bits BinOp.or IntKind.u64 X (IntKind.u64.wrap (y * 2 ^ (7 * i))) = X + y * 128 ^ i := by
  obtain ⟨a, rfl⟩ := Int.eq_ofNat_of_zero_le h0
  obtain ⟨b, rfl⟩ := Int.eq_ofNat_of_zero_le hy0
  have hp : (128 : Int) ^ i = ((2 ^ (7 * i) : Nat) : Int) := by rw [Nat.pow_mul]; simp
  have hq : (2 : Int) ^ (7 * i) = ((2 ^ (7 * i) : Nat) : Int) := by simp
  have hle : b * 2 ^ (7 * i) ≤ 127 * 2 ^ 56 ∨ b * 2 ^ (7 * i) ≤ 2 ^ 63 := by
    rcases hi with hi | ⟨rfl, hi⟩
    · exact .inl (Nat.mul_le_mul (by omega) (Nat.pow_le_pow_right (by omega) (by omega)))
    · refine .inr ?_
      calc b * 2 ^ (7 * 9) ≤ 1 * 2 ^ (7 * 9) := Nat.mul_le_mul (by omega) (Nat.le_refl _)
        _ ≤ 2 ^ 63 := by decide
  have hP9 : 2 ^ (7 * i) ≤ 2 ^ 63 := Nat.pow_le_pow_right (by omega) (by omega)
  rw [hp] at h1 ⊢
  rw [hq]
  generalize hP : 2 ^ (7 * i) = P at *
  have ha : a < P := by omega
  have hm : (b : Int) * (P : Int) = ((b * P : Nat) : Int) := by simp
  rw [hm, wu64 (by omega) (by omega), bits_or_u64_nat a (b * P) (by omega) (by omega)]
  have := Nat.two_pow_add_eq_or_of_lt (i := 7 * i) (b := a) (by rw [hP]; exact ha) b
  rw [hP] at this
  rw [Nat.or_comm, Nat.mul_comm b P, ← this]
  omega
theorem pow128 (i : Nat) : (128 : Int) ^ (i + 1) = 128 * 128 ^ i := by rw [Int.pow_succ, Int.mul_comm]

set_option maxHeartbeats 4000000 in
set_option maxRecDepth 100000 in
theorem varint_Get (w0 w : World) (g at_ : Nat) (l : List Int) (ps : List HP) (hs : Sep w0 w (cur g l at_ true :: ps)) (hb : Bytes l) (hat : at_ ≤ l.length) (hl : l.length ≤ 1000000000000) :
    Calls Try.prog 73 #[.pointer (some ⟨g, 0, none⟩)] w fun e w' => (vget l at_).post (Value.int .u64) w0 g l ps e w' := by
  have hS := Aside0.mk hs
  clear hs
  go_enter Try.func73, Try.ntmps73
  go_wp2
  go_loopg [3, 6] 10 (fun kq v3 v6 w' => ∃ (i : Nat) (x : Int), v3 = .int .u64 x ∧ v6 = .int .i64 i ∧ Aside0 (i + kq = 10 ∧ 0 ≤ x ∧ x < 128 ^ i ∧ at_ + i ≤ l.length ∧ vgo kq i (l.drop (at_ + i)) x (at_ + i) = vget l at_) ∧ Aside0 (Sep w0 w' (cur g l (at_ + i) true :: ps)))
  case atStart => exact ⟨0, 0, rfl, rfl, ⟨by decide, by decide, by decide, hat, rfl⟩, hS⟩
  case round =>
    obtain ⟨i, x, rfl, rfl, hA, hS⟩ := hrel
    have hA' := hA.out
    obtain ⟨hk, h0, h1, hat2, hv⟩ := hA'
    by_cases hi10 : i < 10
    case neg =>
      have hi : i = 10 := by omega
      subst hi
      obtain rfl : gk = 0 := by omega
      have hd : decide (((10 : Nat) : Int) < 10) = false := by decide
      have hv := Aside0.mk hv
      clear h0 h1 hat2 hA hk
      go_wp2
      go_ret
      rw [← hv.out]
      exact ⟨rfl, hS.out⟩
    have hd : decide ((i : Int) < 10) = true := decide_eq_true (by omega)
    obtain ⟨k1, rfl⟩ : ∃ k1, gk = k1 + 1 := ⟨gk - 1, by omega⟩
    by_cases hin : at_ + i < l.length
    case neg =>
      rw [List.drop_eq_nil_of_le (by omega)] at hv
      have hv := Aside0.mk hv
      clear hA h0 h1
      go_wp2_with (fail)
      refine (cur_Byte_short w0 _ g (at_ + i) l ps hS.out hl (by omega)).mono ?_
      rintro e w1 ⟨rfl, h2⟩
      refine ⟨rfl, ?_⟩
      rw [← hv.out]
      exact ⟨rfl, h2⟩
    rw [List.drop_eq_getElem_cons hin] at hv
    have hbb := hb _ (List.getElem_mem hin)
    obtain ⟨b, hbq⟩ : ∃ b, l[at_ + i] = b := ⟨_, rfl⟩
    rw [hbq] at hv hbb
    have hbq := Aside0.mk hbq
    unfold vgo at hv
    have hand := and7 b (by omega) hbb.2
    by_cases c1 : i = 9 ∧ 1 < b
    · rw [if_pos c1] at hv
      have e9 : ((i : Int) == 9) = true := beq_iff_eq.2 (by omega)
      have e1 : decide (b > 1) = true := decide_eq_true c1.2
      have hvA := Aside0.mk hv
      clear hv hA h0 h1 hk hand
      go_wp2_with (first | ((with_reducible refine gate_callee (f := 33) rfl ?_); refine goesL_ (some 10) rfl rfl Try.func33 (by kernel_rfl) rfl #[.pointer (some ⟨g, 0, none⟩)] rfl (by (try simp only [List.map_toArray, List.map_cons, List.map_nil]); first | done | rfl) ?_; (with_reducible refine (cur_Byte_some w0 _ g (at_ + i) l ps hS.out hb hl hin).mono ?_); rintro e w1 ⟨rfl, h1⟩; refine ⟨_, rfl, ?_⟩; rw [hbq.out]; have hS1 := Aside0.mk h1; clear h1))
      refine (cur_Fail w0 _ g (at_ + i + 1) l ps 3 hS1.out (by decide)).mono ?_
      rintro e w2 ⟨rfl, h2⟩
      refine ⟨rfl, ?_⟩
      rw [← hvA.out]
      exact ⟨rfl, h2⟩
    rw [if_neg c1] at hv
    have horA := Aside0.mk (or7_step x (b % 128) i (by omega) h0 h1 (by omega) (by omega))
    have hor := horA.out
    have h0A := Aside0.mk h0
    have h1A := Aside0.mk h1
    have hkA := Aside0.mk hk
    have hbA := Aside0.mk hbb
    clear h0 h1 hk hA
    by_cases c2 : 128 ≤ b
    · rw [if_pos c2] at hv
      have e2 : decide (b ≥ 128) = true := decide_eq_true c2
      have hvA := Aside0.mk hv
      clear hv
      have hrel : ∃ (i' : Nat) (x' : Int), (Value.int .u64 (x + b % 128 * 128 ^ i)) = .int .u64 x' ∧ (Value.int .i64 ((i : Int) + 1)) = .int .i64 i' ∧ Aside0 (i' + k1 = 10 ∧ 0 ≤ x' ∧ x' < 128 ^ i' ∧ at_ + i' ≤ l.length ∧ vgo k1 i' (l.drop (at_ + i')) x' (at_ + i') = vget l at_) := by
        have hp : (0 : Int) ≤ b % 128 * 128 ^ i := Int.mul_nonneg (by omega) (Int.pow_nonneg (by decide))
        have hp2 : b % 128 * 128 ^ i ≤ 127 * 128 ^ i := Int.mul_le_mul_of_nonneg_right (by omega) (Int.pow_nonneg (by decide))
        have hx0 := h0A.out
        have hx1 := h1A.out
        refine ⟨i + 1, _, rfl, by simp, ⟨by have := hkA.out; omega, by omega, by rw [pow128]; omega, by omega, ?_⟩⟩
        have := hvA.out
        rw [show b % 128 = b - 128 by omega]
        exact this
      have hrelA := Aside0.mk hrel
      clear hrel
      by_cases c9 : i = 9
      · have e9 : ((i : Int) == 9) = true := beq_iff_eq.2 (by omega)
        have e1 : decide (b > 1) = false := decide_eq_false (by omega)
        exact absurd c9 (by omega)
      · have e9 : ((i : Int) == 9) = false := beq_eq_false_iff_ne.2 (by omega)
        go_wp2_with (first | ((with_reducible refine gate_callee (f := 33) rfl ?_); refine goesL_ (some 10) rfl rfl Try.func33 (by kernel_rfl) rfl #[.pointer (some ⟨g, 0, none⟩)] rfl (by (try simp only [List.map_toArray, List.map_cons, List.map_nil]); first | done | rfl) ?_; (with_reducible refine (cur_Byte_some w0 _ g (at_ + i) l ps hS.out hb hl hin).mono ?_); rintro e w1 ⟨rfl, h1⟩; refine ⟨_, rfl, ?_⟩; rw [hbq.out]; have hS1 := Aside0.mk h1; clear h1))
        go_roundg k1
        case measure => omega
        case rel =>
          obtain ⟨i', x', hx', hi', hA'⟩ := hrelA.out
          have hi3 : i' = i + 1 := by
            have hi4 : ((i : Int) + 1) = (i' : Int) := by simpa using hi'
            omega
          subst hi3
          exact ⟨_, x', hx', hi', hA', hS1⟩
    rw [if_neg c2] at hv
    have e2 : decide (b ≥ 128) = false := decide_eq_false c2
    by_cases c3 : b = 0 ∧ 0 < i
    · rw [if_pos c3] at hv
      have hvA := Aside0.mk hv
      clear hv
      have e3 : (b == 0) = true := beq_iff_eq.2 c3.1
      have e4 : decide ((i : Int) > 0) = true := decide_eq_true (by omega)
      by_cases c9 : i = 9
      · have e9 : ((i : Int) == 9) = true := beq_iff_eq.2 (by omega)
        have e1 : decide (b > 1) = false := decide_eq_false (by omega)
        go_wp2_with (first | ((with_reducible refine gate_callee (f := 33) rfl ?_); refine goesL_ (some 10) rfl rfl Try.func33 (by kernel_rfl) rfl #[.pointer (some ⟨g, 0, none⟩)] rfl (by (try simp only [List.map_toArray, List.map_cons, List.map_nil]); first | done | rfl) ?_; (with_reducible refine (cur_Byte_some w0 _ g (at_ + i) l ps hS.out hb hl hin).mono ?_); rintro e w1 ⟨rfl, h1⟩; refine ⟨_, rfl, ?_⟩; rw [hbq.out]; have hS1 := Aside0.mk h1; clear h1))
        refine (cur_Fail w0 _ g (at_ + i + 1) l ps 4 hS1.out (by decide)).mono ?_
        rintro e w2 ⟨rfl, h2⟩
        refine ⟨rfl, ?_⟩
        rw [← hvA.out]
        exact ⟨rfl, h2⟩
      · have e9 : ((i : Int) == 9) = false := beq_eq_false_iff_ne.2 (by omega)
        go_wp2_with (first | ((with_reducible refine gate_callee (f := 33) rfl ?_); refine goesL_ (some 10) rfl rfl Try.func33 (by kernel_rfl) rfl #[.pointer (some ⟨g, 0, none⟩)] rfl (by (try simp only [List.map_toArray, List.map_cons, List.map_nil]); first | done | rfl) ?_; (with_reducible refine (cur_Byte_some w0 _ g (at_ + i) l ps hS.out hb hl hin).mono ?_); rintro e w1 ⟨rfl, h1⟩; refine ⟨_, rfl, ?_⟩; rw [hbq.out]; have hS1 := Aside0.mk h1; clear h1))
        refine (cur_Fail w0 _ g (at_ + i + 1) l ps 4 hS1.out (by decide)).mono ?_
        rintro e w2 ⟨rfl, h2⟩
        refine ⟨rfl, ?_⟩
        rw [← hvA.out]
        exact ⟨rfl, h2⟩
    rw [if_neg c3] at hv
    have hvA := Aside0.mk hv
    clear hv
    by_cases c9 : i = 9
    · clear hor
      have e9 : ((i : Int) == 9) = true := beq_iff_eq.2 (by omega)
      have e1 : decide (b > 1) = false := decide_eq_false (by omega)
      by_cases c4 : b = 0
      · exact absurd ⟨c4, by omega⟩ c3
      have e3 : (b == 0) = false := beq_eq_false_iff_ne.2 c4
      go_wp2_with (first | ((with_reducible refine gate_callee (f := 33) rfl ?_); refine goesL_ (some 10) rfl rfl Try.func33 (by kernel_rfl) rfl #[.pointer (some ⟨g, 0, none⟩)] rfl (by (try simp only [List.map_toArray, List.map_cons, List.map_nil]); first | done | rfl) ?_; (with_reducible refine (cur_Byte_some w0 _ g (at_ + i) l ps hS.out hb hl hin).mono ?_); rintro e w1 ⟨rfl, h1⟩; refine ⟨_, rfl, ?_⟩; rw [hbq.out]; have hS1 := Aside0.mk h1; clear h1))
      go_ret
      rw [← hvA.out]
      have hb1 := hbA.out
      have hor9 := horA.out
      subst c9
      rw [show b % 128 = b by omega, show (2 : Int) ^ (7 * 9) = 9223372036854775808 from rfl, wu64 (by omega) (by omega)] at hor9
      refine ⟨?_, hS1.out⟩
      refine congrArg (fun z => Ending.returned (Value.int .u64 z)) ?_
      rw [show b % 128 = b by omega]
      exact hor9
    · have e9 : ((i : Int) == 9) = false := beq_eq_false_iff_ne.2 (by omega)
      by_cases c4 : b = 0
      · have e3 : (b == 0) = true := beq_iff_eq.2 c4
        have e4 : decide ((i : Int) > 0) = false := decide_eq_false (by omega)
        go_wp2_with (first | ((with_reducible refine gate_callee (f := 33) rfl ?_); refine goesL_ (some 10) rfl rfl Try.func33 (by kernel_rfl) rfl #[.pointer (some ⟨g, 0, none⟩)] rfl (by (try simp only [List.map_toArray, List.map_cons, List.map_nil]); first | done | rfl) ?_; (with_reducible refine (cur_Byte_some w0 _ g (at_ + i) l ps hS.out hb hl hin).mono ?_); rintro e w1 ⟨rfl, h1⟩; refine ⟨_, rfl, ?_⟩; rw [hbq.out]; have hS1 := Aside0.mk h1; clear h1))
        go_ret
        rw [← hvA.out]
        subst c4
        have hor0 := horA.out
        have h00 : bits BinOp.andNot IntKind.u8 0 128 = 0 := by decide +kernel
        refine ⟨?_, hS1.out⟩
        refine congrArg (fun z => Ending.returned (Value.int .u64 z)) ?_
        rw [h00, show IntKind.u64.wrap 0 = 0 from rfl]
        exact hor0
      · have e3 : (b == 0) = false := beq_eq_false_iff_ne.2 c4
        go_wp2_with (first | ((with_reducible refine gate_callee (f := 33) rfl ?_); refine goesL_ (some 10) rfl rfl Try.func33 (by kernel_rfl) rfl #[.pointer (some ⟨g, 0, none⟩)] rfl (by (try simp only [List.map_toArray, List.map_cons, List.map_nil]); first | done | rfl) ?_; (with_reducible refine (cur_Byte_some w0 _ g (at_ + i) l ps hS.out hb hl hin).mono ?_); rintro e w1 ⟨rfl, h1⟩; refine ⟨_, rfl, ?_⟩; rw [hbq.out]; have hS1 := Aside0.mk h1; clear h1))
        go_ret
        rw [← hvA.out]
        have := hbA.out
        refine ⟨?_, hS1.out⟩
        refine congrArg (fun z => Ending.returned (Value.int .u64 z)) ?_
        rw [show b % 128 = b by omega]

end Go.Proofs.Ytmlodmpkcbncjaa.Sep
