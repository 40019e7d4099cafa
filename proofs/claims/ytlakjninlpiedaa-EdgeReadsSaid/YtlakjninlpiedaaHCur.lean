/- cursor.Cursor: bytes that are read, up to where a reading stops. -/
import Derived.Test.YtlakjninlpiedaaHSep
import Derived.Test.YtlakjninlpiedaaHBytes
import Derived.Test.YtlakjninlpiedaaPureKit
import Derived.Tactics
import Derived.Tactics2
import Derived.WalkKit
set_option linter.unusedVariables false
set_option linter.unusedSimpArgs false
namespace Go.Proofs.Ytlakjninlpiedaa.Sep
open Go Go.RowKit Go.Proofs.YtlakjninlpiedaaW.PrintWords Go.Proofs.YtlakjninlpiedaaW.PrintLast Go.Proofs.YtlakjninlpiedaaW.PrintMore Go.Proofs.Ytlakjninlpiedaa.PureKit

/-- A cursor at g over these bytes, so many of them read. -/
def cur (g : Nat) (l : List Int) (at_ : Nat) (live : Bool) : HP where
  p := fun w bs => ∃ A c bs', bs = g :: bs' ∧ w.heap[g]? = some (.cells #[.slice A l.length c, .int .i64 at_, .bool live] 116 (0, 0)) ∧ Kd.R (Kd.int .u8) 5 w 0 (fun k => k ∈ bs') (.slice A l.length c) l
  loc := by
    rintro w w' bs ⟨A, c, bs', e, h1, h2⟩ hm
    exact ⟨A, c, bs', e, by rw [hm g (by rw [e]; simp)]; exact h1, Kd.R_move h2 (fun k hk => hm k (by rw [e]; exact List.mem_cons_of_mem _ hk))⟩
theorem Sep.cur_open {w0 w : World} {g at_ : Nat} {l : List Int} {live : Bool} {ps : List HP} (h : Sep w0 w (cur g l at_ live :: ps)) :
    ∃ A c, Sep w0 w (blk g #[.slice A l.length c, .int .i64 at_, .bool live] 116 :: row (Kd.int .u8) 5 (.slice A l.length c) l :: ps) := by
  obtain ⟨hb, bs, ⟨b1, b2, e, ⟨A, c, bs', e1, h1, h2⟩, hs⟩, hn, hr⟩ := h
  exact ⟨A, c, hb, bs, ⟨[g], bs' ++ b2, by rw [e, e1]; simp, ⟨rfl, h1⟩, bs', b2, rfl, h2, hs⟩, hn, hr⟩
theorem Sep.cur_close {w0 w : World} {g at_ c : Nat} {l : List Int} {live : Bool} {A : Option Addr} {ps : List HP} (h : Sep w0 w (blk g #[.slice A l.length c, .int .i64 at_, .bool live] 116 :: row (Kd.int .u8) 5 (.slice A l.length c) l :: ps)) : Sep w0 w (cur g l at_ live :: ps) := by
  obtain ⟨hb, bs, ⟨b1, b2, e, ⟨e1, h1⟩, b3, b4, e2, h2, hs⟩, hn, hr⟩ := h
  exact ⟨hb, bs, ⟨g :: b3, b4, by rw [e, e1, e2]; simp, ⟨A, c, b3, rfl, h1, h2⟩, hs⟩, hn, hr⟩

/-- What a reading that stops is thrown. -/
def fault (g : Nat) (e : Int) : PanicEntry := { v := .iface 118 (.agg #[.pointer (some ⟨g, 0, none⟩), .int .i64 e]), recovered := false }

set_option maxHeartbeats 4000000 in
theorem cur_dead (w0 w : World) (g at_ : Nat) (l : List Int) (live : Bool) (ps : List HP) (hs : Sep w0 w (cur g l at_ live :: ps)) :
    Calls Try.prog 106 #[.pointer (some ⟨g, 0, none⟩)] w fun e w' => e = .returned (.bool (!live)) ∧ Sep w0 w' (cur g l at_ live :: ps) := by
  have hS := Aside0.mk hs
  obtain ⟨A, c, hO⟩ := Sep.cur_open hs
  have hc0 : w.cell? ⟨g, 0, none⟩ = some (.slice A l.length c) := (hO.cell 0).trans rfl
  have hc1 : w.cell? ⟨g, 1, none⟩ = some (.int .i64 at_) := (hO.cell 1).trans rfl
  have hc2 : w.cell? ⟨g, 2, none⟩ = some (.bool live) := (hO.cell 2).trans rfl
  clear hs hO
  go_enter Try.func106, Try.ntmps106
  go_wp2
  go_ret
  exact ⟨rfl, hS.out⟩

set_option maxHeartbeats 4000000 in
theorem cur_Fail (w0 w : World) (g at_ : Nat) (l : List Int) (ps : List HP) (x : Int) (hs : Sep w0 w (cur g l at_ true :: ps)) (hx : x ≠ 0) :
    Calls Try.prog 89 #[.pointer (some ⟨g, 0, none⟩), .int .i64 x] w fun e w' => e = .panicked [fault g x] ∧ Sep w0 w' (cur g l at_ true :: ps) := by
  have hS := Aside0.mk hs
  clear hs
  have hd : (x != 0) = true := bne_iff_ne.2 hx
  go_enter Try.func89, Try.ntmps89
  go_wp2_with (first | ((with_reducible refine gate_callee (f := 106) rfl ?_); refine goesL_ (some 5) rfl rfl Try.func106 (by kernel_rfl) rfl #[.pointer (some ⟨g, 0, none⟩)] rfl (by (try simp only [List.map_toArray, List.map_cons, List.map_nil]); first | done | rfl) ?_; (with_reducible refine (cur_dead w0 _ g at_ l true ps hS.out).mono ?_); rintro e w1 ⟨rfl, h1⟩; refine ⟨_, rfl, ?_⟩; have hS1 := Aside0.mk h1; clear h1))
  exact ⟨rfl, rfl, hS1.out⟩

set_option maxHeartbeats 4000000 in
set_option maxRecDepth 100000 in
theorem cur_Take_none (w0 w : World) (g at_ : Nat) (l : List Int) (ps : List HP) (n : Int) (hs : Sep w0 w (cur g l at_ true :: ps)) (hn : n ≤ 0) :
    Calls Try.prog 114 #[.pointer (some ⟨g, 0, none⟩), .int .i64 n] w fun e w' => e = .returned (.slice none 0 0) ∧ Sep w0 w' (cur g l at_ true :: ps) := by
  have hS := Aside0.mk hs
  clear hs
  have hd : decide (n ≤ 0) = true := decide_eq_true hn
  go_enter Try.func114, Try.ntmps114
  go_wp2_with (first | ((with_reducible refine gate_callee (f := 106) rfl ?_); refine goesL_ (some 6) rfl rfl Try.func106 (by kernel_rfl) rfl #[.pointer (some ⟨g, 0, none⟩)] rfl (by (try simp only [List.map_toArray, List.map_cons, List.map_nil]); first | done | rfl) ?_; (with_reducible refine (cur_dead w0 _ g at_ l true ps hS.out).mono ?_); rintro e w1 ⟨rfl, h1⟩; refine ⟨_, rfl, ?_⟩; have hS1 := Aside0.mk h1; clear h1))
  go_ret
  exact ⟨rfl, hS1.out⟩

set_option maxHeartbeats 4000000 in
set_option maxRecDepth 100000 in
theorem cur_Take_short (w0 w : World) (g at_ : Nat) (l : List Int) (ps : List HP) (n : Int) (hs : Sep w0 w (cur g l at_ true :: ps)) (hn : 0 < n) (hat : at_ ≤ l.length) (hl : l.length ≤ 1000000000000) (hsh : n > (l.length : Int) - at_) :
    Calls Try.prog 114 #[.pointer (some ⟨g, 0, none⟩), .int .i64 n] w fun e w' => e = .panicked [fault g 2] ∧ Sep w0 w' (cur g l at_ true :: ps) := by
  have hS := Aside0.mk hs
  clear hs
  have hd : decide (n ≤ 0) = false := decide_eq_false (by omega)
  have hd2 : decide (n > (l.length : Int) - (at_ : Int)) = true := decide_eq_true hsh
  go_enter Try.func114, Try.ntmps114
  go_wp2_with (first | ((with_reducible refine gate_callee (f := 106) rfl ?_); refine goesL_ (some 6) rfl rfl Try.func106 (by kernel_rfl) rfl #[.pointer (some ⟨g, 0, none⟩)] rfl (by (try simp only [List.map_toArray, List.map_cons, List.map_nil]); first | done | rfl) ?_; (with_reducible refine (cur_dead w0 _ g at_ l true ps hS.out).mono ?_); rintro e w1 ⟨rfl, h1⟩; refine ⟨_, rfl, ?_⟩; have hS1 := Aside0.mk h1; clear h1))
  obtain ⟨A, c, hO⟩ := Sep.cur_open hS1.out
  have hc0 : w1.cell? ⟨g, 0, none⟩ = some (.slice A l.length c) := (hO.cell 0).trans rfl
  have hc1 : w1.cell? ⟨g, 1, none⟩ = some (.int .i64 at_) := (hO.cell 1).trans rfl
  have hc2 : w1.cell? ⟨g, 2, none⟩ = some (.bool true) := (hO.cell 2).trans rfl
  have hO := Aside0.mk hO
  repeat (go_quiet (fail); try go_wp2)
  refine ⟨rfl, rfl, ?_⟩
  exact ⟨rfl, hS1.out.drewN _⟩

theorem info8 : (Try.prog.info? 5).map (fun i => (i.zero, i.size, i.bytes)) = some (some (.int .u8 0), 1, 1) := by kernel_rfl
set_option maxHeartbeats 4000000 in
set_option maxRecDepth 100000 in
theorem cur_Take_some (w0 w : World) (g at_ : Nat) (l : List Int) (ps : List HP) (m : Nat) (n : Int) (hm : n = m) (hs : Sep w0 w (cur g l at_ true :: ps)) (hn : 0 < m) (hl : l.length ≤ 1000000000000) (hsh : at_ + m ≤ l.length) :
    Calls Try.prog 114 #[.pointer (some ⟨g, 0, none⟩), .int .i64 n] w fun e w' => ∃ v, e = .returned v ∧ Sep w0 w' (row (Kd.int .u8) 5 v ((l.take (at_ + m)).drop at_) :: cur g l (at_ + m) true :: ps) := by
  have hS := Aside0.mk hs
  clear hs
  subst hm
  have hd : decide ((m : Int) ≤ 0) = false := decide_eq_false (by omega)
  have hd2 : decide ((m : Int) > (l.length : Int) - (at_ : Int)) = false := decide_eq_false (by omega)
  go_enter Try.func114, Try.ntmps114
  go_wp2_with (first | ((with_reducible refine gate_callee (f := 106) rfl ?_); refine goesL_ (some 6) rfl rfl Try.func106 (by kernel_rfl) rfl #[.pointer (some ⟨g, 0, none⟩)] rfl (by (try simp only [List.map_toArray, List.map_cons, List.map_nil]); first | done | rfl) ?_; (with_reducible refine (cur_dead w0 _ g at_ l true ps hS.out).mono ?_); rintro e w1 ⟨rfl, h1⟩; refine ⟨_, rfl, ?_⟩; have hS1 := Aside0.mk h1; clear h1))
  obtain ⟨A, c, hO⟩ := Sep.cur_open hS1.out
  have hc0 : w1.cell? ⟨g, 0, none⟩ = some (.slice A l.length c) := (hO.cell 0).trans rfl
  have hc1 : w1.cell? ⟨g, 1, none⟩ = some (.int .i64 at_) := (hO.cell 1).trans rfl
  have hz1 := hO.frozen 1
  have hO := Aside0.mk hO
  go_quiet (fail)
  go_wp2
  have hS2 : Sep w0 ((w1.drewN nq).setCell ⟨g, 1, none⟩ (.int .i64 ((at_ : Int) + (m : Int)))) (cur g l (at_ + m) true :: ps) := by
    refine Sep.cur_close (A := A) (c := c) ?_
    have := (hO.out.drewN nq).set 1 (.int .i64 ((at_ : Int) + (m : Int)))
    simpa using this
  clear hc0 hc1 hz1 hO
  generalize (w1.drewN nq).setCell ⟨g, 1, none⟩ (.int .i64 ((at_ : Int) + (m : Int))) = w2 at hS2 ⊢
  obtain ⟨A2, c2, hO2⟩ := hS2.drew.cur_open
  obtain ⟨bs, hR⟩ := hO2.tail.row_R
  have hr := Kd.R_reads' hR
  have hc0 : w2.drew.cell? ⟨g, 0, none⟩ = some (.slice A2 l.length c2) := (hO2.cell 0).trans rfl
  have hc1 : w2.drew.cell? ⟨g, 1, none⟩ = some (.int .i64 ((at_ : Int) + (m : Int))) := by have := hO2.cell 1; simpa using this
  obtain ⟨i0, hi0, _, hsz, _⟩ := info_parts info8
  have hcut := cut_mid (P := Try.prog) 70 5 .i64 .i64 Try.underlying70 hi0 1 hsz A2 l.length c2 (at_ : Int) ((at_ : Int) + (m : Int)) (by omega) (by omega) (by omega) hr.2.1
  have hC := Kd.C_mid (lo := at_) (hi := at_ + m) (c := c2) hr.2.2 (by omega) (by omega) hr.2.1
  obtain ⟨A3, hA3⟩ : ∃ A3, A3 = (if c2 = at_ then A2 else A2.map (·.add (at_ * 1))) := ⟨_, rfl⟩
  rw [show ((at_ : Int) + (m : Int)).toNat - (at_ : Int).toNat = m by omega, show (at_ : Int).toNat = at_ by omega, ← hA3] at hcut
  have hlen : ((l.take (at_ + m)).drop at_).length = m := by rw [List.length_drop, List.length_take]; omega
  have hC := Aside0.mk (show Kd.C (Kd.int .u8) w2.drew A3 ((l.take (at_ + m)).drop at_).length ((l.take (at_ + m)).drop at_) by rw [hA3]; exact hC)
  have hcl := Aside0.mk hr.2.1
  have hS2 := Aside0.mk hS2.drew
  have hwat : wrap64 (at_ : Int) = (at_ : Int) := w64 (by omega) (by omega)
  clear hO2 hR hr hA3
  refine start_ (n := 17) (S := fun w' => w'.cell? ⟨g, 0, none⟩ = some (.slice A2 l.length c2) ∧ w'.cell? ⟨g, 1, none⟩ = some (.int .i64 ((at_ : Int) + (m : Int)))) (ds := [15]) #[false, false, false, false, false, false, false, false, false, false, false, false, false, false, false, false, false] (by kernel_rfl) rfl rfl ⟨hc0, hc1⟩ (fun hHeld => ?_)
  refine pure_ (i := 0) (N := some 33) (v := ?_) (a' := ?_) #[true, false, false, false, false, false, false, false, false, false, false, false, false, false, false, false, false] rfl rfl (by kernel_rfl) (fun _ _ _ h => h) (Or.inl ⟨by rfl, ?_⟩) ?_ ?_
  rotate_left
  · intro w'
    go_simp
    with_reducible rfl
  rotate_left
  · simp only [Act.put, List.setIfInBounds_toArray, List.set_cons_zero, List.set_cons_succ, i64_w, i32_w]
    rfl
  refine pure_ (i := 1) (N := some 34) (v := ?_) (a' := ?_) #[true, true, false, false, false, false, false, false, false, false, false, false, false, false, false, false, false] rfl rfl (by kernel_rfl) (fun _ _ _ h => h) (Or.inl ⟨by rfl, ?_⟩) ?_ ?_
  rotate_left
  · intro w'
    go_simp
    with_reducible rfl
  rotate_left
  · simp only [Act.put, List.setIfInBounds_toArray, List.set_cons_zero, List.set_cons_succ, i64_w, i32_w]
    rfl
  refine pure_ (i := 2) (N := some 35) (v := ?_) (a' := ?_) #[true, true, true, false, false, false, false, false, false, false, false, false, false, false, false, false, false] rfl rfl (by kernel_rfl) (fun _ _ _ h => h) (Or.inl ⟨by rfl, ?_⟩) ?_ ?_
  rotate_left
  · intro w'
    go_simp
    with_reducible rfl
  rotate_left
  · simp only [Act.put, List.setIfInBounds_toArray, List.set_cons_zero, List.set_cons_succ, i64_w, i32_w]
    rfl
  refine pure_ (i := 4) (N := some 37) (v := ?_) (a' := ?_) #[true, true, true, false, true, false, false, false, false, false, false, false, false, false, false, false, false] rfl rfl (by kernel_rfl) (fun _ _ _ h => h) (Or.inl ⟨by rfl, ?_⟩) ?_ ?_
  rotate_left
  · intro w'
    go_simp
    with_reducible rfl
  rotate_left
  · simp only [Act.put, List.setIfInBounds_toArray, List.set_cons_zero, List.set_cons_succ, i64_w, i32_w]
    rfl
  refine pure_ (i := 5) (N := some 38) (v := ?_) (a' := ?_) #[true, true, true, false, true, true, false, false, false, false, false, false, false, false, false, false, false] rfl rfl (by kernel_rfl) (fun _ _ _ h => h) (Or.inl ⟨by rfl, ?_⟩) ?_ ?_
  rotate_left
  · intro w'
    go_simp
    with_reducible rfl
  rotate_left
  · simp only [Act.put, List.setIfInBounds_toArray, List.set_cons_zero, List.set_cons_succ, i64_w, i32_w]
    rfl
  refine pure_ (i := 6) (N := some 39) (v := ?_) (a' := ?_) #[true, true, true, false, true, true, true, false, false, false, false, false, false, false, false, false, false] rfl rfl (by kernel_rfl) (fun _ _ _ h => h) (Or.inl ⟨by rfl, ?_⟩) ?_ ?_
  rotate_left
  · intro w'
    go_simp
    with_reducible rfl
  rotate_left
  · simp only [Act.put, List.setIfInBounds_toArray, List.set_cons_zero, List.set_cons_succ, i64_w, i32_w]
    rfl
  refine pure_ (i := 8) (N := some 41) (v := ?_) (a' := ?_) #[true, true, true, false, true, true, true, false, true, false, false, false, false, false, false, false, false] rfl rfl (by kernel_rfl) (fun _ _ _ h => h) (Or.inl ⟨by rfl, ?_⟩) ?_ ?_
  rotate_left
  · intro w'
    go_simp
    with_reducible rfl
  rotate_left
  · simp only [Act.put, List.setIfInBounds_toArray, List.set_cons_zero, List.set_cons_succ, i64_w, i32_w]
    rfl
  refine pure_ (i := 10) (N := some 43) (v := ?_) (a' := ?_) #[true, true, true, false, true, true, true, false, true, false, true, false, false, false, false, false, false] rfl rfl (by kernel_rfl) (fun _ _ _ h => h) (Or.inl ⟨by rfl, ?_⟩) ?_ ?_
  rotate_left
  · intro w'
    go_simp
    with_reducible rfl
  rotate_left
  · simp only [Act.put, List.setIfInBounds_toArray, List.set_cons_zero, List.set_cons_succ, i64_w, i32_w]
    rfl
  refine pure_ (i := 11) (N := some 44) (v := ?_) (a' := ?_) #[true, true, true, false, true, true, true, false, true, false, true, true, false, false, false, false, false] rfl rfl (by kernel_rfl) (fun _ _ _ h => h) (Or.inl ⟨by rfl, ?_⟩) ?_ ?_
  rotate_left
  · intro w'
    go_simp
    with_reducible rfl
  rotate_left
  · simp only [Act.put, List.setIfInBounds_toArray, List.set_cons_zero, List.set_cons_succ, i64_w, i32_w]
    rfl
  refine pure_ (i := 12) (N := some 45) (v := ?_) (a' := ?_) #[true, true, true, false, true, true, true, false, true, false, true, true, true, false, false, false, false] rfl rfl (by kernel_rfl) (fun _ _ _ h => h) (Or.inl ⟨by rfl, ?_⟩) ?_ ?_
  rotate_left
  · intro w'
    go_simp
    with_reducible rfl
  rotate_left
  · simp only [Act.put, List.setIfInBounds_toArray, List.set_cons_zero, List.set_cons_succ, i64_w, i32_w]
    rfl
  refine take_ (i := 3) (N := some 36) (v := ?_) (a' := ?_) #[true, true, true, true, true, true, true, false, true, false, true, true, true, false, false, false, false] rfl rfl (by kernel_rfl) (fun _ _ _ h => h) (Or.inl ⟨by rfl, ?_⟩) hHeld ?_ ?_
  rotate_left
  · rintro w' ⟨s0, s1⟩
    go_simp
    with_reducible rfl
  rotate_left
  · simp only [Act.put, List.setIfInBounds_toArray, List.set_cons_zero, List.set_cons_succ, i64_w, i32_w]
    rfl
  refine take_ (i := 7) (N := some 40) (v := ?_) (a' := ?_) #[true, true, true, true, true, true, true, true, true, false, true, true, true, false, false, false, false] rfl rfl (by kernel_rfl) (fun _ _ _ h => h) (Or.inl ⟨by rfl, ?_⟩) hHeld ?_ ?_
  rotate_left
  · rintro w' ⟨s0, s1⟩
    go_simp
    with_reducible rfl
  rotate_left
  · simp only [Act.put, List.setIfInBounds_toArray, List.set_cons_zero, List.set_cons_succ, i64_w, i32_w]
    rfl
  refine pure_ (i := 9) (N := some 42) (v := ?_) (a' := ?_) #[true, true, true, true, true, true, true, true, true, true, true, true, true, false, false, false, false] rfl rfl (by kernel_rfl) (fun _ _ _ h => h) (Or.inl ⟨by rfl, ?_⟩) ?_ ?_
  rotate_left
  · intro w'
    go_simp
    with_reducible rfl
  rotate_left
  · simp only [Act.put, List.setIfInBounds_toArray, List.set_cons_zero, List.set_cons_succ, i64_w, i32_w]
    rfl
  refine take_ (i := 13) (N := some 46) (v := ?_) (a' := ?_) #[true, true, true, true, true, true, true, true, true, true, true, true, true, true, false, false, false] rfl rfl (by kernel_rfl) (fun _ _ _ h => h) (Or.inl ⟨by rfl, ?_⟩) hHeld ?_ ?_
  rotate_left
  · rintro w' ⟨s0, s1⟩
    go_simp
    with_reducible rfl
  rotate_left
  · simp only [Act.put, List.setIfInBounds_toArray, List.set_cons_zero, List.set_cons_succ, i64_w, i32_w]
    rfl
  refine pure_ (i := 14) (N := some 47) (v := ?_) (a' := ?_) #[true, true, true, true, true, true, true, true, true, true, true, true, true, true, true, false, false] rfl rfl (by kernel_rfl) (fun _ _ _ h => h) (Or.inl ⟨by rfl, ?_⟩) ?_ ?_
  rotate_left
  · intro w'
    go_simp
    with_reducible rfl
  rotate_left
  · simp only [Act.put, List.setIfInBounds_toArray, List.set_cons_zero, List.set_cons_succ, i64_w, i32_w]
    rfl
  refine last_ (i := 15) (N := some 48) #[true, true, true, true, true, true, true, true, true, true, true, true, true, true, true, true, false] rfl rfl (by kernel_rfl) (by decide) (fun K hK => ?_)
  refine goes_ Try.func86 (by kernel_rfl) rfl #[.slice A3 m (c2 - at_)] (by rfl) rfl rfl (by (try simp only [List.map_toArray, List.map_cons, List.map_nil]); first | done | rfl) ?_
  refine (G.bytes_Clone.calls (n := m) A3 (c2 - at_) ((l.take (at_ + m)).drop at_) _ _ hC.out (by rw [hlen]; have := hcl.out; omega) (by unfold G.bytes_Clone.f; exact if_pos (by omega)) hlen.symm).mono ?_
  rintro e w3 ⟨v3, rfl, ho, hb⟩
  refine ⟨_, rfl, ?_⟩
  have hS3 := Aside0.mk (Sep.row_new hS2.out hb ho)
  clear ho hb
  refine hK.out _ _ ?_
  clear hK K
  refine norm_ (a' := ?_) ?_ ?_
  rotate_left
  · show Act.put _ (some 48) _ = _
    simp only [Act.put, List.setIfInBounds_toArray, List.set_cons_zero, List.set_cons_succ, i64_w, i32_w]
    rfl
  refine pure_ (i := 16) (N := some 4) (v := ?_) (a' := ?_) #[true, true, true, true, true, true, true, true, true, true, true, true, true, true, true, true, true] rfl rfl (by kernel_rfl) (fun _ _ _ h => h) (Or.inl ⟨by rfl, ?_⟩) ?_ ?_
  rotate_left
  · intro w'
    go_simp
    with_reducible rfl
  rotate_left
  · simp only [Act.put, List.setIfInBounds_toArray, List.set_cons_zero, List.set_cons_succ, i64_w, i32_w]
    rfl
  refine done_ (by kernel_rfl) ?_
  go_wp2
  go_ret
  exact ⟨_, rfl, hS3.out⟩

end Go.Proofs.Ytlakjninlpiedaa.Sep
