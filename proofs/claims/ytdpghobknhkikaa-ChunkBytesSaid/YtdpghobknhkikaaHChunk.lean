/- Contract of (*chunk.Cutter).one and Write. -/
import Derived.Test.YtdpghobknhkikaaGx3
import Derived.StillTailTactics
import Derived.Outline
import Derived.Lib.Hide
namespace Go.Proofs.Ytdpghobknhkikaa.G
open Go.RowKit Go.Proofs.YtdpghobknhkikaaW.PrintWords Go.Proofs.YtdpghobknhkikaaW.PrintLast Go.Proofs.YtdpghobknhkikaaW.PrintMore
attribute [local go_sem] max2_int min2_int max_two min_two max_three min_three max_four min_four
set_option linter.unusedVariables false
set_option linter.unusedSimpArgs false

theorem keep_mid {w W W1 : World} {g : Nat} (h : KeepBut w W g none) (hb : Below w.heap.size W W1) : KeepBut w W1 g none :=
  ⟨Nat.le_trans h.1 hb.size, fun i hi hg hr => (hb.block i hi).trans (h.2 i hi hg hr)⟩

theorem R_old {α : Type} {d : Kd α} {e : Nat} {W : World} {B : Nat} {ok : Nat → Prop} {v : Value} {xs : List α} (h : Kd.R d e W B ok v xs) {p : Addr} (hp : p.block < B) (u : Value) : Kd.R d e (W.setCell p u) B ok v xs :=
  Kd.R_mono (Kd.R_far (Kd.R_bound h) (fun k hk => by have := hk.2.1; omega) u) (fun _ hk => hk.1)

def chunk_Cutter_one.f (size seg at_ from_ x : Int) (l : List S55) : Option ((List S55) × Int × Int × Int × Int) :=
  if l.length < 1000000000000 then
    (if wrap64 (at_ + 1) = size then some (if x = 0 then l ++ [⟨seg, from_, at_⟩] else l, size, IntKind.u64.wrap (seg + 1), 0, 0)
     else some (if x = 0 then l ++ [⟨seg, from_, at_⟩] else l, size, seg, wrap64 (at_ + 1), if x = 0 then wrap64 (at_ + 1) else from_))
  else none

/-- The end of 'one', behind the nought's work. -/
def OnePost (w0 w : World) (g : Nat) (r : Option ((List S55) × Int × Int × Int × Int)) (e : Ending) (W' : World) : Prop :=
  ∃ (v' : Value) (l' : List S55) (a b c d : Int), r = some (l', a, b, c, d) ∧ e = .returned v' ∧ Kd.R k55 55 W' w.heap.size (fun _ => True) v' l' ∧
    W'.heap[g]? = some (.cells #[.int .i64 a, .int .u64 b, .int .i64 c, .int .i64 d] 82 (0, 0)) ∧ Below w0.heap.size w0 W' ∧ KeepBut w W' g none

set_option maxHeartbeats 2000000 in
set_option maxRecDepth 100000 in
theorem chunk_one_calls (g : Nat) (size seg at_ from_ x : Int) (l : List S55) (v : Value) (w0 w W : World) (hg : g < w.heap.size) (hg0 : w0.heap.size ≤ g)
    (hblk : W.heap[g]? = some (.cells #[.int .i64 size, .int .u64 seg, .int .i64 at_, .int .i64 from_] 82 (0, 0)))
    (HO : Kd.R k55 55 W w.heap.size (fun _ => True) v l) (HB : Below w0.heap.size w0 W) (HK : KeepBut w W g none) (hl : l.length < 1000000000000) :
    Calls Try.prog 43 #[.pointer (some ⟨g, 0, none⟩), .int .u8 x, v] W (OnePost w0 w g (chunk_Cutter_one.f size seg at_ from_ x l)) := by
  have c0 : W.cell? ⟨g, 0, none⟩ = some (.int .i64 size) := (blk_cell hblk 0).trans rfl
  have c1 : W.cell? ⟨g, 1, none⟩ = some (.int .u64 seg) := (blk_cell hblk 1).trans rfl
  have c2 : W.cell? ⟨g, 2, none⟩ = some (.int .i64 at_) := (blk_cell hblk 2).trans rfl
  have c3 : W.cell? ⟨g, 3, none⟩ = some (.int .i64 from_) := (blk_cell hblk 3).trans rfl
  have hw : w0.heap.size ≤ w.heap.size := by omega
  have fin : ∀ (s : Bool), (wrap64 (at_ + 1) == size) = s → chunk_Cutter_one.f size seg at_ from_ x l = if s then some (if x = 0 then l ++ [⟨seg, from_, at_⟩] else l, size, IntKind.u64.wrap (seg + 1), 0, 0)
     else some (if x = 0 then l ++ [⟨seg, from_, at_⟩] else l, size, seg, wrap64 (at_ + 1), if x = 0 then wrap64 (at_ + 1) else from_) := by
    intro s hs
    unfold chunk_Cutter_one.f
    rw [if_pos hl]
    cases s
    · rw [if_neg (by simpa using hs)]; rfl
    · rw [if_pos (by simpa using hs)]; rfl
  have fin' := Lib.hid fin
  clear fin
  generalize chunk_Cutter_one.f size seg at_ from_ x l = R at *
  by_cases hx : x = 0
  · have hxb : (x == 0) = true := by simpa using hx
    rw [if_pos hx, if_pos hx] at fin'
    clear hx
    go_enter Try.func43, Try.ntmps43
    go_wp2
    have HO1 := Aside0.mk (Kd.R_drew HO)
    have HK1 := Aside0.mk (keep_drew HK)
    have HB1 := Aside0.mk (below_drew1 HB)
    have hb1 := Aside0.mk (blk_drew hblk)
    clear HO HK HB hblk
    refine start_ (n := 17) (S := fun w' => w'.cell? ⟨g, 1, none⟩ = some (.int .u64 seg) ∧ w'.cell? ⟨g, 2, none⟩ = some (.int .i64 at_) ∧ w'.cell? ⟨g, 3, none⟩ = some (.int .i64 from_)) (ds := [14, 15]) #[false, false, false, false, false, false, false, false, false, false, false, false, false, false, false, false, false] (by kernel_rfl) rfl rfl ⟨c1, c2, c3⟩ (fun hHeld => ?_)
    generalize W.drew = W1 at HO1 HK1 HB1 hb1 hHeld ⊢
    refine pure_ (i := 0) (N := some 9) (v := ?_) (a' := ?_) #[true, false, false, false, false, false, false, false, false, false, false, false, false, false, false, false, false] rfl rfl (by kernel_rfl) (fun _ _ _ h => h) (Or.inl ⟨by rfl, ?_⟩) ?_ ?_
    rotate_left
    · intro w'
      go_simp
      with_reducible rfl
    rotate_left
    · simp only [Act.put, List.setIfInBounds_toArray, List.set_cons_zero, List.set_cons_succ, i64_w, i32_w]
      rfl
    refine pure_ (i := 1) (N := some 10) (v := ?_) (a' := ?_) #[true, true, false, false, false, false, false, false, false, false, false, false, false, false, false, false, false] rfl rfl (by kernel_rfl) (fun _ _ _ h => h) (Or.inl ⟨by rfl, ?_⟩) ?_ ?_
    rotate_left
    · intro w'
      go_simp
      with_reducible rfl
    rotate_left
    · simp only [Act.put, List.setIfInBounds_toArray, List.set_cons_zero, List.set_cons_succ, i64_w, i32_w]
      rfl
    refine pure_ (i := 2) (N := some 11) (v := ?_) (a' := ?_) #[true, true, true, false, false, false, false, false, false, false, false, false, false, false, false, false, false] rfl rfl (by kernel_rfl) (fun _ _ _ h => h) (Or.inl ⟨by rfl, ?_⟩) ?_ ?_
    rotate_left
    · intro w'
      go_simp
      with_reducible rfl
    rotate_left
    · simp only [Act.put, List.setIfInBounds_toArray, List.set_cons_zero, List.set_cons_succ, i64_w, i32_w]
      rfl
    refine pure_ (i := 3) (N := some 12) (v := ?_) (a' := ?_) #[true, true, true, true, false, false, false, false, false, false, false, false, false, false, false, false, false] rfl rfl (by kernel_rfl) (fun _ _ _ h => h) (Or.inl ⟨by rfl, ?_⟩) ?_ ?_
    rotate_left
    · intro w'
      go_simp
      with_reducible rfl
    rotate_left
    · simp only [Act.put, List.setIfInBounds_toArray, List.set_cons_zero, List.set_cons_succ, i64_w, i32_w]
      rfl
    refine pure_ (i := 5) (N := some 14) (v := ?_) (a' := ?_) #[true, true, true, true, false, true, false, false, false, false, false, false, false, false, false, false, false] rfl rfl (by kernel_rfl) (fun _ _ _ h => h) (Or.inl ⟨by rfl, ?_⟩) ?_ ?_
    rotate_left
    · intro w'
      go_simp
      with_reducible rfl
    rotate_left
    · simp only [Act.put, List.setIfInBounds_toArray, List.set_cons_zero, List.set_cons_succ, i64_w, i32_w]
      rfl
    refine pure_ (i := 6) (N := some 15) (v := ?_) (a' := ?_) #[true, true, true, true, false, true, true, false, false, false, false, false, false, false, false, false, false] rfl rfl (by kernel_rfl) (fun _ _ _ h => h) (Or.inl ⟨by rfl, ?_⟩) ?_ ?_
    rotate_left
    · intro w'
      go_simp
      with_reducible rfl
    rotate_left
    · simp only [Act.put, List.setIfInBounds_toArray, List.set_cons_zero, List.set_cons_succ, i64_w, i32_w]
      rfl
    refine pure_ (i := 7) (N := some 16) (v := ?_) (a' := ?_) #[true, true, true, true, false, true, true, true, false, false, false, false, false, false, false, false, false] rfl rfl (by kernel_rfl) (fun _ _ _ h => h) (Or.inl ⟨by rfl, ?_⟩) ?_ ?_
    rotate_left
    · intro w'
      go_simp
      with_reducible rfl
    rotate_left
    · simp only [Act.put, List.setIfInBounds_toArray, List.set_cons_zero, List.set_cons_succ, i64_w, i32_w]
      rfl
    refine pure_ (i := 9) (N := some 18) (v := ?_) (a' := ?_) #[true, true, true, true, false, true, true, true, false, true, false, false, false, false, false, false, false] rfl rfl (by kernel_rfl) (fun _ _ _ h => h) (Or.inl ⟨by rfl, ?_⟩) ?_ ?_
    rotate_left
    · intro w'
      go_simp
      with_reducible rfl
    rotate_left
    · simp only [Act.put, List.setIfInBounds_toArray, List.set_cons_zero, List.set_cons_succ, i64_w, i32_w]
      rfl
    refine pure_ (i := 10) (N := some 19) (v := ?_) (a' := ?_) #[true, true, true, true, false, true, true, true, false, true, true, false, false, false, false, false, false] rfl rfl (by kernel_rfl) (fun _ _ _ h => h) (Or.inl ⟨by rfl, ?_⟩) ?_ ?_
    rotate_left
    · intro w'
      go_simp
      with_reducible rfl
    rotate_left
    · simp only [Act.put, List.setIfInBounds_toArray, List.set_cons_zero, List.set_cons_succ, i64_w, i32_w]
      rfl
    refine pure_ (i := 11) (N := some 20) (v := ?_) (a' := ?_) #[true, true, true, true, false, true, true, true, false, true, true, true, false, false, false, false, false] rfl rfl (by kernel_rfl) (fun _ _ _ h => h) (Or.inl ⟨by rfl, ?_⟩) ?_ ?_
    rotate_left
    · intro w'
      go_simp
      with_reducible rfl
    rotate_left
    · simp only [Act.put, List.setIfInBounds_toArray, List.set_cons_zero, List.set_cons_succ, i64_w, i32_w]
      rfl
    refine take_ (i := 4) (N := some 13) (v := ?_) (a' := ?_) #[true, true, true, true, true, true, true, true, false, true, true, true, false, false, false, false, false] rfl rfl (by kernel_rfl) (fun _ _ _ h => h) (Or.inl ⟨by rfl, ?_⟩) hHeld ?_ ?_
    rotate_left
    · rintro w' ⟨s0, s1, s2⟩
      go_simp
      with_reducible rfl
    rotate_left
    · simp only [Act.put, List.setIfInBounds_toArray, List.set_cons_zero, List.set_cons_succ, i64_w, i32_w]
      rfl
    refine take_ (i := 8) (N := some 17) (v := ?_) (a' := ?_) #[true, true, true, true, true, true, true, true, true, true, true, true, false, false, false, false, false] rfl rfl (by kernel_rfl) (fun _ _ _ h => h) (Or.inl ⟨by rfl, ?_⟩) hHeld ?_ ?_
    rotate_left
    · rintro w' ⟨s0, s1, s2⟩
      go_simp
      with_reducible rfl
    rotate_left
    · simp only [Act.put, List.setIfInBounds_toArray, List.set_cons_zero, List.set_cons_succ, i64_w, i32_w]
      rfl
    refine take_ (i := 12) (N := some 21) (v := ?_) (a' := ?_) #[true, true, true, true, true, true, true, true, true, true, true, true, true, false, false, false, false] rfl rfl (by kernel_rfl) (fun _ _ _ h => h) (Or.inl ⟨by rfl, ?_⟩) hHeld ?_ ?_
    rotate_left
    · rintro w' ⟨s0, s1, s2⟩
      go_simp
      with_reducible rfl
    rotate_left
    · simp only [Act.put, List.setIfInBounds_toArray, List.set_cons_zero, List.set_cons_succ, i64_w, i32_w]
      rfl
    refine pure_ (i := 13) (N := some 22) (v := ?_) (a' := ?_) #[true, true, true, true, true, true, true, true, true, true, true, true, true, true, false, false, false] rfl rfl (by kernel_rfl) (fun _ _ _ h => h) (Or.inl ⟨by rfl, ?_⟩) ?_ ?_
    rotate_left
    · intro w'
      go_simp
      with_reducible rfl
    rotate_left
    · simp only [Act.put, List.setIfInBounds_toArray, List.set_cons_zero, List.set_cons_succ, i64_w, i32_w]
      rfl
    refine last_ (i := 14) (N := some 23) #[true, true, true, true, true, true, true, true, true, true, true, true, true, true, true, false, false] rfl rfl (by kernel_rfl) (by decide) (fun K hK => ?_)
    refine value_ (w1 := ?_) (v := ?_) (by rfl) rfl ?_ ?_
    rotate_left 2
    · go_simp
      constructor
      · rfl
      · rfl
    refine hK.out _ _ ?_
    clear hK K
    refine norm_ (a' := ?_) ?_ ?_
    rotate_left
    · show Act.put _ (some 23) _ = _
      simp only [Act.put, List.setIfInBounds_toArray, List.set_cons_zero, List.set_cons_succ, i64_w, i32_w]
      rfl
    refine last_ (i := 15) (N := some 24) #[true, true, true, true, true, true, true, true, true, true, true, true, true, true, true, true, false] rfl rfl (by kernel_rfl) (by decide) (fun K hK => ?_)
    refine Kd.R_append_step k55 (w0 := W1) w.heap.size (by rfl) (.tmp 9) (.tmp 23) 24 55 (.agg #[.int .u64 0, .int .i64 0, .int .i64 0]) 24 rfl Try.underlying24 info55 rfl (by decide) (by omega) v l ⟨seg, from_, at_⟩ [.int .u64 seg, .int .i64 from_, .int .i64 at_] (fun _ => True) (fun _ => False) rfl rfl ?aP (fun _ hk => hk.elim) ?aF ?aO ?aB ?aS ?aL ?_
    (case aP => exact k55_mkM _ _ _ _)
    (case aF => exact fun _ _ => trivial)
    (case aO => exact HO1.out)
    (case aB => exact Below.refl _ _)
    (case aS => exact HK1.out.1)
    (case aL => omega)
    intro v1 w1 ho hb hg1 hat
    refine hK.out _ _ ?_
    clear hK K
    refine norm_ (a' := ?_) ?_ ?_
    rotate_left
    · show Act.put _ (some 24) _ = _
      simp only [Act.put, List.setIfInBounds_toArray, List.set_cons_zero, List.set_cons_succ, i64_w, i32_w]
      rfl
    refine pure_ (i := 16) (N := some 2) (v := ?_) (a' := ?_) #[true, true, true, true, true, true, true, true, true, true, true, true, true, true, true, true, true] rfl rfl (by kernel_rfl) (fun _ _ _ h => h) (Or.inl ⟨by rfl, ?_⟩) ?_ ?_
    rotate_left
    · intro w'
      go_simp
      with_reducible rfl
    rotate_left
    · simp only [Act.put, List.setIfInBounds_toArray, List.set_cons_zero, List.set_cons_succ, i64_w, i32_w]
      rfl
    refine done_ (by kernel_rfl) ?_
    have hblk := (hb.block g hg).trans hb1.out
    have HO2 := Aside0.mk ho
    have HK2 := Aside0.mk (keep_mid HK1.out hb)
    have HB2 := Aside0.mk (below_weaken HB1.out hw hb)
    clear ho hb hg1 hat HO1 HK1 HB1 hb1 c0 c1 c2 c3
    have c0 : w1.cell? ⟨g, 0, none⟩ = some (.int .i64 size) := (blk_cell hblk 0).trans rfl
    have c1 : w1.cell? ⟨g, 1, none⟩ = some (.int .u64 seg) := (blk_cell hblk 1).trans rfl
    have c2 : w1.cell? ⟨g, 2, none⟩ = some (.int .i64 at_) := (blk_cell hblk 2).trans rfl
    have c3 : w1.cell? ⟨g, 3, none⟩ = some (.int .i64 from_) := (blk_cell hblk 3).trans rfl
    have f1 := blk_frozen hblk 1
    have f2 := blk_frozen hblk 2
    have f3 := blk_frozen hblk 3
    have hblk' := Lib.hid hblk
    clear hblk
    cases hs : (wrap64 (at_ + 1) == size) with
    | false =>
      have fin1 := fin'.out _ hs
      simp only [Bool.false_eq_true, if_false, if_true] at fin1
      have fin2 := Lib.hid fin1
      clear fin1
      clear fin'
      go_wp2
      go_quiet (fail)
      go_wp2
      go_ret
      refine ⟨_, _, _, _, _, _, fin2.out, rfl, ?_, ?_, ?_, ?_⟩
      · (with_reducible repeat (first | refine R_old ?_ hg _ | refine Kd.R_drewN ?_ _)); exact HO2.out
      · exact blk_drewN (blk_put (blk_put hblk'.out 3 _ rfl) 2 _ rfl) _
      · (with_reducible repeat (first | refine below_set ?_ hg0 | refine pw_below_drewN ?_ _)); exact HB2.out
      · (with_reducible repeat (first | refine KeepBut.set_ ?_ _ _ | refine keep_drewN ?_ _)); exact HK2.out
    | true =>
      have fin1 := fin'.out _ hs
      simp only [Bool.false_eq_true, if_false, if_true] at fin1
      have fin2 := Lib.hid fin1
      clear fin1
      clear fin'
      go_wp2
      go_quiet (fail)
      go_wp2
      go_ret
      refine ⟨_, _, _, _, _, _, fin2.out, rfl, ?_, ?_, ?_, ?_⟩
      · (with_reducible repeat (first | refine R_old ?_ hg _ | refine Kd.R_drewN ?_ _)); exact HO2.out
      · exact blk_put (blk_put (blk_put (blk_drewN (blk_put (blk_put hblk'.out 3 _ rfl) 2 _ rfl) _) 1 _ rfl) 2 _ rfl) 3 _ rfl
      · (with_reducible repeat (first | refine below_set ?_ hg0 | refine pw_below_drewN ?_ _)); exact HB2.out
      · (with_reducible repeat (first | refine KeepBut.set_ ?_ _ _ | refine keep_drewN ?_ _)); exact HK2.out
  · have hxb : (x == 0) = false := by simpa using hx
    rw [if_neg hx, if_neg hx] at fin'
    clear hx
    have f2 := blk_frozen hblk 2
    have f1 := blk_frozen hblk 1
    have f3 := blk_frozen hblk 3
    have HO2 := Aside0.mk HO
    have HK2 := Aside0.mk HK
    have HB2 := Aside0.mk HB
    have hblk' := Lib.hid hblk
    clear HO HK HB hblk
    cases hs : (wrap64 (at_ + 1) == size) with
    | false =>
      have fin1 := fin'.out _ hs
      simp only [Bool.false_eq_true, if_false, if_true] at fin1
      have fin2 := Lib.hid fin1
      clear fin1
      clear fin'
      go_enter Try.func43, Try.ntmps43
      go_wp2
      go_quiet (fail)
      go_wp2
      go_ret
      refine ⟨_, _, _, _, _, _, fin2.out, rfl, ?_, ?_, ?_, ?_⟩
      · (with_reducible repeat (first | refine R_old ?_ hg _ | refine Kd.R_drewN ?_ _)); exact HO2.out
      · exact blk_drewN (blk_put hblk'.out 2 _ rfl) _
      · (with_reducible repeat (first | refine below_set ?_ hg0 | refine pw_below_drewN ?_ _)); exact HB2.out
      · (with_reducible repeat (first | refine KeepBut.set_ ?_ _ _ | refine keep_drewN ?_ _)); exact HK2.out
    | true =>
      have fin1 := fin'.out _ hs
      simp only [Bool.false_eq_true, if_false, if_true] at fin1
      have fin2 := Lib.hid fin1
      clear fin1
      clear fin'
      go_enter Try.func43, Try.ntmps43
      go_wp2
      go_quiet (fail)
      go_wp2
      go_ret
      refine ⟨_, _, _, _, _, _, fin2.out, rfl, ?_, ?_, ?_, ?_⟩
      · (with_reducible repeat (first | refine R_old ?_ hg _ | refine Kd.R_drewN ?_ _)); exact HO2.out
      · exact blk_put (blk_put (blk_put (blk_drewN (blk_put hblk'.out 2 _ rfl) _) 1 _ rfl) 2 _ rfl) 3 _ rfl
      · (with_reducible repeat (first | refine below_set ?_ hg0 | refine pw_below_drewN ?_ _)); exact HB2.out
      · (with_reducible repeat (first | refine KeepBut.set_ ?_ _ _ | refine keep_drewN ?_ _)); exact HK2.out

/-! ### chunk_Cutter_Write: function 19 -/
def chunk_Cutter_Write.l0 : Nat → List (S55) → List Int → Int → Int → Int → Int → Int → Int → Option ((List (S55)) × Int × Int × Int × Int)
  | 0, _, _, _, _, _, _, _, _ => none
  | k + 1, x5, x8, x9, x10, x1000, x1001, x1002, x1003 => if x10 < x9 then (if 0 ≤ x10 then (if x10 < (x8.length : Int) then ((chunk_Cutter_one.f x1000 x1001 x1002 x1003 (rd x8 x10) x5).bind fun bt103 => (chunk_Cutter_Write.l0 k bt103.1 x8 x9 (wrap64 (x10 + 1)) bt103.2.1 bt103.2.2.1 bt103.2.2.2.1 bt103.2.2.2.2)) else (none)) else (none)) else (some (x5, x1000, x1001, x1002, x1003))
def chunk_Cutter_Write.f (k : Nat) (s0_0 : Int) (s0_1 : Int) (s0_2 : Int) (s0_3 : Int) (l1 : List Int) : Option ((List (S55)) × Int × Int × Int × Int) := chunk_Cutter_Write.l0 k ([] : List (S55)) l1 (l1.length : Int) 0 s0_0 s0_1 s0_2 s0_3
theorem chunk_Cutter_Write.mono_l : ∀ k, (∀ y0 y1 y2 y3 y4 y5 y6 y7, LeO (chunk_Cutter_Write.l0 k y0 y1 y2 y3 y4 y5 y6 y7) (chunk_Cutter_Write.l0 (k + 1) y0 y1 y2 y3 y4 y5 y6 y7))
  | 0 => fun _ _ _ _ _ _ _ _ r h => by simp [chunk_Cutter_Write.l0] at h
  | k + 1 => by
    have ih0 := chunk_Cutter_Write.mono_l k
    · intro y0 y1 y2 y3 y4 y5 y6 y7
      unfold chunk_Cutter_Write.l0
      repeat' first
      | (with_reducible exact ih0 _ _ _ _ _ _ _ _)
      | (with_reducible exact LeO.refl _)
      | (with_reducible exact LeO.none _)
      | (with_reducible refine LeO.ite ?_ ?_)
      | (with_reducible refine LeO.bind ?_ (fun _ => ?_))
      | exact ih0 _ _ _ _ _ _ _ _
      | exact LeO.none _
      | refine LeO.ite ?_ ?_
      | refine LeO.bind ?_ (fun _ => ?_)
theorem chunk_Cutter_Write.mono : ∀ a0 a1 a2 a3 a4 k, LeO (chunk_Cutter_Write.f k a0 a1 a2 a3 a4) (chunk_Cutter_Write.f (k + 1) a0 a1 a2 a3 a4) := by
  intro a0 a1 a2 a3 a4 k
  have ih0 := chunk_Cutter_Write.mono_l k
  unfold chunk_Cutter_Write.f
  repeat' first
      | (with_reducible exact ih0 _ _ _ _ _ _ _ _)
      | (with_reducible exact LeO.refl _)
      | (with_reducible exact LeO.none _)
      | (with_reducible refine LeO.ite ?_ ?_)
      | (with_reducible refine LeO.bind ?_ (fun _ => ?_))
      | exact ih0 _ _ _ _ _ _ _ _
      | exact LeO.none _
      | refine LeO.ite ?_ ?_
      | refine LeO.bind ?_ (fun _ => ?_)
set_option maxHeartbeats 8000000 in
set_option maxRecDepth 100000 in
theorem chunk_Cutter_Write.calls (k : Nat) (g : Nat) (s0_0 : Int) (s0_1 : Int) (s0_2 : Int) (s0_3 : Int) (A1 : Option Addr) (c1 : Nat) (l1 : List Int) (r1 : List (S55)) (r2 : Int) (r3 : Int) (r4 : Int) (r5 : Int) (w0 w : World) (hI : IsS82 w0 w g s0_0 s0_1 s0_2 s0_3) (hB : Below w0.heap.size w0 w) (hr1 : Kd.C (Kd.int .u8) w A1 l1.length l1) (hc1 : l1.length ≤ c1) (hf1 : ∀ ad, A1 = some ad → 0 < l1.length → ad.block ≠ g) (h : chunk_Cutter_Write.f k s0_0 s0_1 s0_2 s0_3 l1 = some (r1, r2, r3, r4, r5)) :
    Calls Try.prog 19 #[.pointer (some ⟨g, 0, none⟩), .slice A1 l1.length c1] w fun e w' => ∃ v0_ : Value, e = .returned (v0_) ∧ Kd.R k55 55 w' w.heap.size (fun _ => True) v0_ r1 ∧ IsS82 w0 w' g r2 r3 r4 r5 ∧ Below w0.heap.size w0 w' ∧ KeepBut w w' g none := by
  have HR1 := Aside0.mk hr1
  have HC1 := Aside0.mk hc1
  clear hr1 hc1
  have HI0 := Aside0.mk hI
  have HG := Aside0.mk hI.lt
  have HG0 := Aside0.mk hI.ge
  have HK := Aside0.mk (KeepBut.refl w g none)
  have HL := Aside0.mk hB.size
  clear hI
  have HW0 := Aside0.mk hB.size
  have HB := Aside0.mk hB
  clear hB
  have H : (chunk_Cutter_Write.l0 k ([] : List (S55)) l1 (l1.length : Int) 0 s0_0 s0_1 s0_2 s0_3) = some (r1, r2, r3, r4, r5) := h
  clear h
  have H' := Aside0.mk H
  clear H
  go_enter Try.func19, Try.ntmps19
  go_wp2
  go_loopg [5, 10] k (fun kq v5 v10 w' => ∃ (x5_1 : List (S55)) (x10_1 : Int) (x1000_1 : Int) (x1001_1 : Int) (x1002_1 : Int) (x1003_1 : Int), v10 = .int .i64 x10_1 ∧ Aside0 (chunk_Cutter_Write.l0 kq x5_1 l1 (l1.length : Int) x10_1 x1000_1 x1001_1 x1002_1 x1003_1 = some (r1, r2, r3, r4, r5)) ∧ Aside0 (kq ≤ k) ∧ Aside0 (Kd.R k55 55 w' w.heap.size (fun _ => True) v5 x5_1) ∧ Aside0 (IsS82 w0 w' g x1000_1 x1001_1 x1002_1 x1003_1) ∧ Aside0 (KeepBut w w' g none) ∧ Aside0 (Below w0.heap.size w0 w'))
  case atStart => exact ⟨(([] : List (S55))), (0), (s0_0), (s0_1), (s0_2), (s0_3), (by first | rfl | (simp; done) | (simp [*]; done)), H', ⟨Nat.le_refl _⟩, ⟨by first | exact Kd.R_nil _ _ _ _ _ | exact Kd.N_nil _ _ _ _ _ | exact Kd.V_nil _ _ _ _ _ | exact Kd.Q_nil _ _ _ _ _ | exact Kd.S_nil _ _ _ _ _⟩, ⟨by repeat (first | (with_reducible first | exact HI0.out | apply IsS82.alloc | apply IsS82.drewN | apply IsS82.drew | apply IsS82.set_0 | apply IsS82.set_1 | apply IsS82.set_2 | apply IsS82.set_3) | exact HI0.out)⟩, ⟨by repeat (first | (with_reducible first | exact HK.out | apply KeepBut.set_ | apply keep_drewN | apply keep_drew | apply keep_alloc) | exact HK.out)⟩, ⟨by repeat (first | (with_reducible first | exact HB.out | apply below_alloc | apply pw_below_drewN | apply below_drew1 | refine below_set ?_ (IsS82.ge HI0.out)) | exact HB.out)⟩⟩
  case round =>
    clear H'
    try clear c1
    try clear p2
    obtain ⟨x5_1, x10_1, x1000_1, x1001_1, x1002_1, x1003_1, rfl, HA, HK1, HO_5, HI0, HK, HB⟩ := hrel
    cases gk with
    | zero => exact absurd HA.out (by simp [chunk_Cutter_Write.l0])
    | succ k1 =>
      have H := HA.out
      clear HA
      simp only [chunk_Cutter_Write.l0] at H
      by_cases c3 : x10_1 < (l1.length : Int)
      · rw [if_pos c3] at H
        have c3b0 : decide (x10_1 < (l1.length : Int)) = true := decide_eq_true c3
        clear c3
        by_cases c4 : 0 ≤ x10_1
        · rw [if_pos c4] at H
          have c4b0 : decide (0 ≤ x10_1) = true := decide_eq_true c4
          clear c4
          by_cases c5 : x10_1 < (l1.length : Int)
          · rw [if_pos c5] at H
            have c5b0 : decide (x10_1 < (l1.length : Int)) = true := decide_eq_true c5
            clear c5
            replace H := Option.bind_eq_some_iff.mp H
            obtain ⟨⟨t103, t106, t107, t108, t109⟩, A60, H⟩ := H
            replace H : (chunk_Cutter_Write.l0 k1 t103 l1 (l1.length : Int) (wrap64 (x10_1 + 1)) t106 t107 t108 t109) = some (r1, r2, r3, r4, r5) := H
            have A6 := Aside0.mk A60
            clear A60
            have H' := Aside0.mk H
            clear H
            have p102 : 0 ≤ (x10_1 : Int) := of_decide_eq_true (by first | (with_reducible assumption) | assumption)
            have q102 : x10_1 < (l1.length : Int) := of_decide_eq_true (by first | (with_reducible assumption) | assumption)
            obtain ⟨ad102, e102, hx102_0⟩ := Kd.at_int HR1.out x10_1 p102 q102
            cases e102
            replace hx102_0 := keep_cell HK.out hx102_0 (by first | (rw [add_block]; exact hf1 _ rfl (by omega)) | exact hf1 _ rfl (by omega) | exact hf1 ad102 rfl (by omega))
            replace p102 := eq_true p102
            replace q102 := eq_true q102
            obtain ⟨Ao7, co7, eo7⟩ := Kd.R_slice HO_5.out
            subst eo7
            have hlt5 : x5_1.length < 1000000000000 := by
              have h6 := A6.out
              unfold chunk_Cutter_one.f at h6
              by_cases hh : x5_1.length < 1000000000000
              · exact hh
              · rw [if_neg hh] at h6
                cases h6
            go_wp2_with (first | ((with_reducible refine gate_callee (f := 43) rfl ?_); refine goesL_ (some 17) rfl rfl Try.func43 (by kernel_rfl) rfl #[.pointer (some ⟨g, 0, none⟩), .int .u8 (rd l1 x10_1), .slice Ao7 x5_1.length co7] rfl (by (try simp only [List.map_toArray, List.map_cons, List.map_nil]); first | done | rfl | (simp only [List.length_drop, List.length_take]; rfl)) ?_; (with_reducible refine (chunk_one_calls g x1000_1 x1001_1 x1002_1 x1003_1 (rd l1 x10_1) x5_1 (.slice Ao7 x5_1.length co7) w0 w _ HG.out HG0.out ?side1 ?side2 ?side3 ?side4 hlt5).mono ?_); (case side1 => exact HI0.out.1); (case side2 => exact HO_5.out); (case side3 => exact HB.out); (case side4 => exact HK.out); rintro e w3 ⟨v103, l103, q106, q107, q108, q109, hr_, rfl, ho, hi, hb, hk⟩; rw [A6.out] at hr_; simp only [Option.some.injEq, Prod.mk.injEq] at hr_; obtain ⟨rfl, rfl, rfl, rfl, rfl⟩ := hr_; refine ⟨_, rfl, ?_⟩; have n0_ := Aside0.mk ho; have n2_ := Aside0.mk hk; have n3_ := Aside0.mk hb; have n4_ := Aside0.mk (show IsS82 w0 w3 g _ _ _ _ from ⟨hi, HG0.out⟩); clear HO_5; clear HK; clear HB; clear HI0; have HO105 := n0_; have HK := n2_; have HB := n3_; have HI0 := n4_; clear n0_ n2_ n3_ n4_; clear hb hk hi ho))
            go_roundg k1
            case measure => have := HK1.out; omega
            case rel => exact ⟨(t103), (wrap64 (x10_1 + 1)), (t106), (t107), (t108), (t109), (by first | rfl | (simp; done) | (simp [*]; done)), H', ⟨by have := HK1.out; omega⟩, ⟨by (with_reducible repeat (first | apply Kd.R_alloc | apply Kd.R_drewN | apply Kd.R_drew)); exact Kd.R_mono HO105.out (fun _ hk => trivial)⟩, ⟨by repeat (first | (with_reducible first | exact HI0.out | apply IsS82.alloc | apply IsS82.drewN | apply IsS82.drew | apply IsS82.set_0 | apply IsS82.set_1 | apply IsS82.set_2 | apply IsS82.set_3) | exact HI0.out)⟩, ⟨by repeat (first | (with_reducible first | exact HK.out | apply KeepBut.set_ | apply keep_drewN | apply keep_drew | apply keep_alloc) | exact HK.out)⟩, ⟨by repeat (first | (with_reducible first | exact HB.out | apply below_alloc | apply pw_below_drewN | apply below_drew1 | refine below_set ?_ (IsS82.ge HI0.out)) | exact HB.out)⟩⟩
          · rw [if_neg c5] at H
            exact absurd H (by simp)
        · rw [if_neg c4] at H
          exact absurd H (by simp)
      · rw [if_neg c3] at H
        have c3b0 : decide (x10_1 < (l1.length : Int)) = false := decide_eq_false c3
        clear c3
        simp only [Option.some.injEq, Prod.mk.injEq] at H
        obtain ⟨rfl, rfl, rfl, rfl, rfl⟩ := H
        go_wp2
        go_ret
        exact ⟨_, by first | rfl | (simp [errW_none, errW_some] <;> rfl) | (simp [*, errW_none, errW_some] <;> rfl), by (with_reducible repeat (first | apply Kd.R_alloc | apply Kd.R_drewN | apply Kd.R_drew)); exact HO_5.out, by repeat (first | (with_reducible first | exact HI0.out | apply IsS82.alloc | apply IsS82.drewN | apply IsS82.drew | apply IsS82.set_0 | apply IsS82.set_1 | apply IsS82.set_2 | apply IsS82.set_3) | exact HI0.out), by repeat (first | (with_reducible first | exact HB.out | apply below_alloc | apply pw_below_drewN | apply below_drew1 | refine below_set ?_ (IsS82.ge HI0.out)) | exact HB.out), by repeat (first | (with_reducible first | exact HK.out | apply KeepBut.set_ | apply keep_drewN | apply keep_drew | apply keep_alloc) | exact HK.out)⟩


end Go.Proofs.Ytdpghobknhkikaa.G
